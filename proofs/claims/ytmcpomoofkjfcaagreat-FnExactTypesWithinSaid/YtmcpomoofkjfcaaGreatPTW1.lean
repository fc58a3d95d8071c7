/- Plain laws of the printed functions. -/
import Derived.Test.YtmcpomoofkjfcaaGreatPTW0
set_option linter.unusedSimpArgs false
set_option linter.unusedVariables false
namespace Go.Am
theorem Kwt (k:Nat) (h:k ≤ 1048576):Kdt (k:Int)=some (Kvr (List.replicate k 0)):=by
 unfold Kdt
 rw [Int.toNat_natCast,Kv7 (by constructor <;> omega),bs]
 unfold Kvr
 rw [List.map_replicate]
 rfl
theorem Kwu (ctx front:List (List Int)) (h:ctx.length + front.length ≤ 1048576):Kdz (ctx,front)=some (front ++ ctx):=by
 unfold Kdz
 simp only
 rw [Kt0 (by simp; omega),bs,Kt0 (by omega),bs]
theorem Kwv (ps:List (List Int)) (hp:ps.length ≤ 1099511627776):∀ (l:List (List Int)) (i:Nat) (out:List Int),ps.drop i=l→out.length + l.flatten.length ≤ 1099511627776→Ke6 (ps,out,(i:Int))=some (out ++ l.flatten):=by
 intro l
 induction l with
 | nil =>
  intro i out hd _
  rw [Ke6.eq_def]
  simp only
  rw [Kpk (Kqy hd)]
  simp
 | cons x l ih =>
  intro i out hd ho
  obtain ⟨h1,h2,h3⟩:=Kqx hd
  rw [List.flatten_cons,List.length_append] at ho
  rw [Ke6.eq_def]
  simp only
  rw [Kpj h1,if_pos rfl,h2,bs,Kt0 (by omega),bs,Kpi (by omega),ih (i + 1) _ h3 (by rw [List.length_append]; omega),List.flatten_cons,List.append_assoc]
theorem Kww (c:Int) (ps:List (List Int)) (hp:ps.length ≤ 1048576) (h:ps.flatten.length ≤ 1048576):Ke9 (c,ps)=some (c :: ps.flatten):=by
 unfold Ke9
 simp only
 rw [show (0:Int)=((0:Nat):Int) from rfl,Kwv ps (by omega) ps 0 [c] rfl (by rw [List.length_singleton]; omega)]
 rfl
theorem Kwx (ps:List (List (Int))) (hp:ps.length ≤ 1099511627776):∀ (l:List (List (Int))) (i sz:Nat),ps.drop i=l→sz + l.flatten.length ≤ 1099511627776→Kkr (ps,(sz:Int),(i:Int))=some (((sz + l.flatten.length:Nat)):Int):=by
 intro l
 induction l with
 | nil =>
  intro i sz hd _
  rw [Kkr.eq_def]
  simp only
  rw [Kpk (Kqy hd)]
  simp
 | cons x l ih =>
  intro i sz hd ho
  obtain ⟨h1,h2,h3⟩:=Kqx hd
  rw [List.flatten_cons,List.length_append] at ho
  have e:wr ((sz:Int) + (x.length:Int))=((sz + x.length:Nat):Int):=Ku8 (by omega) (by omega)
  rw [Kkr.eq_def]
  simp only
  rw [Kpj h1,if_pos rfl,h2,bs,e,decide_eq_false (by omega),if_neg (by decide),bs,Kpi (by omega),ih (i + 1) _ h3 (by omega),List.flatten_cons,List.length_append,Nat.add_assoc]
theorem Kwy (ps:List (List (Int))) (hp:ps.length ≤ 1099511627776):∀ (l:List (List (Int))) (i:Nat) (out:List (Int)),ps.drop i=l→out.length + l.flatten.length ≤ 1099511627776→Kkv (ps,out,(i:Int))=some (out ++ l.flatten):=by
 intro l
 induction l with
 | nil =>
  intro i out hd _
  rw [Kkv.eq_def]
  simp only
  rw [Kpk (Kqy hd)]
  simp
 | cons x l ih =>
  intro i out hd ho
  obtain ⟨h1,h2,h3⟩:=Kqx hd
  rw [List.flatten_cons,List.length_append] at ho
  rw [Kkv.eq_def]
  simp only
  rw [Kpj h1,if_pos rfl,h2,bs,Kt0 (by omega),bs,Kpi (by omega),ih (i + 1) _ h3 (by rw [List.length_append]; omega),List.flatten_cons,List.append_assoc]
theorem Kwz (k:Nat) (h:k ≤ 1048576):Kkn (k:Int)=some ():=by
 unfold Kkn
 have e:wr ((k:Int) - wr (0 - 0))=(k:Int):=by rw [Kpg (x:=0 - 0) (by decide) (by decide),Kpg (by omega) (by omega)]; omega
 rw [decide_eq_false (by omega),if_neg (by decide),e]
 by_cases hk:k=0
 ·subst hk; rfl
 ·rw [decide_eq_true (by omega),if_pos rfl,Int.toNat_natCast,Kv7 (by constructor <;> omega),bs]
theorem Kx0 (ps:List (List (Int))) (hp:ps.length ≤ 1048576) (h:ps.flatten.length ≤ 1048576):Kky ps=some ps.flatten:=by
 unfold Kky
 have h0:=Kwx ps (by omega) ps 0 0 rfl (by omega)
 rw [Nat.zero_add] at h0
 rw [show (0:Int)=((0:Nat):Int) from rfl,h0,bs,Kwz _ h,bs,Kwy ps (by omega) ps 0 [] rfl (by rw [List.length_nil]; omega)]
 rfl
theorem Kx1 (ps:List (List (List Int))) (hp:ps.length ≤ 1099511627776):∀ (l:List (List (List Int))) (i sz:Nat),ps.drop i=l→sz + l.flatten.length ≤ 1099511627776→Kjc (ps,(sz:Int),(i:Int))=some (((sz + l.flatten.length:Nat)):Int):=by
 intro l
 induction l with
 | nil =>
  intro i sz hd _
  rw [Kjc.eq_def]
  simp only
  rw [Kpk (Kqy hd)]
  simp
 | cons x l ih =>
  intro i sz hd ho
  obtain ⟨h1,h2,h3⟩:=Kqx hd
  rw [List.flatten_cons,List.length_append] at ho
  have e:wr ((sz:Int) + (x.length:Int))=((sz + x.length:Nat):Int):=Ku8 (by omega) (by omega)
  rw [Kjc.eq_def]
  simp only
  rw [Kpj h1,if_pos rfl,h2,bs,e,decide_eq_false (by omega),if_neg (by decide),bs,Kpi (by omega),ih (i + 1) _ h3 (by omega),List.flatten_cons,List.length_append,Nat.add_assoc]
theorem Kx2 (ps:List (List (List Int))) (hp:ps.length ≤ 1099511627776):∀ (l:List (List (List Int))) (i:Nat) (out:List (List Int)),ps.drop i=l→out.length + l.flatten.length ≤ 1099511627776→Kjg (ps,out,(i:Int))=some (out ++ l.flatten):=by
 intro l
 induction l with
 | nil =>
  intro i out hd _
  rw [Kjg.eq_def]
  simp only
  rw [Kpk (Kqy hd)]
  simp
 | cons x l ih =>
  intro i out hd ho
  obtain ⟨h1,h2,h3⟩:=Kqx hd
  rw [List.flatten_cons,List.length_append] at ho
  rw [Kjg.eq_def]
  simp only
  rw [Kpj h1,if_pos rfl,h2,bs,Kt0 (by omega),bs,Kpi (by omega),ih (i + 1) _ h3 (by rw [List.length_append]; omega),List.flatten_cons,List.append_assoc]
theorem Kx3 (k:Nat) (h:k ≤ 1048576):Kj8 (k:Int)=some ():=by
 unfold Kj8
 have e:wr ((k:Int) - wr (0 - 0))=(k:Int):=by rw [Kpg (x:=0 - 0) (by decide) (by decide),Kpg (by omega) (by omega)]; omega
 rw [decide_eq_false (by omega),if_neg (by decide),e]
 by_cases hk:k=0
 ·subst hk; rfl
 ·rw [decide_eq_true (by omega),if_pos rfl,Int.toNat_natCast,Kv7 (by constructor <;> omega),bs]
theorem Kx4 (ps:List (List (List Int))) (hp:ps.length ≤ 1048576) (h:ps.flatten.length ≤ 1048576):Kjj ps=some ps.flatten:=by
 unfold Kjj
 have h0:=Kx1 ps (by omega) ps 0 0 rfl (by omega)
 rw [Nat.zero_add] at h0
 rw [show (0:Int)=((0:Nat):Int) from rfl,h0,bs,Kx3 _ h,bs,Kx2 ps (by omega) ps 0 [] rfl (by rw [List.length_nil]; omega)]
 rfl
def Kx5 (s:K00) (ctx:List (List Int)):Bool:=decide (ctx.length ≤ 8) && ctx.all (yN s.fSize true)
theorem sYn {s:K00} {ty:List Int} (h:ty.length ≤ 1099511627776):(Kc4 ty >>= fun r=>if r=true then Kcf (ty,s.fSize,true) >>= fun q=>some (!q) else some true)=some (!yN s.fSize true ty):=by
 rw [Krk ty h,bs]
 unfold yN
 cases wtB ty with
 | false=>rfl
 | true=>rw [if_pos rfl,Krq ty h,bs]; rfl
theorem Kx6 (s:K00) (ctx:List (List Int)) (hc:ctx.length ≤ 1048576) (hl:∀ ty ∈ ctx,ty.length ≤ 1099511627776):∀ (l:List (List Int)) (i:Nat),ctx.drop i=l→Kcj (s,ctx,(i:Int))=some (if l.all (yN s.fSize true) then .inl () else .inr false):=by
 intro l
 induction l with
 | nil =>
  intro i hd
  rw [Kcj.eq_def]
  simp only
  rw [Kpk (Kqy hd)]; rfl
 | cons x l ih =>
  intro i hd
  obtain ⟨h1,h2,h3⟩:=Kqx hd
  have hx:x ∈ ctx:=List.mem_of_mem_drop (i:=i) (by rw [hd]; exact List.mem_cons_self)
  rw [Kcj.eq_def]
  simp only
  rw [Kpj h1,if_pos rfl]
  simp only [h2,bs]
  rw [sYn (hl x hx),bs,Kpi (by omega),ih (i + 1) h3,List.all_cons]
  cases yN s.fSize true x <;> cases l.all (yN s.fSize true) <;> rfl
theorem Kx7 (s:K00) (ctx:List (List Int)) (hc:ctx.length ≤ 1048576) (hl:∀ ty ∈ ctx,ty.length ≤ 1099511627776):Kcm (s,ctx)=some (Kx5 s ctx):=by
 unfold Kcm Kx5
 simp only
 by_cases h:ctx.length ≤ 8
 ·rw [decide_eq_false (by omega),decide_eq_true h,if_neg (by decide),show (0:Int)=((0:Nat):Int) from rfl,Kx6 s ctx hc hl ctx 0 rfl,bs]
  cases ctx.all (yN s.fSize true) <;> rfl
 ·rw [decide_eq_true (by omega),decide_eq_false h,if_pos rfl]; rfl
theorem Kx8 (s:K00) (ctx:List (List Int)) (hc:ctx.length ≤ 1048576) (hl:∀ ty ∈ ctx,ty.length ≤ 1099511627776):∀ (l:List (List Int)) (i:Nat),ctx.drop i=l→∃ r,Ki2 (ctx,s,(i:Int))=some r∧(match r with | .inl _=>l.all (Ku1 s)=true | .inr j=>l.all (Ku1 s)=false∧0 ≤ j):=by
 intro l
 induction l with
 | nil =>
  intro i hd
  rw [Ki2.eq_def]
  simp only
  rw [Kpk (Kqy hd)]
  exact ⟨_,rfl,rfl⟩
 | cons x l ih =>
  intro i hd
  obtain ⟨h1,h2,h3⟩:=Kqx hd
  have hx:x ∈ ctx:=List.mem_of_mem_drop (i:=i) (by rw [hd]; exact List.mem_cons_self)
  rw [Ki2.eq_def]
  simp only
  rw [Kpj h1,if_pos rfl,h2,bs]
  unfold Khy
  simp only
  rw [Ku3 s x (hl x hx)]
  simp only [bs]
  cases hle:Ku1 s x with
  | true =>
   obtain ⟨r,hr,hm⟩:=ih (i + 1) h3
   refine ⟨r,?_,?_⟩
   ·rw [if_neg (by simp),Kpi (by omega)]; exact hr
   ·rw [List.all_cons,hle,Bool.true_and]; exact hm
  | false=>exact ⟨_,if_pos rfl,by simp [List.all_cons,hle]⟩
theorem Kx9 (s:K00) (hs:Kte s=true) (ctx:List (List Int)) (hc:ctx.length ≤ 1048576) (hl:∀ ty ∈ ctx,ty.length ≤ 1099511627776):Kib (s,ctx)=some (Kx5 s ctx):=by
 have e:ctx.all (Ku1 s)=ctx.all (yN s.fSize true):=by
  congr 1
  funext ty
  exact Ku6 (Ktf hs) ty
 unfold Kib Kx5
 simp only
 by_cases h:ctx.length ≤ 8
 ·rw [decide_eq_true (by omega:(ctx.length:Int) ≤ 8),decide_eq_true h,if_pos rfl]
  obtain ⟨r,hr,hm⟩:=Kx8 s ctx hc hl ctx 0 rfl
  unfold Ki8 Ki5
  simp only
  rw [show (0:Int)=((0:Nat):Int) from rfl,hr]
  rw [e] at hm
  cases r with
  | inl _=>simp only [bs] at hm ⊢; rw [hm]; rfl
  | inr j =>
   simp only [bs] at hm ⊢
   rw [hm.1,decide_eq_true (by omega)]; rfl
 ·rw [decide_eq_false (by omega),decide_eq_false h,if_neg (by decide)]; rfl
theorem Kxa {s:K00} (ty:List Int) (h:ty.length ≤ 1099511627776):Kih (ty,s)=some (Ku1 s ty):=by
 unfold Kih
 simp only
 rw [Ku3 s ty h,bs]
mutual
theorem Kxb (s:K00):∀ (t:K01) (n nodes:Nat),tms t ≤ 1099511627776→n + 2 * tms t ≤ 35184372088832→nodes ≤ 400→Kio (t,(n:Int),s,s,(nodes:Int))=some (Kso (tOk (Kty s) (Ku1 s) n t) nodes (tsz t))
 | ⟨op,N,ty,ks⟩,n,nodes,ht,hn,hd=>by
  rw [tms] at ht hn
  rw [Kio.eq_def,tOk,tsz]
  simp only
  rw [Ksb,bs]
  unfold Ksa
  cases hop:inB op 0 12
  ·simp [Ksi,hop,Kso]
  ·simp only [if_true]
   rw [Kpi (by omega)]
   by_cases h4:nodes + 1 ≤ 400
   ·rw [decide_eq_false (by omega:¬ ((nodes + 1:Nat):Int) > 400)]
    by_cases hk:(ks.length:Int)=Ks2 op
    ·rw [show ((ks.length:Int) != Ks2 op)=false by rw [hk]; exact Kpq]
     simp only [Bool.false_eq_true,if_false,bs]
     refine (Krr (x:=Ksg (Kty s) (n:Int) ⟨op,N,ty,ks⟩) ?_).trans ?_
     ·unfold Ksg
      simp only [iIn,Kpg (x:=(n:Int) - 1) (by omega) (by omega),Ktz,bs]
      cases op == 0 <;> cases op == 1 <;> cases Ks3 op <;> rfl
     refine (Krr (x:=Ksg (Kty s) (n:Int) ⟨op,N,ty,ks⟩ && Ksh (Ku1 s) ⟨op,N,ty,ks⟩) ?_).trans ?_
     ·unfold Ksh
      simp only [Kxa ty (by omega),bs]
      cases Ks4 op <;> cases Ksg (Kty s) (n:Int) ⟨op,N,ty,ks⟩ <;> rfl
     have e:Ksi (Kty s) (Ku1 s) (n:Int) ⟨op,N,ty,ks⟩=(Ksg (Kty s) (n:Int) ⟨op,N,ty,ks⟩ && Ksh (Ku1 s) ⟨op,N,ty,ks⟩):=by
      unfold Ksi
      simp only
      rw [hop,hk]; simp
     rw [e]
     cases Ksg (Kty s) (n:Int) ⟨op,N,ty,ks⟩ && Ksh (Ku1 s) ⟨op,N,ty,ks⟩
     ·simp [Kso]
     ·have h:=Kxc s ks ⟨op,N,ty,ks⟩ n (nodes + 1) 0 rfl (by simp only; omega) (by omega) (by omega) h4
      rw [if_pos rfl,show (0:Int)=((0:Nat):Int) from rfl,h]
      simp only [Bool.true_and]
      unfold Kso
      rw [show nodes + (1 + Krs ks)=nodes + 1 + Krs ks by omega]
      cases Ksj (Kty s) (Ku1 s) op n 0 ks && decide (nodes + 1 + Krs ks ≤ 400) <;> rfl
    ·rw [show ((ks.length:Int) != Ks2 op)=true by simpa using hk]
     have e:Ksi (Kty s) (Ku1 s) (n:Int) ⟨op,N,ty,ks⟩=false:=by
      unfold Ksi
      simp only
      rw [show ((ks.length:Int) == Ks2 op)=false by simpa using hk]; simp
     simp [e,Kso]
   ·rw [decide_eq_true (by omega:((nodes + 1:Nat):Int) > 400)]
    have:¬ nodes + (1 + Krs ks) ≤ 400:=by omega
    simp [Kso,this]
theorem Kxc (s:K00):∀ (ks:List K01) (t:K01) (n nodes i:Nat),t.fKids.drop i=ks→t.fKids.length ≤ 1099511627776→Krt ks ≤ 1099511627776→n + 2 * (ks.length + Krt ks) ≤ 35184372088832→nodes ≤ 400 →
  Kip (t,(n:Int),s,s,(nodes:Int),(i:Int))=some (if Ksj (Kty s) (Ku1 s) t.fOp n i ks && decide (nodes + Krs ks ≤ 400) then .inl ((nodes + Krs ks:Nat):Int) else .inr 401)
 | [],t,n,nodes,i,hd,hk,ht,hn,h4=>by
  rw [Kip.eq_def,Ksj,Krs]
  simp only
  rw [Kpk (Kqy hd)]
  simp [h4]
 | k :: ks,t,n,nodes,i,hd,hk,ht,hn,h4=>by
  obtain ⟨hi,hx,hd'⟩:=Kqx hd
  rw [Krt] at ht hn
  rw [List.length_cons] at hn
  have ha:=Ksd t.fOp (i:Int)
  rw [Kip.eq_def,Ksj,Krs]
  simp only
  rw [Kpj hi,if_pos rfl,hx,bs,Ksf,bs,Kpg (by omega) (by omega),show (n:Int) + ((Ksc t.fOp (i:Int):Nat):Int)=((n + Ksc t.fOp (i:Int):Nat):Int) by omega]
  rw [Kxb s k (n + Ksc t.fOp (i:Int)) nodes (by omega) (by omega) h4,bs,Kpi (by omega)]
  unfold Kso
  cases tOk (Kty s) (Ku1 s) (n + Ksc t.fOp (i:Int)) k
  ·rfl
  ·by_cases q:nodes + tsz k ≤ 400
   ·rw [decide_eq_true q,Bool.true_and,if_pos rfl,decide_eq_false (by omega:¬ ((nodes + tsz k:Nat):Int) > 400),if_neg (by decide),Kxc s ks t n (nodes + tsz k) (i + 1) hd' hk (by omega) (by omega) q,Nat.add_assoc,Bool.true_and]
   ·rw [decide_eq_false q,decide_eq_false (by omega:¬ nodes + (tsz k + Krs ks) ≤ 400)]
    simp
end
theorem Kxd {s:K00} {n:Nat} (h:Tab s n):Kty s=gN s.fSize true:=by
 funext g
 rw [Ku4 h]
 unfold gN inB
 rw [h.size]
 rw [Bool.eq_iff_iff]
 simp
 omega
theorem Kxe (s:K00) (hs:Kte s=true) (t:K01) (n:Nat) (hn:n ≤ 8) (ht:tms t ≤ 1099511627776):Kiv (s,t,(n:Int))=some (Kvg s t n):=by
 have hy:Ku1 s=yN s.fSize true:=funext fun ty=>Ku6 (Ktf hs) ty
 unfold Kiv Kvg
 simp only
 rw [iIn,bs,hs]
 have:inB (n:Int) 0 8=true:=by unfold inB; rw [decide_eq_true (by omega),decide_eq_true (by omega)]; rfl
 have hc:=Kxb s t n 0 ht (by omega) (by omega)
 rw [Kxd (Ktf hs),hy] at hc
 rw [this,if_pos rfl,show (0:Int)=((0:Nat):Int) from rfl,hc,bs]
 unfold Kso
 rw [Nat.zero_add]
 cases tOk (gN s.fSize true) (yN s.fSize true) n t
 ·simp [bs]
 ·by_cases h:tsz t ≤ 400
  ·simp [bs,h]; omega
  ·simp [bs,h]
def Kxf (s:K00) (ctx:List (List Int)) (t:K01):Bool:=Kte s && Kx5 s ctx && Kvg s t ctx.length
theorem Kxg (s:K00) (ctx:List (List Int)) (t:K01) (hc:ctx.length ≤ 1048576) (hl:∀ ty ∈ ctx,ty.length ≤ 1099511627776) (ht:tms t ≤ 1099511627776):Kdq (s,ctx,t)=some (Kxf s ctx t):=by
 unfold Kdq Kxf
 simp only
 rw [Ktg,bs]
 cases hs:Kte s
 ·rfl
 ·rw [if_pos rfl,Kx7 s ctx hc hl,bs]
  cases h2:Kx5 s ctx
  ·rfl
  ·have h8:ctx.length ≤ 8:=by
    unfold Kx5 at h2
    simp only [Bool.and_eq_true,decide_eq_true_eq] at h2
    exact h2.1
   rw [if_pos rfl,Kvh s t _ h8 ht]
   rfl
theorem Kxh (s:K00) (ctx:List (List Int)) (t:K01) (hc:ctx.length ≤ 1048576) (hl:∀ ty ∈ ctx,ty.length ≤ 1099511627776) (ht:tms t ≤ 1099511627776) :
  Kml (s,ctx,t)=if Kxf s ctx t then (Kme (⟨s⟩,ctx,t) >>= fun r=>some (some r)) else some none:=by
 unfold Kml Kxf
 simp only
 rw [Kth,bs]
 cases hs:Kte s
 ·rfl
 ·rw [if_pos rfl,Kx9 s hs ctx hc hl,bs]
  cases h2:Kx5 s ctx
  ·rfl
  ·have h8:ctx.length ≤ 8:=by
    unfold Kx5 at h2
    simp only [Bool.and_eq_true,decide_eq_true_eq] at h2
    exact h2.1
   rw [if_pos rfl,Kxe s hs t _ h8 ht,bs]
   cases Kvg s t ctx.length <;> rfl
def TyS (s:K00) (ty:List Int):Prop:=yN s.fSize true ty=true
theorem Kxi {s:K00} {ty:List Int} (h:TyS s ty):ty.length ≤ 40:=by
 unfold TyS yN at h
 rw [Bool.and_eq_true] at h
 exact Ksy h.1
theorem Kxj {s:K00} {ty:List Int} (h:TyS s ty):∃ T:Ty,T.ok∧ty=T.code∧T.code.length ≤ 40∧T.code.all (Krn s.fSize true)=true:=by
 have hl:=Kxi h
 unfold TyS yN at h
 rw [Bool.and_eq_true] at h
 obtain ⟨T,h1,rfl,_⟩:=Kto h.1
 exact ⟨T,h1,rfl,hl,h.2⟩
theorem Kxk {s:K00} {T:Ty} (h:T.ok) (hl:T.code.length ≤ 40) (hc:T.code.all (Krn s.fSize true)=true):TyS s T.code:=by
 unfold TyS yN
 rw [Ktp h hl,hc]; rfl
structure Kxl (s:K00) (c:Int) (a b:List Int):Prop where
 ya:TyS s a
 yb:TyS s b
 p0:Kem (c :: (a ++ b),0)=some a
 p1:Kem (c :: (a ++ b),1)=some b
 pp:Kj2 (c :: (a ++ b))=some [a,b]
structure Kxm (s:K00) (c:Int) (a:List Int):Prop where
 ya:TyS s a
 p0:Kem (c :: a,0)=some a
 pp:Kj2 (c :: a)=some [a]
theorem Kxn {s:K00} {c:Int} (hc:c=35∨c=36):Krn s.fSize true c=false:=by
 rcases hc with rfl | rfl
 ·unfold Krn Krm
  rw [show Kr1 35=2 from rfl]; simp
 ·unfold Krn Krm
  rw [show Kr1 36=1 from rfl]; simp
theorem Kxo {s:K00}:TyS s [0]:=Kxk (T:=.num) trivial (by decide) (by
 show (Krn s.fSize true 0 && true)=true
 unfold Krn
 rw [show Kr1 0=0 from rfl]; simp)
section
variable {s:K00} {n:Nat} (hs:Kvw s n)
include hs
theorem Kxp {c:Int} (hc:3 ≤ c∧c ≤ 18):Krn s.fSize true c=true ↔ c - 3 < (n:Int):=by
 have hk:Kr1 c=2:=by rcases Kr5 c with h | h | h | h <;> omega
 unfold Krn Krm
 rw [hk,hs.tab.size,if_neg (by omega),if_neg (by omega)]
 simp
 omega
theorem Kxq {c:Int} (hc:19 ≤ c∧c ≤ 34):Krn s.fSize true c=true ↔ c - 19 < (n:Int):=by
 have hk:Kr1 c=1:=by rcases Kr5 c with h | h | h | h <;> omega
 unfold Krn Krm
 rw [hk,hs.tab.size,if_neg (by omega),if_pos (by omega)]
 simp
 omega
theorem Kxr {ty:List Int} (h:TyS s ty):ty=[0]∨(∃ a b,ty=1 :: (a ++ b)∧Kxl s 1 a b)∨(∃ a b,ty=2 :: (a ++ b)∧Kxl s 2 a b) ∨
  (∃ (g:Nat) (a b:List Int),g < n∧g ≤ 15∧ty=(3 + (g:Int)) :: (a ++ b)∧Kxl s (3 + (g:Int)) a b)∨(∃ (g:Nat) (a:List Int),g < n∧g ≤ 15∧ty=(19 + (g:Int)) :: a∧Kxm s (19 + (g:Int)) a):=by
 obtain ⟨T,hT,rfl,hl,hc⟩:=Kxj h
 cases T with
 | num=>exact .inl rfl
 | bin c a b =>
  have B:=Kv3 hT (by omega)
  have hl':=hl
  rw [Ty.code,List.length_cons,List.length_append] at hl'
  rw [Ty.code,List.all_cons,List.all_append,Bool.and_eq_true,Bool.and_eq_true] at hc
  have hP:Kxl s c a.code b.code:=⟨Kxk B.ok.1 (by omega) hc.2.1,Kxk B.ok.2 (by omega) hc.2.2,B.p0,B.p1,B.pp⟩
  have hk:=hT.1
  rcases Kr5 c with ⟨q,e⟩ | ⟨q,e⟩ | ⟨q,e⟩ | ⟨q,e⟩
  ·rw [e] at hk; exact absurd hk (by decide)
  ·rcases q with rfl | rfl | q | rfl
   ·exact .inr (.inl ⟨_,_,rfl,hP⟩)
   ·exact .inr (.inr (.inl ⟨_,_,rfl,hP⟩))
   ·have:=(Kxp hs q).1 hc.1
    obtain ⟨g,hg⟩:∃ g:Nat,c=3 + (g:Int):=⟨(c - 3).toNat,by omega⟩
    subst hg
    exact .inr (.inr (.inr (.inl ⟨g,_,_,by omega,by omega,rfl,hP⟩)))
   ·rw [Kxn (s:=s) (.inl rfl)] at hc; exact absurd hc.1 (by decide)
  ·rw [e] at hk; exact absurd hk (by decide)
  ·rw [e] at hk; exact absurd hk (by decide)
 | un c a =>
  have B:=unP hT (by omega)
  have hl':=hl
  rw [Ty.code,List.length_cons] at hl'
  rw [Ty.code,List.all_cons,Bool.and_eq_true] at hc
  have hP:Kxm s c a.code:=⟨Kxk B.ok (by omega) hc.2,B.p0,B.pp⟩
  have hk:=hT.1
  rcases Kr5 c with ⟨q,e⟩ | ⟨q,e⟩ | ⟨q,e⟩ | ⟨q,e⟩
  ·rw [e] at hk; exact absurd hk (by decide)
  ·rw [e] at hk; exact absurd hk (by decide)
  ·rcases q with q | rfl
   ·have:=(Kxq hs q).1 hc.1
    obtain ⟨g,hg⟩:∃ g:Nat,c=19 + (g:Int):=⟨(c - 19).toNat,by omega⟩
    subst hg
    exact .inr (.inr (.inr (.inr ⟨g,_,by omega,by omega,rfl,hP⟩)))
   ·rw [Kxn (s:=s) (.inr rfl)] at hc; exact absurd hc.1 (by decide)
  ·rw [e] at hk; exact absurd hk (by decide)
theorem Kxs {c:Int} {a b:List Int} (ha:TyS s a) (hb:TyS s b) (hc:c=1∨c=2∨∃ g:Nat,g < n∧c=3 + (g:Int)) (hl:(c :: (a ++ b)).length ≤ 40):TyS s (c :: (a ++ b)):=by
 obtain ⟨A,hA,rfl,_,hAc⟩:=Kxj ha
 obtain ⟨B,hB,rfl,_,hBc⟩:=Kxj hb
 have hn:=hs.tab.hi
 have hk:Kr1 c=2∧Krn s.fSize true c=true:=by
  rcases hc with rfl | rfl | ⟨g,hg,rfl⟩
  ·exact ⟨rfl,by unfold Krn; rw [show Kr1 1=2 from rfl]; simp⟩
  ·exact ⟨rfl,by unfold Krn; rw [show Kr1 2=2 from rfl]; simp⟩
  ·refine ⟨by rcases Kr5 (3 + (g:Int)) with h | h | h | h <;> omega,(Kxp hs (by omega)).2 (by omega)⟩
 have:TyS s (Ty.bin c A B).code:=Kxk ⟨hk.1,hA,hB⟩ hl (by rw [Ty.code,List.all_cons,List.all_append,hk.2,hAc,hBc]; rfl)
 exact this
theorem Kxt {g:Nat} (hg:g < n) {a:List Int} (ha:TyS s a) (hl:((19 + (g:Int)) :: a).length ≤ 40):TyS s ((19 + (g:Int)) :: a):=by
 obtain ⟨A,hA,rfl,_,hAc⟩:=Kxj ha
 have hn:=hs.tab.hi
 have hk:Kr1 (19 + (g:Int))=1:=by rcases Kr5 (19 + (g:Int)) with h | h | h | h <;> omega
 have:TyS s (Ty.un (19 + (g:Int)) A).code:=Kxk ⟨hk,hA⟩ hl (by rw [Ty.code,List.all_cons,(Kxq hs (by omega)).2 (by omega),hAc]; rfl)
 exact this
theorem Kxu {x:Int} (h:gN s.fSize true x=true):∃ g:Nat,x=(g:Int)∧g < n:=by
 unfold gN at h
 rw [hs.tab.size] at h
 simp at h
 exact ⟨x.toNat,by omega,by omega⟩
end
structure Kxv (s:K00) (n:Nat) (k:K01) (m:Nat):Prop where
 ok:tOk (gN s.fSize true) (yN s.fSize true) n k=true
 sz:tsz k + 1 ≤ m
theorem nd1 {s:K00} {n m:Nat} {op N:Int} {ty:List Int} {ks:List K01} (h:tOk (gN s.fSize true) (yN s.fSize true) n ⟨op,N,ty,ks⟩=true) (hm:tsz ⟨op,N,ty,ks⟩ ≤ m) (hk:Ks2 op=1):∃ a,ks=[a]∧Kxv s (n + Ksc op 0) a m:=by
 obtain ⟨h1,h2⟩:=Ksz h
 obtain ⟨a,rfl⟩:=Kve (l:=ks) (beq_iff_eq.2 (by rw [← hk]; exact (Kt1 h1).2))
 simp only at h2
 rw [Kvd,Bool.and_eq_true] at h2
 rw [Kvi] at hm
 exact ⟨a,rfl,h2.1,by omega⟩
theorem nd2 {s:K00} {n m:Nat} {op N:Int} {ty:List Int} {ks:List K01} (h:tOk (gN s.fSize true) (yN s.fSize true) n ⟨op,N,ty,ks⟩=true) (hm:tsz ⟨op,N,ty,ks⟩ ≤ m) (hk:Ks2 op=2):∃ a b,ks=[a,b]∧Kxv s (n + Ksc op 0) a m∧Kxv s (n + Ksc op 1) b m:=by
 obtain ⟨h1,h2⟩:=Ksz h
 obtain ⟨a,b,rfl⟩:=Kvf (l:=ks) (beq_iff_eq.2 (by rw [← hk]; exact (Kt1 h1).2))
 simp only at h2
 rw [Kvd,Kvd,Bool.and_eq_true,Bool.and_eq_true] at h2
 rw [Kvj] at hm
 exact ⟨a,b,rfl,⟨h2.1,by omega⟩,⟨h2.2.1,by omega⟩⟩
theorem nd3 {s:K00} {n m:Nat} {op N:Int} {ty:List Int} {ks:List K01} (h:tOk (gN s.fSize true) (yN s.fSize true) n ⟨op,N,ty,ks⟩=true) (hm:tsz ⟨op,N,ty,ks⟩ ≤ m) (hk:Ks2 op=3):∃ a b c,ks=[a,b,c]∧Kxv s (n + Ksc op 0) a m∧Kxv s (n + Ksc op 1) b m∧Kxv s (n + Ksc op 2) c m:=by
 obtain ⟨h1,h2⟩:=Ksz h
 obtain ⟨a,b,c,rfl⟩:=Kvl (l:=ks) (by rw [← hk]; exact (Kt1 h1).2)
 simp only at h2
 rw [Kvd,Kvd,Kvd,Bool.and_eq_true,Bool.and_eq_true,Bool.and_eq_true] at h2
 rw [Kvk] at hm
 exact ⟨a,b,c,rfl,⟨h2.1,by omega⟩,⟨h2.2.1,by omega⟩,⟨h2.2.2.1,by omega⟩⟩
theorem Kxw {s:K00} {n:Nat} {t:K01} (h:tOk (gN s.fSize true) (yN s.fSize true) n t=true) (hg:Ks3 t.fOp=true):gN s.fSize true t.fN=true:=by
 have h1:=(Ksz h).1
 unfold Ksi Ksg at h1
 simp only [Bool.and_eq_true] at h1
 have h2:=h1.1.2
 have hop:(t.fOp == 0)=false∧(t.fOp == 1)=false:=by
  simp only [Ks3,Bool.or_eq_true,beq_iff_eq] at hg
  constructor <;> rw [beq_eq_false_iff_ne] <;> omega
 rw [hop.1,hop.2,hg] at h2
 simpa using h2
theorem Kxx {s:K00} {n:Nat} {t:K01} (h:tOk (gN s.fSize true) (yN s.fSize true) n t=true) (hg:Ks4 t.fOp=true):TyS s t.fType:=by
 have h1:=(Ksz h).1
 unfold Ksi Ksh at h1
 simp only [Bool.and_eq_true] at h1
 have h2:=h1.2
 rw [hg] at h2
 show yN s.fSize true t.fType=true
 simpa using h2
theorem Kxy {s:K00} {n:Nat} {t:K01} (h:tOk (gN s.fSize true) (yN s.fSize true) n t=true) (hg:t.fOp=0):∃ i:Nat,t.fN=(i:Int)∧i < n∧t.fKids=[]:=by
 have h1:=(Ksz h).1
 have hl:=(Kt1 h1).2
 unfold Ksi Ksg at h1
 simp only [Bool.and_eq_true] at h1
 have h2:=h1.1.2
 rw [hg] at h2 hl
 simp [inB] at h2
 refine ⟨t.fN.toNat,by omega,by omega,?_⟩
 have:(t.fKids.length:Int)=0:=hl
 exact List.eq_nil_of_length_eq_zero (by omega)
theorem Kxz {s:K00} {n:Nat} {t:K01} (h:tOk (gN s.fSize true) (yN s.fSize true) n t=true) (hg:t.fOp=1):t.fKids=[]:=by
 have h1:=(Ksz h).1
 have hl:=(Kt1 h1).2
 rw [hg] at hl
 have:(t.fKids.length:Int)=0:=hl
 exact List.eq_nil_of_length_eq_zero (by omega)
def Ky0 (t:K01) (out:List K03) (w:Nat):Option (List (List Int)) :=
 (if (decide ((w:Int) > 0))=true then some (true) else some ((t.fOp == 9))) >>= fun v =>
 if v=true then
  (if (decide ((w:Int) > 0))=true then (idx out 0) >>= fun e=>some (e.fty) else some ([])) >>= fun first=>(Kj5 (t,(w:Int),first)) >>= fun r=>some (r)
 else some ([])
def Ky1 (p0:K05) (ctx:List (List Int)) (t:K01) (out:List K03) (needs used:List (List Int)) (w:Nat) (more:List (List Int)) (y:K03):Option (((List K03) × (List (List Int)) × (List (List Int))) ⊕ (K03)) :=
 if (y.ffault != 0)=true then
  (Qd6 ([(w:Int)].length + y.fpath.length) 8) >>= fun _=>some (.inr (K03.mk [] [] [] y.ffault ([(w:Int)] ++ y.fpath)))
 else
  (Kjn (p0,t,(w:Int),y.fty)) >>= fun f =>
  if (f != 0)=true then some (.inr (K03.mk [] [] [] f []))
  else
   (if (t.fOp == 10)=true then
    if ((w:Int) == 1)=true then
     (idx out 0) >>= fun e=>(Kj2 e.fty) >>= fun r=>(idx r 0) >>= fun q=>(Kju (y.fty,q)) >>= fun b=>some ((!b))
    else some (false)
   else some (false)) >>= fun v =>
   if v=true then some (.inr (K03.mk [] [] [] 3 []))
   else
    (Qd6 (out.length + [y].length) 8) >>= fun _ =>
    (cut y.fneeds none (some (more.length:Int)) none) >>= fun c1 =>
    (Qd6 (used.length + [c1].length) 24) >>= fun _ =>
    (cut y.fneeds (some (more.length:Int)) none none) >>= fun c2 =>
    (Qd6 (needs.length + [c2].length) 24) >>= fun _ =>
    Kmf (p0,ctx,t,(out ++ [y]),(needs ++ [c2]),(used ++ [c1]),(wr ((w:Int) + 1)))
theorem Ky2 {p0:K05} {ctx:List (List Int)} {t:K01} {out:List K03} {needs used:List (List Int)} {w:Nat} {k:K01} {more:List (List Int)} {y:K03} (hw:w < t.fKids.length) (hk:idx t.fKids (w:Int)=some k) (hm:Ky0 t out w=some more)
  (hc:ctx.length + more.length ≤ 1000000) (hy:Kme (p0,more ++ ctx,k)=some y):Kmf (p0,ctx,t,out,needs,used,(w:Int))=Ky1 p0 ctx t out needs used w more y:=by
 rw [Kmf.eq_def]
 simp only
 rw [Kpj hw,if_pos rfl,hk,bs]
 have key:∀ {β:Type} (R:List (List Int)→Option β),((if (decide ((w:Int) > 0))=true then some (true) else some ((t.fOp == 9))) >>= fun v =>
   (if v=true then (if (decide ((w:Int) > 0))=true then (idx out 0) >>= fun e=>some (e.fty) else some ([])) >>= fun first=>(Kj5 (t,(w:Int),first)) >>= fun r=>some (r) else some ([])) >>= R)=(Ky0 t out w >>= R):=fun R=>by
  unfold Ky0
  simp only [Option.bind_eq_bind,Option.bind_assoc]
 refine (key _).trans ?_
 rw [hm,bs,Kx4 [more,ctx] (by simp) (by simp; omega),bs]
 simp only [List.flatten_cons,List.flatten_nil,List.append_nil]
 rw [hy,bs]
 rfl
theorem Ky3 {p0:K05} {ctx:List (List Int)} {t:K01} {out:List K03} {needs used:List (List Int)} {w:Nat} (hw:t.fKids.length ≤ w):Kmf (p0,ctx,t,out,needs,used,(w:Int))=some (.inl (out,needs,used)):=by
 rw [Kmf.eq_def]
 simp only
 rw [Kpk hw]; rfl
theorem Ky4 {α:Type} {l:List α} {m:Nat} (h:m ≤ l.length):cut l none (some (m:Int)) none=some (l.take m):=by
 unfold cut
 simp only [Option.getD_none,Option.getD_some,Int.toNat_natCast,Int.toNat_zero,List.drop_zero]
 rw [if_pos (by omega)]
theorem Ky5 {α:Type} {l:List α} {m:Nat} (h:m ≤ l.length):cut l (some (m:Int)) none none=some (l.drop m):=by
 unfold cut
 simp only [Option.getD_none,Option.getD_some,Int.toNat_natCast]
 rw [if_pos (by omega),List.take_length]
def Ky6 (t:K01) (out:List K03) (w:Nat) (y:K03):Option Bool :=
 if (t.fOp == 10)=true then
  if ((w:Int) == 1)=true then
   (idx out 0) >>= fun e=>(Kj2 e.fty) >>= fun r=>(idx r 0) >>= fun q=>(Kju (y.fty,q)) >>= fun b=>some ((!b))
  else some (false)
 else some (false)
section
variable {p0:K05} {ctx:List (List Int)} {t:K01} {out:List K03} {needs used:List (List Int)} {w:Nat} {more:List (List Int)} {y:K03}
theorem Ky7 (h:y.ffault ≠ 0) (hp:y.fpath.length ≤ 1000000):Ky1 p0 ctx t out needs used w more y=some (.inr ⟨[],[],[],y.ffault,(w:Int) :: y.fpath⟩):=by
 unfold Ky1
 rw [if_pos (bne_iff_ne.2 h),Kt0 (by simp; omega),bs]
 rfl
theorem Ky8 {f:Int} (h:y.ffault=0) (hf:Kjn (p0,t,(w:Int),y.fty)=some f) (hf0:f ≠ 0):Ky1 p0 ctx t out needs used w more y=some (.inr ⟨[],[],[],f,[]⟩):=by
 unfold Ky1
 rw [if_neg (by simp [h]),hf,bs,if_pos (bne_iff_ne.2 hf0)]
theorem Ky9 (h:y.ffault=0) (hf:Kjn (p0,t,(w:Int),y.fty)=some 0) (ha:Ky6 t out w y=some true):Ky1 p0 ctx t out needs used w more y=some (.inr ⟨[],[],[],3,[]⟩):=by
 unfold Ky1
 rw [if_neg (by simp [h]),hf,bs,if_neg (by simp)]
 refine (congrArg (· >>= _) (show _=some true from ha)).trans ?_
 rw [bs,if_pos rfl]
theorem Kya {ns:List Nat} (h:y.ffault=0) (hf:Kjn (p0,t,(w:Int),y.fty)=some 0) (ha:Ky6 t out w y=some false) (hn:y.fneeds=Kvr ns) (hl:more.length ≤ ns.length)
  (h1:out.length ≤ 1000000) (h2:needs.length ≤ 1000000) (h3:used.length ≤ 1000000) (h4:w ≤ 1000000) :
  Ky1 p0 ctx t out needs used w more y=Kmf (p0,ctx,t,(out ++ [y]),(needs ++ [Kvr (ns.drop more.length)]),(used ++ [Kvr (ns.take more.length)]),((w + 1:Nat):Int)):=by
 unfold Ky1
 rw [if_neg (by simp [h]),hf,bs,if_neg (by simp)]
 refine (congrArg (· >>= _) (show _=some false from ha)).trans ?_
 rw [bs,if_neg (by simp),Kt0 (by simp; omega),bs,hn,Ky4 (by rw [Kvs]; exact hl),bs,Kt0 (by simp; omega),bs,Ky5 (by rw [Kvs]; exact hl),bs,Kt0 (by simp; omega),bs,Kpi (by omega),Kvu,Kvt]
theorem Kyb {r:K03} (hc:ctx.length ≤ 1000000) (h:Kmf (p0,ctx,t,[],[],[],((0:Nat):Int))=some (.inr r)):Kme (p0,ctx,t)=some r:=by
 rw [Kme.eq_def]
 simp only
 rw [Kv7 (by simp; omega),bs,show (0:Int)=((0:Nat):Int) from rfl,h]
 rfl
theorem Kyc {o:List K03} {nd us:List (List Int)} {f:Int} {g:K03} (hc:ctx.length ≤ 1000000) (h:Kmf (p0,ctx,t,[],[],[],((0:Nat):Int))=some (.inl (o,nd,us)))
  (hf:Km8 (p0,⟨[],Kvr (List.replicate ctx.length 0),o,0,[]⟩,ctx,t,nd,us)=some (f,g)):Kme (p0,ctx,t)=some (if f=0 then ⟨g.fty,g.fneeds,g.fkids,0,g.fpath⟩ else ⟨[],[],[],f,[]⟩):=by
 have e:Kvr (List.replicate ctx.length 0)=List.replicate (Int.toNat (ctx.length:Int)) (0:Int):=by
  unfold Kvr; rw [List.map_replicate,Int.toNat_natCast]; rfl
 rw [e] at hf
 rw [Kme.eq_def]
 simp only
 rw [Kv7 (by simp; omega),bs,show Kmf (p0,ctx,t,[],[],[],0)=some (.inl (o,nd,us)) from h,bs]
 simp only
 rw [hf,bs]
 simp only
 by_cases hz:f=0
 ·subst hz; rw [if_neg (by simp),if_pos rfl]
 ·rw [if_pos (bne_iff_ne.2 hz),if_neg hz]
theorem Kyd (h:t.fOp ≠ 10):Ky6 t out w y=some false:=by
 unfold Ky6
 rw [if_neg (by simpa using h)]
theorem Kye (h:w ≠ 1):Ky6 t out w y=some false:=by
 unfold Ky6
 have:((w:Int) == 1)=false:=by rw [beq_eq_false_iff_ne]; omega
 rw [this]
 simp
end
section
variable {s:K00} {n:Nat} (hs:Kvw s n) {N:Int} {ty:List Int} {ks:List K01} {w:Nat} {c:Int} {r:List Int}
theorem Kyf {op:Int} (h:(op=4∨op=6∨op=7∨op=9∨op=11)∨(w ≠ 0∧(op=3∨op=5∨op=8∨op=10∨op=12))):Kjn (⟨s⟩,⟨op,N,ty,ks⟩,(w:Int),c :: r)=some 0:=by
 have hw:∀ hw:w ≠ 0,((w:Int) == 0)=false:=fun hw=>by rw [beq_eq_false_iff_ne]; omega
 unfold Kjn
 rcases h with (rfl | rfl | rfl | rfl | rfl) | ⟨h0,(rfl | rfl | rfl | rfl | rfl)⟩
 all_goals first | simp [Ku7,Kr7,hw h0] | (by_cases h0:w=0 <;> simp [Ku7,Kr7,h0])
theorem Kyg:Kjn (⟨s⟩,⟨2,N,ty,ks⟩,(w:Int),c :: r)=some (if (Kr6 c).1=0 then 0 else 2):=by
 unfold Kjn
 by_cases h:(Kr6 c).1=0 <;> simp [Ku7,Kr7,h]
theorem Kyh:Kjn (⟨s⟩,⟨3,N,ty,ks⟩,((0:Nat):Int),c :: r)=some (if (Kr6 c).1=0 then 0 else 2):=by
 unfold Kjn
 by_cases h:(Kr6 c).1=0 <;> simp [Ku7,Kr7,h]
theorem Kyi:Kjn (⟨s⟩,⟨10,N,ty,ks⟩,((0:Nat):Int),c :: r)=some (if (Kr6 c).1=3 then 0 else 6):=by
 unfold Kjn
 by_cases h:(Kr6 c).1=3 <;> simp [Ku7,Kr7,h]
include hs
theorem Kyj {g:Nat} (hg:g < n):Kjn (⟨s⟩,⟨5,(g:Int),ty,ks⟩,((0:Nat):Int),c :: r)=some (if (Kr6 c).1=1 then (if le s n 1 g then 0 else 8) else 4):=by
 have hl:=iLe hs.tab (Kvy hs) hg
 unfold Kjn
 by_cases h:(Kr6 c).1=1 <;> cases hle:le s n 1 g <;> simp [Ku7,Kr7,h,show Kgc (s,1,(g:Int))=some (le s n 1 g) from hl,hle]
theorem Kyk {g:Nat} (hg:g < n):Kjn (⟨s⟩,⟨8,(g:Int),ty,ks⟩,((0:Nat):Int),c :: r)=some (if (Kr6 c).1=2 then (if le s n 1 g then 0 else 8) else 5):=by
 have hl:=iLe hs.tab (Kvy hs) hg
 unfold Kjn
 by_cases h:(Kr6 c).1=2 <;> cases hle:le s n 1 g <;> simp [Ku7,Kr7,h,show Kgc (s,1,(g:Int))=some (le s n 1 g) from hl,hle]
theorem Kyl {g:Nat} (hg:g < n):Kjn (⟨s⟩,⟨12,(g:Int),ty,ks⟩,((0:Nat):Int),c :: r)=some (if (Kr6 c).1=4 then (if le s n 1 g then 0 else 8) else 7):=by
 have hl:=iLe hs.tab (Kvy hs) hg
 unfold Kjn
 by_cases h:(Kr6 c).1=4 <;> cases hle:le s n 1 g <;> simp [Ku7,Kr7,h,show Kgc (s,1,(g:Int))=some (le s n 1 g) from hl,hle]
end
def Kym (ty:List Int) (ns:List Nat) (kids:List K03):Int × K03:=(if ty.length > 40 then 3 else 0,⟨ty,Kvr ns,kids,0,[]⟩)
theorem Kyn {α:Type} (x:α) (l:List α):idx (x :: l) 0=some x:=rfl
theorem Kyo {α:Type} (x y:α) (l:List α):idx (x :: y :: l) 1=some y:=rfl
theorem Kyp {α:Type} (x y z:α) (l:List α):idx (x :: y :: z :: l) 2=some z:=rfl
section
variable {s:K00} {n:Nat} (hs:Kvw s n) {N:Int} {ty:List Int} {ks:List K01} {ctx us:List (List Int)} {z:List Int} {y0 y1 y2:K03} {a b d:List Nat}
theorem Kyq {i:Nat} {q:List Int} {zs:List Nat} (hi:ctx[i]?=some q) (hz:i < zs.length) (hq:q.length ≤ 40):Km8 (⟨s⟩,⟨[],Kvr zs,[],0,[]⟩,ctx,⟨0,(i:Int),ty,ks⟩,[],[])=some (Kym q (zs.set i 1) []):=by
 obtain ⟨h1,h2⟩:=List.getElem?_eq_some_iff.1 hi
 have e1:idx ctx (i:Int)=some q:=by rw [Kph h1,h2]
 have e2:idx (Kvr zs) (i:Int)=some ((zs[i]:Nat):Int):=by rw [Kph (by rw [Kvs]; exact hz)]; simp [Kvr]
 have e3:List.set (Kvr zs) i 1=Kvr (zs.set i 1):=by unfold Kvr; rw [List.map_set]; rfl
 have h40:¬ ((q.length:Int) > 40):=by omega
 unfold Km8 Klo Kym
 simp [e1,e2,e3,Kt3 q (by omega),show ¬ (40 < (q.length:Int)) by omega,show ¬ (40 < q.length) by omega]
theorem Kyr {zs:List Nat}:Km8 (⟨s⟩,⟨[],Kvr zs,[],0,[]⟩,ctx,⟨1,N,ty,ks⟩,[],[])=some (Kym [0] zs []):=by
 unfold Km8 Klo Kym
 simp
theorem Kys (hy:y0.fty.length ≤ 1000) (ht:ty.length ≤ 1000):Km8 (⟨s⟩,⟨[],z,[y0],0,[]⟩,ctx,⟨6,N,ty,ks⟩,[Kvr a],us)=some (Kym (2 :: (y0.fty ++ ty)) a [y0]):=by
 have hc:=Kx0 [[2],y0.fty,ty] (by simp) (by simp; omega)
 unfold Km8 Klo Kym Kka
 simp only [List.flatten_cons,List.flatten_nil,List.append_nil,List.singleton_append,List.cons_append,List.nil_append] at hc
 simp [Kyn,Kyo,hc]
 split <;> rename_i q40
 ·rw [if_pos (by omega)]
 ·rw [if_neg (by omega)]
theorem Kyt (hy:y0.fty.length ≤ 1000) (ht:ty.length ≤ 1000):Km8 (⟨s⟩,⟨[],z,[y0],0,[]⟩,ctx,⟨7,N,ty,ks⟩,[Kvr a],us)=some (Kym (2 :: (ty ++ y0.fty)) a [y0]):=by
 have hc:=Kx0 [[2],ty,y0.fty] (by simp) (by simp; omega)
 unfold Km8 Klo Kym Kka
 simp only [List.flatten_cons,List.flatten_nil,List.append_nil,List.singleton_append,List.cons_append,List.nil_append] at hc
 simp [Kyn,Kyo,hc]
 split <;> rename_i q40
 ·rw [if_pos (by omega)]
 ·rw [if_neg (by omega)]
include hs
theorem Kyu (ha:Kw7 n a) (hb:Kw7 n b) (hl:a.length ≤ 1000000) (hab:a.length=b.length):Km8 (⟨s⟩,⟨[],z,[y0,y1],0,[]⟩,ctx,⟨2,N,ty,ks⟩,[Kvr a,Kvr b],us)=some (Kym [0] (Kw4 s n a b) [y0,y1]):=by
 have h:=Kwm hs a b ha hb (by omega) hab
 unfold Km8 Klo Kym
 simp [Kyn,Kyo,h]
theorem Kyv (ha:Kw7 n a) (hb:Kw7 n b) (hd:Kw7 n d) (hl:a.length ≤ 1000000) (hab:a.length=b.length) (had:a.length=d.length) (h2:y2.fty.length ≤ 1000) (h1:y1.fty.length ≤ 40) :
  Km8 (⟨s⟩,⟨[],z,[y0,y1,y2],0,[]⟩,ctx,⟨3,N,ty,ks⟩,[Kvr a,Kvr b,Kvr d],us)=some (if y1.fty=y2.fty then Kym y1.fty (Kw4 s n a (Kw6 s n b d)) [y0,y1,y2] else (3,⟨[],z,[y0,y1,y2],0,[]⟩)):=by
 have hj:=Kwo hs b d hb hd (by omega) (by omega)
 have hlj:(Kw6 s n b d).length=a.length:=by unfold Kw6; rw [List.length_zipWith]; omega
 have h:=Kwm hs a (Kw6 s n b d) ha (Kwc hs hb hd) (by omega) hlj.symm
 have he:=Kvc y1.fty y2.fty (by omega)
 unfold Km8 Klo Kym Kka
 by_cases hq:y1.fty=y2.fty
 ·rw [show (y1.fty == y2.fty)=true from beq_iff_eq.2 hq] at he
  rw [if_pos hq]
  simp [Kyn,Kyo,Kyp,he,hj,h,show ¬ (40 < (y1.fty.length:Int)) by omega,show ¬ (40 < y1.fty.length) by omega]
 ·rw [show (y1.fty == y2.fty)=false from beq_eq_false_iff_ne.2 hq] at he
  rw [if_neg hq]
  simp [Kyn,Kyo,Kyp,he]
theorem Kyw (ha:Kw7 n a) (hb:Kw7 n b) (hl:a.length ≤ 1000000) (hab:a.length=b.length) (h0:y0.fty.length ≤ 1000) (h1:y1.fty.length ≤ 1000) :
  Km8 (⟨s⟩,⟨[],z,[y0,y1],0,[]⟩,ctx,⟨4,N,ty,ks⟩,[Kvr a,Kvr b],us)=some (Kym (1 :: (y0.fty ++ y1.fty)) (Kw4 s n a b) [y0,y1]):=by
 have h:=Kwm hs a b ha hb (by omega) hab
 have hc:=Kx0 [[1],y0.fty,y1.fty] (by simp) (by simp; omega)
 unfold Km8 Klo Kym Kka
 simp only [List.flatten_cons,List.flatten_nil,List.append_nil,List.singleton_append,List.cons_append,List.nil_append] at hc
 simp [Kyn,Kyo,hc,h]
 split <;> rename_i q40
 ·rw [if_pos (by omega)]
 ·rw [if_neg (by omega)]
theorem Kyx {g:Nat} (hg:g < n) {u:List Nat} (hu:Kw7 n u) (hul:u.length ≤ 1000000) (hy:y0.fty.length ≤ 1000) (ht:ty.length ≤ 1000) :
  Km8 (⟨s⟩,⟨[],z,[y0],0,[]⟩,ctx,⟨9,(g:Int),ty,ks⟩,[Kvr a],[Kvr u])=some (if (u.all fun x=>le s n x g)=true then Kym ((3 + (g:Int)) :: (ty ++ y0.fty)) a [y0] else (9,⟨[],z,[y0],0,[]⟩)):=by
 have hn:=hs.tab.hi
 have e:=Kws hs g hg u hu (by omega)
 have hw:wr (3 + (g:Int))=3 + (g:Int):=Kpg (by omega) (by omega)
 have hc:=Kx0 [[3 + (g:Int)],ty,y0.fty] (by simp) (by simp; omega)
 unfold Km8 Klo Kym Kka
 simp only [List.flatten_cons,List.flatten_nil,List.append_nil,List.singleton_append,List.cons_append,List.nil_append] at hc
 cases hq:(u.all fun x=>le s n x g) with
 | true =>
  rw [hq] at e
  simp [Kyn,Kyo,e,hc,hw]
  split <;> rename_i q40
  ·rw [if_pos (by omega)]
  ·rw [if_neg (by omega)]
 | false =>
  rw [hq] at e
  simp [Kyn,Kyo,e]
theorem Kyy {g:Nat} (hg:g < n) (ha:Kw7 n a) (hl:a.length ≤ 1000000) (hy:y0.fty.length ≤ 1000) :
  Km8 (⟨s⟩,⟨[],z,[y0],0,[]⟩,ctx,⟨11,(g:Int),ty,ks⟩,[Kvr a],us)=some (Kym ((19 + (g:Int)) :: y0.fty) (Kw5 s n g a) [y0]):=by
 have hn:=hs.tab.hi
 have e:=Kwq hs g hg a ha (by omega)
 have hw:wr (19 + (g:Int))=19 + (g:Int):=Kpg (by omega) (by omega)
 have hc:=Kx0 [[19 + (g:Int)],y0.fty] (by simp) (by simp; omega)
 unfold Km8 Klo Kym Kka
 simp only [List.flatten_cons,List.flatten_nil,List.append_nil,List.singleton_append,List.cons_append,List.nil_append] at hc
 simp [Kyn,Kyo,hc,hw,e]
 split <;> rename_i q40
 ·rw [if_pos (by omega)]
 ·rw [if_neg (by omega)]
theorem Kyz {g:Nat} (hg:g < n) {p q:List Int} (hty:y0.fty=(3 + (g:Int)) :: (p ++ q)) (hP:Kxl s (3 + (g:Int)) p q) (ha:Kw7 n a) (hb:Kw7 n b) (hl:a.length ≤ 1000000) (hab:a.length=b.length) :
  Km8 (⟨s⟩,⟨[],z,[y0,y1],0,[]⟩,ctx,⟨10,N,ty,ks⟩,[Kvr a,Kvr b],us)=some (Kym q (Kw4 s n a (Kw5 s n g b)) [y0,y1]):=by
 have hn:=hs.tab.hi
 have e:=Kwq hs g hg b hb (by omega)
 have hlj:(Kw5 s n g b).length=a.length:=by unfold Kw5; rw [List.length_map]; omega
 have h:=Kwm hs a (Kw5 s n g b) ha (Kwb hs hg hb) (by omega) hlj.symm
 have hsh:Kr6 (3 + (g:Int))=(3,(g:Int)):=by
  rcases Kr8 (3 + (g:Int)) with h | h | h | h | h | h | h | h <;> first | omega | (obtain ⟨_,e⟩:=h; rw [e]; congr 1; omega)
 have hq:=Kxi hP.yb
 have pp:=hP.pp
 rw [← hty] at pp
 have i0:idx y0.fty 0=some (3 + (g:Int)):=by rw [hty]; rfl
 unfold Km8 Klo Kym Kka
 simp [Kyn,Kyo,i0,Kr7,hsh,pp,e,h,show ¬ (40 < (q.length:Int)) by omega,show ¬ (40 < q.length) by omega]
theorem Kz0 {g:Nat} (hg:g < n) {u:List Nat} {us':List Int} (hu:Kw7 n u) (hul:u.length ≤ 1000000) (ha:Kw7 n a) (hb:Kw7 n b) (hl:a.length ≤ 1000000) (hab:a.length=b.length) (h1:y1.fty.length ≤ 40) :
  Km8 (⟨s⟩,⟨[],z,[y0,y1],0,[]⟩,ctx,⟨5,(g:Int),ty,ks⟩,[Kvr a,Kvr b],[us',Kvr u])=some (if (u.all fun x=>le s n x g)=true then Kym y1.fty (Kw4 s n (Kw5 s n g a) b) [y0,y1] else (9,⟨[],z,[y0,y1],0,[]⟩)):=by
 have e:=Kws hs g hg u hu (by omega)
 have e2:=Kwq hs g hg a ha (by omega)
 have hlj:(Kw5 s n g a).length=a.length:=by unfold Kw5; rw [List.length_map]
 have h:=Kwm hs (Kw5 s n g a) b (Kwb hs hg ha) hb (by omega) (by omega)
 unfold Km8 Klo Kym Kka
 cases hq:(u.all fun x=>le s n x g) with
 | true =>
  rw [hq] at e
  simp [Kyn,Kyo,e,e2,h,show ¬ (40 < (y1.fty.length:Int)) by omega,show ¬ (40 < y1.fty.length) by omega]
 | false =>
  rw [hq] at e
  simp [Kyn,Kyo,e]
theorem Kz1 {g m:Nat} (hg:g < n) (hm:m < n) {p:List Int} (hty:y0.fty=(19 + (m:Int)) :: p) {u:List Nat} {us':List Int} (hu:Kw7 n u) (hul:u.length ≤ 1000000) (ha:Kw7 n a) (hb:Kw7 n b) (hl:a.length ≤ 1000000) (hab:a.length=b.length) (h1:y1.fty.length ≤ 40) :
  Km8 (⟨s⟩,⟨[],z,[y0,y1],0,[]⟩,ctx,⟨12,(g:Int),ty,ks⟩,[Kvr a,Kvr b],[us',Kvr u])=some (if (u.all fun x=>le s n x (ti s n g m))=true then Kym y1.fty (Kw4 s n (Kw5 s n g a) b) [y0,y1] else (9,⟨[],z,[y0,y1],0,[]⟩)):=by
 have hn:=hs.tab.hi
 have e0:=Kq7 hs.tab hg hm
 have e:=Kws hs (ti s n g m) (Kq0 hs.tab hg hm) u hu (by omega)
 have e2:=Kwq hs g hg a ha (by omega)
 have hlj:(Kw5 s n g a).length=a.length:=by unfold Kw5; rw [List.length_map]
 have h:=Kwm hs (Kw5 s n g a) b (Kwb hs hg ha) hb (by omega) (by omega)
 have hsh:Kr6 (19 + (m:Int))=(4,(m:Int)):=by
  rcases Kr8 (19 + (m:Int)) with h | h | h | h | h | h | h | h <;> first | omega | (obtain ⟨_,e⟩:=h; rw [e]; congr 1; omega)
 have i0:idx y0.fty 0=some (19 + (m:Int)):=by rw [hty]; rfl
 unfold Km8 Klo Kym Kka
 cases hq:(u.all fun x=>le s n x (ti s n g m)) with
 | true =>
  rw [hq] at e
  simp [Kyn,Kyo,i0,Kr7,hsh,e0,e,e2,h,show ¬ (40 < (y1.fty.length:Int)) by omega,show ¬ (40 < y1.fty.length) by omega]
 | false =>
  rw [hq] at e
  simp [Kyn,Kyo,i0,Kr7,hsh,e0,e]
theorem Kz2 {g:Nat} (hg:g < n) {u v:List Nat} {us':List Int} (hu:Kw7 n u) (hul:u.length ≤ 1000000) (hv:Kw7 n v) (hvl:v.length ≤ 1000000) (ha:Kw7 n a) (hb:Kw7 n b) (hd:Kw7 n d) (hl:a.length ≤ 1000000) (hab:a.length=b.length) (had:a.length=d.length) (h2:y2.fty.length ≤ 1000) (h1:y1.fty.length ≤ 40) :
  Km8 (⟨s⟩,⟨[],z,[y0,y1,y2],0,[]⟩,ctx,⟨8,(g:Int),ty,ks⟩,[Kvr a,Kvr b,Kvr d],[us',Kvr u,Kvr v]) =
   some (if y1.fty=y2.fty then (if (u.all fun x=>le s n x g)=true∧(v.all fun x=>le s n x g)=true then Kym y1.fty (Kw4 s n (Kw5 s n g a) (Kw6 s n b d)) [y0,y1,y2] else (9,⟨[],z,[y0,y1,y2],0,[]⟩)) else (3,⟨[],z,[y0,y1,y2],0,[]⟩)):=by
 have e:=Kws hs g hg u hu (by omega)
 have e':=Kws hs g hg v hv (by omega)
 have e2:=Kwq hs g hg a ha (by omega)
 have hj:=Kwo hs b d hb hd (by omega) (by omega)
 have hlj:(Kw6 s n b d).length=a.length:=by unfold Kw6; rw [List.length_zipWith]; omega
 have hls:(Kw5 s n g a).length=a.length:=by unfold Kw5; rw [List.length_map]
 have h:=Kwm hs (Kw5 s n g a) (Kw6 s n b d) (Kwb hs hg ha) (Kwc hs hb hd) (by omega) (by omega)
 have he:=Kvc y1.fty y2.fty (by omega)
 unfold Km8 Klo Kym Kka
 by_cases hq:y1.fty=y2.fty
 ·rw [show (y1.fty == y2.fty)=true from beq_iff_eq.2 hq] at he
  rw [if_pos hq]
  cases hu':(u.all fun x=>le s n x g) with
  | false =>
   rw [hu'] at e
   simp [Kyn,Kyo,Kyp,he,e]
  | true =>
   rw [hu'] at e
   cases hv':(v.all fun x=>le s n x g) with
   | false =>
    rw [hv'] at e'
    simp [Kyn,Kyo,Kyp,he,e,e']
   | true =>
    rw [hv'] at e'
    simp [Kyn,Kyo,Kyp,he,e,e',e2,hj,h,show ¬ (40 < (y1.fty.length:Int)) by omega,show ¬ (40 < y1.fty.length) by omega]
 ·rw [show (y1.fty == y2.fty)=false from beq_eq_false_iff_ne.2 hq] at he
  rw [if_neg hq]
  simp [Kyn,Kyo,Kyp,he]
end
def Kz3 (t:K01) (i:Nat) (kids:List K03):List (List Int):=(Kj5 (t,(i:Int),(match kids with | []=>[] | y :: _=>y.fty))).getD []
structure Kz4 (s:K00) (ctx:List (List Int)) (t:K01) (kids:List K03) (i:Nat) (k:K01) (y:K03):Prop where
 im:Kme (⟨s⟩,Kz3 t i kids ++ ctx,k)=some y
 fa:y.ffault=0
 ty:∀ q ∈ Kz3 t i kids,TyS s q
 ln:(Kz3 t i kids).length=Ksc t.fOp i
structure Kz5 (s:K00) (n:Nat) (ctx:List (List Int)) (t:K01) (x:K02) (y:K03):Prop where
 sp:Kf9 (s,ctx,t)=some x
 im:Kme (⟨s⟩,ctx,t)=some y
 ty:y.fty=x.fty
 ne:y.fneeds=x.fneeds
 fa:y.ffault=x.ffault
 pa:y.fpath=x.fpath
 pl:x.fpath.length + 1 ≤ tsz t
 bd:x.ffault ≠ 0→x.fty=[]∧x.fneeds=[]
 gd:x.ffault=0→TyS s x.fty∧x.fpath=[]∧∃ ns:List Nat,x.fneeds=Kvr ns∧ns.length=ctx.length∧Kw7 n ns
 kd:x.ffault=0→y.fkids.length=t.fKids.length∧∀ (i:Nat) (k:K01),t.fKids[i]?=some k→∃ yk,y.fkids[i]?=some yk∧Kz4 s ctx t y.fkids i k yk
section
variable {s:K00} {n:Nat} {ctx:List (List Int)} {t:K01}
theorem Kz5.bad {f:Int} {p:List Int} (sp:Kf9 (s,ctx,t)=some ⟨[],[],f,p⟩) (im:Kme (⟨s⟩,ctx,t)=some ⟨[],[],[],f,p⟩) (hf:f ≠ 0) (hp:p.length + 1 ≤ tsz t):∃ x y,Kz5 s n ctx t x y :=
 ⟨_,_,{ sp:=sp,im:=im,ty:=rfl,ne:=rfl,fa:=rfl,pa:=rfl,pl:=hp,bd:=fun _=>⟨rfl,rfl⟩,gd:=fun h=>absurd h hf,kd:=fun h=>absurd h hf }⟩
theorem Kz5.good {q:List Int} {ns:List Nat} {kids:List K03} (sp:Kf9 (s,ctx,t)=some ⟨q,Kvr ns,0,[]⟩) (im:Kme (⟨s⟩,ctx,t)=some ⟨q,Kvr ns,kids,0,[]⟩) (hp:1 ≤ tsz t) (hq:TyS s q) (hl:ns.length=ctx.length) (hb:Kw7 n ns)
  (kl:kids.length=t.fKids.length) (kd:∀ (i:Nat) (k:K01),t.fKids[i]?=some k→∃ yk,kids[i]?=some yk∧Kz4 s ctx t kids i k yk):∃ x y,Kz5 s n ctx t x y :=
 ⟨_,_,{ sp:=sp,im:=im,ty:=rfl,ne:=rfl,fa:=rfl,pa:=rfl,pl:=by simpa using hp,bd:=fun h=>absurd rfl h,gd:=fun _=>⟨hq,rfl,ns,rfl,hl,hb⟩,kd:=fun _=>⟨kl,kd⟩ }⟩
theorem Kz5.done {q:List Int} {ns:List Nat} {kids:List K03} (sp:Kf9 (s,ctx,t)=Kej (q,Kvr ns)) (im:Kme (⟨s⟩,ctx,t)=some (if (Kym q ns kids).1=0 then ⟨(Kym q ns kids).2.fty,(Kym q ns kids).2.fneeds,(Kym q ns kids).2.fkids,0,(Kym q ns kids).2.fpath⟩ else ⟨[],[],[],(Kym q ns kids).1,[]⟩)) (hp:1 ≤ tsz t)
  (hq:q.length ≤ 40→TyS s q) (hl:ns.length=ctx.length) (hb:Kw7 n ns) (kl:kids.length=t.fKids.length) (kd:∀ (i:Nat) (k:K01),t.fKids[i]?=some k→∃ yk,kids[i]?=some yk∧Kz4 s ctx t kids i k yk):∃ x y,Kz5 s n ctx t x y:=by
 unfold Kej Ke2 at sp
 simp only at sp
 unfold Kym at im
 by_cases h:q.length > 40
 ·rw [decide_eq_true (by omega),if_pos rfl,bs] at sp
  rw [if_pos h,if_neg (by simp)] at im
  exact Kz5.bad sp im (by decide) (by simpa using hp)
 ·rw [decide_eq_false (by omega),if_neg (by decide)] at sp
  rw [if_neg h,if_pos rfl] at im
  exact Kz5.good sp im hp (hq (by omega)) hl hb kl kd
theorem Kz6 {i:Nat} {k:K01} {x:K02} {y:K03} {c:List (List Int)} (hk:t.fKids[i]?=some k) (h:Kz5 s n c k x y) (hf:x.ffault=0):Kfb (s,c,t,(i:Int))=some x:=by
 obtain ⟨h1,h2⟩:=List.getElem?_eq_some_iff.1 hk
 rw [Kfb.eq_def]
 simp only
 rw [Kph h1,h2,bs,h.sp,bs,if_neg (by simp [hf]),bs]
theorem Kz7 {i:Nat} {k:K01} {x:K02} {y:K03} {c:List (List Int)} (hk:t.fKids[i]?=some k) (h:Kz5 s n c k x y) (hz:tsz k ≤ 1000000) (hf:x.ffault ≠ 0):Kfb (s,c,t,(i:Int))=some ⟨[],[],x.ffault,(i:Int) :: x.fpath⟩:=by
 obtain ⟨h1,h2⟩:=List.getElem?_eq_some_iff.1 hk
 have hp:=h.pl
 obtain ⟨q1,q2⟩:=h.bd hf
 rw [Kfb.eq_def]
 simp only
 rw [Kph h1,h2,bs,h.sp,bs,if_pos (bne_iff_ne.2 hf),Kt0 (by simp; omega),bs,bs,q1,q2]
 rfl
variable {out:List K03} {nd us:List (List Int)} {w:Nat} {k:K01} {m:List (List Int)} {x:K02} {y:K03}
theorem Kz8 (hk:t.fKids[w]?=some k) (hm:Ky0 t out w=some m) (r:Kz5 s n (m ++ ctx) k x y) (hz:tsz k ≤ 1000000) (hc:ctx.length + m.length ≤ 1000000) (hf:x.ffault ≠ 0) :
  Kmf (⟨s⟩,ctx,t,out,nd,us,(w:Int))=some (.inr ⟨[],[],[],x.ffault,(w:Int) :: x.fpath⟩):=by
 obtain ⟨h1,h2⟩:=List.getElem?_eq_some_iff.1 hk
 have hp:=r.pl
 rw [Ky2 h1 (by rw [Kph h1,h2]) hm hc r.im,Ky7 (by rw [r.fa]; exact hf) (by rw [r.pa]; omega),r.fa,r.pa]
theorem Kz9 {f:Int} (hk:t.fKids[w]?=some k) (hm:Ky0 t out w=some m) (r:Kz5 s n (m ++ ctx) k x y) (hc:ctx.length + m.length ≤ 1000000) (hf:x.ffault=0) (h:Kjn (⟨s⟩,t,(w:Int),x.fty)=some f) (hf0:f ≠ 0) :
  Kmf (⟨s⟩,ctx,t,out,nd,us,(w:Int))=some (.inr ⟨[],[],[],f,[]⟩):=by
 obtain ⟨h1,h2⟩:=List.getElem?_eq_some_iff.1 hk
 rw [Ky2 h1 (by rw [Kph h1,h2]) hm hc r.im,Ky8 (by rw [r.fa]; exact hf) (by rw [r.ty]; exact h) hf0]
theorem Kza (hk:t.fKids[w]?=some k) (hm:Ky0 t out w=some m) (r:Kz5 s n (m ++ ctx) k x y) (hc:ctx.length + m.length ≤ 1000000) (hf:x.ffault=0) (h:Kjn (⟨s⟩,t,(w:Int),x.fty)=some 0) (ha:Ky6 t out w y=some true) :
  Kmf (⟨s⟩,ctx,t,out,nd,us,(w:Int))=some (.inr ⟨[],[],[],3,[]⟩):=by
 obtain ⟨h1,h2⟩:=List.getElem?_eq_some_iff.1 hk
 rw [Ky2 h1 (by rw [Kph h1,h2]) hm hc r.im,Ky9 (by rw [r.fa]; exact hf) (by rw [r.ty]; exact h) ha]
theorem Kzb {ns:List Nat} (hk:t.fKids[w]?=some k) (hm:Ky0 t out w=some m) (r:Kz5 s n (m ++ ctx) k x y) (hc:ctx.length + m.length ≤ 1000000) (hf:x.ffault=0) (h:Kjn (⟨s⟩,t,(w:Int),x.fty)=some 0) (ha:Ky6 t out w y=some false)
  (hn:x.fneeds=Kvr ns) (hl:m.length ≤ ns.length) (h1':out.length ≤ 1000000) (h2':nd.length ≤ 1000000) (h3':us.length ≤ 1000000) (h4':w ≤ 1000000) :
  Kmf (⟨s⟩,ctx,t,out,nd,us,(w:Int))=Kmf (⟨s⟩,ctx,t,(out ++ [y]),(nd ++ [Kvr (ns.drop m.length)]),(us ++ [Kvr (ns.take m.length)]),((w + 1:Nat):Int)):=by
 obtain ⟨h1,h2⟩:=List.getElem?_eq_some_iff.1 hk
 rw [Ky2 h1 (by rw [Kph h1,h2]) hm hc r.im,Kya (by rw [r.fa]; exact hf) (by rw [r.ty]; exact h) ha (by rw [r.ne]; exact hn) hl h1' h2' h3' h4']
end
theorem Kzc {op N:Int} {ty:List Int} {ks:List K01} {i:Nat} {q:List Int} (h9:op ≠ 9) (h:Ksc op (i:Int)=0):Kj5 (⟨op,N,ty,ks⟩,(i:Int),q)=some []:=by
 unfold Kj5
 simp only
 rw [if_neg (by simpa using h9),Ksf,bs,h]
 rfl
theorem Kzd {N:Int} {ty:List Int} {ks:List K01} {i:Nat} {q:List Int}:Kj5 (⟨9,N,ty,ks⟩,(i:Int),q)=some [ty]:=by
 unfold Kj5
 simp only
 rw [if_pos (by decide)]
theorem Kze {s:K00} {N:Int} {ty:List Int} {ks:List K01} {p q:List Int} (h:Kxl s 1 p q):Kj5 (⟨5,N,ty,ks⟩,((1:Nat):Int),1 :: (p ++ q))=some [q,p]:=by
 unfold Kj5
 simp only
 rw [if_neg (by decide),Ksf,bs,show Ksc 5 ((1:Nat):Int)=2 from rfl,if_neg (by decide),h.pp,bs,if_pos (by decide)]
 rfl
theorem Kzf {s:K00} {N:Int} {ty:List Int} {ks:List K01} {p q:List Int} (h:Kxl s 2 p q):Kj5 (⟨8,N,ty,ks⟩,((1:Nat):Int),2 :: (p ++ q))=some [p]:=by
 unfold Kj5
 simp only
 rw [if_neg (by decide),Ksf,bs,show Ksc 8 ((1:Nat):Int)=1 from rfl,if_neg (by decide),h.pp,bs,if_neg (by decide),if_pos (by decide)]
 rfl
theorem Kzg {s:K00} {N:Int} {ty:List Int} {ks:List K01} {p q:List Int} (h:Kxl s 2 p q):Kj5 (⟨8,N,ty,ks⟩,((2:Nat):Int),2 :: (p ++ q))=some [q]:=by
 unfold Kj5
 simp only
 rw [if_neg (by decide),Ksf,bs,show Ksc 8 ((2:Nat):Int)=1 from rfl,if_neg (by decide),h.pp,bs,if_neg (by decide),if_pos (by decide)]
 rfl
theorem Kzh {s:K00} {N c:Int} {ty:List Int} {ks:List K01} {p:List Int} (h:Kxm s c p):Kj5 (⟨12,N,ty,ks⟩,((1:Nat):Int),c :: p)=some [p]:=by
 unfold Kj5
 simp only
 rw [if_neg (by decide),Ksf,bs,show Ksc 12 ((1:Nat):Int)=1 from rfl,if_neg (by decide),h.pp,bs,if_neg (by decide),if_neg (by decide)]
theorem Kzi {op N:Int} {ty:List Int} {ks:List K01} (h9:op ≠ 9):Ky0 ⟨op,N,ty,ks⟩ [] 0=some []:=by
 unfold Ky0
 simp [h9]
theorem Kzj {N:Int} {ty:List Int} {ks:List K01}:Ky0 ⟨9,N,ty,ks⟩ [] 0=some [ty]:=by
 unfold Ky0
 have:=@Kzd N ty ks 0 []
 simp at this ⊢
 rw [this]
theorem Kzk {t:K01} {w:Nat} {y0:K03} {l:List K03} {m:List (List Int)} (hw:0 < w) (h:Kj5 (t,(w:Int),y0.fty)=some m):Ky0 t (y0 :: l) w=some m:=by
 unfold Ky0
 rw [show decide ((w:Int) > 0)=true from decide_eq_true (by omega),if_pos rfl,bs,if_pos rfl,if_pos rfl,Kyn,bs,bs,h,bs]
theorem Kzl {t:K01} {i:Nat} {y0:K03} {l:List K03} {m:List (List Int)} (h:Kj5 (t,(i:Int),y0.fty)=some m):Kz3 t i (y0 :: l)=m:=by
 unfold Kz3
 simp only
 rw [h]; rfl
theorem kd1 {s:K00} {ctx:List (List Int)} {op N:Int} {ty:List Int} {k0:K01} {y0:K03} (h0:Kz4 s ctx ⟨op,N,ty,[k0]⟩ [y0] 0 k0 y0) :
  ∀ (i:Nat) (k:K01),(⟨op,N,ty,[k0]⟩:K01).fKids[i]?=some k→∃ yk,[y0][i]?=some yk∧Kz4 s ctx ⟨op,N,ty,[k0]⟩ [y0] i k yk:=by
 intro i k hk
 match i,hk with
 | 0,hk=>cases hk; exact ⟨y0,rfl,h0⟩
 | i + 1,hk=>simp at hk
theorem kd2 {s:K00} {ctx:List (List Int)} {op N:Int} {ty:List Int} {k0 k1:K01} {y0 y1:K03} (h0:Kz4 s ctx ⟨op,N,ty,[k0,k1]⟩ [y0,y1] 0 k0 y0) (h1:Kz4 s ctx ⟨op,N,ty,[k0,k1]⟩ [y0,y1] 1 k1 y1) :
  ∀ (i:Nat) (k:K01),(⟨op,N,ty,[k0,k1]⟩:K01).fKids[i]?=some k→∃ yk,[y0,y1][i]?=some yk∧Kz4 s ctx ⟨op,N,ty,[k0,k1]⟩ [y0,y1] i k yk:=by
 intro i k hk
 match i,hk with
 | 0,hk=>cases hk; exact ⟨y0,rfl,h0⟩
 | 1,hk=>cases hk; exact ⟨y1,rfl,h1⟩
 | i + 2,hk=>simp at hk
theorem kd3 {s:K00} {ctx:List (List Int)} {op N:Int} {ty:List Int} {k0 k1 k2:K01} {y0 y1 y2:K03} (h0:Kz4 s ctx ⟨op,N,ty,[k0,k1,k2]⟩ [y0,y1,y2] 0 k0 y0) (h1:Kz4 s ctx ⟨op,N,ty,[k0,k1,k2]⟩ [y0,y1,y2] 1 k1 y1) (h2:Kz4 s ctx ⟨op,N,ty,[k0,k1,k2]⟩ [y0,y1,y2] 2 k2 y2) :
  ∀ (i:Nat) (k:K01),(⟨op,N,ty,[k0,k1,k2]⟩:K01).fKids[i]?=some k→∃ yk,[y0,y1,y2][i]?=some yk∧Kz4 s ctx ⟨op,N,ty,[k0,k1,k2]⟩ [y0,y1,y2] i k yk:=by
 intro i k hk
 match i,hk with
 | 0,hk=>cases hk; exact ⟨y0,rfl,h0⟩
 | 1,hk=>cases hk; exact ⟨y1,rfl,h1⟩
 | 2,hk=>cases hk; exact ⟨y2,rfl,h2⟩
 | i + 3,hk=>simp at hk
theorem Kz4.mk' {s:K00} {n:Nat} {ctx m:List (List Int)} {t k:K01} {y0:K03} {l:List K03} {i:Nat} {x:K02} {y:K03} (ha:Kj5 (t,(i:Int),y0.fty)=some m) (r:Kz5 s n (m ++ ctx) k x y) (hf:x.ffault=0) (hm:∀ q ∈ m,TyS s q) (hl:m.length=Ksc t.fOp i):Kz4 s ctx t (y0 :: l) i k y:=by
 have e:=Kzl (l:=l) ha
 exact ⟨by rw [e]; exact r.im,by rw [r.fa]; exact hf,by rw [e]; exact hm,by rw [e]; exact hl⟩
def Kzm (s:K00) (n sz:Nat):Prop:=∀ (k:K01) (c:List (List Int)),Kxv s c.length k sz→(∀ q ∈ c,TyS s q)→c.length + 2 * tsz k ≤ 1000000→∃ x y,Kz5 s n c k x y
theorem Kzn {X:Option K03} {q:List Int} {ns:List Nat} {kids:List K03} (h:q.length ≤ 40) (im:X=some (if (Kym q ns kids).1=0 then (⟨(Kym q ns kids).2.fty,(Kym q ns kids).2.fneeds,(Kym q ns kids).2.fkids,0,(Kym q ns kids).2.fpath⟩:K03) else ⟨[],[],[],(Kym q ns kids).1,[]⟩)):X=some ⟨q,Kvr ns,kids,0,[]⟩:=by
 rw [im]
 unfold Kym
 simp only
 rw [show (if q.length > 40 then (3:Int) else 0)=0 from if_neg (by omega),if_pos rfl]
section
variable {s:K00} {n:Nat} (hs:Kvw s n) {ctx:List (List Int)} {N:Int} {ty:List Int} {ks:List K01}
theorem Kzo {op:Int} {k0:K01} {l:List K01} {x0:K02} {y0:K03} (h0:op ≠ 0) (h1:op ≠ 1) (h9:op ≠ 9) (hb:ctx.length + 2 * tsz (⟨op,N,ty,k0 :: l⟩:K01) ≤ 1000000) (r0:Kz5 s n ctx k0 x0 y0) (f0:x0.ffault ≠ 0) :
  ∃ x y,Kz5 s n ctx ⟨op,N,ty,k0 :: l⟩ x y:=by
 have hz:tsz k0 + 1 ≤ tsz (⟨op,N,ty,k0 :: l⟩:K01):=by rw [tsz,Krs]; omega
 have e0:Kfb (s,ctx,⟨op,N,ty,k0 :: l⟩,0)=some ⟨[],[],x0.ffault,0 :: x0.fpath⟩:=Kz7 (i:=0) rfl r0 (by omega) f0
 refine Kz5.bad (f:=x0.ffault) (p:=0 :: x0.fpath) ?_ (Kyb (by omega) (Kz8 (m:=[]) rfl (Kzi h9) r0 (by omega) (by simp; omega) f0)) f0 (by have:=r0.pl; simp; omega)
 rw [Kf9.eq_def]
 simp [h0,h1,h9,e0,f0]
include hs
theorem Kzp {t:K01} (ht:t.fOp=0) (h:tOk (gN s.fSize true) (yN s.fSize true) ctx.length t=true) (hc:∀ q ∈ ctx,TyS s q) (hb:ctx.length + 2 * tsz t ≤ 1000000):∃ x y,Kz5 s n ctx t x y:=by
 obtain ⟨i,hi,hl,hk⟩:=Kxy h ht
 obtain ⟨op,N,ty,ks⟩:=t
 simp only at ht hi hk
 subst ht; subst hi; subst hk
 have hq:ctx[i]?=some ctx[i]:=List.getElem?_eq_getElem hl
 have hy:=hc ctx[i] (List.getElem_mem hl)
 have e1:idx ctx (i:Int)=some ctx[i]:=Kph hl
 have hz:=Kwt ctx.length (by omega)
 have e2:idx (Kvr (List.replicate ctx.length 0)) (i:Int)=some (((List.replicate ctx.length (0:Nat))[i]'(by simpa using hl):Nat):Int):=by
  rw [Kph (by rw [Kvs]; simpa using hl)]; simp [Kvr]
 have e3:List.set (Kvr (List.replicate ctx.length 0)) i 1=Kvr ((List.replicate ctx.length 0).set i 1):=by unfold Kvr; rw [List.map_set]; rfl
 have hf:=Kyq (s:=s) (ty:=ty) (ks:=[]) (zs:=List.replicate ctx.length 0) hq (by simpa using hl) (Kxi hy)
 have im:=Kyc (p0:=⟨s⟩) (t:=⟨0,(i:Int),ty,[]⟩) (by omega) (Ky3 (Nat.le_refl _)) hf
 refine Kz5.good (q:=ctx[i]) (ns:=(List.replicate ctx.length 0).set i 1) (kids:=[]) ?_ ?_ (by rw [tsz]; omega) hy (by simp) ?_ rfl (fun i k hk=>by simp at hk)
 ·rw [Kf9.eq_def]
  simp [hz,e1,e2,Kt2 ctx[i] (by have:=Kxi hy; omega),e3]
 ·exact Kzn (Kxi hy) im
 ·intro x hx
  have h1:=Kvy hs
  rcases List.mem_or_eq_of_mem_set hx with h | rfl
  ·rw [List.eq_of_mem_replicate h]; omega
  ·exact h1
theorem Kzq {t:K01} (ht:t.fOp=1) (h:tOk (gN s.fSize true) (yN s.fSize true) ctx.length t=true) (hb:ctx.length + 2 * tsz t ≤ 1000000):∃ x y,Kz5 s n ctx t x y:=by
 have hk:=Kxz h ht
 obtain ⟨op,N,ty,ks⟩:=t
 simp only at ht hk
 subst ht; subst hk
 have hz:=Kwt ctx.length (by omega)
 have hf:=Kyr (s:=s) (N:=N) (ty:=ty) (ks:=[]) (ctx:=ctx) (zs:=List.replicate ctx.length 0)
 have im:=Kyc (p0:=⟨s⟩) (t:=⟨1,N,ty,[]⟩) (by omega) (Ky3 (Nat.le_refl _)) hf
 refine Kz5.good (q:=[0]) (ns:=List.replicate ctx.length 0) (kids:=[]) ?_ ?_ (by rw [tsz]; omega) Kxo (by simp) ?_ rfl (fun i k hk=>by simp at hk)
 ·rw [Kf9.eq_def]
  simp [hz]
 ·exact Kzn (by decide) im
 ·intro x hx
  rw [List.eq_of_mem_replicate hx]
  exact Kvz hs
theorem Kzr {q:List Int} (hq:TyS s q):∃ c r,q=c :: r∧((Kr6 c).1=0 ↔ c=0)∧(c=0→q=[0]):=by
 rcases Kxr hs hq with rfl | ⟨a,b,rfl,_⟩ | ⟨a,b,rfl,_⟩ | ⟨g,a,b,hg,h15,rfl,_⟩ | ⟨g,a,hg,h15,rfl,_⟩
 ·exact ⟨0,[],rfl,by decide,fun _=>rfl⟩
 ·exact ⟨1,_,rfl,by decide,fun h=>absurd h (by decide)⟩
 ·exact ⟨2,_,rfl,by decide,fun h=>absurd h (by decide)⟩
 ·refine ⟨_,_,rfl,?_,fun h=>by omega⟩
  rcases Kr8 (3 + (g:Int)) with h | h | h | h | h | h | h | h <;> first | omega | (obtain ⟨_,e⟩:=h; rw [e]; simp; omega)
 ·refine ⟨_,_,rfl,?_,fun h=>by omega⟩
  rcases Kr8 (19 + (g:Int)) with h | h | h | h | h | h | h | h <;> first | omega | (obtain ⟨_,e⟩:=h; rw [e]; simp; omega)
theorem Kzs (ih:Kzm s n (tsz (⟨6,N,ty,ks⟩:K01))) (h:tOk (gN s.fSize true) (yN s.fSize true) ctx.length ⟨6,N,ty,ks⟩=true) (hc:∀ q ∈ ctx,TyS s q) (hb:ctx.length + 2 * tsz (⟨6,N,ty,ks⟩:K01) ≤ 1000000):∃ x y,Kz5 s n ctx ⟨6,N,ty,ks⟩ x y:=by
 obtain ⟨k0,rfl,p0⟩:=nd1 h (Nat.le_refl _) rfl
 have hz:=Kvi 6 N ty k0
 have hy:TyS s ty:=Kxx h rfl
 have ly:=Kxi hy
 obtain ⟨x0,y0,r0⟩:=ih k0 ctx p0 hc (by omega)
 by_cases f0:x0.ffault=0
 rotate_left
 ·exact Kzo (by decide) (by decide) (by decide) hb r0 f0
 obtain ⟨g0,q0,a,na,la,ba⟩:=r0.gd f0
 obtain ⟨c0,t0,ht0,hn0,hz0⟩:=Kzr hs g0
 have L0:=Kxi g0
 have e0:Kfb (s,ctx,⟨6,N,ty,[k0]⟩,0)=some x0:=Kz6 (i:=0) rfl r0 f0
 have o0:=Kzb (out:=[]) (nd:=[]) (us:=[]) (w:=0) (t:=⟨6,N,ty,[k0]⟩) (m:=[]) rfl (Kzi (by decide)) r0 (by simp; omega) f0 (by rw [ht0]; exact Kyf (.inl (by decide))) (Kyd (show (6:Int) ≠ 10 by decide)) na (by simp <;> omega) (by simp) (by simp) (by simp) (by simp)
 have hf:=Kys (s:=s) (N:=N) (ty:=ty) (ks:=[k0]) (ctx:=ctx) (us:=[Kvr []]) (z:=Kvr (List.replicate ctx.length 0)) (y0:=y0) (a:=a) (by rw [r0.ty]; omega) (by omega)
 have im:=Kyc (p0:=⟨s⟩) (t:=⟨6,N,ty,[k0]⟩) (ctx:=ctx) (by omega) (o0.trans (Ky3 (Nat.le_refl _))) hf
 rw [r0.ty] at im
 refine Kz5.done (q:=2 :: (x0.fty ++ ty)) (ns:=a) (kids:=[y0]) ?_ im (by omega) (fun hl=>Kxs hs g0 hy (.inr (.inl rfl)) hl) la ba rfl (kd1 (Kz4.mk' (Kzc (by decide) rfl) r0 f0 (fun _ h=>by cases h) rfl))
 have hg:=Kww 2 [x0.fty,ty] (by simp) (by simp; omega)
 simp only [List.flatten_cons,List.flatten_nil,List.append_nil] at hg
 rw [Kf9.eq_def]
 simp [e0,f0,hg,na]
theorem Kzt (ih:Kzm s n (tsz (⟨7,N,ty,ks⟩:K01))) (h:tOk (gN s.fSize true) (yN s.fSize true) ctx.length ⟨7,N,ty,ks⟩=true) (hc:∀ q ∈ ctx,TyS s q) (hb:ctx.length + 2 * tsz (⟨7,N,ty,ks⟩:K01) ≤ 1000000):∃ x y,Kz5 s n ctx ⟨7,N,ty,ks⟩ x y:=by
 obtain ⟨k0,rfl,p0⟩:=nd1 h (Nat.le_refl _) rfl
 have hz:=Kvi 7 N ty k0
 have hy:TyS s ty:=Kxx h rfl
 have ly:=Kxi hy
 obtain ⟨x0,y0,r0⟩:=ih k0 ctx p0 hc (by omega)
 by_cases f0:x0.ffault=0
 rotate_left
 ·exact Kzo (by decide) (by decide) (by decide) hb r0 f0
 obtain ⟨g0,q0,a,na,la,ba⟩:=r0.gd f0
 obtain ⟨c0,t0,ht0,hn0,hz0⟩:=Kzr hs g0
 have L0:=Kxi g0
 have e0:Kfb (s,ctx,⟨7,N,ty,[k0]⟩,0)=some x0:=Kz6 (i:=0) rfl r0 f0
 have o0:=Kzb (out:=[]) (nd:=[]) (us:=[]) (w:=0) (t:=⟨7,N,ty,[k0]⟩) (m:=[]) rfl (Kzi (by decide)) r0 (by simp; omega) f0 (by rw [ht0]; exact Kyf (.inl (by decide))) (Kyd (show (7:Int) ≠ 10 by decide)) na (by simp <;> omega) (by simp) (by simp) (by simp) (by simp)
 have hf:=Kyt (s:=s) (N:=N) (ty:=ty) (ks:=[k0]) (ctx:=ctx) (us:=[Kvr []]) (z:=Kvr (List.replicate ctx.length 0)) (y0:=y0) (a:=a) (by rw [r0.ty]; omega) (by omega)
 have im:=Kyc (p0:=⟨s⟩) (t:=⟨7,N,ty,[k0]⟩) (ctx:=ctx) (by omega) (o0.trans (Ky3 (Nat.le_refl _))) hf
 rw [r0.ty] at im
 refine Kz5.done (q:=2 :: (ty ++ x0.fty)) (ns:=a) (kids:=[y0]) ?_ im (by omega) (fun hl=>Kxs hs hy g0 (.inr (.inl rfl)) hl) la ba rfl (kd1 (Kz4.mk' (Kzc (by decide) rfl) r0 f0 (fun _ h=>by cases h) rfl))
 have hg:=Kww 2 [ty,x0.fty] (by simp) (by simp; omega)
 simp only [List.flatten_cons,List.flatten_nil,List.append_nil] at hg
 rw [Kf9.eq_def]
 simp [e0,f0,hg,na]
theorem Kzu (ih:Kzm s n (tsz (⟨11,N,ty,ks⟩:K01))) (h:tOk (gN s.fSize true) (yN s.fSize true) ctx.length ⟨11,N,ty,ks⟩=true) (hc:∀ q ∈ ctx,TyS s q) (hb:ctx.length + 2 * tsz (⟨11,N,ty,ks⟩:K01) ≤ 1000000):∃ x y,Kz5 s n ctx ⟨11,N,ty,ks⟩ x y:=by
 obtain ⟨k0,rfl,p0⟩:=nd1 h (Nat.le_refl _) rfl
 have hz:=Kvi 11 N ty k0
 obtain ⟨g,hN,hg'⟩:=Kxu hs (Kxw h rfl)
 simp only at hN
 subst hN
 obtain ⟨x0,y0,r0⟩:=ih k0 ctx p0 hc (by omega)
 by_cases f0:x0.ffault=0
 rotate_left
 ·exact Kzo (by decide) (by decide) (by decide) hb r0 f0
 obtain ⟨g0,q0,a,na,la,ba⟩:=r0.gd f0
 obtain ⟨c0,t0,ht0,hn0,hz0⟩:=Kzr hs g0
 have L0:=Kxi g0
 have e0:Kfb (s,ctx,⟨11,(g:Int),ty,[k0]⟩,0)=some x0:=Kz6 (i:=0) rfl r0 f0
 have o0:=Kzb (out:=[]) (nd:=[]) (us:=[]) (w:=0) (t:=⟨11,(g:Int),ty,[k0]⟩) (m:=[]) rfl (Kzi (by decide)) r0 (by simp; omega) f0 (by rw [ht0]; exact Kyf (.inl (by decide))) (Kyd (show (11:Int) ≠ 10 by decide)) na (by simp <;> omega) (by simp) (by simp) (by simp) (by simp)
 have hf:=Kyy (ty:=ty) (ks:=[k0]) (ctx:=ctx) (us:=[Kvr []]) (z:=Kvr (List.replicate ctx.length 0)) (y0:=y0) (a:=a) hs hg' ba (by omega) (by rw [r0.ty]; omega)
 have im:=Kyc (p0:=⟨s⟩) (t:=⟨11,(g:Int),ty,[k0]⟩) (ctx:=ctx) (by omega) (o0.trans (Ky3 (Nat.le_refl _))) hf
 rw [r0.ty] at im
 have hn:=hs.tab.hi
 refine Kz5.done (q:=(19 + (g:Int)) :: x0.fty) (ns:=Kw5 s n g a) (kids:=[y0]) ?_ im (by omega) (fun hl=>Kxt hs hg' g0 hl) (by unfold Kw5; rw [List.length_map]; exact la) (Kwb hs hg' ba) rfl (kd1 (Kz4.mk' (Kzc (by decide) rfl) r0 f0 (fun _ h=>by cases h) rfl))
 have hg:=Kww (19 + (g:Int)) [x0.fty] (by simp) (by simp; omega)
 simp only [List.flatten_cons,List.flatten_nil,List.append_nil] at hg
 have hsc:=Kwb hs hg' ba
 have hz0:=Kwe hs hsc
 rw [show (Kw5 s n g a).length=ctx.length by unfold Kw5; rw [List.length_map]; exact la] at hz0
 have hsum:=Kwg hs g hg' (List.replicate ctx.length 0) a (fun x hx=>by rw [List.eq_of_mem_replicate hx]; exact Kvz hs) ba (by simp; omega) (by simp [la])
 rw [hz0] at hsum
 have hw:wr (19 + (g:Int))=19 + (g:Int):=Kpg (by omega) (by omega)
 rw [Kf9.eq_def]
 simp [e0,f0,hg,na,hw,Kwt ctx.length (by omega),hsum]
theorem Kzv (ih:Kzm s n (tsz (⟨9,N,ty,ks⟩:K01))) (h:tOk (gN s.fSize true) (yN s.fSize true) ctx.length ⟨9,N,ty,ks⟩=true) (hc:∀ q ∈ ctx,TyS s q) (hb:ctx.length + 2 * tsz (⟨9,N,ty,ks⟩:K01) ≤ 1000000):∃ x y,Kz5 s n ctx ⟨9,N,ty,ks⟩ x y:=by
 obtain ⟨k0,rfl,p0⟩:=nd1 h (Nat.le_refl _) rfl
 have hz:=Kvi 9 N ty k0
 obtain ⟨g,hN,hg'⟩:=Kxu hs (Kxw h rfl)
 simp only at hN
 subst hN
 have hy:TyS s ty:=Kxx h rfl
 have ly:=Kxi hy
 have hn:=hs.tab.hi
 have p0':Kxv s ([ty] ++ ctx).length k0 (tsz (⟨9,(g:Int),ty,[k0]⟩:K01)):=by
  have e:([ty] ++ ctx).length=ctx.length + Ksc 9 0:=by simp [Ksc]
  rw [e]; exact p0
 obtain ⟨x0,y0,r0⟩:=ih k0 ([ty] ++ ctx) p0' (fun q hq=>by rcases List.mem_cons.1 hq with rfl | hq; exact hy; exact hc q hq) (by simp; omega)
 have hw9:=Kwu ctx [ty] (by simp; omega)
 by_cases f0:x0.ffault=0
 rotate_left
 ·have e0:Kfb (s,ty :: ctx,⟨9,(g:Int),ty,[k0]⟩,0)=some ⟨[],[],x0.ffault,0 :: x0.fpath⟩:=Kz7 (i:=0) rfl r0 (by omega) f0
  refine Kz5.bad (f:=x0.ffault) (p:=0 :: x0.fpath) ?_ (Kyb (by omega) (Kz8 (m:=[ty]) rfl Kzj r0 (by omega) (by simp; omega) f0)) f0 (by have:=r0.pl; simp; omega)
  rw [Kf9.eq_def]
  simp [hw9,e0,f0]
 obtain ⟨g0,q0,a,na,la,ba⟩:=r0.gd f0
 obtain ⟨c0,t0,ht0,hn0,hz0⟩:=Kzr hs g0
 have L0:=Kxi g0
 have e0:Kfb (s,ty :: ctx,⟨9,(g:Int),ty,[k0]⟩,0)=some x0:=Kz6 (i:=0) rfl r0 f0
 have la':a.length=ctx.length + 1:=by rw [la]; simp
 obtain ⟨u0,a',rfl⟩:∃ u0 a',a=u0 :: a':=by cases a with | nil=>simp at la' | cons u a'=>exact ⟨u,a',rfl⟩
 obtain ⟨hu0,ba'⟩:=Kw8 ba
 have o0:=Kzb (out:=[]) (nd:=[]) (us:=[]) (w:=0) (t:=⟨9,(g:Int),ty,[k0]⟩) (m:=[ty]) rfl Kzj r0 (by simp; omega) f0 (by rw [ht0]; exact Kyf (.inl (by decide))) (Kyd (show (9:Int) ≠ 10 by decide)) na (by simp <;> omega) (by simp) (by simp) (by simp) (by simp)
 simp only [List.length_cons,List.length_nil,Nat.zero_add,List.drop_succ_cons,List.drop_zero,List.take_succ_cons,List.take_zero,List.nil_append] at o0
 have hf:=Kyx (ty:=ty) (ks:=[k0]) (ctx:=ctx) (z:=Kvr (List.replicate ctx.length 0)) (y0:=y0) (a:=a') (u:=[u0]) hs hg' (fun x hx=>by simp at hx; rw [hx]; exact hu0) (by simp) (by rw [r0.ty]; omega) (by omega)
 have hl0:=o0.trans (Ky3 (Nat.le_refl _))
 have hle:=sLe hs.tab hu0 hg'
 have hw:wr (3 + (g:Int))=3 + (g:Int):=Kpg (by omega) (by omega)
 have hi0:idx x0.fneeds 0=some (u0:Int):=by rw [na]; rfl
 simp only [List.all_cons,List.all_nil,Bool.and_true] at hf
 cases hl:le s n u0 g with
 | false =>
  rw [hl,if_neg (by decide)] at hf
  refine Kz5.bad (f:=9) (p:=[]) ?_ (Kyc (by omega) hl0 hf) (by decide) (by simp; omega)
  rw [Kf9.eq_def]
  simp [hw9,e0,f0,hi0,hle,hl,Ke2]
 | true =>
  rw [hl,if_pos rfl] at hf
  have im:=Kyc (by omega) hl0 hf
  rw [r0.ty] at im
  refine Kz5.done (q:=(3 + (g:Int)) :: (ty ++ x0.fty)) (ns:=a') (kids:=[y0]) ?_ im (by omega) (fun hl=>Kxs hs hy g0 (.inr (.inr ⟨g,hg',rfl⟩)) hl) (by simpa using la') ba' rfl (kd1 (Kz4.mk' (m:=[ty]) Kzd r0 f0 (fun q hq=>by simp at hq; rw [hq]; exact hy) rfl))
  have hg:=Kww (3 + (g:Int)) [ty,x0.fty] (by simp) (by simp; omega)
  simp only [List.flatten_cons,List.flatten_nil,List.append_nil] at hg
  have hcut:cut x0.fneeds (some 1) none none=some (Kvr a'):=by rw [na]; exact Kuz _ _
  rw [Kf9.eq_def]
  simp [hw9,e0,f0,hi0,hle,hl,hg,hw,hcut,Kt2 (Kvr a') (by rw [Kvs]; simp at la'; omega)]
theorem Kzw (ih:Kzm s n (tsz (⟨4,N,ty,ks⟩:K01))) (h:tOk (gN s.fSize true) (yN s.fSize true) ctx.length ⟨4,N,ty,ks⟩=true) (hc:∀ q ∈ ctx,TyS s q) (hb:ctx.length + 2 * tsz (⟨4,N,ty,ks⟩:K01) ≤ 1000000):∃ x y,Kz5 s n ctx ⟨4,N,ty,ks⟩ x y:=by
 obtain ⟨k0,k1,rfl,p0,p1⟩:=nd2 h (Nat.le_refl _) rfl
 have hz:=Kvj 4 N ty k0 k1
 obtain ⟨x0,y0,r0⟩:=ih k0 ctx p0 hc (by omega)
 obtain ⟨x1,y1,r1⟩:=ih k1 ctx p1 hc (by omega)
 by_cases f0:x0.ffault=0
 rotate_left
 ·exact Kzo (by decide) (by decide) (by decide) hb r0 f0
 obtain ⟨g0,q0,a,na,la,ba⟩:=r0.gd f0
 obtain ⟨c0,t0,ht0,hn0,hz0⟩:=Kzr hs g0
 have L0:=Kxi g0
 have e0:Kfb (s,ctx,⟨4,N,ty,[k0,k1]⟩,0)=some x0:=Kz6 (i:=0) rfl r0 f0
 have o0:=Kzb (out:=[]) (nd:=[]) (us:=[]) (w:=0) (t:=⟨4,N,ty,[k0,k1]⟩) (m:=[]) rfl (Kzi (by decide)) r0 (by simp; omega) f0 (by rw [ht0]; exact Kyf (.inl (by decide))) (Kyd (show (4:Int) ≠ 10 by decide)) na (by simp <;> omega) (by simp) (by simp) (by simp) (by simp)
 have m1:Ky0 ⟨4,N,ty,[k0,k1]⟩ [y0] 1=some []:=Kzk (by decide) (Kzc (by decide) rfl)
 by_cases f1:x1.ffault=0
 rotate_left
 ·have e1:Kfb (s,ctx,⟨4,N,ty,[k0,k1]⟩,1)=some ⟨[],[],x1.ffault,1 :: x1.fpath⟩:=Kz7 (i:=1) rfl r1 (by omega) f1
  refine Kz5.bad (f:=x1.ffault) (p:=1 :: x1.fpath) ?_ (Kyb (by omega) (o0.trans (Kz8 (m:=[]) rfl m1 r1 (by omega) (by simp; omega) f1))) f1 (by have:=r1.pl; simp; omega)
  rw [Kf9.eq_def]
  simp [e0,f0,e1,f1]
 obtain ⟨g1,q1,b,nb,lb,bb⟩:=r1.gd f1
 obtain ⟨c1,t1,ht1,hn1,hz1⟩:=Kzr hs g1
 have L1:=Kxi g1
 have e1:Kfb (s,ctx,⟨4,N,ty,[k0,k1]⟩,1)=some x1:=Kz6 (i:=1) rfl r1 f1
 have o1:=Kzb (out:=[y0]) (nd:=[Kvr a]) (us:=[Kvr []]) (w:=1) (t:=⟨4,N,ty,[k0,k1]⟩) (m:=[]) rfl m1 r1 (by simp; omega) f1 (by rw [ht1]; exact Kyf (.inl (by decide))) (Kyd (show (4:Int) ≠ 10 by decide)) nb (by simp <;> omega) (by simp) (by simp) (by simp) (by simp)
 have hf:=Kyw (N:=N) (ty:=ty) (ks:=[k0,k1]) (ctx:=ctx) (us:=[Kvr [],Kvr []]) (z:=Kvr (List.replicate ctx.length 0)) (y0:=y0) (y1:=y1) hs ba bb (by omega) (by omega) (by rw [r0.ty]; omega) (by rw [r1.ty]; omega)
 have im:=Kyc (p0:=⟨s⟩) (t:=⟨4,N,ty,[k0,k1]⟩) (ctx:=ctx) (by omega) (o0.trans (o1.trans (Ky3 (Nat.le_refl _)))) hf
 rw [r0.ty,r1.ty] at im
 refine Kz5.done (q:=1 :: (x0.fty ++ x1.fty)) (ns:=Kw4 s n a b) (kids:=[y0,y1]) ?_ im (by omega) (fun hl=>Kxs hs g0 g1 (.inl rfl) hl) (by unfold Kw4; rw [List.length_zipWith]; omega) (Kwa hs ba bb) rfl (kd2 (Kz4.mk' (Kzc (by decide) rfl) r0 f0 (fun _ h=>by cases h) rfl) (Kz4.mk' (Kzc (by decide) rfl) r1 f1 (fun _ h=>by cases h) rfl))
 have hg:=Kww 1 [x0.fty,x1.fty] (by simp) (by simp; omega)
 simp only [List.flatten_cons,List.flatten_nil,List.append_nil] at hg
 rw [Kf9.eq_def]
 simp [e0,f0,e1,f1,hg,na,nb,Kwh hs a b ba bb (by omega) (by omega)]
theorem Kzx (ih:Kzm s n (tsz (⟨2,N,ty,ks⟩:K01))) (h:tOk (gN s.fSize true) (yN s.fSize true) ctx.length ⟨2,N,ty,ks⟩=true) (hc:∀ q ∈ ctx,TyS s q) (hb:ctx.length + 2 * tsz (⟨2,N,ty,ks⟩:K01) ≤ 1000000):∃ x y,Kz5 s n ctx ⟨2,N,ty,ks⟩ x y:=by
 obtain ⟨k0,k1,rfl,p0,p1⟩:=nd2 h (Nat.le_refl _) rfl
 have hz:=Kvj 2 N ty k0 k1
 obtain ⟨x0,y0,r0⟩:=ih k0 ctx p0 hc (by omega)
 obtain ⟨x1,y1,r1⟩:=ih k1 ctx p1 hc (by omega)
 by_cases f0:x0.ffault=0
 rotate_left
 ·exact Kzo (by decide) (by decide) (by decide) hb r0 f0
 obtain ⟨g0,q0,a,na,la,ba⟩:=r0.gd f0
 obtain ⟨c0,t0,ht0,hn0,hz0⟩:=Kzr hs g0
 have L0:=Kxi g0
 have e0:Kfb (s,ctx,⟨2,N,ty,[k0,k1]⟩,0)=some x0:=Kz6 (i:=0) rfl r0 f0
 have i0:idx x0.fty 0=some c0:=by rw [ht0]; rfl
 by_cases z0:c0=0
 rotate_left
 ·refine Kz5.bad (f:=2) (p:=[]) ?_ (Kyb (by omega) (Kz9 (m:=[]) rfl (Kzi (by decide)) r0 (by simp; omega) f0 (by rw [ht0,Kyg,if_neg (by rw [hn0]; exact z0)]) (by decide))) (by decide) (by simp; omega)
  rw [Kf9.eq_def]
  simp [e0,f0,i0,z0,Ke2]
 have u0:=hz0 z0
 have s0:(Kr6 c0).1=0:=hn0.2 z0
 have o0:=Kzb (out:=[]) (nd:=[]) (us:=[]) (w:=0) (t:=⟨2,N,ty,[k0,k1]⟩) (m:=[]) rfl (Kzi (by decide)) r0 (by simp; omega) f0 (by rw [ht0,Kyg,if_pos s0]) (Kyd (show (2:Int) ≠ 10 by decide)) na (by simp <;> omega) (by simp) (by simp) (by simp) (by simp)
 have m1:Ky0 ⟨2,N,ty,[k0,k1]⟩ [y0] 1=some []:=Kzk (by decide) (Kzc (by decide) rfl)
 by_cases f1:x1.ffault=0
 rotate_left
 ·have e1:Kfb (s,ctx,⟨2,N,ty,[k0,k1]⟩,1)=some ⟨[],[],x1.ffault,1 :: x1.fpath⟩:=Kz7 (i:=1) rfl r1 (by omega) f1
  refine Kz5.bad (f:=x1.ffault) (p:=1 :: x1.fpath) ?_ (Kyb (by omega) (o0.trans (Kz8 (m:=[]) rfl m1 r1 (by omega) (by simp; omega) f1))) f1 (by have:=r1.pl; simp; omega)
  rw [Kf9.eq_def]
  simp [e0,f0,i0,z0,Kfc.eq_def,e1,f1]
 obtain ⟨g1,q1,b,nb,lb,bb⟩:=r1.gd f1
 obtain ⟨c1,t1,ht1,hn1,hz1⟩:=Kzr hs g1
 have L1:=Kxi g1
 have e1:Kfb (s,ctx,⟨2,N,ty,[k0,k1]⟩,1)=some x1:=Kz6 (i:=1) rfl r1 f1
 have i1:idx x1.fty 0=some c1:=by rw [ht1]; rfl
 by_cases z1:c1=0
 rotate_left
 ·refine Kz5.bad (f:=2) (p:=[]) ?_ (Kyb (by omega) (o0.trans (Kz9 (m:=[]) rfl m1 r1 (by simp; omega) f1 (by rw [ht1,Kyg,if_neg (by rw [hn1]; exact z1)]) (by decide)))) (by decide) (by simp; omega)
  rw [Kf9.eq_def]
  simp [e0,f0,i0,z0,e1,f1,i1,z1,Ke2,Kfc.eq_def]
 have u1:=hz1 z1
 have s1:(Kr6 c1).1=0:=hn1.2 z1
 have o1:=Kzb (out:=[y0]) (nd:=[Kvr a]) (us:=[Kvr []]) (w:=1) (t:=⟨2,N,ty,[k0,k1]⟩) (m:=[]) rfl m1 r1 (by simp; omega) f1 (by rw [ht1,Kyg,if_pos s1]) (Kyd (show (2:Int) ≠ 10 by decide)) nb (by simp <;> omega) (by simp) (by simp) (by simp) (by simp)
 have hf:=Kyu (N:=N) (ty:=ty) (ks:=[k0,k1]) (ctx:=ctx) (us:=[Kvr [],Kvr []]) (z:=Kvr (List.replicate ctx.length 0)) (y0:=y0) (y1:=y1) hs ba bb (by omega) (by omega)
 have im:=Kyc (p0:=⟨s⟩) (t:=⟨2,N,ty,[k0,k1]⟩) (ctx:=ctx) (by omega) (o0.trans (o1.trans (Ky3 (Nat.le_refl _)))) hf
 replace im:=Kzn (q:=[0]) (ns:=Kw4 s n a b) (kids:=[y0,y1]) (by decide) im
 refine Kz5.good (q:=[0]) (ns:=Kw4 s n a b) (kids:=[y0,y1]) ?_ im (by omega) Kxo (by unfold Kw4; rw [List.length_zipWith]; omega) (Kwa hs ba bb) rfl (kd2 (Kz4.mk' (Kzc (by decide) rfl) r0 f0 (fun _ h=>by cases h) rfl) (Kz4.mk' (Kzc (by decide) rfl) r1 f1 (fun _ h=>by cases h) rfl))
 rw [Kf9.eq_def]
 simp [e0,f0,i0,z0,e1,f1,i1,z1,na,nb,u1,Kyn,Kwh hs a b ba bb (by omega) (by omega),Kfc.eq_def]
theorem Kzy (ih:Kzm s n (tsz (⟨3,N,ty,ks⟩:K01))) (h:tOk (gN s.fSize true) (yN s.fSize true) ctx.length ⟨3,N,ty,ks⟩=true) (hc:∀ q ∈ ctx,TyS s q) (hb:ctx.length + 2 * tsz (⟨3,N,ty,ks⟩:K01) ≤ 1000000):∃ x y,Kz5 s n ctx ⟨3,N,ty,ks⟩ x y:=by
 obtain ⟨k0,k1,k2,rfl,p0,p1,p2⟩:=nd3 h (Nat.le_refl _) rfl
 have hz:=Kvk 3 N ty k0 k1 k2
 obtain ⟨x0,y0,r0⟩:=ih k0 ctx p0 hc (by omega)
 obtain ⟨x1,y1,r1⟩:=ih k1 ctx p1 hc (by omega)
 obtain ⟨x2,y2,r2⟩:=ih k2 ctx p2 hc (by omega)
 by_cases f0:x0.ffault=0
 rotate_left
 ·exact Kzo (by decide) (by decide) (by decide) hb r0 f0
 obtain ⟨g0,q0,a,na,la,ba⟩:=r0.gd f0
 obtain ⟨c0,t0,ht0,hn0,hz0⟩:=Kzr hs g0
 have L0:=Kxi g0
 have e0:Kfb (s,ctx,⟨3,N,ty,[k0,k1,k2]⟩,0)=some x0:=Kz6 (i:=0) rfl r0 f0
 have i0:idx x0.fty 0=some c0:=by rw [ht0]; rfl
 by_cases z0:c0=0
 rotate_left
 ·refine Kz5.bad (f:=2) (p:=[]) ?_ (Kyb (by omega) (Kz9 (m:=[]) rfl (Kzi (by decide)) r0 (by simp; omega) f0 (by rw [ht0,Kyh,if_neg (by rw [hn0]; exact z0)]) (by decide))) (by decide) (by simp; omega)
  rw [Kf9.eq_def]
  simp [e0,f0,i0,z0,Ke2]
 have u0:=hz0 z0
 have s0:(Kr6 c0).1=0:=hn0.2 z0
 have o0:=Kzb (out:=[]) (nd:=[]) (us:=[]) (w:=0) (t:=⟨3,N,ty,[k0,k1,k2]⟩) (m:=[]) rfl (Kzi (by decide)) r0 (by simp; omega) f0 (by rw [ht0,Kyh,if_pos s0]) (Kyd (show (3:Int) ≠ 10 by decide)) na (by simp <;> omega) (by simp) (by simp) (by simp) (by simp)
 have m1:Ky0 ⟨3,N,ty,[k0,k1,k2]⟩ [y0] 1=some []:=Kzk (by decide) (Kzc (by decide) rfl)
 by_cases f1:x1.ffault=0
 rotate_left
 ·have e1:Kfb (s,ctx,⟨3,N,ty,[k0,k1,k2]⟩,1)=some ⟨[],[],x1.ffault,1 :: x1.fpath⟩:=Kz7 (i:=1) rfl r1 (by omega) f1
  refine Kz5.bad (f:=x1.ffault) (p:=1 :: x1.fpath) ?_ (Kyb (by omega) (o0.trans (Kz8 (m:=[]) rfl m1 r1 (by omega) (by simp; omega) f1))) f1 (by have:=r1.pl; simp; omega)
  rw [Kf9.eq_def]
  simp [e0,f0,i0,z0,Kfc.eq_def,e1,f1]
 obtain ⟨g1,q1,b,nb,lb,bb⟩:=r1.gd f1
 obtain ⟨c1,t1,ht1,hn1,hz1⟩:=Kzr hs g1
 have L1:=Kxi g1
 have e1:Kfb (s,ctx,⟨3,N,ty,[k0,k1,k2]⟩,1)=some x1:=Kz6 (i:=1) rfl r1 f1
 have o1:=Kzb (out:=[y0]) (nd:=[Kvr a]) (us:=[Kvr []]) (w:=1) (t:=⟨3,N,ty,[k0,k1,k2]⟩) (m:=[]) rfl m1 r1 (by simp; omega) f1 (by rw [ht1]; exact Kyf (.inr (by decide))) (Kyd (show (3:Int) ≠ 10 by decide)) nb (by simp <;> omega) (by simp) (by simp) (by simp) (by simp)
 have m2:Ky0 ⟨3,N,ty,[k0,k1,k2]⟩ [y0,y1] 2=some []:=Kzk (by decide) (Kzc (by decide) rfl)
 by_cases f2:x2.ffault=0
 rotate_left
 ·have e2:Kfb (s,ctx,⟨3,N,ty,[k0,k1,k2]⟩,2)=some ⟨[],[],x2.ffault,2 :: x2.fpath⟩:=Kz7 (i:=2) rfl r2 (by omega) f2
  refine Kz5.bad (f:=x2.ffault) (p:=2 :: x2.fpath) ?_ (Kyb (by omega) (o0.trans (o1.trans (Kz8 (m:=[]) rfl m2 r2 (by omega) (by simp; omega) f2)))) f2 (by have:=r2.pl; simp; omega)
  rw [Kf9.eq_def]
  simp [e0,f0,i0,z0,e1,f1,Kfc.eq_def,e2,f2]
 obtain ⟨g2,q2,d,nd,ld,bd⟩:=r2.gd f2
 obtain ⟨c2,t2,ht2,hn2,hz2⟩:=Kzr hs g2
 have L2:=Kxi g2
 have e2:Kfb (s,ctx,⟨3,N,ty,[k0,k1,k2]⟩,2)=some x2:=Kz6 (i:=2) rfl r2 f2
 have o2:=Kzb (out:=[y0,y1]) (nd:=[Kvr a,Kvr b]) (us:=[Kvr [],Kvr []]) (w:=2) (t:=⟨3,N,ty,[k0,k1,k2]⟩) (m:=[]) rfl m2 r2 (by simp; omega) f2 (by rw [ht2]; exact Kyf (.inr (by decide))) (Kyd (show (3:Int) ≠ 10 by decide)) nd (by simp <;> omega) (by simp) (by simp) (by simp) (by simp)
 have hf:=Kyv (N:=N) (ty:=ty) (ks:=[k0,k1,k2]) (ctx:=ctx) (us:=[Kvr [],Kvr [],Kvr []]) (z:=Kvr (List.replicate ctx.length 0)) (y0:=y0) (y1:=y1) (y2:=y2) hs ba bb bd (by omega) (by omega) (by omega) (by rw [r2.ty]; omega) (by rw [r1.ty]; omega)
 have hl0:=o0.trans (o1.trans (o2.trans (Ky3 (Nat.le_refl _))))
 
 have hsm:=Kva x1.fty x2.fty (by omega)
 have lj:(Kw6 s n b d).length=ctx.length:=by unfold Kw6; rw [List.length_zipWith]; omega
 rw [r1.ty,r2.ty] at hf
 by_cases hq:x1.fty=x2.fty
 ·rw [if_pos hq] at hf
  have im:=Kyc (by omega) hl0 hf
  replace im:=Kzn (q:=x1.fty) (ns:=Kw4 s n a (Kw6 s n b d)) (kids:=[y0,y1,y2]) (by omega) im
  refine Kz5.good (q:=x1.fty) (ns:=Kw4 s n a (Kw6 s n b d)) (kids:=[y0,y1,y2]) ?_ im (by omega) g1 (by unfold Kw4; rw [List.length_zipWith]; omega) (Kwa hs ba (Kwc hs bb bd)) rfl (kd3 (Kz4.mk' (Kzc (by decide) rfl) r0 f0 (fun _ h=>by cases h) rfl) (Kz4.mk' (Kzc (by decide) rfl) r1 f1 (fun _ h=>by cases h) rfl) (Kz4.mk' (Kzc (by decide) rfl) r2 f2 (fun _ h=>by cases h) rfl))
  rw [show (x1.fty == x2.fty)=true from beq_iff_eq.2 hq] at hsm
  rw [Kf9.eq_def]
  simp [e0,f0,i0,z0,e1,f1,e2,f2,hsm,na,nb,nd,Kwj hs b d bb bd (by omega) (by omega),Kwh hs a (Kw6 s n b d) ba (Kwc hs bb bd) (by omega) (by omega),Kfc.eq_def]
 ·rw [if_neg hq] at hf
  refine Kz5.bad (f:=3) (p:=[]) ?_ (Kyc (by omega) hl0 hf) (by decide) (by simp; omega)
  rw [show (x1.fty == x2.fty)=false from beq_eq_false_iff_ne.2 hq] at hsm
  rw [Kf9.eq_def]
  simp [e0,f0,i0,z0,e1,f1,e2,f2,hsm,Kfc.eq_def,Ke2]
end
theorem Kzz (g:Nat) (h:g ≤ 15):Kr6 (3 + (g:Int))=(3,(g:Int)):=by
 rcases Kr8 (3 + (g:Int)) with h | h | h | h | h | h | h | h <;> first | omega | (obtain ⟨_,e⟩:=h; rw [e]; congr 1; omega)
theorem V00 (g:Nat) (h:g ≤ 15):Kr6 (19 + (g:Int))=(4,(g:Int)):=by
 rcases Kr8 (19 + (g:Int)) with h | h | h | h | h | h | h | h <;> first | omega | (obtain ⟨_,e⟩:=h; rw [e]; congr 1; omega)
theorem V01 (g:Nat) (h:g ≤ 15):Kqz (3 + (g:Int))=true:=by unfold Kqz inB; simp; omega
theorem V02 (g:Nat) (h:g ≤ 15):Kqz (19 + (g:Int))=false:=by unfold Kqz inB; simp; omega
theorem V03 (g:Nat) (h:g ≤ 15):Kr0 (3 + (g:Int))=false:=by unfold Kr0 inB; simp; omega
theorem V04 (g:Nat) (h:g ≤ 15):Kr0 (19 + (g:Int))=true:=by unfold Kr0 inB; simp; omega
theorem V05 (g:Nat) (h:g ≤ 15):Kc7 (3 + (g:Int))=some (g:Int):=by
 rw [Kro (by rcases Kr5 (3 + (g:Int)) with h | h | h | h <;> omega)]
 unfold Krm
 rw [if_neg (by omega),if_neg (by omega)]
 congr 1; omega
theorem V06 (g:Nat) (h:g ≤ 15):Kc7 (19 + (g:Int))=some (g:Int):=by
 rw [Kro (by rcases Kr5 (19 + (g:Int)) with h | h | h | h <;> omega)]
 unfold Krm
 rw [if_neg (by omega),if_pos (by omega)]
 congr 1; omega
section
variable {s:K00} {n:Nat} (hs:Kvw s n) {ctx:List (List Int)} {N:Int} {ty:List Int} {ks:List K01}
include hs
structure V07 (s:K00) (n:Nat) (q:List Int) (c:Int):Prop where
 arr:(Kr6 c).1=3→∃ (g:Nat) (a b:List Int),g < n∧g ≤ 15∧c=3 + (g:Int)∧q=c :: (a ++ b)∧Kxl s (3 + (g:Int)) a b
 pair:(Kr6 c).1=1→∃ (a b:List Int),c=1∧q=c :: (a ++ b)∧Kxl s 1 a b
 sum:(Kr6 c).1=2→∃ (a b:List Int),c=2∧q=c :: (a ++ b)∧Kxl s 2 a b
 box:(Kr6 c).1=4→∃ (g:Nat) (a:List Int),g < n∧g ≤ 15∧c=19 + (g:Int)∧q=c :: a∧Kxm s (19 + (g:Int)) a
 arrB:Kqz c=true ↔ (Kr6 c).1=3
 boxB:Kr0 c=true ↔ (Kr6 c).1=4
 one:c=1 ↔ (Kr6 c).1=1
 two:c=2 ↔ (Kr6 c).1=2
theorem V08 {q:List Int} (hq:TyS s q) {c:Int} {r:List Int} (e:q=c :: r):V07 s n q c:=by
 rcases Kxr hs hq with rfl | ⟨a,b,rfl,P⟩ | ⟨a,b,rfl,P⟩ | ⟨g,a,b,hg,h15,rfl,P⟩ | ⟨g,a,hg,h15,rfl,P⟩
 ·cases e
  refine ⟨fun h=>?_,fun h=>?_,fun h=>?_,fun h=>?_,by decide,by decide,by decide,by decide⟩ <;> exact absurd h (by decide)
 ·cases e
  refine ⟨fun h=>absurd h (by decide),fun _=>⟨a,b,rfl,rfl,P⟩,fun h=>absurd h (by decide),fun h=>absurd h (by decide),by decide,by decide,by decide,by decide⟩
 ·cases e
  refine ⟨fun h=>absurd h (by decide),fun h=>absurd h (by decide),fun _=>⟨a,b,rfl,rfl,P⟩,fun h=>absurd h (by decide),by decide,by decide,by decide,by decide⟩
 ·cases e
  have hsh:=Kzz g h15
  refine ⟨fun _=>⟨g,a,b,hg,h15,rfl,rfl,P⟩,fun h=>?_,fun h=>?_,fun h=>?_,?_,?_,?_,?_⟩
  ·rw [hsh] at h; simp at h
  ·rw [hsh] at h; simp at h
  ·rw [hsh] at h; simp at h
  ·rw [hsh,V01 g h15]; simp
  ·rw [hsh,V03 g h15]; simp
  ·rw [hsh]; simp; omega
  ·rw [hsh]; simp; omega
 ·cases e
  have hsh:=V00 g h15
  refine ⟨fun h=>?_,fun h=>?_,fun h=>?_,fun _=>⟨g,_,hg,h15,rfl,rfl,P⟩,?_,?_,?_,?_⟩
  ·rw [hsh] at h; simp at h
  ·rw [hsh] at h; simp at h
  ·rw [hsh] at h; simp at h
  ·rw [hsh,V02 g h15]; simp
  ·rw [hsh,V04 g h15]; simp
  ·rw [hsh]; simp; omega
  ·rw [hsh]; simp; omega
theorem V09 (ih:Kzm s n (tsz (⟨10,N,ty,ks⟩:K01))) (h:tOk (gN s.fSize true) (yN s.fSize true) ctx.length ⟨10,N,ty,ks⟩=true) (hc:∀ q ∈ ctx,TyS s q) (hb:ctx.length + 2 * tsz (⟨10,N,ty,ks⟩:K01) ≤ 1000000):∃ x y,Kz5 s n ctx ⟨10,N,ty,ks⟩ x y:=by
 obtain ⟨k0,k1,rfl,p0,p1⟩:=nd2 h (Nat.le_refl _) rfl
 have hz:=Kvj 10 N ty k0 k1
 obtain ⟨x0,y0,r0⟩:=ih k0 ctx p0 hc (by omega)
 obtain ⟨x1,y1,r1⟩:=ih k1 ctx p1 hc (by omega)
 by_cases f0:x0.ffault=0
 rotate_left
 ·exact Kzo (by decide) (by decide) (by decide) hb r0 f0
 obtain ⟨g0,q0,a,na,la,ba⟩:=r0.gd f0
 obtain ⟨c0,t0,ht0,hn0,hz0⟩:=Kzr hs g0
 have L0:=Kxi g0
 have e0:Kfb (s,ctx,⟨10,N,ty,[k0,k1]⟩,0)=some x0:=Kz6 (i:=0) rfl r0 f0
 have C:=V08 hs g0 ht0
 have i0:idx x0.fty 0=some c0:=by rw [ht0]; rfl
 by_cases z0:(Kr6 c0).1=3
 rotate_left
 ·have w0:Kqz c0=false:=by cases h:Kqz c0 with | true=>exact absurd (C.arrB.1 h) z0 | false=>rfl
  refine Kz5.bad (f:=6) (p:=[]) ?_ (Kyb (by omega) (Kz9 (m:=[]) rfl (Kzi (by decide)) r0 (by simp; omega) f0 (by rw [ht0,Kyi,if_neg z0]) (by decide))) (by decide) (by simp; omega)
  rw [Kf9.eq_def]
  simp [e0,f0,i0,Kr2,w0,Ke2]
 obtain ⟨g,p,q,hg,h15,hcg,hq,P⟩:=C.arr z0
 have w0:Kqz c0=true:=C.arrB.2 z0
 have o0:=Kzb (out:=[]) (nd:=[]) (us:=[]) (w:=0) (t:=⟨10,N,ty,[k0,k1]⟩) (m:=[]) rfl (Kzi (by decide)) r0 (by simp; omega) f0 (by rw [ht0,Kyi,if_pos z0]) (Kye (by decide)) na (by simp <;> omega) (by simp) (by simp) (by simp) (by simp)
 have m1:Ky0 ⟨10,N,ty,[k0,k1]⟩ [y0] 1=some []:=Kzk (by decide) (Kzc (by decide) rfl)
 by_cases f1:x1.ffault=0
 rotate_left
 ·have e1:Kfb (s,ctx,⟨10,N,ty,[k0,k1]⟩,1)=some ⟨[],[],x1.ffault,1 :: x1.fpath⟩:=Kz7 (i:=1) rfl r1 (by omega) f1
  refine Kz5.bad (f:=x1.ffault) (p:=1 :: x1.fpath) ?_ (Kyb (by omega) (o0.trans (Kz8 (m:=[]) rfl m1 r1 (by omega) (by simp; omega) f1))) f1 (by have:=r1.pl; simp; omega)
  rw [Kf9.eq_def]
  simp [e0,f0,i0,Kr2,w0,e1,f1]
 obtain ⟨g1,q1,b,nb,lb,bb⟩:=r1.gd f1
 obtain ⟨c1,t1,ht1,hn1,hz1⟩:=Kzr hs g1
 have L1:=Kxi g1
 have e1:Kfb (s,ctx,⟨10,N,ty,[k0,k1]⟩,1)=some x1:=Kz6 (i:=1) rfl r1 f1
 have hp0:Kem (x0.fty,0)=some p:=by rw [hq,hcg]; exact P.p0
 have hp1:Kem (x0.fty,1)=some q:=by rw [hq,hcg]; exact P.p1
 have hpp:Kj2 y0.fty=some [p,q]:=by rw [r0.ty,hq,hcg]; exact P.pp
 have Lp:=Kxi P.ya
 have Lq:=Kxi P.yb
 have hsm:=Kva x1.fty p (by omega)
 have hsi:=Kvc x1.fty p (by omega)
 have ha:Ky6 ⟨10,N,ty,[k0,k1]⟩ [y0] 1 y1=some (!(x1.fty == p)):=by
  unfold Ky6
  rw [if_pos (show ((10:Int) == 10)=true by decide),if_pos (by decide),Kyn,bs,hpp,bs,Kyn,bs,r1.ty,hsi,bs]
 by_cases hqq:x1.fty=p
 rotate_left
 ·rw [show (x1.fty == p)=false from beq_eq_false_iff_ne.2 hqq] at hsm ha
  refine Kz5.bad (f:=3) (p:=[]) ?_ (Kyb (by omega) (o0.trans (Kza (m:=[]) rfl m1 r1 (by simp; omega) f1 (by rw [ht1]; exact Kyf (.inr (by decide))) ha))) (by decide) (by simp; omega)
  rw [Kf9.eq_def]
  simp [e0,f0,i0,Kr2,w0,e1,f1,hp0,hsm,Ke2]
 rw [show (x1.fty == p)=true from beq_iff_eq.2 hqq] at hsm ha
 have o1:=Kzb (out:=[y0]) (nd:=[Kvr a]) (us:=[Kvr []]) (w:=1) (t:=⟨10,N,ty,[k0,k1]⟩) (m:=[]) rfl m1 r1 (by simp; omega) f1 (by rw [ht1]; exact Kyf (.inr (by decide))) ha nb (by simp <;> omega) (by simp) (by simp) (by simp) (by simp)
 have hf:=Kyz (N:=N) (ty:=ty) (ks:=[k0,k1]) (ctx:=ctx) (us:=[Kvr [],Kvr []]) (z:=Kvr (List.replicate ctx.length 0)) (y0:=y0) (y1:=y1) hs hg (p:=p) (q:=q) (by rw [r0.ty,hq,hcg]) P ba bb (by omega) (by omega)
 have im:=Kzn (q:=q) (ns:=Kw4 s n a (Kw5 s n g b)) (kids:=[y0,y1]) Lq (Kyc (p0:=⟨s⟩) (t:=⟨10,N,ty,[k0,k1]⟩) (ctx:=ctx) (by omega) (o0.trans (o1.trans (Ky3 (Nat.le_refl _)))) hf)
 have lsc:(Kw5 s n g b).length=ctx.length:=by unfold Kw5; rw [List.length_map]; exact lb
 refine Kz5.good (q:=q) (ns:=Kw4 s n a (Kw5 s n g b)) (kids:=[y0,y1]) ?_ im (by omega) P.yb (by unfold Kw4; rw [List.length_zipWith]; omega) (Kwa hs ba (Kwb hs hg bb)) rfl (kd2 (Kz4.mk' (Kzc (by decide) rfl) r0 f0 (fun _ h=>by cases h) rfl) (Kz4.mk' (Kzc (by decide) rfl) r1 f1 (fun _ h=>by cases h) rfl))
 have hgr:Kc7 c0=some (g:Int):=by rw [hcg]; exact V05 g h15
 rw [Kf9.eq_def]
 simp [e0,f0,i0,Kr2,w0,e1,f1,hp0,hp1,hsm,hgr,na,nb,Kwg hs g hg a b ba bb (by omega) (by omega)]
theorem V0a (ih:Kzm s n (tsz (⟨5,N,ty,ks⟩:K01))) (h:tOk (gN s.fSize true) (yN s.fSize true) ctx.length ⟨5,N,ty,ks⟩=true) (hc:∀ q ∈ ctx,TyS s q) (hb:ctx.length + 2 * tsz (⟨5,N,ty,ks⟩:K01) ≤ 1000000):∃ x y,Kz5 s n ctx ⟨5,N,ty,ks⟩ x y:=by
 obtain ⟨k0,k1,rfl,p0,p1⟩:=nd2 h (Nat.le_refl _) rfl
 have hz:=Kvj 5 N ty k0 k1
 obtain ⟨g,hN,hg⟩:=Kxu hs (Kxw h rfl)
 simp only at hN
 subst hN
 obtain ⟨x0,y0,r0⟩:=ih k0 ctx p0 hc (by omega)
 by_cases f0:x0.ffault=0
 rotate_left
 ·exact Kzo (by decide) (by decide) (by decide) hb r0 f0
 obtain ⟨g0,q0,a,na,la,ba⟩:=r0.gd f0
 obtain ⟨c0,t0,ht0,hn0,hz0⟩:=Kzr hs g0
 have L0:=Kxi g0
 have e0:Kfb (s,ctx,⟨5,(g:Int),ty,[k0,k1]⟩,0)=some x0:=Kz6 (i:=0) rfl r0 f0
 have C:=V08 hs g0 ht0
 have i0:idx x0.fty 0=some c0:=by rw [ht0]; rfl
 by_cases z0:(Kr6 c0).1=1
 rotate_left
 ·have w0:c0 ≠ 1:=fun h=>z0 (C.one.1 h)
  refine Kz5.bad (f:=4) (p:=[]) ?_ (Kyb (by omega) (Kz9 (m:=[]) rfl (Kzi (by decide)) r0 (by simp; omega) f0 (by rw [ht0,Kyj hs hg,if_neg z0]) (by decide))) (by decide) (by simp; omega)
  rw [Kf9.eq_def]
  simp [e0,f0,i0,Kfa.eq_def,w0,Ke2]
 obtain ⟨p,q,hcg,hq,P⟩:=C.pair z0
 have hle:=sLe hs.tab (Kvy hs) hg
 cases hl:le s n 1 g with
 | false =>
  have hl2:Kah (s,1,(g:Int))=some false:=by rw [← hl]; exact hle
  refine Kz5.bad (f:=8) (p:=[]) ?_ (Kyb (by omega) (Kz9 (m:=[]) rfl (Kzi (by decide)) r0 (by simp; omega) f0 (by rw [ht0,Kyj hs hg,if_pos z0,hl]; rfl) (by decide))) (by decide) (by simp; omega)
  rw [Kf9.eq_def]
  simp [e0,f0,i0,Kfa.eq_def,hcg,hl2,Ke2]
 | true =>
 have hl2:Kah (s,1,(g:Int))=some true:=by rw [← hl]; exact hle
 have o0:=Kzb (out:=[]) (nd:=[]) (us:=[]) (w:=0) (t:=⟨5,(g:Int),ty,[k0,k1]⟩) (m:=[]) rfl (Kzi (by decide)) r0 (by simp; omega) f0 (by rw [ht0,Kyj hs hg,if_pos z0,hl]; rfl) (Kyd (show (5:Int) ≠ 10 by decide)) na (by simp <;> omega) (by simp) (by simp) (by simp) (by simp)
 have hp0:Kem (x0.fty,0)=some p:=by rw [hq,hcg]; exact P.p0
 have hp1:Kem (x0.fty,1)=some q:=by rw [hq,hcg]; exact P.p1
 have ad:Kj5 (⟨5,(g:Int),ty,[k0,k1]⟩,((1:Nat):Int),y0.fty)=some [q,p]:=by rw [r0.ty,hq,hcg]; exact Kze P
 have hm':∀ z ∈ [q,p],TyS s z:=fun z hz=>by simp at hz; rcases hz with rfl | rfl; exact P.yb; exact P.ya
 have m1:Ky0 ⟨5,(g:Int),ty,[k0,k1]⟩ [y0] 1=some [q,p]:=Kzk (by decide) ad
 have p1':Kxv s ([q,p] ++ ctx).length k1 (tsz (⟨5,(g:Int),ty,[k0,k1]⟩:K01)):=by
  have e:([q,p] ++ ctx).length=ctx.length + Ksc 5 1:=by simp [Ksc]
  rw [e]; exact p1
 obtain ⟨x1,y1,r1⟩:=ih k1 ([q,p] ++ ctx) p1' (fun z hz=>by rcases List.mem_append.1 hz with hz | hz; exact hm' z hz; exact hc z hz) (by simp; omega)
 have hwc:=Kwu ctx [q,p] (by simp; omega)
 by_cases f1:x1.ffault=0
 rotate_left
 ·have e1:Kfb (s,q :: p :: ctx,⟨5,(g:Int),ty,[k0,k1]⟩,1)=some ⟨[],[],x1.ffault,1 :: x1.fpath⟩:=Kz7 (i:=1) rfl r1 (by omega) f1
  refine Kz5.bad (f:=x1.ffault) (p:=1 :: x1.fpath) ?_ (Kyb (by omega) (o0.trans (Kz8 (m:=[q,p]) rfl m1 r1 (by omega) (by simp; omega) f1))) f1 (by have:=r1.pl; simp; omega)
  rw [Kf9.eq_def]
  simp [e0,f0,i0,Kfa.eq_def,hcg,hl2,hp0,hp1,hwc,e1,f1]
 obtain ⟨g1,q1,b,nb,lb,bb⟩:=r1.gd f1
 obtain ⟨c1,t1,ht1,hn1,hz1⟩:=Kzr hs g1
 have L1:=Kxi g1
 have e1:Kfb (s,q :: p :: ctx,⟨5,(g:Int),ty,[k0,k1]⟩,1)=some x1:=Kz6 (i:=1) rfl r1 f1
 have lb':b.length=ctx.length + 2:=by rw [lb]; simp
 obtain ⟨u0,u1,b',rfl⟩:∃ u0 u1 b',b=u0 :: u1 :: b':=by match b,lb' with | u0 :: u1 :: b',_=>exact ⟨u0,u1,b',rfl⟩ | [_],h=>simp at h | [],h=>simp at h
 obtain ⟨hu0,bb1⟩:=Kw8 bb
 obtain ⟨hu1,bb'⟩:=Kw8 bb1
 have o1:=Kzb (out:=[y0]) (nd:=[Kvr a]) (us:=[Kvr []]) (w:=1) (t:=⟨5,(g:Int),ty,[k0,k1]⟩) (m:=[q,p]) rfl m1 r1 (by simp; omega) f1 (by rw [ht1]; exact Kyf (.inr (by decide))) (Kyd (show (5:Int) ≠ 10 by decide)) nb (by simp <;> omega) (by simp) (by simp) (by simp) (by simp)
 simp only [List.length_cons,List.length_nil,Nat.zero_add,List.drop_succ_cons,List.drop_zero,List.take_succ_cons,List.take_zero,List.nil_append] at o1
 have hl0:=o0.trans (o1.trans (Ky3 (Nat.le_refl _)))
 have lbc:b'.length=ctx.length:=by simp at lb'; omega
 have i1:idx x1.fneeds 0=some (u0:Int):=by rw [nb]; rfl
 have hcut:cut x1.fneeds (some (2:Int)) none none=some (Kvr b'):=by
  rw [nb]
  have:=Ky5 (l:=Kvr (u0 :: u1 :: b')) (m:=2) (by simp [Kvr])
  exact this
 have hcp:=Kt2 (Kvr b') (by rw [Kvs]; omega)
 have i2:idx x1.fneeds 1=some (u1:Int):=by rw [nb]; rfl
 have hle0:=sLe hs.tab hu0 hg
 have hle1:=sLe hs.tab hu1 hg
 have hf:=Kz0 (ty:=ty) (ks:=[k0,k1]) (ctx:=ctx) (z:=Kvr (List.replicate ctx.length 0)) (y0:=y0) (y1:=y1) (us':=Kvr []) (u:=[u0,u1]) hs hg (fun x hx=>by simp at hx; rcases hx with rfl | rfl; exact hu0; exact hu1) (by simp) ba bb' (by omega) (by omega) (by rw [r1.ty]; omega)
 simp only [List.all_cons,List.all_nil,Bool.and_true] at hf
 have es:=e1
 cases hal:(le s n u0 g && le s n u1 g) with
 | false =>
  rw [hal,if_neg (by decide)] at hf
  refine Kz5.bad (f:=9) (p:=[]) ?_ (Kyc (by omega) hl0 hf) (by decide) (by simp; omega)
  rw [Kf9.eq_def]
  simp [e0,f0,i0,Kfa.eq_def,hcg,hl2,hp0,hp1,hwc,e1,f1,i1,i2,hcut,hcp,hle0,hle1,Ke2]
  cases q1:le s n u1 g with
  | false=>simp
  | true=>rw [q1,Bool.and_true] at hal; simp [hal]
 | true =>
  rw [hal,if_pos rfl] at hf
  have im:=Kzn (q:=y1.fty) (ns:=Kw4 s n (Kw5 s n g a) b') (kids:=[y0,y1]) (by rw [r1.ty]; omega) (Kyc (by omega) hl0 hf)
  rw [r1.ty] at im
  have lsc:(Kw5 s n g a).length=ctx.length:=by unfold Kw5; rw [List.length_map]; exact la
  have hsc:=Kwb hs hg ba
  have hz0:=Kwe hs hsc
  rw [lsc] at hz0
  have hsum:=Kwg hs g hg (List.replicate ctx.length 0) a (fun x hx=>by rw [List.eq_of_mem_replicate hx]; exact Kvz hs) ba (by simp; omega) (by simp [la])
  rw [hz0] at hsum
  have hs2:=Kwh hs (Kw5 s n g a) b' hsc bb' (by omega) (by omega)
  refine Kz5.good (q:=x1.fty) (ns:=Kw4 s n (Kw5 s n g a) b') (kids:=[y0,y1]) ?_ im (by omega) g1 (by unfold Kw4; rw [List.length_zipWith]; omega) (Kwa hs hsc bb') rfl (kd2 (Kz4.mk' (Kzc (by decide) rfl) r0 f0 (fun _ h=>by cases h) rfl) (Kz4.mk' ad r1 f1 hm' rfl))
  rw [Kf9.eq_def]
  rw [Bool.and_eq_true] at hal
  simp [e0,f0,i0,Kfa.eq_def,hcg,hl2,hp0,hp1,hwc,e1,f1,i1,i2,hcut,hcp,hle0,hle1,hal.1,hal.2,na,Kwt ctx.length (by omega),hsum,hs2]
theorem V0b (ih:Kzm s n (tsz (⟨12,N,ty,ks⟩:K01))) (h:tOk (gN s.fSize true) (yN s.fSize true) ctx.length ⟨12,N,ty,ks⟩=true) (hc:∀ q ∈ ctx,TyS s q) (hb:ctx.length + 2 * tsz (⟨12,N,ty,ks⟩:K01) ≤ 1000000):∃ x y,Kz5 s n ctx ⟨12,N,ty,ks⟩ x y:=by
 obtain ⟨k0,k1,rfl,p0,p1⟩:=nd2 h (Nat.le_refl _) rfl
 have hz:=Kvj 12 N ty k0 k1
 obtain ⟨g,hN,hg⟩:=Kxu hs (Kxw h rfl)
 simp only at hN
 subst hN
 obtain ⟨x0,y0,r0⟩:=ih k0 ctx p0 hc (by omega)
 by_cases f0:x0.ffault=0
 rotate_left
 ·exact Kzo (by decide) (by decide) (by decide) hb r0 f0
 obtain ⟨g0,q0,a,na,la,ba⟩:=r0.gd f0
 obtain ⟨c0,t0,ht0,hn0,hz0⟩:=Kzr hs g0
 have L0:=Kxi g0
 have e0:Kfb (s,ctx,⟨12,(g:Int),ty,[k0,k1]⟩,0)=some x0:=Kz6 (i:=0) rfl r0 f0
 have C:=V08 hs g0 ht0
 have i0:idx x0.fty 0=some c0:=by rw [ht0]; rfl
 by_cases z0:(Kr6 c0).1=4
 rotate_left
 ·have w0:Kr0 c0=false:=by cases h:Kr0 c0 with | true=>exact absurd (C.boxB.1 h) z0 | false=>rfl
  refine Kz5.bad (f:=7) (p:=[]) ?_ (Kyb (by omega) (Kz9 (m:=[]) rfl (Kzi (by decide)) r0 (by simp; omega) f0 (by rw [ht0,Kyl hs hg,if_neg z0]) (by decide))) (by decide) (by simp; omega)
  rw [Kf9.eq_def]
  simp [e0,f0,i0,Kfa.eq_def,Kr3,w0,Ke2]
 obtain ⟨m,p,hm,h15,hcg,hq,P⟩:=C.box z0
 have w0:Kr0 c0=true:=C.boxB.2 z0
 have hle:=sLe hs.tab (Kvy hs) hg
 cases hl:le s n 1 g with
 | false =>
  have hl2:Kah (s,1,(g:Int))=some false:=by rw [← hl]; exact hle
  refine Kz5.bad (f:=8) (p:=[]) ?_ (Kyb (by omega) (Kz9 (m:=[]) rfl (Kzi (by decide)) r0 (by simp; omega) f0 (by rw [ht0,Kyl hs hg,if_pos z0,hl]; rfl) (by decide))) (by decide) (by simp; omega)
  rw [Kf9.eq_def]
  simp [e0,f0,i0,Kfa.eq_def,Kr3,w0,hl2,Ke2]
 | true =>
 have hl2:Kah (s,1,(g:Int))=some true:=by rw [← hl]; exact hle
 have o0:=Kzb (out:=[]) (nd:=[]) (us:=[]) (w:=0) (t:=⟨12,(g:Int),ty,[k0,k1]⟩) (m:=[]) rfl (Kzi (by decide)) r0 (by simp; omega) f0 (by rw [ht0,Kyl hs hg,if_pos z0,hl]; rfl) (Kyd (show (12:Int) ≠ 10 by decide)) na (by simp <;> omega) (by simp) (by simp) (by simp) (by simp)
 have hp0:Kem (x0.fty,0)=some p:=by rw [hq,hcg]; exact P.p0
 have ad:Kj5 (⟨12,(g:Int),ty,[k0,k1]⟩,((1:Nat):Int),y0.fty)=some [p]:=by rw [r0.ty,hq,hcg]; exact Kzh P
 have hm':∀ z ∈ [p],TyS s z:=fun z hz=>by simp at hz; rw [hz]; exact P.ya
 have hgr:Kc7 c0=some (m:Int):=by rw [hcg]; exact V06 m h15
 have m1:Ky0 ⟨12,(g:Int),ty,[k0,k1]⟩ [y0] 1=some [p]:=Kzk (by decide) ad
 have p1':Kxv s ([p] ++ ctx).length k1 (tsz (⟨12,(g:Int),ty,[k0,k1]⟩:K01)):=by
  have e:([p] ++ ctx).length=ctx.length + Ksc 12 1:=by simp [Ksc]
  rw [e]; exact p1
 obtain ⟨x1,y1,r1⟩:=ih k1 ([p] ++ ctx) p1' (fun z hz=>by rcases List.mem_append.1 hz with hz | hz; exact hm' z hz; exact hc z hz) (by simp; omega)
 have hwc:=Kwu ctx [p] (by simp; omega)
 by_cases f1:x1.ffault=0
 rotate_left
 ·have e1:Kfb (s,p :: ctx,⟨12,(g:Int),ty,[k0,k1]⟩,1)=some ⟨[],[],x1.ffault,1 :: x1.fpath⟩:=Kz7 (i:=1) rfl r1 (by omega) f1
  refine Kz5.bad (f:=x1.ffault) (p:=1 :: x1.fpath) ?_ (Kyb (by omega) (o0.trans (Kz8 (m:=[p]) rfl m1 r1 (by omega) (by simp; omega) f1))) f1 (by have:=r1.pl; simp; omega)
  rw [Kf9.eq_def]
  simp [e0,f0,i0,Kfa.eq_def,Kr3,w0,hl2,hp0,hwc,e1,f1]
 obtain ⟨g1,q1,b,nb,lb,bb⟩:=r1.gd f1
 obtain ⟨c1,t1,ht1,hn1,hz1⟩:=Kzr hs g1
 have L1:=Kxi g1
 have e1:Kfb (s,p :: ctx,⟨12,(g:Int),ty,[k0,k1]⟩,1)=some x1:=Kz6 (i:=1) rfl r1 f1
 have lb':b.length=ctx.length + 1:=by rw [lb]; simp
 obtain ⟨u0,b',rfl⟩:∃ u0 b',b=u0 :: b':=by match b,lb' with | u0 :: b',_=>exact ⟨u0,b',rfl⟩ | [],h=>simp at h
 obtain ⟨hu0,bb'⟩:=Kw8 bb
 have o1:=Kzb (out:=[y0]) (nd:=[Kvr a]) (us:=[Kvr []]) (w:=1) (t:=⟨12,(g:Int),ty,[k0,k1]⟩) (m:=[p]) rfl m1 r1 (by simp; omega) f1 (by rw [ht1]; exact Kyf (.inr (by decide))) (Kyd (show (12:Int) ≠ 10 by decide)) nb (by simp <;> omega) (by simp) (by simp) (by simp) (by simp)
 simp only [List.length_cons,List.length_nil,Nat.zero_add,List.drop_succ_cons,List.drop_zero,List.take_succ_cons,List.take_zero,List.nil_append] at o1
 have hl0:=o0.trans (o1.trans (Ky3 (Nat.le_refl _)))
 have lbc:b'.length=ctx.length:=by simp at lb'; omega
 have i1:idx x1.fneeds 0=some (u0:Int):=by rw [nb]; rfl
 have hcut:cut x1.fneeds (some (1:Int)) none none=some (Kvr b'):=by
  rw [nb]
  have:=Ky5 (l:=Kvr (u0 :: b')) (m:=1) (by simp [Kvr])
  exact this
 have hcp:=Kt2 (Kvr b') (by rw [Kvs]; omega)
 have hmul:=Kq5 hs.tab hg hm
 have htm:=Kq0 hs.tab hg hm
 have hle0:=sLe hs.tab hu0 htm
 have hf:=Kz1 (ty:=ty) (ks:=[k0,k1]) (ctx:=ctx) (z:=Kvr (List.replicate ctx.length 0)) (y0:=y0) (y1:=y1) (us':=Kvr []) (u:=[u0]) hs hg hm (p:=p) (by rw [r0.ty,hq,hcg]) (fun x hx=>by simp at hx; rw [hx]; exact hu0) (by simp) ba bb' (by omega) (by omega) (by rw [r1.ty]; omega)
 simp only [List.all_cons,List.all_nil,Bool.and_true] at hf
 have es:=e1
 cases hal:(le s n u0 (ti s n g m)) with
 | false =>
  rw [hal,if_neg (by decide)] at hf
  refine Kz5.bad (f:=9) (p:=[]) ?_ (Kyc (by omega) hl0 hf) (by decide) (by simp; omega)
  rw [Kf9.eq_def]
  simp [e0,f0,i0,Kfa.eq_def,Kr3,w0,hl2,hp0,hwc,e1,f1,i1,hcut,hcp,hgr,hmul,hle0,hal,Ke2]
 | true =>
  rw [hal,if_pos rfl] at hf
  have im:=Kzn (q:=y1.fty) (ns:=Kw4 s n (Kw5 s n g a) b') (kids:=[y0,y1]) (by rw [r1.ty]; omega) (Kyc (by omega) hl0 hf)
  rw [r1.ty] at im
  have lsc:(Kw5 s n g a).length=ctx.length:=by unfold Kw5; rw [List.length_map]; exact la
  have hsc:=Kwb hs hg ba
  have hz0:=Kwe hs hsc
  rw [lsc] at hz0
  have hsum:=Kwg hs g hg (List.replicate ctx.length 0) a (fun x hx=>by rw [List.eq_of_mem_replicate hx]; exact Kvz hs) ba (by simp; omega) (by simp [la])
  rw [hz0] at hsum
  have hs2:=Kwh hs (Kw5 s n g a) b' hsc bb' (by omega) (by omega)
  refine Kz5.good (q:=x1.fty) (ns:=Kw4 s n (Kw5 s n g a) b') (kids:=[y0,y1]) ?_ im (by omega) g1 (by unfold Kw4; rw [List.length_zipWith]; omega) (Kwa hs hsc bb') rfl (kd2 (Kz4.mk' (Kzc (by decide) rfl) r0 f0 (fun _ h=>by cases h) rfl) (Kz4.mk' ad r1 f1 hm' rfl))
  rw [Kf9.eq_def]
  simp [e0,f0,i0,Kfa.eq_def,Kr3,w0,hl2,hp0,hwc,e1,f1,i1,hcut,hcp,hgr,hmul,hle0,hal,na,Kwt ctx.length (by omega),hsum,hs2]
theorem V0c (ih:Kzm s n (tsz (⟨8,N,ty,ks⟩:K01))) (h:tOk (gN s.fSize true) (yN s.fSize true) ctx.length ⟨8,N,ty,ks⟩=true) (hc:∀ q ∈ ctx,TyS s q) (hb:ctx.length + 2 * tsz (⟨8,N,ty,ks⟩:K01) ≤ 1000000):∃ x y,Kz5 s n ctx ⟨8,N,ty,ks⟩ x y:=by
 obtain ⟨k0,k1,k2,rfl,p0,p1,p2⟩:=nd3 h (Nat.le_refl _) rfl
 have hz:=Kvk 8 N ty k0 k1 k2
 obtain ⟨g,hN,hg⟩:=Kxu hs (Kxw h rfl)
 simp only at hN
 subst hN
 obtain ⟨x0,y0,r0⟩:=ih k0 ctx p0 hc (by omega)
 by_cases f0:x0.ffault=0
 rotate_left
 ·exact Kzo (by decide) (by decide) (by decide) hb r0 f0
 obtain ⟨g0,q0,a,na,la,ba⟩:=r0.gd f0
 obtain ⟨c0,t0,ht0,hn0,hz0⟩:=Kzr hs g0
 have L0:=Kxi g0
 have e0:Kfb (s,ctx,⟨8,(g:Int),ty,[k0,k1,k2]⟩,0)=some x0:=Kz6 (i:=0) rfl r0 f0
 have C:=V08 hs g0 ht0
 have i0:idx x0.fty 0=some c0:=by rw [ht0]; rfl
 by_cases z0:(Kr6 c0).1=2
 rotate_left
 ·have w0:c0 ≠ 2:=fun h=>z0 (C.two.1 h)
  refine Kz5.bad (f:=5) (p:=[]) ?_ (Kyb (by omega) (Kz9 (m:=[]) rfl (Kzi (by decide)) r0 (by simp; omega) f0 (by rw [ht0,Kyk hs hg,if_neg z0]) (by decide))) (by decide) (by simp; omega)
  rw [Kf9.eq_def]
  simp [e0,f0,i0,Kfa.eq_def,w0,Ke2]
 obtain ⟨p,q,hcg,hq,P⟩:=C.sum z0
 have hle:=sLe hs.tab (Kvy hs) hg
 cases hl:le s n 1 g with
 | false =>
  have hl2:Kah (s,1,(g:Int))=some false:=by rw [← hl]; exact hle
  refine Kz5.bad (f:=8) (p:=[]) ?_ (Kyb (by omega) (Kz9 (m:=[]) rfl (Kzi (by decide)) r0 (by simp; omega) f0 (by rw [ht0,Kyk hs hg,if_pos z0,hl]; rfl) (by decide))) (by decide) (by simp; omega)
  rw [Kf9.eq_def]
  simp [e0,f0,i0,Kfa.eq_def,hcg,hl2,Ke2]
 | true =>
 have hl2:Kah (s,1,(g:Int))=some true:=by rw [← hl]; exact hle
 have o0:=Kzb (out:=[]) (nd:=[]) (us:=[]) (w:=0) (t:=⟨8,(g:Int),ty,[k0,k1,k2]⟩) (m:=[]) rfl (Kzi (by decide)) r0 (by simp; omega) f0 (by rw [ht0,Kyk hs hg,if_pos z0,hl]; rfl) (Kyd (show (8:Int) ≠ 10 by decide)) na (by simp <;> omega) (by simp) (by simp) (by simp) (by simp)
 have hp0:Kem (x0.fty,0)=some p:=by rw [hq,hcg]; exact P.p0
 have hp1:Kem (x0.fty,1)=some q:=by rw [hq,hcg]; exact P.p1
 have ad1:Kj5 (⟨8,(g:Int),ty,[k0,k1,k2]⟩,((1:Nat):Int),y0.fty)=some [p]:=by rw [r0.ty,hq,hcg]; exact Kzf P
 have ad2:Kj5 (⟨8,(g:Int),ty,[k0,k1,k2]⟩,((2:Nat):Int),y0.fty)=some [q]:=by rw [r0.ty,hq,hcg]; exact Kzg P
 have hm1:∀ z ∈ [p],TyS s z:=fun z hz=>by simp at hz; rw [hz]; exact P.ya
 have hm2:∀ z ∈ [q],TyS s z:=fun z hz=>by simp at hz; rw [hz]; exact P.yb
 have m1:Ky0 ⟨8,(g:Int),ty,[k0,k1,k2]⟩ [y0] 1=some [p]:=Kzk (by decide) ad1
 have p1':Kxv s ([p] ++ ctx).length k1 (tsz (⟨8,(g:Int),ty,[k0,k1,k2]⟩:K01)):=by
  have e:([p] ++ ctx).length=ctx.length + Ksc 8 1:=by simp [Ksc]
  rw [e]; exact p1
 obtain ⟨x1,y1,r1⟩:=ih k1 ([p] ++ ctx) p1' (fun z hz=>by rcases List.mem_append.1 hz with hz | hz; exact hm1 z hz; exact hc z hz) (by simp; omega)
 have hw1:=Kwu ctx [p] (by simp; omega)
 by_cases f1:x1.ffault=0
 rotate_left
 ·have e1:Kfb (s,p :: ctx,⟨8,(g:Int),ty,[k0,k1,k2]⟩,1)=some ⟨[],[],x1.ffault,1 :: x1.fpath⟩:=Kz7 (i:=1) rfl r1 (by omega) f1
  refine Kz5.bad (f:=x1.ffault) (p:=1 :: x1.fpath) ?_ (Kyb (by omega) (o0.trans (Kz8 (m:=[p]) rfl m1 r1 (by omega) (by simp; omega) f1))) f1 (by have:=r1.pl; simp; omega)
  rw [Kf9.eq_def]
  simp [e0,f0,i0,Kfa.eq_def,hcg,hl2,hp0,hp1,hw1,e1,f1]
 obtain ⟨g1,q1,b,nb,lb,bb⟩:=r1.gd f1
 obtain ⟨c1,t1,ht1,hn1,hz1⟩:=Kzr hs g1
 have L1:=Kxi g1
 have e1:Kfb (s,p :: ctx,⟨8,(g:Int),ty,[k0,k1,k2]⟩,1)=some x1:=Kz6 (i:=1) rfl r1 f1
 have lb':b.length=ctx.length + 1:=by rw [lb]; simp
 obtain ⟨u0,b',rfl⟩:∃ u0 b',b=u0 :: b':=by match b,lb' with | u0 :: b',_=>exact ⟨u0,b',rfl⟩ | [],h=>simp at h
 obtain ⟨hu0,bb'⟩:=Kw8 bb
 have lbc:b'.length=ctx.length:=by simp at lb'; omega
 have i1:idx x1.fneeds 0=some (u0:Int):=by rw [nb]; rfl
 have hcut1:cut x1.fneeds (some (1:Int)) none none=some (Kvr b'):=by rw [nb]; exact Kuz _ _
 have hcp1:=Kt2 (Kvr b') (by rw [Kvs]; omega)
 have o1:=Kzb (out:=[y0]) (nd:=[Kvr a]) (us:=[Kvr []]) (w:=1) (t:=⟨8,(g:Int),ty,[k0,k1,k2]⟩) (m:=[p]) rfl m1 r1 (by simp; omega) f1 (by rw [ht1]; exact Kyf (.inr (by decide))) (Kyd (show (8:Int) ≠ 10 by decide)) nb (by simp <;> omega) (by simp) (by simp) (by simp) (by simp)
 simp only [List.length_cons,List.length_nil,Nat.zero_add,List.drop_succ_cons,List.drop_zero,List.take_succ_cons,List.take_zero,List.nil_append,List.cons_append] at o1
 have m2:Ky0 ⟨8,(g:Int),ty,[k0,k1,k2]⟩ [y0,y1] 2=some [q]:=Kzk (by decide) ad2
 have p2':Kxv s ([q] ++ ctx).length k2 (tsz (⟨8,(g:Int),ty,[k0,k1,k2]⟩:K01)):=by
  have e:([q] ++ ctx).length=ctx.length + Ksc 8 2:=by simp [Ksc]
  rw [e]; exact p2
 obtain ⟨x2,y2,r2⟩:=ih k2 ([q] ++ ctx) p2' (fun z hz=>by rcases List.mem_append.1 hz with hz | hz; exact hm2 z hz; exact hc z hz) (by simp; omega)
 have hw2:=Kwu ctx [q] (by simp; omega)
 by_cases f2:x2.ffault=0
 rotate_left
 ·have e2:Kfb (s,q :: ctx,⟨8,(g:Int),ty,[k0,k1,k2]⟩,2)=some ⟨[],[],x2.ffault,2 :: x2.fpath⟩:=Kz7 (i:=2) rfl r2 (by omega) f2
  refine Kz5.bad (f:=x2.ffault) (p:=2 :: x2.fpath) ?_ (Kyb (by omega) (o0.trans (o1.trans (Kz8 (m:=[q]) rfl m2 r2 (by omega) (by simp; omega) f2)))) f2 (by have:=r2.pl; simp; omega)
  rw [Kf9.eq_def]
  simp [e0,f0,i0,Kfa.eq_def,hcg,hl2,hp0,hp1,hw1,e1,f1,hcut1,hcp1,hw2,e2,f2]
 obtain ⟨g2,q2,d,nd,ld,bd⟩:=r2.gd f2
 obtain ⟨c2,t2,ht2,hn2,hz2⟩:=Kzr hs g2
 have L2:=Kxi g2
 have e2:Kfb (s,q :: ctx,⟨8,(g:Int),ty,[k0,k1,k2]⟩,2)=some x2:=Kz6 (i:=2) rfl r2 f2
 have ld':d.length=ctx.length + 1:=by rw [ld]; simp
 obtain ⟨v0,d',rfl⟩:∃ v0 d',d=v0 :: d':=by match d,ld' with | v0 :: d',_=>exact ⟨v0,d',rfl⟩ | [],h=>simp at h
 obtain ⟨hv0,bd'⟩:=Kw8 bd
 have ldc:d'.length=ctx.length:=by simp at ld'; omega
 have i2:idx x2.fneeds 0=some (v0:Int):=by rw [nd]; rfl
 have hcut2:cut x2.fneeds (some (1:Int)) none none=some (Kvr d'):=by rw [nd]; exact Kuz _ _
 have o2:=Kzb (out:=[y0,y1]) (nd:=[Kvr a,Kvr b']) (us:=[Kvr [],Kvr [u0]]) (w:=2) (t:=⟨8,(g:Int),ty,[k0,k1,k2]⟩) (m:=[q]) rfl m2 r2 (by simp; omega) f2 (by rw [ht2]; exact Kyf (.inr (by decide))) (Kyd (show (8:Int) ≠ 10 by decide)) nd (by simp <;> omega) (by simp) (by simp) (by simp) (by simp)
 simp only [List.length_cons,List.length_nil,Nat.zero_add,List.drop_succ_cons,List.drop_zero,List.take_succ_cons,List.take_zero,List.nil_append,List.cons_append] at o2
 have hl0:=o0.trans (o1.trans (o2.trans (Ky3 (Nat.le_refl _))))
 have hle0:=sLe hs.tab hu0 hg
 have hle1:=sLe hs.tab hv0 hg
 have hf:=Kz2 (ty:=ty) (ks:=[k0,k1,k2]) (ctx:=ctx) (z:=Kvr (List.replicate ctx.length 0)) (y0:=y0) (y1:=y1) (y2:=y2) (us':=Kvr []) (u:=[u0]) (v:=[v0]) hs hg (fun x hx=>by simp at hx; rw [hx]; exact hu0) (by simp) (fun x hx=>by simp at hx; rw [hx]; exact hv0) (by simp) ba bb' bd' (by omega) (by omega) (by omega) (by rw [r2.ty]; omega) (by rw [r1.ty]; omega)
 simp only [List.all_cons,List.all_nil,Bool.and_true] at hf
 rw [r1.ty,r2.ty] at hf
 have hsm:=Kva x1.fty x2.fty (by omega)
 have hj:=Kwj hs b' d' bb' bd' (by omega) (by omega)
 have lj:(Kw6 s n b' d').length=ctx.length:=by unfold Kw6; rw [List.length_zipWith]; omega
 by_cases hqq:x1.fty=x2.fty
 rotate_left
 ·rw [if_neg hqq] at hf
  rw [show (x1.fty == x2.fty)=false from beq_eq_false_iff_ne.2 hqq] at hsm
  refine Kz5.bad (f:=3) (p:=[]) ?_ (Kyc (by omega) hl0 hf) (by decide) (by simp; omega)
  rw [Kf9.eq_def]
  simp [e0,f0,i0,Kfa.eq_def,hcg,hl2,hp0,hp1,hw1,e1,f1,hcut1,hcp1,hw2,e2,f2,hsm,Ke2]
 rw [if_pos hqq] at hf
 rw [show (x1.fty == x2.fty)=true from beq_iff_eq.2 hqq] at hsm
 by_cases hal:le s n u0 g=true∧le s n v0 g=true
 rotate_left
 ·rw [if_neg hal] at hf
  refine Kz5.bad (f:=9) (p:=[]) ?_ (Kyc (by omega) hl0 hf) (by decide) (by simp; omega)
  rw [Kf9.eq_def]
  simp [e0,f0,i0,Kfa.eq_def,hcg,hl2,hp0,hp1,hw1,e1,f1,hcut1,hcp1,hw2,e2,f2,hsm,i1,i2,hle0,hle1,hcut2,hj,Ke2]
  cases q1:le s n v0 g with
  | false=>simp
  | true =>
   cases q2:le s n u0 g with
   | false=>simp
   | true=>exact absurd ⟨q2,q1⟩ hal
 rw [if_pos hal] at hf
 have im:=Kzn (q:=x1.fty) (ns:=Kw4 s n (Kw5 s n g a) (Kw6 s n b' d')) (kids:=[y0,y1,y2]) (by omega) (Kyc (by omega) hl0 hf)
 have lsc:(Kw5 s n g a).length=ctx.length:=by unfold Kw5; rw [List.length_map]; exact la
 have hsc:=Kwb hs hg ba
 have hz0:=Kwe hs hsc
 rw [lsc] at hz0
 have hsum:=Kwg hs g hg (List.replicate ctx.length 0) a (fun x hx=>by rw [List.eq_of_mem_replicate hx]; exact Kvz hs) ba (by simp; omega) (by simp [la])
 rw [hz0] at hsum
 have hs2:=Kwh hs (Kw5 s n g a) (Kw6 s n b' d') hsc (Kwc hs bb' bd') (by omega) (by omega)
 refine Kz5.good (q:=x1.fty) (ns:=Kw4 s n (Kw5 s n g a) (Kw6 s n b' d')) (kids:=[y0,y1,y2]) ?_ im (by omega) g1 (by unfold Kw4; rw [List.length_zipWith]; omega) (Kwa hs hsc (Kwc hs bb' bd')) rfl (kd3 (Kz4.mk' (Kzc (by decide) rfl) r0 f0 (fun _ h=>by cases h) rfl) (Kz4.mk' ad1 r1 f1 hm1 rfl) (Kz4.mk' ad2 r2 f2 hm2 rfl))
 rw [Kf9.eq_def]
 simp [e0,f0,i0,Kfa.eq_def,hcg,hl2,hp0,hp1,hw1,e1,f1,hcut1,hcp1,hw2,e2,f2,hsm,i1,i2,hle0,hle1,hal.1,hal.2,hcut2,hj,na,Kwt ctx.length (by omega),hsum,hs2]
theorem V0d:∀ (m:Nat) (t:K01) (ctx:List (List Int)),tsz t ≤ m→tOk (gN s.fSize true) (yN s.fSize true) ctx.length t=true→(∀ q ∈ ctx,TyS s q)→ctx.length + 2 * tsz t ≤ 1000000→∃ x y,Kz5 s n ctx t x y
 | 0,t,ctx,hm,_,_,_=>by obtain ⟨op,N,ty,ks⟩:=t; rw [tsz] at hm; omega
 | m + 1,t,ctx,hm,h,hc,hb=>by
  have ih:Kzm s n (tsz t):=fun k c hk hc hb=>V0d m k c (by have:=hk.sz; omega) hk.ok hc hb
  obtain ⟨op,N,ty,ks⟩:=t
  have hop:=(Kt1 (Ksz h).1).1
  simp only at hop
  rcases Ks6 hop with rfl | rfl | rfl | rfl | rfl | rfl | rfl | rfl | rfl | rfl | rfl | rfl | rfl
  ·exact Kzp hs rfl h hc hb
  ·exact Kzq hs rfl h hb
  ·exact Kzx hs ih h hc hb
  ·exact Kzy hs ih h hc hb
  ·exact Kzw hs ih h hc hb
  ·exact V0a hs ih h hc hb
  ·exact Kzs hs ih h hc hb
  ·exact Kzt hs ih h hc hb
  ·exact V0c hs ih h hc hb
  ·exact Kzv hs ih h hc hb
  ·exact V09 hs ih h hc hb
  ·exact Kzu hs ih h hc hb
  ·exact V0b hs ih h hc hb
end
theorem V0e {l:List (List Int)} {v:List Int} (h:v ∈ l):v.length ≤ lms l:=by
 have:=Kus h
 unfold lms; omega
theorem V0f {s:K00} {ctx:List (List Int)} {t:K01} (h:Kxf s ctx t=true):Kvw s s.fSize.toNat∧ctx.length ≤ 8∧(∀ q ∈ ctx,TyS s q)∧tsz t ≤ 400∧tOk (gN s.fSize true) (yN s.fSize true) ctx.length t=true:=by
 unfold Kxf Kx5 Kvg at h
 simp only [Bool.and_eq_true,decide_eq_true_eq,List.all_eq_true] at h
 exact ⟨Kvx h.1.1,h.1.2.1,fun q hq=>h.1.2.2 q hq,h.2.1.2,h.2.2⟩
theorem V0g {s:K00} {ctx:List (List Int)} {t:K01} (h:Kxf s ctx t=true):∃ x y,Kz5 s s.fSize.toNat ctx t x y:=by
 obtain ⟨h1,h2,h3,h4,h5⟩:=V0f h
 exact V0d h1 (tsz t) t ctx (Nat.le_refl _) h5 h3 (by omega)
theorem V0h {s:K00} {ctx:List (List Int)} {t:K01} (hc:lms ctx ≤ 1048576) (ht:tms t ≤ 1099511627776) :
  (Kxf s ctx t=false∧Kdq (s,ctx,t)=some false∧Kml (s,ctx,t)=some none) ∨
  (Kxf s ctx t=true∧Kdq (s,ctx,t)=some true∧∃ x y,Kz5 s s.fSize.toNat ctx t x y∧Kml (s,ctx,t)=some (some y)):=by
 have hl:∀ ty ∈ ctx,ty.length ≤ 1099511627776:=fun ty h=>by have:=V0e h; omega
 have hc':ctx.length ≤ 1048576:=by unfold lms at hc; omega
 have h1:=Kxg s ctx t hc' hl ht
 have h2:=Kxh s ctx t hc' hl ht
 cases h:Kxf s ctx t with
 | false=>rw [h] at h1 h2; exact .inl ⟨rfl,h1,by simpa using h2⟩
 | true =>
  rw [h] at h1 h2
  obtain ⟨x,y,r⟩:=V0g h
  refine .inr ⟨rfl,h1,x,y,r,?_⟩
  rw [if_pos rfl,r.im,bs] at h2
  exact h2
structure V0i (s:K00) (ctx:List (List Int)) (t:K01) (y:K03):Prop where
 ok:tOk (gN s.fSize true) (yN s.fSize true) ctx.length t=true
 cx:∀ q ∈ ctx,TyS s q
 bd:ctx.length + 2 * tsz t ≤ 1000000
 im:Kme (⟨s⟩,ctx,t)=some y
 fa:y.ffault=0
section
variable {s:K00} {n:Nat} (hs:Kvw s n) {ctx:List (List Int)} {t:K01} {y:K03}
include hs
theorem V0i.tell (g:V0i s ctx t y):∃ x,Kz5 s n ctx t x y∧x.ffault=0∧x.fty=y.fty∧TyS s y.fty:=by
 obtain ⟨x,y',r⟩:=V0d hs (tsz t) t ctx (Nat.le_refl _) g.ok g.cx g.bd
 have e:=r.im
 rw [g.im] at e
 cases e
 have hf:x.ffault=0:=by rw [← r.fa]; exact g.fa
 exact ⟨x,r,hf,r.ty.symm,by rw [r.ty]; exact (r.gd hf).1⟩
theorem V0i.many (g:V0i s ctx t y):y.fkids.length=t.fKids.length:=by
 obtain ⟨x,r,hf,_⟩:=g.tell hs
 exact (r.kd hf).1
theorem V0i.kid (g:V0i s ctx t y) {i:Nat} {k:K01} (hk:t.fKids[i]?=some k):∃ yk,y.fkids[i]?=some yk∧V0i s (Kz3 t i y.fkids ++ ctx) k yk∧(Kz3 t i y.fkids).length=Ksc t.fOp i:=by
 obtain ⟨x,r,hf,_⟩:=g.tell hs
 obtain ⟨yk,h1,h2⟩:=(r.kd hf).2 i k hk
 obtain ⟨hi,hg⟩:=List.getElem?_eq_some_iff.1 hk
 have hm:k ∈ t.fKids:=hg ▸ List.getElem_mem hi
 have h3:=Kv0 t.fKids t.fOp ctx.length 0 i hi (Ksz g.ok).2
 rw [hg,Nat.zero_add] at h3
 have h4:=Kue hm
 have h5:=Ksd t.fOp (i:Int)
 have h6:=g.bd
 have h7:=h2.ln
 refine ⟨yk,h1,⟨?_,?_,?_,h2.im,h2.fa⟩,h7⟩
 ·rw [List.length_append,h7,Nat.add_comm]; exact h3
 ·intro q hq
  rcases List.mem_append.1 hq with hq | hq
  ·exact h2.ty q hq
  ·exact g.cx q hq
 ·rw [List.length_append,h7]; omega
theorem V0i.first (g:V0i s ctx t y) (h0:0 < t.fKids.length) (ha:Ksc t.fOp ((0:Nat):Int)=0):∃ k0 y0 x0 l,t.fKids[0]?=some k0∧y.fkids=y0 :: l∧V0i s ctx k0 y0∧Kf9 (s,ctx,k0)=some x0∧x0.fty=y0.fty∧TyS s y0.fty:=by
 have hk:t.fKids[0]?=some t.fKids[0]:=List.getElem?_eq_getElem h0
 obtain ⟨y0,h1,h2,h3⟩:=g.kid hs hk
 rw [ha] at h3
 rw [List.eq_nil_of_length_eq_zero h3,List.nil_append] at h2
 obtain ⟨x0,r,hf,h4,h5⟩:=h2.tell hs
 cases e:y.fkids with
 | nil=>rw [e] at h1; cases h1
 | cons z l =>
  rw [e] at h1
  cases h1
  exact ⟨_,_,x0,l,hk,rfl,h2,r.sp,h4,h5⟩
theorem V0i.inner (g:V0i s ctx t y) {i:Nat} (hi:i < t.fKids.length) :
  (Ksc t.fOp (i:Int)=0∧Kz3 t i y.fkids=[]) ∨
  (t.fOp=9∧Ksc t.fOp (i:Int)=1∧Kz3 t i y.fkids=[t.fType]) ∨
  (t.fOp=5∧Ksc t.fOp (i:Int)=2∧∃ k0 x0 a b,t.fKids[0]?=some k0∧Kf9 (s,ctx,k0)=some x0∧Kem (x0.fty,0)=some a∧Kem (x0.fty,1)=some b∧Kz3 t i y.fkids=[b,a]) ∨
  (t.fOp ≠ 9∧t.fOp ≠ 5∧Ksc t.fOp (i:Int)=1∧∃ k0 x0 a,t.fKids[0]?=some k0∧Kf9 (s,ctx,k0)=some x0∧Kem (x0.fty,wr ((i:Int) - 1))=some a∧Kz3 t i y.fkids=[a]):=by
 obtain ⟨yk,_,_,hl⟩:=g.kid hs (List.getElem?_eq_getElem hi)
 have hn:=Kt1 (Ksz g.ok).1
 by_cases h0:Ksc t.fOp (i:Int)=0
 ·rw [h0] at hl
  exact .inl ⟨h0,List.eq_nil_of_length_eq_zero hl⟩
 by_cases h9:t.fOp=9
 ·obtain ⟨op,N,ty,ks⟩:=t
  simp only at h9
  subst h9
  refine .inr (.inl ⟨rfl,rfl,?_⟩)
  unfold Kz3
  rw [Kzd]; rfl
 obtain ⟨op,N,ty,ks⟩:=t
 simp only at h9 h0 hn hi hl ⊢
 have hop:(op=5∧i=1)∨(op=8∧i=1)∨(op=8∧i=2)∨(op=12∧i=1):=by
  have h:=hn.2
  unfold Ksc at h0
  split at h0
  ·rename_i q; simp at q; omega
  ·split at h0
   ·rename_i q q2
    simp [h9] at q2
    rcases q2 with q2 | q2
    ·have e:Ks2 8=3:=by decide
     rw [q2.1,e] at h
     omega
    ·omega
   ·omega
 have ha0:Ksc op ((0:Nat):Int)=0:=by
  rcases hop with ⟨rfl,_⟩ | ⟨rfl,_⟩ | ⟨rfl,_⟩ | ⟨rfl,_⟩ <;> decide
 obtain ⟨k0,y0,x0,l,e1,e2,_,e4,e5,e6⟩:=g.first hs (t:=⟨op,N,ty,ks⟩) (by simp only; omega) ha0
 rw [e2] at hl ⊢
 unfold Kz3 Kj5 at hl ⊢
 simp only at hl ⊢
 rw [if_neg (by simpa using h9),Ksf,bs,if_neg (by simpa using h0)] at hl ⊢
 rcases Kxr hs e6 with q | ⟨a,b,q,p⟩ | ⟨a,b,q,p⟩ | ⟨c,a,b,_,_,q,p⟩ | ⟨c,a,_,_,q,p⟩
 ·rw [q,Kv4,bs] at hl
  rcases hop with ⟨rfl,rfl⟩ | ⟨rfl,rfl⟩ | ⟨rfl,rfl⟩ | ⟨rfl,rfl⟩ <;> cases hl
 all_goals
  rw [q,p.pp,bs] at hl
  rw [q,p.pp,bs]
  rcases hop with ⟨rfl,rfl⟩ | ⟨rfl,rfl⟩ | ⟨rfl,rfl⟩ | ⟨rfl,rfl⟩
  all_goals first
   | (cases hl; done)
   | exact .inr (.inr (.inl ⟨rfl,rfl,k0,x0,a,b,e1,e4,by rw [e5,q]; exact p.p0,by rw [e5,q]; exact p.p1,rfl⟩))
   | exact .inr (.inr (.inr ⟨by decide,by decide,rfl,k0,x0,a,e1,e4,by rw [e5,q]; exact p.p0,rfl⟩))
   | exact .inr (.inr (.inr ⟨by decide,by decide,rfl,k0,x0,b,e1,e4,by rw [e5,q]; exact p.p1,rfl⟩))
end
theorem V0j {s:K00} {ctx:List (List Int)} {t:K01} {x:K02} {y:K03} (h:Kxf s ctx t=true) (r:Kz5 s s.fSize.toNat ctx t x y) (hf:x.ffault=0):V0i s ctx t y:=by
 obtain ⟨h1,h2,h3,h4,h5⟩:=V0f h
 exact ⟨h5,h3,by omega,r.im,by rw [r.fa]; exact hf⟩
end Go.Am
