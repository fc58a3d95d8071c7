/- Plain laws of the printed functions. -/
import Derived.Test.YtkboikcppljkeaaGreatPFAU0
set_option linter.unusedSimpArgs false
set_option linter.unusedVariables false
namespace Go.Am
theorem Kv2 (k:Nat) (h:k ≤ 1048576):Kcz (k:Int)=some (Ku0 (List.replicate k 0)):=by
 unfold Kcz
 rw [Int.toNat_natCast,Ktg (by constructor <;> omega),bs]
 unfold Ku0
 rw [List.map_replicate]
 rfl
theorem Kv3 (ctx front:List (List Int)) (h:ctx.length + front.length ≤ 1048576):Kd5 (ctx,front)=some (front ++ ctx):=by
 unfold Kd5
 simp only
 rw [Krf (by simp; omega),bs,Krf (by omega),bs]
theorem Kv4 (ps:List (List Int)) (hp:ps.length ≤ 1099511627776):∀ (l:List (List Int)) (i:Nat) (out:List Int),ps.drop i=l→out.length + l.flatten.length ≤ 1099511627776→Kdc (ps,out,(i:Int))=some (out ++ l.flatten):=by
 intro l
 induction l with
 | nil =>
  intro i out hd _
  rw [Kdc.eq_def]
  simp only
  rw [Ko0 (Kpe hd)]
  simp
 | cons x l ih =>
  intro i out hd ho
  obtain ⟨h1,h2,h3⟩:=Kpd hd
  rw [List.flatten_cons,List.length_append] at ho
  rw [Kdc.eq_def]
  simp only
  rw [Knz h1,if_pos rfl,h2,bs,Krf (by omega),bs,Kny (by omega),ih (i + 1) _ h3 (by rw [List.length_append]; omega),List.flatten_cons,List.append_assoc]
theorem Kv5 (c:Int) (ps:List (List Int)) (hp:ps.length ≤ 1048576) (h:ps.flatten.length ≤ 1048576):Kdf (c,ps)=some (c :: ps.flatten):=by
 unfold Kdf
 simp only
 rw [show (0:Int)=((0:Nat):Int) from rfl,Kv4 ps (by omega) ps 0 [c] rfl (by rw [List.length_singleton]; omega)]
 rfl
theorem Kv6 (ps:List (List (Int))) (hp:ps.length ≤ 1099511627776):∀ (l:List (List (Int))) (i sz:Nat),ps.drop i=l→sz + l.flatten.length ≤ 1099511627776→Kjm (ps,(sz:Int),(i:Int))=some (((sz + l.flatten.length:Nat)):Int):=by
 intro l
 induction l with
 | nil =>
  intro i sz hd _
  rw [Kjm.eq_def]
  simp only
  rw [Ko0 (Kpe hd)]
  simp
 | cons x l ih =>
  intro i sz hd ho
  obtain ⟨h1,h2,h3⟩:=Kpd hd
  rw [List.flatten_cons,List.length_append] at ho
  have e:wr ((sz:Int) + (x.length:Int))=((sz + x.length:Nat):Int):=Ksn (by omega) (by omega)
  rw [Kjm.eq_def]
  simp only
  rw [Knz h1,if_pos rfl,h2,bs,e,decide_eq_false (by omega),if_neg (by decide),bs,Kny (by omega),ih (i + 1) _ h3 (by omega),List.flatten_cons,List.length_append,Nat.add_assoc]
theorem Kv7 (ps:List (List (Int))) (hp:ps.length ≤ 1099511627776):∀ (l:List (List (Int))) (i:Nat) (out:List (Int)),ps.drop i=l→out.length + l.flatten.length ≤ 1099511627776→Kjq (ps,out,(i:Int))=some (out ++ l.flatten):=by
 intro l
 induction l with
 | nil =>
  intro i out hd _
  rw [Kjq.eq_def]
  simp only
  rw [Ko0 (Kpe hd)]
  simp
 | cons x l ih =>
  intro i out hd ho
  obtain ⟨h1,h2,h3⟩:=Kpd hd
  rw [List.flatten_cons,List.length_append] at ho
  rw [Kjq.eq_def]
  simp only
  rw [Knz h1,if_pos rfl,h2,bs,Krf (by omega),bs,Kny (by omega),ih (i + 1) _ h3 (by rw [List.length_append]; omega),List.flatten_cons,List.append_assoc]
theorem Kv8 (k:Nat) (h:k ≤ 1048576):Kji (k:Int)=some ():=by
 unfold Kji
 have e:wr ((k:Int) - wr (0 - 0))=(k:Int):=by rw [Knw (x:=0 - 0) (by decide) (by decide),Knw (by omega) (by omega)]; omega
 rw [decide_eq_false (by omega),if_neg (by decide),e]
 by_cases hk:k=0
 ·subst hk; rfl
 ·rw [decide_eq_true (by omega),if_pos rfl,Int.toNat_natCast,Ktg (by constructor <;> omega),bs]
theorem Kv9 (ps:List (List (Int))) (hp:ps.length ≤ 1048576) (h:ps.flatten.length ≤ 1048576):Kjt ps=some ps.flatten:=by
 unfold Kjt
 have h0:=Kv6 ps (by omega) ps 0 0 rfl (by omega)
 rw [Nat.zero_add] at h0
 rw [show (0:Int)=((0:Nat):Int) from rfl,h0,bs,Kv8 _ h,bs,Kv7 ps (by omega) ps 0 [] rfl (by rw [List.length_nil]; omega)]
 rfl
theorem Kva (ps:List (List (List Int))) (hp:ps.length ≤ 1099511627776):∀ (l:List (List (List Int))) (i sz:Nat),ps.drop i=l→sz + l.flatten.length ≤ 1099511627776→Ki7 (ps,(sz:Int),(i:Int))=some (((sz + l.flatten.length:Nat)):Int):=by
 intro l
 induction l with
 | nil =>
  intro i sz hd _
  rw [Ki7.eq_def]
  simp only
  rw [Ko0 (Kpe hd)]
  simp
 | cons x l ih =>
  intro i sz hd ho
  obtain ⟨h1,h2,h3⟩:=Kpd hd
  rw [List.flatten_cons,List.length_append] at ho
  have e:wr ((sz:Int) + (x.length:Int))=((sz + x.length:Nat):Int):=Ksn (by omega) (by omega)
  rw [Ki7.eq_def]
  simp only
  rw [Knz h1,if_pos rfl,h2,bs,e,decide_eq_false (by omega),if_neg (by decide),bs,Kny (by omega),ih (i + 1) _ h3 (by omega),List.flatten_cons,List.length_append,Nat.add_assoc]
theorem Kvb (ps:List (List (List Int))) (hp:ps.length ≤ 1099511627776):∀ (l:List (List (List Int))) (i:Nat) (out:List (List Int)),ps.drop i=l→out.length + l.flatten.length ≤ 1099511627776→Kib (ps,out,(i:Int))=some (out ++ l.flatten):=by
 intro l
 induction l with
 | nil =>
  intro i out hd _
  rw [Kib.eq_def]
  simp only
  rw [Ko0 (Kpe hd)]
  simp
 | cons x l ih =>
  intro i out hd ho
  obtain ⟨h1,h2,h3⟩:=Kpd hd
  rw [List.flatten_cons,List.length_append] at ho
  rw [Kib.eq_def]
  simp only
  rw [Knz h1,if_pos rfl,h2,bs,Krf (by omega),bs,Kny (by omega),ih (i + 1) _ h3 (by rw [List.length_append]; omega),List.flatten_cons,List.append_assoc]
theorem Kvc (k:Nat) (h:k ≤ 1048576):Ki3 (k:Int)=some ():=by
 unfold Ki3
 have e:wr ((k:Int) - wr (0 - 0))=(k:Int):=by rw [Knw (x:=0 - 0) (by decide) (by decide),Knw (by omega) (by omega)]; omega
 rw [decide_eq_false (by omega),if_neg (by decide),e]
 by_cases hk:k=0
 ·subst hk; rfl
 ·rw [decide_eq_true (by omega),if_pos rfl,Int.toNat_natCast,Ktg (by constructor <;> omega),bs]
theorem Kvd (ps:List (List (List Int))) (hp:ps.length ≤ 1048576) (h:ps.flatten.length ≤ 1048576):Kie ps=some ps.flatten:=by
 unfold Kie
 have h0:=Kva ps (by omega) ps 0 0 rfl (by omega)
 rw [Nat.zero_add] at h0
 rw [show (0:Int)=((0:Nat):Int) from rfl,h0,bs,Kvc _ h,bs,Kvb ps (by omega) ps 0 [] rfl (by rw [List.length_nil]; omega)]
 rfl
def Kve (s:K00) (ctx:List (List Int)):Bool:=decide (ctx.length ≤ 8) && ctx.all (yN s.fSize true)
theorem sYn {s:K00} {ty:List Int} (h:ty.length ≤ 1099511627776):(Kba ty >>= fun r=>if r=true then Kbl (ty,s.fSize,true) >>= fun q=>some (!q) else some true)=some (!yN s.fSize true ty):=by
 rw [Kq0 ty h,bs]
 unfold yN
 cases wtB ty with
 | false=>rfl
 | true=>rw [if_pos rfl,Kq6 ty h,bs]; rfl
theorem Kvf (s:K00) (ctx:List (List Int)) (hc:ctx.length ≤ 1048576) (hl:∀ ty ∈ ctx,ty.length ≤ 1099511627776):∀ (l:List (List Int)) (i:Nat),ctx.drop i=l→Kbp (s,ctx,(i:Int))=some (if l.all (yN s.fSize true) then .inl () else .inr false):=by
 intro l
 induction l with
 | nil =>
  intro i hd
  rw [Kbp.eq_def]
  simp only
  rw [Ko0 (Kpe hd)]; rfl
 | cons x l ih =>
  intro i hd
  obtain ⟨h1,h2,h3⟩:=Kpd hd
  have hx:x ∈ ctx:=List.mem_of_mem_drop (i:=i) (by rw [hd]; exact List.mem_cons_self)
  rw [Kbp.eq_def]
  simp only
  rw [Knz h1,if_pos rfl]
  simp only [h2,bs]
  rw [sYn (hl x hx),bs,Kny (by omega),ih (i + 1) h3,List.all_cons]
  cases yN s.fSize true x <;> cases l.all (yN s.fSize true) <;> rfl
theorem Kvg (s:K00) (ctx:List (List Int)) (hc:ctx.length ≤ 1048576) (hl:∀ ty ∈ ctx,ty.length ≤ 1099511627776):Kbs (s,ctx)=some (Kve s ctx):=by
 unfold Kbs Kve
 simp only
 by_cases h:ctx.length ≤ 8
 ·rw [decide_eq_false (by omega),decide_eq_true h,if_neg (by decide),show (0:Int)=((0:Nat):Int) from rfl,Kvf s ctx hc hl ctx 0 rfl,bs]
  cases ctx.all (yN s.fSize true) <;> rfl
 ·rw [decide_eq_true (by omega),decide_eq_false h,if_pos rfl]; rfl
theorem Kvh (s:K00) (ctx:List (List Int)) (hc:ctx.length ≤ 1048576) (hl:∀ ty ∈ ctx,ty.length ≤ 1099511627776):∀ (l:List (List Int)) (i:Nat),ctx.drop i=l→∃ r,Kgx (ctx,s,(i:Int))=some r∧(match r with | .inl _=>l.all (Ksg s)=true | .inr j=>l.all (Ksg s)=false∧0 ≤ j):=by
 intro l
 induction l with
 | nil =>
  intro i hd
  rw [Kgx.eq_def]
  simp only
  rw [Ko0 (Kpe hd)]
  exact ⟨_,rfl,rfl⟩
 | cons x l ih =>
  intro i hd
  obtain ⟨h1,h2,h3⟩:=Kpd hd
  have hx:x ∈ ctx:=List.mem_of_mem_drop (i:=i) (by rw [hd]; exact List.mem_cons_self)
  rw [Kgx.eq_def]
  simp only
  rw [Knz h1,if_pos rfl,h2,bs]
  unfold Kgt
  simp only
  rw [Ksi s x (hl x hx)]
  simp only [bs]
  cases hle:Ksg s x with
  | true =>
   obtain ⟨r,hr,hm⟩:=ih (i + 1) h3
   refine ⟨r,?_,?_⟩
   ·rw [if_neg (by simp),Kny (by omega)]; exact hr
   ·rw [List.all_cons,hle,Bool.true_and]; exact hm
  | false=>exact ⟨_,if_pos rfl,by simp [List.all_cons,hle]⟩
theorem Kvi (s:K00) (hs:Krt s=true) (ctx:List (List Int)) (hc:ctx.length ≤ 1048576) (hl:∀ ty ∈ ctx,ty.length ≤ 1099511627776):Kh6 (s,ctx)=some (Kve s ctx):=by
 have e:ctx.all (Ksg s)=ctx.all (yN s.fSize true):=by
  congr 1
  funext ty
  exact Ksl (Kru hs) ty
 unfold Kh6 Kve
 simp only
 by_cases h:ctx.length ≤ 8
 ·rw [decide_eq_true (by omega:(ctx.length:Int) ≤ 8),decide_eq_true h,if_pos rfl]
  obtain ⟨r,hr,hm⟩:=Kvh s ctx hc hl ctx 0 rfl
  unfold Kh3 Kh0
  simp only
  rw [show (0:Int)=((0:Nat):Int) from rfl,hr]
  rw [e] at hm
  cases r with
  | inl _=>simp only [bs] at hm ⊢; rw [hm]; rfl
  | inr j =>
   simp only [bs] at hm ⊢
   rw [hm.1,decide_eq_true (by omega)]; rfl
 ·rw [decide_eq_false (by omega),decide_eq_false h,if_neg (by decide)]; rfl
theorem Kvj {s:K00} (ty:List Int) (h:ty.length ≤ 1099511627776):Khc (ty,s)=some (Ksg s ty):=by
 unfold Khc
 simp only
 rw [Ksi s ty h,bs]
mutual
theorem Kvk (s:K00):∀ (t:K01) (n nodes:Nat),tms t ≤ 1099511627776→n + 2 * tms t ≤ 35184372088832→nodes ≤ 400→Khj (t,(n:Int),s,s,(nodes:Int))=some (Kr3 (tOk (Ksd s) (Ksg s) n t) nodes (tsz t))
 | ⟨op,N,ty,ks⟩,n,nodes,ht,hn,hd=>by
  rw [tms] at ht hn
  rw [Khj.eq_def,tOk,tsz]
  simp only
  rw [Kqq,bs]
  unfold Kqp
  cases hop:inB op 0 12
  ·simp [Kqx,hop,Kr3]
  ·simp only [if_true]
   rw [Kny (by omega)]
   by_cases h4:nodes + 1 ≤ 400
   ·rw [decide_eq_false (by omega:¬ ((nodes + 1:Nat):Int) > 400)]
    by_cases hk:(ks.length:Int)=Kqh op
    ·rw [show ((ks.length:Int) != Kqh op)=false by rw [hk]; exact Ko6]
     simp only [Bool.false_eq_true,if_false,bs]
     refine (Kq7 (x:=Kqv (Ksd s) (n:Int) ⟨op,N,ty,ks⟩) ?_).trans ?_
     ·unfold Kqv
      simp only [iIn,Knw (x:=(n:Int) - 1) (by omega) (by omega),Kse,bs]
      cases op == 0 <;> cases op == 1 <;> cases Kqi op <;> rfl
     refine (Kq7 (x:=Kqv (Ksd s) (n:Int) ⟨op,N,ty,ks⟩ && Kqw (Ksg s) ⟨op,N,ty,ks⟩) ?_).trans ?_
     ·unfold Kqw
      simp only [Kvj ty (by omega),bs]
      cases Kqj op <;> cases Kqv (Ksd s) (n:Int) ⟨op,N,ty,ks⟩ <;> rfl
     have e:Kqx (Ksd s) (Ksg s) (n:Int) ⟨op,N,ty,ks⟩=(Kqv (Ksd s) (n:Int) ⟨op,N,ty,ks⟩ && Kqw (Ksg s) ⟨op,N,ty,ks⟩):=by
      unfold Kqx
      simp only
      rw [hop,hk]; simp
     rw [e]
     cases Kqv (Ksd s) (n:Int) ⟨op,N,ty,ks⟩ && Kqw (Ksg s) ⟨op,N,ty,ks⟩
     ·simp [Kr3]
     ·have h:=Kvl s ks ⟨op,N,ty,ks⟩ n (nodes + 1) 0 rfl (by simp only; omega) (by omega) (by omega) h4
      rw [if_pos rfl,show (0:Int)=((0:Nat):Int) from rfl,h]
      simp only [Bool.true_and]
      unfold Kr3
      rw [show nodes + (1 + Kq8 ks)=nodes + 1 + Kq8 ks by omega]
      cases Kqy (Ksd s) (Ksg s) op n 0 ks && decide (nodes + 1 + Kq8 ks ≤ 400) <;> rfl
    ·rw [show ((ks.length:Int) != Kqh op)=true by simpa using hk]
     have e:Kqx (Ksd s) (Ksg s) (n:Int) ⟨op,N,ty,ks⟩=false:=by
      unfold Kqx
      simp only
      rw [show ((ks.length:Int) == Kqh op)=false by simpa using hk]; simp
     simp [e,Kr3]
   ·rw [decide_eq_true (by omega:((nodes + 1:Nat):Int) > 400)]
    have:¬ nodes + (1 + Kq8 ks) ≤ 400:=by omega
    simp [Kr3,this]
theorem Kvl (s:K00):∀ (ks:List K01) (t:K01) (n nodes i:Nat),t.fKids.drop i=ks→t.fKids.length ≤ 1099511627776→Kq9 ks ≤ 1099511627776→n + 2 * (ks.length + Kq9 ks) ≤ 35184372088832→nodes ≤ 400 →
  Khk (t,(n:Int),s,s,(nodes:Int),(i:Int))=some (if Kqy (Ksd s) (Ksg s) t.fOp n i ks && decide (nodes + Kq8 ks ≤ 400) then .inl ((nodes + Kq8 ks:Nat):Int) else .inr 401)
 | [],t,n,nodes,i,hd,hk,ht,hn,h4=>by
  rw [Khk.eq_def,Kqy,Kq8]
  simp only
  rw [Ko0 (Kpe hd)]
  simp [h4]
 | k :: ks,t,n,nodes,i,hd,hk,ht,hn,h4=>by
  obtain ⟨hi,hx,hd'⟩:=Kpd hd
  rw [Kq9] at ht hn
  rw [List.length_cons] at hn
  have ha:=Kqs t.fOp (i:Int)
  rw [Khk.eq_def,Kqy,Kq8]
  simp only
  rw [Knz hi,if_pos rfl,hx,bs,Kqu,bs,Knw (by omega) (by omega),show (n:Int) + ((Kqr t.fOp (i:Int):Nat):Int)=((n + Kqr t.fOp (i:Int):Nat):Int) by omega]
  rw [Kvk s k (n + Kqr t.fOp (i:Int)) nodes (by omega) (by omega) h4,bs,Kny (by omega)]
  unfold Kr3
  cases tOk (Ksd s) (Ksg s) (n + Kqr t.fOp (i:Int)) k
  ·rfl
  ·by_cases q:nodes + tsz k ≤ 400
   ·rw [decide_eq_true q,Bool.true_and,if_pos rfl,decide_eq_false (by omega:¬ ((nodes + tsz k:Nat):Int) > 400),if_neg (by decide),Kvl s ks t n (nodes + tsz k) (i + 1) hd' hk (by omega) (by omega) q,Nat.add_assoc,Bool.true_and]
   ·rw [decide_eq_false q,decide_eq_false (by omega:¬ nodes + (tsz k + Kq8 ks) ≤ 400)]
    simp
end
theorem Kvm {s:K00} {n:Nat} (h:Tab s n):Ksd s=gN s.fSize true:=by
 funext g
 rw [Ksj h]
 unfold gN inB
 rw [h.size]
 rw [Bool.eq_iff_iff]
 simp
 omega
theorem Kvn (s:K00) (hs:Krt s=true) (t:K01) (n:Nat) (hn:n ≤ 8) (ht:tms t ≤ 1099511627776):Khq (s,t,(n:Int))=some (Ktp s t n):=by
 have hy:Ksg s=yN s.fSize true:=funext fun ty=>Ksl (Kru hs) ty
 unfold Khq Ktp
 simp only
 rw [iIn,bs,hs]
 have:inB (n:Int) 0 8=true:=by unfold inB; rw [decide_eq_true (by omega),decide_eq_true (by omega)]; rfl
 have hc:=Kvk s t n 0 ht (by omega) (by omega)
 rw [Kvm (Kru hs),hy] at hc
 rw [this,if_pos rfl,show (0:Int)=((0:Nat):Int) from rfl,hc,bs]
 unfold Kr3
 rw [Nat.zero_add]
 cases tOk (gN s.fSize true) (yN s.fSize true) n t
 ·simp [bs]
 ·by_cases h:tsz t ≤ 400
  ·simp [bs,h]; omega
  ·simp [bs,h]
def Kvo (s:K00) (ctx:List (List Int)) (t:K01):Bool:=Krt s && Kve s ctx && Ktp s t ctx.length
theorem Kvp (s:K00) (ctx:List (List Int)) (t:K01) (hc:ctx.length ≤ 1048576) (hl:∀ ty ∈ ctx,ty.length ≤ 1099511627776) (ht:tms t ≤ 1099511627776):Kcw (s,ctx,t)=some (Kvo s ctx t):=by
 unfold Kcw Kvo
 simp only
 rw [Krv,bs]
 cases hs:Krt s
 ·rfl
 ·rw [if_pos rfl,Kvg s ctx hc hl,bs]
  cases h2:Kve s ctx
  ·rfl
  ·have h8:ctx.length ≤ 8:=by
    unfold Kve at h2
    simp only [Bool.and_eq_true,decide_eq_true_eq] at h2
    exact h2.1
   rw [if_pos rfl,Ktq s t _ h8 ht]
   rfl
theorem Kvq (s:K00) (ctx:List (List Int)) (t:K01) (hc:ctx.length ≤ 1048576) (hl:∀ ty ∈ ctx,ty.length ≤ 1099511627776) (ht:tms t ≤ 1099511627776) :
  Klg (s,ctx,t)=if Kvo s ctx t then (Kl9 (⟨s⟩,ctx,t) >>= fun r=>some (some r)) else some none:=by
 unfold Klg Kvo
 simp only
 rw [Krw,bs]
 cases hs:Krt s
 ·rfl
 ·rw [if_pos rfl,Kvi s hs ctx hc hl,bs]
  cases h2:Kve s ctx
  ·rfl
  ·have h8:ctx.length ≤ 8:=by
    unfold Kve at h2
    simp only [Bool.and_eq_true,decide_eq_true_eq] at h2
    exact h2.1
   rw [if_pos rfl,Kvn s hs t _ h8 ht,bs]
   cases Ktp s t ctx.length <;> rfl
def TyS (s:K00) (ty:List Int):Prop:=yN s.fSize true ty=true
theorem Kvr {s:K00} {ty:List Int} (h:TyS s ty):ty.length ≤ 40:=by
 unfold TyS yN at h
 rw [Bool.and_eq_true] at h
 exact Krd h.1
theorem Kvs {s:K00} {ty:List Int} (h:TyS s ty):∃ T:Ty,T.ok∧ty=T.code∧T.code.length ≤ 40∧T.code.all (Kq3 s.fSize true)=true:=by
 have hl:=Kvr h
 unfold TyS yN at h
 rw [Bool.and_eq_true] at h
 obtain ⟨T,h1,rfl,_⟩:=Ks3 h.1
 exact ⟨T,h1,rfl,hl,h.2⟩
theorem Kvt {s:K00} {T:Ty} (h:T.ok) (hl:T.code.length ≤ 40) (hc:T.code.all (Kq3 s.fSize true)=true):TyS s T.code:=by
 unfold TyS yN
 rw [Ks4 h hl,hc]; rfl
structure Kvu (s:K00) (c:Int) (a b:List Int):Prop where
 ya:TyS s a
 yb:TyS s b
 p0:Kds (c :: (a ++ b),0)=some a
 p1:Kds (c :: (a ++ b),1)=some b
 pp:Khx (c :: (a ++ b))=some [a,b]
structure Kvv (s:K00) (c:Int) (a:List Int):Prop where
 ya:TyS s a
 p0:Kds (c :: a,0)=some a
 pp:Khx (c :: a)=some [a]
theorem Kvw {s:K00} {c:Int} (hc:c=35∨c=36):Kq3 s.fSize true c=false:=by
 rcases hc with rfl | rfl
 ·unfold Kq3 Kq2
  rw [show Kph 35=2 from rfl]; simp
 ·unfold Kq3 Kq2
  rw [show Kph 36=1 from rfl]; simp
theorem Kvx {s:K00}:TyS s [0]:=Kvt (T:=.num) trivial (by decide) (by
 show (Kq3 s.fSize true 0 && true)=true
 unfold Kq3
 rw [show Kph 0=0 from rfl]; simp)
section
variable {s:K00} {n:Nat} (hs:Ku5 s n)
include hs
theorem Kvy {c:Int} (hc:3 ≤ c∧c ≤ 18):Kq3 s.fSize true c=true ↔ c - 3 < (n:Int):=by
 have hk:Kph c=2:=by rcases Kpl c with h | h | h | h <;> omega
 unfold Kq3 Kq2
 rw [hk,hs.tab.size,if_neg (by omega),if_neg (by omega)]
 simp
 omega
theorem Kvz {c:Int} (hc:19 ≤ c∧c ≤ 34):Kq3 s.fSize true c=true ↔ c - 19 < (n:Int):=by
 have hk:Kph c=1:=by rcases Kpl c with h | h | h | h <;> omega
 unfold Kq3 Kq2
 rw [hk,hs.tab.size,if_neg (by omega),if_pos (by omega)]
 simp
 omega
theorem Kw0 {ty:List Int} (h:TyS s ty):ty=[0]∨(∃ a b,ty=1 :: (a ++ b)∧Kvu s 1 a b)∨(∃ a b,ty=2 :: (a ++ b)∧Kvu s 2 a b) ∨
  (∃ (g:Nat) (a b:List Int),g < n∧g ≤ 15∧ty=(3 + (g:Int)) :: (a ++ b)∧Kvu s (3 + (g:Int)) a b)∨(∃ (g:Nat) (a:List Int),g < n∧g ≤ 15∧ty=(19 + (g:Int)) :: a∧Kvv s (19 + (g:Int)) a):=by
 obtain ⟨T,hT,rfl,hl,hc⟩:=Kvs h
 cases T with
 | num=>exact .inl rfl
 | bin c a b =>
  have B:=Ktd hT (by omega)
  have hl':=hl
  rw [Ty.code,List.length_cons,List.length_append] at hl'
  rw [Ty.code,List.all_cons,List.all_append,Bool.and_eq_true,Bool.and_eq_true] at hc
  have hP:Kvu s c a.code b.code:=⟨Kvt B.ok.1 (by omega) hc.2.1,Kvt B.ok.2 (by omega) hc.2.2,B.p0,B.p1,B.pp⟩
  have hk:=hT.1
  rcases Kpl c with ⟨q,e⟩ | ⟨q,e⟩ | ⟨q,e⟩ | ⟨q,e⟩
  ·rw [e] at hk; exact absurd hk (by decide)
  ·rcases q with rfl | rfl | q | rfl
   ·exact .inr (.inl ⟨_,_,rfl,hP⟩)
   ·exact .inr (.inr (.inl ⟨_,_,rfl,hP⟩))
   ·have:=(Kvy hs q).1 hc.1
    obtain ⟨g,hg⟩:∃ g:Nat,c=3 + (g:Int):=⟨(c - 3).toNat,by omega⟩
    subst hg
    exact .inr (.inr (.inr (.inl ⟨g,_,_,by omega,by omega,rfl,hP⟩)))
   ·rw [Kvw (s:=s) (.inl rfl)] at hc; exact absurd hc.1 (by decide)
  ·rw [e] at hk; exact absurd hk (by decide)
  ·rw [e] at hk; exact absurd hk (by decide)
 | un c a =>
  have B:=unP hT (by omega)
  have hl':=hl
  rw [Ty.code,List.length_cons] at hl'
  rw [Ty.code,List.all_cons,Bool.and_eq_true] at hc
  have hP:Kvv s c a.code:=⟨Kvt B.ok (by omega) hc.2,B.p0,B.pp⟩
  have hk:=hT.1
  rcases Kpl c with ⟨q,e⟩ | ⟨q,e⟩ | ⟨q,e⟩ | ⟨q,e⟩
  ·rw [e] at hk; exact absurd hk (by decide)
  ·rw [e] at hk; exact absurd hk (by decide)
  ·rcases q with q | rfl
   ·have:=(Kvz hs q).1 hc.1
    obtain ⟨g,hg⟩:∃ g:Nat,c=19 + (g:Int):=⟨(c - 19).toNat,by omega⟩
    subst hg
    exact .inr (.inr (.inr (.inr ⟨g,_,by omega,by omega,rfl,hP⟩)))
   ·rw [Kvw (s:=s) (.inr rfl)] at hc; exact absurd hc.1 (by decide)
  ·rw [e] at hk; exact absurd hk (by decide)
theorem Kw1 {c:Int} {a b:List Int} (ha:TyS s a) (hb:TyS s b) (hc:c=1∨c=2∨∃ g:Nat,g < n∧c=3 + (g:Int)) (hl:(c :: (a ++ b)).length ≤ 40):TyS s (c :: (a ++ b)):=by
 obtain ⟨A,hA,rfl,_,hAc⟩:=Kvs ha
 obtain ⟨B,hB,rfl,_,hBc⟩:=Kvs hb
 have hn:=hs.tab.hi
 have hk:Kph c=2∧Kq3 s.fSize true c=true:=by
  rcases hc with rfl | rfl | ⟨g,hg,rfl⟩
  ·exact ⟨rfl,by unfold Kq3; rw [show Kph 1=2 from rfl]; simp⟩
  ·exact ⟨rfl,by unfold Kq3; rw [show Kph 2=2 from rfl]; simp⟩
  ·refine ⟨by rcases Kpl (3 + (g:Int)) with h | h | h | h <;> omega,(Kvy hs (by omega)).2 (by omega)⟩
 have:TyS s (Ty.bin c A B).code:=Kvt ⟨hk.1,hA,hB⟩ hl (by rw [Ty.code,List.all_cons,List.all_append,hk.2,hAc,hBc]; rfl)
 exact this
theorem Kw2 {g:Nat} (hg:g < n) {a:List Int} (ha:TyS s a) (hl:((19 + (g:Int)) :: a).length ≤ 40):TyS s ((19 + (g:Int)) :: a):=by
 obtain ⟨A,hA,rfl,_,hAc⟩:=Kvs ha
 have hn:=hs.tab.hi
 have hk:Kph (19 + (g:Int))=1:=by rcases Kpl (19 + (g:Int)) with h | h | h | h <;> omega
 have:TyS s (Ty.un (19 + (g:Int)) A).code:=Kvt ⟨hk,hA⟩ hl (by rw [Ty.code,List.all_cons,(Kvz hs (by omega)).2 (by omega),hAc]; rfl)
 exact this
theorem Kw3 {x:Int} (h:gN s.fSize true x=true):∃ g:Nat,x=(g:Int)∧g < n:=by
 unfold gN at h
 rw [hs.tab.size] at h
 simp at h
 exact ⟨x.toNat,by omega,by omega⟩
end
structure Kw4 (s:K00) (n:Nat) (k:K01) (m:Nat):Prop where
 ok:tOk (gN s.fSize true) (yN s.fSize true) n k=true
 sz:tsz k + 1 ≤ m
theorem nd1 {s:K00} {n m:Nat} {op N:Int} {ty:List Int} {ks:List K01} (h:tOk (gN s.fSize true) (yN s.fSize true) n ⟨op,N,ty,ks⟩=true) (hm:tsz ⟨op,N,ty,ks⟩ ≤ m) (hk:Kqh op=1):∃ a,ks=[a]∧Kw4 s (n + Kqr op 0) a m:=by
 obtain ⟨h1,h2⟩:=Kre h
 obtain ⟨a,rfl⟩:=Ktn (l:=ks) (beq_iff_eq.2 (by rw [← hk]; exact (Krg h1).2))
 simp only at h2
 rw [Ktm,Bool.and_eq_true] at h2
 rw [Ktr] at hm
 exact ⟨a,rfl,h2.1,by omega⟩
theorem nd2 {s:K00} {n m:Nat} {op N:Int} {ty:List Int} {ks:List K01} (h:tOk (gN s.fSize true) (yN s.fSize true) n ⟨op,N,ty,ks⟩=true) (hm:tsz ⟨op,N,ty,ks⟩ ≤ m) (hk:Kqh op=2):∃ a b,ks=[a,b]∧Kw4 s (n + Kqr op 0) a m∧Kw4 s (n + Kqr op 1) b m:=by
 obtain ⟨h1,h2⟩:=Kre h
 obtain ⟨a,b,rfl⟩:=Kto (l:=ks) (beq_iff_eq.2 (by rw [← hk]; exact (Krg h1).2))
 simp only at h2
 rw [Ktm,Ktm,Bool.and_eq_true,Bool.and_eq_true] at h2
 rw [Kts] at hm
 exact ⟨a,b,rfl,⟨h2.1,by omega⟩,⟨h2.2.1,by omega⟩⟩
theorem nd3 {s:K00} {n m:Nat} {op N:Int} {ty:List Int} {ks:List K01} (h:tOk (gN s.fSize true) (yN s.fSize true) n ⟨op,N,ty,ks⟩=true) (hm:tsz ⟨op,N,ty,ks⟩ ≤ m) (hk:Kqh op=3):∃ a b c,ks=[a,b,c]∧Kw4 s (n + Kqr op 0) a m∧Kw4 s (n + Kqr op 1) b m∧Kw4 s (n + Kqr op 2) c m:=by
 obtain ⟨h1,h2⟩:=Kre h
 obtain ⟨a,b,c,rfl⟩:=Ktu (l:=ks) (by rw [← hk]; exact (Krg h1).2)
 simp only at h2
 rw [Ktm,Ktm,Ktm,Bool.and_eq_true,Bool.and_eq_true,Bool.and_eq_true] at h2
 rw [Ktt] at hm
 exact ⟨a,b,c,rfl,⟨h2.1,by omega⟩,⟨h2.2.1,by omega⟩,⟨h2.2.2.1,by omega⟩⟩
theorem Kw5 {s:K00} {n:Nat} {t:K01} (h:tOk (gN s.fSize true) (yN s.fSize true) n t=true) (hg:Kqi t.fOp=true):gN s.fSize true t.fN=true:=by
 have h1:=(Kre h).1
 unfold Kqx Kqv at h1
 simp only [Bool.and_eq_true] at h1
 have h2:=h1.1.2
 have hop:(t.fOp == 0)=false∧(t.fOp == 1)=false:=by
  simp only [Kqi,Bool.or_eq_true,beq_iff_eq] at hg
  constructor <;> rw [beq_eq_false_iff_ne] <;> omega
 rw [hop.1,hop.2,hg] at h2
 simpa using h2
theorem Kw6 {s:K00} {n:Nat} {t:K01} (h:tOk (gN s.fSize true) (yN s.fSize true) n t=true) (hg:Kqj t.fOp=true):TyS s t.fType:=by
 have h1:=(Kre h).1
 unfold Kqx Kqw at h1
 simp only [Bool.and_eq_true] at h1
 have h2:=h1.2
 rw [hg] at h2
 show yN s.fSize true t.fType=true
 simpa using h2
theorem Kw7 {s:K00} {n:Nat} {t:K01} (h:tOk (gN s.fSize true) (yN s.fSize true) n t=true) (hg:t.fOp=0):∃ i:Nat,t.fN=(i:Int)∧i < n∧t.fKids=[]:=by
 have h1:=(Kre h).1
 have hl:=(Krg h1).2
 unfold Kqx Kqv at h1
 simp only [Bool.and_eq_true] at h1
 have h2:=h1.1.2
 rw [hg] at h2 hl
 simp [inB] at h2
 refine ⟨t.fN.toNat,by omega,by omega,?_⟩
 have:(t.fKids.length:Int)=0:=hl
 exact List.eq_nil_of_length_eq_zero (by omega)
theorem Kw8 {s:K00} {n:Nat} {t:K01} (h:tOk (gN s.fSize true) (yN s.fSize true) n t=true) (hg:t.fOp=1):t.fKids=[]:=by
 have h1:=(Kre h).1
 have hl:=(Krg h1).2
 rw [hg] at hl
 have:(t.fKids.length:Int)=0:=hl
 exact List.eq_nil_of_length_eq_zero (by omega)
def Kw9 (t:K01) (out:List K03) (w:Nat):Option (List (List Int)) :=
 (if (decide ((w:Int) > 0))=true then some (true) else some ((t.fOp == 9))) >>= fun v =>
 if v=true then
  (if (decide ((w:Int) > 0))=true then (idx out 0) >>= fun e=>some (e.fty) else some ([])) >>= fun first=>(Ki0 (t,(w:Int),first)) >>= fun r=>some (r)
 else some ([])
def Kwa (p0:K05) (ctx:List (List Int)) (t:K01) (out:List K03) (needs used:List (List Int)) (w:Nat) (more:List (List Int)) (y:K03):Option (((List K03) × (List (List Int)) × (List (List Int))) ⊕ (K03)) :=
 if (y.ffault != 0)=true then
  (Qdq ([(w:Int)].length + y.fpath.length) 8) >>= fun _=>some (.inr (K03.mk [] [] [] y.ffault ([(w:Int)] ++ y.fpath)))
 else
  (Kii (p0,t,(w:Int),y.fty)) >>= fun f =>
  if (f != 0)=true then some (.inr (K03.mk [] [] [] f []))
  else
   (if (t.fOp == 10)=true then
    if ((w:Int) == 1)=true then
     (idx out 0) >>= fun e=>(Khx e.fty) >>= fun r=>(idx r 0) >>= fun q=>(Kip (y.fty,q)) >>= fun b=>some ((!b))
    else some (false)
   else some (false)) >>= fun v =>
   if v=true then some (.inr (K03.mk [] [] [] 3 []))
   else
    (Qdq (out.length + [y].length) 8) >>= fun _ =>
    (cut y.fneeds none (some (more.length:Int)) none) >>= fun c1 =>
    (Qdq (used.length + [c1].length) 24) >>= fun _ =>
    (cut y.fneeds (some (more.length:Int)) none none) >>= fun c2 =>
    (Qdq (needs.length + [c2].length) 24) >>= fun _ =>
    Kla (p0,ctx,t,(out ++ [y]),(needs ++ [c2]),(used ++ [c1]),(wr ((w:Int) + 1)))
theorem Kwb {p0:K05} {ctx:List (List Int)} {t:K01} {out:List K03} {needs used:List (List Int)} {w:Nat} {k:K01} {more:List (List Int)} {y:K03} (hw:w < t.fKids.length) (hk:idx t.fKids (w:Int)=some k) (hm:Kw9 t out w=some more)
  (hc:ctx.length + more.length ≤ 1000000) (hy:Kl9 (p0,more ++ ctx,k)=some y):Kla (p0,ctx,t,out,needs,used,(w:Int))=Kwa p0 ctx t out needs used w more y:=by
 rw [Kla.eq_def]
 simp only
 rw [Knz hw,if_pos rfl,hk,bs]
 have key:∀ {β:Type} (R:List (List Int)→Option β),((if (decide ((w:Int) > 0))=true then some (true) else some ((t.fOp == 9))) >>= fun v =>
   (if v=true then (if (decide ((w:Int) > 0))=true then (idx out 0) >>= fun e=>some (e.fty) else some ([])) >>= fun first=>(Ki0 (t,(w:Int),first)) >>= fun r=>some (r) else some ([])) >>= R)=(Kw9 t out w >>= R):=fun R=>by
  unfold Kw9
  simp only [Option.bind_eq_bind,Option.bind_assoc]
 refine (key _).trans ?_
 rw [hm,bs,Kvd [more,ctx] (by simp) (by simp; omega),bs]
 simp only [List.flatten_cons,List.flatten_nil,List.append_nil]
 rw [hy,bs]
 rfl
theorem Kwc {p0:K05} {ctx:List (List Int)} {t:K01} {out:List K03} {needs used:List (List Int)} {w:Nat} (hw:t.fKids.length ≤ w):Kla (p0,ctx,t,out,needs,used,(w:Int))=some (.inl (out,needs,used)):=by
 rw [Kla.eq_def]
 simp only
 rw [Ko0 hw]; rfl
theorem Kwd {α:Type} {l:List α} {m:Nat} (h:m ≤ l.length):cut l none (some (m:Int)) none=some (l.take m):=by
 unfold cut
 simp only [Option.getD_none,Option.getD_some,Int.toNat_natCast,Int.toNat_zero,List.drop_zero]
 rw [if_pos (by omega)]
theorem Kwe {α:Type} {l:List α} {m:Nat} (h:m ≤ l.length):cut l (some (m:Int)) none none=some (l.drop m):=by
 unfold cut
 simp only [Option.getD_none,Option.getD_some,Int.toNat_natCast]
 rw [if_pos (by omega),List.take_length]
def Kwf (t:K01) (out:List K03) (w:Nat) (y:K03):Option Bool :=
 if (t.fOp == 10)=true then
  if ((w:Int) == 1)=true then
   (idx out 0) >>= fun e=>(Khx e.fty) >>= fun r=>(idx r 0) >>= fun q=>(Kip (y.fty,q)) >>= fun b=>some ((!b))
  else some (false)
 else some (false)
section
variable {p0:K05} {ctx:List (List Int)} {t:K01} {out:List K03} {needs used:List (List Int)} {w:Nat} {more:List (List Int)} {y:K03}
theorem Kwg (h:y.ffault ≠ 0) (hp:y.fpath.length ≤ 1000000):Kwa p0 ctx t out needs used w more y=some (.inr ⟨[],[],[],y.ffault,(w:Int) :: y.fpath⟩):=by
 unfold Kwa
 rw [if_pos (bne_iff_ne.2 h),Krf (by simp; omega),bs]
 rfl
theorem Kwh {f:Int} (h:y.ffault=0) (hf:Kii (p0,t,(w:Int),y.fty)=some f) (hf0:f ≠ 0):Kwa p0 ctx t out needs used w more y=some (.inr ⟨[],[],[],f,[]⟩):=by
 unfold Kwa
 rw [if_neg (by simp [h]),hf,bs,if_pos (bne_iff_ne.2 hf0)]
theorem Kwi (h:y.ffault=0) (hf:Kii (p0,t,(w:Int),y.fty)=some 0) (ha:Kwf t out w y=some true):Kwa p0 ctx t out needs used w more y=some (.inr ⟨[],[],[],3,[]⟩):=by
 unfold Kwa
 rw [if_neg (by simp [h]),hf,bs,if_neg (by simp)]
 refine (congrArg (· >>= _) (show _=some true from ha)).trans ?_
 rw [bs,if_pos rfl]
theorem Kwj {ns:List Nat} (h:y.ffault=0) (hf:Kii (p0,t,(w:Int),y.fty)=some 0) (ha:Kwf t out w y=some false) (hn:y.fneeds=Ku0 ns) (hl:more.length ≤ ns.length)
  (h1:out.length ≤ 1000000) (h2:needs.length ≤ 1000000) (h3:used.length ≤ 1000000) (h4:w ≤ 1000000) :
  Kwa p0 ctx t out needs used w more y=Kla (p0,ctx,t,(out ++ [y]),(needs ++ [Ku0 (ns.drop more.length)]),(used ++ [Ku0 (ns.take more.length)]),((w + 1:Nat):Int)):=by
 unfold Kwa
 rw [if_neg (by simp [h]),hf,bs,if_neg (by simp)]
 refine (congrArg (· >>= _) (show _=some false from ha)).trans ?_
 rw [bs,if_neg (by simp),Krf (by simp; omega),bs,hn,Kwd (by rw [Ku1]; exact hl),bs,Krf (by simp; omega),bs,Kwe (by rw [Ku1]; exact hl),bs,Krf (by simp; omega),bs,Kny (by omega),Ku3,Ku2]
theorem Kwk {r:K03} (hc:ctx.length ≤ 1000000) (h:Kla (p0,ctx,t,[],[],[],((0:Nat):Int))=some (.inr r)):Kl9 (p0,ctx,t)=some r:=by
 rw [Kl9.eq_def]
 simp only
 rw [Ktg (by simp; omega),bs,show (0:Int)=((0:Nat):Int) from rfl,h]
 rfl
theorem Kwl {o:List K03} {nd us:List (List Int)} {f:Int} {g:K03} (hc:ctx.length ≤ 1000000) (h:Kla (p0,ctx,t,[],[],[],((0:Nat):Int))=some (.inl (o,nd,us)))
  (hf:Kl3 (p0,⟨[],Ku0 (List.replicate ctx.length 0),o,0,[]⟩,ctx,t,nd,us)=some (f,g)) (hg:g.fpath=[]:=by rfl):Kl9 (p0,ctx,t)=some (if f=0 then ⟨g.fty,g.fneeds,g.fkids,0,g.fpath⟩ else ⟨[],[],[],f,[]⟩):=by
 have e:Ku0 (List.replicate ctx.length 0)=List.replicate (Int.toNat (ctx.length:Int)) (0:Int):=by
  unfold Ku0; rw [List.map_replicate,Int.toNat_natCast]; rfl
 rw [e] at hf
 rw [Kl9.eq_def]
 simp only
 rw [Ktg (by simp; omega),bs,show Kla (p0,ctx,t,[],[],[],0)=some (.inl (o,nd,us)) from h,bs]
 simp only
 rw [hf,bs]
 simp only
 by_cases hz:f=0
 ·subst hz; first | (rw [if_neg (by simp),if_pos rfl]; done) | rw [if_neg (by simp),if_pos rfl,hg]
 ·rw [if_pos (bne_iff_ne.2 hz),if_neg hz]
theorem Kwm (h:t.fOp ≠ 10):Kwf t out w y=some false:=by
 unfold Kwf
 rw [if_neg (by simpa using h)]
theorem Kwn (h:w ≠ 1):Kwf t out w y=some false:=by
 unfold Kwf
 have:((w:Int) == 1)=false:=by rw [beq_eq_false_iff_ne]; omega
 rw [this]
 simp
end
section
variable {s:K00} {n:Nat} (hs:Ku5 s n) {N:Int} {ty:List Int} {ks:List K01} {w:Nat} {c:Int} {r:List Int}
theorem Kwo {op:Int} (h:(op=4∨op=6∨op=7∨op=9∨op=11)∨(w ≠ 0∧(op=3∨op=5∨op=8∨op=10∨op=12))):Kii (⟨s⟩,⟨op,N,ty,ks⟩,(w:Int),c :: r)=some 0:=by
 have hw:∀ hw:w ≠ 0,((w:Int) == 0)=false:=fun hw=>by rw [beq_eq_false_iff_ne]; omega
 unfold Kii
 rcases h with (rfl | rfl | rfl | rfl | rfl) | ⟨h0,(rfl | rfl | rfl | rfl | rfl)⟩
 all_goals first | simp [Ksm,Kpn,hw h0] | (by_cases h0:w=0 <;> simp [Ksm,Kpn,h0])
theorem Kwp:Kii (⟨s⟩,⟨2,N,ty,ks⟩,(w:Int),c :: r)=some (if (Kpm c).1=0 then 0 else 2):=by
 unfold Kii
 by_cases h:(Kpm c).1=0 <;> simp [Ksm,Kpn,h]
theorem Kwq:Kii (⟨s⟩,⟨3,N,ty,ks⟩,((0:Nat):Int),c :: r)=some (if (Kpm c).1=0 then 0 else 2):=by
 unfold Kii
 by_cases h:(Kpm c).1=0 <;> simp [Ksm,Kpn,h]
theorem Kwr:Kii (⟨s⟩,⟨10,N,ty,ks⟩,((0:Nat):Int),c :: r)=some (if (Kpm c).1=3 then 0 else 6):=by
 unfold Kii
 by_cases h:(Kpm c).1=3 <;> simp [Ksm,Kpn,h]
include hs
theorem Kws {g:Nat} (hg:g < n):Kii (⟨s⟩,⟨5,(g:Int),ty,ks⟩,((0:Nat):Int),c :: r)=some (if (Kpm c).1=1 then (if le s n 1 g then 0 else 8) else 4):=by
 have hl:=iLe hs.tab (Ku7 hs) hg
 unfold Kii
 by_cases h:(Kpm c).1=1 <;> cases hle:le s n 1 g <;> simp [Ksm,Kpn,h,show Kfb (s,1,(g:Int))=some (le s n 1 g) from hl,hle]
theorem Kwt {g:Nat} (hg:g < n):Kii (⟨s⟩,⟨8,(g:Int),ty,ks⟩,((0:Nat):Int),c :: r)=some (if (Kpm c).1=2 then (if le s n 1 g then 0 else 8) else 5):=by
 have hl:=iLe hs.tab (Ku7 hs) hg
 unfold Kii
 by_cases h:(Kpm c).1=2 <;> cases hle:le s n 1 g <;> simp [Ksm,Kpn,h,show Kfb (s,1,(g:Int))=some (le s n 1 g) from hl,hle]
theorem Kwu {g:Nat} (hg:g < n):Kii (⟨s⟩,⟨12,(g:Int),ty,ks⟩,((0:Nat):Int),c :: r)=some (if (Kpm c).1=4 then (if le s n 1 g then 0 else 8) else 7):=by
 have hl:=iLe hs.tab (Ku7 hs) hg
 unfold Kii
 by_cases h:(Kpm c).1=4 <;> cases hle:le s n 1 g <;> simp [Ksm,Kpn,h,show Kfb (s,1,(g:Int))=some (le s n 1 g) from hl,hle]
end
def Kwv (ty:List Int) (ns:List Nat) (kids:List K03):Int × K03:=(if ty.length > 40 then 3 else 0,⟨ty,Ku0 ns,kids,0,[]⟩)
theorem Kww {α:Type} (x:α) (l:List α):idx (x :: l) 0=some x:=rfl
theorem Kwx {α:Type} (x y:α) (l:List α):idx (x :: y :: l) 1=some y:=rfl
theorem Kwy {α:Type} (x y z:α) (l:List α):idx (x :: y :: z :: l) 2=some z:=rfl
section
variable {s:K00} {n:Nat} (hs:Ku5 s n) {N:Int} {ty:List Int} {ks:List K01} {ctx us:List (List Int)} {z:List Int} {y0 y1 y2:K03} {a b d:List Nat}
theorem Kwz {i:Nat} {q:List Int} {zs:List Nat} (hi:ctx[i]?=some q) (hz:i < zs.length) (hq:q.length ≤ 40):Kl3 (⟨s⟩,⟨[],Ku0 zs,[],0,[]⟩,ctx,⟨0,(i:Int),ty,ks⟩,[],[])=some (Kwv q (zs.set i 1) []):=by
 obtain ⟨h1,h2⟩:=List.getElem?_eq_some_iff.1 hi
 have e1:idx ctx (i:Int)=some q:=by rw [Knx h1,h2]
 have e2:idx (Ku0 zs) (i:Int)=some ((zs[i]:Nat):Int):=by rw [Knx (by rw [Ku1]; exact hz)]; simp [Ku0]
 have e3:List.set (Ku0 zs) i 1=Ku0 (zs.set i 1):=by unfold Ku0; rw [List.map_set]; rfl
 have h40:¬ ((q.length:Int) > 40):=by omega
 unfold Kl3 Kkj Kwv
 simp [e1,e2,e3,Kri q (by omega),show ¬ (40 < (q.length:Int)) by omega,show ¬ (40 < q.length) by omega]
theorem Kx0 {zs:List Nat}:Kl3 (⟨s⟩,⟨[],Ku0 zs,[],0,[]⟩,ctx,⟨1,N,ty,ks⟩,[],[])=some (Kwv [0] zs []):=by
 unfold Kl3 Kkj Kwv
 simp
theorem Kx1 (hy:y0.fty.length ≤ 1000) (ht:ty.length ≤ 1000):Kl3 (⟨s⟩,⟨[],z,[y0],0,[]⟩,ctx,⟨6,N,ty,ks⟩,[Ku0 a],us)=some (Kwv (2 :: (y0.fty ++ ty)) a [y0]):=by
 have hc:=Kv9 [[2],y0.fty,ty] (by simp) (by simp; omega)
 unfold Kl3 Kkj Kwv Kj5
 simp only [List.flatten_cons,List.flatten_nil,List.append_nil,List.singleton_append,List.cons_append,List.nil_append] at hc
 simp [Kww,Kwx,hc]
 split <;> rename_i q40
 ·rw [if_pos (by omega)]
 ·rw [if_neg (by omega)]
theorem Kx2 (hy:y0.fty.length ≤ 1000) (ht:ty.length ≤ 1000):Kl3 (⟨s⟩,⟨[],z,[y0],0,[]⟩,ctx,⟨7,N,ty,ks⟩,[Ku0 a],us)=some (Kwv (2 :: (ty ++ y0.fty)) a [y0]):=by
 have hc:=Kv9 [[2],ty,y0.fty] (by simp) (by simp; omega)
 unfold Kl3 Kkj Kwv Kj5
 simp only [List.flatten_cons,List.flatten_nil,List.append_nil,List.singleton_append,List.cons_append,List.nil_append] at hc
 simp [Kww,Kwx,hc]
 split <;> rename_i q40
 ·rw [if_pos (by omega)]
 ·rw [if_neg (by omega)]
include hs
theorem Kx3 (ha:Kug n a) (hb:Kug n b) (hl:a.length ≤ 1000000) (hab:a.length=b.length):Kl3 (⟨s⟩,⟨[],z,[y0,y1],0,[]⟩,ctx,⟨2,N,ty,ks⟩,[Ku0 a,Ku0 b],us)=some (Kwv [0] (Kud s n a b) [y0,y1]):=by
 have h:=Kuv hs a b ha hb (by omega) hab
 unfold Kl3 Kkj Kwv
 simp [Kww,Kwx,h]
theorem Kx4 (ha:Kug n a) (hb:Kug n b) (hd:Kug n d) (hl:a.length ≤ 1000000) (hab:a.length=b.length) (had:a.length=d.length) (h2:y2.fty.length ≤ 1000) (h1:y1.fty.length ≤ 40) :
  Kl3 (⟨s⟩,⟨[],z,[y0,y1,y2],0,[]⟩,ctx,⟨3,N,ty,ks⟩,[Ku0 a,Ku0 b,Ku0 d],us)=some (if y1.fty=y2.fty then Kwv y1.fty (Kud s n a (Kuf s n b d)) [y0,y1,y2] else (3,⟨[],z,[y0,y1,y2],0,[]⟩)):=by
 have hj:=Kux hs b d hb hd (by omega) (by omega)
 have hlj:(Kuf s n b d).length=a.length:=by unfold Kuf; rw [List.length_zipWith]; omega
 have h:=Kuv hs a (Kuf s n b d) ha (Kul hs hb hd) (by omega) hlj.symm
 have he:=Ktl y1.fty y2.fty (by omega)
 unfold Kl3 Kkj Kwv Kj5
 by_cases hq:y1.fty=y2.fty
 ·rw [show (y1.fty == y2.fty)=true from beq_iff_eq.2 hq] at he
  rw [if_pos hq]
  simp [Kww,Kwx,Kwy,he,hj,h,show ¬ (40 < (y1.fty.length:Int)) by omega,show ¬ (40 < y1.fty.length) by omega]
 ·rw [show (y1.fty == y2.fty)=false from beq_eq_false_iff_ne.2 hq] at he
  rw [if_neg hq]
  simp [Kww,Kwx,Kwy,he]
theorem Kx5 (ha:Kug n a) (hb:Kug n b) (hl:a.length ≤ 1000000) (hab:a.length=b.length) (h0:y0.fty.length ≤ 1000) (h1:y1.fty.length ≤ 1000) :
  Kl3 (⟨s⟩,⟨[],z,[y0,y1],0,[]⟩,ctx,⟨4,N,ty,ks⟩,[Ku0 a,Ku0 b],us)=some (Kwv (1 :: (y0.fty ++ y1.fty)) (Kud s n a b) [y0,y1]):=by
 have h:=Kuv hs a b ha hb (by omega) hab
 have hc:=Kv9 [[1],y0.fty,y1.fty] (by simp) (by simp; omega)
 unfold Kl3 Kkj Kwv Kj5
 simp only [List.flatten_cons,List.flatten_nil,List.append_nil,List.singleton_append,List.cons_append,List.nil_append] at hc
 simp [Kww,Kwx,hc,h]
 split <;> rename_i q40
 ·rw [if_pos (by omega)]
 ·rw [if_neg (by omega)]
theorem Kx6 {g:Nat} (hg:g < n) {u:List Nat} (hu:Kug n u) (hul:u.length ≤ 1000000) (hy:y0.fty.length ≤ 1000) (ht:ty.length ≤ 1000) :
  Kl3 (⟨s⟩,⟨[],z,[y0],0,[]⟩,ctx,⟨9,(g:Int),ty,ks⟩,[Ku0 a],[Ku0 u])=some (if (u.all fun x=>le s n x g)=true then Kwv ((3 + (g:Int)) :: (ty ++ y0.fty)) a [y0] else (9,⟨[],z,[y0],0,[]⟩)):=by
 have hn:=hs.tab.hi
 have e:=Kv1 hs g hg u hu (by omega)
 have hw:wr (3 + (g:Int))=3 + (g:Int):=Knw (by omega) (by omega)
 have hc:=Kv9 [[3 + (g:Int)],ty,y0.fty] (by simp) (by simp; omega)
 unfold Kl3 Kkj Kwv Kj5
 simp only [List.flatten_cons,List.flatten_nil,List.append_nil,List.singleton_append,List.cons_append,List.nil_append] at hc
 cases hq:(u.all fun x=>le s n x g) with
 | true =>
  rw [hq] at e
  simp [Kww,Kwx,e,hc,hw]
  split <;> rename_i q40
  ·rw [if_pos (by omega)]
  ·rw [if_neg (by omega)]
 | false =>
  rw [hq] at e
  simp [Kww,Kwx,e]
theorem Kx7 {g:Nat} (hg:g < n) (ha:Kug n a) (hl:a.length ≤ 1000000) (hy:y0.fty.length ≤ 1000) :
  Kl3 (⟨s⟩,⟨[],z,[y0],0,[]⟩,ctx,⟨11,(g:Int),ty,ks⟩,[Ku0 a],us)=some (Kwv ((19 + (g:Int)) :: y0.fty) (Kue s n g a) [y0]):=by
 have hn:=hs.tab.hi
 have e:=Kuz hs g hg a ha (by omega)
 have hw:wr (19 + (g:Int))=19 + (g:Int):=Knw (by omega) (by omega)
 have hc:=Kv9 [[19 + (g:Int)],y0.fty] (by simp) (by simp; omega)
 unfold Kl3 Kkj Kwv Kj5
 simp only [List.flatten_cons,List.flatten_nil,List.append_nil,List.singleton_append,List.cons_append,List.nil_append] at hc
 simp [Kww,Kwx,hc,hw,e]
 split <;> rename_i q40
 ·rw [if_pos (by omega)]
 ·rw [if_neg (by omega)]
theorem Kx8 {g:Nat} (hg:g < n) {p q:List Int} (hty:y0.fty=(3 + (g:Int)) :: (p ++ q)) (hP:Kvu s (3 + (g:Int)) p q) (ha:Kug n a) (hb:Kug n b) (hl:a.length ≤ 1000000) (hab:a.length=b.length) :
  Kl3 (⟨s⟩,⟨[],z,[y0,y1],0,[]⟩,ctx,⟨10,N,ty,ks⟩,[Ku0 a,Ku0 b],us)=some (Kwv q (Kud s n a (Kue s n g b)) [y0,y1]):=by
 have hn:=hs.tab.hi
 have e:=Kuz hs g hg b hb (by omega)
 have hlj:(Kue s n g b).length=a.length:=by unfold Kue; rw [List.length_map]; omega
 have h:=Kuv hs a (Kue s n g b) ha (Kuk hs hg hb) (by omega) hlj.symm
 have hsh:Kpm (3 + (g:Int))=(3,(g:Int)):=by
  rcases Kpo (3 + (g:Int)) with h | h | h | h | h | h | h | h <;> first | omega | (obtain ⟨_,e⟩:=h; rw [e]; congr 1; omega)
 have hq:=Kvr hP.yb
 have pp:=hP.pp
 rw [← hty] at pp
 have i0:idx y0.fty 0=some (3 + (g:Int)):=by rw [hty]; rfl
 unfold Kl3 Kkj Kwv Kj5
 simp [Kww,Kwx,i0,Kpn,hsh,pp,e,h,show ¬ (40 < (q.length:Int)) by omega,show ¬ (40 < q.length) by omega]
theorem Kx9 {g:Nat} (hg:g < n) {u:List Nat} {us':List Int} (hu:Kug n u) (hul:u.length ≤ 1000000) (ha:Kug n a) (hb:Kug n b) (hl:a.length ≤ 1000000) (hab:a.length=b.length) (h1:y1.fty.length ≤ 40) :
  Kl3 (⟨s⟩,⟨[],z,[y0,y1],0,[]⟩,ctx,⟨5,(g:Int),ty,ks⟩,[Ku0 a,Ku0 b],[us',Ku0 u])=some (if (u.all fun x=>le s n x g)=true then Kwv y1.fty (Kud s n (Kue s n g a) b) [y0,y1] else (9,⟨[],z,[y0,y1],0,[]⟩)):=by
 have e:=Kv1 hs g hg u hu (by omega)
 have e2:=Kuz hs g hg a ha (by omega)
 have hlj:(Kue s n g a).length=a.length:=by unfold Kue; rw [List.length_map]
 have h:=Kuv hs (Kue s n g a) b (Kuk hs hg ha) hb (by omega) (by omega)
 unfold Kl3 Kkj Kwv Kj5
 cases hq:(u.all fun x=>le s n x g) with
 | true =>
  rw [hq] at e
  simp [Kww,Kwx,e,e2,h,show ¬ (40 < (y1.fty.length:Int)) by omega,show ¬ (40 < y1.fty.length) by omega]
 | false =>
  rw [hq] at e
  simp [Kww,Kwx,e]
theorem Kxa {g m:Nat} (hg:g < n) (hm:m < n) {p:List Int} (hty:y0.fty=(19 + (m:Int)) :: p) {u:List Nat} {us':List Int} (hu:Kug n u) (hul:u.length ≤ 1000000) (ha:Kug n a) (hb:Kug n b) (hl:a.length ≤ 1000000) (hab:a.length=b.length) (h1:y1.fty.length ≤ 40) :
  Kl3 (⟨s⟩,⟨[],z,[y0,y1],0,[]⟩,ctx,⟨12,(g:Int),ty,ks⟩,[Ku0 a,Ku0 b],[us',Ku0 u])=some (if (u.all fun x=>le s n x (ti s n g m))=true then Kwv y1.fty (Kud s n (Kue s n g a) b) [y0,y1] else (9,⟨[],z,[y0,y1],0,[]⟩)):=by
 have hn:=hs.tab.hi
 have e0:=Kon hs.tab hg hm
 have e:=Kv1 hs (ti s n g m) (Kog hs.tab hg hm) u hu (by omega)
 have e2:=Kuz hs g hg a ha (by omega)
 have hlj:(Kue s n g a).length=a.length:=by unfold Kue; rw [List.length_map]
 have h:=Kuv hs (Kue s n g a) b (Kuk hs hg ha) hb (by omega) (by omega)
 have hsh:Kpm (19 + (m:Int))=(4,(m:Int)):=by
  rcases Kpo (19 + (m:Int)) with h | h | h | h | h | h | h | h <;> first | omega | (obtain ⟨_,e⟩:=h; rw [e]; congr 1; omega)
 have i0:idx y0.fty 0=some (19 + (m:Int)):=by rw [hty]; rfl
 unfold Kl3 Kkj Kwv Kj5
 cases hq:(u.all fun x=>le s n x (ti s n g m)) with
 | true =>
  rw [hq] at e
  simp [Kww,Kwx,i0,Kpn,hsh,e0,e,e2,h,show ¬ (40 < (y1.fty.length:Int)) by omega,show ¬ (40 < y1.fty.length) by omega]
 | false =>
  rw [hq] at e
  simp [Kww,Kwx,i0,Kpn,hsh,e0,e]
theorem Kxb {g:Nat} (hg:g < n) {u v:List Nat} {us':List Int} (hu:Kug n u) (hul:u.length ≤ 1000000) (hv:Kug n v) (hvl:v.length ≤ 1000000) (ha:Kug n a) (hb:Kug n b) (hd:Kug n d) (hl:a.length ≤ 1000000) (hab:a.length=b.length) (had:a.length=d.length) (h2:y2.fty.length ≤ 1000) (h1:y1.fty.length ≤ 40) :
  Kl3 (⟨s⟩,⟨[],z,[y0,y1,y2],0,[]⟩,ctx,⟨8,(g:Int),ty,ks⟩,[Ku0 a,Ku0 b,Ku0 d],[us',Ku0 u,Ku0 v]) =
   some (if y1.fty=y2.fty then (if (u.all fun x=>le s n x g)=true∧(v.all fun x=>le s n x g)=true then Kwv y1.fty (Kud s n (Kue s n g a) (Kuf s n b d)) [y0,y1,y2] else (9,⟨[],z,[y0,y1,y2],0,[]⟩)) else (3,⟨[],z,[y0,y1,y2],0,[]⟩)):=by
 have e:=Kv1 hs g hg u hu (by omega)
 have e':=Kv1 hs g hg v hv (by omega)
 have e2:=Kuz hs g hg a ha (by omega)
 have hj:=Kux hs b d hb hd (by omega) (by omega)
 have hlj:(Kuf s n b d).length=a.length:=by unfold Kuf; rw [List.length_zipWith]; omega
 have hls:(Kue s n g a).length=a.length:=by unfold Kue; rw [List.length_map]
 have h:=Kuv hs (Kue s n g a) (Kuf s n b d) (Kuk hs hg ha) (Kul hs hb hd) (by omega) (by omega)
 have he:=Ktl y1.fty y2.fty (by omega)
 unfold Kl3 Kkj Kwv Kj5
 by_cases hq:y1.fty=y2.fty
 ·rw [show (y1.fty == y2.fty)=true from beq_iff_eq.2 hq] at he
  rw [if_pos hq]
  cases hu':(u.all fun x=>le s n x g) with
  | false =>
   rw [hu'] at e
   simp [Kww,Kwx,Kwy,he,e]
  | true =>
   rw [hu'] at e
   cases hv':(v.all fun x=>le s n x g) with
   | false =>
    rw [hv'] at e'
    simp [Kww,Kwx,Kwy,he,e,e']
   | true =>
    rw [hv'] at e'
    simp [Kww,Kwx,Kwy,he,e,e',e2,hj,h,show ¬ (40 < (y1.fty.length:Int)) by omega,show ¬ (40 < y1.fty.length) by omega]
 ·rw [show (y1.fty == y2.fty)=false from beq_eq_false_iff_ne.2 hq] at he
  rw [if_neg hq]
  simp [Kww,Kwx,Kwy,he]
end
def Kxc (t:K01) (i:Nat) (kids:List K03):List (List Int):=(Ki0 (t,(i:Int),(match kids with | []=>[] | y :: _=>y.fty))).getD []
structure Kxd (s:K00) (ctx:List (List Int)) (t:K01) (kids:List K03) (i:Nat) (k:K01) (y:K03):Prop where
 im:Kl9 (⟨s⟩,Kxc t i kids ++ ctx,k)=some y
 fa:y.ffault=0
 ty:∀ q ∈ Kxc t i kids,TyS s q
 ln:(Kxc t i kids).length=Kqr t.fOp i
structure Kxe (s:K00) (n:Nat) (ctx:List (List Int)) (t:K01) (x:K02) (y:K03):Prop where
 sp:Kef (s,ctx,t)=some x
 im:Kl9 (⟨s⟩,ctx,t)=some y
 ty:y.fty=x.fty
 ne:y.fneeds=x.fneeds
 fa:y.ffault=x.ffault
 pa:y.fpath=x.fpath
 pl:x.fpath.length + 1 ≤ tsz t
 bd:x.ffault ≠ 0→x.fty=[]∧x.fneeds=[]
 gd:x.ffault=0→TyS s x.fty∧x.fpath=[]∧∃ ns:List Nat,x.fneeds=Ku0 ns∧ns.length=ctx.length∧Kug n ns
 kd:x.ffault=0→y.fkids.length=t.fKids.length∧∀ (i:Nat) (k:K01),t.fKids[i]?=some k→∃ yk,y.fkids[i]?=some yk∧Kxd s ctx t y.fkids i k yk
section
variable {s:K00} {n:Nat} {ctx:List (List Int)} {t:K01}
theorem Kxe.bad {f:Int} {p:List Int} (sp:Kef (s,ctx,t)=some ⟨[],[],f,p⟩) (im:Kl9 (⟨s⟩,ctx,t)=some ⟨[],[],[],f,p⟩) (hf:f ≠ 0) (hp:p.length + 1 ≤ tsz t):∃ x y,Kxe s n ctx t x y :=
 ⟨_,_,{ sp:=sp,im:=im,ty:=rfl,ne:=rfl,fa:=rfl,pa:=rfl,pl:=hp,bd:=fun _=>⟨rfl,rfl⟩,gd:=fun h=>absurd h hf,kd:=fun h=>absurd h hf }⟩
theorem Kxe.good {q:List Int} {ns:List Nat} {kids:List K03} (sp:Kef (s,ctx,t)=some ⟨q,Ku0 ns,0,[]⟩) (im:Kl9 (⟨s⟩,ctx,t)=some ⟨q,Ku0 ns,kids,0,[]⟩) (hp:1 ≤ tsz t) (hq:TyS s q) (hl:ns.length=ctx.length) (hb:Kug n ns)
  (kl:kids.length=t.fKids.length) (kd:∀ (i:Nat) (k:K01),t.fKids[i]?=some k→∃ yk,kids[i]?=some yk∧Kxd s ctx t kids i k yk):∃ x y,Kxe s n ctx t x y :=
 ⟨_,_,{ sp:=sp,im:=im,ty:=rfl,ne:=rfl,fa:=rfl,pa:=rfl,pl:=by simpa using hp,bd:=fun h=>absurd rfl h,gd:=fun _=>⟨hq,rfl,ns,rfl,hl,hb⟩,kd:=fun _=>⟨kl,kd⟩ }⟩
theorem Kxe.done {q:List Int} {ns:List Nat} {kids:List K03} (sp:Kef (s,ctx,t)=Kdp (q,Ku0 ns)) (im:Kl9 (⟨s⟩,ctx,t)=some (if (Kwv q ns kids).1=0 then ⟨(Kwv q ns kids).2.fty,(Kwv q ns kids).2.fneeds,(Kwv q ns kids).2.fkids,0,(Kwv q ns kids).2.fpath⟩ else ⟨[],[],[],(Kwv q ns kids).1,[]⟩)) (hp:1 ≤ tsz t)
  (hq:q.length ≤ 40→TyS s q) (hl:ns.length=ctx.length) (hb:Kug n ns) (kl:kids.length=t.fKids.length) (kd:∀ (i:Nat) (k:K01),t.fKids[i]?=some k→∃ yk,kids[i]?=some yk∧Kxd s ctx t kids i k yk):∃ x y,Kxe s n ctx t x y:=by
 unfold Kdp Kd8 at sp
 simp only at sp
 unfold Kwv at im
 by_cases h:q.length > 40
 ·rw [decide_eq_true (by omega),if_pos rfl,bs] at sp
  rw [if_pos h,if_neg (by simp)] at im
  exact Kxe.bad sp im (by decide) (by simpa using hp)
 ·rw [decide_eq_false (by omega),if_neg (by decide)] at sp
  rw [if_neg h,if_pos rfl] at im
  exact Kxe.good sp im hp (hq (by omega)) hl hb kl kd
theorem Kxf {i:Nat} {k:K01} {x:K02} {y:K03} {c:List (List Int)} (hk:t.fKids[i]?=some k) (h:Kxe s n c k x y) (hf:x.ffault=0):Keh (s,c,t,(i:Int))=some x:=by
 obtain ⟨h1,h2⟩:=List.getElem?_eq_some_iff.1 hk
 rw [Keh.eq_def]
 simp only
 rw [Knx h1,h2,bs,h.sp,bs,if_neg (by simp [hf]),bs]
theorem Kxg {i:Nat} {k:K01} {x:K02} {y:K03} {c:List (List Int)} (hk:t.fKids[i]?=some k) (h:Kxe s n c k x y) (hz:tsz k ≤ 1000000) (hf:x.ffault ≠ 0):Keh (s,c,t,(i:Int))=some ⟨[],[],x.ffault,(i:Int) :: x.fpath⟩:=by
 obtain ⟨h1,h2⟩:=List.getElem?_eq_some_iff.1 hk
 have hp:=h.pl
 obtain ⟨q1,q2⟩:=h.bd hf
 rw [Keh.eq_def]
 simp only
 rw [Knx h1,h2,bs,h.sp,bs,if_pos (bne_iff_ne.2 hf),Krf (by simp; omega),bs,bs,q1,q2]
 rfl
variable {out:List K03} {nd us:List (List Int)} {w:Nat} {k:K01} {m:List (List Int)} {x:K02} {y:K03}
theorem Kxh (hk:t.fKids[w]?=some k) (hm:Kw9 t out w=some m) (r:Kxe s n (m ++ ctx) k x y) (hz:tsz k ≤ 1000000) (hc:ctx.length + m.length ≤ 1000000) (hf:x.ffault ≠ 0) :
  Kla (⟨s⟩,ctx,t,out,nd,us,(w:Int))=some (.inr ⟨[],[],[],x.ffault,(w:Int) :: x.fpath⟩):=by
 obtain ⟨h1,h2⟩:=List.getElem?_eq_some_iff.1 hk
 have hp:=r.pl
 rw [Kwb h1 (by rw [Knx h1,h2]) hm hc r.im,Kwg (by rw [r.fa]; exact hf) (by rw [r.pa]; omega),r.fa,r.pa]
theorem Kxi {f:Int} (hk:t.fKids[w]?=some k) (hm:Kw9 t out w=some m) (r:Kxe s n (m ++ ctx) k x y) (hc:ctx.length + m.length ≤ 1000000) (hf:x.ffault=0) (h:Kii (⟨s⟩,t,(w:Int),x.fty)=some f) (hf0:f ≠ 0) :
  Kla (⟨s⟩,ctx,t,out,nd,us,(w:Int))=some (.inr ⟨[],[],[],f,[]⟩):=by
 obtain ⟨h1,h2⟩:=List.getElem?_eq_some_iff.1 hk
 rw [Kwb h1 (by rw [Knx h1,h2]) hm hc r.im,Kwh (by rw [r.fa]; exact hf) (by rw [r.ty]; exact h) hf0]
theorem Kxj (hk:t.fKids[w]?=some k) (hm:Kw9 t out w=some m) (r:Kxe s n (m ++ ctx) k x y) (hc:ctx.length + m.length ≤ 1000000) (hf:x.ffault=0) (h:Kii (⟨s⟩,t,(w:Int),x.fty)=some 0) (ha:Kwf t out w y=some true) :
  Kla (⟨s⟩,ctx,t,out,nd,us,(w:Int))=some (.inr ⟨[],[],[],3,[]⟩):=by
 obtain ⟨h1,h2⟩:=List.getElem?_eq_some_iff.1 hk
 rw [Kwb h1 (by rw [Knx h1,h2]) hm hc r.im,Kwi (by rw [r.fa]; exact hf) (by rw [r.ty]; exact h) ha]
theorem Kxk {ns:List Nat} (hk:t.fKids[w]?=some k) (hm:Kw9 t out w=some m) (r:Kxe s n (m ++ ctx) k x y) (hc:ctx.length + m.length ≤ 1000000) (hf:x.ffault=0) (h:Kii (⟨s⟩,t,(w:Int),x.fty)=some 0) (ha:Kwf t out w y=some false)
  (hn:x.fneeds=Ku0 ns) (hl:m.length ≤ ns.length) (h1':out.length ≤ 1000000) (h2':nd.length ≤ 1000000) (h3':us.length ≤ 1000000) (h4':w ≤ 1000000) :
  Kla (⟨s⟩,ctx,t,out,nd,us,(w:Int))=Kla (⟨s⟩,ctx,t,(out ++ [y]),(nd ++ [Ku0 (ns.drop m.length)]),(us ++ [Ku0 (ns.take m.length)]),((w + 1:Nat):Int)):=by
 obtain ⟨h1,h2⟩:=List.getElem?_eq_some_iff.1 hk
 rw [Kwb h1 (by rw [Knx h1,h2]) hm hc r.im,Kwj (by rw [r.fa]; exact hf) (by rw [r.ty]; exact h) ha (by rw [r.ne]; exact hn) hl h1' h2' h3' h4']
end
theorem Kxl {op N:Int} {ty:List Int} {ks:List K01} {i:Nat} {q:List Int} (h9:op ≠ 9) (h:Kqr op (i:Int)=0):Ki0 (⟨op,N,ty,ks⟩,(i:Int),q)=some []:=by
 unfold Ki0
 simp only
 rw [if_neg (by simpa using h9),Kqu,bs,h]
 rfl
theorem Kxm {N:Int} {ty:List Int} {ks:List K01} {i:Nat} {q:List Int}:Ki0 (⟨9,N,ty,ks⟩,(i:Int),q)=some [ty]:=by
 unfold Ki0
 simp only
 rw [if_pos (by decide)]
theorem Kxn {s:K00} {N:Int} {ty:List Int} {ks:List K01} {p q:List Int} (h:Kvu s 1 p q):Ki0 (⟨5,N,ty,ks⟩,((1:Nat):Int),1 :: (p ++ q))=some [q,p]:=by
 unfold Ki0
 simp only
 rw [if_neg (by decide),Kqu,bs,show Kqr 5 ((1:Nat):Int)=2 from rfl,if_neg (by decide),h.pp,bs,if_pos (by decide)]
 rfl
theorem Kxo {s:K00} {N:Int} {ty:List Int} {ks:List K01} {p q:List Int} (h:Kvu s 2 p q):Ki0 (⟨8,N,ty,ks⟩,((1:Nat):Int),2 :: (p ++ q))=some [p]:=by
 unfold Ki0
 simp only
 rw [if_neg (by decide),Kqu,bs,show Kqr 8 ((1:Nat):Int)=1 from rfl,if_neg (by decide),h.pp,bs,if_neg (by decide),if_pos (by decide)]
 rfl
theorem Kxp {s:K00} {N:Int} {ty:List Int} {ks:List K01} {p q:List Int} (h:Kvu s 2 p q):Ki0 (⟨8,N,ty,ks⟩,((2:Nat):Int),2 :: (p ++ q))=some [q]:=by
 unfold Ki0
 simp only
 rw [if_neg (by decide),Kqu,bs,show Kqr 8 ((2:Nat):Int)=1 from rfl,if_neg (by decide),h.pp,bs,if_neg (by decide),if_pos (by decide)]
 rfl
theorem Kxq {s:K00} {N c:Int} {ty:List Int} {ks:List K01} {p:List Int} (h:Kvv s c p):Ki0 (⟨12,N,ty,ks⟩,((1:Nat):Int),c :: p)=some [p]:=by
 unfold Ki0
 simp only
 rw [if_neg (by decide),Kqu,bs,show Kqr 12 ((1:Nat):Int)=1 from rfl,if_neg (by decide),h.pp,bs,if_neg (by decide),if_neg (by decide)]
theorem Kxr {op N:Int} {ty:List Int} {ks:List K01} (h9:op ≠ 9):Kw9 ⟨op,N,ty,ks⟩ [] 0=some []:=by
 unfold Kw9
 simp [h9]
theorem Kxs {N:Int} {ty:List Int} {ks:List K01}:Kw9 ⟨9,N,ty,ks⟩ [] 0=some [ty]:=by
 unfold Kw9
 have:=@Kxm N ty ks 0 []
 simp at this ⊢
 rw [this]
theorem Kxt {t:K01} {w:Nat} {y0:K03} {l:List K03} {m:List (List Int)} (hw:0 < w) (h:Ki0 (t,(w:Int),y0.fty)=some m):Kw9 t (y0 :: l) w=some m:=by
 unfold Kw9
 rw [show decide ((w:Int) > 0)=true from decide_eq_true (by omega),if_pos rfl,bs,if_pos rfl,if_pos rfl,Kww,bs,bs,h,bs]
theorem Kxu {t:K01} {i:Nat} {y0:K03} {l:List K03} {m:List (List Int)} (h:Ki0 (t,(i:Int),y0.fty)=some m):Kxc t i (y0 :: l)=m:=by
 unfold Kxc
 simp only
 rw [h]; rfl
theorem kd1 {s:K00} {ctx:List (List Int)} {op N:Int} {ty:List Int} {k0:K01} {y0:K03} (h0:Kxd s ctx ⟨op,N,ty,[k0]⟩ [y0] 0 k0 y0) :
  ∀ (i:Nat) (k:K01),(⟨op,N,ty,[k0]⟩:K01).fKids[i]?=some k→∃ yk,[y0][i]?=some yk∧Kxd s ctx ⟨op,N,ty,[k0]⟩ [y0] i k yk:=by
 intro i k hk
 match i,hk with
 | 0,hk=>cases hk; exact ⟨y0,rfl,h0⟩
 | i + 1,hk=>simp at hk
theorem kd2 {s:K00} {ctx:List (List Int)} {op N:Int} {ty:List Int} {k0 k1:K01} {y0 y1:K03} (h0:Kxd s ctx ⟨op,N,ty,[k0,k1]⟩ [y0,y1] 0 k0 y0) (h1:Kxd s ctx ⟨op,N,ty,[k0,k1]⟩ [y0,y1] 1 k1 y1) :
  ∀ (i:Nat) (k:K01),(⟨op,N,ty,[k0,k1]⟩:K01).fKids[i]?=some k→∃ yk,[y0,y1][i]?=some yk∧Kxd s ctx ⟨op,N,ty,[k0,k1]⟩ [y0,y1] i k yk:=by
 intro i k hk
 match i,hk with
 | 0,hk=>cases hk; exact ⟨y0,rfl,h0⟩
 | 1,hk=>cases hk; exact ⟨y1,rfl,h1⟩
 | i + 2,hk=>simp at hk
theorem kd3 {s:K00} {ctx:List (List Int)} {op N:Int} {ty:List Int} {k0 k1 k2:K01} {y0 y1 y2:K03} (h0:Kxd s ctx ⟨op,N,ty,[k0,k1,k2]⟩ [y0,y1,y2] 0 k0 y0) (h1:Kxd s ctx ⟨op,N,ty,[k0,k1,k2]⟩ [y0,y1,y2] 1 k1 y1) (h2:Kxd s ctx ⟨op,N,ty,[k0,k1,k2]⟩ [y0,y1,y2] 2 k2 y2) :
  ∀ (i:Nat) (k:K01),(⟨op,N,ty,[k0,k1,k2]⟩:K01).fKids[i]?=some k→∃ yk,[y0,y1,y2][i]?=some yk∧Kxd s ctx ⟨op,N,ty,[k0,k1,k2]⟩ [y0,y1,y2] i k yk:=by
 intro i k hk
 match i,hk with
 | 0,hk=>cases hk; exact ⟨y0,rfl,h0⟩
 | 1,hk=>cases hk; exact ⟨y1,rfl,h1⟩
 | 2,hk=>cases hk; exact ⟨y2,rfl,h2⟩
 | i + 3,hk=>simp at hk
theorem Kxd.mk' {s:K00} {n:Nat} {ctx m:List (List Int)} {t k:K01} {y0:K03} {l:List K03} {i:Nat} {x:K02} {y:K03} (ha:Ki0 (t,(i:Int),y0.fty)=some m) (r:Kxe s n (m ++ ctx) k x y) (hf:x.ffault=0) (hm:∀ q ∈ m,TyS s q) (hl:m.length=Kqr t.fOp i):Kxd s ctx t (y0 :: l) i k y:=by
 have e:=Kxu (l:=l) ha
 exact ⟨by rw [e]; exact r.im,by rw [r.fa]; exact hf,by rw [e]; exact hm,by rw [e]; exact hl⟩
def Kxv (s:K00) (n sz:Nat):Prop:=∀ (k:K01) (c:List (List Int)),Kw4 s c.length k sz→(∀ q ∈ c,TyS s q)→c.length + 2 * tsz k ≤ 1000000→∃ x y,Kxe s n c k x y
theorem Kxw {X:Option K03} {q:List Int} {ns:List Nat} {kids:List K03} (h:q.length ≤ 40) (im:X=some (if (Kwv q ns kids).1=0 then (⟨(Kwv q ns kids).2.fty,(Kwv q ns kids).2.fneeds,(Kwv q ns kids).2.fkids,0,(Kwv q ns kids).2.fpath⟩:K03) else ⟨[],[],[],(Kwv q ns kids).1,[]⟩)):X=some ⟨q,Ku0 ns,kids,0,[]⟩:=by
 rw [im]
 unfold Kwv
 simp only
 rw [show (if q.length > 40 then (3:Int) else 0)=0 from if_neg (by omega),if_pos rfl]
section
variable {s:K00} {n:Nat} (hs:Ku5 s n) {ctx:List (List Int)} {N:Int} {ty:List Int} {ks:List K01}
theorem Kxx {op:Int} {k0:K01} {l:List K01} {x0:K02} {y0:K03} (h0:op ≠ 0) (h1:op ≠ 1) (h9:op ≠ 9) (hb:ctx.length + 2 * tsz (⟨op,N,ty,k0 :: l⟩:K01) ≤ 1000000) (r0:Kxe s n ctx k0 x0 y0) (f0:x0.ffault ≠ 0) :
  ∃ x y,Kxe s n ctx ⟨op,N,ty,k0 :: l⟩ x y:=by
 have hz:tsz k0 + 1 ≤ tsz (⟨op,N,ty,k0 :: l⟩:K01):=by rw [tsz,Kq8]; omega
 have e0:Keh (s,ctx,⟨op,N,ty,k0 :: l⟩,0)=some ⟨[],[],x0.ffault,0 :: x0.fpath⟩:=Kxg (i:=0) rfl r0 (by omega) f0
 refine Kxe.bad (f:=x0.ffault) (p:=0 :: x0.fpath) ?_ (Kwk (by omega) (Kxh (m:=[]) rfl (Kxr h9) r0 (by omega) (by simp; omega) f0)) f0 (by have:=r0.pl; simp; omega)
 rw [Kef.eq_def]
 simp [h0,h1,h9,e0,f0]
include hs
theorem Kxy {t:K01} (ht:t.fOp=0) (h:tOk (gN s.fSize true) (yN s.fSize true) ctx.length t=true) (hc:∀ q ∈ ctx,TyS s q) (hb:ctx.length + 2 * tsz t ≤ 1000000):∃ x y,Kxe s n ctx t x y:=by
 obtain ⟨i,hi,hl,hk⟩:=Kw7 h ht
 obtain ⟨op,N,ty,ks⟩:=t
 simp only at ht hi hk
 subst ht; subst hi; subst hk
 have hq:ctx[i]?=some ctx[i]:=List.getElem?_eq_getElem hl
 have hy:=hc ctx[i] (List.getElem_mem hl)
 have e1:idx ctx (i:Int)=some ctx[i]:=Knx hl
 have hz:=Kv2 ctx.length (by omega)
 have e2:idx (Ku0 (List.replicate ctx.length 0)) (i:Int)=some (((List.replicate ctx.length (0:Nat))[i]'(by simpa using hl):Nat):Int):=by
  rw [Knx (by rw [Ku1]; simpa using hl)]; simp [Ku0]
 have e3:List.set (Ku0 (List.replicate ctx.length 0)) i 1=Ku0 ((List.replicate ctx.length 0).set i 1):=by unfold Ku0; rw [List.map_set]; rfl
 have hf:=Kwz (s:=s) (ty:=ty) (ks:=[]) (zs:=List.replicate ctx.length 0) hq (by simpa using hl) (Kvr hy)
 have im:=Kwl (p0:=⟨s⟩) (t:=⟨0,(i:Int),ty,[]⟩) (by omega) (Kwc (Nat.le_refl _)) hf
 refine Kxe.good (q:=ctx[i]) (ns:=(List.replicate ctx.length 0).set i 1) (kids:=[]) ?_ ?_ (by rw [tsz]; omega) hy (by simp) ?_ rfl (fun i k hk=>by simp at hk)
 ·rw [Kef.eq_def]
  simp [hz,e1,e2,Krh ctx[i] (by have:=Kvr hy; omega),e3]
 ·exact Kxw (Kvr hy) im
 ·intro x hx
  have h1:=Ku7 hs
  rcases List.mem_or_eq_of_mem_set hx with h | rfl
  ·rw [List.eq_of_mem_replicate h]; omega
  ·exact h1
theorem Kxz {t:K01} (ht:t.fOp=1) (h:tOk (gN s.fSize true) (yN s.fSize true) ctx.length t=true) (hb:ctx.length + 2 * tsz t ≤ 1000000):∃ x y,Kxe s n ctx t x y:=by
 have hk:=Kw8 h ht
 obtain ⟨op,N,ty,ks⟩:=t
 simp only at ht hk
 subst ht; subst hk
 have hz:=Kv2 ctx.length (by omega)
 have hf:=Kx0 (s:=s) (N:=N) (ty:=ty) (ks:=[]) (ctx:=ctx) (zs:=List.replicate ctx.length 0)
 have im:=Kwl (p0:=⟨s⟩) (t:=⟨1,N,ty,[]⟩) (by omega) (Kwc (Nat.le_refl _)) hf
 refine Kxe.good (q:=[0]) (ns:=List.replicate ctx.length 0) (kids:=[]) ?_ ?_ (by rw [tsz]; omega) Kvx (by simp) ?_ rfl (fun i k hk=>by simp at hk)
 ·rw [Kef.eq_def]
  simp [hz]
 ·exact Kxw (by decide) im
 ·intro x hx
  rw [List.eq_of_mem_replicate hx]
  exact Ku8 hs
theorem Ky0 {q:List Int} (hq:TyS s q):∃ c r,q=c :: r∧((Kpm c).1=0 ↔ c=0)∧(c=0→q=[0]):=by
 rcases Kw0 hs hq with rfl | ⟨a,b,rfl,_⟩ | ⟨a,b,rfl,_⟩ | ⟨g,a,b,hg,h15,rfl,_⟩ | ⟨g,a,hg,h15,rfl,_⟩
 ·exact ⟨0,[],rfl,by decide,fun _=>rfl⟩
 ·exact ⟨1,_,rfl,by decide,fun h=>absurd h (by decide)⟩
 ·exact ⟨2,_,rfl,by decide,fun h=>absurd h (by decide)⟩
 ·refine ⟨_,_,rfl,?_,fun h=>by omega⟩
  rcases Kpo (3 + (g:Int)) with h | h | h | h | h | h | h | h <;> first | omega | (obtain ⟨_,e⟩:=h; rw [e]; simp; omega)
 ·refine ⟨_,_,rfl,?_,fun h=>by omega⟩
  rcases Kpo (19 + (g:Int)) with h | h | h | h | h | h | h | h <;> first | omega | (obtain ⟨_,e⟩:=h; rw [e]; simp; omega)
theorem Ky1 (ih:Kxv s n (tsz (⟨6,N,ty,ks⟩:K01))) (h:tOk (gN s.fSize true) (yN s.fSize true) ctx.length ⟨6,N,ty,ks⟩=true) (hc:∀ q ∈ ctx,TyS s q) (hb:ctx.length + 2 * tsz (⟨6,N,ty,ks⟩:K01) ≤ 1000000):∃ x y,Kxe s n ctx ⟨6,N,ty,ks⟩ x y:=by
 obtain ⟨k0,rfl,p0⟩:=nd1 h (Nat.le_refl _) rfl
 have hz:=Ktr 6 N ty k0
 have hy:TyS s ty:=Kw6 h rfl
 have ly:=Kvr hy
 obtain ⟨x0,y0,r0⟩:=ih k0 ctx p0 hc (by omega)
 by_cases f0:x0.ffault=0
 rotate_left
 ·exact Kxx (by decide) (by decide) (by decide) hb r0 f0
 obtain ⟨g0,q0,a,na,la,ba⟩:=r0.gd f0
 obtain ⟨c0,t0,ht0,hn0,hz0⟩:=Ky0 hs g0
 have L0:=Kvr g0
 have e0:Keh (s,ctx,⟨6,N,ty,[k0]⟩,0)=some x0:=Kxf (i:=0) rfl r0 f0
 have o0:=Kxk (out:=[]) (nd:=[]) (us:=[]) (w:=0) (t:=⟨6,N,ty,[k0]⟩) (m:=[]) rfl (Kxr (by decide)) r0 (by simp; omega) f0 (by rw [ht0]; exact Kwo (.inl (by decide))) (Kwm (show (6:Int) ≠ 10 by decide)) na (by simp <;> omega) (by simp) (by simp) (by simp) (by simp)
 have hf:=Kx1 (s:=s) (N:=N) (ty:=ty) (ks:=[k0]) (ctx:=ctx) (us:=[Ku0 []]) (z:=Ku0 (List.replicate ctx.length 0)) (y0:=y0) (a:=a) (by rw [r0.ty]; omega) (by omega)
 have im:=Kwl (p0:=⟨s⟩) (t:=⟨6,N,ty,[k0]⟩) (ctx:=ctx) (by omega) (o0.trans (Kwc (Nat.le_refl _))) hf
 rw [r0.ty] at im
 refine Kxe.done (q:=2 :: (x0.fty ++ ty)) (ns:=a) (kids:=[y0]) ?_ im (by omega) (fun hl=>Kw1 hs g0 hy (.inr (.inl rfl)) hl) la ba rfl (kd1 (Kxd.mk' (Kxl (by decide) rfl) r0 f0 (fun _ h=>by cases h) rfl))
 have hg:=Kv5 2 [x0.fty,ty] (by simp) (by simp; omega)
 simp only [List.flatten_cons,List.flatten_nil,List.append_nil] at hg
 rw [Kef.eq_def]
 simp [e0,f0,hg,na]
theorem Ky2 (ih:Kxv s n (tsz (⟨7,N,ty,ks⟩:K01))) (h:tOk (gN s.fSize true) (yN s.fSize true) ctx.length ⟨7,N,ty,ks⟩=true) (hc:∀ q ∈ ctx,TyS s q) (hb:ctx.length + 2 * tsz (⟨7,N,ty,ks⟩:K01) ≤ 1000000):∃ x y,Kxe s n ctx ⟨7,N,ty,ks⟩ x y:=by
 obtain ⟨k0,rfl,p0⟩:=nd1 h (Nat.le_refl _) rfl
 have hz:=Ktr 7 N ty k0
 have hy:TyS s ty:=Kw6 h rfl
 have ly:=Kvr hy
 obtain ⟨x0,y0,r0⟩:=ih k0 ctx p0 hc (by omega)
 by_cases f0:x0.ffault=0
 rotate_left
 ·exact Kxx (by decide) (by decide) (by decide) hb r0 f0
 obtain ⟨g0,q0,a,na,la,ba⟩:=r0.gd f0
 obtain ⟨c0,t0,ht0,hn0,hz0⟩:=Ky0 hs g0
 have L0:=Kvr g0
 have e0:Keh (s,ctx,⟨7,N,ty,[k0]⟩,0)=some x0:=Kxf (i:=0) rfl r0 f0
 have o0:=Kxk (out:=[]) (nd:=[]) (us:=[]) (w:=0) (t:=⟨7,N,ty,[k0]⟩) (m:=[]) rfl (Kxr (by decide)) r0 (by simp; omega) f0 (by rw [ht0]; exact Kwo (.inl (by decide))) (Kwm (show (7:Int) ≠ 10 by decide)) na (by simp <;> omega) (by simp) (by simp) (by simp) (by simp)
 have hf:=Kx2 (s:=s) (N:=N) (ty:=ty) (ks:=[k0]) (ctx:=ctx) (us:=[Ku0 []]) (z:=Ku0 (List.replicate ctx.length 0)) (y0:=y0) (a:=a) (by rw [r0.ty]; omega) (by omega)
 have im:=Kwl (p0:=⟨s⟩) (t:=⟨7,N,ty,[k0]⟩) (ctx:=ctx) (by omega) (o0.trans (Kwc (Nat.le_refl _))) hf
 rw [r0.ty] at im
 refine Kxe.done (q:=2 :: (ty ++ x0.fty)) (ns:=a) (kids:=[y0]) ?_ im (by omega) (fun hl=>Kw1 hs hy g0 (.inr (.inl rfl)) hl) la ba rfl (kd1 (Kxd.mk' (Kxl (by decide) rfl) r0 f0 (fun _ h=>by cases h) rfl))
 have hg:=Kv5 2 [ty,x0.fty] (by simp) (by simp; omega)
 simp only [List.flatten_cons,List.flatten_nil,List.append_nil] at hg
 rw [Kef.eq_def]
 simp [e0,f0,hg,na]
theorem Ky3 (ih:Kxv s n (tsz (⟨11,N,ty,ks⟩:K01))) (h:tOk (gN s.fSize true) (yN s.fSize true) ctx.length ⟨11,N,ty,ks⟩=true) (hc:∀ q ∈ ctx,TyS s q) (hb:ctx.length + 2 * tsz (⟨11,N,ty,ks⟩:K01) ≤ 1000000):∃ x y,Kxe s n ctx ⟨11,N,ty,ks⟩ x y:=by
 obtain ⟨k0,rfl,p0⟩:=nd1 h (Nat.le_refl _) rfl
 have hz:=Ktr 11 N ty k0
 obtain ⟨g,hN,hg'⟩:=Kw3 hs (Kw5 h rfl)
 simp only at hN
 subst hN
 obtain ⟨x0,y0,r0⟩:=ih k0 ctx p0 hc (by omega)
 by_cases f0:x0.ffault=0
 rotate_left
 ·exact Kxx (by decide) (by decide) (by decide) hb r0 f0
 obtain ⟨g0,q0,a,na,la,ba⟩:=r0.gd f0
 obtain ⟨c0,t0,ht0,hn0,hz0⟩:=Ky0 hs g0
 have L0:=Kvr g0
 have e0:Keh (s,ctx,⟨11,(g:Int),ty,[k0]⟩,0)=some x0:=Kxf (i:=0) rfl r0 f0
 have o0:=Kxk (out:=[]) (nd:=[]) (us:=[]) (w:=0) (t:=⟨11,(g:Int),ty,[k0]⟩) (m:=[]) rfl (Kxr (by decide)) r0 (by simp; omega) f0 (by rw [ht0]; exact Kwo (.inl (by decide))) (Kwm (show (11:Int) ≠ 10 by decide)) na (by simp <;> omega) (by simp) (by simp) (by simp) (by simp)
 have hf:=Kx7 (ty:=ty) (ks:=[k0]) (ctx:=ctx) (us:=[Ku0 []]) (z:=Ku0 (List.replicate ctx.length 0)) (y0:=y0) (a:=a) hs hg' ba (by omega) (by rw [r0.ty]; omega)
 have im:=Kwl (p0:=⟨s⟩) (t:=⟨11,(g:Int),ty,[k0]⟩) (ctx:=ctx) (by omega) (o0.trans (Kwc (Nat.le_refl _))) hf
 rw [r0.ty] at im
 have hn:=hs.tab.hi
 refine Kxe.done (q:=(19 + (g:Int)) :: x0.fty) (ns:=Kue s n g a) (kids:=[y0]) ?_ im (by omega) (fun hl=>Kw2 hs hg' g0 hl) (by unfold Kue; rw [List.length_map]; exact la) (Kuk hs hg' ba) rfl (kd1 (Kxd.mk' (Kxl (by decide) rfl) r0 f0 (fun _ h=>by cases h) rfl))
 have hg:=Kv5 (19 + (g:Int)) [x0.fty] (by simp) (by simp; omega)
 simp only [List.flatten_cons,List.flatten_nil,List.append_nil] at hg
 have hsc:=Kuk hs hg' ba
 have hz0:=Kun hs hsc
 rw [show (Kue s n g a).length=ctx.length by unfold Kue; rw [List.length_map]; exact la] at hz0
 have hsum:=Kup hs g hg' (List.replicate ctx.length 0) a (fun x hx=>by rw [List.eq_of_mem_replicate hx]; exact Ku8 hs) ba (by simp; omega) (by simp [la])
 rw [hz0] at hsum
 have hw:wr (19 + (g:Int))=19 + (g:Int):=Knw (by omega) (by omega)
 rw [Kef.eq_def]
 simp [e0,f0,hg,na,hw,Kv2 ctx.length (by omega),hsum]
theorem Ky4 (ih:Kxv s n (tsz (⟨9,N,ty,ks⟩:K01))) (h:tOk (gN s.fSize true) (yN s.fSize true) ctx.length ⟨9,N,ty,ks⟩=true) (hc:∀ q ∈ ctx,TyS s q) (hb:ctx.length + 2 * tsz (⟨9,N,ty,ks⟩:K01) ≤ 1000000):∃ x y,Kxe s n ctx ⟨9,N,ty,ks⟩ x y:=by
 obtain ⟨k0,rfl,p0⟩:=nd1 h (Nat.le_refl _) rfl
 have hz:=Ktr 9 N ty k0
 obtain ⟨g,hN,hg'⟩:=Kw3 hs (Kw5 h rfl)
 simp only at hN
 subst hN
 have hy:TyS s ty:=Kw6 h rfl
 have ly:=Kvr hy
 have hn:=hs.tab.hi
 have p0':Kw4 s ([ty] ++ ctx).length k0 (tsz (⟨9,(g:Int),ty,[k0]⟩:K01)):=by
  have e:([ty] ++ ctx).length=ctx.length + Kqr 9 0:=by simp [Kqr]
  rw [e]; exact p0
 obtain ⟨x0,y0,r0⟩:=ih k0 ([ty] ++ ctx) p0' (fun q hq=>by rcases List.mem_cons.1 hq with rfl | hq; exact hy; exact hc q hq) (by simp; omega)
 have hw9:=Kv3 ctx [ty] (by simp; omega)
 by_cases f0:x0.ffault=0
 rotate_left
 ·have e0:Keh (s,ty :: ctx,⟨9,(g:Int),ty,[k0]⟩,0)=some ⟨[],[],x0.ffault,0 :: x0.fpath⟩:=Kxg (i:=0) rfl r0 (by omega) f0
  refine Kxe.bad (f:=x0.ffault) (p:=0 :: x0.fpath) ?_ (Kwk (by omega) (Kxh (m:=[ty]) rfl Kxs r0 (by omega) (by simp; omega) f0)) f0 (by have:=r0.pl; simp; omega)
  rw [Kef.eq_def]
  simp [hw9,e0,f0]
 obtain ⟨g0,q0,a,na,la,ba⟩:=r0.gd f0
 obtain ⟨c0,t0,ht0,hn0,hz0⟩:=Ky0 hs g0
 have L0:=Kvr g0
 have e0:Keh (s,ty :: ctx,⟨9,(g:Int),ty,[k0]⟩,0)=some x0:=Kxf (i:=0) rfl r0 f0
 have la':a.length=ctx.length + 1:=by rw [la]; simp
 obtain ⟨u0,a',rfl⟩:∃ u0 a',a=u0 :: a':=by cases a with | nil=>simp at la' | cons u a'=>exact ⟨u,a',rfl⟩
 obtain ⟨hu0,ba'⟩:=Kuh ba
 have o0:=Kxk (out:=[]) (nd:=[]) (us:=[]) (w:=0) (t:=⟨9,(g:Int),ty,[k0]⟩) (m:=[ty]) rfl Kxs r0 (by simp; omega) f0 (by rw [ht0]; exact Kwo (.inl (by decide))) (Kwm (show (9:Int) ≠ 10 by decide)) na (by simp <;> omega) (by simp) (by simp) (by simp) (by simp)
 simp only [List.length_cons,List.length_nil,Nat.zero_add,List.drop_succ_cons,List.drop_zero,List.take_succ_cons,List.take_zero,List.nil_append] at o0
 have hf:=Kx6 (ty:=ty) (ks:=[k0]) (ctx:=ctx) (z:=Ku0 (List.replicate ctx.length 0)) (y0:=y0) (a:=a') (u:=[u0]) hs hg' (fun x hx=>by simp at hx; rw [hx]; exact hu0) (by simp) (by rw [r0.ty]; omega) (by omega)
 have hl0:=o0.trans (Kwc (Nat.le_refl _))
 have hle:=sLe hs.tab hu0 hg'
 have hw:wr (3 + (g:Int))=3 + (g:Int):=Knw (by omega) (by omega)
 have hi0:idx x0.fneeds 0=some (u0:Int):=by rw [na]; rfl
 simp only [List.all_cons,List.all_nil,Bool.and_true] at hf
 cases hl:le s n u0 g with
 | false =>
  rw [hl,if_neg (by decide)] at hf
  refine Kxe.bad (f:=9) (p:=[]) ?_ (Kwl (by omega) hl0 hf) (by decide) (by simp; omega)
  rw [Kef.eq_def]
  simp [hw9,e0,f0,hi0,hle,hl,Kd8]
 | true =>
  rw [hl,if_pos rfl] at hf
  have im:=Kwl (by omega) hl0 hf
  rw [r0.ty] at im
  refine Kxe.done (q:=(3 + (g:Int)) :: (ty ++ x0.fty)) (ns:=a') (kids:=[y0]) ?_ im (by omega) (fun hl=>Kw1 hs hy g0 (.inr (.inr ⟨g,hg',rfl⟩)) hl) (by simpa using la') ba' rfl (kd1 (Kxd.mk' (m:=[ty]) Kxm r0 f0 (fun q hq=>by simp at hq; rw [hq]; exact hy) rfl))
  have hg:=Kv5 (3 + (g:Int)) [ty,x0.fty] (by simp) (by simp; omega)
  simp only [List.flatten_cons,List.flatten_nil,List.append_nil] at hg
  have hcut:cut x0.fneeds (some 1) none none=some (Ku0 a'):=by rw [na]; exact Kta _ _
  rw [Kef.eq_def]
  simp [hw9,e0,f0,hi0,hle,hl,hg,hw,hcut,Krh (Ku0 a') (by rw [Ku1]; simp at la'; omega)]
theorem Ky5 (ih:Kxv s n (tsz (⟨4,N,ty,ks⟩:K01))) (h:tOk (gN s.fSize true) (yN s.fSize true) ctx.length ⟨4,N,ty,ks⟩=true) (hc:∀ q ∈ ctx,TyS s q) (hb:ctx.length + 2 * tsz (⟨4,N,ty,ks⟩:K01) ≤ 1000000):∃ x y,Kxe s n ctx ⟨4,N,ty,ks⟩ x y:=by
 obtain ⟨k0,k1,rfl,p0,p1⟩:=nd2 h (Nat.le_refl _) rfl
 have hz:=Kts 4 N ty k0 k1
 obtain ⟨x0,y0,r0⟩:=ih k0 ctx p0 hc (by omega)
 obtain ⟨x1,y1,r1⟩:=ih k1 ctx p1 hc (by omega)
 by_cases f0:x0.ffault=0
 rotate_left
 ·exact Kxx (by decide) (by decide) (by decide) hb r0 f0
 obtain ⟨g0,q0,a,na,la,ba⟩:=r0.gd f0
 obtain ⟨c0,t0,ht0,hn0,hz0⟩:=Ky0 hs g0
 have L0:=Kvr g0
 have e0:Keh (s,ctx,⟨4,N,ty,[k0,k1]⟩,0)=some x0:=Kxf (i:=0) rfl r0 f0
 have o0:=Kxk (out:=[]) (nd:=[]) (us:=[]) (w:=0) (t:=⟨4,N,ty,[k0,k1]⟩) (m:=[]) rfl (Kxr (by decide)) r0 (by simp; omega) f0 (by rw [ht0]; exact Kwo (.inl (by decide))) (Kwm (show (4:Int) ≠ 10 by decide)) na (by simp <;> omega) (by simp) (by simp) (by simp) (by simp)
 have m1:Kw9 ⟨4,N,ty,[k0,k1]⟩ [y0] 1=some []:=Kxt (by decide) (Kxl (by decide) rfl)
 by_cases f1:x1.ffault=0
 rotate_left
 ·have e1:Keh (s,ctx,⟨4,N,ty,[k0,k1]⟩,1)=some ⟨[],[],x1.ffault,1 :: x1.fpath⟩:=Kxg (i:=1) rfl r1 (by omega) f1
  refine Kxe.bad (f:=x1.ffault) (p:=1 :: x1.fpath) ?_ (Kwk (by omega) (o0.trans (Kxh (m:=[]) rfl m1 r1 (by omega) (by simp; omega) f1))) f1 (by have:=r1.pl; simp; omega)
  rw [Kef.eq_def]
  simp [e0,f0,e1,f1]
 obtain ⟨g1,q1,b,nb,lb,bb⟩:=r1.gd f1
 obtain ⟨c1,t1,ht1,hn1,hz1⟩:=Ky0 hs g1
 have L1:=Kvr g1
 have e1:Keh (s,ctx,⟨4,N,ty,[k0,k1]⟩,1)=some x1:=Kxf (i:=1) rfl r1 f1
 have o1:=Kxk (out:=[y0]) (nd:=[Ku0 a]) (us:=[Ku0 []]) (w:=1) (t:=⟨4,N,ty,[k0,k1]⟩) (m:=[]) rfl m1 r1 (by simp; omega) f1 (by rw [ht1]; exact Kwo (.inl (by decide))) (Kwm (show (4:Int) ≠ 10 by decide)) nb (by simp <;> omega) (by simp) (by simp) (by simp) (by simp)
 have hf:=Kx5 (N:=N) (ty:=ty) (ks:=[k0,k1]) (ctx:=ctx) (us:=[Ku0 [],Ku0 []]) (z:=Ku0 (List.replicate ctx.length 0)) (y0:=y0) (y1:=y1) hs ba bb (by omega) (by omega) (by rw [r0.ty]; omega) (by rw [r1.ty]; omega)
 have im:=Kwl (p0:=⟨s⟩) (t:=⟨4,N,ty,[k0,k1]⟩) (ctx:=ctx) (by omega) (o0.trans (o1.trans (Kwc (Nat.le_refl _)))) hf
 rw [r0.ty,r1.ty] at im
 refine Kxe.done (q:=1 :: (x0.fty ++ x1.fty)) (ns:=Kud s n a b) (kids:=[y0,y1]) ?_ im (by omega) (fun hl=>Kw1 hs g0 g1 (.inl rfl) hl) (by unfold Kud; rw [List.length_zipWith]; omega) (Kuj hs ba bb) rfl (kd2 (Kxd.mk' (Kxl (by decide) rfl) r0 f0 (fun _ h=>by cases h) rfl) (Kxd.mk' (Kxl (by decide) rfl) r1 f1 (fun _ h=>by cases h) rfl))
 have hg:=Kv5 1 [x0.fty,x1.fty] (by simp) (by simp; omega)
 simp only [List.flatten_cons,List.flatten_nil,List.append_nil] at hg
 rw [Kef.eq_def]
 simp [e0,f0,e1,f1,hg,na,nb,Kuq hs a b ba bb (by omega) (by omega)]
theorem Ky6 (ih:Kxv s n (tsz (⟨2,N,ty,ks⟩:K01))) (h:tOk (gN s.fSize true) (yN s.fSize true) ctx.length ⟨2,N,ty,ks⟩=true) (hc:∀ q ∈ ctx,TyS s q) (hb:ctx.length + 2 * tsz (⟨2,N,ty,ks⟩:K01) ≤ 1000000):∃ x y,Kxe s n ctx ⟨2,N,ty,ks⟩ x y:=by
 obtain ⟨k0,k1,rfl,p0,p1⟩:=nd2 h (Nat.le_refl _) rfl
 have hz:=Kts 2 N ty k0 k1
 obtain ⟨x0,y0,r0⟩:=ih k0 ctx p0 hc (by omega)
 obtain ⟨x1,y1,r1⟩:=ih k1 ctx p1 hc (by omega)
 by_cases f0:x0.ffault=0
 rotate_left
 ·exact Kxx (by decide) (by decide) (by decide) hb r0 f0
 obtain ⟨g0,q0,a,na,la,ba⟩:=r0.gd f0
 obtain ⟨c0,t0,ht0,hn0,hz0⟩:=Ky0 hs g0
 have L0:=Kvr g0
 have e0:Keh (s,ctx,⟨2,N,ty,[k0,k1]⟩,0)=some x0:=Kxf (i:=0) rfl r0 f0
 have i0:idx x0.fty 0=some c0:=by rw [ht0]; rfl
 by_cases z0:c0=0
 rotate_left
 ·refine Kxe.bad (f:=2) (p:=[]) ?_ (Kwk (by omega) (Kxi (m:=[]) rfl (Kxr (by decide)) r0 (by simp; omega) f0 (by rw [ht0,Kwp,if_neg (by rw [hn0]; exact z0)]) (by decide))) (by decide) (by simp; omega)
  rw [Kef.eq_def]
  simp [e0,f0,i0,z0,Kd8]
 have u0:=hz0 z0
 have s0:(Kpm c0).1=0:=hn0.2 z0
 have o0:=Kxk (out:=[]) (nd:=[]) (us:=[]) (w:=0) (t:=⟨2,N,ty,[k0,k1]⟩) (m:=[]) rfl (Kxr (by decide)) r0 (by simp; omega) f0 (by rw [ht0,Kwp,if_pos s0]) (Kwm (show (2:Int) ≠ 10 by decide)) na (by simp <;> omega) (by simp) (by simp) (by simp) (by simp)
 have m1:Kw9 ⟨2,N,ty,[k0,k1]⟩ [y0] 1=some []:=Kxt (by decide) (Kxl (by decide) rfl)
 by_cases f1:x1.ffault=0
 rotate_left
 ·have e1:Keh (s,ctx,⟨2,N,ty,[k0,k1]⟩,1)=some ⟨[],[],x1.ffault,1 :: x1.fpath⟩:=Kxg (i:=1) rfl r1 (by omega) f1
  refine Kxe.bad (f:=x1.ffault) (p:=1 :: x1.fpath) ?_ (Kwk (by omega) (o0.trans (Kxh (m:=[]) rfl m1 r1 (by omega) (by simp; omega) f1))) f1 (by have:=r1.pl; simp; omega)
  rw [Kef.eq_def]
  simp [e0,f0,i0,z0,Kei.eq_def,e1,f1]
 obtain ⟨g1,q1,b,nb,lb,bb⟩:=r1.gd f1
 obtain ⟨c1,t1,ht1,hn1,hz1⟩:=Ky0 hs g1
 have L1:=Kvr g1
 have e1:Keh (s,ctx,⟨2,N,ty,[k0,k1]⟩,1)=some x1:=Kxf (i:=1) rfl r1 f1
 have i1:idx x1.fty 0=some c1:=by rw [ht1]; rfl
 by_cases z1:c1=0
 rotate_left
 ·refine Kxe.bad (f:=2) (p:=[]) ?_ (Kwk (by omega) (o0.trans (Kxi (m:=[]) rfl m1 r1 (by simp; omega) f1 (by rw [ht1,Kwp,if_neg (by rw [hn1]; exact z1)]) (by decide)))) (by decide) (by simp; omega)
  rw [Kef.eq_def]
  simp [e0,f0,i0,z0,e1,f1,i1,z1,Kd8,Kei.eq_def]
 have u1:=hz1 z1
 have s1:(Kpm c1).1=0:=hn1.2 z1
 have o1:=Kxk (out:=[y0]) (nd:=[Ku0 a]) (us:=[Ku0 []]) (w:=1) (t:=⟨2,N,ty,[k0,k1]⟩) (m:=[]) rfl m1 r1 (by simp; omega) f1 (by rw [ht1,Kwp,if_pos s1]) (Kwm (show (2:Int) ≠ 10 by decide)) nb (by simp <;> omega) (by simp) (by simp) (by simp) (by simp)
 have hf:=Kx3 (N:=N) (ty:=ty) (ks:=[k0,k1]) (ctx:=ctx) (us:=[Ku0 [],Ku0 []]) (z:=Ku0 (List.replicate ctx.length 0)) (y0:=y0) (y1:=y1) hs ba bb (by omega) (by omega)
 have im:=Kwl (p0:=⟨s⟩) (t:=⟨2,N,ty,[k0,k1]⟩) (ctx:=ctx) (by omega) (o0.trans (o1.trans (Kwc (Nat.le_refl _)))) hf
 replace im:=Kxw (q:=[0]) (ns:=Kud s n a b) (kids:=[y0,y1]) (by decide) im
 refine Kxe.good (q:=[0]) (ns:=Kud s n a b) (kids:=[y0,y1]) ?_ im (by omega) Kvx (by unfold Kud; rw [List.length_zipWith]; omega) (Kuj hs ba bb) rfl (kd2 (Kxd.mk' (Kxl (by decide) rfl) r0 f0 (fun _ h=>by cases h) rfl) (Kxd.mk' (Kxl (by decide) rfl) r1 f1 (fun _ h=>by cases h) rfl))
 rw [Kef.eq_def]
 simp [e0,f0,i0,z0,e1,f1,i1,z1,na,nb,u1,Kww,Kuq hs a b ba bb (by omega) (by omega),Kei.eq_def]
theorem Ky7 (ih:Kxv s n (tsz (⟨3,N,ty,ks⟩:K01))) (h:tOk (gN s.fSize true) (yN s.fSize true) ctx.length ⟨3,N,ty,ks⟩=true) (hc:∀ q ∈ ctx,TyS s q) (hb:ctx.length + 2 * tsz (⟨3,N,ty,ks⟩:K01) ≤ 1000000):∃ x y,Kxe s n ctx ⟨3,N,ty,ks⟩ x y:=by
 obtain ⟨k0,k1,k2,rfl,p0,p1,p2⟩:=nd3 h (Nat.le_refl _) rfl
 have hz:=Ktt 3 N ty k0 k1 k2
 obtain ⟨x0,y0,r0⟩:=ih k0 ctx p0 hc (by omega)
 obtain ⟨x1,y1,r1⟩:=ih k1 ctx p1 hc (by omega)
 obtain ⟨x2,y2,r2⟩:=ih k2 ctx p2 hc (by omega)
 by_cases f0:x0.ffault=0
 rotate_left
 ·exact Kxx (by decide) (by decide) (by decide) hb r0 f0
 obtain ⟨g0,q0,a,na,la,ba⟩:=r0.gd f0
 obtain ⟨c0,t0,ht0,hn0,hz0⟩:=Ky0 hs g0
 have L0:=Kvr g0
 have e0:Keh (s,ctx,⟨3,N,ty,[k0,k1,k2]⟩,0)=some x0:=Kxf (i:=0) rfl r0 f0
 have i0:idx x0.fty 0=some c0:=by rw [ht0]; rfl
 by_cases z0:c0=0
 rotate_left
 ·refine Kxe.bad (f:=2) (p:=[]) ?_ (Kwk (by omega) (Kxi (m:=[]) rfl (Kxr (by decide)) r0 (by simp; omega) f0 (by rw [ht0,Kwq,if_neg (by rw [hn0]; exact z0)]) (by decide))) (by decide) (by simp; omega)
  rw [Kef.eq_def]
  simp [e0,f0,i0,z0,Kd8]
 have u0:=hz0 z0
 have s0:(Kpm c0).1=0:=hn0.2 z0
 have o0:=Kxk (out:=[]) (nd:=[]) (us:=[]) (w:=0) (t:=⟨3,N,ty,[k0,k1,k2]⟩) (m:=[]) rfl (Kxr (by decide)) r0 (by simp; omega) f0 (by rw [ht0,Kwq,if_pos s0]) (Kwm (show (3:Int) ≠ 10 by decide)) na (by simp <;> omega) (by simp) (by simp) (by simp) (by simp)
 have m1:Kw9 ⟨3,N,ty,[k0,k1,k2]⟩ [y0] 1=some []:=Kxt (by decide) (Kxl (by decide) rfl)
 by_cases f1:x1.ffault=0
 rotate_left
 ·have e1:Keh (s,ctx,⟨3,N,ty,[k0,k1,k2]⟩,1)=some ⟨[],[],x1.ffault,1 :: x1.fpath⟩:=Kxg (i:=1) rfl r1 (by omega) f1
  refine Kxe.bad (f:=x1.ffault) (p:=1 :: x1.fpath) ?_ (Kwk (by omega) (o0.trans (Kxh (m:=[]) rfl m1 r1 (by omega) (by simp; omega) f1))) f1 (by have:=r1.pl; simp; omega)
  rw [Kef.eq_def]
  simp [e0,f0,i0,z0,Kei.eq_def,e1,f1]
 obtain ⟨g1,q1,b,nb,lb,bb⟩:=r1.gd f1
 obtain ⟨c1,t1,ht1,hn1,hz1⟩:=Ky0 hs g1
 have L1:=Kvr g1
 have e1:Keh (s,ctx,⟨3,N,ty,[k0,k1,k2]⟩,1)=some x1:=Kxf (i:=1) rfl r1 f1
 have o1:=Kxk (out:=[y0]) (nd:=[Ku0 a]) (us:=[Ku0 []]) (w:=1) (t:=⟨3,N,ty,[k0,k1,k2]⟩) (m:=[]) rfl m1 r1 (by simp; omega) f1 (by rw [ht1]; exact Kwo (.inr (by decide))) (Kwm (show (3:Int) ≠ 10 by decide)) nb (by simp <;> omega) (by simp) (by simp) (by simp) (by simp)
 have m2:Kw9 ⟨3,N,ty,[k0,k1,k2]⟩ [y0,y1] 2=some []:=Kxt (by decide) (Kxl (by decide) rfl)
 by_cases f2:x2.ffault=0
 rotate_left
 ·have e2:Keh (s,ctx,⟨3,N,ty,[k0,k1,k2]⟩,2)=some ⟨[],[],x2.ffault,2 :: x2.fpath⟩:=Kxg (i:=2) rfl r2 (by omega) f2
  refine Kxe.bad (f:=x2.ffault) (p:=2 :: x2.fpath) ?_ (Kwk (by omega) (o0.trans (o1.trans (Kxh (m:=[]) rfl m2 r2 (by omega) (by simp; omega) f2)))) f2 (by have:=r2.pl; simp; omega)
  rw [Kef.eq_def]
  simp [e0,f0,i0,z0,e1,f1,Kei.eq_def,e2,f2]
 obtain ⟨g2,q2,d,nd,ld,bd⟩:=r2.gd f2
 obtain ⟨c2,t2,ht2,hn2,hz2⟩:=Ky0 hs g2
 have L2:=Kvr g2
 have e2:Keh (s,ctx,⟨3,N,ty,[k0,k1,k2]⟩,2)=some x2:=Kxf (i:=2) rfl r2 f2
 have o2:=Kxk (out:=[y0,y1]) (nd:=[Ku0 a,Ku0 b]) (us:=[Ku0 [],Ku0 []]) (w:=2) (t:=⟨3,N,ty,[k0,k1,k2]⟩) (m:=[]) rfl m2 r2 (by simp; omega) f2 (by rw [ht2]; exact Kwo (.inr (by decide))) (Kwm (show (3:Int) ≠ 10 by decide)) nd (by simp <;> omega) (by simp) (by simp) (by simp) (by simp)
 have hf:=Kx4 (N:=N) (ty:=ty) (ks:=[k0,k1,k2]) (ctx:=ctx) (us:=[Ku0 [],Ku0 [],Ku0 []]) (z:=Ku0 (List.replicate ctx.length 0)) (y0:=y0) (y1:=y1) (y2:=y2) hs ba bb bd (by omega) (by omega) (by omega) (by rw [r2.ty]; omega) (by rw [r1.ty]; omega)
 have hl0:=o0.trans (o1.trans (o2.trans (Kwc (Nat.le_refl _))))
 
 have hsm:=Ktj x1.fty x2.fty (by omega)
 have lj:(Kuf s n b d).length=ctx.length:=by unfold Kuf; rw [List.length_zipWith]; omega
 rw [r1.ty,r2.ty] at hf
 by_cases hq:x1.fty=x2.fty
 ·rw [if_pos hq] at hf
  have im:=Kwl (by omega) hl0 hf
  replace im:=Kxw (q:=x1.fty) (ns:=Kud s n a (Kuf s n b d)) (kids:=[y0,y1,y2]) (by omega) im
  refine Kxe.good (q:=x1.fty) (ns:=Kud s n a (Kuf s n b d)) (kids:=[y0,y1,y2]) ?_ im (by omega) g1 (by unfold Kud; rw [List.length_zipWith]; omega) (Kuj hs ba (Kul hs bb bd)) rfl (kd3 (Kxd.mk' (Kxl (by decide) rfl) r0 f0 (fun _ h=>by cases h) rfl) (Kxd.mk' (Kxl (by decide) rfl) r1 f1 (fun _ h=>by cases h) rfl) (Kxd.mk' (Kxl (by decide) rfl) r2 f2 (fun _ h=>by cases h) rfl))
  rw [show (x1.fty == x2.fty)=true from beq_iff_eq.2 hq] at hsm
  rw [Kef.eq_def]
  simp [e0,f0,i0,z0,e1,f1,e2,f2,hsm,na,nb,nd,Kus hs b d bb bd (by omega) (by omega),Kuq hs a (Kuf s n b d) ba (Kul hs bb bd) (by omega) (by omega),Kei.eq_def]
 ·rw [if_neg hq] at hf
  refine Kxe.bad (f:=3) (p:=[]) ?_ (Kwl (by omega) hl0 hf) (by decide) (by simp; omega)
  rw [show (x1.fty == x2.fty)=false from beq_eq_false_iff_ne.2 hq] at hsm
  rw [Kef.eq_def]
  simp [e0,f0,i0,z0,e1,f1,e2,f2,hsm,Kei.eq_def,Kd8]
end
theorem Ky8 (g:Nat) (h:g ≤ 15):Kpm (3 + (g:Int))=(3,(g:Int)):=by
 rcases Kpo (3 + (g:Int)) with h | h | h | h | h | h | h | h <;> first | omega | (obtain ⟨_,e⟩:=h; rw [e]; congr 1; omega)
theorem Ky9 (g:Nat) (h:g ≤ 15):Kpm (19 + (g:Int))=(4,(g:Int)):=by
 rcases Kpo (19 + (g:Int)) with h | h | h | h | h | h | h | h <;> first | omega | (obtain ⟨_,e⟩:=h; rw [e]; congr 1; omega)
theorem Kya (g:Nat) (h:g ≤ 15):Kpf (3 + (g:Int))=true:=by unfold Kpf inB; simp; omega
theorem Kyb (g:Nat) (h:g ≤ 15):Kpf (19 + (g:Int))=false:=by unfold Kpf inB; simp; omega
theorem Kyc (g:Nat) (h:g ≤ 15):Kpg (3 + (g:Int))=false:=by unfold Kpg inB; simp; omega
theorem Kyd (g:Nat) (h:g ≤ 15):Kpg (19 + (g:Int))=true:=by unfold Kpg inB; simp; omega
theorem Kye (g:Nat) (h:g ≤ 15):Kbd (3 + (g:Int))=some (g:Int):=by
 rw [Kq4 (by rcases Kpl (3 + (g:Int)) with h | h | h | h <;> omega)]
 unfold Kq2
 rw [if_neg (by omega),if_neg (by omega)]
 congr 1; omega
theorem Kyf (g:Nat) (h:g ≤ 15):Kbd (19 + (g:Int))=some (g:Int):=by
 rw [Kq4 (by rcases Kpl (19 + (g:Int)) with h | h | h | h <;> omega)]
 unfold Kq2
 rw [if_neg (by omega),if_pos (by omega)]
 congr 1; omega
section
variable {s:K00} {n:Nat} (hs:Ku5 s n) {ctx:List (List Int)} {N:Int} {ty:List Int} {ks:List K01}
include hs
structure Kyg (s:K00) (n:Nat) (q:List Int) (c:Int):Prop where
 arr:(Kpm c).1=3→∃ (g:Nat) (a b:List Int),g < n∧g ≤ 15∧c=3 + (g:Int)∧q=c :: (a ++ b)∧Kvu s (3 + (g:Int)) a b
 pair:(Kpm c).1=1→∃ (a b:List Int),c=1∧q=c :: (a ++ b)∧Kvu s 1 a b
 sum:(Kpm c).1=2→∃ (a b:List Int),c=2∧q=c :: (a ++ b)∧Kvu s 2 a b
 box:(Kpm c).1=4→∃ (g:Nat) (a:List Int),g < n∧g ≤ 15∧c=19 + (g:Int)∧q=c :: a∧Kvv s (19 + (g:Int)) a
 arrB:Kpf c=true ↔ (Kpm c).1=3
 boxB:Kpg c=true ↔ (Kpm c).1=4
 one:c=1 ↔ (Kpm c).1=1
 two:c=2 ↔ (Kpm c).1=2
theorem Kyh {q:List Int} (hq:TyS s q) {c:Int} {r:List Int} (e:q=c :: r):Kyg s n q c:=by
 rcases Kw0 hs hq with rfl | ⟨a,b,rfl,P⟩ | ⟨a,b,rfl,P⟩ | ⟨g,a,b,hg,h15,rfl,P⟩ | ⟨g,a,hg,h15,rfl,P⟩
 ·cases e
  refine ⟨fun h=>?_,fun h=>?_,fun h=>?_,fun h=>?_,by decide,by decide,by decide,by decide⟩ <;> exact absurd h (by decide)
 ·cases e
  refine ⟨fun h=>absurd h (by decide),fun _=>⟨a,b,rfl,rfl,P⟩,fun h=>absurd h (by decide),fun h=>absurd h (by decide),by decide,by decide,by decide,by decide⟩
 ·cases e
  refine ⟨fun h=>absurd h (by decide),fun h=>absurd h (by decide),fun _=>⟨a,b,rfl,rfl,P⟩,fun h=>absurd h (by decide),by decide,by decide,by decide,by decide⟩
 ·cases e
  have hsh:=Ky8 g h15
  refine ⟨fun _=>⟨g,a,b,hg,h15,rfl,rfl,P⟩,fun h=>?_,fun h=>?_,fun h=>?_,?_,?_,?_,?_⟩
  ·rw [hsh] at h; simp at h
  ·rw [hsh] at h; simp at h
  ·rw [hsh] at h; simp at h
  ·rw [hsh,Kya g h15]; simp
  ·rw [hsh,Kyc g h15]; simp
  ·rw [hsh]; simp; omega
  ·rw [hsh]; simp; omega
 ·cases e
  have hsh:=Ky9 g h15
  refine ⟨fun h=>?_,fun h=>?_,fun h=>?_,fun _=>⟨g,_,hg,h15,rfl,rfl,P⟩,?_,?_,?_,?_⟩
  ·rw [hsh] at h; simp at h
  ·rw [hsh] at h; simp at h
  ·rw [hsh] at h; simp at h
  ·rw [hsh,Kyb g h15]; simp
  ·rw [hsh,Kyd g h15]; simp
  ·rw [hsh]; simp; omega
  ·rw [hsh]; simp; omega
theorem Kyi (ih:Kxv s n (tsz (⟨10,N,ty,ks⟩:K01))) (h:tOk (gN s.fSize true) (yN s.fSize true) ctx.length ⟨10,N,ty,ks⟩=true) (hc:∀ q ∈ ctx,TyS s q) (hb:ctx.length + 2 * tsz (⟨10,N,ty,ks⟩:K01) ≤ 1000000):∃ x y,Kxe s n ctx ⟨10,N,ty,ks⟩ x y:=by
 obtain ⟨k0,k1,rfl,p0,p1⟩:=nd2 h (Nat.le_refl _) rfl
 have hz:=Kts 10 N ty k0 k1
 obtain ⟨x0,y0,r0⟩:=ih k0 ctx p0 hc (by omega)
 obtain ⟨x1,y1,r1⟩:=ih k1 ctx p1 hc (by omega)
 by_cases f0:x0.ffault=0
 rotate_left
 ·exact Kxx (by decide) (by decide) (by decide) hb r0 f0
 obtain ⟨g0,q0,a,na,la,ba⟩:=r0.gd f0
 obtain ⟨c0,t0,ht0,hn0,hz0⟩:=Ky0 hs g0
 have L0:=Kvr g0
 have e0:Keh (s,ctx,⟨10,N,ty,[k0,k1]⟩,0)=some x0:=Kxf (i:=0) rfl r0 f0
 have C:=Kyh hs g0 ht0
 have i0:idx x0.fty 0=some c0:=by rw [ht0]; rfl
 by_cases z0:(Kpm c0).1=3
 rotate_left
 ·have w0:Kpf c0=false:=by cases h:Kpf c0 with | true=>exact absurd (C.arrB.1 h) z0 | false=>rfl
  refine Kxe.bad (f:=6) (p:=[]) ?_ (Kwk (by omega) (Kxi (m:=[]) rfl (Kxr (by decide)) r0 (by simp; omega) f0 (by rw [ht0,Kwr,if_neg z0]) (by decide))) (by decide) (by simp; omega)
  rw [Kef.eq_def]
  simp [e0,f0,i0,Kpi,w0,Kd8]
 obtain ⟨g,p,q,hg,h15,hcg,hq,P⟩:=C.arr z0
 have w0:Kpf c0=true:=C.arrB.2 z0
 have o0:=Kxk (out:=[]) (nd:=[]) (us:=[]) (w:=0) (t:=⟨10,N,ty,[k0,k1]⟩) (m:=[]) rfl (Kxr (by decide)) r0 (by simp; omega) f0 (by rw [ht0,Kwr,if_pos z0]) (Kwn (by decide)) na (by simp <;> omega) (by simp) (by simp) (by simp) (by simp)
 have m1:Kw9 ⟨10,N,ty,[k0,k1]⟩ [y0] 1=some []:=Kxt (by decide) (Kxl (by decide) rfl)
 by_cases f1:x1.ffault=0
 rotate_left
 ·have e1:Keh (s,ctx,⟨10,N,ty,[k0,k1]⟩,1)=some ⟨[],[],x1.ffault,1 :: x1.fpath⟩:=Kxg (i:=1) rfl r1 (by omega) f1
  refine Kxe.bad (f:=x1.ffault) (p:=1 :: x1.fpath) ?_ (Kwk (by omega) (o0.trans (Kxh (m:=[]) rfl m1 r1 (by omega) (by simp; omega) f1))) f1 (by have:=r1.pl; simp; omega)
  rw [Kef.eq_def]
  simp [e0,f0,i0,Kpi,w0,e1,f1]
 obtain ⟨g1,q1,b,nb,lb,bb⟩:=r1.gd f1
 obtain ⟨c1,t1,ht1,hn1,hz1⟩:=Ky0 hs g1
 have L1:=Kvr g1
 have e1:Keh (s,ctx,⟨10,N,ty,[k0,k1]⟩,1)=some x1:=Kxf (i:=1) rfl r1 f1
 have hp0:Kds (x0.fty,0)=some p:=by rw [hq,hcg]; exact P.p0
 have hp1:Kds (x0.fty,1)=some q:=by rw [hq,hcg]; exact P.p1
 have hpp:Khx y0.fty=some [p,q]:=by rw [r0.ty,hq,hcg]; exact P.pp
 have Lp:=Kvr P.ya
 have Lq:=Kvr P.yb
 have hsm:=Ktj x1.fty p (by omega)
 have hsi:=Ktl x1.fty p (by omega)
 have ha:Kwf ⟨10,N,ty,[k0,k1]⟩ [y0] 1 y1=some (!(x1.fty == p)):=by
  unfold Kwf
  rw [if_pos (show ((10:Int) == 10)=true by decide),if_pos (by decide),Kww,bs,hpp,bs,Kww,bs,r1.ty,hsi,bs]
 by_cases hqq:x1.fty=p
 rotate_left
 ·rw [show (x1.fty == p)=false from beq_eq_false_iff_ne.2 hqq] at hsm ha
  refine Kxe.bad (f:=3) (p:=[]) ?_ (Kwk (by omega) (o0.trans (Kxj (m:=[]) rfl m1 r1 (by simp; omega) f1 (by rw [ht1]; exact Kwo (.inr (by decide))) ha))) (by decide) (by simp; omega)
  rw [Kef.eq_def]
  simp [e0,f0,i0,Kpi,w0,e1,f1,hp0,hsm,Kd8]
 rw [show (x1.fty == p)=true from beq_iff_eq.2 hqq] at hsm ha
 have o1:=Kxk (out:=[y0]) (nd:=[Ku0 a]) (us:=[Ku0 []]) (w:=1) (t:=⟨10,N,ty,[k0,k1]⟩) (m:=[]) rfl m1 r1 (by simp; omega) f1 (by rw [ht1]; exact Kwo (.inr (by decide))) ha nb (by simp <;> omega) (by simp) (by simp) (by simp) (by simp)
 have hf:=Kx8 (N:=N) (ty:=ty) (ks:=[k0,k1]) (ctx:=ctx) (us:=[Ku0 [],Ku0 []]) (z:=Ku0 (List.replicate ctx.length 0)) (y0:=y0) (y1:=y1) hs hg (p:=p) (q:=q) (by rw [r0.ty,hq,hcg]) P ba bb (by omega) (by omega)
 have im:=Kxw (q:=q) (ns:=Kud s n a (Kue s n g b)) (kids:=[y0,y1]) Lq (Kwl (p0:=⟨s⟩) (t:=⟨10,N,ty,[k0,k1]⟩) (ctx:=ctx) (by omega) (o0.trans (o1.trans (Kwc (Nat.le_refl _)))) hf)
 have lsc:(Kue s n g b).length=ctx.length:=by unfold Kue; rw [List.length_map]; exact lb
 refine Kxe.good (q:=q) (ns:=Kud s n a (Kue s n g b)) (kids:=[y0,y1]) ?_ im (by omega) P.yb (by unfold Kud; rw [List.length_zipWith]; omega) (Kuj hs ba (Kuk hs hg bb)) rfl (kd2 (Kxd.mk' (Kxl (by decide) rfl) r0 f0 (fun _ h=>by cases h) rfl) (Kxd.mk' (Kxl (by decide) rfl) r1 f1 (fun _ h=>by cases h) rfl))
 have hgr:Kbd c0=some (g:Int):=by rw [hcg]; exact Kye g h15
 rw [Kef.eq_def]
 simp [e0,f0,i0,Kpi,w0,e1,f1,hp0,hp1,hsm,hgr,na,nb,Kup hs g hg a b ba bb (by omega) (by omega)]
theorem Kyj (ih:Kxv s n (tsz (⟨5,N,ty,ks⟩:K01))) (h:tOk (gN s.fSize true) (yN s.fSize true) ctx.length ⟨5,N,ty,ks⟩=true) (hc:∀ q ∈ ctx,TyS s q) (hb:ctx.length + 2 * tsz (⟨5,N,ty,ks⟩:K01) ≤ 1000000):∃ x y,Kxe s n ctx ⟨5,N,ty,ks⟩ x y:=by
 obtain ⟨k0,k1,rfl,p0,p1⟩:=nd2 h (Nat.le_refl _) rfl
 have hz:=Kts 5 N ty k0 k1
 obtain ⟨g,hN,hg⟩:=Kw3 hs (Kw5 h rfl)
 simp only at hN
 subst hN
 obtain ⟨x0,y0,r0⟩:=ih k0 ctx p0 hc (by omega)
 by_cases f0:x0.ffault=0
 rotate_left
 ·exact Kxx (by decide) (by decide) (by decide) hb r0 f0
 obtain ⟨g0,q0,a,na,la,ba⟩:=r0.gd f0
 obtain ⟨c0,t0,ht0,hn0,hz0⟩:=Ky0 hs g0
 have L0:=Kvr g0
 have e0:Keh (s,ctx,⟨5,(g:Int),ty,[k0,k1]⟩,0)=some x0:=Kxf (i:=0) rfl r0 f0
 have C:=Kyh hs g0 ht0
 have i0:idx x0.fty 0=some c0:=by rw [ht0]; rfl
 by_cases z0:(Kpm c0).1=1
 rotate_left
 ·have w0:c0 ≠ 1:=fun h=>z0 (C.one.1 h)
  refine Kxe.bad (f:=4) (p:=[]) ?_ (Kwk (by omega) (Kxi (m:=[]) rfl (Kxr (by decide)) r0 (by simp; omega) f0 (by rw [ht0,Kws hs hg,if_neg z0]) (by decide))) (by decide) (by simp; omega)
  rw [Kef.eq_def]
  simp [e0,f0,i0,Keg.eq_def,w0,Kd8]
 obtain ⟨p,q,hcg,hq,P⟩:=C.pair z0
 have hle:=sLe hs.tab (Ku7 hs) hg
 cases hl:le s n 1 g with
 | false =>
  have hl2:K9n (s,1,(g:Int))=some false:=by rw [← hl]; exact hle
  refine Kxe.bad (f:=8) (p:=[]) ?_ (Kwk (by omega) (Kxi (m:=[]) rfl (Kxr (by decide)) r0 (by simp; omega) f0 (by rw [ht0,Kws hs hg,if_pos z0,hl]; rfl) (by decide))) (by decide) (by simp; omega)
  rw [Kef.eq_def]
  simp [e0,f0,i0,Keg.eq_def,hcg,hl2,Kd8]
 | true =>
 have hl2:K9n (s,1,(g:Int))=some true:=by rw [← hl]; exact hle
 have o0:=Kxk (out:=[]) (nd:=[]) (us:=[]) (w:=0) (t:=⟨5,(g:Int),ty,[k0,k1]⟩) (m:=[]) rfl (Kxr (by decide)) r0 (by simp; omega) f0 (by rw [ht0,Kws hs hg,if_pos z0,hl]; rfl) (Kwm (show (5:Int) ≠ 10 by decide)) na (by simp <;> omega) (by simp) (by simp) (by simp) (by simp)
 have hp0:Kds (x0.fty,0)=some p:=by rw [hq,hcg]; exact P.p0
 have hp1:Kds (x0.fty,1)=some q:=by rw [hq,hcg]; exact P.p1
 have ad:Ki0 (⟨5,(g:Int),ty,[k0,k1]⟩,((1:Nat):Int),y0.fty)=some [q,p]:=by rw [r0.ty,hq,hcg]; exact Kxn P
 have hm':∀ z ∈ [q,p],TyS s z:=fun z hz=>by simp at hz; rcases hz with rfl | rfl; exact P.yb; exact P.ya
 have m1:Kw9 ⟨5,(g:Int),ty,[k0,k1]⟩ [y0] 1=some [q,p]:=Kxt (by decide) ad
 have p1':Kw4 s ([q,p] ++ ctx).length k1 (tsz (⟨5,(g:Int),ty,[k0,k1]⟩:K01)):=by
  have e:([q,p] ++ ctx).length=ctx.length + Kqr 5 1:=by simp [Kqr]
  rw [e]; exact p1
 obtain ⟨x1,y1,r1⟩:=ih k1 ([q,p] ++ ctx) p1' (fun z hz=>by rcases List.mem_append.1 hz with hz | hz; exact hm' z hz; exact hc z hz) (by simp; omega)
 have hwc:=Kv3 ctx [q,p] (by simp; omega)
 by_cases f1:x1.ffault=0
 rotate_left
 ·have e1:Keh (s,q :: p :: ctx,⟨5,(g:Int),ty,[k0,k1]⟩,1)=some ⟨[],[],x1.ffault,1 :: x1.fpath⟩:=Kxg (i:=1) rfl r1 (by omega) f1
  refine Kxe.bad (f:=x1.ffault) (p:=1 :: x1.fpath) ?_ (Kwk (by omega) (o0.trans (Kxh (m:=[q,p]) rfl m1 r1 (by omega) (by simp; omega) f1))) f1 (by have:=r1.pl; simp; omega)
  rw [Kef.eq_def]
  simp [e0,f0,i0,Keg.eq_def,hcg,hl2,hp0,hp1,hwc,e1,f1]
 obtain ⟨g1,q1,b,nb,lb,bb⟩:=r1.gd f1
 obtain ⟨c1,t1,ht1,hn1,hz1⟩:=Ky0 hs g1
 have L1:=Kvr g1
 have e1:Keh (s,q :: p :: ctx,⟨5,(g:Int),ty,[k0,k1]⟩,1)=some x1:=Kxf (i:=1) rfl r1 f1
 have lb':b.length=ctx.length + 2:=by rw [lb]; simp
 obtain ⟨u0,u1,b',rfl⟩:∃ u0 u1 b',b=u0 :: u1 :: b':=by match b,lb' with | u0 :: u1 :: b',_=>exact ⟨u0,u1,b',rfl⟩ | [_],h=>simp at h | [],h=>simp at h
 obtain ⟨hu0,bb1⟩:=Kuh bb
 obtain ⟨hu1,bb'⟩:=Kuh bb1
 have o1:=Kxk (out:=[y0]) (nd:=[Ku0 a]) (us:=[Ku0 []]) (w:=1) (t:=⟨5,(g:Int),ty,[k0,k1]⟩) (m:=[q,p]) rfl m1 r1 (by simp; omega) f1 (by rw [ht1]; exact Kwo (.inr (by decide))) (Kwm (show (5:Int) ≠ 10 by decide)) nb (by simp <;> omega) (by simp) (by simp) (by simp) (by simp)
 simp only [List.length_cons,List.length_nil,Nat.zero_add,List.drop_succ_cons,List.drop_zero,List.take_succ_cons,List.take_zero,List.nil_append] at o1
 have hl0:=o0.trans (o1.trans (Kwc (Nat.le_refl _)))
 have lbc:b'.length=ctx.length:=by simp at lb'; omega
 have i1:idx x1.fneeds 0=some (u0:Int):=by rw [nb]; rfl
 have hcut:cut x1.fneeds (some (2:Int)) none none=some (Ku0 b'):=by
  rw [nb]
  have:=Kwe (l:=Ku0 (u0 :: u1 :: b')) (m:=2) (by simp [Ku0])
  exact this
 have hcp:=Krh (Ku0 b') (by rw [Ku1]; omega)
 have i2:idx x1.fneeds 1=some (u1:Int):=by rw [nb]; rfl
 have hle0:=sLe hs.tab hu0 hg
 have hle1:=sLe hs.tab hu1 hg
 have hf:=Kx9 (ty:=ty) (ks:=[k0,k1]) (ctx:=ctx) (z:=Ku0 (List.replicate ctx.length 0)) (y0:=y0) (y1:=y1) (us':=Ku0 []) (u:=[u0,u1]) hs hg (fun x hx=>by simp at hx; rcases hx with rfl | rfl; exact hu0; exact hu1) (by simp) ba bb' (by omega) (by omega) (by rw [r1.ty]; omega)
 simp only [List.all_cons,List.all_nil,Bool.and_true] at hf
 have es:=e1
 cases hal:(le s n u0 g && le s n u1 g) with
 | false =>
  rw [hal,if_neg (by decide)] at hf
  refine Kxe.bad (f:=9) (p:=[]) ?_ (Kwl (by omega) hl0 hf) (by decide) (by simp; omega)
  rw [Kef.eq_def]
  simp [e0,f0,i0,Keg.eq_def,hcg,hl2,hp0,hp1,hwc,e1,f1,i1,i2,hcut,hcp,hle0,hle1,Kd8]
  cases q1:le s n u1 g with
  | false=>simp
  | true=>rw [q1,Bool.and_true] at hal; simp [hal]
 | true =>
  rw [hal,if_pos rfl] at hf
  have im:=Kxw (q:=y1.fty) (ns:=Kud s n (Kue s n g a) b') (kids:=[y0,y1]) (by rw [r1.ty]; omega) (Kwl (by omega) hl0 hf)
  rw [r1.ty] at im
  have lsc:(Kue s n g a).length=ctx.length:=by unfold Kue; rw [List.length_map]; exact la
  have hsc:=Kuk hs hg ba
  have hz0:=Kun hs hsc
  rw [lsc] at hz0
  have hsum:=Kup hs g hg (List.replicate ctx.length 0) a (fun x hx=>by rw [List.eq_of_mem_replicate hx]; exact Ku8 hs) ba (by simp; omega) (by simp [la])
  rw [hz0] at hsum
  have hs2:=Kuq hs (Kue s n g a) b' hsc bb' (by omega) (by omega)
  refine Kxe.good (q:=x1.fty) (ns:=Kud s n (Kue s n g a) b') (kids:=[y0,y1]) ?_ im (by omega) g1 (by unfold Kud; rw [List.length_zipWith]; omega) (Kuj hs hsc bb') rfl (kd2 (Kxd.mk' (Kxl (by decide) rfl) r0 f0 (fun _ h=>by cases h) rfl) (Kxd.mk' ad r1 f1 hm' rfl))
  rw [Kef.eq_def]
  rw [Bool.and_eq_true] at hal
  simp [e0,f0,i0,Keg.eq_def,hcg,hl2,hp0,hp1,hwc,e1,f1,i1,i2,hcut,hcp,hle0,hle1,hal.1,hal.2,na,Kv2 ctx.length (by omega),hsum,hs2]
theorem Kyk (ih:Kxv s n (tsz (⟨12,N,ty,ks⟩:K01))) (h:tOk (gN s.fSize true) (yN s.fSize true) ctx.length ⟨12,N,ty,ks⟩=true) (hc:∀ q ∈ ctx,TyS s q) (hb:ctx.length + 2 * tsz (⟨12,N,ty,ks⟩:K01) ≤ 1000000):∃ x y,Kxe s n ctx ⟨12,N,ty,ks⟩ x y:=by
 obtain ⟨k0,k1,rfl,p0,p1⟩:=nd2 h (Nat.le_refl _) rfl
 have hz:=Kts 12 N ty k0 k1
 obtain ⟨g,hN,hg⟩:=Kw3 hs (Kw5 h rfl)
 simp only at hN
 subst hN
 obtain ⟨x0,y0,r0⟩:=ih k0 ctx p0 hc (by omega)
 by_cases f0:x0.ffault=0
 rotate_left
 ·exact Kxx (by decide) (by decide) (by decide) hb r0 f0
 obtain ⟨g0,q0,a,na,la,ba⟩:=r0.gd f0
 obtain ⟨c0,t0,ht0,hn0,hz0⟩:=Ky0 hs g0
 have L0:=Kvr g0
 have e0:Keh (s,ctx,⟨12,(g:Int),ty,[k0,k1]⟩,0)=some x0:=Kxf (i:=0) rfl r0 f0
 have C:=Kyh hs g0 ht0
 have i0:idx x0.fty 0=some c0:=by rw [ht0]; rfl
 by_cases z0:(Kpm c0).1=4
 rotate_left
 ·have w0:Kpg c0=false:=by cases h:Kpg c0 with | true=>exact absurd (C.boxB.1 h) z0 | false=>rfl
  refine Kxe.bad (f:=7) (p:=[]) ?_ (Kwk (by omega) (Kxi (m:=[]) rfl (Kxr (by decide)) r0 (by simp; omega) f0 (by rw [ht0,Kwu hs hg,if_neg z0]) (by decide))) (by decide) (by simp; omega)
  rw [Kef.eq_def]
  simp [e0,f0,i0,Keg.eq_def,Kpj,w0,Kd8]
 obtain ⟨m,p,hm,h15,hcg,hq,P⟩:=C.box z0
 have w0:Kpg c0=true:=C.boxB.2 z0
 have hle:=sLe hs.tab (Ku7 hs) hg
 cases hl:le s n 1 g with
 | false =>
  have hl2:K9n (s,1,(g:Int))=some false:=by rw [← hl]; exact hle
  refine Kxe.bad (f:=8) (p:=[]) ?_ (Kwk (by omega) (Kxi (m:=[]) rfl (Kxr (by decide)) r0 (by simp; omega) f0 (by rw [ht0,Kwu hs hg,if_pos z0,hl]; rfl) (by decide))) (by decide) (by simp; omega)
  rw [Kef.eq_def]
  simp [e0,f0,i0,Keg.eq_def,Kpj,w0,hl2,Kd8]
 | true =>
 have hl2:K9n (s,1,(g:Int))=some true:=by rw [← hl]; exact hle
 have o0:=Kxk (out:=[]) (nd:=[]) (us:=[]) (w:=0) (t:=⟨12,(g:Int),ty,[k0,k1]⟩) (m:=[]) rfl (Kxr (by decide)) r0 (by simp; omega) f0 (by rw [ht0,Kwu hs hg,if_pos z0,hl]; rfl) (Kwm (show (12:Int) ≠ 10 by decide)) na (by simp <;> omega) (by simp) (by simp) (by simp) (by simp)
 have hp0:Kds (x0.fty,0)=some p:=by rw [hq,hcg]; exact P.p0
 have ad:Ki0 (⟨12,(g:Int),ty,[k0,k1]⟩,((1:Nat):Int),y0.fty)=some [p]:=by rw [r0.ty,hq,hcg]; exact Kxq P
 have hm':∀ z ∈ [p],TyS s z:=fun z hz=>by simp at hz; rw [hz]; exact P.ya
 have hgr:Kbd c0=some (m:Int):=by rw [hcg]; exact Kyf m h15
 have m1:Kw9 ⟨12,(g:Int),ty,[k0,k1]⟩ [y0] 1=some [p]:=Kxt (by decide) ad
 have p1':Kw4 s ([p] ++ ctx).length k1 (tsz (⟨12,(g:Int),ty,[k0,k1]⟩:K01)):=by
  have e:([p] ++ ctx).length=ctx.length + Kqr 12 1:=by simp [Kqr]
  rw [e]; exact p1
 obtain ⟨x1,y1,r1⟩:=ih k1 ([p] ++ ctx) p1' (fun z hz=>by rcases List.mem_append.1 hz with hz | hz; exact hm' z hz; exact hc z hz) (by simp; omega)
 have hwc:=Kv3 ctx [p] (by simp; omega)
 by_cases f1:x1.ffault=0
 rotate_left
 ·have e1:Keh (s,p :: ctx,⟨12,(g:Int),ty,[k0,k1]⟩,1)=some ⟨[],[],x1.ffault,1 :: x1.fpath⟩:=Kxg (i:=1) rfl r1 (by omega) f1
  refine Kxe.bad (f:=x1.ffault) (p:=1 :: x1.fpath) ?_ (Kwk (by omega) (o0.trans (Kxh (m:=[p]) rfl m1 r1 (by omega) (by simp; omega) f1))) f1 (by have:=r1.pl; simp; omega)
  rw [Kef.eq_def]
  simp [e0,f0,i0,Keg.eq_def,Kpj,w0,hl2,hp0,hwc,e1,f1]
 obtain ⟨g1,q1,b,nb,lb,bb⟩:=r1.gd f1
 obtain ⟨c1,t1,ht1,hn1,hz1⟩:=Ky0 hs g1
 have L1:=Kvr g1
 have e1:Keh (s,p :: ctx,⟨12,(g:Int),ty,[k0,k1]⟩,1)=some x1:=Kxf (i:=1) rfl r1 f1
 have lb':b.length=ctx.length + 1:=by rw [lb]; simp
 obtain ⟨u0,b',rfl⟩:∃ u0 b',b=u0 :: b':=by match b,lb' with | u0 :: b',_=>exact ⟨u0,b',rfl⟩ | [],h=>simp at h
 obtain ⟨hu0,bb'⟩:=Kuh bb
 have o1:=Kxk (out:=[y0]) (nd:=[Ku0 a]) (us:=[Ku0 []]) (w:=1) (t:=⟨12,(g:Int),ty,[k0,k1]⟩) (m:=[p]) rfl m1 r1 (by simp; omega) f1 (by rw [ht1]; exact Kwo (.inr (by decide))) (Kwm (show (12:Int) ≠ 10 by decide)) nb (by simp <;> omega) (by simp) (by simp) (by simp) (by simp)
 simp only [List.length_cons,List.length_nil,Nat.zero_add,List.drop_succ_cons,List.drop_zero,List.take_succ_cons,List.take_zero,List.nil_append] at o1
 have hl0:=o0.trans (o1.trans (Kwc (Nat.le_refl _)))
 have lbc:b'.length=ctx.length:=by simp at lb'; omega
 have i1:idx x1.fneeds 0=some (u0:Int):=by rw [nb]; rfl
 have hcut:cut x1.fneeds (some (1:Int)) none none=some (Ku0 b'):=by
  rw [nb]
  have:=Kwe (l:=Ku0 (u0 :: b')) (m:=1) (by simp [Ku0])
  exact this
 have hcp:=Krh (Ku0 b') (by rw [Ku1]; omega)
 have hmul:=Kol hs.tab hg hm
 have htm:=Kog hs.tab hg hm
 have hle0:=sLe hs.tab hu0 htm
 have hf:=Kxa (ty:=ty) (ks:=[k0,k1]) (ctx:=ctx) (z:=Ku0 (List.replicate ctx.length 0)) (y0:=y0) (y1:=y1) (us':=Ku0 []) (u:=[u0]) hs hg hm (p:=p) (by rw [r0.ty,hq,hcg]) (fun x hx=>by simp at hx; rw [hx]; exact hu0) (by simp) ba bb' (by omega) (by omega) (by rw [r1.ty]; omega)
 simp only [List.all_cons,List.all_nil,Bool.and_true] at hf
 have es:=e1
 cases hal:(le s n u0 (ti s n g m)) with
 | false =>
  rw [hal,if_neg (by decide)] at hf
  refine Kxe.bad (f:=9) (p:=[]) ?_ (Kwl (by omega) hl0 hf) (by decide) (by simp; omega)
  rw [Kef.eq_def]
  simp [e0,f0,i0,Keg.eq_def,Kpj,w0,hl2,hp0,hwc,e1,f1,i1,hcut,hcp,hgr,hmul,hle0,hal,Kd8]
 | true =>
  rw [hal,if_pos rfl] at hf
  have im:=Kxw (q:=y1.fty) (ns:=Kud s n (Kue s n g a) b') (kids:=[y0,y1]) (by rw [r1.ty]; omega) (Kwl (by omega) hl0 hf)
  rw [r1.ty] at im
  have lsc:(Kue s n g a).length=ctx.length:=by unfold Kue; rw [List.length_map]; exact la
  have hsc:=Kuk hs hg ba
  have hz0:=Kun hs hsc
  rw [lsc] at hz0
  have hsum:=Kup hs g hg (List.replicate ctx.length 0) a (fun x hx=>by rw [List.eq_of_mem_replicate hx]; exact Ku8 hs) ba (by simp; omega) (by simp [la])
  rw [hz0] at hsum
  have hs2:=Kuq hs (Kue s n g a) b' hsc bb' (by omega) (by omega)
  refine Kxe.good (q:=x1.fty) (ns:=Kud s n (Kue s n g a) b') (kids:=[y0,y1]) ?_ im (by omega) g1 (by unfold Kud; rw [List.length_zipWith]; omega) (Kuj hs hsc bb') rfl (kd2 (Kxd.mk' (Kxl (by decide) rfl) r0 f0 (fun _ h=>by cases h) rfl) (Kxd.mk' ad r1 f1 hm' rfl))
  rw [Kef.eq_def]
  simp [e0,f0,i0,Keg.eq_def,Kpj,w0,hl2,hp0,hwc,e1,f1,i1,hcut,hcp,hgr,hmul,hle0,hal,na,Kv2 ctx.length (by omega),hsum,hs2]
theorem Kyl (ih:Kxv s n (tsz (⟨8,N,ty,ks⟩:K01))) (h:tOk (gN s.fSize true) (yN s.fSize true) ctx.length ⟨8,N,ty,ks⟩=true) (hc:∀ q ∈ ctx,TyS s q) (hb:ctx.length + 2 * tsz (⟨8,N,ty,ks⟩:K01) ≤ 1000000):∃ x y,Kxe s n ctx ⟨8,N,ty,ks⟩ x y:=by
 obtain ⟨k0,k1,k2,rfl,p0,p1,p2⟩:=nd3 h (Nat.le_refl _) rfl
 have hz:=Ktt 8 N ty k0 k1 k2
 obtain ⟨g,hN,hg⟩:=Kw3 hs (Kw5 h rfl)
 simp only at hN
 subst hN
 obtain ⟨x0,y0,r0⟩:=ih k0 ctx p0 hc (by omega)
 by_cases f0:x0.ffault=0
 rotate_left
 ·exact Kxx (by decide) (by decide) (by decide) hb r0 f0
 obtain ⟨g0,q0,a,na,la,ba⟩:=r0.gd f0
 obtain ⟨c0,t0,ht0,hn0,hz0⟩:=Ky0 hs g0
 have L0:=Kvr g0
 have e0:Keh (s,ctx,⟨8,(g:Int),ty,[k0,k1,k2]⟩,0)=some x0:=Kxf (i:=0) rfl r0 f0
 have C:=Kyh hs g0 ht0
 have i0:idx x0.fty 0=some c0:=by rw [ht0]; rfl
 by_cases z0:(Kpm c0).1=2
 rotate_left
 ·have w0:c0 ≠ 2:=fun h=>z0 (C.two.1 h)
  refine Kxe.bad (f:=5) (p:=[]) ?_ (Kwk (by omega) (Kxi (m:=[]) rfl (Kxr (by decide)) r0 (by simp; omega) f0 (by rw [ht0,Kwt hs hg,if_neg z0]) (by decide))) (by decide) (by simp; omega)
  rw [Kef.eq_def]
  simp [e0,f0,i0,Keg.eq_def,w0,Kd8]
 obtain ⟨p,q,hcg,hq,P⟩:=C.sum z0
 have hle:=sLe hs.tab (Ku7 hs) hg
 cases hl:le s n 1 g with
 | false =>
  have hl2:K9n (s,1,(g:Int))=some false:=by rw [← hl]; exact hle
  refine Kxe.bad (f:=8) (p:=[]) ?_ (Kwk (by omega) (Kxi (m:=[]) rfl (Kxr (by decide)) r0 (by simp; omega) f0 (by rw [ht0,Kwt hs hg,if_pos z0,hl]; rfl) (by decide))) (by decide) (by simp; omega)
  rw [Kef.eq_def]
  simp [e0,f0,i0,Keg.eq_def,hcg,hl2,Kd8]
 | true =>
 have hl2:K9n (s,1,(g:Int))=some true:=by rw [← hl]; exact hle
 have o0:=Kxk (out:=[]) (nd:=[]) (us:=[]) (w:=0) (t:=⟨8,(g:Int),ty,[k0,k1,k2]⟩) (m:=[]) rfl (Kxr (by decide)) r0 (by simp; omega) f0 (by rw [ht0,Kwt hs hg,if_pos z0,hl]; rfl) (Kwm (show (8:Int) ≠ 10 by decide)) na (by simp <;> omega) (by simp) (by simp) (by simp) (by simp)
 have hp0:Kds (x0.fty,0)=some p:=by rw [hq,hcg]; exact P.p0
 have hp1:Kds (x0.fty,1)=some q:=by rw [hq,hcg]; exact P.p1
 have ad1:Ki0 (⟨8,(g:Int),ty,[k0,k1,k2]⟩,((1:Nat):Int),y0.fty)=some [p]:=by rw [r0.ty,hq,hcg]; exact Kxo P
 have ad2:Ki0 (⟨8,(g:Int),ty,[k0,k1,k2]⟩,((2:Nat):Int),y0.fty)=some [q]:=by rw [r0.ty,hq,hcg]; exact Kxp P
 have hm1:∀ z ∈ [p],TyS s z:=fun z hz=>by simp at hz; rw [hz]; exact P.ya
 have hm2:∀ z ∈ [q],TyS s z:=fun z hz=>by simp at hz; rw [hz]; exact P.yb
 have m1:Kw9 ⟨8,(g:Int),ty,[k0,k1,k2]⟩ [y0] 1=some [p]:=Kxt (by decide) ad1
 have p1':Kw4 s ([p] ++ ctx).length k1 (tsz (⟨8,(g:Int),ty,[k0,k1,k2]⟩:K01)):=by
  have e:([p] ++ ctx).length=ctx.length + Kqr 8 1:=by simp [Kqr]
  rw [e]; exact p1
 obtain ⟨x1,y1,r1⟩:=ih k1 ([p] ++ ctx) p1' (fun z hz=>by rcases List.mem_append.1 hz with hz | hz; exact hm1 z hz; exact hc z hz) (by simp; omega)
 have hw1:=Kv3 ctx [p] (by simp; omega)
 by_cases f1:x1.ffault=0
 rotate_left
 ·have e1:Keh (s,p :: ctx,⟨8,(g:Int),ty,[k0,k1,k2]⟩,1)=some ⟨[],[],x1.ffault,1 :: x1.fpath⟩:=Kxg (i:=1) rfl r1 (by omega) f1
  refine Kxe.bad (f:=x1.ffault) (p:=1 :: x1.fpath) ?_ (Kwk (by omega) (o0.trans (Kxh (m:=[p]) rfl m1 r1 (by omega) (by simp; omega) f1))) f1 (by have:=r1.pl; simp; omega)
  rw [Kef.eq_def]
  simp [e0,f0,i0,Keg.eq_def,hcg,hl2,hp0,hp1,hw1,e1,f1]
 obtain ⟨g1,q1,b,nb,lb,bb⟩:=r1.gd f1
 obtain ⟨c1,t1,ht1,hn1,hz1⟩:=Ky0 hs g1
 have L1:=Kvr g1
 have e1:Keh (s,p :: ctx,⟨8,(g:Int),ty,[k0,k1,k2]⟩,1)=some x1:=Kxf (i:=1) rfl r1 f1
 have lb':b.length=ctx.length + 1:=by rw [lb]; simp
 obtain ⟨u0,b',rfl⟩:∃ u0 b',b=u0 :: b':=by match b,lb' with | u0 :: b',_=>exact ⟨u0,b',rfl⟩ | [],h=>simp at h
 obtain ⟨hu0,bb'⟩:=Kuh bb
 have lbc:b'.length=ctx.length:=by simp at lb'; omega
 have i1:idx x1.fneeds 0=some (u0:Int):=by rw [nb]; rfl
 have hcut1:cut x1.fneeds (some (1:Int)) none none=some (Ku0 b'):=by rw [nb]; exact Kta _ _
 have hcp1:=Krh (Ku0 b') (by rw [Ku1]; omega)
 have o1:=Kxk (out:=[y0]) (nd:=[Ku0 a]) (us:=[Ku0 []]) (w:=1) (t:=⟨8,(g:Int),ty,[k0,k1,k2]⟩) (m:=[p]) rfl m1 r1 (by simp; omega) f1 (by rw [ht1]; exact Kwo (.inr (by decide))) (Kwm (show (8:Int) ≠ 10 by decide)) nb (by simp <;> omega) (by simp) (by simp) (by simp) (by simp)
 simp only [List.length_cons,List.length_nil,Nat.zero_add,List.drop_succ_cons,List.drop_zero,List.take_succ_cons,List.take_zero,List.nil_append,List.cons_append] at o1
 have m2:Kw9 ⟨8,(g:Int),ty,[k0,k1,k2]⟩ [y0,y1] 2=some [q]:=Kxt (by decide) ad2
 have p2':Kw4 s ([q] ++ ctx).length k2 (tsz (⟨8,(g:Int),ty,[k0,k1,k2]⟩:K01)):=by
  have e:([q] ++ ctx).length=ctx.length + Kqr 8 2:=by simp [Kqr]
  rw [e]; exact p2
 obtain ⟨x2,y2,r2⟩:=ih k2 ([q] ++ ctx) p2' (fun z hz=>by rcases List.mem_append.1 hz with hz | hz; exact hm2 z hz; exact hc z hz) (by simp; omega)
 have hw2:=Kv3 ctx [q] (by simp; omega)
 by_cases f2:x2.ffault=0
 rotate_left
 ·have e2:Keh (s,q :: ctx,⟨8,(g:Int),ty,[k0,k1,k2]⟩,2)=some ⟨[],[],x2.ffault,2 :: x2.fpath⟩:=Kxg (i:=2) rfl r2 (by omega) f2
  refine Kxe.bad (f:=x2.ffault) (p:=2 :: x2.fpath) ?_ (Kwk (by omega) (o0.trans (o1.trans (Kxh (m:=[q]) rfl m2 r2 (by omega) (by simp; omega) f2)))) f2 (by have:=r2.pl; simp; omega)
  rw [Kef.eq_def]
  simp [e0,f0,i0,Keg.eq_def,hcg,hl2,hp0,hp1,hw1,e1,f1,hcut1,hcp1,hw2,e2,f2]
 obtain ⟨g2,q2,d,nd,ld,bd⟩:=r2.gd f2
 obtain ⟨c2,t2,ht2,hn2,hz2⟩:=Ky0 hs g2
 have L2:=Kvr g2
 have e2:Keh (s,q :: ctx,⟨8,(g:Int),ty,[k0,k1,k2]⟩,2)=some x2:=Kxf (i:=2) rfl r2 f2
 have ld':d.length=ctx.length + 1:=by rw [ld]; simp
 obtain ⟨v0,d',rfl⟩:∃ v0 d',d=v0 :: d':=by match d,ld' with | v0 :: d',_=>exact ⟨v0,d',rfl⟩ | [],h=>simp at h
 obtain ⟨hv0,bd'⟩:=Kuh bd
 have ldc:d'.length=ctx.length:=by simp at ld'; omega
 have i2:idx x2.fneeds 0=some (v0:Int):=by rw [nd]; rfl
 have hcut2:cut x2.fneeds (some (1:Int)) none none=some (Ku0 d'):=by rw [nd]; exact Kta _ _
 have o2:=Kxk (out:=[y0,y1]) (nd:=[Ku0 a,Ku0 b']) (us:=[Ku0 [],Ku0 [u0]]) (w:=2) (t:=⟨8,(g:Int),ty,[k0,k1,k2]⟩) (m:=[q]) rfl m2 r2 (by simp; omega) f2 (by rw [ht2]; exact Kwo (.inr (by decide))) (Kwm (show (8:Int) ≠ 10 by decide)) nd (by simp <;> omega) (by simp) (by simp) (by simp) (by simp)
 simp only [List.length_cons,List.length_nil,Nat.zero_add,List.drop_succ_cons,List.drop_zero,List.take_succ_cons,List.take_zero,List.nil_append,List.cons_append] at o2
 have hl0:=o0.trans (o1.trans (o2.trans (Kwc (Nat.le_refl _))))
 have hle0:=sLe hs.tab hu0 hg
 have hle1:=sLe hs.tab hv0 hg
 have hf:=Kxb (ty:=ty) (ks:=[k0,k1,k2]) (ctx:=ctx) (z:=Ku0 (List.replicate ctx.length 0)) (y0:=y0) (y1:=y1) (y2:=y2) (us':=Ku0 []) (u:=[u0]) (v:=[v0]) hs hg (fun x hx=>by simp at hx; rw [hx]; exact hu0) (by simp) (fun x hx=>by simp at hx; rw [hx]; exact hv0) (by simp) ba bb' bd' (by omega) (by omega) (by omega) (by rw [r2.ty]; omega) (by rw [r1.ty]; omega)
 simp only [List.all_cons,List.all_nil,Bool.and_true] at hf
 rw [r1.ty,r2.ty] at hf
 have hsm:=Ktj x1.fty x2.fty (by omega)
 have hj:=Kus hs b' d' bb' bd' (by omega) (by omega)
 have lj:(Kuf s n b' d').length=ctx.length:=by unfold Kuf; rw [List.length_zipWith]; omega
 by_cases hqq:x1.fty=x2.fty
 rotate_left
 ·rw [if_neg hqq] at hf
  rw [show (x1.fty == x2.fty)=false from beq_eq_false_iff_ne.2 hqq] at hsm
  refine Kxe.bad (f:=3) (p:=[]) ?_ (Kwl (by omega) hl0 hf) (by decide) (by simp; omega)
  rw [Kef.eq_def]
  simp [e0,f0,i0,Keg.eq_def,hcg,hl2,hp0,hp1,hw1,e1,f1,hcut1,hcp1,hw2,e2,f2,hsm,Kd8]
 rw [if_pos hqq] at hf
 rw [show (x1.fty == x2.fty)=true from beq_iff_eq.2 hqq] at hsm
 by_cases hal:le s n u0 g=true∧le s n v0 g=true
 rotate_left
 ·rw [if_neg hal] at hf
  refine Kxe.bad (f:=9) (p:=[]) ?_ (Kwl (by omega) hl0 hf) (by decide) (by simp; omega)
  rw [Kef.eq_def]
  simp [e0,f0,i0,Keg.eq_def,hcg,hl2,hp0,hp1,hw1,e1,f1,hcut1,hcp1,hw2,e2,f2,hsm,i1,i2,hle0,hle1,hcut2,hj,Kd8]
  cases q1:le s n v0 g with
  | false=>simp
  | true =>
   cases q2:le s n u0 g with
   | false=>simp
   | true=>exact absurd ⟨q2,q1⟩ hal
 rw [if_pos hal] at hf
 have im:=Kxw (q:=x1.fty) (ns:=Kud s n (Kue s n g a) (Kuf s n b' d')) (kids:=[y0,y1,y2]) (by omega) (Kwl (by omega) hl0 hf)
 have lsc:(Kue s n g a).length=ctx.length:=by unfold Kue; rw [List.length_map]; exact la
 have hsc:=Kuk hs hg ba
 have hz0:=Kun hs hsc
 rw [lsc] at hz0
 have hsum:=Kup hs g hg (List.replicate ctx.length 0) a (fun x hx=>by rw [List.eq_of_mem_replicate hx]; exact Ku8 hs) ba (by simp; omega) (by simp [la])
 rw [hz0] at hsum
 have hs2:=Kuq hs (Kue s n g a) (Kuf s n b' d') hsc (Kul hs bb' bd') (by omega) (by omega)
 refine Kxe.good (q:=x1.fty) (ns:=Kud s n (Kue s n g a) (Kuf s n b' d')) (kids:=[y0,y1,y2]) ?_ im (by omega) g1 (by unfold Kud; rw [List.length_zipWith]; omega) (Kuj hs hsc (Kul hs bb' bd')) rfl (kd3 (Kxd.mk' (Kxl (by decide) rfl) r0 f0 (fun _ h=>by cases h) rfl) (Kxd.mk' ad1 r1 f1 hm1 rfl) (Kxd.mk' ad2 r2 f2 hm2 rfl))
 rw [Kef.eq_def]
 simp [e0,f0,i0,Keg.eq_def,hcg,hl2,hp0,hp1,hw1,e1,f1,hcut1,hcp1,hw2,e2,f2,hsm,i1,i2,hle0,hle1,hal.1,hal.2,hcut2,hj,na,Kv2 ctx.length (by omega),hsum,hs2]
theorem Kym:∀ (m:Nat) (t:K01) (ctx:List (List Int)),tsz t ≤ m→tOk (gN s.fSize true) (yN s.fSize true) ctx.length t=true→(∀ q ∈ ctx,TyS s q)→ctx.length + 2 * tsz t ≤ 1000000→∃ x y,Kxe s n ctx t x y
 | 0,t,ctx,hm,_,_,_=>by obtain ⟨op,N,ty,ks⟩:=t; rw [tsz] at hm; omega
 | m + 1,t,ctx,hm,h,hc,hb=>by
  have ih:Kxv s n (tsz t):=fun k c hk hc hb=>Kym m k c (by have:=hk.sz; omega) hk.ok hc hb
  obtain ⟨op,N,ty,ks⟩:=t
  have hop:=(Krg (Kre h).1).1
  simp only at hop
  rcases Kql hop with rfl | rfl | rfl | rfl | rfl | rfl | rfl | rfl | rfl | rfl | rfl | rfl | rfl
  ·exact Kxy hs rfl h hc hb
  ·exact Kxz hs rfl h hb
  ·exact Ky6 hs ih h hc hb
  ·exact Ky7 hs ih h hc hb
  ·exact Ky5 hs ih h hc hb
  ·exact Kyj hs ih h hc hb
  ·exact Ky1 hs ih h hc hb
  ·exact Ky2 hs ih h hc hb
  ·exact Kyl hs ih h hc hb
  ·exact Ky4 hs ih h hc hb
  ·exact Kyi hs ih h hc hb
  ·exact Ky3 hs ih h hc hb
  ·exact Kyk hs ih h hc hb
end
theorem Kyn {l:List (List Int)} {v:List Int} (h:v ∈ l):v.length ≤ lms l:=by
 have:=Kt5 h
 unfold lms; omega
theorem Kyo {s:K00} {ctx:List (List Int)} {t:K01} (h:Kvo s ctx t=true):Ku5 s s.fSize.toNat∧ctx.length ≤ 8∧(∀ q ∈ ctx,TyS s q)∧tsz t ≤ 400∧tOk (gN s.fSize true) (yN s.fSize true) ctx.length t=true:=by
 unfold Kvo Kve Ktp at h
 simp only [Bool.and_eq_true,decide_eq_true_eq,List.all_eq_true] at h
 exact ⟨Ku6 h.1.1,h.1.2.1,fun q hq=>h.1.2.2 q hq,h.2.1.2,h.2.2⟩
theorem Kyp {s:K00} {ctx:List (List Int)} {t:K01} (h:Kvo s ctx t=true):∃ x y,Kxe s s.fSize.toNat ctx t x y:=by
 obtain ⟨h1,h2,h3,h4,h5⟩:=Kyo h
 exact Kym h1 (tsz t) t ctx (Nat.le_refl _) h5 h3 (by omega)
theorem Kyq {s:K00} {ctx:List (List Int)} {t:K01} (hc:lms ctx ≤ 1048576) (ht:tms t ≤ 1099511627776) :
  (Kvo s ctx t=false∧Kcw (s,ctx,t)=some false∧Klg (s,ctx,t)=some none) ∨
  (Kvo s ctx t=true∧Kcw (s,ctx,t)=some true∧∃ x y,Kxe s s.fSize.toNat ctx t x y∧Klg (s,ctx,t)=some (some y)):=by
 have hl:∀ ty ∈ ctx,ty.length ≤ 1099511627776:=fun ty h=>by have:=Kyn h; omega
 have hc':ctx.length ≤ 1048576:=by unfold lms at hc; omega
 have h1:=Kvp s ctx t hc' hl ht
 have h2:=Kvq s ctx t hc' hl ht
 cases h:Kvo s ctx t with
 | false=>rw [h] at h1 h2; exact .inl ⟨rfl,h1,by simpa using h2⟩
 | true =>
  rw [h] at h1 h2
  obtain ⟨x,y,r⟩:=Kyp h
  refine .inr ⟨rfl,h1,x,y,r,?_⟩
  rw [if_pos rfl,r.im,bs] at h2
  exact h2
theorem Kyr (x0:K00) (x1:List (List Int)) (x2:K01) (b0:sms x0 ≤ 1048576) (b1:lms x1 ≤ 1048576) (b2:tms x2 ≤ 1048576) (h2:tln x2) :
  ∃ w0 w1,Kew (x0,x1,x2)=some (w0,w1)∧Klj (x0,x1,x2)=some (w0,w1)∧w1.length ≤ 1099511627776:=by
 unfold Kew Klj
 simp only
 rcases Kyq (s:=x0) b1 (by omega:tms x2 ≤ 1099511627776) with ⟨h0,q1,q2⟩ | ⟨h0,q1,x,y,r,q2⟩
 ·rw [q1,q2,bs,bs,if_neg (by decide)]
  exact ⟨1,[],rfl,rfl,by simp⟩
 ·obtain ⟨_,_,_,h4,_⟩:=Kyo h0
  have:=r.pl
  rw [q1,q2,bs,bs,if_pos rfl,r.sp,bs]
  refine ⟨x.ffault,x.fpath,rfl,?_,by omega⟩
  simp only
  rw [r.fa,r.pa]
theorem Kys (x0:K00) (x1:List (List Int)) (x2:K01) (hx0:sln x0) (hx1:lln x1) (hx2:tln x2):Knt (x0,x1,x2)=some true:=by
 unfold Knt
 simp only
 rw [Ksp x0 (1048576) hx0 (by omega) (by omega),bs]
 rcases Kr4 (1048576) (sms x0) with ⟨e0,l0⟩ | ⟨e0,l0⟩
 ·rw [e0]; rfl
 ·rw [e0,decide_eq_false (by omega),if_neg (by decide)]
  rw [Ktx x1 (1048576 - (sms x0:Int)) hx1 (by omega) (by omega),bs]
  rcases Kr4 (1048576 - (sms x0:Int)) (lms x1) with ⟨e1,l1⟩ | ⟨e1,l1⟩
  ·rw [e1]; rfl
  ·rw [e1,decide_eq_false (by omega),if_neg (by decide)]
   rw [Kr7 x2 (1048576 - (sms x0:Int) - (lms x1:Int)) hx2 (by omega) (by omega),bs]
   rcases Kr4 (1048576 - (sms x0:Int) - (lms x1:Int)) (tms x2) with ⟨e2,l2⟩ | ⟨e2,l2⟩
   ·rw [e2]; rfl
   ·rw [e2,decide_eq_false (by omega),if_neg (by decide)]
    have bx0:sms x0 ≤ 1048576:=by omega
    have bx1:lms x1 ≤ 1048576:=by omega
    have bx2:tms x2 ≤ 1048576:=by omega
    obtain ⟨w0,w1,s1,s2,c1⟩:=Kyr x0 x1 x2 bx0 bx1 bx2 hx2
    obtain ⟨Mx0,mx0⟩:=Ktf x0 (1) (by omega) (by omega)
    have qx1:=Ktv (l:=x1) (by omega)
    have zx1:=qx1.2
    obtain ⟨Mx1,mx1⟩:=Kt9 x1 (1 + sms x0) qx1 (by omega)
    obtain ⟨Mx2,mx2⟩:=Kt3 x2 (1 + sms x0 + lct x1) (by omega) (by omega)
    have zx2:=Ksx x2
    have n1:=Kst w1 (1) (by omega) (by omega)
    have n1':=Ksv w1.length (1) (by omega) (by omega)
    rw [show ((1:Nat):Int)=1 from rfl] at mx0 n1 n1'
    simp only [s1,s2,bs,Ksq (s:=x0) (by omega),Ksr (s:=x0) (by omega),Ktz x1 (by omega),Kt7 x1 (Ktv (by omega)),Kr9 x2 (by omega),Krb x2 (by omega),Ko8 w1 (by omega),mx0,mx1,mx2,n1,n1',Kt4,if_true,if_false,Bool.false_eq_true,Ko6,Bool.not_true,Bool.not_false,Ktb,beq_self_eq_true]
    repeat (rw [decide_eq_false (by omega)]; simp only [bs,Bool.false_eq_true,if_false,if_true,Ko6,Kt4,Bool.not_true,n1,n1'])
end Go.Am
