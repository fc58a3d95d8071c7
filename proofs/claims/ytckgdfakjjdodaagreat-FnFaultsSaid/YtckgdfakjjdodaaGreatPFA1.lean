/- Plain laws of the printed functions. -/
import Derived.Test.YtckgdfakjjdodaaGreatPFA0
set_option linter.unusedSimpArgs false
set_option linter.unusedVariables false
namespace Go.Am
theorem Kyi (k:Nat) (h:k ≤ 1048576):Kf3 (k:Int)=some (Kxg (List.replicate k 0)):=by
 unfold Kf3
 rw [Int.toNat_natCast,Kwp (by constructor <;> omega),bs]
 unfold Kxg
 rw [List.map_replicate]
 rfl
theorem Kyj (ctx front:List (List Int)) (h:ctx.length + front.length ≤ 1048576):Key (ctx,front)=some (front ++ ctx):=by
 unfold Key
 simp only
 rw [Kuf (by simp; omega),bs,Kuf (by omega),bs]
theorem Kyk (ps:List (List Int)) (hp:ps.length ≤ 1099511627776):∀ (l:List (List Int)) (i:Nat) (out:List Int),ps.drop i=l→out.length + l.flatten.length ≤ 1099511627776→Kdj (ps,out,(i:Int))=some (out ++ l.flatten):=by
 intro l
 induction l with
 | nil =>
  intro i out hd _
  rw [Kdj.eq_def]
  simp only
  rw [Krb (Kse hd)]
  simp
 | cons x l ih =>
  intro i out hd ho
  obtain ⟨h1,h2,h3⟩:=Ksd hd
  rw [List.flatten_cons,List.length_append] at ho
  rw [Kdj.eq_def]
  simp only
  rw [Kra h1,if_pos rfl,h2,bs,Kuf (by omega),bs,Kr9 (by omega),ih (i + 1) _ h3 (by rw [List.length_append]; omega),List.flatten_cons,List.append_assoc]
theorem Kyl (c:Int) (ps:List (List Int)) (hp:ps.length ≤ 1048576) (h:ps.flatten.length ≤ 1048576):Kdm (c,ps)=some (c :: ps.flatten):=by
 unfold Kdm
 simp only
 rw [show (0:Int)=((0:Nat):Int) from rfl,Kyk ps (by omega) ps 0 [c] rfl (by rw [List.length_singleton]; omega)]
 rfl
theorem Kym (ps:List (List (Int))) (hp:ps.length ≤ 1099511627776):∀ (l:List (List (Int))) (i sz:Nat),ps.drop i=l→sz + l.flatten.length ≤ 1099511627776→Knj (ps,(sz:Int),(i:Int))=some (((sz + l.flatten.length:Nat)):Int):=by
 intro l
 induction l with
 | nil =>
  intro i sz hd _
  rw [Knj.eq_def]
  simp only
  rw [Krb (Kse hd)]
  simp
 | cons x l ih =>
  intro i sz hd ho
  obtain ⟨h1,h2,h3⟩:=Ksd hd
  rw [List.flatten_cons,List.length_append] at ho
  have e:wr ((sz:Int) + (x.length:Int))=((sz + x.length:Nat):Int):=Kvn (by omega) (by omega)
  rw [Knj.eq_def]
  simp only
  rw [Kra h1,if_pos rfl,h2,bs,e,decide_eq_false (by omega),if_neg (by decide),bs,Kr9 (by omega),ih (i + 1) _ h3 (by omega),List.flatten_cons,List.length_append,Nat.add_assoc]
theorem Kyn (ps:List (List (Int))) (hp:ps.length ≤ 1099511627776):∀ (l:List (List (Int))) (i:Nat) (out:List (Int)),ps.drop i=l→out.length + l.flatten.length ≤ 1099511627776→Knn (ps,out,(i:Int))=some (out ++ l.flatten):=by
 intro l
 induction l with
 | nil =>
  intro i out hd _
  rw [Knn.eq_def]
  simp only
  rw [Krb (Kse hd)]
  simp
 | cons x l ih =>
  intro i out hd ho
  obtain ⟨h1,h2,h3⟩:=Ksd hd
  rw [List.flatten_cons,List.length_append] at ho
  rw [Knn.eq_def]
  simp only
  rw [Kra h1,if_pos rfl,h2,bs,Kuf (by omega),bs,Kr9 (by omega),ih (i + 1) _ h3 (by rw [List.length_append]; omega),List.flatten_cons,List.append_assoc]
theorem Kyo (k:Nat) (h:k ≤ 1048576):Knf (k:Int)=some ():=by
 unfold Knf
 have e:wr ((k:Int) - wr (0 - 0))=(k:Int):=by rw [Kr7 (x:=0 - 0) (by decide) (by decide),Kr7 (by omega) (by omega)]; omega
 rw [decide_eq_false (by omega),if_neg (by decide),e]
 by_cases hk:k=0
 ·subst hk; rfl
 ·rw [decide_eq_true (by omega),if_pos rfl,Int.toNat_natCast,Kwp (by constructor <;> omega),bs]
theorem Kyp (ps:List (List (Int))) (hp:ps.length ≤ 1048576) (h:ps.flatten.length ≤ 1048576):Knq ps=some ps.flatten:=by
 unfold Knq
 have h0:=Kym ps (by omega) ps 0 0 rfl (by omega)
 rw [Nat.zero_add] at h0
 rw [show (0:Int)=((0:Nat):Int) from rfl,h0,bs,Kyo _ h,bs,Kyn ps (by omega) ps 0 [] rfl (by rw [List.length_nil]; omega)]
 rfl
theorem Kyq (ps:List (List (List Int))) (hp:ps.length ≤ 1099511627776):∀ (l:List (List (List Int))) (i sz:Nat),ps.drop i=l→sz + l.flatten.length ≤ 1099511627776→Km4 (ps,(sz:Int),(i:Int))=some (((sz + l.flatten.length:Nat)):Int):=by
 intro l
 induction l with
 | nil =>
  intro i sz hd _
  rw [Km4.eq_def]
  simp only
  rw [Krb (Kse hd)]
  simp
 | cons x l ih =>
  intro i sz hd ho
  obtain ⟨h1,h2,h3⟩:=Ksd hd
  rw [List.flatten_cons,List.length_append] at ho
  have e:wr ((sz:Int) + (x.length:Int))=((sz + x.length:Nat):Int):=Kvn (by omega) (by omega)
  rw [Km4.eq_def]
  simp only
  rw [Kra h1,if_pos rfl,h2,bs,e,decide_eq_false (by omega),if_neg (by decide),bs,Kr9 (by omega),ih (i + 1) _ h3 (by omega),List.flatten_cons,List.length_append,Nat.add_assoc]
theorem Kyr (ps:List (List (List Int))) (hp:ps.length ≤ 1099511627776):∀ (l:List (List (List Int))) (i:Nat) (out:List (List Int)),ps.drop i=l→out.length + l.flatten.length ≤ 1099511627776→Km8 (ps,out,(i:Int))=some (out ++ l.flatten):=by
 intro l
 induction l with
 | nil =>
  intro i out hd _
  rw [Km8.eq_def]
  simp only
  rw [Krb (Kse hd)]
  simp
 | cons x l ih =>
  intro i out hd ho
  obtain ⟨h1,h2,h3⟩:=Ksd hd
  rw [List.flatten_cons,List.length_append] at ho
  rw [Km8.eq_def]
  simp only
  rw [Kra h1,if_pos rfl,h2,bs,Kuf (by omega),bs,Kr9 (by omega),ih (i + 1) _ h3 (by rw [List.length_append]; omega),List.flatten_cons,List.append_assoc]
theorem Kys (k:Nat) (h:k ≤ 1048576):Km0 (k:Int)=some ():=by
 unfold Km0
 have e:wr ((k:Int) - wr (0 - 0))=(k:Int):=by rw [Kr7 (x:=0 - 0) (by decide) (by decide),Kr7 (by omega) (by omega)]; omega
 rw [decide_eq_false (by omega),if_neg (by decide),e]
 by_cases hk:k=0
 ·subst hk; rfl
 ·rw [decide_eq_true (by omega),if_pos rfl,Int.toNat_natCast,Kwp (by constructor <;> omega),bs]
theorem Kyt (ps:List (List (List Int))) (hp:ps.length ≤ 1048576) (h:ps.flatten.length ≤ 1048576):Kmb ps=some ps.flatten:=by
 unfold Kmb
 have h0:=Kyq ps (by omega) ps 0 0 rfl (by omega)
 rw [Nat.zero_add] at h0
 rw [show (0:Int)=((0:Nat):Int) from rfl,h0,bs,Kys _ h,bs,Kyr ps (by omega) ps 0 [] rfl (by rw [List.length_nil]; omega)]
 rfl
def Kyu (s:K00) (ctx:List (List Int)):Bool:=decide (ctx.length ≤ 8) && ctx.all (yN s.fSize true)
theorem sYn {s:K00} {ty:List Int} (h:ty.length ≤ 1099511627776):(Kqw ty >>= fun r=>if r=true then Kqy (ty,s.fSize,true) >>= fun q=>some (!q) else some true)=some (!yN s.fSize true ty):=by
 rw [Kt0 ty h,bs]
 unfold yN
 cases wtB ty with
 | false=>rfl
 | true=>rw [if_pos rfl,Kt6 ty h,bs]; rfl
theorem Kyv (s:K00) (ctx:List (List Int)) (hc:ctx.length ≤ 1048576) (hl:∀ ty ∈ ctx,ty.length ≤ 1099511627776):∀ (l:List (List Int)) (i:Nat),ctx.drop i=l→Kr3 (s,ctx,(i:Int))=some (if l.all (yN s.fSize true) then .inl () else .inr false):=by
 intro l
 induction l with
 | nil =>
  intro i hd
  rw [Kr3.eq_def]
  simp only
  rw [Krb (Kse hd)]; rfl
 | cons x l ih =>
  intro i hd
  obtain ⟨h1,h2,h3⟩:=Ksd hd
  have hx:x ∈ ctx:=List.mem_of_mem_drop (i:=i) (by rw [hd]; exact List.mem_cons_self)
  rw [Kr3.eq_def]
  simp only
  rw [Kra h1,if_pos rfl]
  simp only [h2,bs]
  rw [sYn (hl x hx),bs,Kr9 (by omega),ih (i + 1) h3,List.all_cons]
  cases yN s.fSize true x <;> cases l.all (yN s.fSize true) <;> rfl
theorem Kyw (s:K00) (ctx:List (List Int)) (hc:ctx.length ≤ 1048576) (hl:∀ ty ∈ ctx,ty.length ≤ 1099511627776):Kr4 (s,ctx)=some (Kyu s ctx):=by
 unfold Kr4 Kyu
 simp only
 by_cases h:ctx.length ≤ 8
 ·rw [decide_eq_false (by omega),decide_eq_true h,if_neg (by decide),show (0:Int)=((0:Nat):Int) from rfl,Kyv s ctx hc hl ctx 0 rfl,bs]
  cases ctx.all (yN s.fSize true) <;> rfl
 ·rw [decide_eq_true (by omega),decide_eq_false h,if_pos rfl]; rfl
theorem Kyx (s:K00) (ctx:List (List Int)) (hc:ctx.length ≤ 1048576) (hl:∀ ty ∈ ctx,ty.length ≤ 1099511627776):∀ (l:List (List Int)) (i:Nat),ctx.drop i=l→∃ r,Kku (ctx,s,(i:Int))=some r∧(match r with | .inl _=>l.all (Kvg s)=true | .inr j=>l.all (Kvg s)=false∧0 ≤ j):=by
 intro l
 induction l with
 | nil =>
  intro i hd
  rw [Kku.eq_def]
  simp only
  rw [Krb (Kse hd)]
  exact ⟨_,rfl,rfl⟩
 | cons x l ih =>
  intro i hd
  obtain ⟨h1,h2,h3⟩:=Ksd hd
  have hx:x ∈ ctx:=List.mem_of_mem_drop (i:=i) (by rw [hd]; exact List.mem_cons_self)
  rw [Kku.eq_def]
  simp only
  rw [Kra h1,if_pos rfl,h2,bs]
  unfold Kkq
  simp only
  rw [Kvi s x (hl x hx)]
  simp only [bs]
  cases hle:Kvg s x with
  | true =>
   obtain ⟨r,hr,hm⟩:=ih (i + 1) h3
   refine ⟨r,?_,?_⟩
   ·rw [if_neg (by simp),Kr9 (by omega)]; exact hr
   ·rw [List.all_cons,hle,Bool.true_and]; exact hm
  | false=>exact ⟨_,if_pos rfl,by simp [List.all_cons,hle]⟩
theorem Kyy (s:K00) (hs:Kut s=true) (ctx:List (List Int)) (hc:ctx.length ≤ 1048576) (hl:∀ ty ∈ ctx,ty.length ≤ 1099511627776):Kl3 (s,ctx)=some (Kyu s ctx):=by
 have e:ctx.all (Kvg s)=ctx.all (yN s.fSize true):=by
  congr 1
  funext ty
  exact Kvl (Kuu hs) ty
 unfold Kl3 Kyu
 simp only
 by_cases h:ctx.length ≤ 8
 ·rw [decide_eq_true (by omega:(ctx.length:Int) ≤ 8),decide_eq_true h,if_pos rfl]
  obtain ⟨r,hr,hm⟩:=Kyx s ctx hc hl ctx 0 rfl
  unfold Kl0 Kkx
  simp only
  rw [show (0:Int)=((0:Nat):Int) from rfl,hr]
  rw [e] at hm
  cases r with
  | inl _=>simp only [bs] at hm ⊢; rw [hm]; rfl
  | inr j =>
   simp only [bs] at hm ⊢
   rw [hm.1,decide_eq_true (by omega)]; rfl
 ·rw [decide_eq_false (by omega),decide_eq_false h,if_neg (by decide)]; rfl
theorem Kyz {s:K00} (ty:List Int) (h:ty.length ≤ 1099511627776):Kl9 (ty,s)=some (Kvg s ty):=by
 unfold Kl9
 simp only
 rw [Kvi s ty h,bs]
mutual
theorem Kz0 (s:K00):∀ (t:K01) (n nodes:Nat),tms t ≤ 1099511627776→n + 2 * tms t ≤ 35184372088832→nodes ≤ 400→Klg (t,(n:Int),s,s,(nodes:Int))=some (Ku4 (tOk (Kvd s) (Kvg s) n t) nodes (tsz t))
 | ⟨op,N,ty,ks⟩,n,nodes,ht,hn,hd=>by
  rw [tms] at ht hn
  rw [Klg.eq_def,tOk,tsz]
  simp only
  rw [Ktr,bs]
  unfold Ktq
  cases hop:inB op 0 12
  ·simp [Kty,hop,Ku4]
  ·simp only [if_true]
   rw [Kr9 (by omega)]
   by_cases h4:nodes + 1 ≤ 400
   ·rw [decide_eq_false (by omega:¬ ((nodes + 1:Nat):Int) > 400)]
    by_cases hk:(ks.length:Int)=Kti op
    ·rw [show ((ks.length:Int) != Kti op)=false by rw [hk]; exact Krc]
     simp only [Bool.false_eq_true,if_false,bs]
     refine (Kt7 (x:=Ktw (Kvd s) (n:Int) ⟨op,N,ty,ks⟩) ?_).trans ?_
     ·unfold Ktw
      simp only [iIn,Kr7 (x:=(n:Int) - 1) (by omega) (by omega),Kve,bs]
      cases op == 0 <;> cases op == 1 <;> cases Ktj op <;> rfl
     refine (Kt7 (x:=Ktw (Kvd s) (n:Int) ⟨op,N,ty,ks⟩ && Ktx (Kvg s) ⟨op,N,ty,ks⟩) ?_).trans ?_
     ·unfold Ktx
      simp only [Kyz ty (by omega),bs]
      cases Ktk op <;> cases Ktw (Kvd s) (n:Int) ⟨op,N,ty,ks⟩ <;> rfl
     have e:Kty (Kvd s) (Kvg s) (n:Int) ⟨op,N,ty,ks⟩=(Ktw (Kvd s) (n:Int) ⟨op,N,ty,ks⟩ && Ktx (Kvg s) ⟨op,N,ty,ks⟩):=by
      unfold Kty
      simp only
      rw [hop,hk]; simp
     rw [e]
     cases Ktw (Kvd s) (n:Int) ⟨op,N,ty,ks⟩ && Ktx (Kvg s) ⟨op,N,ty,ks⟩
     ·simp [Ku4]
     ·have h:=Kz1 s ks ⟨op,N,ty,ks⟩ n (nodes + 1) 0 rfl (by simp only; omega) (by omega) (by omega) h4
      rw [if_pos rfl,show (0:Int)=((0:Nat):Int) from rfl,h]
      simp only [Bool.true_and]
      unfold Ku4
      rw [show nodes + (1 + Kt8 ks)=nodes + 1 + Kt8 ks by omega]
      cases Ktz (Kvd s) (Kvg s) op n 0 ks && decide (nodes + 1 + Kt8 ks ≤ 400) <;> rfl
    ·rw [show ((ks.length:Int) != Kti op)=true by simpa using hk]
     have e:Kty (Kvd s) (Kvg s) (n:Int) ⟨op,N,ty,ks⟩=false:=by
      unfold Kty
      simp only
      rw [show ((ks.length:Int) == Kti op)=false by simpa using hk]; simp
     simp [e,Ku4]
   ·rw [decide_eq_true (by omega:((nodes + 1:Nat):Int) > 400)]
    have:¬ nodes + (1 + Kt8 ks) ≤ 400:=by omega
    simp [Ku4,this]
theorem Kz1 (s:K00):∀ (ks:List K01) (t:K01) (n nodes i:Nat),t.fKids.drop i=ks→t.fKids.length ≤ 1099511627776→Kt9 ks ≤ 1099511627776→n + 2 * (ks.length + Kt9 ks) ≤ 35184372088832→nodes ≤ 400 →
  Klh (t,(n:Int),s,s,(nodes:Int),(i:Int))=some (if Ktz (Kvd s) (Kvg s) t.fOp n i ks && decide (nodes + Kt8 ks ≤ 400) then .inl ((nodes + Kt8 ks:Nat):Int) else .inr 401)
 | [],t,n,nodes,i,hd,hk,ht,hn,h4=>by
  rw [Klh.eq_def,Ktz,Kt8]
  simp only
  rw [Krb (Kse hd)]
  simp [h4]
 | k :: ks,t,n,nodes,i,hd,hk,ht,hn,h4=>by
  obtain ⟨hi,hx,hd'⟩:=Ksd hd
  rw [Kt9] at ht hn
  rw [List.length_cons] at hn
  have ha:=Ktt t.fOp (i:Int)
  rw [Klh.eq_def,Ktz,Kt8]
  simp only
  rw [Kra hi,if_pos rfl,hx,bs,Ktv,bs,Kr7 (by omega) (by omega),show (n:Int) + ((Kts t.fOp (i:Int):Nat):Int)=((n + Kts t.fOp (i:Int):Nat):Int) by omega]
  rw [Kz0 s k (n + Kts t.fOp (i:Int)) nodes (by omega) (by omega) h4,bs,Kr9 (by omega)]
  unfold Ku4
  cases tOk (Kvd s) (Kvg s) (n + Kts t.fOp (i:Int)) k
  ·rfl
  ·by_cases q:nodes + tsz k ≤ 400
   ·rw [decide_eq_true q,Bool.true_and,if_pos rfl,decide_eq_false (by omega:¬ ((nodes + tsz k:Nat):Int) > 400),if_neg (by decide),Kz1 s ks t n (nodes + tsz k) (i + 1) hd' hk (by omega) (by omega) q,Nat.add_assoc,Bool.true_and]
   ·rw [decide_eq_false q,decide_eq_false (by omega:¬ nodes + (tsz k + Kt8 ks) ≤ 400)]
    simp
end
theorem Kz2 {s:K00} {n:Nat} (h:Tab s n):Kvd s=gN s.fSize true:=by
 funext g
 rw [Kvj h]
 unfold gN inB
 rw [h.size]
 rw [Bool.eq_iff_iff]
 simp
 omega
theorem Kz3 (s:K00) (hs:Kut s=true) (t:K01) (n:Nat) (hn:n ≤ 8) (ht:tms t ≤ 1099511627776):Kln (s,t,(n:Int))=some (Kx1 s t n):=by
 have hy:Kvg s=yN s.fSize true:=funext fun ty=>Kvl (Kuu hs) ty
 unfold Kln Kx1
 simp only
 rw [iIn,bs,hs]
 have:inB (n:Int) 0 8=true:=by unfold inB; rw [decide_eq_true (by omega),decide_eq_true (by omega)]; rfl
 have hc:=Kz0 s t n 0 ht (by omega) (by omega)
 rw [Kz2 (Kuu hs),hy] at hc
 rw [this,if_pos rfl,show (0:Int)=((0:Nat):Int) from rfl,hc,bs]
 unfold Ku4
 rw [Nat.zero_add]
 cases tOk (gN s.fSize true) (yN s.fSize true) n t
 ·simp [bs]
 ·by_cases h:tsz t ≤ 400
  ·simp [bs,h]; omega
  ·simp [bs,h]
def Kz4 (s:K00) (ctx:List (List Int)) (t:K01):Bool:=Kut s && Kyu s ctx && Kx1 s t ctx.length
theorem Kz5 (s:K00) (ctx:List (List Int)) (t:K01) (hc:ctx.length ≤ 1048576) (hl:∀ ty ∈ ctx,ty.length ≤ 1099511627776) (ht:tms t ≤ 1099511627776):Kr5 (s,ctx,t)=some (Kz4 s ctx t):=by
 unfold Kr5 Kz4
 simp only
 rw [Kuv,bs]
 cases hs:Kut s
 ·rfl
 ·rw [if_pos rfl,Kyw s ctx hc hl,bs]
  cases h2:Kyu s ctx
  ·rfl
  ·have h8:ctx.length ≤ 8:=by
    unfold Kyu at h2
    simp only [Bool.and_eq_true,decide_eq_true_eq] at h2
    exact h2.1
   rw [if_pos rfl,Kx2 s t _ h8 ht]
   rfl
theorem Kz6 (s:K00) (ctx:List (List Int)) (t:K01) (hc:ctx.length ≤ 1048576) (hl:∀ ty ∈ ctx,ty.length ≤ 1099511627776) (ht:tms t ≤ 1099511627776) :
  Kpc (s,ctx,t)=if Kz4 s ctx t then (Kp5 (⟨s⟩,ctx,t) >>= fun r=>some (some r)) else some none:=by
 unfold Kpc Kz4
 simp only
 rw [Kuw,bs]
 cases hs:Kut s
 ·rfl
 ·rw [if_pos rfl,Kyy s hs ctx hc hl,bs]
  cases h2:Kyu s ctx
  ·rfl
  ·have h8:ctx.length ≤ 8:=by
    unfold Kyu at h2
    simp only [Bool.and_eq_true,decide_eq_true_eq] at h2
    exact h2.1
   rw [if_pos rfl,Kz3 s hs t _ h8 ht,bs]
   cases Kx1 s t ctx.length <;> rfl
def TyS (s:K00) (ty:List Int):Prop:=yN s.fSize true ty=true
theorem Kz7 {s:K00} {ty:List Int} (h:TyS s ty):ty.length ≤ 40:=by
 unfold TyS yN at h
 rw [Bool.and_eq_true] at h
 exact Kuc h.1
theorem Kz8 {s:K00} {ty:List Int} (h:TyS s ty):∃ T:Ty,T.ok∧ty=T.code∧T.code.length ≤ 40∧T.code.all (Kt3 s.fSize true)=true:=by
 have hl:=Kz7 h
 unfold TyS yN at h
 rw [Bool.and_eq_true] at h
 obtain ⟨T,h1,rfl,_⟩:=Kv3 h.1
 exact ⟨T,h1,rfl,hl,h.2⟩
theorem Kz9 {s:K00} {T:Ty} (h:T.ok) (hl:T.code.length ≤ 40) (hc:T.code.all (Kt3 s.fSize true)=true):TyS s T.code:=by
 unfold TyS yN
 rw [Kv4 h hl,hc]; rfl
structure Kza (s:K00) (c:Int) (a b:List Int):Prop where
 ya:TyS s a
 yb:TyS s b
 p0:Kes (c :: (a ++ b),0)=some a
 p1:Kes (c :: (a ++ b),1)=some b
 pp:Klu (c :: (a ++ b))=some [a,b]
structure Kzb (s:K00) (c:Int) (a:List Int):Prop where
 ya:TyS s a
 p0:Kes (c :: a,0)=some a
 pp:Klu (c :: a)=some [a]
theorem Kzc {s:K00} {c:Int} (hc:c=35∨c=36):Kt3 s.fSize true c=false:=by
 rcases hc with rfl | rfl
 ·unfold Kt3 Kt2
  rw [show Ksh 35=2 from rfl]; simp
 ·unfold Kt3 Kt2
  rw [show Ksh 36=1 from rfl]; simp
theorem Kzd {s:K00}:TyS s [0]:=Kz9 (T:=.num) trivial (by decide) (by
 show (Kt3 s.fSize true 0 && true)=true
 unfold Kt3
 rw [show Ksh 0=0 from rfl]; simp)
section
variable {s:K00} {n:Nat} (hs:Kxl s n)
include hs
theorem Kze {c:Int} (hc:3 ≤ c∧c ≤ 18):Kt3 s.fSize true c=true ↔ c - 3 < (n:Int):=by
 have hk:Ksh c=2:=by rcases Ksl c with h | h | h | h <;> omega
 unfold Kt3 Kt2
 rw [hk,hs.tab.size,if_neg (by omega),if_neg (by omega)]
 simp
 omega
theorem Kzf {c:Int} (hc:19 ≤ c∧c ≤ 34):Kt3 s.fSize true c=true ↔ c - 19 < (n:Int):=by
 have hk:Ksh c=1:=by rcases Ksl c with h | h | h | h <;> omega
 unfold Kt3 Kt2
 rw [hk,hs.tab.size,if_neg (by omega),if_pos (by omega)]
 simp
 omega
theorem Kzg {ty:List Int} (h:TyS s ty):ty=[0]∨(∃ a b,ty=1 :: (a ++ b)∧Kza s 1 a b)∨(∃ a b,ty=2 :: (a ++ b)∧Kza s 2 a b) ∨
  (∃ (g:Nat) (a b:List Int),g < n∧g ≤ 15∧ty=(3 + (g:Int)) :: (a ++ b)∧Kza s (3 + (g:Int)) a b)∨(∃ (g:Nat) (a:List Int),g < n∧g ≤ 15∧ty=(19 + (g:Int)) :: a∧Kzb s (19 + (g:Int)) a):=by
 obtain ⟨T,hT,rfl,hl,hc⟩:=Kz8 h
 cases T with
 | num=>exact .inl rfl
 | bin c a b =>
  have B:=Kwo hT (by omega)
  have hl':=hl
  rw [Ty.code,List.length_cons,List.length_append] at hl'
  rw [Ty.code,List.all_cons,List.all_append,Bool.and_eq_true,Bool.and_eq_true] at hc
  have hP:Kza s c a.code b.code:=⟨Kz9 B.ok.1 (by omega) hc.2.1,Kz9 B.ok.2 (by omega) hc.2.2,B.p0,B.p1,B.pp⟩
  have hk:=hT.1
  rcases Ksl c with ⟨q,e⟩ | ⟨q,e⟩ | ⟨q,e⟩ | ⟨q,e⟩
  ·rw [e] at hk; exact absurd hk (by decide)
  ·rcases q with rfl | rfl | q | rfl
   ·exact .inr (.inl ⟨_,_,rfl,hP⟩)
   ·exact .inr (.inr (.inl ⟨_,_,rfl,hP⟩))
   ·have:=(Kze hs q).1 hc.1
    obtain ⟨g,hg⟩:∃ g:Nat,c=3 + (g:Int):=⟨(c - 3).toNat,by omega⟩
    subst hg
    exact .inr (.inr (.inr (.inl ⟨g,_,_,by omega,by omega,rfl,hP⟩)))
   ·rw [Kzc (s:=s) (.inl rfl)] at hc; exact absurd hc.1 (by decide)
  ·rw [e] at hk; exact absurd hk (by decide)
  ·rw [e] at hk; exact absurd hk (by decide)
 | un c a =>
  have B:=unP hT (by omega)
  have hl':=hl
  rw [Ty.code,List.length_cons] at hl'
  rw [Ty.code,List.all_cons,Bool.and_eq_true] at hc
  have hP:Kzb s c a.code:=⟨Kz9 B.ok (by omega) hc.2,B.p0,B.pp⟩
  have hk:=hT.1
  rcases Ksl c with ⟨q,e⟩ | ⟨q,e⟩ | ⟨q,e⟩ | ⟨q,e⟩
  ·rw [e] at hk; exact absurd hk (by decide)
  ·rw [e] at hk; exact absurd hk (by decide)
  ·rcases q with q | rfl
   ·have:=(Kzf hs q).1 hc.1
    obtain ⟨g,hg⟩:∃ g:Nat,c=19 + (g:Int):=⟨(c - 19).toNat,by omega⟩
    subst hg
    exact .inr (.inr (.inr (.inr ⟨g,_,by omega,by omega,rfl,hP⟩)))
   ·rw [Kzc (s:=s) (.inr rfl)] at hc; exact absurd hc.1 (by decide)
  ·rw [e] at hk; exact absurd hk (by decide)
theorem Kzh {c:Int} {a b:List Int} (ha:TyS s a) (hb:TyS s b) (hc:c=1∨c=2∨∃ g:Nat,g < n∧c=3 + (g:Int)) (hl:(c :: (a ++ b)).length ≤ 40):TyS s (c :: (a ++ b)):=by
 obtain ⟨A,hA,rfl,_,hAc⟩:=Kz8 ha
 obtain ⟨B,hB,rfl,_,hBc⟩:=Kz8 hb
 have hn:=hs.tab.hi
 have hk:Ksh c=2∧Kt3 s.fSize true c=true:=by
  rcases hc with rfl | rfl | ⟨g,hg,rfl⟩
  ·exact ⟨rfl,by unfold Kt3; rw [show Ksh 1=2 from rfl]; simp⟩
  ·exact ⟨rfl,by unfold Kt3; rw [show Ksh 2=2 from rfl]; simp⟩
  ·refine ⟨by rcases Ksl (3 + (g:Int)) with h | h | h | h <;> omega,(Kze hs (by omega)).2 (by omega)⟩
 have:TyS s (Ty.bin c A B).code:=Kz9 ⟨hk.1,hA,hB⟩ hl (by rw [Ty.code,List.all_cons,List.all_append,hk.2,hAc,hBc]; rfl)
 exact this
theorem Kzi {g:Nat} (hg:g < n) {a:List Int} (ha:TyS s a) (hl:((19 + (g:Int)) :: a).length ≤ 40):TyS s ((19 + (g:Int)) :: a):=by
 obtain ⟨A,hA,rfl,_,hAc⟩:=Kz8 ha
 have hn:=hs.tab.hi
 have hk:Ksh (19 + (g:Int))=1:=by rcases Ksl (19 + (g:Int)) with h | h | h | h <;> omega
 have:TyS s (Ty.un (19 + (g:Int)) A).code:=Kz9 ⟨hk,hA⟩ hl (by rw [Ty.code,List.all_cons,(Kzf hs (by omega)).2 (by omega),hAc]; rfl)
 exact this
theorem Kzj {x:Int} (h:gN s.fSize true x=true):∃ g:Nat,x=(g:Int)∧g < n:=by
 unfold gN at h
 rw [hs.tab.size] at h
 simp at h
 exact ⟨x.toNat,by omega,by omega⟩
end
structure Kzk (s:K00) (n:Nat) (k:K01) (m:Nat):Prop where
 ok:tOk (gN s.fSize true) (yN s.fSize true) n k=true
 sz:tsz k + 1 ≤ m
theorem nd1 {s:K00} {n m:Nat} {op N:Int} {ty:List Int} {ks:List K01} (h:tOk (gN s.fSize true) (yN s.fSize true) n ⟨op,N,ty,ks⟩=true) (hm:tsz ⟨op,N,ty,ks⟩ ≤ m) (hk:Kti op=1):∃ a,ks=[a]∧Kzk s (n + Kts op 0) a m:=by
 obtain ⟨h1,h2⟩:=Kud h
 obtain ⟨a,rfl⟩:=Kwz (l:=ks) (beq_iff_eq.2 (by rw [← hk]; exact (Kug h1).2))
 simp only at h2
 rw [Kwx,Bool.and_eq_true] at h2
 rw [Kxc] at hm
 exact ⟨a,rfl,h2.1,by omega⟩
theorem nd2 {s:K00} {n m:Nat} {op N:Int} {ty:List Int} {ks:List K01} (h:tOk (gN s.fSize true) (yN s.fSize true) n ⟨op,N,ty,ks⟩=true) (hm:tsz ⟨op,N,ty,ks⟩ ≤ m) (hk:Kti op=2):∃ a b,ks=[a,b]∧Kzk s (n + Kts op 0) a m∧Kzk s (n + Kts op 1) b m:=by
 obtain ⟨h1,h2⟩:=Kud h
 obtain ⟨a,b,rfl⟩:=Kx0 (l:=ks) (beq_iff_eq.2 (by rw [← hk]; exact (Kug h1).2))
 simp only at h2
 rw [Kwx,Kwx,Bool.and_eq_true,Bool.and_eq_true] at h2
 rw [Kxd] at hm
 exact ⟨a,b,rfl,⟨h2.1,by omega⟩,⟨h2.2.1,by omega⟩⟩
theorem nd3 {s:K00} {n m:Nat} {op N:Int} {ty:List Int} {ks:List K01} (h:tOk (gN s.fSize true) (yN s.fSize true) n ⟨op,N,ty,ks⟩=true) (hm:tsz ⟨op,N,ty,ks⟩ ≤ m) (hk:Kti op=3):∃ a b c,ks=[a,b,c]∧Kzk s (n + Kts op 0) a m∧Kzk s (n + Kts op 1) b m∧Kzk s (n + Kts op 2) c m:=by
 obtain ⟨h1,h2⟩:=Kud h
 obtain ⟨a,b,c,rfl⟩:=Kxf (l:=ks) (by rw [← hk]; exact (Kug h1).2)
 simp only at h2
 rw [Kwx,Kwx,Kwx,Bool.and_eq_true,Bool.and_eq_true,Bool.and_eq_true] at h2
 rw [Kxe] at hm
 exact ⟨a,b,c,rfl,⟨h2.1,by omega⟩,⟨h2.2.1,by omega⟩,⟨h2.2.2.1,by omega⟩⟩
theorem Kzl {s:K00} {n:Nat} {t:K01} (h:tOk (gN s.fSize true) (yN s.fSize true) n t=true) (hg:Ktj t.fOp=true):gN s.fSize true t.fN=true:=by
 have h1:=(Kud h).1
 unfold Kty Ktw at h1
 simp only [Bool.and_eq_true] at h1
 have h2:=h1.1.2
 have hop:(t.fOp == 0)=false∧(t.fOp == 1)=false:=by
  simp only [Ktj,Bool.or_eq_true,beq_iff_eq] at hg
  constructor <;> rw [beq_eq_false_iff_ne] <;> omega
 rw [hop.1,hop.2,hg] at h2
 simpa using h2
theorem Kzm {s:K00} {n:Nat} {t:K01} (h:tOk (gN s.fSize true) (yN s.fSize true) n t=true) (hg:Ktk t.fOp=true):TyS s t.fType:=by
 have h1:=(Kud h).1
 unfold Kty Ktx at h1
 simp only [Bool.and_eq_true] at h1
 have h2:=h1.2
 rw [hg] at h2
 show yN s.fSize true t.fType=true
 simpa using h2
theorem Kzn {s:K00} {n:Nat} {t:K01} (h:tOk (gN s.fSize true) (yN s.fSize true) n t=true) (hg:t.fOp=0):∃ i:Nat,t.fN=(i:Int)∧i < n∧t.fKids=[]:=by
 have h1:=(Kud h).1
 have hl:=(Kug h1).2
 unfold Kty Ktw at h1
 simp only [Bool.and_eq_true] at h1
 have h2:=h1.1.2
 rw [hg] at h2 hl
 simp [inB] at h2
 refine ⟨t.fN.toNat,by omega,by omega,?_⟩
 have:(t.fKids.length:Int)=0:=hl
 exact List.eq_nil_of_length_eq_zero (by omega)
theorem Kzo {s:K00} {n:Nat} {t:K01} (h:tOk (gN s.fSize true) (yN s.fSize true) n t=true) (hg:t.fOp=1):t.fKids=[]:=by
 have h1:=(Kud h).1
 have hl:=(Kug h1).2
 rw [hg] at hl
 have:(t.fKids.length:Int)=0:=hl
 exact List.eq_nil_of_length_eq_zero (by omega)
def Kzp (t:K01) (out:List K04) (w:Nat):Option (List (List Int)) :=
 (if (decide ((w:Int) > 0))=true then some (true) else some ((t.fOp == 9))) >>= fun v =>
 if v=true then
  (if (decide ((w:Int) > 0))=true then (idx out 0) >>= fun e=>some (e.fty) else some ([])) >>= fun first=>(Klx (t,(w:Int),first)) >>= fun r=>some (r)
 else some ([])
def Kzq (p0:K06) (ctx:List (List Int)) (t:K01) (out:List K04) (needs used:List (List Int)) (w:Nat) (more:List (List Int)) (y:K04):Option (((List K04) × (List (List Int)) × (List (List Int))) ⊕ (K04)) :=
 if (y.ffault != 0)=true then
  (Qe6 ([(w:Int)].length + y.fpath.length) 8) >>= fun _=>some (.inr (K04.mk [] [] [] y.ffault ([(w:Int)] ++ y.fpath)))
 else
  (Kmf (p0,t,(w:Int),y.fty)) >>= fun f =>
  if (f != 0)=true then some (.inr (K04.mk [] [] [] f []))
  else
   (if (t.fOp == 10)=true then
    if ((w:Int) == 1)=true then
     (idx out 0) >>= fun e=>(Klu e.fty) >>= fun r=>(idx r 0) >>= fun q=>(Kmm (y.fty,q)) >>= fun b=>some ((!b))
    else some (false)
   else some (false)) >>= fun v =>
   if v=true then some (.inr (K04.mk [] [] [] 3 []))
   else
    (Qe6 (out.length + [y].length) 8) >>= fun _ =>
    (cut y.fneeds none (some (more.length:Int)) none) >>= fun c1 =>
    (Qe6 (used.length + [c1].length) 24) >>= fun _ =>
    (cut y.fneeds (some (more.length:Int)) none none) >>= fun c2 =>
    (Qe6 (needs.length + [c2].length) 24) >>= fun _ =>
    Kp6 (p0,ctx,t,(out ++ [y]),(needs ++ [c2]),(used ++ [c1]),(wr ((w:Int) + 1)))
theorem Kzr {p0:K06} {ctx:List (List Int)} {t:K01} {out:List K04} {needs used:List (List Int)} {w:Nat} {k:K01} {more:List (List Int)} {y:K04} (hw:w < t.fKids.length) (hk:idx t.fKids (w:Int)=some k) (hm:Kzp t out w=some more)
  (hc:ctx.length + more.length ≤ 1000000) (hy:Kp5 (p0,more ++ ctx,k)=some y):Kp6 (p0,ctx,t,out,needs,used,(w:Int))=Kzq p0 ctx t out needs used w more y:=by
 rw [Kp6.eq_def]
 simp only
 rw [Kra hw,if_pos rfl,hk,bs]
 have key:∀ {β:Type} (R:List (List Int)→Option β),((if (decide ((w:Int) > 0))=true then some (true) else some ((t.fOp == 9))) >>= fun v =>
   (if v=true then (if (decide ((w:Int) > 0))=true then (idx out 0) >>= fun e=>some (e.fty) else some ([])) >>= fun first=>(Klx (t,(w:Int),first)) >>= fun r=>some (r) else some ([])) >>= R)=(Kzp t out w >>= R):=fun R=>by
  unfold Kzp
  simp only [Option.bind_eq_bind,Option.bind_assoc]
 refine (key _).trans ?_
 rw [hm,bs,Kyt [more,ctx] (by simp) (by simp; omega),bs]
 simp only [List.flatten_cons,List.flatten_nil,List.append_nil]
 rw [hy,bs]
 rfl
theorem Kzs {p0:K06} {ctx:List (List Int)} {t:K01} {out:List K04} {needs used:List (List Int)} {w:Nat} (hw:t.fKids.length ≤ w):Kp6 (p0,ctx,t,out,needs,used,(w:Int))=some (.inl (out,needs,used)):=by
 rw [Kp6.eq_def]
 simp only
 rw [Krb hw]; rfl
theorem Kzt {α:Type} {l:List α} {m:Nat} (h:m ≤ l.length):cut l none (some (m:Int)) none=some (l.take m):=by
 unfold cut
 simp only [Option.getD_none,Option.getD_some,Int.toNat_natCast,Int.toNat_zero,List.drop_zero]
 rw [if_pos (by omega)]
theorem Kzu {α:Type} {l:List α} {m:Nat} (h:m ≤ l.length):cut l (some (m:Int)) none none=some (l.drop m):=by
 unfold cut
 simp only [Option.getD_none,Option.getD_some,Int.toNat_natCast]
 rw [if_pos (by omega),List.take_length]
def Kzv (t:K01) (out:List K04) (w:Nat) (y:K04):Option Bool :=
 if (t.fOp == 10)=true then
  if ((w:Int) == 1)=true then
   (idx out 0) >>= fun e=>(Klu e.fty) >>= fun r=>(idx r 0) >>= fun q=>(Kmm (y.fty,q)) >>= fun b=>some ((!b))
  else some (false)
 else some (false)
section
variable {p0:K06} {ctx:List (List Int)} {t:K01} {out:List K04} {needs used:List (List Int)} {w:Nat} {more:List (List Int)} {y:K04}
theorem Kzw (h:y.ffault ≠ 0) (hp:y.fpath.length ≤ 1000000):Kzq p0 ctx t out needs used w more y=some (.inr ⟨[],[],[],y.ffault,(w:Int) :: y.fpath⟩):=by
 unfold Kzq
 rw [if_pos (bne_iff_ne.2 h),Kuf (by simp; omega),bs]
 rfl
theorem Kzx {f:Int} (h:y.ffault=0) (hf:Kmf (p0,t,(w:Int),y.fty)=some f) (hf0:f ≠ 0):Kzq p0 ctx t out needs used w more y=some (.inr ⟨[],[],[],f,[]⟩):=by
 unfold Kzq
 rw [if_neg (by simp [h]),hf,bs,if_pos (bne_iff_ne.2 hf0)]
theorem Kzy (h:y.ffault=0) (hf:Kmf (p0,t,(w:Int),y.fty)=some 0) (ha:Kzv t out w y=some true):Kzq p0 ctx t out needs used w more y=some (.inr ⟨[],[],[],3,[]⟩):=by
 unfold Kzq
 rw [if_neg (by simp [h]),hf,bs,if_neg (by simp)]
 refine (congrArg (· >>= _) (show _=some true from ha)).trans ?_
 rw [bs,if_pos rfl]
theorem Kzz {ns:List Nat} (h:y.ffault=0) (hf:Kmf (p0,t,(w:Int),y.fty)=some 0) (ha:Kzv t out w y=some false) (hn:y.fneeds=Kxg ns) (hl:more.length ≤ ns.length)
  (h1:out.length ≤ 1000000) (h2:needs.length ≤ 1000000) (h3:used.length ≤ 1000000) (h4:w ≤ 1000000) :
  Kzq p0 ctx t out needs used w more y=Kp6 (p0,ctx,t,(out ++ [y]),(needs ++ [Kxg (ns.drop more.length)]),(used ++ [Kxg (ns.take more.length)]),((w + 1:Nat):Int)):=by
 unfold Kzq
 rw [if_neg (by simp [h]),hf,bs,if_neg (by simp)]
 refine (congrArg (· >>= _) (show _=some false from ha)).trans ?_
 rw [bs,if_neg (by simp),Kuf (by simp; omega),bs,hn,Kzt (by rw [Kxh]; exact hl),bs,Kuf (by simp; omega),bs,Kzu (by rw [Kxh]; exact hl),bs,Kuf (by simp; omega),bs,Kr9 (by omega),Kxj,Kxi]
theorem V00 {r:K04} (hc:ctx.length ≤ 1000000) (h:Kp6 (p0,ctx,t,[],[],[],((0:Nat):Int))=some (.inr r)):Kp5 (p0,ctx,t)=some r:=by
 rw [Kp5.eq_def]
 simp only
 rw [Kwp (by simp; omega),bs,show (0:Int)=((0:Nat):Int) from rfl,h]
 rfl
theorem V01 {o:List K04} {nd us:List (List Int)} {f:Int} {g:K04} (hc:ctx.length ≤ 1000000) (h:Kp6 (p0,ctx,t,[],[],[],((0:Nat):Int))=some (.inl (o,nd,us)))
  (hf:Kp0 (p0,⟨[],Kxg (List.replicate ctx.length 0),o,0,[]⟩,ctx,t,nd,us)=some (f,g)) (hg:g.fpath=[]:=by rfl):Kp5 (p0,ctx,t)=some (if f=0 then ⟨g.fty,g.fneeds,g.fkids,0,g.fpath⟩ else ⟨[],[],[],f,[]⟩):=by
 have e:Kxg (List.replicate ctx.length 0)=List.replicate (Int.toNat (ctx.length:Int)) (0:Int):=by
  unfold Kxg; rw [List.map_replicate,Int.toNat_natCast]; rfl
 rw [e] at hf
 rw [Kp5.eq_def]
 simp only
 rw [Kwp (by simp; omega),bs,show Kp6 (p0,ctx,t,[],[],[],0)=some (.inl (o,nd,us)) from h,bs]
 simp only
 rw [hf,bs]
 simp only
 by_cases hz:f=0
 ·subst hz; first | (rw [if_neg (by simp),if_pos rfl]; done) | rw [if_neg (by simp),if_pos rfl,hg]
 ·rw [if_pos (bne_iff_ne.2 hz),if_neg hz]
theorem V02 (h:t.fOp ≠ 10):Kzv t out w y=some false:=by
 unfold Kzv
 rw [if_neg (by simpa using h)]
theorem V03 (h:w ≠ 1):Kzv t out w y=some false:=by
 unfold Kzv
 have:((w:Int) == 1)=false:=by rw [beq_eq_false_iff_ne]; omega
 rw [this]
 simp
end
section
variable {s:K00} {n:Nat} (hs:Kxl s n) {N:Int} {ty:List Int} {ks:List K01} {w:Nat} {c:Int} {r:List Int}
theorem V04 {op:Int} (h:(op=4∨op=6∨op=7∨op=9∨op=11)∨(w ≠ 0∧(op=3∨op=5∨op=8∨op=10∨op=12))):Kmf (⟨s⟩,⟨op,N,ty,ks⟩,(w:Int),c :: r)=some 0:=by
 have hw:∀ hw:w ≠ 0,((w:Int) == 0)=false:=fun hw=>by rw [beq_eq_false_iff_ne]; omega
 unfold Kmf
 rcases h with (rfl | rfl | rfl | rfl | rfl) | ⟨h0,(rfl | rfl | rfl | rfl | rfl)⟩
 all_goals first | simp [Kvm,Ksn,hw h0] | (by_cases h0:w=0 <;> simp [Kvm,Ksn,h0])
theorem V05:Kmf (⟨s⟩,⟨2,N,ty,ks⟩,(w:Int),c :: r)=some (if (Ksm c).1=0 then 0 else 2):=by
 unfold Kmf
 by_cases h:(Ksm c).1=0 <;> simp [Kvm,Ksn,h]
theorem V06:Kmf (⟨s⟩,⟨3,N,ty,ks⟩,((0:Nat):Int),c :: r)=some (if (Ksm c).1=0 then 0 else 2):=by
 unfold Kmf
 by_cases h:(Ksm c).1=0 <;> simp [Kvm,Ksn,h]
theorem V07:Kmf (⟨s⟩,⟨10,N,ty,ks⟩,((0:Nat):Int),c :: r)=some (if (Ksm c).1=3 then 0 else 6):=by
 unfold Kmf
 by_cases h:(Ksm c).1=3 <;> simp [Kvm,Ksn,h]
include hs
theorem V08 {g:Nat} (hg:g < n):Kmf (⟨s⟩,⟨5,(g:Int),ty,ks⟩,((0:Nat):Int),c :: r)=some (if (Ksm c).1=1 then (if le s n 1 g then 0 else 8) else 4):=by
 have hl:=iLe hs.tab (Kxn hs) hg
 unfold Kmf
 by_cases h:(Ksm c).1=1 <;> cases hle:le s n 1 g <;> simp [Kvm,Ksn,h,show Kj4 (s,1,(g:Int))=some (le s n 1 g) from hl,hle]
theorem V09 {g:Nat} (hg:g < n):Kmf (⟨s⟩,⟨8,(g:Int),ty,ks⟩,((0:Nat):Int),c :: r)=some (if (Ksm c).1=2 then (if le s n 1 g then 0 else 8) else 5):=by
 have hl:=iLe hs.tab (Kxn hs) hg
 unfold Kmf
 by_cases h:(Ksm c).1=2 <;> cases hle:le s n 1 g <;> simp [Kvm,Ksn,h,show Kj4 (s,1,(g:Int))=some (le s n 1 g) from hl,hle]
theorem V0a {g:Nat} (hg:g < n):Kmf (⟨s⟩,⟨12,(g:Int),ty,ks⟩,((0:Nat):Int),c :: r)=some (if (Ksm c).1=4 then (if le s n 1 g then 0 else 8) else 7):=by
 have hl:=iLe hs.tab (Kxn hs) hg
 unfold Kmf
 by_cases h:(Ksm c).1=4 <;> cases hle:le s n 1 g <;> simp [Kvm,Ksn,h,show Kj4 (s,1,(g:Int))=some (le s n 1 g) from hl,hle]
end
def V0b (ty:List Int) (ns:List Nat) (kids:List K04):Int × K04:=(if ty.length > 40 then 3 else 0,⟨ty,Kxg ns,kids,0,[]⟩)
theorem V0c {α:Type} (x:α) (l:List α):idx (x :: l) 0=some x:=rfl
theorem V0d {α:Type} (x y:α) (l:List α):idx (x :: y :: l) 1=some y:=rfl
theorem V0e {α:Type} (x y z:α) (l:List α):idx (x :: y :: z :: l) 2=some z:=rfl
section
variable {s:K00} {n:Nat} (hs:Kxl s n) {N:Int} {ty:List Int} {ks:List K01} {ctx us:List (List Int)} {z:List Int} {y0 y1 y2:K04} {a b d:List Nat}
theorem V0f {i:Nat} {q:List Int} {zs:List Nat} (hi:ctx[i]?=some q) (hz:i < zs.length) (hq:q.length ≤ 40):Kp0 (⟨s⟩,⟨[],Kxg zs,[],0,[]⟩,ctx,⟨0,(i:Int),ty,ks⟩,[],[])=some (V0b q (zs.set i 1) []):=by
 obtain ⟨h1,h2⟩:=List.getElem?_eq_some_iff.1 hi
 have e1:idx ctx (i:Int)=some q:=by rw [Kr8 h1,h2]
 have e2:idx (Kxg zs) (i:Int)=some ((zs[i]:Nat):Int):=by rw [Kr8 (by rw [Kxh]; exact hz)]; simp [Kxg]
 have e3:List.set (Kxg zs) i 1=Kxg (zs.set i 1):=by unfold Kxg; rw [List.map_set]; rfl
 have h40:¬ ((q.length:Int) > 40):=by omega
 unfold Kp0 Kog V0b
 simp [e1,e2,e3,Kui q (by omega),show ¬ (40 < (q.length:Int)) by omega,show ¬ (40 < q.length) by omega]
theorem V0g {zs:List Nat}:Kp0 (⟨s⟩,⟨[],Kxg zs,[],0,[]⟩,ctx,⟨1,N,ty,ks⟩,[],[])=some (V0b [0] zs []):=by
 unfold Kp0 Kog V0b
 simp
theorem V0h (hy:y0.fty.length ≤ 1000) (ht:ty.length ≤ 1000):Kp0 (⟨s⟩,⟨[],z,[y0],0,[]⟩,ctx,⟨6,N,ty,ks⟩,[Kxg a],us)=some (V0b (2 :: (y0.fty ++ ty)) a [y0]):=by
 have hc:=Kyp [[2],y0.fty,ty] (by simp) (by simp; omega)
 unfold Kp0 Kog V0b Kn2
 simp only [List.flatten_cons,List.flatten_nil,List.append_nil,List.singleton_append,List.cons_append,List.nil_append] at hc
 simp [V0c,V0d,hc]
 split <;> rename_i q40
 ·rw [if_pos (by omega)]
 ·rw [if_neg (by omega)]
theorem V0i (hy:y0.fty.length ≤ 1000) (ht:ty.length ≤ 1000):Kp0 (⟨s⟩,⟨[],z,[y0],0,[]⟩,ctx,⟨7,N,ty,ks⟩,[Kxg a],us)=some (V0b (2 :: (ty ++ y0.fty)) a [y0]):=by
 have hc:=Kyp [[2],ty,y0.fty] (by simp) (by simp; omega)
 unfold Kp0 Kog V0b Kn2
 simp only [List.flatten_cons,List.flatten_nil,List.append_nil,List.singleton_append,List.cons_append,List.nil_append] at hc
 simp [V0c,V0d,hc]
 split <;> rename_i q40
 ·rw [if_pos (by omega)]
 ·rw [if_neg (by omega)]
include hs
theorem V0j (ha:Kxw n a) (hb:Kxw n b) (hl:a.length ≤ 1000000) (hab:a.length=b.length):Kp0 (⟨s⟩,⟨[],z,[y0,y1],0,[]⟩,ctx,⟨2,N,ty,ks⟩,[Kxg a,Kxg b],us)=some (V0b [0] (Kxt s n a b) [y0,y1]):=by
 have h:=Kyb hs a b ha hb (by omega) hab
 unfold Kp0 Kog V0b
 simp [V0c,V0d,h]
theorem V0k (ha:Kxw n a) (hb:Kxw n b) (hd:Kxw n d) (hl:a.length ≤ 1000000) (hab:a.length=b.length) (had:a.length=d.length) (h2:y2.fty.length ≤ 1000) (h1:y1.fty.length ≤ 40) :
  Kp0 (⟨s⟩,⟨[],z,[y0,y1,y2],0,[]⟩,ctx,⟨3,N,ty,ks⟩,[Kxg a,Kxg b,Kxg d],us)=some (if y1.fty=y2.fty then V0b y1.fty (Kxt s n a (Kxv s n b d)) [y0,y1,y2] else (3,⟨[],z,[y0,y1,y2],0,[]⟩)):=by
 have hj:=Kyd hs b d hb hd (by omega) (by omega)
 have hlj:(Kxv s n b d).length=a.length:=by unfold Kxv; rw [List.length_zipWith]; omega
 have h:=Kyb hs a (Kxv s n b d) ha (Ky1 hs hb hd) (by omega) hlj.symm
 have he:=Kwu y1.fty y2.fty (by omega)
 unfold Kp0 Kog V0b Kn2
 by_cases hq:y1.fty=y2.fty
 ·rw [show (y1.fty == y2.fty)=true from beq_iff_eq.2 hq] at he
  rw [if_pos hq]
  simp [V0c,V0d,V0e,he,hj,h,show ¬ (40 < (y1.fty.length:Int)) by omega,show ¬ (40 < y1.fty.length) by omega]
 ·rw [show (y1.fty == y2.fty)=false from beq_eq_false_iff_ne.2 hq] at he
  rw [if_neg hq]
  simp [V0c,V0d,V0e,he]
theorem V0l (ha:Kxw n a) (hb:Kxw n b) (hl:a.length ≤ 1000000) (hab:a.length=b.length) (h0:y0.fty.length ≤ 1000) (h1:y1.fty.length ≤ 1000) :
  Kp0 (⟨s⟩,⟨[],z,[y0,y1],0,[]⟩,ctx,⟨4,N,ty,ks⟩,[Kxg a,Kxg b],us)=some (V0b (1 :: (y0.fty ++ y1.fty)) (Kxt s n a b) [y0,y1]):=by
 have h:=Kyb hs a b ha hb (by omega) hab
 have hc:=Kyp [[1],y0.fty,y1.fty] (by simp) (by simp; omega)
 unfold Kp0 Kog V0b Kn2
 simp only [List.flatten_cons,List.flatten_nil,List.append_nil,List.singleton_append,List.cons_append,List.nil_append] at hc
 simp [V0c,V0d,hc,h]
 split <;> rename_i q40
 ·rw [if_pos (by omega)]
 ·rw [if_neg (by omega)]
theorem V0m {g:Nat} (hg:g < n) {u:List Nat} (hu:Kxw n u) (hul:u.length ≤ 1000000) (hy:y0.fty.length ≤ 1000) (ht:ty.length ≤ 1000) :
  Kp0 (⟨s⟩,⟨[],z,[y0],0,[]⟩,ctx,⟨9,(g:Int),ty,ks⟩,[Kxg a],[Kxg u])=some (if (u.all fun x=>le s n x g)=true then V0b ((3 + (g:Int)) :: (ty ++ y0.fty)) a [y0] else (9,⟨[],z,[y0],0,[]⟩)):=by
 have hn:=hs.tab.hi
 have e:=Kyh hs g hg u hu (by omega)
 have hw:wr (3 + (g:Int))=3 + (g:Int):=Kr7 (by omega) (by omega)
 have hc:=Kyp [[3 + (g:Int)],ty,y0.fty] (by simp) (by simp; omega)
 unfold Kp0 Kog V0b Kn2
 simp only [List.flatten_cons,List.flatten_nil,List.append_nil,List.singleton_append,List.cons_append,List.nil_append] at hc
 cases hq:(u.all fun x=>le s n x g) with
 | true =>
  rw [hq] at e
  simp [V0c,V0d,e,hc,hw]
  split <;> rename_i q40
  ·rw [if_pos (by omega)]
  ·rw [if_neg (by omega)]
 | false =>
  rw [hq] at e
  simp [V0c,V0d,e]
theorem V0n {g:Nat} (hg:g < n) (ha:Kxw n a) (hl:a.length ≤ 1000000) (hy:y0.fty.length ≤ 1000) :
  Kp0 (⟨s⟩,⟨[],z,[y0],0,[]⟩,ctx,⟨11,(g:Int),ty,ks⟩,[Kxg a],us)=some (V0b ((19 + (g:Int)) :: y0.fty) (Kxu s n g a) [y0]):=by
 have hn:=hs.tab.hi
 have e:=Kyf hs g hg a ha (by omega)
 have hw:wr (19 + (g:Int))=19 + (g:Int):=Kr7 (by omega) (by omega)
 have hc:=Kyp [[19 + (g:Int)],y0.fty] (by simp) (by simp; omega)
 unfold Kp0 Kog V0b Kn2
 simp only [List.flatten_cons,List.flatten_nil,List.append_nil,List.singleton_append,List.cons_append,List.nil_append] at hc
 simp [V0c,V0d,hc,hw,e]
 split <;> rename_i q40
 ·rw [if_pos (by omega)]
 ·rw [if_neg (by omega)]
theorem V0o {g:Nat} (hg:g < n) {p q:List Int} (hty:y0.fty=(3 + (g:Int)) :: (p ++ q)) (hP:Kza s (3 + (g:Int)) p q) (ha:Kxw n a) (hb:Kxw n b) (hl:a.length ≤ 1000000) (hab:a.length=b.length) :
  Kp0 (⟨s⟩,⟨[],z,[y0,y1],0,[]⟩,ctx,⟨10,N,ty,ks⟩,[Kxg a,Kxg b],us)=some (V0b q (Kxt s n a (Kxu s n g b)) [y0,y1]):=by
 have hn:=hs.tab.hi
 have e:=Kyf hs g hg b hb (by omega)
 have hlj:(Kxu s n g b).length=a.length:=by unfold Kxu; rw [List.length_map]; omega
 have h:=Kyb hs a (Kxu s n g b) ha (Ky0 hs hg hb) (by omega) hlj.symm
 have hsh:Ksm (3 + (g:Int))=(3,(g:Int)):=by
  rcases Kso (3 + (g:Int)) with h | h | h | h | h | h | h | h <;> first | omega | (obtain ⟨_,e⟩:=h; rw [e]; congr 1; omega)
 have hq:=Kz7 hP.yb
 have pp:=hP.pp
 rw [← hty] at pp
 have i0:idx y0.fty 0=some (3 + (g:Int)):=by rw [hty]; rfl
 unfold Kp0 Kog V0b Kn2
 simp [V0c,V0d,i0,Ksn,hsh,pp,e,h,show ¬ (40 < (q.length:Int)) by omega,show ¬ (40 < q.length) by omega]
theorem V0p {g:Nat} (hg:g < n) {u:List Nat} {us':List Int} (hu:Kxw n u) (hul:u.length ≤ 1000000) (ha:Kxw n a) (hb:Kxw n b) (hl:a.length ≤ 1000000) (hab:a.length=b.length) (h1:y1.fty.length ≤ 40) :
  Kp0 (⟨s⟩,⟨[],z,[y0,y1],0,[]⟩,ctx,⟨5,(g:Int),ty,ks⟩,[Kxg a,Kxg b],[us',Kxg u])=some (if (u.all fun x=>le s n x g)=true then V0b y1.fty (Kxt s n (Kxu s n g a) b) [y0,y1] else (9,⟨[],z,[y0,y1],0,[]⟩)):=by
 have e:=Kyh hs g hg u hu (by omega)
 have e2:=Kyf hs g hg a ha (by omega)
 have hlj:(Kxu s n g a).length=a.length:=by unfold Kxu; rw [List.length_map]
 have h:=Kyb hs (Kxu s n g a) b (Ky0 hs hg ha) hb (by omega) (by omega)
 unfold Kp0 Kog V0b Kn2
 cases hq:(u.all fun x=>le s n x g) with
 | true =>
  rw [hq] at e
  simp [V0c,V0d,e,e2,h,show ¬ (40 < (y1.fty.length:Int)) by omega,show ¬ (40 < y1.fty.length) by omega]
 | false =>
  rw [hq] at e
  simp [V0c,V0d,e]
theorem V0q {g m:Nat} (hg:g < n) (hm:m < n) {p:List Int} (hty:y0.fty=(19 + (m:Int)) :: p) {u:List Nat} {us':List Int} (hu:Kxw n u) (hul:u.length ≤ 1000000) (ha:Kxw n a) (hb:Kxw n b) (hl:a.length ≤ 1000000) (hab:a.length=b.length) (h1:y1.fty.length ≤ 40) :
  Kp0 (⟨s⟩,⟨[],z,[y0,y1],0,[]⟩,ctx,⟨12,(g:Int),ty,ks⟩,[Kxg a,Kxg b],[us',Kxg u])=some (if (u.all fun x=>le s n x (ti s n g m))=true then V0b y1.fty (Kxt s n (Kxu s n g a) b) [y0,y1] else (9,⟨[],z,[y0,y1],0,[]⟩)):=by
 have hn:=hs.tab.hi
 have e0:=Krn hs.tab hg hm
 have e:=Kyh hs (ti s n g m) (Krg hs.tab hg hm) u hu (by omega)
 have e2:=Kyf hs g hg a ha (by omega)
 have hlj:(Kxu s n g a).length=a.length:=by unfold Kxu; rw [List.length_map]
 have h:=Kyb hs (Kxu s n g a) b (Ky0 hs hg ha) hb (by omega) (by omega)
 have hsh:Ksm (19 + (m:Int))=(4,(m:Int)):=by
  rcases Kso (19 + (m:Int)) with h | h | h | h | h | h | h | h <;> first | omega | (obtain ⟨_,e⟩:=h; rw [e]; congr 1; omega)
 have i0:idx y0.fty 0=some (19 + (m:Int)):=by rw [hty]; rfl
 unfold Kp0 Kog V0b Kn2
 cases hq:(u.all fun x=>le s n x (ti s n g m)) with
 | true =>
  rw [hq] at e
  simp [V0c,V0d,i0,Ksn,hsh,e0,e,e2,h,show ¬ (40 < (y1.fty.length:Int)) by omega,show ¬ (40 < y1.fty.length) by omega]
 | false =>
  rw [hq] at e
  simp [V0c,V0d,i0,Ksn,hsh,e0,e]
theorem V0r {g:Nat} (hg:g < n) {u v:List Nat} {us':List Int} (hu:Kxw n u) (hul:u.length ≤ 1000000) (hv:Kxw n v) (hvl:v.length ≤ 1000000) (ha:Kxw n a) (hb:Kxw n b) (hd:Kxw n d) (hl:a.length ≤ 1000000) (hab:a.length=b.length) (had:a.length=d.length) (h2:y2.fty.length ≤ 1000) (h1:y1.fty.length ≤ 40) :
  Kp0 (⟨s⟩,⟨[],z,[y0,y1,y2],0,[]⟩,ctx,⟨8,(g:Int),ty,ks⟩,[Kxg a,Kxg b,Kxg d],[us',Kxg u,Kxg v]) =
   some (if y1.fty=y2.fty then (if (u.all fun x=>le s n x g)=true∧(v.all fun x=>le s n x g)=true then V0b y1.fty (Kxt s n (Kxu s n g a) (Kxv s n b d)) [y0,y1,y2] else (9,⟨[],z,[y0,y1,y2],0,[]⟩)) else (3,⟨[],z,[y0,y1,y2],0,[]⟩)):=by
 have e:=Kyh hs g hg u hu (by omega)
 have e':=Kyh hs g hg v hv (by omega)
 have e2:=Kyf hs g hg a ha (by omega)
 have hj:=Kyd hs b d hb hd (by omega) (by omega)
 have hlj:(Kxv s n b d).length=a.length:=by unfold Kxv; rw [List.length_zipWith]; omega
 have hls:(Kxu s n g a).length=a.length:=by unfold Kxu; rw [List.length_map]
 have h:=Kyb hs (Kxu s n g a) (Kxv s n b d) (Ky0 hs hg ha) (Ky1 hs hb hd) (by omega) (by omega)
 have he:=Kwu y1.fty y2.fty (by omega)
 unfold Kp0 Kog V0b Kn2
 by_cases hq:y1.fty=y2.fty
 ·rw [show (y1.fty == y2.fty)=true from beq_iff_eq.2 hq] at he
  rw [if_pos hq]
  cases hu':(u.all fun x=>le s n x g) with
  | false =>
   rw [hu'] at e
   simp [V0c,V0d,V0e,he,e]
  | true =>
   rw [hu'] at e
   cases hv':(v.all fun x=>le s n x g) with
   | false =>
    rw [hv'] at e'
    simp [V0c,V0d,V0e,he,e,e']
   | true =>
    rw [hv'] at e'
    simp [V0c,V0d,V0e,he,e,e',e2,hj,h,show ¬ (40 < (y1.fty.length:Int)) by omega,show ¬ (40 < y1.fty.length) by omega]
 ·rw [show (y1.fty == y2.fty)=false from beq_eq_false_iff_ne.2 hq] at he
  rw [if_neg hq]
  simp [V0c,V0d,V0e,he]
end
def V0s (t:K01) (i:Nat) (kids:List K04):List (List Int):=(Klx (t,(i:Int),(match kids with | []=>[] | y :: _=>y.fty))).getD []
structure V0t (s:K00) (ctx:List (List Int)) (t:K01) (kids:List K04) (i:Nat) (k:K01) (y:K04):Prop where
 im:Kp5 (⟨s⟩,V0s t i kids ++ ctx,k)=some y
 fa:y.ffault=0
 ty:∀ q ∈ V0s t i kids,TyS s q
 ln:(V0s t i kids).length=Kts t.fOp i
structure V0u (s:K00) (n:Nat) (ctx:List (List Int)) (t:K01) (x:K03) (y:K04):Prop where
 sp:Kfw (s,ctx,t)=some x
 im:Kp5 (⟨s⟩,ctx,t)=some y
 ty:y.fty=x.fty
 ne:y.fneeds=x.fneeds
 fa:y.ffault=x.ffault
 pa:y.fpath=x.fpath
 pl:x.fpath.length + 1 ≤ tsz t
 bd:x.ffault ≠ 0→x.fty=[]∧x.fneeds=[]
 gd:x.ffault=0→TyS s x.fty∧x.fpath=[]∧∃ ns:List Nat,x.fneeds=Kxg ns∧ns.length=ctx.length∧Kxw n ns
 kd:x.ffault=0→y.fkids.length=t.fKids.length∧∀ (i:Nat) (k:K01),t.fKids[i]?=some k→∃ yk,y.fkids[i]?=some yk∧V0t s ctx t y.fkids i k yk
section
variable {s:K00} {n:Nat} {ctx:List (List Int)} {t:K01}
theorem V0u.bad {f:Int} {p:List Int} (sp:Kfw (s,ctx,t)=some ⟨[],[],f,p⟩) (im:Kp5 (⟨s⟩,ctx,t)=some ⟨[],[],[],f,p⟩) (hf:f ≠ 0) (hp:p.length + 1 ≤ tsz t):∃ x y,V0u s n ctx t x y :=
 ⟨_,_,{ sp:=sp,im:=im,ty:=rfl,ne:=rfl,fa:=rfl,pa:=rfl,pl:=hp,bd:=fun _=>⟨rfl,rfl⟩,gd:=fun h=>absurd h hf,kd:=fun h=>absurd h hf }⟩
theorem V0u.good {q:List Int} {ns:List Nat} {kids:List K04} (sp:Kfw (s,ctx,t)=some ⟨q,Kxg ns,0,[]⟩) (im:Kp5 (⟨s⟩,ctx,t)=some ⟨q,Kxg ns,kids,0,[]⟩) (hp:1 ≤ tsz t) (hq:TyS s q) (hl:ns.length=ctx.length) (hb:Kxw n ns)
  (kl:kids.length=t.fKids.length) (kd:∀ (i:Nat) (k:K01),t.fKids[i]?=some k→∃ yk,kids[i]?=some yk∧V0t s ctx t kids i k yk):∃ x y,V0u s n ctx t x y :=
 ⟨_,_,{ sp:=sp,im:=im,ty:=rfl,ne:=rfl,fa:=rfl,pa:=rfl,pl:=by simpa using hp,bd:=fun h=>absurd rfl h,gd:=fun _=>⟨hq,rfl,ns,rfl,hl,hb⟩,kd:=fun _=>⟨kl,kd⟩ }⟩
theorem V0u.done {q:List Int} {ns:List Nat} {kids:List K04} (sp:Kfw (s,ctx,t)=Kfg (q,Kxg ns)) (im:Kp5 (⟨s⟩,ctx,t)=some (if (V0b q ns kids).1=0 then ⟨(V0b q ns kids).2.fty,(V0b q ns kids).2.fneeds,(V0b q ns kids).2.fkids,0,(V0b q ns kids).2.fpath⟩ else ⟨[],[],[],(V0b q ns kids).1,[]⟩)) (hp:1 ≤ tsz t)
  (hq:q.length ≤ 40→TyS s q) (hl:ns.length=ctx.length) (hb:Kxw n ns) (kl:kids.length=t.fKids.length) (kd:∀ (i:Nat) (k:K01),t.fKids[i]?=some k→∃ yk,kids[i]?=some yk∧V0t s ctx t kids i k yk):∃ x y,V0u s n ctx t x y:=by
 unfold Kfg Kf6 at sp
 simp only at sp
 unfold V0b at im
 by_cases h:q.length > 40
 ·rw [decide_eq_true (by omega),if_pos rfl,bs] at sp
  rw [if_pos h,if_neg (by simp)] at im
  exact V0u.bad sp im (by decide) (by simpa using hp)
 ·rw [decide_eq_false (by omega),if_neg (by decide)] at sp
  rw [if_neg h,if_pos rfl] at im
  exact V0u.good sp im hp (hq (by omega)) hl hb kl kd
theorem V0v {i:Nat} {k:K01} {x:K03} {y:K04} {c:List (List Int)} (hk:t.fKids[i]?=some k) (h:V0u s n c k x y) (hf:x.ffault=0):Kfy (s,c,t,(i:Int))=some x:=by
 obtain ⟨h1,h2⟩:=List.getElem?_eq_some_iff.1 hk
 rw [Kfy.eq_def]
 simp only
 rw [Kr8 h1,h2,bs,h.sp,bs,if_neg (by simp [hf]),bs]
theorem V0w {i:Nat} {k:K01} {x:K03} {y:K04} {c:List (List Int)} (hk:t.fKids[i]?=some k) (h:V0u s n c k x y) (hz:tsz k ≤ 1000000) (hf:x.ffault ≠ 0):Kfy (s,c,t,(i:Int))=some ⟨[],[],x.ffault,(i:Int) :: x.fpath⟩:=by
 obtain ⟨h1,h2⟩:=List.getElem?_eq_some_iff.1 hk
 have hp:=h.pl
 obtain ⟨q1,q2⟩:=h.bd hf
 rw [Kfy.eq_def]
 simp only
 rw [Kr8 h1,h2,bs,h.sp,bs,if_pos (bne_iff_ne.2 hf),Kuf (by simp; omega),bs,bs,q1,q2]
 rfl
variable {out:List K04} {nd us:List (List Int)} {w:Nat} {k:K01} {m:List (List Int)} {x:K03} {y:K04}
theorem V0x (hk:t.fKids[w]?=some k) (hm:Kzp t out w=some m) (r:V0u s n (m ++ ctx) k x y) (hz:tsz k ≤ 1000000) (hc:ctx.length + m.length ≤ 1000000) (hf:x.ffault ≠ 0) :
  Kp6 (⟨s⟩,ctx,t,out,nd,us,(w:Int))=some (.inr ⟨[],[],[],x.ffault,(w:Int) :: x.fpath⟩):=by
 obtain ⟨h1,h2⟩:=List.getElem?_eq_some_iff.1 hk
 have hp:=r.pl
 rw [Kzr h1 (by rw [Kr8 h1,h2]) hm hc r.im,Kzw (by rw [r.fa]; exact hf) (by rw [r.pa]; omega),r.fa,r.pa]
theorem V0y {f:Int} (hk:t.fKids[w]?=some k) (hm:Kzp t out w=some m) (r:V0u s n (m ++ ctx) k x y) (hc:ctx.length + m.length ≤ 1000000) (hf:x.ffault=0) (h:Kmf (⟨s⟩,t,(w:Int),x.fty)=some f) (hf0:f ≠ 0) :
  Kp6 (⟨s⟩,ctx,t,out,nd,us,(w:Int))=some (.inr ⟨[],[],[],f,[]⟩):=by
 obtain ⟨h1,h2⟩:=List.getElem?_eq_some_iff.1 hk
 rw [Kzr h1 (by rw [Kr8 h1,h2]) hm hc r.im,Kzx (by rw [r.fa]; exact hf) (by rw [r.ty]; exact h) hf0]
theorem V0z (hk:t.fKids[w]?=some k) (hm:Kzp t out w=some m) (r:V0u s n (m ++ ctx) k x y) (hc:ctx.length + m.length ≤ 1000000) (hf:x.ffault=0) (h:Kmf (⟨s⟩,t,(w:Int),x.fty)=some 0) (ha:Kzv t out w y=some true) :
  Kp6 (⟨s⟩,ctx,t,out,nd,us,(w:Int))=some (.inr ⟨[],[],[],3,[]⟩):=by
 obtain ⟨h1,h2⟩:=List.getElem?_eq_some_iff.1 hk
 rw [Kzr h1 (by rw [Kr8 h1,h2]) hm hc r.im,Kzy (by rw [r.fa]; exact hf) (by rw [r.ty]; exact h) ha]
theorem V10 {ns:List Nat} (hk:t.fKids[w]?=some k) (hm:Kzp t out w=some m) (r:V0u s n (m ++ ctx) k x y) (hc:ctx.length + m.length ≤ 1000000) (hf:x.ffault=0) (h:Kmf (⟨s⟩,t,(w:Int),x.fty)=some 0) (ha:Kzv t out w y=some false)
  (hn:x.fneeds=Kxg ns) (hl:m.length ≤ ns.length) (h1':out.length ≤ 1000000) (h2':nd.length ≤ 1000000) (h3':us.length ≤ 1000000) (h4':w ≤ 1000000) :
  Kp6 (⟨s⟩,ctx,t,out,nd,us,(w:Int))=Kp6 (⟨s⟩,ctx,t,(out ++ [y]),(nd ++ [Kxg (ns.drop m.length)]),(us ++ [Kxg (ns.take m.length)]),((w + 1:Nat):Int)):=by
 obtain ⟨h1,h2⟩:=List.getElem?_eq_some_iff.1 hk
 rw [Kzr h1 (by rw [Kr8 h1,h2]) hm hc r.im,Kzz (by rw [r.fa]; exact hf) (by rw [r.ty]; exact h) ha (by rw [r.ne]; exact hn) hl h1' h2' h3' h4']
end
theorem V11 {op N:Int} {ty:List Int} {ks:List K01} {i:Nat} {q:List Int} (h9:op ≠ 9) (h:Kts op (i:Int)=0):Klx (⟨op,N,ty,ks⟩,(i:Int),q)=some []:=by
 unfold Klx
 simp only
 rw [if_neg (by simpa using h9),Ktv,bs,h]
 rfl
theorem V12 {N:Int} {ty:List Int} {ks:List K01} {i:Nat} {q:List Int}:Klx (⟨9,N,ty,ks⟩,(i:Int),q)=some [ty]:=by
 unfold Klx
 simp only
 rw [if_pos (by decide)]
theorem V13 {s:K00} {N:Int} {ty:List Int} {ks:List K01} {p q:List Int} (h:Kza s 1 p q):Klx (⟨5,N,ty,ks⟩,((1:Nat):Int),1 :: (p ++ q))=some [q,p]:=by
 unfold Klx
 simp only
 rw [if_neg (by decide),Ktv,bs,show Kts 5 ((1:Nat):Int)=2 from rfl,if_neg (by decide),h.pp,bs,if_pos (by decide)]
 rfl
theorem V14 {s:K00} {N:Int} {ty:List Int} {ks:List K01} {p q:List Int} (h:Kza s 2 p q):Klx (⟨8,N,ty,ks⟩,((1:Nat):Int),2 :: (p ++ q))=some [p]:=by
 unfold Klx
 simp only
 rw [if_neg (by decide),Ktv,bs,show Kts 8 ((1:Nat):Int)=1 from rfl,if_neg (by decide),h.pp,bs,if_neg (by decide),if_pos (by decide)]
 rfl
theorem V15 {s:K00} {N:Int} {ty:List Int} {ks:List K01} {p q:List Int} (h:Kza s 2 p q):Klx (⟨8,N,ty,ks⟩,((2:Nat):Int),2 :: (p ++ q))=some [q]:=by
 unfold Klx
 simp only
 rw [if_neg (by decide),Ktv,bs,show Kts 8 ((2:Nat):Int)=1 from rfl,if_neg (by decide),h.pp,bs,if_neg (by decide),if_pos (by decide)]
 rfl
theorem V16 {s:K00} {N c:Int} {ty:List Int} {ks:List K01} {p:List Int} (h:Kzb s c p):Klx (⟨12,N,ty,ks⟩,((1:Nat):Int),c :: p)=some [p]:=by
 unfold Klx
 simp only
 rw [if_neg (by decide),Ktv,bs,show Kts 12 ((1:Nat):Int)=1 from rfl,if_neg (by decide),h.pp,bs,if_neg (by decide),if_neg (by decide)]
theorem V17 {op N:Int} {ty:List Int} {ks:List K01} (h9:op ≠ 9):Kzp ⟨op,N,ty,ks⟩ [] 0=some []:=by
 unfold Kzp
 simp [h9]
theorem V18 {N:Int} {ty:List Int} {ks:List K01}:Kzp ⟨9,N,ty,ks⟩ [] 0=some [ty]:=by
 unfold Kzp
 have:=@V12 N ty ks 0 []
 simp at this ⊢
 rw [this]
theorem V19 {t:K01} {w:Nat} {y0:K04} {l:List K04} {m:List (List Int)} (hw:0 < w) (h:Klx (t,(w:Int),y0.fty)=some m):Kzp t (y0 :: l) w=some m:=by
 unfold Kzp
 rw [show decide ((w:Int) > 0)=true from decide_eq_true (by omega),if_pos rfl,bs,if_pos rfl,if_pos rfl,V0c,bs,bs,h,bs]
theorem V1a {t:K01} {i:Nat} {y0:K04} {l:List K04} {m:List (List Int)} (h:Klx (t,(i:Int),y0.fty)=some m):V0s t i (y0 :: l)=m:=by
 unfold V0s
 simp only
 rw [h]; rfl
theorem kd1 {s:K00} {ctx:List (List Int)} {op N:Int} {ty:List Int} {k0:K01} {y0:K04} (h0:V0t s ctx ⟨op,N,ty,[k0]⟩ [y0] 0 k0 y0) :
  ∀ (i:Nat) (k:K01),(⟨op,N,ty,[k0]⟩:K01).fKids[i]?=some k→∃ yk,[y0][i]?=some yk∧V0t s ctx ⟨op,N,ty,[k0]⟩ [y0] i k yk:=by
 intro i k hk
 match i,hk with
 | 0,hk=>cases hk; exact ⟨y0,rfl,h0⟩
 | i + 1,hk=>simp at hk
theorem kd2 {s:K00} {ctx:List (List Int)} {op N:Int} {ty:List Int} {k0 k1:K01} {y0 y1:K04} (h0:V0t s ctx ⟨op,N,ty,[k0,k1]⟩ [y0,y1] 0 k0 y0) (h1:V0t s ctx ⟨op,N,ty,[k0,k1]⟩ [y0,y1] 1 k1 y1) :
  ∀ (i:Nat) (k:K01),(⟨op,N,ty,[k0,k1]⟩:K01).fKids[i]?=some k→∃ yk,[y0,y1][i]?=some yk∧V0t s ctx ⟨op,N,ty,[k0,k1]⟩ [y0,y1] i k yk:=by
 intro i k hk
 match i,hk with
 | 0,hk=>cases hk; exact ⟨y0,rfl,h0⟩
 | 1,hk=>cases hk; exact ⟨y1,rfl,h1⟩
 | i + 2,hk=>simp at hk
theorem kd3 {s:K00} {ctx:List (List Int)} {op N:Int} {ty:List Int} {k0 k1 k2:K01} {y0 y1 y2:K04} (h0:V0t s ctx ⟨op,N,ty,[k0,k1,k2]⟩ [y0,y1,y2] 0 k0 y0) (h1:V0t s ctx ⟨op,N,ty,[k0,k1,k2]⟩ [y0,y1,y2] 1 k1 y1) (h2:V0t s ctx ⟨op,N,ty,[k0,k1,k2]⟩ [y0,y1,y2] 2 k2 y2) :
  ∀ (i:Nat) (k:K01),(⟨op,N,ty,[k0,k1,k2]⟩:K01).fKids[i]?=some k→∃ yk,[y0,y1,y2][i]?=some yk∧V0t s ctx ⟨op,N,ty,[k0,k1,k2]⟩ [y0,y1,y2] i k yk:=by
 intro i k hk
 match i,hk with
 | 0,hk=>cases hk; exact ⟨y0,rfl,h0⟩
 | 1,hk=>cases hk; exact ⟨y1,rfl,h1⟩
 | 2,hk=>cases hk; exact ⟨y2,rfl,h2⟩
 | i + 3,hk=>simp at hk
theorem V0t.mk' {s:K00} {n:Nat} {ctx m:List (List Int)} {t k:K01} {y0:K04} {l:List K04} {i:Nat} {x:K03} {y:K04} (ha:Klx (t,(i:Int),y0.fty)=some m) (r:V0u s n (m ++ ctx) k x y) (hf:x.ffault=0) (hm:∀ q ∈ m,TyS s q) (hl:m.length=Kts t.fOp i):V0t s ctx t (y0 :: l) i k y:=by
 have e:=V1a (l:=l) ha
 exact ⟨by rw [e]; exact r.im,by rw [r.fa]; exact hf,by rw [e]; exact hm,by rw [e]; exact hl⟩
def V1b (s:K00) (n sz:Nat):Prop:=∀ (k:K01) (c:List (List Int)),Kzk s c.length k sz→(∀ q ∈ c,TyS s q)→c.length + 2 * tsz k ≤ 1000000→∃ x y,V0u s n c k x y
theorem V1c {X:Option K04} {q:List Int} {ns:List Nat} {kids:List K04} (h:q.length ≤ 40) (im:X=some (if (V0b q ns kids).1=0 then (⟨(V0b q ns kids).2.fty,(V0b q ns kids).2.fneeds,(V0b q ns kids).2.fkids,0,(V0b q ns kids).2.fpath⟩:K04) else ⟨[],[],[],(V0b q ns kids).1,[]⟩)):X=some ⟨q,Kxg ns,kids,0,[]⟩:=by
 rw [im]
 unfold V0b
 simp only
 rw [show (if q.length > 40 then (3:Int) else 0)=0 from if_neg (by omega),if_pos rfl]
section
variable {s:K00} {n:Nat} (hs:Kxl s n) {ctx:List (List Int)} {N:Int} {ty:List Int} {ks:List K01}
theorem V1d {op:Int} {k0:K01} {l:List K01} {x0:K03} {y0:K04} (h0:op ≠ 0) (h1:op ≠ 1) (h9:op ≠ 9) (hb:ctx.length + 2 * tsz (⟨op,N,ty,k0 :: l⟩:K01) ≤ 1000000) (r0:V0u s n ctx k0 x0 y0) (f0:x0.ffault ≠ 0) :
  ∃ x y,V0u s n ctx ⟨op,N,ty,k0 :: l⟩ x y:=by
 have hz:tsz k0 + 1 ≤ tsz (⟨op,N,ty,k0 :: l⟩:K01):=by rw [tsz,Kt8]; omega
 have e0:Kfy (s,ctx,⟨op,N,ty,k0 :: l⟩,0)=some ⟨[],[],x0.ffault,0 :: x0.fpath⟩:=V0w (i:=0) rfl r0 (by omega) f0
 refine V0u.bad (f:=x0.ffault) (p:=0 :: x0.fpath) ?_ (V00 (by omega) (V0x (m:=[]) rfl (V17 h9) r0 (by omega) (by simp; omega) f0)) f0 (by have:=r0.pl; simp; omega)
 rw [Kfw.eq_def]
 simp [h0,h1,h9,e0,f0]
include hs
theorem V1e {t:K01} (ht:t.fOp=0) (h:tOk (gN s.fSize true) (yN s.fSize true) ctx.length t=true) (hc:∀ q ∈ ctx,TyS s q) (hb:ctx.length + 2 * tsz t ≤ 1000000):∃ x y,V0u s n ctx t x y:=by
 obtain ⟨i,hi,hl,hk⟩:=Kzn h ht
 obtain ⟨op,N,ty,ks⟩:=t
 simp only at ht hi hk
 subst ht; subst hi; subst hk
 have hq:ctx[i]?=some ctx[i]:=List.getElem?_eq_getElem hl
 have hy:=hc ctx[i] (List.getElem_mem hl)
 have e1:idx ctx (i:Int)=some ctx[i]:=Kr8 hl
 have hz:=Kyi ctx.length (by omega)
 have e2:idx (Kxg (List.replicate ctx.length 0)) (i:Int)=some (((List.replicate ctx.length (0:Nat))[i]'(by simpa using hl):Nat):Int):=by
  rw [Kr8 (by rw [Kxh]; simpa using hl)]; simp [Kxg]
 have e3:List.set (Kxg (List.replicate ctx.length 0)) i 1=Kxg ((List.replicate ctx.length 0).set i 1):=by unfold Kxg; rw [List.map_set]; rfl
 have hf:=V0f (s:=s) (ty:=ty) (ks:=[]) (zs:=List.replicate ctx.length 0) hq (by simpa using hl) (Kz7 hy)
 have im:=V01 (p0:=⟨s⟩) (t:=⟨0,(i:Int),ty,[]⟩) (by omega) (Kzs (Nat.le_refl _)) hf
 refine V0u.good (q:=ctx[i]) (ns:=(List.replicate ctx.length 0).set i 1) (kids:=[]) ?_ ?_ (by rw [tsz]; omega) hy (by simp) ?_ rfl (fun i k hk=>by simp at hk)
 ·rw [Kfw.eq_def]
  simp [hz,e1,e2,Kuh ctx[i] (by have:=Kz7 hy; omega),e3]
 ·exact V1c (Kz7 hy) im
 ·intro x hx
  have h1:=Kxn hs
  rcases List.mem_or_eq_of_mem_set hx with h | rfl
  ·rw [List.eq_of_mem_replicate h]; omega
  ·exact h1
theorem V1f {t:K01} (ht:t.fOp=1) (h:tOk (gN s.fSize true) (yN s.fSize true) ctx.length t=true) (hb:ctx.length + 2 * tsz t ≤ 1000000):∃ x y,V0u s n ctx t x y:=by
 have hk:=Kzo h ht
 obtain ⟨op,N,ty,ks⟩:=t
 simp only at ht hk
 subst ht; subst hk
 have hz:=Kyi ctx.length (by omega)
 have hf:=V0g (s:=s) (N:=N) (ty:=ty) (ks:=[]) (ctx:=ctx) (zs:=List.replicate ctx.length 0)
 have im:=V01 (p0:=⟨s⟩) (t:=⟨1,N,ty,[]⟩) (by omega) (Kzs (Nat.le_refl _)) hf
 refine V0u.good (q:=[0]) (ns:=List.replicate ctx.length 0) (kids:=[]) ?_ ?_ (by rw [tsz]; omega) Kzd (by simp) ?_ rfl (fun i k hk=>by simp at hk)
 ·rw [Kfw.eq_def]
  simp [hz]
 ·exact V1c (by decide) im
 ·intro x hx
  rw [List.eq_of_mem_replicate hx]
  exact Kxo hs
theorem V1g {q:List Int} (hq:TyS s q):∃ c r,q=c :: r∧((Ksm c).1=0 ↔ c=0)∧(c=0→q=[0]):=by
 rcases Kzg hs hq with rfl | ⟨a,b,rfl,_⟩ | ⟨a,b,rfl,_⟩ | ⟨g,a,b,hg,h15,rfl,_⟩ | ⟨g,a,hg,h15,rfl,_⟩
 ·exact ⟨0,[],rfl,by decide,fun _=>rfl⟩
 ·exact ⟨1,_,rfl,by decide,fun h=>absurd h (by decide)⟩
 ·exact ⟨2,_,rfl,by decide,fun h=>absurd h (by decide)⟩
 ·refine ⟨_,_,rfl,?_,fun h=>by omega⟩
  rcases Kso (3 + (g:Int)) with h | h | h | h | h | h | h | h <;> first | omega | (obtain ⟨_,e⟩:=h; rw [e]; simp; omega)
 ·refine ⟨_,_,rfl,?_,fun h=>by omega⟩
  rcases Kso (19 + (g:Int)) with h | h | h | h | h | h | h | h <;> first | omega | (obtain ⟨_,e⟩:=h; rw [e]; simp; omega)
theorem V1h (ih:V1b s n (tsz (⟨6,N,ty,ks⟩:K01))) (h:tOk (gN s.fSize true) (yN s.fSize true) ctx.length ⟨6,N,ty,ks⟩=true) (hc:∀ q ∈ ctx,TyS s q) (hb:ctx.length + 2 * tsz (⟨6,N,ty,ks⟩:K01) ≤ 1000000):∃ x y,V0u s n ctx ⟨6,N,ty,ks⟩ x y:=by
 obtain ⟨k0,rfl,p0⟩:=nd1 h (Nat.le_refl _) rfl
 have hz:=Kxc 6 N ty k0
 have hy:TyS s ty:=Kzm h rfl
 have ly:=Kz7 hy
 obtain ⟨x0,y0,r0⟩:=ih k0 ctx p0 hc (by omega)
 by_cases f0:x0.ffault=0
 rotate_left
 ·exact V1d (by decide) (by decide) (by decide) hb r0 f0
 obtain ⟨g0,q0,a,na,la,ba⟩:=r0.gd f0
 obtain ⟨c0,t0,ht0,hn0,hz0⟩:=V1g hs g0
 have L0:=Kz7 g0
 have e0:Kfy (s,ctx,⟨6,N,ty,[k0]⟩,0)=some x0:=V0v (i:=0) rfl r0 f0
 have o0:=V10 (out:=[]) (nd:=[]) (us:=[]) (w:=0) (t:=⟨6,N,ty,[k0]⟩) (m:=[]) rfl (V17 (by decide)) r0 (by simp; omega) f0 (by rw [ht0]; exact V04 (.inl (by decide))) (V02 (show (6:Int) ≠ 10 by decide)) na (by simp <;> omega) (by simp) (by simp) (by simp) (by simp)
 have hf:=V0h (s:=s) (N:=N) (ty:=ty) (ks:=[k0]) (ctx:=ctx) (us:=[Kxg []]) (z:=Kxg (List.replicate ctx.length 0)) (y0:=y0) (a:=a) (by rw [r0.ty]; omega) (by omega)
 have im:=V01 (p0:=⟨s⟩) (t:=⟨6,N,ty,[k0]⟩) (ctx:=ctx) (by omega) (o0.trans (Kzs (Nat.le_refl _))) hf
 rw [r0.ty] at im
 refine V0u.done (q:=2 :: (x0.fty ++ ty)) (ns:=a) (kids:=[y0]) ?_ im (by omega) (fun hl=>Kzh hs g0 hy (.inr (.inl rfl)) hl) la ba rfl (kd1 (V0t.mk' (V11 (by decide) rfl) r0 f0 (fun _ h=>by cases h) rfl))
 have hg:=Kyl 2 [x0.fty,ty] (by simp) (by simp; omega)
 simp only [List.flatten_cons,List.flatten_nil,List.append_nil] at hg
 rw [Kfw.eq_def]
 simp [e0,f0,hg,na]
theorem V1i (ih:V1b s n (tsz (⟨7,N,ty,ks⟩:K01))) (h:tOk (gN s.fSize true) (yN s.fSize true) ctx.length ⟨7,N,ty,ks⟩=true) (hc:∀ q ∈ ctx,TyS s q) (hb:ctx.length + 2 * tsz (⟨7,N,ty,ks⟩:K01) ≤ 1000000):∃ x y,V0u s n ctx ⟨7,N,ty,ks⟩ x y:=by
 obtain ⟨k0,rfl,p0⟩:=nd1 h (Nat.le_refl _) rfl
 have hz:=Kxc 7 N ty k0
 have hy:TyS s ty:=Kzm h rfl
 have ly:=Kz7 hy
 obtain ⟨x0,y0,r0⟩:=ih k0 ctx p0 hc (by omega)
 by_cases f0:x0.ffault=0
 rotate_left
 ·exact V1d (by decide) (by decide) (by decide) hb r0 f0
 obtain ⟨g0,q0,a,na,la,ba⟩:=r0.gd f0
 obtain ⟨c0,t0,ht0,hn0,hz0⟩:=V1g hs g0
 have L0:=Kz7 g0
 have e0:Kfy (s,ctx,⟨7,N,ty,[k0]⟩,0)=some x0:=V0v (i:=0) rfl r0 f0
 have o0:=V10 (out:=[]) (nd:=[]) (us:=[]) (w:=0) (t:=⟨7,N,ty,[k0]⟩) (m:=[]) rfl (V17 (by decide)) r0 (by simp; omega) f0 (by rw [ht0]; exact V04 (.inl (by decide))) (V02 (show (7:Int) ≠ 10 by decide)) na (by simp <;> omega) (by simp) (by simp) (by simp) (by simp)
 have hf:=V0i (s:=s) (N:=N) (ty:=ty) (ks:=[k0]) (ctx:=ctx) (us:=[Kxg []]) (z:=Kxg (List.replicate ctx.length 0)) (y0:=y0) (a:=a) (by rw [r0.ty]; omega) (by omega)
 have im:=V01 (p0:=⟨s⟩) (t:=⟨7,N,ty,[k0]⟩) (ctx:=ctx) (by omega) (o0.trans (Kzs (Nat.le_refl _))) hf
 rw [r0.ty] at im
 refine V0u.done (q:=2 :: (ty ++ x0.fty)) (ns:=a) (kids:=[y0]) ?_ im (by omega) (fun hl=>Kzh hs hy g0 (.inr (.inl rfl)) hl) la ba rfl (kd1 (V0t.mk' (V11 (by decide) rfl) r0 f0 (fun _ h=>by cases h) rfl))
 have hg:=Kyl 2 [ty,x0.fty] (by simp) (by simp; omega)
 simp only [List.flatten_cons,List.flatten_nil,List.append_nil] at hg
 rw [Kfw.eq_def]
 simp [e0,f0,hg,na]
theorem V1j (ih:V1b s n (tsz (⟨11,N,ty,ks⟩:K01))) (h:tOk (gN s.fSize true) (yN s.fSize true) ctx.length ⟨11,N,ty,ks⟩=true) (hc:∀ q ∈ ctx,TyS s q) (hb:ctx.length + 2 * tsz (⟨11,N,ty,ks⟩:K01) ≤ 1000000):∃ x y,V0u s n ctx ⟨11,N,ty,ks⟩ x y:=by
 obtain ⟨k0,rfl,p0⟩:=nd1 h (Nat.le_refl _) rfl
 have hz:=Kxc 11 N ty k0
 obtain ⟨g,hN,hg'⟩:=Kzj hs (Kzl h rfl)
 simp only at hN
 subst hN
 obtain ⟨x0,y0,r0⟩:=ih k0 ctx p0 hc (by omega)
 by_cases f0:x0.ffault=0
 rotate_left
 ·exact V1d (by decide) (by decide) (by decide) hb r0 f0
 obtain ⟨g0,q0,a,na,la,ba⟩:=r0.gd f0
 obtain ⟨c0,t0,ht0,hn0,hz0⟩:=V1g hs g0
 have L0:=Kz7 g0
 have e0:Kfy (s,ctx,⟨11,(g:Int),ty,[k0]⟩,0)=some x0:=V0v (i:=0) rfl r0 f0
 have o0:=V10 (out:=[]) (nd:=[]) (us:=[]) (w:=0) (t:=⟨11,(g:Int),ty,[k0]⟩) (m:=[]) rfl (V17 (by decide)) r0 (by simp; omega) f0 (by rw [ht0]; exact V04 (.inl (by decide))) (V02 (show (11:Int) ≠ 10 by decide)) na (by simp <;> omega) (by simp) (by simp) (by simp) (by simp)
 have hf:=V0n (ty:=ty) (ks:=[k0]) (ctx:=ctx) (us:=[Kxg []]) (z:=Kxg (List.replicate ctx.length 0)) (y0:=y0) (a:=a) hs hg' ba (by omega) (by rw [r0.ty]; omega)
 have im:=V01 (p0:=⟨s⟩) (t:=⟨11,(g:Int),ty,[k0]⟩) (ctx:=ctx) (by omega) (o0.trans (Kzs (Nat.le_refl _))) hf
 rw [r0.ty] at im
 have hn:=hs.tab.hi
 refine V0u.done (q:=(19 + (g:Int)) :: x0.fty) (ns:=Kxu s n g a) (kids:=[y0]) ?_ im (by omega) (fun hl=>Kzi hs hg' g0 hl) (by unfold Kxu; rw [List.length_map]; exact la) (Ky0 hs hg' ba) rfl (kd1 (V0t.mk' (V11 (by decide) rfl) r0 f0 (fun _ h=>by cases h) rfl))
 have hg:=Kyl (19 + (g:Int)) [x0.fty] (by simp) (by simp; omega)
 simp only [List.flatten_cons,List.flatten_nil,List.append_nil] at hg
 have hsc:=Ky0 hs hg' ba
 have hz0:=Ky3 hs hsc
 rw [show (Kxu s n g a).length=ctx.length by unfold Kxu; rw [List.length_map]; exact la] at hz0
 have hsum:=Ky5 hs g hg' (List.replicate ctx.length 0) a (fun x hx=>by rw [List.eq_of_mem_replicate hx]; exact Kxo hs) ba (by simp; omega) (by simp [la])
 rw [hz0] at hsum
 have hw:wr (19 + (g:Int))=19 + (g:Int):=Kr7 (by omega) (by omega)
 rw [Kfw.eq_def]
 simp [e0,f0,hg,na,hw,Kyi ctx.length (by omega),hsum]
theorem V1k (ih:V1b s n (tsz (⟨9,N,ty,ks⟩:K01))) (h:tOk (gN s.fSize true) (yN s.fSize true) ctx.length ⟨9,N,ty,ks⟩=true) (hc:∀ q ∈ ctx,TyS s q) (hb:ctx.length + 2 * tsz (⟨9,N,ty,ks⟩:K01) ≤ 1000000):∃ x y,V0u s n ctx ⟨9,N,ty,ks⟩ x y:=by
 obtain ⟨k0,rfl,p0⟩:=nd1 h (Nat.le_refl _) rfl
 have hz:=Kxc 9 N ty k0
 obtain ⟨g,hN,hg'⟩:=Kzj hs (Kzl h rfl)
 simp only at hN
 subst hN
 have hy:TyS s ty:=Kzm h rfl
 have ly:=Kz7 hy
 have hn:=hs.tab.hi
 have p0':Kzk s ([ty] ++ ctx).length k0 (tsz (⟨9,(g:Int),ty,[k0]⟩:K01)):=by
  have e:([ty] ++ ctx).length=ctx.length + Kts 9 0:=by simp [Kts]
  rw [e]; exact p0
 obtain ⟨x0,y0,r0⟩:=ih k0 ([ty] ++ ctx) p0' (fun q hq=>by rcases List.mem_cons.1 hq with rfl | hq; exact hy; exact hc q hq) (by simp; omega)
 have hw9:=Kyj ctx [ty] (by simp; omega)
 by_cases f0:x0.ffault=0
 rotate_left
 ·have e0:Kfy (s,ty :: ctx,⟨9,(g:Int),ty,[k0]⟩,0)=some ⟨[],[],x0.ffault,0 :: x0.fpath⟩:=V0w (i:=0) rfl r0 (by omega) f0
  refine V0u.bad (f:=x0.ffault) (p:=0 :: x0.fpath) ?_ (V00 (by omega) (V0x (m:=[ty]) rfl V18 r0 (by omega) (by simp; omega) f0)) f0 (by have:=r0.pl; simp; omega)
  rw [Kfw.eq_def]
  simp [hw9,e0,f0]
 obtain ⟨g0,q0,a,na,la,ba⟩:=r0.gd f0
 obtain ⟨c0,t0,ht0,hn0,hz0⟩:=V1g hs g0
 have L0:=Kz7 g0
 have e0:Kfy (s,ty :: ctx,⟨9,(g:Int),ty,[k0]⟩,0)=some x0:=V0v (i:=0) rfl r0 f0
 have la':a.length=ctx.length + 1:=by rw [la]; simp
 obtain ⟨u0,a',rfl⟩:∃ u0 a',a=u0 :: a':=by cases a with | nil=>simp at la' | cons u a'=>exact ⟨u,a',rfl⟩
 obtain ⟨hu0,ba'⟩:=Kxx ba
 have o0:=V10 (out:=[]) (nd:=[]) (us:=[]) (w:=0) (t:=⟨9,(g:Int),ty,[k0]⟩) (m:=[ty]) rfl V18 r0 (by simp; omega) f0 (by rw [ht0]; exact V04 (.inl (by decide))) (V02 (show (9:Int) ≠ 10 by decide)) na (by simp <;> omega) (by simp) (by simp) (by simp) (by simp)
 simp only [List.length_cons,List.length_nil,Nat.zero_add,List.drop_succ_cons,List.drop_zero,List.take_succ_cons,List.take_zero,List.nil_append] at o0
 have hf:=V0m (ty:=ty) (ks:=[k0]) (ctx:=ctx) (z:=Kxg (List.replicate ctx.length 0)) (y0:=y0) (a:=a') (u:=[u0]) hs hg' (fun x hx=>by simp at hx; rw [hx]; exact hu0) (by simp) (by rw [r0.ty]; omega) (by omega)
 have hl0:=o0.trans (Kzs (Nat.le_refl _))
 have hle:=sLe hs.tab hu0 hg'
 have hw:wr (3 + (g:Int))=3 + (g:Int):=Kr7 (by omega) (by omega)
 have hi0:idx x0.fneeds 0=some (u0:Int):=by rw [na]; rfl
 simp only [List.all_cons,List.all_nil,Bool.and_true] at hf
 cases hl:le s n u0 g with
 | false =>
  rw [hl,if_neg (by decide)] at hf
  refine V0u.bad (f:=9) (p:=[]) ?_ (V01 (by omega) hl0 hf) (by decide) (by simp; omega)
  rw [Kfw.eq_def]
  simp [hw9,e0,f0,hi0,hle,hl,Kf6]
 | true =>
  rw [hl,if_pos rfl] at hf
  have im:=V01 (by omega) hl0 hf
  rw [r0.ty] at im
  refine V0u.done (q:=(3 + (g:Int)) :: (ty ++ x0.fty)) (ns:=a') (kids:=[y0]) ?_ im (by omega) (fun hl=>Kzh hs hy g0 (.inr (.inr ⟨g,hg',rfl⟩)) hl) (by simpa using la') ba' rfl (kd1 (V0t.mk' (m:=[ty]) V12 r0 f0 (fun q hq=>by simp at hq; rw [hq]; exact hy) rfl))
  have hg:=Kyl (3 + (g:Int)) [ty,x0.fty] (by simp) (by simp; omega)
  simp only [List.flatten_cons,List.flatten_nil,List.append_nil] at hg
  have hcut:cut x0.fneeds (some 1) none none=some (Kxg a'):=by rw [na]; exact Kwl _ _
  rw [Kfw.eq_def]
  simp [hw9,e0,f0,hi0,hle,hl,hg,hw,hcut,Kuh (Kxg a') (by rw [Kxh]; simp at la'; omega)]
theorem V1l (ih:V1b s n (tsz (⟨4,N,ty,ks⟩:K01))) (h:tOk (gN s.fSize true) (yN s.fSize true) ctx.length ⟨4,N,ty,ks⟩=true) (hc:∀ q ∈ ctx,TyS s q) (hb:ctx.length + 2 * tsz (⟨4,N,ty,ks⟩:K01) ≤ 1000000):∃ x y,V0u s n ctx ⟨4,N,ty,ks⟩ x y:=by
 obtain ⟨k0,k1,rfl,p0,p1⟩:=nd2 h (Nat.le_refl _) rfl
 have hz:=Kxd 4 N ty k0 k1
 obtain ⟨x0,y0,r0⟩:=ih k0 ctx p0 hc (by omega)
 obtain ⟨x1,y1,r1⟩:=ih k1 ctx p1 hc (by omega)
 by_cases f0:x0.ffault=0
 rotate_left
 ·exact V1d (by decide) (by decide) (by decide) hb r0 f0
 obtain ⟨g0,q0,a,na,la,ba⟩:=r0.gd f0
 obtain ⟨c0,t0,ht0,hn0,hz0⟩:=V1g hs g0
 have L0:=Kz7 g0
 have e0:Kfy (s,ctx,⟨4,N,ty,[k0,k1]⟩,0)=some x0:=V0v (i:=0) rfl r0 f0
 have o0:=V10 (out:=[]) (nd:=[]) (us:=[]) (w:=0) (t:=⟨4,N,ty,[k0,k1]⟩) (m:=[]) rfl (V17 (by decide)) r0 (by simp; omega) f0 (by rw [ht0]; exact V04 (.inl (by decide))) (V02 (show (4:Int) ≠ 10 by decide)) na (by simp <;> omega) (by simp) (by simp) (by simp) (by simp)
 have m1:Kzp ⟨4,N,ty,[k0,k1]⟩ [y0] 1=some []:=V19 (by decide) (V11 (by decide) rfl)
 by_cases f1:x1.ffault=0
 rotate_left
 ·have e1:Kfy (s,ctx,⟨4,N,ty,[k0,k1]⟩,1)=some ⟨[],[],x1.ffault,1 :: x1.fpath⟩:=V0w (i:=1) rfl r1 (by omega) f1
  refine V0u.bad (f:=x1.ffault) (p:=1 :: x1.fpath) ?_ (V00 (by omega) (o0.trans (V0x (m:=[]) rfl m1 r1 (by omega) (by simp; omega) f1))) f1 (by have:=r1.pl; simp; omega)
  rw [Kfw.eq_def]
  simp [e0,f0,e1,f1]
 obtain ⟨g1,q1,b,nb,lb,bb⟩:=r1.gd f1
 obtain ⟨c1,t1,ht1,hn1,hz1⟩:=V1g hs g1
 have L1:=Kz7 g1
 have e1:Kfy (s,ctx,⟨4,N,ty,[k0,k1]⟩,1)=some x1:=V0v (i:=1) rfl r1 f1
 have o1:=V10 (out:=[y0]) (nd:=[Kxg a]) (us:=[Kxg []]) (w:=1) (t:=⟨4,N,ty,[k0,k1]⟩) (m:=[]) rfl m1 r1 (by simp; omega) f1 (by rw [ht1]; exact V04 (.inl (by decide))) (V02 (show (4:Int) ≠ 10 by decide)) nb (by simp <;> omega) (by simp) (by simp) (by simp) (by simp)
 have hf:=V0l (N:=N) (ty:=ty) (ks:=[k0,k1]) (ctx:=ctx) (us:=[Kxg [],Kxg []]) (z:=Kxg (List.replicate ctx.length 0)) (y0:=y0) (y1:=y1) hs ba bb (by omega) (by omega) (by rw [r0.ty]; omega) (by rw [r1.ty]; omega)
 have im:=V01 (p0:=⟨s⟩) (t:=⟨4,N,ty,[k0,k1]⟩) (ctx:=ctx) (by omega) (o0.trans (o1.trans (Kzs (Nat.le_refl _)))) hf
 rw [r0.ty,r1.ty] at im
 refine V0u.done (q:=1 :: (x0.fty ++ x1.fty)) (ns:=Kxt s n a b) (kids:=[y0,y1]) ?_ im (by omega) (fun hl=>Kzh hs g0 g1 (.inl rfl) hl) (by unfold Kxt; rw [List.length_zipWith]; omega) (Kxz hs ba bb) rfl (kd2 (V0t.mk' (V11 (by decide) rfl) r0 f0 (fun _ h=>by cases h) rfl) (V0t.mk' (V11 (by decide) rfl) r1 f1 (fun _ h=>by cases h) rfl))
 have hg:=Kyl 1 [x0.fty,x1.fty] (by simp) (by simp; omega)
 simp only [List.flatten_cons,List.flatten_nil,List.append_nil] at hg
 rw [Kfw.eq_def]
 simp [e0,f0,e1,f1,hg,na,nb,Ky6 hs a b ba bb (by omega) (by omega)]
theorem V1m (ih:V1b s n (tsz (⟨2,N,ty,ks⟩:K01))) (h:tOk (gN s.fSize true) (yN s.fSize true) ctx.length ⟨2,N,ty,ks⟩=true) (hc:∀ q ∈ ctx,TyS s q) (hb:ctx.length + 2 * tsz (⟨2,N,ty,ks⟩:K01) ≤ 1000000):∃ x y,V0u s n ctx ⟨2,N,ty,ks⟩ x y:=by
 obtain ⟨k0,k1,rfl,p0,p1⟩:=nd2 h (Nat.le_refl _) rfl
 have hz:=Kxd 2 N ty k0 k1
 obtain ⟨x0,y0,r0⟩:=ih k0 ctx p0 hc (by omega)
 obtain ⟨x1,y1,r1⟩:=ih k1 ctx p1 hc (by omega)
 by_cases f0:x0.ffault=0
 rotate_left
 ·exact V1d (by decide) (by decide) (by decide) hb r0 f0
 obtain ⟨g0,q0,a,na,la,ba⟩:=r0.gd f0
 obtain ⟨c0,t0,ht0,hn0,hz0⟩:=V1g hs g0
 have L0:=Kz7 g0
 have e0:Kfy (s,ctx,⟨2,N,ty,[k0,k1]⟩,0)=some x0:=V0v (i:=0) rfl r0 f0
 have i0:idx x0.fty 0=some c0:=by rw [ht0]; rfl
 by_cases z0:c0=0
 rotate_left
 ·refine V0u.bad (f:=2) (p:=[]) ?_ (V00 (by omega) (V0y (m:=[]) rfl (V17 (by decide)) r0 (by simp; omega) f0 (by rw [ht0,V05,if_neg (by rw [hn0]; exact z0)]) (by decide))) (by decide) (by simp; omega)
  rw [Kfw.eq_def]
  simp [e0,f0,i0,z0,Kf6]
 have u0:=hz0 z0
 have s0:(Ksm c0).1=0:=hn0.2 z0
 have o0:=V10 (out:=[]) (nd:=[]) (us:=[]) (w:=0) (t:=⟨2,N,ty,[k0,k1]⟩) (m:=[]) rfl (V17 (by decide)) r0 (by simp; omega) f0 (by rw [ht0,V05,if_pos s0]) (V02 (show (2:Int) ≠ 10 by decide)) na (by simp <;> omega) (by simp) (by simp) (by simp) (by simp)
 have m1:Kzp ⟨2,N,ty,[k0,k1]⟩ [y0] 1=some []:=V19 (by decide) (V11 (by decide) rfl)
 by_cases f1:x1.ffault=0
 rotate_left
 ·have e1:Kfy (s,ctx,⟨2,N,ty,[k0,k1]⟩,1)=some ⟨[],[],x1.ffault,1 :: x1.fpath⟩:=V0w (i:=1) rfl r1 (by omega) f1
  refine V0u.bad (f:=x1.ffault) (p:=1 :: x1.fpath) ?_ (V00 (by omega) (o0.trans (V0x (m:=[]) rfl m1 r1 (by omega) (by simp; omega) f1))) f1 (by have:=r1.pl; simp; omega)
  rw [Kfw.eq_def]
  simp [e0,f0,i0,z0,Kfz.eq_def,e1,f1]
 obtain ⟨g1,q1,b,nb,lb,bb⟩:=r1.gd f1
 obtain ⟨c1,t1,ht1,hn1,hz1⟩:=V1g hs g1
 have L1:=Kz7 g1
 have e1:Kfy (s,ctx,⟨2,N,ty,[k0,k1]⟩,1)=some x1:=V0v (i:=1) rfl r1 f1
 have i1:idx x1.fty 0=some c1:=by rw [ht1]; rfl
 by_cases z1:c1=0
 rotate_left
 ·refine V0u.bad (f:=2) (p:=[]) ?_ (V00 (by omega) (o0.trans (V0y (m:=[]) rfl m1 r1 (by simp; omega) f1 (by rw [ht1,V05,if_neg (by rw [hn1]; exact z1)]) (by decide)))) (by decide) (by simp; omega)
  rw [Kfw.eq_def]
  simp [e0,f0,i0,z0,e1,f1,i1,z1,Kf6,Kfz.eq_def]
 have u1:=hz1 z1
 have s1:(Ksm c1).1=0:=hn1.2 z1
 have o1:=V10 (out:=[y0]) (nd:=[Kxg a]) (us:=[Kxg []]) (w:=1) (t:=⟨2,N,ty,[k0,k1]⟩) (m:=[]) rfl m1 r1 (by simp; omega) f1 (by rw [ht1,V05,if_pos s1]) (V02 (show (2:Int) ≠ 10 by decide)) nb (by simp <;> omega) (by simp) (by simp) (by simp) (by simp)
 have hf:=V0j (N:=N) (ty:=ty) (ks:=[k0,k1]) (ctx:=ctx) (us:=[Kxg [],Kxg []]) (z:=Kxg (List.replicate ctx.length 0)) (y0:=y0) (y1:=y1) hs ba bb (by omega) (by omega)
 have im:=V01 (p0:=⟨s⟩) (t:=⟨2,N,ty,[k0,k1]⟩) (ctx:=ctx) (by omega) (o0.trans (o1.trans (Kzs (Nat.le_refl _)))) hf
 replace im:=V1c (q:=[0]) (ns:=Kxt s n a b) (kids:=[y0,y1]) (by decide) im
 refine V0u.good (q:=[0]) (ns:=Kxt s n a b) (kids:=[y0,y1]) ?_ im (by omega) Kzd (by unfold Kxt; rw [List.length_zipWith]; omega) (Kxz hs ba bb) rfl (kd2 (V0t.mk' (V11 (by decide) rfl) r0 f0 (fun _ h=>by cases h) rfl) (V0t.mk' (V11 (by decide) rfl) r1 f1 (fun _ h=>by cases h) rfl))
 rw [Kfw.eq_def]
 simp [e0,f0,i0,z0,e1,f1,i1,z1,na,nb,u1,V0c,Ky6 hs a b ba bb (by omega) (by omega),Kfz.eq_def]
theorem V1n (ih:V1b s n (tsz (⟨3,N,ty,ks⟩:K01))) (h:tOk (gN s.fSize true) (yN s.fSize true) ctx.length ⟨3,N,ty,ks⟩=true) (hc:∀ q ∈ ctx,TyS s q) (hb:ctx.length + 2 * tsz (⟨3,N,ty,ks⟩:K01) ≤ 1000000):∃ x y,V0u s n ctx ⟨3,N,ty,ks⟩ x y:=by
 obtain ⟨k0,k1,k2,rfl,p0,p1,p2⟩:=nd3 h (Nat.le_refl _) rfl
 have hz:=Kxe 3 N ty k0 k1 k2
 obtain ⟨x0,y0,r0⟩:=ih k0 ctx p0 hc (by omega)
 obtain ⟨x1,y1,r1⟩:=ih k1 ctx p1 hc (by omega)
 obtain ⟨x2,y2,r2⟩:=ih k2 ctx p2 hc (by omega)
 by_cases f0:x0.ffault=0
 rotate_left
 ·exact V1d (by decide) (by decide) (by decide) hb r0 f0
 obtain ⟨g0,q0,a,na,la,ba⟩:=r0.gd f0
 obtain ⟨c0,t0,ht0,hn0,hz0⟩:=V1g hs g0
 have L0:=Kz7 g0
 have e0:Kfy (s,ctx,⟨3,N,ty,[k0,k1,k2]⟩,0)=some x0:=V0v (i:=0) rfl r0 f0
 have i0:idx x0.fty 0=some c0:=by rw [ht0]; rfl
 by_cases z0:c0=0
 rotate_left
 ·refine V0u.bad (f:=2) (p:=[]) ?_ (V00 (by omega) (V0y (m:=[]) rfl (V17 (by decide)) r0 (by simp; omega) f0 (by rw [ht0,V06,if_neg (by rw [hn0]; exact z0)]) (by decide))) (by decide) (by simp; omega)
  rw [Kfw.eq_def]
  simp [e0,f0,i0,z0,Kf6]
 have u0:=hz0 z0
 have s0:(Ksm c0).1=0:=hn0.2 z0
 have o0:=V10 (out:=[]) (nd:=[]) (us:=[]) (w:=0) (t:=⟨3,N,ty,[k0,k1,k2]⟩) (m:=[]) rfl (V17 (by decide)) r0 (by simp; omega) f0 (by rw [ht0,V06,if_pos s0]) (V02 (show (3:Int) ≠ 10 by decide)) na (by simp <;> omega) (by simp) (by simp) (by simp) (by simp)
 have m1:Kzp ⟨3,N,ty,[k0,k1,k2]⟩ [y0] 1=some []:=V19 (by decide) (V11 (by decide) rfl)
 by_cases f1:x1.ffault=0
 rotate_left
 ·have e1:Kfy (s,ctx,⟨3,N,ty,[k0,k1,k2]⟩,1)=some ⟨[],[],x1.ffault,1 :: x1.fpath⟩:=V0w (i:=1) rfl r1 (by omega) f1
  refine V0u.bad (f:=x1.ffault) (p:=1 :: x1.fpath) ?_ (V00 (by omega) (o0.trans (V0x (m:=[]) rfl m1 r1 (by omega) (by simp; omega) f1))) f1 (by have:=r1.pl; simp; omega)
  rw [Kfw.eq_def]
  simp [e0,f0,i0,z0,Kfz.eq_def,e1,f1]
 obtain ⟨g1,q1,b,nb,lb,bb⟩:=r1.gd f1
 obtain ⟨c1,t1,ht1,hn1,hz1⟩:=V1g hs g1
 have L1:=Kz7 g1
 have e1:Kfy (s,ctx,⟨3,N,ty,[k0,k1,k2]⟩,1)=some x1:=V0v (i:=1) rfl r1 f1
 have o1:=V10 (out:=[y0]) (nd:=[Kxg a]) (us:=[Kxg []]) (w:=1) (t:=⟨3,N,ty,[k0,k1,k2]⟩) (m:=[]) rfl m1 r1 (by simp; omega) f1 (by rw [ht1]; exact V04 (.inr (by decide))) (V02 (show (3:Int) ≠ 10 by decide)) nb (by simp <;> omega) (by simp) (by simp) (by simp) (by simp)
 have m2:Kzp ⟨3,N,ty,[k0,k1,k2]⟩ [y0,y1] 2=some []:=V19 (by decide) (V11 (by decide) rfl)
 by_cases f2:x2.ffault=0
 rotate_left
 ·have e2:Kfy (s,ctx,⟨3,N,ty,[k0,k1,k2]⟩,2)=some ⟨[],[],x2.ffault,2 :: x2.fpath⟩:=V0w (i:=2) rfl r2 (by omega) f2
  refine V0u.bad (f:=x2.ffault) (p:=2 :: x2.fpath) ?_ (V00 (by omega) (o0.trans (o1.trans (V0x (m:=[]) rfl m2 r2 (by omega) (by simp; omega) f2)))) f2 (by have:=r2.pl; simp; omega)
  rw [Kfw.eq_def]
  simp [e0,f0,i0,z0,e1,f1,Kfz.eq_def,e2,f2]
 obtain ⟨g2,q2,d,nd,ld,bd⟩:=r2.gd f2
 obtain ⟨c2,t2,ht2,hn2,hz2⟩:=V1g hs g2
 have L2:=Kz7 g2
 have e2:Kfy (s,ctx,⟨3,N,ty,[k0,k1,k2]⟩,2)=some x2:=V0v (i:=2) rfl r2 f2
 have o2:=V10 (out:=[y0,y1]) (nd:=[Kxg a,Kxg b]) (us:=[Kxg [],Kxg []]) (w:=2) (t:=⟨3,N,ty,[k0,k1,k2]⟩) (m:=[]) rfl m2 r2 (by simp; omega) f2 (by rw [ht2]; exact V04 (.inr (by decide))) (V02 (show (3:Int) ≠ 10 by decide)) nd (by simp <;> omega) (by simp) (by simp) (by simp) (by simp)
 have hf:=V0k (N:=N) (ty:=ty) (ks:=[k0,k1,k2]) (ctx:=ctx) (us:=[Kxg [],Kxg [],Kxg []]) (z:=Kxg (List.replicate ctx.length 0)) (y0:=y0) (y1:=y1) (y2:=y2) hs ba bb bd (by omega) (by omega) (by omega) (by rw [r2.ty]; omega) (by rw [r1.ty]; omega)
 have hl0:=o0.trans (o1.trans (o2.trans (Kzs (Nat.le_refl _))))
 
 have hsm:=Kws x1.fty x2.fty (by omega)
 have lj:(Kxv s n b d).length=ctx.length:=by unfold Kxv; rw [List.length_zipWith]; omega
 rw [r1.ty,r2.ty] at hf
 by_cases hq:x1.fty=x2.fty
 ·rw [if_pos hq] at hf
  have im:=V01 (by omega) hl0 hf
  replace im:=V1c (q:=x1.fty) (ns:=Kxt s n a (Kxv s n b d)) (kids:=[y0,y1,y2]) (by omega) im
  refine V0u.good (q:=x1.fty) (ns:=Kxt s n a (Kxv s n b d)) (kids:=[y0,y1,y2]) ?_ im (by omega) g1 (by unfold Kxt; rw [List.length_zipWith]; omega) (Kxz hs ba (Ky1 hs bb bd)) rfl (kd3 (V0t.mk' (V11 (by decide) rfl) r0 f0 (fun _ h=>by cases h) rfl) (V0t.mk' (V11 (by decide) rfl) r1 f1 (fun _ h=>by cases h) rfl) (V0t.mk' (V11 (by decide) rfl) r2 f2 (fun _ h=>by cases h) rfl))
  rw [show (x1.fty == x2.fty)=true from beq_iff_eq.2 hq] at hsm
  rw [Kfw.eq_def]
  simp [e0,f0,i0,z0,e1,f1,e2,f2,hsm,na,nb,nd,Ky8 hs b d bb bd (by omega) (by omega),Ky6 hs a (Kxv s n b d) ba (Ky1 hs bb bd) (by omega) (by omega),Kfz.eq_def]
 ·rw [if_neg hq] at hf
  refine V0u.bad (f:=3) (p:=[]) ?_ (V01 (by omega) hl0 hf) (by decide) (by simp; omega)
  rw [show (x1.fty == x2.fty)=false from beq_eq_false_iff_ne.2 hq] at hsm
  rw [Kfw.eq_def]
  simp [e0,f0,i0,z0,e1,f1,e2,f2,hsm,Kfz.eq_def,Kf6]
end
theorem V1o (g:Nat) (h:g ≤ 15):Ksm (3 + (g:Int))=(3,(g:Int)):=by
 rcases Kso (3 + (g:Int)) with h | h | h | h | h | h | h | h <;> first | omega | (obtain ⟨_,e⟩:=h; rw [e]; congr 1; omega)
theorem V1p (g:Nat) (h:g ≤ 15):Ksm (19 + (g:Int))=(4,(g:Int)):=by
 rcases Kso (19 + (g:Int)) with h | h | h | h | h | h | h | h <;> first | omega | (obtain ⟨_,e⟩:=h; rw [e]; congr 1; omega)
theorem V1q (g:Nat) (h:g ≤ 15):Ksf (3 + (g:Int))=true:=by unfold Ksf inB; simp; omega
theorem V1r (g:Nat) (h:g ≤ 15):Ksf (19 + (g:Int))=false:=by unfold Ksf inB; simp; omega
theorem V1s (g:Nat) (h:g ≤ 15):Ksg (3 + (g:Int))=false:=by unfold Ksg inB; simp; omega
theorem V1t (g:Nat) (h:g ≤ 15):Ksg (19 + (g:Int))=true:=by unfold Ksg inB; simp; omega
theorem V1u (g:Nat) (h:g ≤ 15):Kev (3 + (g:Int))=some (g:Int):=by
 rw [Kt4 (by rcases Ksl (3 + (g:Int)) with h | h | h | h <;> omega)]
 unfold Kt2
 rw [if_neg (by omega),if_neg (by omega)]
 congr 1; omega
theorem V1v (g:Nat) (h:g ≤ 15):Kev (19 + (g:Int))=some (g:Int):=by
 rw [Kt4 (by rcases Ksl (19 + (g:Int)) with h | h | h | h <;> omega)]
 unfold Kt2
 rw [if_neg (by omega),if_pos (by omega)]
 congr 1; omega
section
variable {s:K00} {n:Nat} (hs:Kxl s n) {ctx:List (List Int)} {N:Int} {ty:List Int} {ks:List K01}
include hs
structure V1w (s:K00) (n:Nat) (q:List Int) (c:Int):Prop where
 arr:(Ksm c).1=3→∃ (g:Nat) (a b:List Int),g < n∧g ≤ 15∧c=3 + (g:Int)∧q=c :: (a ++ b)∧Kza s (3 + (g:Int)) a b
 pair:(Ksm c).1=1→∃ (a b:List Int),c=1∧q=c :: (a ++ b)∧Kza s 1 a b
 sum:(Ksm c).1=2→∃ (a b:List Int),c=2∧q=c :: (a ++ b)∧Kza s 2 a b
 box:(Ksm c).1=4→∃ (g:Nat) (a:List Int),g < n∧g ≤ 15∧c=19 + (g:Int)∧q=c :: a∧Kzb s (19 + (g:Int)) a
 arrB:Ksf c=true ↔ (Ksm c).1=3
 boxB:Ksg c=true ↔ (Ksm c).1=4
 one:c=1 ↔ (Ksm c).1=1
 two:c=2 ↔ (Ksm c).1=2
theorem V1x {q:List Int} (hq:TyS s q) {c:Int} {r:List Int} (e:q=c :: r):V1w s n q c:=by
 rcases Kzg hs hq with rfl | ⟨a,b,rfl,P⟩ | ⟨a,b,rfl,P⟩ | ⟨g,a,b,hg,h15,rfl,P⟩ | ⟨g,a,hg,h15,rfl,P⟩
 ·cases e
  refine ⟨fun h=>?_,fun h=>?_,fun h=>?_,fun h=>?_,by decide,by decide,by decide,by decide⟩ <;> exact absurd h (by decide)
 ·cases e
  refine ⟨fun h=>absurd h (by decide),fun _=>⟨a,b,rfl,rfl,P⟩,fun h=>absurd h (by decide),fun h=>absurd h (by decide),by decide,by decide,by decide,by decide⟩
 ·cases e
  refine ⟨fun h=>absurd h (by decide),fun h=>absurd h (by decide),fun _=>⟨a,b,rfl,rfl,P⟩,fun h=>absurd h (by decide),by decide,by decide,by decide,by decide⟩
 ·cases e
  have hsh:=V1o g h15
  refine ⟨fun _=>⟨g,a,b,hg,h15,rfl,rfl,P⟩,fun h=>?_,fun h=>?_,fun h=>?_,?_,?_,?_,?_⟩
  ·rw [hsh] at h; simp at h
  ·rw [hsh] at h; simp at h
  ·rw [hsh] at h; simp at h
  ·rw [hsh,V1q g h15]; simp
  ·rw [hsh,V1s g h15]; simp
  ·rw [hsh]; simp; omega
  ·rw [hsh]; simp; omega
 ·cases e
  have hsh:=V1p g h15
  refine ⟨fun h=>?_,fun h=>?_,fun h=>?_,fun _=>⟨g,_,hg,h15,rfl,rfl,P⟩,?_,?_,?_,?_⟩
  ·rw [hsh] at h; simp at h
  ·rw [hsh] at h; simp at h
  ·rw [hsh] at h; simp at h
  ·rw [hsh,V1r g h15]; simp
  ·rw [hsh,V1t g h15]; simp
  ·rw [hsh]; simp; omega
  ·rw [hsh]; simp; omega
theorem V1y (ih:V1b s n (tsz (⟨10,N,ty,ks⟩:K01))) (h:tOk (gN s.fSize true) (yN s.fSize true) ctx.length ⟨10,N,ty,ks⟩=true) (hc:∀ q ∈ ctx,TyS s q) (hb:ctx.length + 2 * tsz (⟨10,N,ty,ks⟩:K01) ≤ 1000000):∃ x y,V0u s n ctx ⟨10,N,ty,ks⟩ x y:=by
 obtain ⟨k0,k1,rfl,p0,p1⟩:=nd2 h (Nat.le_refl _) rfl
 have hz:=Kxd 10 N ty k0 k1
 obtain ⟨x0,y0,r0⟩:=ih k0 ctx p0 hc (by omega)
 obtain ⟨x1,y1,r1⟩:=ih k1 ctx p1 hc (by omega)
 by_cases f0:x0.ffault=0
 rotate_left
 ·exact V1d (by decide) (by decide) (by decide) hb r0 f0
 obtain ⟨g0,q0,a,na,la,ba⟩:=r0.gd f0
 obtain ⟨c0,t0,ht0,hn0,hz0⟩:=V1g hs g0
 have L0:=Kz7 g0
 have e0:Kfy (s,ctx,⟨10,N,ty,[k0,k1]⟩,0)=some x0:=V0v (i:=0) rfl r0 f0
 have C:=V1x hs g0 ht0
 have i0:idx x0.fty 0=some c0:=by rw [ht0]; rfl
 by_cases z0:(Ksm c0).1=3
 rotate_left
 ·have w0:Ksf c0=false:=by cases h:Ksf c0 with | true=>exact absurd (C.arrB.1 h) z0 | false=>rfl
  refine V0u.bad (f:=6) (p:=[]) ?_ (V00 (by omega) (V0y (m:=[]) rfl (V17 (by decide)) r0 (by simp; omega) f0 (by rw [ht0,V07,if_neg z0]) (by decide))) (by decide) (by simp; omega)
  rw [Kfw.eq_def]
  simp [e0,f0,i0,Ksi,w0,Kf6]
 obtain ⟨g,p,q,hg,h15,hcg,hq,P⟩:=C.arr z0
 have w0:Ksf c0=true:=C.arrB.2 z0
 have o0:=V10 (out:=[]) (nd:=[]) (us:=[]) (w:=0) (t:=⟨10,N,ty,[k0,k1]⟩) (m:=[]) rfl (V17 (by decide)) r0 (by simp; omega) f0 (by rw [ht0,V07,if_pos z0]) (V03 (by decide)) na (by simp <;> omega) (by simp) (by simp) (by simp) (by simp)
 have m1:Kzp ⟨10,N,ty,[k0,k1]⟩ [y0] 1=some []:=V19 (by decide) (V11 (by decide) rfl)
 by_cases f1:x1.ffault=0
 rotate_left
 ·have e1:Kfy (s,ctx,⟨10,N,ty,[k0,k1]⟩,1)=some ⟨[],[],x1.ffault,1 :: x1.fpath⟩:=V0w (i:=1) rfl r1 (by omega) f1
  refine V0u.bad (f:=x1.ffault) (p:=1 :: x1.fpath) ?_ (V00 (by omega) (o0.trans (V0x (m:=[]) rfl m1 r1 (by omega) (by simp; omega) f1))) f1 (by have:=r1.pl; simp; omega)
  rw [Kfw.eq_def]
  simp [e0,f0,i0,Ksi,w0,e1,f1]
 obtain ⟨g1,q1,b,nb,lb,bb⟩:=r1.gd f1
 obtain ⟨c1,t1,ht1,hn1,hz1⟩:=V1g hs g1
 have L1:=Kz7 g1
 have e1:Kfy (s,ctx,⟨10,N,ty,[k0,k1]⟩,1)=some x1:=V0v (i:=1) rfl r1 f1
 have hp0:Kes (x0.fty,0)=some p:=by rw [hq,hcg]; exact P.p0
 have hp1:Kes (x0.fty,1)=some q:=by rw [hq,hcg]; exact P.p1
 have hpp:Klu y0.fty=some [p,q]:=by rw [r0.ty,hq,hcg]; exact P.pp
 have Lp:=Kz7 P.ya
 have Lq:=Kz7 P.yb
 have hsm:=Kws x1.fty p (by omega)
 have hsi:=Kwu x1.fty p (by omega)
 have ha:Kzv ⟨10,N,ty,[k0,k1]⟩ [y0] 1 y1=some (!(x1.fty == p)):=by
  unfold Kzv
  rw [if_pos (show ((10:Int) == 10)=true by decide),if_pos (by decide),V0c,bs,hpp,bs,V0c,bs,r1.ty,hsi,bs]
 by_cases hqq:x1.fty=p
 rotate_left
 ·rw [show (x1.fty == p)=false from beq_eq_false_iff_ne.2 hqq] at hsm ha
  refine V0u.bad (f:=3) (p:=[]) ?_ (V00 (by omega) (o0.trans (V0z (m:=[]) rfl m1 r1 (by simp; omega) f1 (by rw [ht1]; exact V04 (.inr (by decide))) ha))) (by decide) (by simp; omega)
  rw [Kfw.eq_def]
  simp [e0,f0,i0,Ksi,w0,e1,f1,hp0,hsm,Kf6]
 rw [show (x1.fty == p)=true from beq_iff_eq.2 hqq] at hsm ha
 have o1:=V10 (out:=[y0]) (nd:=[Kxg a]) (us:=[Kxg []]) (w:=1) (t:=⟨10,N,ty,[k0,k1]⟩) (m:=[]) rfl m1 r1 (by simp; omega) f1 (by rw [ht1]; exact V04 (.inr (by decide))) ha nb (by simp <;> omega) (by simp) (by simp) (by simp) (by simp)
 have hf:=V0o (N:=N) (ty:=ty) (ks:=[k0,k1]) (ctx:=ctx) (us:=[Kxg [],Kxg []]) (z:=Kxg (List.replicate ctx.length 0)) (y0:=y0) (y1:=y1) hs hg (p:=p) (q:=q) (by rw [r0.ty,hq,hcg]) P ba bb (by omega) (by omega)
 have im:=V1c (q:=q) (ns:=Kxt s n a (Kxu s n g b)) (kids:=[y0,y1]) Lq (V01 (p0:=⟨s⟩) (t:=⟨10,N,ty,[k0,k1]⟩) (ctx:=ctx) (by omega) (o0.trans (o1.trans (Kzs (Nat.le_refl _)))) hf)
 have lsc:(Kxu s n g b).length=ctx.length:=by unfold Kxu; rw [List.length_map]; exact lb
 refine V0u.good (q:=q) (ns:=Kxt s n a (Kxu s n g b)) (kids:=[y0,y1]) ?_ im (by omega) P.yb (by unfold Kxt; rw [List.length_zipWith]; omega) (Kxz hs ba (Ky0 hs hg bb)) rfl (kd2 (V0t.mk' (V11 (by decide) rfl) r0 f0 (fun _ h=>by cases h) rfl) (V0t.mk' (V11 (by decide) rfl) r1 f1 (fun _ h=>by cases h) rfl))
 have hgr:Kev c0=some (g:Int):=by rw [hcg]; exact V1u g h15
 rw [Kfw.eq_def]
 simp [e0,f0,i0,Ksi,w0,e1,f1,hp0,hp1,hsm,hgr,na,nb,Ky5 hs g hg a b ba bb (by omega) (by omega)]
theorem V1z (ih:V1b s n (tsz (⟨5,N,ty,ks⟩:K01))) (h:tOk (gN s.fSize true) (yN s.fSize true) ctx.length ⟨5,N,ty,ks⟩=true) (hc:∀ q ∈ ctx,TyS s q) (hb:ctx.length + 2 * tsz (⟨5,N,ty,ks⟩:K01) ≤ 1000000):∃ x y,V0u s n ctx ⟨5,N,ty,ks⟩ x y:=by
 obtain ⟨k0,k1,rfl,p0,p1⟩:=nd2 h (Nat.le_refl _) rfl
 have hz:=Kxd 5 N ty k0 k1
 obtain ⟨g,hN,hg⟩:=Kzj hs (Kzl h rfl)
 simp only at hN
 subst hN
 obtain ⟨x0,y0,r0⟩:=ih k0 ctx p0 hc (by omega)
 by_cases f0:x0.ffault=0
 rotate_left
 ·exact V1d (by decide) (by decide) (by decide) hb r0 f0
 obtain ⟨g0,q0,a,na,la,ba⟩:=r0.gd f0
 obtain ⟨c0,t0,ht0,hn0,hz0⟩:=V1g hs g0
 have L0:=Kz7 g0
 have e0:Kfy (s,ctx,⟨5,(g:Int),ty,[k0,k1]⟩,0)=some x0:=V0v (i:=0) rfl r0 f0
 have C:=V1x hs g0 ht0
 have i0:idx x0.fty 0=some c0:=by rw [ht0]; rfl
 by_cases z0:(Ksm c0).1=1
 rotate_left
 ·have w0:c0 ≠ 1:=fun h=>z0 (C.one.1 h)
  refine V0u.bad (f:=4) (p:=[]) ?_ (V00 (by omega) (V0y (m:=[]) rfl (V17 (by decide)) r0 (by simp; omega) f0 (by rw [ht0,V08 hs hg,if_neg z0]) (by decide))) (by decide) (by simp; omega)
  rw [Kfw.eq_def]
  simp [e0,f0,i0,Kfx.eq_def,w0,Kf6]
 obtain ⟨p,q,hcg,hq,P⟩:=C.pair z0
 have hle:=sLe hs.tab (Kxn hs) hg
 cases hl:le s n 1 g with
 | false =>
  have hl2:Kbo (s,1,(g:Int))=some false:=by rw [← hl]; exact hle
  refine V0u.bad (f:=8) (p:=[]) ?_ (V00 (by omega) (V0y (m:=[]) rfl (V17 (by decide)) r0 (by simp; omega) f0 (by rw [ht0,V08 hs hg,if_pos z0,hl]; rfl) (by decide))) (by decide) (by simp; omega)
  rw [Kfw.eq_def]
  simp [e0,f0,i0,Kfx.eq_def,hcg,hl2,Kf6]
 | true =>
 have hl2:Kbo (s,1,(g:Int))=some true:=by rw [← hl]; exact hle
 have o0:=V10 (out:=[]) (nd:=[]) (us:=[]) (w:=0) (t:=⟨5,(g:Int),ty,[k0,k1]⟩) (m:=[]) rfl (V17 (by decide)) r0 (by simp; omega) f0 (by rw [ht0,V08 hs hg,if_pos z0,hl]; rfl) (V02 (show (5:Int) ≠ 10 by decide)) na (by simp <;> omega) (by simp) (by simp) (by simp) (by simp)
 have hp0:Kes (x0.fty,0)=some p:=by rw [hq,hcg]; exact P.p0
 have hp1:Kes (x0.fty,1)=some q:=by rw [hq,hcg]; exact P.p1
 have ad:Klx (⟨5,(g:Int),ty,[k0,k1]⟩,((1:Nat):Int),y0.fty)=some [q,p]:=by rw [r0.ty,hq,hcg]; exact V13 P
 have hm':∀ z ∈ [q,p],TyS s z:=fun z hz=>by simp at hz; rcases hz with rfl | rfl; exact P.yb; exact P.ya
 have m1:Kzp ⟨5,(g:Int),ty,[k0,k1]⟩ [y0] 1=some [q,p]:=V19 (by decide) ad
 have p1':Kzk s ([q,p] ++ ctx).length k1 (tsz (⟨5,(g:Int),ty,[k0,k1]⟩:K01)):=by
  have e:([q,p] ++ ctx).length=ctx.length + Kts 5 1:=by simp [Kts]
  rw [e]; exact p1
 obtain ⟨x1,y1,r1⟩:=ih k1 ([q,p] ++ ctx) p1' (fun z hz=>by rcases List.mem_append.1 hz with hz | hz; exact hm' z hz; exact hc z hz) (by simp; omega)
 have hwc:=Kyj ctx [q,p] (by simp; omega)
 by_cases f1:x1.ffault=0
 rotate_left
 ·have e1:Kfy (s,q :: p :: ctx,⟨5,(g:Int),ty,[k0,k1]⟩,1)=some ⟨[],[],x1.ffault,1 :: x1.fpath⟩:=V0w (i:=1) rfl r1 (by omega) f1
  refine V0u.bad (f:=x1.ffault) (p:=1 :: x1.fpath) ?_ (V00 (by omega) (o0.trans (V0x (m:=[q,p]) rfl m1 r1 (by omega) (by simp; omega) f1))) f1 (by have:=r1.pl; simp; omega)
  rw [Kfw.eq_def]
  simp [e0,f0,i0,Kfx.eq_def,hcg,hl2,hp0,hp1,hwc,e1,f1]
 obtain ⟨g1,q1,b,nb,lb,bb⟩:=r1.gd f1
 obtain ⟨c1,t1,ht1,hn1,hz1⟩:=V1g hs g1
 have L1:=Kz7 g1
 have e1:Kfy (s,q :: p :: ctx,⟨5,(g:Int),ty,[k0,k1]⟩,1)=some x1:=V0v (i:=1) rfl r1 f1
 have lb':b.length=ctx.length + 2:=by rw [lb]; simp
 obtain ⟨u0,u1,b',rfl⟩:∃ u0 u1 b',b=u0 :: u1 :: b':=by match b,lb' with | u0 :: u1 :: b',_=>exact ⟨u0,u1,b',rfl⟩ | [_],h=>simp at h | [],h=>simp at h
 obtain ⟨hu0,bb1⟩:=Kxx bb
 obtain ⟨hu1,bb'⟩:=Kxx bb1
 have o1:=V10 (out:=[y0]) (nd:=[Kxg a]) (us:=[Kxg []]) (w:=1) (t:=⟨5,(g:Int),ty,[k0,k1]⟩) (m:=[q,p]) rfl m1 r1 (by simp; omega) f1 (by rw [ht1]; exact V04 (.inr (by decide))) (V02 (show (5:Int) ≠ 10 by decide)) nb (by simp <;> omega) (by simp) (by simp) (by simp) (by simp)
 simp only [List.length_cons,List.length_nil,Nat.zero_add,List.drop_succ_cons,List.drop_zero,List.take_succ_cons,List.take_zero,List.nil_append] at o1
 have hl0:=o0.trans (o1.trans (Kzs (Nat.le_refl _)))
 have lbc:b'.length=ctx.length:=by simp at lb'; omega
 have i1:idx x1.fneeds 0=some (u0:Int):=by rw [nb]; rfl
 have hcut:cut x1.fneeds (some (2:Int)) none none=some (Kxg b'):=by
  rw [nb]
  have:=Kzu (l:=Kxg (u0 :: u1 :: b')) (m:=2) (by simp [Kxg])
  exact this
 have hcp:=Kuh (Kxg b') (by rw [Kxh]; omega)
 have i2:idx x1.fneeds 1=some (u1:Int):=by rw [nb]; rfl
 have hle0:=sLe hs.tab hu0 hg
 have hle1:=sLe hs.tab hu1 hg
 have hf:=V0p (ty:=ty) (ks:=[k0,k1]) (ctx:=ctx) (z:=Kxg (List.replicate ctx.length 0)) (y0:=y0) (y1:=y1) (us':=Kxg []) (u:=[u0,u1]) hs hg (fun x hx=>by simp at hx; rcases hx with rfl | rfl; exact hu0; exact hu1) (by simp) ba bb' (by omega) (by omega) (by rw [r1.ty]; omega)
 simp only [List.all_cons,List.all_nil,Bool.and_true] at hf
 have es:=e1
 cases hal:(le s n u0 g && le s n u1 g) with
 | false =>
  rw [hal,if_neg (by decide)] at hf
  refine V0u.bad (f:=9) (p:=[]) ?_ (V01 (by omega) hl0 hf) (by decide) (by simp; omega)
  rw [Kfw.eq_def]
  simp [e0,f0,i0,Kfx.eq_def,hcg,hl2,hp0,hp1,hwc,e1,f1,i1,i2,hcut,hcp,hle0,hle1,Kf6]
  cases q1:le s n u1 g with
  | false=>simp
  | true=>rw [q1,Bool.and_true] at hal; simp [hal]
 | true =>
  rw [hal,if_pos rfl] at hf
  have im:=V1c (q:=y1.fty) (ns:=Kxt s n (Kxu s n g a) b') (kids:=[y0,y1]) (by rw [r1.ty]; omega) (V01 (by omega) hl0 hf)
  rw [r1.ty] at im
  have lsc:(Kxu s n g a).length=ctx.length:=by unfold Kxu; rw [List.length_map]; exact la
  have hsc:=Ky0 hs hg ba
  have hz0:=Ky3 hs hsc
  rw [lsc] at hz0
  have hsum:=Ky5 hs g hg (List.replicate ctx.length 0) a (fun x hx=>by rw [List.eq_of_mem_replicate hx]; exact Kxo hs) ba (by simp; omega) (by simp [la])
  rw [hz0] at hsum
  have hs2:=Ky6 hs (Kxu s n g a) b' hsc bb' (by omega) (by omega)
  refine V0u.good (q:=x1.fty) (ns:=Kxt s n (Kxu s n g a) b') (kids:=[y0,y1]) ?_ im (by omega) g1 (by unfold Kxt; rw [List.length_zipWith]; omega) (Kxz hs hsc bb') rfl (kd2 (V0t.mk' (V11 (by decide) rfl) r0 f0 (fun _ h=>by cases h) rfl) (V0t.mk' ad r1 f1 hm' rfl))
  rw [Kfw.eq_def]
  rw [Bool.and_eq_true] at hal
  simp [e0,f0,i0,Kfx.eq_def,hcg,hl2,hp0,hp1,hwc,e1,f1,i1,i2,hcut,hcp,hle0,hle1,hal.1,hal.2,na,Kyi ctx.length (by omega),hsum,hs2]
theorem V20 (ih:V1b s n (tsz (⟨12,N,ty,ks⟩:K01))) (h:tOk (gN s.fSize true) (yN s.fSize true) ctx.length ⟨12,N,ty,ks⟩=true) (hc:∀ q ∈ ctx,TyS s q) (hb:ctx.length + 2 * tsz (⟨12,N,ty,ks⟩:K01) ≤ 1000000):∃ x y,V0u s n ctx ⟨12,N,ty,ks⟩ x y:=by
 obtain ⟨k0,k1,rfl,p0,p1⟩:=nd2 h (Nat.le_refl _) rfl
 have hz:=Kxd 12 N ty k0 k1
 obtain ⟨g,hN,hg⟩:=Kzj hs (Kzl h rfl)
 simp only at hN
 subst hN
 obtain ⟨x0,y0,r0⟩:=ih k0 ctx p0 hc (by omega)
 by_cases f0:x0.ffault=0
 rotate_left
 ·exact V1d (by decide) (by decide) (by decide) hb r0 f0
 obtain ⟨g0,q0,a,na,la,ba⟩:=r0.gd f0
 obtain ⟨c0,t0,ht0,hn0,hz0⟩:=V1g hs g0
 have L0:=Kz7 g0
 have e0:Kfy (s,ctx,⟨12,(g:Int),ty,[k0,k1]⟩,0)=some x0:=V0v (i:=0) rfl r0 f0
 have C:=V1x hs g0 ht0
 have i0:idx x0.fty 0=some c0:=by rw [ht0]; rfl
 by_cases z0:(Ksm c0).1=4
 rotate_left
 ·have w0:Ksg c0=false:=by cases h:Ksg c0 with | true=>exact absurd (C.boxB.1 h) z0 | false=>rfl
  refine V0u.bad (f:=7) (p:=[]) ?_ (V00 (by omega) (V0y (m:=[]) rfl (V17 (by decide)) r0 (by simp; omega) f0 (by rw [ht0,V0a hs hg,if_neg z0]) (by decide))) (by decide) (by simp; omega)
  rw [Kfw.eq_def]
  simp [e0,f0,i0,Kfx.eq_def,Ksj,w0,Kf6]
 obtain ⟨m,p,hm,h15,hcg,hq,P⟩:=C.box z0
 have w0:Ksg c0=true:=C.boxB.2 z0
 have hle:=sLe hs.tab (Kxn hs) hg
 cases hl:le s n 1 g with
 | false =>
  have hl2:Kbo (s,1,(g:Int))=some false:=by rw [← hl]; exact hle
  refine V0u.bad (f:=8) (p:=[]) ?_ (V00 (by omega) (V0y (m:=[]) rfl (V17 (by decide)) r0 (by simp; omega) f0 (by rw [ht0,V0a hs hg,if_pos z0,hl]; rfl) (by decide))) (by decide) (by simp; omega)
  rw [Kfw.eq_def]
  simp [e0,f0,i0,Kfx.eq_def,Ksj,w0,hl2,Kf6]
 | true =>
 have hl2:Kbo (s,1,(g:Int))=some true:=by rw [← hl]; exact hle
 have o0:=V10 (out:=[]) (nd:=[]) (us:=[]) (w:=0) (t:=⟨12,(g:Int),ty,[k0,k1]⟩) (m:=[]) rfl (V17 (by decide)) r0 (by simp; omega) f0 (by rw [ht0,V0a hs hg,if_pos z0,hl]; rfl) (V02 (show (12:Int) ≠ 10 by decide)) na (by simp <;> omega) (by simp) (by simp) (by simp) (by simp)
 have hp0:Kes (x0.fty,0)=some p:=by rw [hq,hcg]; exact P.p0
 have ad:Klx (⟨12,(g:Int),ty,[k0,k1]⟩,((1:Nat):Int),y0.fty)=some [p]:=by rw [r0.ty,hq,hcg]; exact V16 P
 have hm':∀ z ∈ [p],TyS s z:=fun z hz=>by simp at hz; rw [hz]; exact P.ya
 have hgr:Kev c0=some (m:Int):=by rw [hcg]; exact V1v m h15
 have m1:Kzp ⟨12,(g:Int),ty,[k0,k1]⟩ [y0] 1=some [p]:=V19 (by decide) ad
 have p1':Kzk s ([p] ++ ctx).length k1 (tsz (⟨12,(g:Int),ty,[k0,k1]⟩:K01)):=by
  have e:([p] ++ ctx).length=ctx.length + Kts 12 1:=by simp [Kts]
  rw [e]; exact p1
 obtain ⟨x1,y1,r1⟩:=ih k1 ([p] ++ ctx) p1' (fun z hz=>by rcases List.mem_append.1 hz with hz | hz; exact hm' z hz; exact hc z hz) (by simp; omega)
 have hwc:=Kyj ctx [p] (by simp; omega)
 by_cases f1:x1.ffault=0
 rotate_left
 ·have e1:Kfy (s,p :: ctx,⟨12,(g:Int),ty,[k0,k1]⟩,1)=some ⟨[],[],x1.ffault,1 :: x1.fpath⟩:=V0w (i:=1) rfl r1 (by omega) f1
  refine V0u.bad (f:=x1.ffault) (p:=1 :: x1.fpath) ?_ (V00 (by omega) (o0.trans (V0x (m:=[p]) rfl m1 r1 (by omega) (by simp; omega) f1))) f1 (by have:=r1.pl; simp; omega)
  rw [Kfw.eq_def]
  simp [e0,f0,i0,Kfx.eq_def,Ksj,w0,hl2,hp0,hwc,e1,f1]
 obtain ⟨g1,q1,b,nb,lb,bb⟩:=r1.gd f1
 obtain ⟨c1,t1,ht1,hn1,hz1⟩:=V1g hs g1
 have L1:=Kz7 g1
 have e1:Kfy (s,p :: ctx,⟨12,(g:Int),ty,[k0,k1]⟩,1)=some x1:=V0v (i:=1) rfl r1 f1
 have lb':b.length=ctx.length + 1:=by rw [lb]; simp
 obtain ⟨u0,b',rfl⟩:∃ u0 b',b=u0 :: b':=by match b,lb' with | u0 :: b',_=>exact ⟨u0,b',rfl⟩ | [],h=>simp at h
 obtain ⟨hu0,bb'⟩:=Kxx bb
 have o1:=V10 (out:=[y0]) (nd:=[Kxg a]) (us:=[Kxg []]) (w:=1) (t:=⟨12,(g:Int),ty,[k0,k1]⟩) (m:=[p]) rfl m1 r1 (by simp; omega) f1 (by rw [ht1]; exact V04 (.inr (by decide))) (V02 (show (12:Int) ≠ 10 by decide)) nb (by simp <;> omega) (by simp) (by simp) (by simp) (by simp)
 simp only [List.length_cons,List.length_nil,Nat.zero_add,List.drop_succ_cons,List.drop_zero,List.take_succ_cons,List.take_zero,List.nil_append] at o1
 have hl0:=o0.trans (o1.trans (Kzs (Nat.le_refl _)))
 have lbc:b'.length=ctx.length:=by simp at lb'; omega
 have i1:idx x1.fneeds 0=some (u0:Int):=by rw [nb]; rfl
 have hcut:cut x1.fneeds (some (1:Int)) none none=some (Kxg b'):=by
  rw [nb]
  have:=Kzu (l:=Kxg (u0 :: b')) (m:=1) (by simp [Kxg])
  exact this
 have hcp:=Kuh (Kxg b') (by rw [Kxh]; omega)
 have hmul:=Krl hs.tab hg hm
 have htm:=Krg hs.tab hg hm
 have hle0:=sLe hs.tab hu0 htm
 have hf:=V0q (ty:=ty) (ks:=[k0,k1]) (ctx:=ctx) (z:=Kxg (List.replicate ctx.length 0)) (y0:=y0) (y1:=y1) (us':=Kxg []) (u:=[u0]) hs hg hm (p:=p) (by rw [r0.ty,hq,hcg]) (fun x hx=>by simp at hx; rw [hx]; exact hu0) (by simp) ba bb' (by omega) (by omega) (by rw [r1.ty]; omega)
 simp only [List.all_cons,List.all_nil,Bool.and_true] at hf
 have es:=e1
 cases hal:(le s n u0 (ti s n g m)) with
 | false =>
  rw [hal,if_neg (by decide)] at hf
  refine V0u.bad (f:=9) (p:=[]) ?_ (V01 (by omega) hl0 hf) (by decide) (by simp; omega)
  rw [Kfw.eq_def]
  simp [e0,f0,i0,Kfx.eq_def,Ksj,w0,hl2,hp0,hwc,e1,f1,i1,hcut,hcp,hgr,hmul,hle0,hal,Kf6]
 | true =>
  rw [hal,if_pos rfl] at hf
  have im:=V1c (q:=y1.fty) (ns:=Kxt s n (Kxu s n g a) b') (kids:=[y0,y1]) (by rw [r1.ty]; omega) (V01 (by omega) hl0 hf)
  rw [r1.ty] at im
  have lsc:(Kxu s n g a).length=ctx.length:=by unfold Kxu; rw [List.length_map]; exact la
  have hsc:=Ky0 hs hg ba
  have hz0:=Ky3 hs hsc
  rw [lsc] at hz0
  have hsum:=Ky5 hs g hg (List.replicate ctx.length 0) a (fun x hx=>by rw [List.eq_of_mem_replicate hx]; exact Kxo hs) ba (by simp; omega) (by simp [la])
  rw [hz0] at hsum
  have hs2:=Ky6 hs (Kxu s n g a) b' hsc bb' (by omega) (by omega)
  refine V0u.good (q:=x1.fty) (ns:=Kxt s n (Kxu s n g a) b') (kids:=[y0,y1]) ?_ im (by omega) g1 (by unfold Kxt; rw [List.length_zipWith]; omega) (Kxz hs hsc bb') rfl (kd2 (V0t.mk' (V11 (by decide) rfl) r0 f0 (fun _ h=>by cases h) rfl) (V0t.mk' ad r1 f1 hm' rfl))
  rw [Kfw.eq_def]
  simp [e0,f0,i0,Kfx.eq_def,Ksj,w0,hl2,hp0,hwc,e1,f1,i1,hcut,hcp,hgr,hmul,hle0,hal,na,Kyi ctx.length (by omega),hsum,hs2]
theorem V21 (ih:V1b s n (tsz (⟨8,N,ty,ks⟩:K01))) (h:tOk (gN s.fSize true) (yN s.fSize true) ctx.length ⟨8,N,ty,ks⟩=true) (hc:∀ q ∈ ctx,TyS s q) (hb:ctx.length + 2 * tsz (⟨8,N,ty,ks⟩:K01) ≤ 1000000):∃ x y,V0u s n ctx ⟨8,N,ty,ks⟩ x y:=by
 obtain ⟨k0,k1,k2,rfl,p0,p1,p2⟩:=nd3 h (Nat.le_refl _) rfl
 have hz:=Kxe 8 N ty k0 k1 k2
 obtain ⟨g,hN,hg⟩:=Kzj hs (Kzl h rfl)
 simp only at hN
 subst hN
 obtain ⟨x0,y0,r0⟩:=ih k0 ctx p0 hc (by omega)
 by_cases f0:x0.ffault=0
 rotate_left
 ·exact V1d (by decide) (by decide) (by decide) hb r0 f0
 obtain ⟨g0,q0,a,na,la,ba⟩:=r0.gd f0
 obtain ⟨c0,t0,ht0,hn0,hz0⟩:=V1g hs g0
 have L0:=Kz7 g0
 have e0:Kfy (s,ctx,⟨8,(g:Int),ty,[k0,k1,k2]⟩,0)=some x0:=V0v (i:=0) rfl r0 f0
 have C:=V1x hs g0 ht0
 have i0:idx x0.fty 0=some c0:=by rw [ht0]; rfl
 by_cases z0:(Ksm c0).1=2
 rotate_left
 ·have w0:c0 ≠ 2:=fun h=>z0 (C.two.1 h)
  refine V0u.bad (f:=5) (p:=[]) ?_ (V00 (by omega) (V0y (m:=[]) rfl (V17 (by decide)) r0 (by simp; omega) f0 (by rw [ht0,V09 hs hg,if_neg z0]) (by decide))) (by decide) (by simp; omega)
  rw [Kfw.eq_def]
  simp [e0,f0,i0,Kfx.eq_def,w0,Kf6]
 obtain ⟨p,q,hcg,hq,P⟩:=C.sum z0
 have hle:=sLe hs.tab (Kxn hs) hg
 cases hl:le s n 1 g with
 | false =>
  have hl2:Kbo (s,1,(g:Int))=some false:=by rw [← hl]; exact hle
  refine V0u.bad (f:=8) (p:=[]) ?_ (V00 (by omega) (V0y (m:=[]) rfl (V17 (by decide)) r0 (by simp; omega) f0 (by rw [ht0,V09 hs hg,if_pos z0,hl]; rfl) (by decide))) (by decide) (by simp; omega)
  rw [Kfw.eq_def]
  simp [e0,f0,i0,Kfx.eq_def,hcg,hl2,Kf6]
 | true =>
 have hl2:Kbo (s,1,(g:Int))=some true:=by rw [← hl]; exact hle
 have o0:=V10 (out:=[]) (nd:=[]) (us:=[]) (w:=0) (t:=⟨8,(g:Int),ty,[k0,k1,k2]⟩) (m:=[]) rfl (V17 (by decide)) r0 (by simp; omega) f0 (by rw [ht0,V09 hs hg,if_pos z0,hl]; rfl) (V02 (show (8:Int) ≠ 10 by decide)) na (by simp <;> omega) (by simp) (by simp) (by simp) (by simp)
 have hp0:Kes (x0.fty,0)=some p:=by rw [hq,hcg]; exact P.p0
 have hp1:Kes (x0.fty,1)=some q:=by rw [hq,hcg]; exact P.p1
 have ad1:Klx (⟨8,(g:Int),ty,[k0,k1,k2]⟩,((1:Nat):Int),y0.fty)=some [p]:=by rw [r0.ty,hq,hcg]; exact V14 P
 have ad2:Klx (⟨8,(g:Int),ty,[k0,k1,k2]⟩,((2:Nat):Int),y0.fty)=some [q]:=by rw [r0.ty,hq,hcg]; exact V15 P
 have hm1:∀ z ∈ [p],TyS s z:=fun z hz=>by simp at hz; rw [hz]; exact P.ya
 have hm2:∀ z ∈ [q],TyS s z:=fun z hz=>by simp at hz; rw [hz]; exact P.yb
 have m1:Kzp ⟨8,(g:Int),ty,[k0,k1,k2]⟩ [y0] 1=some [p]:=V19 (by decide) ad1
 have p1':Kzk s ([p] ++ ctx).length k1 (tsz (⟨8,(g:Int),ty,[k0,k1,k2]⟩:K01)):=by
  have e:([p] ++ ctx).length=ctx.length + Kts 8 1:=by simp [Kts]
  rw [e]; exact p1
 obtain ⟨x1,y1,r1⟩:=ih k1 ([p] ++ ctx) p1' (fun z hz=>by rcases List.mem_append.1 hz with hz | hz; exact hm1 z hz; exact hc z hz) (by simp; omega)
 have hw1:=Kyj ctx [p] (by simp; omega)
 by_cases f1:x1.ffault=0
 rotate_left
 ·have e1:Kfy (s,p :: ctx,⟨8,(g:Int),ty,[k0,k1,k2]⟩,1)=some ⟨[],[],x1.ffault,1 :: x1.fpath⟩:=V0w (i:=1) rfl r1 (by omega) f1
  refine V0u.bad (f:=x1.ffault) (p:=1 :: x1.fpath) ?_ (V00 (by omega) (o0.trans (V0x (m:=[p]) rfl m1 r1 (by omega) (by simp; omega) f1))) f1 (by have:=r1.pl; simp; omega)
  rw [Kfw.eq_def]
  simp [e0,f0,i0,Kfx.eq_def,hcg,hl2,hp0,hp1,hw1,e1,f1]
 obtain ⟨g1,q1,b,nb,lb,bb⟩:=r1.gd f1
 obtain ⟨c1,t1,ht1,hn1,hz1⟩:=V1g hs g1
 have L1:=Kz7 g1
 have e1:Kfy (s,p :: ctx,⟨8,(g:Int),ty,[k0,k1,k2]⟩,1)=some x1:=V0v (i:=1) rfl r1 f1
 have lb':b.length=ctx.length + 1:=by rw [lb]; simp
 obtain ⟨u0,b',rfl⟩:∃ u0 b',b=u0 :: b':=by match b,lb' with | u0 :: b',_=>exact ⟨u0,b',rfl⟩ | [],h=>simp at h
 obtain ⟨hu0,bb'⟩:=Kxx bb
 have lbc:b'.length=ctx.length:=by simp at lb'; omega
 have i1:idx x1.fneeds 0=some (u0:Int):=by rw [nb]; rfl
 have hcut1:cut x1.fneeds (some (1:Int)) none none=some (Kxg b'):=by rw [nb]; exact Kwl _ _
 have hcp1:=Kuh (Kxg b') (by rw [Kxh]; omega)
 have o1:=V10 (out:=[y0]) (nd:=[Kxg a]) (us:=[Kxg []]) (w:=1) (t:=⟨8,(g:Int),ty,[k0,k1,k2]⟩) (m:=[p]) rfl m1 r1 (by simp; omega) f1 (by rw [ht1]; exact V04 (.inr (by decide))) (V02 (show (8:Int) ≠ 10 by decide)) nb (by simp <;> omega) (by simp) (by simp) (by simp) (by simp)
 simp only [List.length_cons,List.length_nil,Nat.zero_add,List.drop_succ_cons,List.drop_zero,List.take_succ_cons,List.take_zero,List.nil_append,List.cons_append] at o1
 have m2:Kzp ⟨8,(g:Int),ty,[k0,k1,k2]⟩ [y0,y1] 2=some [q]:=V19 (by decide) ad2
 have p2':Kzk s ([q] ++ ctx).length k2 (tsz (⟨8,(g:Int),ty,[k0,k1,k2]⟩:K01)):=by
  have e:([q] ++ ctx).length=ctx.length + Kts 8 2:=by simp [Kts]
  rw [e]; exact p2
 obtain ⟨x2,y2,r2⟩:=ih k2 ([q] ++ ctx) p2' (fun z hz=>by rcases List.mem_append.1 hz with hz | hz; exact hm2 z hz; exact hc z hz) (by simp; omega)
 have hw2:=Kyj ctx [q] (by simp; omega)
 by_cases f2:x2.ffault=0
 rotate_left
 ·have e2:Kfy (s,q :: ctx,⟨8,(g:Int),ty,[k0,k1,k2]⟩,2)=some ⟨[],[],x2.ffault,2 :: x2.fpath⟩:=V0w (i:=2) rfl r2 (by omega) f2
  refine V0u.bad (f:=x2.ffault) (p:=2 :: x2.fpath) ?_ (V00 (by omega) (o0.trans (o1.trans (V0x (m:=[q]) rfl m2 r2 (by omega) (by simp; omega) f2)))) f2 (by have:=r2.pl; simp; omega)
  rw [Kfw.eq_def]
  simp [e0,f0,i0,Kfx.eq_def,hcg,hl2,hp0,hp1,hw1,e1,f1,hcut1,hcp1,hw2,e2,f2]
 obtain ⟨g2,q2,d,nd,ld,bd⟩:=r2.gd f2
 obtain ⟨c2,t2,ht2,hn2,hz2⟩:=V1g hs g2
 have L2:=Kz7 g2
 have e2:Kfy (s,q :: ctx,⟨8,(g:Int),ty,[k0,k1,k2]⟩,2)=some x2:=V0v (i:=2) rfl r2 f2
 have ld':d.length=ctx.length + 1:=by rw [ld]; simp
 obtain ⟨v0,d',rfl⟩:∃ v0 d',d=v0 :: d':=by match d,ld' with | v0 :: d',_=>exact ⟨v0,d',rfl⟩ | [],h=>simp at h
 obtain ⟨hv0,bd'⟩:=Kxx bd
 have ldc:d'.length=ctx.length:=by simp at ld'; omega
 have i2:idx x2.fneeds 0=some (v0:Int):=by rw [nd]; rfl
 have hcut2:cut x2.fneeds (some (1:Int)) none none=some (Kxg d'):=by rw [nd]; exact Kwl _ _
 have o2:=V10 (out:=[y0,y1]) (nd:=[Kxg a,Kxg b']) (us:=[Kxg [],Kxg [u0]]) (w:=2) (t:=⟨8,(g:Int),ty,[k0,k1,k2]⟩) (m:=[q]) rfl m2 r2 (by simp; omega) f2 (by rw [ht2]; exact V04 (.inr (by decide))) (V02 (show (8:Int) ≠ 10 by decide)) nd (by simp <;> omega) (by simp) (by simp) (by simp) (by simp)
 simp only [List.length_cons,List.length_nil,Nat.zero_add,List.drop_succ_cons,List.drop_zero,List.take_succ_cons,List.take_zero,List.nil_append,List.cons_append] at o2
 have hl0:=o0.trans (o1.trans (o2.trans (Kzs (Nat.le_refl _))))
 have hle0:=sLe hs.tab hu0 hg
 have hle1:=sLe hs.tab hv0 hg
 have hf:=V0r (ty:=ty) (ks:=[k0,k1,k2]) (ctx:=ctx) (z:=Kxg (List.replicate ctx.length 0)) (y0:=y0) (y1:=y1) (y2:=y2) (us':=Kxg []) (u:=[u0]) (v:=[v0]) hs hg (fun x hx=>by simp at hx; rw [hx]; exact hu0) (by simp) (fun x hx=>by simp at hx; rw [hx]; exact hv0) (by simp) ba bb' bd' (by omega) (by omega) (by omega) (by rw [r2.ty]; omega) (by rw [r1.ty]; omega)
 simp only [List.all_cons,List.all_nil,Bool.and_true] at hf
 rw [r1.ty,r2.ty] at hf
 have hsm:=Kws x1.fty x2.fty (by omega)
 have hj:=Ky8 hs b' d' bb' bd' (by omega) (by omega)
 have lj:(Kxv s n b' d').length=ctx.length:=by unfold Kxv; rw [List.length_zipWith]; omega
 by_cases hqq:x1.fty=x2.fty
 rotate_left
 ·rw [if_neg hqq] at hf
  rw [show (x1.fty == x2.fty)=false from beq_eq_false_iff_ne.2 hqq] at hsm
  refine V0u.bad (f:=3) (p:=[]) ?_ (V01 (by omega) hl0 hf) (by decide) (by simp; omega)
  rw [Kfw.eq_def]
  simp [e0,f0,i0,Kfx.eq_def,hcg,hl2,hp0,hp1,hw1,e1,f1,hcut1,hcp1,hw2,e2,f2,hsm,Kf6]
 rw [if_pos hqq] at hf
 rw [show (x1.fty == x2.fty)=true from beq_iff_eq.2 hqq] at hsm
 by_cases hal:le s n u0 g=true∧le s n v0 g=true
 rotate_left
 ·rw [if_neg hal] at hf
  refine V0u.bad (f:=9) (p:=[]) ?_ (V01 (by omega) hl0 hf) (by decide) (by simp; omega)
  rw [Kfw.eq_def]
  simp [e0,f0,i0,Kfx.eq_def,hcg,hl2,hp0,hp1,hw1,e1,f1,hcut1,hcp1,hw2,e2,f2,hsm,i1,i2,hle0,hle1,hcut2,hj,Kf6]
  cases q1:le s n v0 g with
  | false=>simp
  | true =>
   cases q2:le s n u0 g with
   | false=>simp
   | true=>exact absurd ⟨q2,q1⟩ hal
 rw [if_pos hal] at hf
 have im:=V1c (q:=x1.fty) (ns:=Kxt s n (Kxu s n g a) (Kxv s n b' d')) (kids:=[y0,y1,y2]) (by omega) (V01 (by omega) hl0 hf)
 have lsc:(Kxu s n g a).length=ctx.length:=by unfold Kxu; rw [List.length_map]; exact la
 have hsc:=Ky0 hs hg ba
 have hz0:=Ky3 hs hsc
 rw [lsc] at hz0
 have hsum:=Ky5 hs g hg (List.replicate ctx.length 0) a (fun x hx=>by rw [List.eq_of_mem_replicate hx]; exact Kxo hs) ba (by simp; omega) (by simp [la])
 rw [hz0] at hsum
 have hs2:=Ky6 hs (Kxu s n g a) (Kxv s n b' d') hsc (Ky1 hs bb' bd') (by omega) (by omega)
 refine V0u.good (q:=x1.fty) (ns:=Kxt s n (Kxu s n g a) (Kxv s n b' d')) (kids:=[y0,y1,y2]) ?_ im (by omega) g1 (by unfold Kxt; rw [List.length_zipWith]; omega) (Kxz hs hsc (Ky1 hs bb' bd')) rfl (kd3 (V0t.mk' (V11 (by decide) rfl) r0 f0 (fun _ h=>by cases h) rfl) (V0t.mk' ad1 r1 f1 hm1 rfl) (V0t.mk' ad2 r2 f2 hm2 rfl))
 rw [Kfw.eq_def]
 simp [e0,f0,i0,Kfx.eq_def,hcg,hl2,hp0,hp1,hw1,e1,f1,hcut1,hcp1,hw2,e2,f2,hsm,i1,i2,hle0,hle1,hal.1,hal.2,hcut2,hj,na,Kyi ctx.length (by omega),hsum,hs2]
theorem V22:∀ (m:Nat) (t:K01) (ctx:List (List Int)),tsz t ≤ m→tOk (gN s.fSize true) (yN s.fSize true) ctx.length t=true→(∀ q ∈ ctx,TyS s q)→ctx.length + 2 * tsz t ≤ 1000000→∃ x y,V0u s n ctx t x y
 | 0,t,ctx,hm,_,_,_=>by obtain ⟨op,N,ty,ks⟩:=t; rw [tsz] at hm; omega
 | m + 1,t,ctx,hm,h,hc,hb=>by
  have ih:V1b s n (tsz t):=fun k c hk hc hb=>V22 m k c (by have:=hk.sz; omega) hk.ok hc hb
  obtain ⟨op,N,ty,ks⟩:=t
  have hop:=(Kug (Kud h).1).1
  simp only at hop
  rcases Ktm hop with rfl | rfl | rfl | rfl | rfl | rfl | rfl | rfl | rfl | rfl | rfl | rfl | rfl
  ·exact V1e hs rfl h hc hb
  ·exact V1f hs rfl h hb
  ·exact V1m hs ih h hc hb
  ·exact V1n hs ih h hc hb
  ·exact V1l hs ih h hc hb
  ·exact V1z hs ih h hc hb
  ·exact V1h hs ih h hc hb
  ·exact V1i hs ih h hc hb
  ·exact V21 hs ih h hc hb
  ·exact V1k hs ih h hc hb
  ·exact V1y hs ih h hc hb
  ·exact V1j hs ih h hc hb
  ·exact V20 hs ih h hc hb
end
theorem V23 {l:List (List Int)} {v:List Int} (h:v ∈ l):v.length ≤ lms l:=by
 have:=Kwj h
 unfold lms; omega
theorem V24 {s:K00} {ctx:List (List Int)} {t:K01} (h:Kz4 s ctx t=true):Kxl s s.fSize.toNat∧ctx.length ≤ 8∧(∀ q ∈ ctx,TyS s q)∧tsz t ≤ 400∧tOk (gN s.fSize true) (yN s.fSize true) ctx.length t=true:=by
 unfold Kz4 Kyu Kx1 at h
 simp only [Bool.and_eq_true,decide_eq_true_eq,List.all_eq_true] at h
 exact ⟨Kxm h.1.1,h.1.2.1,fun q hq=>h.1.2.2 q hq,h.2.1.2,h.2.2⟩
theorem V25 {s:K00} {ctx:List (List Int)} {t:K01} (h:Kz4 s ctx t=true):∃ x y,V0u s s.fSize.toNat ctx t x y:=by
 obtain ⟨h1,h2,h3,h4,h5⟩:=V24 h
 exact V22 h1 (tsz t) t ctx (Nat.le_refl _) h5 h3 (by omega)
theorem V26 {s:K00} {ctx:List (List Int)} {t:K01} (hc:lms ctx ≤ 1048576) (ht:tms t ≤ 1099511627776) :
  (Kz4 s ctx t=false∧Kr5 (s,ctx,t)=some false∧Kpc (s,ctx,t)=some none) ∨
  (Kz4 s ctx t=true∧Kr5 (s,ctx,t)=some true∧∃ x y,V0u s s.fSize.toNat ctx t x y∧Kpc (s,ctx,t)=some (some y)):=by
 have hl:∀ ty ∈ ctx,ty.length ≤ 1099511627776:=fun ty h=>by have:=V23 h; omega
 have hc':ctx.length ≤ 1048576:=by unfold lms at hc; omega
 have h1:=Kz5 s ctx t hc' hl ht
 have h2:=Kz6 s ctx t hc' hl ht
 cases h:Kz4 s ctx t with
 | false=>rw [h] at h1 h2; exact .inl ⟨rfl,h1,by simpa using h2⟩
 | true =>
  rw [h] at h1 h2
  obtain ⟨x,y,r⟩:=V25 h
  refine .inr ⟨rfl,h1,x,y,r,?_⟩
  rw [if_pos rfl,r.im,bs] at h2
  exact h2
theorem V27 (s:K00) (ctx:List (List Int)) (t:K01) (hc:lms ctx ≤ 1048576) (ht:tms t ≤ 1099511627776) :
  (Kr6 (s,ctx,t)=some ([],[],false)∧Kpi (s,ctx,t)=some ([],[],false)∧(Kz4 s ctx t=false∨∃ x y,V0u s s.fSize.toNat ctx t x y∧x.ffault ≠ 0)) ∨
  ∃ x y,V0u s s.fSize.toNat ctx t x y∧x.ffault=0∧Kz4 s ctx t=true∧Kr6 (s,ctx,t)=some (x.fty,x.fneeds,true)∧Kpi (s,ctx,t)=some (x.fty,x.fneeds,true)∧Kpc (s,ctx,t)=some (some y):=by
 unfold Kr6 Kpi
 simp only
 rcases V26 (s:=s) hc ht with ⟨h0,h1,h2⟩ | ⟨h0,h1,x,y,r,h2⟩
 ·rw [h1,h2]
  exact .inl ⟨rfl,rfl,.inl h0⟩
 ·rw [h1,h2,bs,bs,if_pos rfl,r.sp,bs]
  by_cases hf:x.ffault=0
  ·obtain ⟨g,_,ns,hn,hl,_⟩:=r.gd hf
   have:=Kz7 g
   obtain ⟨_,h8,_⟩:=V24 h0
   refine .inr ⟨x,y,r,hf,h0,by rw [if_neg (by simp [hf])],?_,rfl⟩
   simp only
   rw [if_neg (by rw [r.fa]; simp [hf]),r.ty,Kui x.fty (by omega),bs,r.ne,Kui x.fneeds (by rw [hn,Kxh]; omega),bs]
  ·refine .inl ⟨by rw [if_pos (bne_iff_ne.2 hf)],?_,.inr ⟨x,y,r,hf⟩⟩
   simp only
   rw [if_pos (by rw [r.fa]; exact bne_iff_ne.2 hf)]
end Go.Am
