/- Plain laws of the printed functions. -/
import Derived.Test.YtckgdfakjjdodaaGreatPERA0
set_option linter.unusedSimpArgs false
set_option linter.unusedVariables false
namespace Go.Am
theorem Kvq {v:K01} (h:vB .num v=true):∃ N,v=⟨1,N,[],[]⟩∧0 ≤ N∧N ≤ 2:=by
 obtain ⟨op,N,ty,ks⟩:=v
 simp only [vB,Bool.and_eq_true] at h
 obtain ⟨⟨⟨h1,h2⟩,h3⟩,h4⟩:=h
 have h1:=eq_of_beq h1
 have h3:=Kv4 h3
 have h4:=Kv4 h4
 subst h1 h3 h4
 unfold inB at h2
 simp only [Bool.and_eq_true,decide_eq_true_eq] at h2
 exact ⟨N,rfl,h2.1,h2.2⟩
theorem Kvr {a b:Ty} {v:K01} (h:vB (.bin 1 a b) v=true):∃ k m,v=⟨4,0,[],[k,m]⟩∧vB a k=true∧vB b m=true:=by
 obtain ⟨op,N,ty,ks⟩:=v
 rw [Kv1,if_pos rfl] at h
 simp only [Bool.and_eq_true] at h
 obtain ⟨⟨⟨h1,h2⟩,h3⟩,h4⟩:=h
 have h1:=eq_of_beq h1
 have h2:=eq_of_beq h2
 have h3:=Kv4 h3
 subst h1 h2 h3
 match ks,h4 with
 | [k,m],h4 =>
  simp only [Bool.and_eq_true] at h4
  exact ⟨k,m,rfl,h4.1,h4.2⟩
theorem Kvs {a b:Ty} {v:K01} (h:vB (.bin 2 a b) v=true):(∃ k,v=⟨6,0,b.code,[k]⟩∧vB a k=true)∨(∃ k,v=⟨7,0,a.code,[k]⟩∧vB b k=true):=by
 obtain ⟨op,N,ty,ks⟩:=v
 rw [Kv1,if_neg (by decide)] at h
 simp only [Bool.and_eq_true] at h
 obtain ⟨h2,h4⟩:=h
 have h2:=eq_of_beq h2
 subst h2
 match ks,h4 with
 | [k],h4 =>
  simp only at h4
  by_cases h6:op=6
  ·subst h6
   rw [if_pos rfl,Bool.and_eq_true] at h4
   have h5:=eq_of_beq h4.1
   subst h5
   exact .inl ⟨k,rfl,h4.2⟩
  ·rw [if_neg h6] at h4
   by_cases h7:op=7
   ·subst h7
    rw [if_pos rfl,Bool.and_eq_true] at h4
    have h5:=eq_of_beq h4.1
    subst h5
    exact .inr ⟨k,rfl,h4.2⟩
   ·rw [if_neg h7] at h4; cases h4
theorem Kvt {c:Int} {a:Ty} {v:K01} (h:vB (.un c a) v=true):∃ k,v=⟨11,Kql c,[],[k]⟩∧vB a k=true:=by
 obtain ⟨op,N,ty,ks⟩:=v
 simp only [Kv2,Bool.and_eq_true] at h
 obtain ⟨⟨⟨h1,h2⟩,h3⟩,h4⟩:=h
 have h1:=eq_of_beq h1
 have h2:=eq_of_beq h2
 have h3:=Kv4 h3
 subst h1 h2 h3
 match ks,h4 with
 | [k],h4=>exact ⟨k,rfl,h4⟩
def Kvu (v:K01) (i:Nat):K01:=v.fKids.getD i noT
def Kvv (view:List Int):Ty→K01→K01→Bool
 | .num,v,w=>v.fN == w.fN
 | .bin c a b,v,w=>if c=1 then Kvv view a (Kvu v 0) (Kvu w 0) && Kvv view b (Kvu v 1) (Kvu w 1) else v.fOp == w.fOp && (if v.fOp=6 then Kvv view a (Kvu v 0) (Kvu w 0) else Kvv view b (Kvu v 0) (Kvu w 0))
 | .un c a,v,w=>!view.contains (Kql c) || Kvv view a (Kvu v 0) (Kvu w 0)
def Kvw (view:List Int):Ty→K01→K01
 | .num,v=>v
 | .bin c a b,v=>if c=1 then ⟨4,0,[],[Kvw view a (Kvu v 0),Kvw view b (Kvu v 1)]⟩ else if v.fOp=6 then ⟨6,0,b.code,[Kvw view a (Kvu v 0)]⟩ else ⟨7,0,a.code,[Kvw view b (Kvu v 0)]⟩
 | .un c a,v=>⟨11,Kql c,[],[if view.contains (Kql c) then Kvw view a (Kvu v 0) else dfl a]⟩
theorem Kvx (view:List Int) (T:Ty):∀ v,vB T v=true→tms (Kvw view T v) ≤ 3 * T.code.length:=by
 induction T with
 | num=>intro v h; obtain ⟨N,rfl,_⟩:=Kvq h; simp [Kvw,tms,Kqs]
 | bin c a b iha ihb =>
  intro v h
  rw [Kvw,Ty.code,List.length_cons,List.length_append]
  by_cases hc:c=1
  ·subst hc
   obtain ⟨k,m,rfl,h1,h2⟩:=Kvr h
   have:=iha k h1
   have:=ihb m h2
   rw [if_pos rfl]
   simp only [tms,Kqs,Kvu,List.getD_cons_zero,List.getD_cons_succ,List.length_cons,List.length_nil]; omega
  ·rw [if_neg hc]
   have h':vB (.bin 2 a b) v=true:=by
    obtain ⟨op,N,ty,ks⟩:=v
    rw [Kv1,if_neg hc] at h
    rw [Kv1,if_neg (by decide)]; exact h
   rcases Kvs h' with ⟨k,rfl,h1⟩ | ⟨k,rfl,h1⟩
   ·have:=iha k h1
    simp only [tms,Kqs,Kvu,List.getD_cons_zero,if_true,List.length_cons,List.length_nil]; omega
   ·have:=ihb k h1
    simp only [Kvu,List.getD_cons_zero]
    rw [if_neg (by decide:¬ (7:Int)=6)]
    simp only [tms,Kqs,List.length_cons,List.length_nil]; omega
 | un c a ih =>
  intro v h
  obtain ⟨k,rfl,h1⟩:=Kvt h
  have:=ih k h1
  have:=Ku9 a
  rw [Kvw,Ty.code,List.length_cons]
  simp only [tms,Kqs,Kvu,List.getD_cons_zero,List.length_cons,List.length_nil]
  split <;> omega
theorem Kvy {s:K00} {ty:List Int} (v:K01) (hty:ty.length ≤ 1048576) (h:(Ktd s ty && Ksx ty)=false):Klh (s,ty,v)=some false:=by
 unfold Klh
 simp only
 rw [Ktf s ty (by omega),h]
 rfl
theorem Kvz {s:K00} {T:Ty} (v:K01) (h:(Ktd s T.code && Ksx T.code)=true) (h1:T.ok) (h2:T.dat) (h4:T.code.length ≤ 40) (hv:tms v ≤ 1048576):Klh (s,T.code,v)=some (vB T v):=by
 unfold Klh
 simp only
 rw [Ktf s T.code (by omega),h]
 rw [bs,if_pos rfl]
 have e:=Kvh s v 0 (by decide) (by omega)
 rw [show ((0:Nat):Int)=0 from rfl] at e
 rw [e,bs]
 cases ht:Kvg s v 0
 ·have:vB T v=false:=by
   rw [Bool.eq_false_iff]
   intro hb
   unfold Ktd Kt7 at h
   simp only [Bool.and_eq_true] at h
   have T':=Ksd h.1.1
   have hc:=h.1.2.2
   rw [show Kt6 s=Kqm s.fSize true from funext fun c=>Ktb T'] at hc
   obtain ⟨p,q⟩:=Kvc _ _ T v 0 h2 (Kvi h1 h4 hc) hb
   unfold Kvg at ht
   rw [h.1.1,decide_eq_true (by omega),p] at ht
   cases ht
  rw [this]; rfl
 ·rw [if_pos rfl]
  unfold Kvg at ht
  rw [Bool.and_eq_true] at ht
  rw [Kvf _ _ T v 0 h1 h2 (by omega) ht.2]; rfl
theorem Kw0 {s:K00} {ty:List Int} (v:K01) (hty:ty.length ≤ 1048576) (h:(Ktd s ty && Ksx ty)=false):Klh (s,ty,v)=some false∧Kic (s,ty,v)=some false:=by
 refine ⟨Kvy v hty h,?_⟩
 unfold Kic
 simp only
 rw [Kth s ty (by omega),h]
 rfl
theorem Kw1 {s:K00} {T:Ty} (v:K01) (h:(Ktd s T.code && Ksx T.code)=true) (h1:T.ok) (h2:T.dat) (h4:T.code.length ≤ 40) (hv:tms v ≤ 1048576):Klh (s,T.code,v)=some (vB T v)∧Kic (s,T.code,v)=some (vB T v):=by
 refine ⟨Kvz v h h1 h2 h4 hv,?_⟩
 unfold Kic
 simp only
 rw [Kth s T.code (by omega),h]
 rw [bs,if_pos rfl,Kv3 T v h1 h2 (by omega)]
 rfl
theorem b10:((1:Int) == 0)=false:=rfl
theorem b11:((1:Int) == 1)=true:=rfl
theorem Kw2 (view:List Int) (hvw:view.length ≤ 1099511627776) (T:Ty):∀ v w:K01,T.ok→T.dat→T.code.length ≤ 1048576→vB T v=true→vB T w=true→Km8 (view,T.code,v,w)=some (Kvv view T v w):=by
 induction T with
 | num=>intro v w _ _ _ _ _; rw [Km8.eq_def,Ty.code]; simp only [Kti,bs]; rw [Kq6,Ku8]; rfl
 | bin c a b iha ihb =>
  intro v w h hd hl hv hw
  have P:=Ku7 h hl
  have la:=P.la
  rw [Ty.code,Km8.eq_def]
  simp only [Kti,bs]
  rw [P.pp,Kvv,Kq6]
  rcases Ku4 h.1 with ⟨rfl,e⟩ | ⟨rfl,e⟩ | ⟨h0,h1,_,e⟩
  ·obtain ⟨k,m,rfl,h1,h2⟩:=Kvr hv
   obtain ⟨k',m',rfl,h1',h2'⟩:=Kvr hw
   rw [e]
   simp only [Kti,Ktj,bs,b10,b11,Bool.false_eq_true,if_false,if_true,Kvu,List.getD_cons_zero,List.getD_cons_succ]
   rw [iha k k' P.ok.1 hd.2.1 (by omega) h1 h1',ihb m m' P.ok.2 hd.2.2 (by omega) h2 h2']
   cases Kvv view a k k' <;> rfl
  ·rw [e]
   have e0:wr 0=0:=by decide
   have e1:wr 1=1:=by decide
   simp only [d20,d21,d22,bs,Bool.false_eq_true,if_false,if_true,show ¬ (2:Int)=1 from by decide]
   rcases Kvs hv with ⟨k,rfl,h1⟩ | ⟨k,rfl,h1⟩
   ·rcases Kvs hw with ⟨k',rfl,h1'⟩ | ⟨k',rfl,h1'⟩
    ·simp [Kti,Ktj,bs,Kvu,e0,iha k k' P.ok.1 hd.2.1 (by omega) h1 h1']
    ·simp [Kti,Ktj,bs,Kvu,e0]
   ·rcases Kvs hw with ⟨k',rfl,h1'⟩ | ⟨k',rfl,h1'⟩
    ·simp [Kti,Ktj,bs,Kvu,e1]
    ·simp [Kti,Ktj,bs,Kvu,e1,ihb k k' P.ok.2 hd.2.2 (by omega) h1 h1']
  ·exact absurd hd.1 (by omega)
 | un c a ih =>
  intro v w h hd hl hv hw
  have P:=unP h hl
  have la:=P.la
  obtain ⟨h0,h1,h2,e⟩:=Ku5 h.1
  obtain ⟨k,rfl,q⟩:=Kvt hv
  obtain ⟨k',rfl,q'⟩:=Kvt hw
  rw [Ty.code,Km8.eq_def]
  simp only [Kti,bs]
  rw [P.pp,Kq6,e,Kvv]
  simp only [Kti,bs,Kuu view _ hvw,ih k k' P.ok hd (by omega) q q',Kvu,List.getD_cons_zero]
  cases view.contains (Kql c) <;> rfl
theorem Kw3 (view ty r:List Int) (v:K01) (out:List K01) (k:Nat) (h:v.fKids.length ≤ k):Klz (view,ty,v,r,out,(k:Int))=some out:=by
 rw [Klz.eq_def]
 simp only
 rw [Kou h]; rfl
theorem Kw4 {view ty r c:List Int} {v x y:K01} {out:List K01} {k:Nat} (h:k < v.fKids.length) (hx:idx v.fKids (k:Int)=some x) (hp:Kc4 (ty,if v.fOp == 7 then 1 else (k:Int))=some c) (hy:Kly (view,c,x)=some y) (ho:out.length ≤ 1000) (hk:k ≤ 1000) :
  Klz (view,ty,v,r,out,(k:Int))=Klz (view,ty,v,r,out ++ [y],((k + 1:Nat):Int)):=by
 rw [Klz.eq_def]
 simp only
 rw [Kot h,if_pos rfl]
 refine (Kqq (x:=if v.fOp == 7 then 1 else (k:Int)) ?_).trans ?_
 ·cases v.fOp == 7 <;> rfl
 ·rw [hp,bs,hx,bs,hy,bs,Kry (by simp only [List.length_singleton]; omega),bs,Kos (by omega)]
theorem Kw5 (view:List Int) (hvw:view.length ≤ 1099511627776) (T:Ty):∀ v:K01,T.ok→T.dat→T.code.length ≤ 1048576→vB T v=true→Kly (view,T.code,v)=some (Kvw view T v):=by
 induction T with
 | num =>
  intro v _ _ _ hv
  obtain ⟨N,rfl,_⟩:=Kvq hv
  rw [Ty.code,Kly.eq_def]
  simp only [Kti,bs]
  rw [Ks0 [] (by simp),bs,Kq2,show Kpz 0=false from rfl]
  have:=Kw3 view [0] [] ⟨1,N,[],[]⟩ [] 0 (by simp)
  rw [show ((0:Nat):Int)=0 from rfl] at this
  rw [bs,if_neg (by decide),bs,if_neg (by decide),this]; rfl
 | bin c a b iha ihb =>
  intro v h hd hl hv
  have P:=Ku7 h hl
  have la:=P.la
  rw [Ty.code,Kly.eq_def]
  simp only [Kti,bs]
  rw [Kq2]
  rcases hd.1 with rfl | rfl
  ·obtain ⟨k,m,rfl,h1,h2⟩:=Kvr hv
   rw [show Kpz 1=false from rfl,Ks0 [] (by simp),bs,bs,if_neg (by decide),bs,if_neg (by decide)]
   have e0:=Kw4 (view:=view) (ty:=1 :: (a.code ++ b.code)) (r:=[]) (v:=⟨4,0,[],[k,m]⟩) (out:=[]) (k:=0) (by simp) (Kti ..) P.p0 (iha k P.ok.1 hd.2.1 (by omega) h1) (by simp) (by simp)
   have e1:=Kw4 (view:=view) (ty:=1 :: (a.code ++ b.code)) (r:=[]) (v:=⟨4,0,[],[k,m]⟩) (out:=[] ++ [Kvw view a k]) (k:=0 + 1) (by simp) (Ktj ..) P.p1 (ihb m P.ok.2 hd.2.2 (by omega) h2) (by simp) (by simp)
   have e2:=Kw3 view (1 :: (a.code ++ b.code)) [] ⟨4,0,[],[k,m]⟩ ([] ++ [Kvw view a k] ++ [Kvw view b m]) (0 + 1 + 1) (by simp)
   rw [show ((0:Nat):Int)=0 from rfl] at e0
   rw [e0,e1,e2]
   rfl
  ·rw [show Kpz 2=false from rfl]
   rcases Kvs hv with ⟨k,rfl,h1⟩ | ⟨k,rfl,h1⟩
   ·rw [Ks0 b.code (by omega),bs,bs,if_neg (by decide),bs,if_neg (by decide)]
    have e0:=Kw4 (view:=view) (ty:=2 :: (a.code ++ b.code)) (r:=b.code) (v:=⟨6,0,b.code,[k]⟩) (out:=[]) (k:=0) (by simp) (Kti ..) P.p0 (iha k P.ok.1 hd.2.1 (by omega) h1) (by simp) (by simp)
    have e1:=Kw3 view (2 :: (a.code ++ b.code)) b.code ⟨6,0,b.code,[k]⟩ ([] ++ [Kvw view a k]) (0 + 1) (by simp)
    rw [show ((0:Nat):Int)=0 from rfl] at e0
    rw [e0,e1]
    rfl
   ·rw [Ks0 a.code (by omega),bs,bs,if_neg (by decide),bs,if_neg (by decide)]
    have e0:=Kw4 (view:=view) (ty:=2 :: (a.code ++ b.code)) (r:=a.code) (v:=⟨7,0,a.code,[k]⟩) (out:=[]) (k:=0) (by simp) (Kti ..) P.p1 (ihb k P.ok.2 hd.2.2 (by omega) h1) (by simp) (by simp)
    have e1:=Kw3 view (2 :: (a.code ++ b.code)) a.code ⟨7,0,a.code,[k]⟩ ([] ++ [Kvw view b k]) (0 + 1) (by simp)
    rw [show ((0:Nat):Int)=0 from rfl] at e0
    rw [e0,e1]
    rfl
 | un c a ih =>
  intro v h hd hl hv
  have P:=unP h hl
  have la:=P.la
  obtain ⟨h0,h1,h2,e⟩:=Ku5 h.1
  obtain ⟨k,rfl,q⟩:=Kvt hv
  rw [Ty.code,Kly.eq_def]
  simp only [Kti,bs]
  rw [Kq2,h1,Ks0 [] (by simp),bs,bs,if_pos rfl,Kqn (by rw [h.1]; decide),bs,Kus view _ hvw,bs,Kvw]
  cases hc:view.contains (Kql c)
  ·rw [Bool.not_false,bs,if_pos rfl,P.p0,bs,Kua a P.ok (by omega)]; rfl
  ·rw [Bool.not_true,bs,if_neg (by decide)]
   have e0:=Kw4 (view:=view) (ty:=c :: a.code) (r:=[]) (v:=⟨11,Kql c,[],[k]⟩) (out:=[]) (k:=0) (by simp) (Kti ..) P.p0 (ih k P.ok hd (by omega) q) (by simp) (by simp)
   have e1:=Kw3 view (c :: a.code) [] ⟨11,Kql c,[],[k]⟩ ([] ++ [Kvw view a k]) (0 + 1) (by simp)
   rw [show ((0:Nat):Int)=0 from rfl] at e0
   rw [e0,e1]
   rfl
theorem Kw6 (view:List Int) (hvw:view.length ≤ 1099511627776) (T:Ty):∀ v:K01,T.ok→T.dat→T.code.length ≤ 1048576→tms v ≤ 1048576→vB T v=true→Kj5 (view,T.code,v)=some (Kvw view T v):=by
 induction T with
 | num =>
  intro v _ _ _ hm hv
  obtain ⟨N,rfl,_⟩:=Kvq hv
  rw [Ty.code,Kj5.eq_def]
  simp only [Kti,bs]
  rw [Kq6,Ku8,Ktq _ (by omega)]
  rfl
 | bin c a b iha ihb =>
  intro v h hd hl hm hv
  have P:=Ku7 h hl
  have la:=P.la
  rw [Ty.code,Kj5.eq_def]
  simp only [Kti,bs]
  rw [P.pp,Kq6,Ktq v (by omega)]
  rcases Ku4 h.1 with ⟨rfl,e⟩ | ⟨rfl,e⟩ | ⟨h0,h1,_,e⟩
  ·obtain ⟨k,m,rfl,h1,h2⟩:=Kvr hv
   simp only [tms,Kqs] at hm
   rw [e]
   simp only [bs,Kti,Ktj]
   rw [iha k P.ok.1 hd.2.1 (by omega) (by omega) h1,ihb m P.ok.2 hd.2.2 (by omega) (by omega) h2]
   rfl
  ·rw [e]
   rcases Kvs hv with ⟨k,rfl,h1⟩ | ⟨k,rfl,h1⟩
   ·simp only [tms,Kqs] at hm
    simp only [bs,Kti,Ktj,show wr (6 - 6)=0 from by decide]
    rw [iha k P.ok.1 hd.2.1 (by omega) (by omega) h1]
    rfl
   ·simp only [tms,Kqs] at hm
    simp only [bs,Kti,Ktj,show wr (7 - 6)=1 from by decide]
    rw [ihb k P.ok.2 hd.2.2 (by omega) (by omega) h1]
    rfl
  ·exact absurd hd.1 (by omega)
 | un c a ih =>
  intro v h hd hl hm hv
  have P:=unP h hl
  have la:=P.la
  obtain ⟨h0,h1,h2,e⟩:=Ku5 h.1
  obtain ⟨k,rfl,q⟩:=Kvt hv
  rw [Ty.code,Kj5.eq_def]
  simp only [Kti,bs]
  rw [P.pp,Kq6,e,Ktq _ (by omega),Kvw]
  simp only [tms,Kqs] at hm
  simp only [Kti,bs,Kuu view _ hvw,ih k P.ok hd (by omega) (by omega) q,Kub a P.ok (by omega)]
  cases view.contains (Kql c) <;> rfl
mutual
def tEq:K01→K01→Bool
 | ⟨o,N,t,k⟩,⟨o',N',t',k'⟩=>o == o' && N == N' && t == t' && (k.length == k'.length) && Kw7 k k'
def Kw7:List K01→List K01→Bool
 | [],_=>true
 | _ :: _,[]=>false
 | a :: k,b :: k'=>tEq a b && Kw7 k k'
end
mutual
theorem Kw8:∀ (a:K01),tEq a a=true
 | ⟨o,N,t,k⟩=>by rw [tEq,Kw9 k]; simp
theorem Kw9:∀ (k:List K01),Kw7 k k=true
 | []=>by rw [Kw7]
 | a :: k=>by rw [Kw7,Kw8 a,Kw9 k]; rfl
end
def Kwa (l:List Nat):List Int:=l.map fun x:Nat=>(x:Int)
theorem Kwb (l:List Nat):(Kwa l).length=l.length:=List.length_map ..
theorem Kwc (l:List Nat) (i:Nat):(Kwa l).drop i=Kwa (l.drop i):=(List.map_drop ..).symm
theorem Kwd (l:List Nat) (i:Nat):(Kwa l).take i=Kwa (l.take i):=(List.map_take ..).symm
theorem Kwe {l r:List Nat} {x i:Nat} (h:l.drop i=x :: r):i < l.length∧idx (Kwa l) (i:Int)=some (x:Int)∧l.drop (i + 1)=r:=by
 have h2:(Kwa l).drop i=(x:Int) :: Kwa r:=by rw [Kwc,h]; rfl
 obtain ⟨q1,q2,q3⟩:=Kpw h2
 rw [Kwb] at q1
 refine ⟨q1,q2,?_⟩
 rw [← List.drop_drop,h]
 rfl
structure Kwf (s:K00) (n:Nat):Prop where
 tab:Tab s n
 one:∀ a,a < n→Kp9 s n a=true
 two:∀ a b,a < n→b < n→Kpm s n a b=true
theorem Kwg {s:K00} (h:Ksc s=true):Kwf s s.fSize.toNat:=by
 have ht:=Ksd h
 unfold Ksc at h
 simp only [Bool.and_eq_true] at h
 have hm:=h.2
 unfold Kpp at hm
 rw [List.all_eq_true] at hm
 refine ⟨ht,fun a ha=>?_,fun a b ha hb=>?_⟩
 ·have:=hm a (by rw [List.mem_range'_1]; omega)
  simp only [Bool.and_eq_true] at this
  exact this.1
 ·have:=hm a (by rw [List.mem_range'_1]; omega)
  simp only [Bool.and_eq_true,List.all_eq_true] at this
  exact (this.2 b (by rw [List.mem_range'_1]; omega)).1
section
variable {s:K00} {n:Nat} (hs:Kwf s n)
include hs
theorem Kwh:1 < n:=by have:=hs.tab.lo; omega
theorem Kwi:0 < n:=by have:=hs.tab.lo; omega
theorem Kwj {a:Nat} (ha:a < n):pl s n 0 a=a:=by
 have:=hs.one a ha
 simp only [Kp9,Bool.and_eq_true,beq_iff_eq] at this
 exact this.1.1.1.1.1
theorem Kwk {a:Nat} (ha:a < n):ti s n 1 a=a:=by
 have:=hs.one a ha
 simp only [Kp9,Bool.and_eq_true,beq_iff_eq] at this
 exact this.1.1.1.1.2
def Kwl (s:K00) (n a b:Nat):Nat:=(Kpf s n a b).toNat
theorem Kwm {a b:Nat} (ha:a < n) (hb:b < n):Kpf s n a b=((Kwl s n a b:Nat):Int)∧Kwl s n a b < n:=by
 have h:=hs.two a b ha hb
 simp only [Kpm,Bool.and_eq_true,decide_eq_true_eq] at h
 have h0:=h.2
 unfold Kwl
 refine ⟨by omega,?_⟩
 unfold Kpf at h0 ⊢
 cases hf:(List.range' 0 n).find? (jok s n a b) with
 | none=>rw [hf] at h0; exact absurd h0 (by decide)
 | some g =>
  have:=List.mem_of_find?_eq_some hf
  rw [List.mem_range'_1] at this
  simp only [Int.toNat_natCast]
  omega
end
def Kwn (s:K00) (n:Nat) (a b:List Nat):List Nat:=List.zipWith (pl s n) a b
def Kwo (s:K00) (n g:Nat) (a:List Nat):List Nat:=a.map (ti s n g)
def Kwp (s:K00) (n:Nat) (a b:List Nat):List Nat:=List.zipWith (Kwl s n) a b
def Kwq (n:Nat) (l:List Nat):Prop:=∀ x ∈ l,x < n
theorem Kwr {n x:Nat} {l:List Nat} (h:Kwq n (x :: l)):x < n∧Kwq n l:=⟨h x List.mem_cons_self,fun y hy=>h y (List.mem_cons_of_mem _ hy)⟩
theorem Kws {n:Nat} {l:List Nat} (h:Kwq n l) (i:Nat):Kwq n (l.drop i):=fun x hx=>h x (List.mem_of_mem_drop hx)
section
variable {s:K00} {n:Nat} (hs:Kwf s n)
include hs
theorem Kwt:∀ {a b:List Nat},Kwq n a→Kwq n b→Kwq n (Kwn s n a b)
 | [],_,_,_=>fun x hx=>by cases hx
 | _ :: _,[],_,_=>fun x hx=>by cases hx
 | x :: a,y :: b,ha,hb=>fun z hz=>by
  obtain ⟨h1,h2⟩:=Kwr ha
  obtain ⟨h3,h4⟩:=Kwr hb
  rcases List.mem_cons.1 hz with rfl | hz
  ·exact Koy hs.tab h1 h3
  ·exact Kwt h2 h4 z hz
theorem Kwu {g:Nat} (hg:g < n) {a:List Nat} (ha:Kwq n a):Kwq n (Kwo s n g a):=fun x hx=>by
 obtain ⟨y,hy,rfl⟩:=List.mem_map.1 hx
 exact Koz hs.tab hg (ha y hy)
theorem Kwv:∀ {a b:List Nat},Kwq n a→Kwq n b→Kwq n (Kwp s n a b)
 | [],_,_,_=>fun x hx=>by cases hx
 | _ :: _,[],_,_=>fun x hx=>by cases hx
 | x :: a,y :: b,ha,hb=>fun z hz=>by
  obtain ⟨h1,h2⟩:=Kwr ha
  obtain ⟨h3,h4⟩:=Kwr hb
  rcases List.mem_cons.1 hz with rfl | hz
  ·exact (Kwm hs h1 h3).2
  ·exact Kwv h2 h4 z hz
theorem Kww {a:List Nat} (ha:Kwq n a):Kwo s n 1 a=a:=by
 induction a with
 | nil=>rfl
 | cons x a ih =>
  obtain ⟨h1,h2⟩:=Kwr ha
  show ti s n 1 x :: Kwo s n 1 a=_
  rw [Kwk hs h1,ih h2]
theorem Kwx {a:List Nat} (ha:Kwq n a):Kwn s n (List.replicate a.length 0) a=a:=by
 induction a with
 | nil=>rfl
 | cons x a ih =>
  obtain ⟨h1,h2⟩:=Kwr ha
  show pl s n 0 x :: Kwn s n (List.replicate a.length 0) a=_
  rw [Kwj hs h1,ih h2]
theorem Kwy (g:Nat) (hg:g < n) (a b:List Nat) (ha:Kwq n a) (hb:Kwq n b) (hl:a.length ≤ 1099511627776):∀ (al bl:List Nat) (i:Nat) (out:List Int),a.drop i=al→b.drop i=bl→al.length=bl.length→out.length + al.length ≤ 1099511627776 →
  Knp (s,Kwa a,(g:Int),Kwa b,out,(i:Int))=some (out ++ Kwa (Kwn s n al (Kwo s n g bl))):=by
 intro al
 induction al with
 | nil =>
  intro bl i out hd _ _ _
  rw [Knp.eq_def]
  simp only
  rw [Kwb,Kou (Kpx hd)]
  simp [Kwn,Kwa]
 | cons x al ih =>
  intro bl i out hd hd2 hll ho
  cases bl with
  | nil=>simp at hll
  | cons y bl =>
   obtain ⟨h1,h2,h3⟩:=Kwe hd
   obtain ⟨k1,k2,k3⟩:=Kwe hd2
   have hx:x < n:=Kws ha i x (by rw [hd]; exact List.mem_cons_self)
   have hy:y < n:=Kws hb i y (by rw [hd2]; exact List.mem_cons_self)
   rw [Knp.eq_def]
   simp only
   simp only [List.length_cons] at ho hll
   rw [Kwb,Kot h1,if_pos rfl,h2,bs,k2,bs,Kp4 hs.tab hg hy,bs,Kp3 hs.tab hx (Koz hs.tab hg hy),bs,Kry (by simp; omega),bs,Kos (by omega),ih bl (i + 1) _ h3 k3 (by omega) (by simp; omega)]
   rw [List.append_assoc]
   rfl
theorem Kwz (g:Nat) (hg:g < n) (a b:List Nat) (ha:Kwq n a) (hb:Kwq n b) (hl:a.length ≤ 1048576) (hab:a.length=b.length):Knq (s,Kwa a,(g:Int),Kwa b)=some (Kwa (Kwn s n a (Kwo s n g b))):=by
 unfold Knq
 simp only
 rw [show (0:Int)=((0:Nat):Int) from rfl,Kwy hs g hg a b ha hb (by omega) a b 0 [] rfl rfl hab (by simp; omega)]
 rfl
theorem Kx0 (a b:List Nat) (ha:Kwq n a) (hb:Kwq n b) (hl:a.length ≤ 1048576) (hab:a.length=b.length):Knq (s,Kwa a,1,Kwa b)=some (Kwa (Kwn s n a b)):=by
 have:=Kwz hs 1 (Kwh hs) a b ha hb hl hab
 rw [Kww hs hb] at this
 exact this
theorem Kx1 (a b:List Nat) (ha:Kwq n a) (hb:Kwq n b) (hl:a.length ≤ 1099511627776):∀ (al bl:List Nat) (i:Nat) (out:List Int),a.drop i=al→b.drop i=bl→al.length=bl.length→out.length + al.length ≤ 1099511627776 →
  Kns (s,Kwa a,Kwa b,out,(i:Int))=some (out ++ Kwa (Kwp s n al bl)):=by
 intro al
 induction al with
 | nil =>
  intro bl i out hd _ _ _
  rw [Kns.eq_def]
  simp only
  rw [Kwb,Kou (Kpx hd)]
  simp [Kwp,Kwa]
 | cons x al ih =>
  intro bl i out hd hd2 hll ho
  cases bl with
  | nil=>simp at hll
  | cons y bl =>
   obtain ⟨h1,h2,h3⟩:=Kwe hd
   obtain ⟨k1,k2,k3⟩:=Kwe hd2
   have hx:x < n:=Kws ha i x (by rw [hd]; exact List.mem_cons_self)
   have hy:y < n:=Kws hb i y (by rw [hd2]; exact List.mem_cons_self)
   rw [Kns.eq_def]
   simp only
   simp only [List.length_cons] at ho hll
   rw [Kwb,Kot h1,if_pos rfl,h2,bs,k2,bs,Kpk hs.tab hx hy,bs,(Kwm hs hx hy).1,Kry (by simp; omega),bs,Kos (by omega),ih bl (i + 1) _ h3 k3 (by omega) (by simp; omega)]
   rw [List.append_assoc]
   rfl
theorem Kx2 (a b:List Nat) (ha:Kwq n a) (hb:Kwq n b) (hl:a.length ≤ 1048576) (hab:a.length=b.length):Knt (s,Kwa a,Kwa b)=some (Kwa (Kwp s n a b)):=by
 unfold Knt
 simp only
 rw [show (0:Int)=((0:Nat):Int) from rfl,Kx1 hs a b ha hb (by omega) a b 0 [] rfl rfl hab (by simp; omega)]
 rfl
end
theorem Kx3 {α:Type} {out:List α} {i:Nat} (h:i < out.length) (x:α):(out.set i x).take (i + 1)=out.take i ++ [x]:=by
 rw [List.take_set,List.take_succ_eq_append_getElem h,List.set_append_right _ _ (by simp; omega)]
 simp [Nat.min_eq_left (Nat.le_of_lt h)]
section
variable {s:K00} {n:Nat} (hs:Kwf s n)
include hs
theorem Kx4 (a b:List Nat) (ha:Kwq n a) (hb:Kwq n b) (hl:a.length ≤ 1099511627776):∀ (al bl:List Nat) (i:Nat) (out:List Int),a.drop i=al→b.drop i=bl→al.length=bl.length→out.length=a.length →
  Ko4 (s,Kwa a,Kwa b,out,(i:Int))=some (out.take i ++ Kwa (Kwn s n al bl)):=by
 intro al
 induction al with
 | nil =>
  intro bl i out hd _ _ ho
  rw [Ko4.eq_def]
  simp only
  have:=Kpx hd
  rw [Kwb,Kou this]
  simp [Kwn,Kwa,List.take_of_length_le (show out.length ≤ i by omega)]
 | cons x al ih =>
  intro bl i out hd hd2 hll ho
  cases bl with
  | nil=>simp at hll
  | cons y bl =>
   obtain ⟨h1,h2,h3⟩:=Kwe hd
   obtain ⟨k1,k2,k3⟩:=Kwe hd2
   have hx:x < n:=Kws ha i x (by rw [hd]; exact List.mem_cons_self)
   have hy:y < n:=Kws hb i y (by rw [hd2]; exact List.mem_cons_self)
   rw [Ko4.eq_def]
   simp only
   simp only [List.length_cons] at hll
   have hio:i < out.length:=by omega
   rw [Kwb,Kot h1,if_pos rfl,h2,bs,k2,bs,Kp5 hs.tab hx hy,bs,Kor hio,bs,Kos (by omega),Int.toNat_natCast,ih bl (i + 1) _ h3 k3 (by omega) (by rw [List.length_set]; exact ho)]
   rw [Kx3 hio,List.append_assoc]
   rfl
theorem Kx5 (a b:List Nat) (ha:Kwq n a) (hb:Kwq n b) (hl:a.length ≤ 1048576) (hab:a.length=b.length):Ko6 (⟨s⟩,Kwa a,Kwa b)=some (Kwa (Kwn s n a b)):=by
 unfold Ko6 Ko5
 simp only
 rw [Kwb,Kuc (by simp; omega),bs,Int.toNat_natCast,show (0:Int)=((0:Nat):Int) from rfl]
 rw [show (List.replicate a.length (((0:Nat):Int)))=List.replicate a.length (0:Int) from rfl,Kx4 hs a b ha hb (by omega) a b 0 _ rfl rfl hab (by simp)]
 rfl
theorem Kx6 (a b:List Nat) (ha:Kwq n a) (hb:Kwq n b) (hl:a.length ≤ 1099511627776):∀ (al bl:List Nat) (i:Nat) (out:List Int),a.drop i=al→b.drop i=bl→al.length=bl.length→out.length=a.length →
  Ko8 (s,Kwa a,Kwa b,out,(i:Int))=some (out.take i ++ Kwa (Kwp s n al bl)):=by
 intro al
 induction al with
 | nil =>
  intro bl i out hd _ _ ho
  rw [Ko8.eq_def]
  simp only
  have:=Kpx hd
  rw [Kwb,Kou this]
  simp [Kwp,Kwa,List.take_of_length_le (show out.length ≤ i by omega)]
 | cons x al ih =>
  intro bl i out hd hd2 hll ho
  cases bl with
  | nil=>simp at hll
  | cons y bl =>
   obtain ⟨h1,h2,h3⟩:=Kwe hd
   obtain ⟨k1,k2,k3⟩:=Kwe hd2
   have hx:x < n:=Kws ha i x (by rw [hd]; exact List.mem_cons_self)
   have hy:y < n:=Kws hb i y (by rw [hd2]; exact List.mem_cons_self)
   rw [Ko8.eq_def]
   simp only
   simp only [List.length_cons] at hll
   have hio:i < out.length:=by omega
   rw [Kwb,Kot h1,if_pos rfl,h2,bs,k2,bs,Kpl hs.tab hx hy,bs,(Kwm hs hx hy).1,Kor hio,bs,Kos (by omega),Int.toNat_natCast,ih bl (i + 1) _ h3 k3 (by omega) (by rw [List.length_set]; exact ho)]
   rw [Kx3 hio,List.append_assoc]
   rfl
theorem Kx7 (a b:List Nat) (ha:Kwq n a) (hb:Kwq n b) (hl:a.length ≤ 1048576) (hab:a.length=b.length):Koa (⟨s⟩,Kwa a,Kwa b)=some (Kwa (Kwp s n a b)):=by
 unfold Koa Ko9
 simp only
 rw [Kwb,Kuc (by simp; omega),bs,Int.toNat_natCast,show (0:Int)=((0:Nat):Int) from rfl]
 rw [show (List.replicate a.length (((0:Nat):Int)))=List.replicate a.length (0:Int) from rfl,Kx6 hs a b ha hb (by omega) a b 0 _ rfl rfl hab (by simp)]
 rfl
theorem Kx8 (g:Nat) (hg:g < n) (a:List Nat) (ha:Kwq n a) (hl:a.length ≤ 1099511627776):∀ (al:List Nat) (i:Nat) (out:List Int),a.drop i=al→out.length=a.length →
  Kok (⟨s⟩,(g:Int),Kwa a,out,(i:Int))=some (out.take i ++ Kwa (Kwo s n g al)):=by
 intro al
 induction al with
 | nil =>
  intro i out hd ho
  rw [Kok.eq_def]
  simp only
  have:=Kpx hd
  rw [Kwb,Kou this]
  simp [Kwo,Kwa,List.take_of_length_le (show out.length ≤ i by omega)]
 | cons x al ih =>
  intro i out hd ho
  obtain ⟨h1,h2,h3⟩:=Kwe hd
  have hx:x < n:=Kws ha i x (by rw [hd]; exact List.mem_cons_self)
  rw [Kok.eq_def]
  simp only
  have hio:i < out.length:=by omega
  rw [Kwb,Kot h1,if_pos rfl,h2,bs,Kp6 hs.tab hg hx,bs,Kor hio,bs,Kos (by omega),Int.toNat_natCast,ih (i + 1) _ h3 (by rw [List.length_set]; exact ho)]
  rw [Kx3 hio,List.append_assoc]
  rfl
theorem Kx9 (g:Nat) (hg:g < n) (a:List Nat) (ha:Kwq n a) (hl:a.length ≤ 1048576):Kol (⟨s⟩,(g:Int),Kwa a)=some (Kwa (Kwo s n g a)):=by
 unfold Kol
 simp only
 rw [Kwb,Kuc (by simp; omega),bs,Int.toNat_natCast,show (0:Int)=((0:Nat):Int) from rfl]
 rw [show (List.replicate a.length (((0:Nat):Int)))=List.replicate a.length (0:Int) from rfl,Kx8 hs g hg a ha (by omega) a 0 _ rfl (by simp)]
 rfl
theorem Kxa (g:Nat) (hg:g < n) (a:List Nat) (ha:Kwq n a) (hl:a.length ≤ 1099511627776):∀ (al:List Nat) (i:Nat),a.drop i=al →
  ∃ r,Kog (Kwa a,⟨s⟩,(g:Int),(i:Int))=some r∧(match r with | .inl _=>(al.all fun x=>le s n x g)=true | .inr j=>(al.all fun x=>le s n x g)=false∧0 ≤ j):=by
 intro al
 induction al with
 | nil =>
  intro i hd
  rw [Kog.eq_def]
  simp only
  rw [Kwb,Kou (Kpx hd)]
  exact ⟨_,rfl,rfl⟩
 | cons x al ih =>
  intro i hd
  obtain ⟨h1,h2,h3⟩:=Kwe hd
  have hx:x < n:=Kws ha i x (by rw [hd]; exact List.mem_cons_self)
  rw [Kog.eq_def]
  simp only
  rw [Kwb,Kot h1,if_pos rfl,h2,bs]
  unfold Kof
  simp only
  rw [iLe hs.tab hx hg]
  simp only [bs]
  cases hle:le s n x g with
  | true =>
   obtain ⟨r,hr,hm⟩:=ih (i + 1) h3
   refine ⟨r,?_,?_⟩
   ·rw [if_neg (by simp),Kos (by omega)]; exact hr
   ·rw [List.all_cons,hle,Bool.true_and]; exact hm
  | false =>
   exact ⟨_,if_pos rfl,by simp [List.all_cons,hle]⟩
theorem Kxb (g:Nat) (hg:g < n) (a:List Nat) (ha:Kwq n a) (hl:a.length ≤ 1048576):Koj (⟨s⟩,Kwa a,(g:Int))=some (a.all fun x=>le s n x g):=by
 obtain ⟨r,hr,hm⟩:=Kxa hs g hg a ha (by omega) a 0 rfl
 unfold Koj Koi Koh
 simp only
 rw [show (0:Int)=((0:Nat):Int) from rfl,hr]
 cases r with
 | inl _=>simp only [bs] at hm ⊢; rw [hm]; rfl
 | inr j =>
  simp only [bs] at hm ⊢
  rw [hm.1,decide_eq_true (by omega)]; rfl
end
theorem Kxc (k:Nat) (h:k ≤ 1048576):Knm (k:Int)=some (Kwa (List.replicate k 0)):=by
 unfold Knm
 rw [Int.toNat_natCast,Kuc (by constructor <;> omega),bs]
 unfold Kwa
 rw [List.map_replicate]
 rfl
theorem Kxd (ctx front:List (List Int)) (h:ctx.length + front.length ≤ 1048576):Knn (ctx,front)=some (front ++ ctx):=by
 unfold Knn
 simp only
 rw [Kry (by simp; omega),bs,Kry (by omega),bs]
theorem Kxe (ps:List (List Int)) (hp:ps.length ≤ 1099511627776):∀ (l:List (List Int)) (i:Nat) (out:List Int),ps.drop i=l→out.length + l.flatten.length ≤ 1099511627776→Kb9 (ps,out,(i:Int))=some (out ++ l.flatten):=by
 intro l
 induction l with
 | nil =>
  intro i out hd _
  rw [Kb9.eq_def]
  simp only
  rw [Kou (Kpx hd)]
  simp
 | cons x l ih =>
  intro i out hd ho
  obtain ⟨h1,h2,h3⟩:=Kpw hd
  rw [List.flatten_cons,List.length_append] at ho
  rw [Kb9.eq_def]
  simp only
  rw [Kot h1,if_pos rfl,h2,bs,Kry (by omega),bs,Kos (by omega),ih (i + 1) _ h3 (by rw [List.length_append]; omega),List.flatten_cons,List.append_assoc]
theorem Kxf (c:Int) (ps:List (List Int)) (hp:ps.length ≤ 1048576) (h:ps.flatten.length ≤ 1048576):Kbc (c,ps)=some (c :: ps.flatten):=by
 unfold Kbc
 simp only
 rw [show (0:Int)=((0:Nat):Int) from rfl,Kxe ps (by omega) ps 0 [c] rfl (by rw [List.length_singleton]; omega)]
 rfl
theorem Kxg (ps:List (List (Int))) (hp:ps.length ≤ 1099511627776):∀ (l:List (List (Int))) (i sz:Nat),ps.drop i=l→sz + l.flatten.length ≤ 1099511627776→Koc (ps,(sz:Int),(i:Int))=some (((sz + l.flatten.length:Nat)):Int):=by
 intro l
 induction l with
 | nil =>
  intro i sz hd _
  rw [Koc.eq_def]
  simp only
  rw [Kou (Kpx hd)]
  simp
 | cons x l ih =>
  intro i sz hd ho
  obtain ⟨h1,h2,h3⟩:=Kpw hd
  rw [List.flatten_cons,List.length_append] at ho
  have e:wr ((sz:Int) + (x.length:Int))=((sz + x.length:Nat):Int):=Ktk (by omega) (by omega)
  rw [Koc.eq_def]
  simp only
  rw [Kot h1,if_pos rfl,h2,bs,e,decide_eq_false (by omega),if_neg (by decide),bs,Kos (by omega),ih (i + 1) _ h3 (by omega),List.flatten_cons,List.length_append,Nat.add_assoc]
theorem Kxh (ps:List (List (Int))) (hp:ps.length ≤ 1099511627776):∀ (l:List (List (Int))) (i:Nat) (out:List (Int)),ps.drop i=l→out.length + l.flatten.length ≤ 1099511627776→Kod (ps,out,(i:Int))=some (out ++ l.flatten):=by
 intro l
 induction l with
 | nil =>
  intro i out hd _
  rw [Kod.eq_def]
  simp only
  rw [Kou (Kpx hd)]
  simp
 | cons x l ih =>
  intro i out hd ho
  obtain ⟨h1,h2,h3⟩:=Kpw hd
  rw [List.flatten_cons,List.length_append] at ho
  rw [Kod.eq_def]
  simp only
  rw [Kot h1,if_pos rfl,h2,bs,Kry (by omega),bs,Kos (by omega),ih (i + 1) _ h3 (by rw [List.length_append]; omega),List.flatten_cons,List.append_assoc]
theorem Kxi (k:Nat) (h:k ≤ 1048576):Kob (k:Int)=some ():=by
 unfold Kob
 have e:wr ((k:Int) - wr (0 - 0))=(k:Int):=by rw [Koq (x:=0 - 0) (by decide) (by decide),Koq (by omega) (by omega)]; omega
 rw [decide_eq_false (by omega),if_neg (by decide),e]
 by_cases hk:k=0
 ·subst hk; rfl
 ·rw [decide_eq_true (by omega),if_pos rfl,Int.toNat_natCast,Kuc (by constructor <;> omega),bs]
theorem Kxj (ps:List (List (Int))) (hp:ps.length ≤ 1048576) (h:ps.flatten.length ≤ 1048576):Koe ps=some ps.flatten:=by
 unfold Koe
 have h0:=Kxg ps (by omega) ps 0 0 rfl (by omega)
 rw [Nat.zero_add] at h0
 rw [show (0:Int)=((0:Nat):Int) from rfl,h0,bs,Kxi _ h,bs,Kxh ps (by omega) ps 0 [] rfl (by rw [List.length_nil]; omega)]
 rfl
theorem Kxk (ps:List (List (List Int))) (hp:ps.length ≤ 1099511627776):∀ (l:List (List (List Int))) (i sz:Nat),ps.drop i=l→sz + l.flatten.length ≤ 1099511627776→Ko0 (ps,(sz:Int),(i:Int))=some (((sz + l.flatten.length:Nat)):Int):=by
 intro l
 induction l with
 | nil =>
  intro i sz hd _
  rw [Ko0.eq_def]
  simp only
  rw [Kou (Kpx hd)]
  simp
 | cons x l ih =>
  intro i sz hd ho
  obtain ⟨h1,h2,h3⟩:=Kpw hd
  rw [List.flatten_cons,List.length_append] at ho
  have e:wr ((sz:Int) + (x.length:Int))=((sz + x.length:Nat):Int):=Ktk (by omega) (by omega)
  rw [Ko0.eq_def]
  simp only
  rw [Kot h1,if_pos rfl,h2,bs,e,decide_eq_false (by omega),if_neg (by decide),bs,Kos (by omega),ih (i + 1) _ h3 (by omega),List.flatten_cons,List.length_append,Nat.add_assoc]
theorem Kxl (ps:List (List (List Int))) (hp:ps.length ≤ 1099511627776):∀ (l:List (List (List Int))) (i:Nat) (out:List (List Int)),ps.drop i=l→out.length + l.flatten.length ≤ 1099511627776→Ko1 (ps,out,(i:Int))=some (out ++ l.flatten):=by
 intro l
 induction l with
 | nil =>
  intro i out hd _
  rw [Ko1.eq_def]
  simp only
  rw [Kou (Kpx hd)]
  simp
 | cons x l ih =>
  intro i out hd ho
  obtain ⟨h1,h2,h3⟩:=Kpw hd
  rw [List.flatten_cons,List.length_append] at ho
  rw [Ko1.eq_def]
  simp only
  rw [Kot h1,if_pos rfl,h2,bs,Kry (by omega),bs,Kos (by omega),ih (i + 1) _ h3 (by rw [List.length_append]; omega),List.flatten_cons,List.append_assoc]
theorem Kxm (k:Nat) (h:k ≤ 1048576):Knz (k:Int)=some ():=by
 unfold Knz
 have e:wr ((k:Int) - wr (0 - 0))=(k:Int):=by rw [Koq (x:=0 - 0) (by decide) (by decide),Koq (by omega) (by omega)]; omega
 rw [decide_eq_false (by omega),if_neg (by decide),e]
 by_cases hk:k=0
 ·subst hk; rfl
 ·rw [decide_eq_true (by omega),if_pos rfl,Int.toNat_natCast,Kuc (by constructor <;> omega),bs]
theorem Kxn (ps:List (List (List Int))) (hp:ps.length ≤ 1048576) (h:ps.flatten.length ≤ 1048576):Ko2 ps=some ps.flatten:=by
 unfold Ko2
 have h0:=Kxk ps (by omega) ps 0 0 rfl (by omega)
 rw [Nat.zero_add] at h0
 rw [show (0:Int)=((0:Nat):Int) from rfl,h0,bs,Kxm _ h,bs,Kxl ps (by omega) ps 0 [] rfl (by rw [List.length_nil]; omega)]
 rfl
def TyS (s:K00) (ty:List Int):Prop:=yN s.fSize true ty=true
theorem Kxo {s:K00} {ty:List Int} (h:TyS s ty):ty.length ≤ 40:=by
 unfold TyS yN at h
 rw [Bool.and_eq_true] at h
 exact Krv h.1
theorem Kxp {s:K00} {ty:List Int} (h:TyS s ty):∃ T:Ty,T.ok∧ty=T.code∧T.code.length ≤ 40∧T.code.all (Kqm s.fSize true)=true:=by
 have hl:=Kxo h
 unfold TyS yN at h
 rw [Bool.and_eq_true] at h
 obtain ⟨T,h1,rfl,_⟩:=Ksn h.1
 exact ⟨T,h1,rfl,hl,h.2⟩
theorem Kxq {s:K00} {T:Ty} (h:T.ok) (hl:T.code.length ≤ 40) (hc:T.code.all (Kqm s.fSize true)=true):TyS s T.code:=by
 unfold TyS yN
 rw [Kso h hl,hc]; rfl
structure Kxr (s:K00) (c:Int) (a b:List Int):Prop where
 ya:TyS s a
 yb:TyS s b
 p0:Kc4 (c :: (a ++ b),0)=some a
 p1:Kc4 (c :: (a ++ b),1)=some b
 pp:Khw (c :: (a ++ b))=some [a,b]
structure Kxs (s:K00) (c:Int) (a:List Int):Prop where
 ya:TyS s a
 p0:Kc4 (c :: a,0)=some a
 pp:Khw (c :: a)=some [a]
theorem Kxt {s:K00} {c:Int} (hc:c=35∨c=36):Kqm s.fSize true c=false:=by
 rcases hc with rfl | rfl
 ·unfold Kqm Kql
  rw [show Kq0 35=2 from rfl]; simp
 ·unfold Kqm Kql
  rw [show Kq0 36=1 from rfl]; simp
theorem Kxu {s:K00}:TyS s [0]:=Kxq (T:=.num) trivial (by decide) (by
 show (Kqm s.fSize true 0 && true)=true
 unfold Kqm
 rw [show Kq0 0=0 from rfl]; simp)
section
variable {s:K00} {n:Nat} (hs:Kwf s n)
include hs
theorem Kxv {c:Int} (hc:3 ≤ c∧c ≤ 18):Kqm s.fSize true c=true ↔ c - 3 < (n:Int):=by
 have hk:Kq0 c=2:=by rcases Kq4 c with h | h | h | h <;> omega
 unfold Kqm Kql
 rw [hk,hs.tab.size,if_neg (by omega),if_neg (by omega)]
 simp
 omega
theorem Kxw {c:Int} (hc:19 ≤ c∧c ≤ 34):Kqm s.fSize true c=true ↔ c - 19 < (n:Int):=by
 have hk:Kq0 c=1:=by rcases Kq4 c with h | h | h | h <;> omega
 unfold Kqm Kql
 rw [hk,hs.tab.size,if_neg (by omega),if_pos (by omega)]
 simp
 omega
theorem Kxx {ty:List Int} (h:TyS s ty):ty=[0]∨(∃ a b,ty=1 :: (a ++ b)∧Kxr s 1 a b)∨(∃ a b,ty=2 :: (a ++ b)∧Kxr s 2 a b) ∨
  (∃ (g:Nat) (a b:List Int),g < n∧g ≤ 15∧ty=(3 + (g:Int)) :: (a ++ b)∧Kxr s (3 + (g:Int)) a b)∨(∃ (g:Nat) (a:List Int),g < n∧g ≤ 15∧ty=(19 + (g:Int)) :: a∧Kxs s (19 + (g:Int)) a):=by
 obtain ⟨T,hT,rfl,hl,hc⟩:=Kxp h
 cases T with
 | num=>exact .inl rfl
 | bin c a b =>
  have B:=Ku7 hT (by omega)
  have hl':=hl
  rw [Ty.code,List.length_cons,List.length_append] at hl'
  rw [Ty.code,List.all_cons,List.all_append,Bool.and_eq_true,Bool.and_eq_true] at hc
  have hP:Kxr s c a.code b.code:=⟨Kxq B.ok.1 (by omega) hc.2.1,Kxq B.ok.2 (by omega) hc.2.2,B.p0,B.p1,B.pp⟩
  have hk:=hT.1
  rcases Kq4 c with ⟨q,e⟩ | ⟨q,e⟩ | ⟨q,e⟩ | ⟨q,e⟩
  ·rw [e] at hk; exact absurd hk (by decide)
  ·rcases q with rfl | rfl | q | rfl
   ·exact .inr (.inl ⟨_,_,rfl,hP⟩)
   ·exact .inr (.inr (.inl ⟨_,_,rfl,hP⟩))
   ·have:=(Kxv hs q).1 hc.1
    obtain ⟨g,hg⟩:∃ g:Nat,c=3 + (g:Int):=⟨(c - 3).toNat,by omega⟩
    subst hg
    exact .inr (.inr (.inr (.inl ⟨g,_,_,by omega,by omega,rfl,hP⟩)))
   ·rw [Kxt (s:=s) (.inl rfl)] at hc; exact absurd hc.1 (by decide)
  ·rw [e] at hk; exact absurd hk (by decide)
  ·rw [e] at hk; exact absurd hk (by decide)
 | un c a =>
  have B:=unP hT (by omega)
  have hl':=hl
  rw [Ty.code,List.length_cons] at hl'
  rw [Ty.code,List.all_cons,Bool.and_eq_true] at hc
  have hP:Kxs s c a.code:=⟨Kxq B.ok (by omega) hc.2,B.p0,B.pp⟩
  have hk:=hT.1
  rcases Kq4 c with ⟨q,e⟩ | ⟨q,e⟩ | ⟨q,e⟩ | ⟨q,e⟩
  ·rw [e] at hk; exact absurd hk (by decide)
  ·rw [e] at hk; exact absurd hk (by decide)
  ·rcases q with q | rfl
   ·have:=(Kxw hs q).1 hc.1
    obtain ⟨g,hg⟩:∃ g:Nat,c=19 + (g:Int):=⟨(c - 19).toNat,by omega⟩
    subst hg
    exact .inr (.inr (.inr (.inr ⟨g,_,by omega,by omega,rfl,hP⟩)))
   ·rw [Kxt (s:=s) (.inr rfl)] at hc; exact absurd hc.1 (by decide)
  ·rw [e] at hk; exact absurd hk (by decide)
theorem Kxy {c:Int} {a b:List Int} (ha:TyS s a) (hb:TyS s b) (hc:c=1∨c=2∨∃ g:Nat,g < n∧c=3 + (g:Int)) (hl:(c :: (a ++ b)).length ≤ 40):TyS s (c :: (a ++ b)):=by
 obtain ⟨A,hA,rfl,_,hAc⟩:=Kxp ha
 obtain ⟨B,hB,rfl,_,hBc⟩:=Kxp hb
 have hn:=hs.tab.hi
 have hk:Kq0 c=2∧Kqm s.fSize true c=true:=by
  rcases hc with rfl | rfl | ⟨g,hg,rfl⟩
  ·exact ⟨rfl,by unfold Kqm; rw [show Kq0 1=2 from rfl]; simp⟩
  ·exact ⟨rfl,by unfold Kqm; rw [show Kq0 2=2 from rfl]; simp⟩
  ·refine ⟨by rcases Kq4 (3 + (g:Int)) with h | h | h | h <;> omega,(Kxv hs (by omega)).2 (by omega)⟩
 have:TyS s (Ty.bin c A B).code:=Kxq ⟨hk.1,hA,hB⟩ hl (by rw [Ty.code,List.all_cons,List.all_append,hk.2,hAc,hBc]; rfl)
 exact this
theorem Kxz {g:Nat} (hg:g < n) {a:List Int} (ha:TyS s a) (hl:((19 + (g:Int)) :: a).length ≤ 40):TyS s ((19 + (g:Int)) :: a):=by
 obtain ⟨A,hA,rfl,_,hAc⟩:=Kxp ha
 have hn:=hs.tab.hi
 have hk:Kq0 (19 + (g:Int))=1:=by rcases Kq4 (19 + (g:Int)) with h | h | h | h <;> omega
 have:TyS s (Ty.un (19 + (g:Int)) A).code:=Kxq ⟨hk,hA⟩ hl (by rw [Ty.code,List.all_cons,(Kxw hs (by omega)).2 (by omega),hAc]; rfl)
 exact this
theorem Ky0 {x:Int} (h:gN s.fSize true x=true):∃ g:Nat,x=(g:Int)∧g < n:=by
 unfold gN at h
 rw [hs.tab.size] at h
 simp at h
 exact ⟨x.toNat,by omega,by omega⟩
end
structure Ky1 (s:K00) (n:Nat) (k:K01) (m:Nat):Prop where
 ok:tOk (gN s.fSize true) (yN s.fSize true) n k=true
 sz:tsz k + 1 ≤ m
theorem nd1 {s:K00} {n m:Nat} {op N:Int} {ty:List Int} {ks:List K01} (h:tOk (gN s.fSize true) (yN s.fSize true) n ⟨op,N,ty,ks⟩=true) (hm:tsz ⟨op,N,ty,ks⟩ ≤ m) (hk:Kr1 op=1):∃ a,ks=[a]∧Ky1 s (n + Krb op 0) a m:=by
 obtain ⟨h1,h2⟩:=Krw h
 obtain ⟨a,rfl⟩:=Kvd (l:=ks) (beq_iff_eq.2 (by rw [← hk]; exact (Krz h1).2))
 simp only at h2
 rw [Kv6,Bool.and_eq_true] at h2
 rw [Kvm] at hm
 exact ⟨a,rfl,h2.1,by omega⟩
theorem nd2 {s:K00} {n m:Nat} {op N:Int} {ty:List Int} {ks:List K01} (h:tOk (gN s.fSize true) (yN s.fSize true) n ⟨op,N,ty,ks⟩=true) (hm:tsz ⟨op,N,ty,ks⟩ ≤ m) (hk:Kr1 op=2):∃ a b,ks=[a,b]∧Ky1 s (n + Krb op 0) a m∧Ky1 s (n + Krb op 1) b m:=by
 obtain ⟨h1,h2⟩:=Krw h
 obtain ⟨a,b,rfl⟩:=Kve (l:=ks) (beq_iff_eq.2 (by rw [← hk]; exact (Krz h1).2))
 simp only at h2
 rw [Kv6,Kv6,Bool.and_eq_true,Bool.and_eq_true] at h2
 rw [Kvn] at hm
 exact ⟨a,b,rfl,⟨h2.1,by omega⟩,⟨h2.2.1,by omega⟩⟩
theorem nd3 {s:K00} {n m:Nat} {op N:Int} {ty:List Int} {ks:List K01} (h:tOk (gN s.fSize true) (yN s.fSize true) n ⟨op,N,ty,ks⟩=true) (hm:tsz ⟨op,N,ty,ks⟩ ≤ m) (hk:Kr1 op=3):∃ a b c,ks=[a,b,c]∧Ky1 s (n + Krb op 0) a m∧Ky1 s (n + Krb op 1) b m∧Ky1 s (n + Krb op 2) c m:=by
 obtain ⟨h1,h2⟩:=Krw h
 obtain ⟨a,b,c,rfl⟩:=Kvp (l:=ks) (by rw [← hk]; exact (Krz h1).2)
 simp only at h2
 rw [Kv6,Kv6,Kv6,Bool.and_eq_true,Bool.and_eq_true,Bool.and_eq_true] at h2
 rw [Kvo] at hm
 exact ⟨a,b,c,rfl,⟨h2.1,by omega⟩,⟨h2.2.1,by omega⟩,⟨h2.2.2.1,by omega⟩⟩
theorem Ky2 {s:K00} {n:Nat} {t:K01} (h:tOk (gN s.fSize true) (yN s.fSize true) n t=true) (hg:Kr2 t.fOp=true):gN s.fSize true t.fN=true:=by
 have h1:=(Krw h).1
 unfold Krh Krf at h1
 simp only [Bool.and_eq_true] at h1
 have h2:=h1.1.2
 have hop:(t.fOp == 0)=false∧(t.fOp == 1)=false:=by
  simp only [Kr2,Bool.or_eq_true,beq_iff_eq] at hg
  constructor <;> rw [beq_eq_false_iff_ne] <;> omega
 rw [hop.1,hop.2,hg] at h2
 simpa using h2
theorem Ky3 {s:K00} {n:Nat} {t:K01} (h:tOk (gN s.fSize true) (yN s.fSize true) n t=true) (hg:Kr3 t.fOp=true):TyS s t.fType:=by
 have h1:=(Krw h).1
 unfold Krh Krg at h1
 simp only [Bool.and_eq_true] at h1
 have h2:=h1.2
 rw [hg] at h2
 show yN s.fSize true t.fType=true
 simpa using h2
theorem Ky4 {s:K00} {n:Nat} {t:K01} (h:tOk (gN s.fSize true) (yN s.fSize true) n t=true) (hg:t.fOp=0):∃ i:Nat,t.fN=(i:Int)∧i < n∧t.fKids=[]:=by
 have h1:=(Krw h).1
 have hl:=(Krz h1).2
 unfold Krh Krf at h1
 simp only [Bool.and_eq_true] at h1
 have h2:=h1.1.2
 rw [hg] at h2 hl
 simp [inB] at h2
 refine ⟨t.fN.toNat,by omega,by omega,?_⟩
 have:(t.fKids.length:Int)=0:=hl
 exact List.eq_nil_of_length_eq_zero (by omega)
theorem Ky5 {s:K00} {n:Nat} {t:K01} (h:tOk (gN s.fSize true) (yN s.fSize true) n t=true) (hg:t.fOp=1):t.fKids=[]:=by
 have h1:=(Krw h).1
 have hl:=(Krz h1).2
 rw [hg] at hl
 have:(t.fKids.length:Int)=0:=hl
 exact List.eq_nil_of_length_eq_zero (by omega)
def Ky6 (t:K01) (out:List Knk) (w:Nat):Option (List (List Int)) :=
 (if (decide ((w:Int) > 0))=true then some (true) else some ((t.fOp == 9))) >>= fun v =>
 if v=true then
  (if (decide ((w:Int) > 0))=true then (idx out 0) >>= fun e=>some (e.fty) else some ([])) >>= fun first=>(Kny (t,(w:Int),first)) >>= fun r=>some (r)
 else some ([])
def Ky7 (p0:Knl) (ctx:List (List Int)) (t:K01) (out:List Knk) (needs used:List (List Int)) (w:Nat) (more:List (List Int)) (y:Knk):Option (((List Knk) × (List (List Int)) × (List (List Int))) ⊕ (Knk)) :=
 if (y.ffault != 0)=true then
  (Qe5 ([(w:Int)].length + y.fpath.length) 8) >>= fun _=>some (.inr (Knk.mk [] [] [] y.ffault ([(w:Int)] ++ y.fpath)))
 else
  (Ko3 (p0,t,(w:Int),y.fty)) >>= fun f =>
  if (f != 0)=true then some (.inr (Knk.mk [] [] [] f []))
  else
   (if (t.fOp == 10)=true then
    if ((w:Int) == 1)=true then
     (idx out 0) >>= fun e=>(Khw e.fty) >>= fun r=>(idx r 0) >>= fun q=>(Ki3 (y.fty,q)) >>= fun b=>some ((!b))
    else some (false)
   else some (false)) >>= fun v =>
   if v=true then some (.inr (Knk.mk [] [] [] 3 []))
   else
    (Qe5 (out.length + [y].length) 8) >>= fun _ =>
    (cut y.fneeds none (some (more.length:Int)) none) >>= fun c1 =>
    (Qe5 (used.length + [c1].length) 24) >>= fun _ =>
    (cut y.fneeds (some (more.length:Int)) none none) >>= fun c2 =>
    (Qe5 (needs.length + [c2].length) 24) >>= fun _ =>
    Kop (p0,ctx,t,(out ++ [y]),(needs ++ [c2]),(used ++ [c1]),(wr ((w:Int) + 1)))
theorem Ky8 {p0:Knl} {ctx:List (List Int)} {t:K01} {out:List Knk} {needs used:List (List Int)} {w:Nat} {k:K01} {more:List (List Int)} {y:Knk} (hw:w < t.fKids.length) (hk:idx t.fKids (w:Int)=some k) (hm:Ky6 t out w=some more)
  (hc:ctx.length + more.length ≤ 1000000) (hy:Koo (p0,more ++ ctx,k)=some y):Kop (p0,ctx,t,out,needs,used,(w:Int))=Ky7 p0 ctx t out needs used w more y:=by
 rw [Kop.eq_def]
 simp only
 rw [Kot hw,if_pos rfl,hk,bs]
 have key:∀ {β:Type} (R:List (List Int)→Option β),((if (decide ((w:Int) > 0))=true then some (true) else some ((t.fOp == 9))) >>= fun v =>
   (if v=true then (if (decide ((w:Int) > 0))=true then (idx out 0) >>= fun e=>some (e.fty) else some ([])) >>= fun first=>(Kny (t,(w:Int),first)) >>= fun r=>some (r) else some ([])) >>= R)=(Ky6 t out w >>= R):=fun R=>by
  unfold Ky6
  simp only [Option.bind_eq_bind,Option.bind_assoc]
 refine (key _).trans ?_
 rw [hm,bs,Kxn [more,ctx] (by simp) (by simp; omega),bs]
 simp only [List.flatten_cons,List.flatten_nil,List.append_nil]
 rw [hy,bs]
 rfl
theorem Ky9 {p0:Knl} {ctx:List (List Int)} {t:K01} {out:List Knk} {needs used:List (List Int)} {w:Nat} (hw:t.fKids.length ≤ w):Kop (p0,ctx,t,out,needs,used,(w:Int))=some (.inl (out,needs,used)):=by
 rw [Kop.eq_def]
 simp only
 rw [Kou hw]; rfl
theorem Kya {α:Type} {l:List α} {m:Nat} (h:m ≤ l.length):cut l none (some (m:Int)) none=some (l.take m):=by
 unfold cut
 simp only [Option.getD_none,Option.getD_some,Int.toNat_natCast,Int.toNat_zero,List.drop_zero]
 rw [if_pos (by omega)]
theorem Kyb {α:Type} {l:List α} {m:Nat} (h:m ≤ l.length):cut l (some (m:Int)) none none=some (l.drop m):=by
 unfold cut
 simp only [Option.getD_none,Option.getD_some,Int.toNat_natCast]
 rw [if_pos (by omega),List.take_length]
def Kyc (t:K01) (out:List Knk) (w:Nat) (y:Knk):Option Bool :=
 if (t.fOp == 10)=true then
  if ((w:Int) == 1)=true then
   (idx out 0) >>= fun e=>(Khw e.fty) >>= fun r=>(idx r 0) >>= fun q=>(Ki3 (y.fty,q)) >>= fun b=>some ((!b))
  else some (false)
 else some (false)
section
variable {p0:Knl} {ctx:List (List Int)} {t:K01} {out:List Knk} {needs used:List (List Int)} {w:Nat} {more:List (List Int)} {y:Knk}
theorem Kyd (h:y.ffault ≠ 0) (hp:y.fpath.length ≤ 1000000):Ky7 p0 ctx t out needs used w more y=some (.inr ⟨[],[],[],y.ffault,(w:Int) :: y.fpath⟩):=by
 unfold Ky7
 rw [if_pos (bne_iff_ne.2 h),Kry (by simp; omega),bs]
 rfl
theorem Kye {f:Int} (h:y.ffault=0) (hf:Ko3 (p0,t,(w:Int),y.fty)=some f) (hf0:f ≠ 0):Ky7 p0 ctx t out needs used w more y=some (.inr ⟨[],[],[],f,[]⟩):=by
 unfold Ky7
 rw [if_neg (by simp [h]),hf,bs,if_pos (bne_iff_ne.2 hf0)]
theorem Kyf (h:y.ffault=0) (hf:Ko3 (p0,t,(w:Int),y.fty)=some 0) (ha:Kyc t out w y=some true):Ky7 p0 ctx t out needs used w more y=some (.inr ⟨[],[],[],3,[]⟩):=by
 unfold Ky7
 rw [if_neg (by simp [h]),hf,bs,if_neg (by simp)]
 refine (congrArg (· >>= _) (show _=some true from ha)).trans ?_
 rw [bs,if_pos rfl]
theorem Kyg {ns:List Nat} (h:y.ffault=0) (hf:Ko3 (p0,t,(w:Int),y.fty)=some 0) (ha:Kyc t out w y=some false) (hn:y.fneeds=Kwa ns) (hl:more.length ≤ ns.length)
  (h1:out.length ≤ 1000000) (h2:needs.length ≤ 1000000) (h3:used.length ≤ 1000000) (h4:w ≤ 1000000) :
  Ky7 p0 ctx t out needs used w more y=Kop (p0,ctx,t,(out ++ [y]),(needs ++ [Kwa (ns.drop more.length)]),(used ++ [Kwa (ns.take more.length)]),((w + 1:Nat):Int)):=by
 unfold Ky7
 rw [if_neg (by simp [h]),hf,bs,if_neg (by simp)]
 refine (congrArg (· >>= _) (show _=some false from ha)).trans ?_
 rw [bs,if_neg (by simp),Kry (by simp; omega),bs,hn,Kya (by rw [Kwb]; exact hl),bs,Kry (by simp; omega),bs,Kyb (by rw [Kwb]; exact hl),bs,Kry (by simp; omega),bs,Kos (by omega),Kwd,Kwc]
theorem Kyh {r:Knk} (hc:ctx.length ≤ 1000000) (h:Kop (p0,ctx,t,[],[],[],((0:Nat):Int))=some (.inr r)):Koo (p0,ctx,t)=some r:=by
 rw [Koo.eq_def]
 simp only
 rw [Kuc (by simp; omega),bs,show (0:Int)=((0:Nat):Int) from rfl,h]
 rfl
theorem Kyi {o:List Knk} {nd us:List (List Int)} {f:Int} {g:Knk} (hc:ctx.length ≤ 1000000) (h:Kop (p0,ctx,t,[],[],[],((0:Nat):Int))=some (.inl (o,nd,us)))
  (hf:Kon (p0,⟨[],Kwa (List.replicate ctx.length 0),o,0,[]⟩,ctx,t,nd,us)=some (f,g)) (hg:g.fpath=[]:=by rfl):Koo (p0,ctx,t)=some (if f=0 then ⟨g.fty,g.fneeds,g.fkids,0,g.fpath⟩ else ⟨[],[],[],f,[]⟩):=by
 have e:Kwa (List.replicate ctx.length 0)=List.replicate (Int.toNat (ctx.length:Int)) (0:Int):=by
  unfold Kwa; rw [List.map_replicate,Int.toNat_natCast]; rfl
 rw [e] at hf
 rw [Koo.eq_def]
 simp only
 rw [Kuc (by simp; omega),bs,show Kop (p0,ctx,t,[],[],[],0)=some (.inl (o,nd,us)) from h,bs]
 simp only
 rw [hf,bs]
 simp only
 by_cases hz:f=0
 ·subst hz; first | (rw [if_neg (by simp),if_pos rfl]; done) | rw [if_neg (by simp),if_pos rfl,hg]
 ·rw [if_pos (bne_iff_ne.2 hz),if_neg hz]
theorem Kyj (h:t.fOp ≠ 10):Kyc t out w y=some false:=by
 unfold Kyc
 rw [if_neg (by simpa using h)]
theorem Kyk (h:w ≠ 1):Kyc t out w y=some false:=by
 unfold Kyc
 have:((w:Int) == 1)=false:=by rw [beq_eq_false_iff_ne]; omega
 rw [this]
 simp
end
section
variable {s:K00} {n:Nat} (hs:Kwf s n) {N:Int} {ty:List Int} {ks:List K01} {w:Nat} {c:Int} {r:List Int}
theorem Kyl {op:Int} (h:(op=4∨op=6∨op=7∨op=9∨op=11)∨(w ≠ 0∧(op=3∨op=5∨op=8∨op=10∨op=12))):Ko3 (⟨s⟩,⟨op,N,ty,ks⟩,(w:Int),c :: r)=some 0:=by
 have hw:∀ hw:w ≠ 0,((w:Int) == 0)=false:=fun hw=>by rw [beq_eq_false_iff_ne]; omega
 unfold Ko3
 rcases h with (rfl | rfl | rfl | rfl | rfl) | ⟨h0,(rfl | rfl | rfl | rfl | rfl)⟩
 all_goals first | simp [Kti,Kq6,hw h0] | (by_cases h0:w=0 <;> simp [Kti,Kq6,h0])
theorem Kym:Ko3 (⟨s⟩,⟨2,N,ty,ks⟩,(w:Int),c :: r)=some (if (Kq5 c).1=0 then 0 else 2):=by
 unfold Ko3
 by_cases h:(Kq5 c).1=0 <;> simp [Kti,Kq6,h]
theorem Kyn:Ko3 (⟨s⟩,⟨3,N,ty,ks⟩,((0:Nat):Int),c :: r)=some (if (Kq5 c).1=0 then 0 else 2):=by
 unfold Ko3
 by_cases h:(Kq5 c).1=0 <;> simp [Kti,Kq6,h]
theorem Kyo:Ko3 (⟨s⟩,⟨10,N,ty,ks⟩,((0:Nat):Int),c :: r)=some (if (Kq5 c).1=3 then 0 else 6):=by
 unfold Ko3
 by_cases h:(Kq5 c).1=3 <;> simp [Kti,Kq6,h]
include hs
theorem Kyp {g:Nat} (hg:g < n):Ko3 (⟨s⟩,⟨5,(g:Int),ty,ks⟩,((0:Nat):Int),c :: r)=some (if (Kq5 c).1=1 then (if le s n 1 g then 0 else 8) else 4):=by
 have hl:=iLe hs.tab (Kwh hs) hg
 unfold Ko3
 by_cases h:(Kq5 c).1=1 <;> cases hle:le s n 1 g <;> simp [Kti,Kq6,h,show Kf4 (s,1,(g:Int))=some (le s n 1 g) from hl,hle]
theorem Kyq {g:Nat} (hg:g < n):Ko3 (⟨s⟩,⟨8,(g:Int),ty,ks⟩,((0:Nat):Int),c :: r)=some (if (Kq5 c).1=2 then (if le s n 1 g then 0 else 8) else 5):=by
 have hl:=iLe hs.tab (Kwh hs) hg
 unfold Ko3
 by_cases h:(Kq5 c).1=2 <;> cases hle:le s n 1 g <;> simp [Kti,Kq6,h,show Kf4 (s,1,(g:Int))=some (le s n 1 g) from hl,hle]
theorem Kyr {g:Nat} (hg:g < n):Ko3 (⟨s⟩,⟨12,(g:Int),ty,ks⟩,((0:Nat):Int),c :: r)=some (if (Kq5 c).1=4 then (if le s n 1 g then 0 else 8) else 7):=by
 have hl:=iLe hs.tab (Kwh hs) hg
 unfold Ko3
 by_cases h:(Kq5 c).1=4 <;> cases hle:le s n 1 g <;> simp [Kti,Kq6,h,show Kf4 (s,1,(g:Int))=some (le s n 1 g) from hl,hle]
end
def Kys (ty:List Int) (ns:List Nat) (kids:List Knk):Int × Knk:=(if ty.length > 40 then 3 else 0,⟨ty,Kwa ns,kids,0,[]⟩)
theorem Kyt {α:Type} (x:α) (l:List α):idx (x :: l) 0=some x:=rfl
theorem Kyu {α:Type} (x y:α) (l:List α):idx (x :: y :: l) 1=some y:=rfl
theorem Kyv {α:Type} (x y z:α) (l:List α):idx (x :: y :: z :: l) 2=some z:=rfl
section
variable {s:K00} {n:Nat} (hs:Kwf s n) {N:Int} {ty:List Int} {ks:List K01} {ctx us:List (List Int)} {z:List Int} {y0 y1 y2:Knk} {a b d:List Nat}
theorem Kyw {i:Nat} {q:List Int} {zs:List Nat} (hi:ctx[i]?=some q) (hz:i < zs.length) (hq:q.length ≤ 40):Kon (⟨s⟩,⟨[],Kwa zs,[],0,[]⟩,ctx,⟨0,(i:Int),ty,ks⟩,[],[])=some (Kys q (zs.set i 1) []):=by
 obtain ⟨h1,h2⟩:=List.getElem?_eq_some_iff.1 hi
 have e1:idx ctx (i:Int)=some q:=by rw [Kor h1,h2]
 have e2:idx (Kwa zs) (i:Int)=some ((zs[i]:Nat):Int):=by rw [Kor (by rw [Kwb]; exact hz)]; simp [Kwa]
 have e3:List.set (Kwa zs) i 1=Kwa (zs.set i 1):=by unfold Kwa; rw [List.map_set]; rfl
 have h40:¬ ((q.length:Int) > 40):=by omega
 unfold Kon Kom Kys
 simp [e1,e2,e3,Ks1 q (by omega),show ¬ (40 < (q.length:Int)) by omega,show ¬ (40 < q.length) by omega]
theorem Kyx {zs:List Nat}:Kon (⟨s⟩,⟨[],Kwa zs,[],0,[]⟩,ctx,⟨1,N,ty,ks⟩,[],[])=some (Kys [0] zs []):=by
 unfold Kon Kom Kys
 simp
theorem Kyy (hy:y0.fty.length ≤ 1000) (ht:ty.length ≤ 1000):Kon (⟨s⟩,⟨[],z,[y0],0,[]⟩,ctx,⟨6,N,ty,ks⟩,[Kwa a],us)=some (Kys (2 :: (y0.fty ++ ty)) a [y0]):=by
 have hc:=Kxj [[2],y0.fty,ty] (by simp) (by simp; omega)
 unfold Kon Kom Kys Ko7
 simp only [List.flatten_cons,List.flatten_nil,List.append_nil,List.singleton_append,List.cons_append,List.nil_append] at hc
 simp [Kyt,Kyu,hc]
 split <;> rename_i q40
 ·rw [if_pos (by omega)]
 ·rw [if_neg (by omega)]
theorem Kyz (hy:y0.fty.length ≤ 1000) (ht:ty.length ≤ 1000):Kon (⟨s⟩,⟨[],z,[y0],0,[]⟩,ctx,⟨7,N,ty,ks⟩,[Kwa a],us)=some (Kys (2 :: (ty ++ y0.fty)) a [y0]):=by
 have hc:=Kxj [[2],ty,y0.fty] (by simp) (by simp; omega)
 unfold Kon Kom Kys Ko7
 simp only [List.flatten_cons,List.flatten_nil,List.append_nil,List.singleton_append,List.cons_append,List.nil_append] at hc
 simp [Kyt,Kyu,hc]
 split <;> rename_i q40
 ·rw [if_pos (by omega)]
 ·rw [if_neg (by omega)]
include hs
theorem Kz0 (ha:Kwq n a) (hb:Kwq n b) (hl:a.length ≤ 1000000) (hab:a.length=b.length):Kon (⟨s⟩,⟨[],z,[y0,y1],0,[]⟩,ctx,⟨2,N,ty,ks⟩,[Kwa a,Kwa b],us)=some (Kys [0] (Kwn s n a b) [y0,y1]):=by
 have h:=Kx5 hs a b ha hb (by omega) hab
 unfold Kon Kom Kys
 simp [Kyt,Kyu,h]
theorem Kz1 (ha:Kwq n a) (hb:Kwq n b) (hd:Kwq n d) (hl:a.length ≤ 1000000) (hab:a.length=b.length) (had:a.length=d.length) (h2:y2.fty.length ≤ 1000) (h1:y1.fty.length ≤ 40) :
  Kon (⟨s⟩,⟨[],z,[y0,y1,y2],0,[]⟩,ctx,⟨3,N,ty,ks⟩,[Kwa a,Kwa b,Kwa d],us)=some (if y1.fty=y2.fty then Kys y1.fty (Kwn s n a (Kwp s n b d)) [y0,y1,y2] else (3,⟨[],z,[y0,y1,y2],0,[]⟩)):=by
 have hj:=Kx7 hs b d hb hd (by omega) (by omega)
 have hlj:(Kwp s n b d).length=a.length:=by unfold Kwp; rw [List.length_zipWith]; omega
 have h:=Kx5 hs a (Kwp s n b d) ha (Kwv hs hb hd) (by omega) hlj.symm
 have he:=Kuz y1.fty y2.fty (by omega)
 unfold Kon Kom Kys Ko7
 by_cases hq:y1.fty=y2.fty
 ·rw [show (y1.fty == y2.fty)=true from beq_iff_eq.2 hq] at he
  rw [if_pos hq]
  simp [Kyt,Kyu,Kyv,he,hj,h,show ¬ (40 < (y1.fty.length:Int)) by omega,show ¬ (40 < y1.fty.length) by omega]
 ·rw [show (y1.fty == y2.fty)=false from beq_eq_false_iff_ne.2 hq] at he
  rw [if_neg hq]
  simp [Kyt,Kyu,Kyv,he]
theorem Kz2 (ha:Kwq n a) (hb:Kwq n b) (hl:a.length ≤ 1000000) (hab:a.length=b.length) (h0:y0.fty.length ≤ 1000) (h1:y1.fty.length ≤ 1000) :
  Kon (⟨s⟩,⟨[],z,[y0,y1],0,[]⟩,ctx,⟨4,N,ty,ks⟩,[Kwa a,Kwa b],us)=some (Kys (1 :: (y0.fty ++ y1.fty)) (Kwn s n a b) [y0,y1]):=by
 have h:=Kx5 hs a b ha hb (by omega) hab
 have hc:=Kxj [[1],y0.fty,y1.fty] (by simp) (by simp; omega)
 unfold Kon Kom Kys Ko7
 simp only [List.flatten_cons,List.flatten_nil,List.append_nil,List.singleton_append,List.cons_append,List.nil_append] at hc
 simp [Kyt,Kyu,hc,h]
 split <;> rename_i q40
 ·rw [if_pos (by omega)]
 ·rw [if_neg (by omega)]
theorem Kz3 {g:Nat} (hg:g < n) {u:List Nat} (hu:Kwq n u) (hul:u.length ≤ 1000000) (hy:y0.fty.length ≤ 1000) (ht:ty.length ≤ 1000) :
  Kon (⟨s⟩,⟨[],z,[y0],0,[]⟩,ctx,⟨9,(g:Int),ty,ks⟩,[Kwa a],[Kwa u])=some (if (u.all fun x=>le s n x g)=true then Kys ((3 + (g:Int)) :: (ty ++ y0.fty)) a [y0] else (9,⟨[],z,[y0],0,[]⟩)):=by
 have hn:=hs.tab.hi
 have e:=Kxb hs g hg u hu (by omega)
 have hw:wr (3 + (g:Int))=3 + (g:Int):=Koq (by omega) (by omega)
 have hc:=Kxj [[3 + (g:Int)],ty,y0.fty] (by simp) (by simp; omega)
 unfold Kon Kom Kys Ko7
 simp only [List.flatten_cons,List.flatten_nil,List.append_nil,List.singleton_append,List.cons_append,List.nil_append] at hc
 cases hq:(u.all fun x=>le s n x g) with
 | true =>
  rw [hq] at e
  simp [Kyt,Kyu,e,hc,hw]
  split <;> rename_i q40
  ·rw [if_pos (by omega)]
  ·rw [if_neg (by omega)]
 | false =>
  rw [hq] at e
  simp [Kyt,Kyu,e]
theorem Kz4 {g:Nat} (hg:g < n) (ha:Kwq n a) (hl:a.length ≤ 1000000) (hy:y0.fty.length ≤ 1000) :
  Kon (⟨s⟩,⟨[],z,[y0],0,[]⟩,ctx,⟨11,(g:Int),ty,ks⟩,[Kwa a],us)=some (Kys ((19 + (g:Int)) :: y0.fty) (Kwo s n g a) [y0]):=by
 have hn:=hs.tab.hi
 have e:=Kx9 hs g hg a ha (by omega)
 have hw:wr (19 + (g:Int))=19 + (g:Int):=Koq (by omega) (by omega)
 have hc:=Kxj [[19 + (g:Int)],y0.fty] (by simp) (by simp; omega)
 unfold Kon Kom Kys Ko7
 simp only [List.flatten_cons,List.flatten_nil,List.append_nil,List.singleton_append,List.cons_append,List.nil_append] at hc
 simp [Kyt,Kyu,hc,hw,e]
 split <;> rename_i q40
 ·rw [if_pos (by omega)]
 ·rw [if_neg (by omega)]
theorem Kz5 {g:Nat} (hg:g < n) {p q:List Int} (hty:y0.fty=(3 + (g:Int)) :: (p ++ q)) (hP:Kxr s (3 + (g:Int)) p q) (ha:Kwq n a) (hb:Kwq n b) (hl:a.length ≤ 1000000) (hab:a.length=b.length) :
  Kon (⟨s⟩,⟨[],z,[y0,y1],0,[]⟩,ctx,⟨10,N,ty,ks⟩,[Kwa a,Kwa b],us)=some (Kys q (Kwn s n a (Kwo s n g b)) [y0,y1]):=by
 have hn:=hs.tab.hi
 have e:=Kx9 hs g hg b hb (by omega)
 have hlj:(Kwo s n g b).length=a.length:=by unfold Kwo; rw [List.length_map]; omega
 have h:=Kx5 hs a (Kwo s n g b) ha (Kwu hs hg hb) (by omega) hlj.symm
 have hsh:Kq5 (3 + (g:Int))=(3,(g:Int)):=by
  rcases Kq7 (3 + (g:Int)) with h | h | h | h | h | h | h | h <;> first | omega | (obtain ⟨_,e⟩:=h; rw [e]; congr 1; omega)
 have hq:=Kxo hP.yb
 have pp:=hP.pp
 rw [← hty] at pp
 have i0:idx y0.fty 0=some (3 + (g:Int)):=by rw [hty]; rfl
 unfold Kon Kom Kys Ko7
 simp [Kyt,Kyu,i0,Kq6,hsh,pp,e,h,show ¬ (40 < (q.length:Int)) by omega,show ¬ (40 < q.length) by omega]
theorem Kz6 {g:Nat} (hg:g < n) {u:List Nat} {us':List Int} (hu:Kwq n u) (hul:u.length ≤ 1000000) (ha:Kwq n a) (hb:Kwq n b) (hl:a.length ≤ 1000000) (hab:a.length=b.length) (h1:y1.fty.length ≤ 40) :
  Kon (⟨s⟩,⟨[],z,[y0,y1],0,[]⟩,ctx,⟨5,(g:Int),ty,ks⟩,[Kwa a,Kwa b],[us',Kwa u])=some (if (u.all fun x=>le s n x g)=true then Kys y1.fty (Kwn s n (Kwo s n g a) b) [y0,y1] else (9,⟨[],z,[y0,y1],0,[]⟩)):=by
 have e:=Kxb hs g hg u hu (by omega)
 have e2:=Kx9 hs g hg a ha (by omega)
 have hlj:(Kwo s n g a).length=a.length:=by unfold Kwo; rw [List.length_map]
 have h:=Kx5 hs (Kwo s n g a) b (Kwu hs hg ha) hb (by omega) (by omega)
 unfold Kon Kom Kys Ko7
 cases hq:(u.all fun x=>le s n x g) with
 | true =>
  rw [hq] at e
  simp [Kyt,Kyu,e,e2,h,show ¬ (40 < (y1.fty.length:Int)) by omega,show ¬ (40 < y1.fty.length) by omega]
 | false =>
  rw [hq] at e
  simp [Kyt,Kyu,e]
theorem Kz7 {g m:Nat} (hg:g < n) (hm:m < n) {p:List Int} (hty:y0.fty=(19 + (m:Int)) :: p) {u:List Nat} {us':List Int} (hu:Kwq n u) (hul:u.length ≤ 1000000) (ha:Kwq n a) (hb:Kwq n b) (hl:a.length ≤ 1000000) (hab:a.length=b.length) (h1:y1.fty.length ≤ 40) :
  Kon (⟨s⟩,⟨[],z,[y0,y1],0,[]⟩,ctx,⟨12,(g:Int),ty,ks⟩,[Kwa a,Kwa b],[us',Kwa u])=some (if (u.all fun x=>le s n x (ti s n g m))=true then Kys y1.fty (Kwn s n (Kwo s n g a) b) [y0,y1] else (9,⟨[],z,[y0,y1],0,[]⟩)):=by
 have hn:=hs.tab.hi
 have e0:=Kp6 hs.tab hg hm
 have e:=Kxb hs (ti s n g m) (Koz hs.tab hg hm) u hu (by omega)
 have e2:=Kx9 hs g hg a ha (by omega)
 have hlj:(Kwo s n g a).length=a.length:=by unfold Kwo; rw [List.length_map]
 have h:=Kx5 hs (Kwo s n g a) b (Kwu hs hg ha) hb (by omega) (by omega)
 have hsh:Kq5 (19 + (m:Int))=(4,(m:Int)):=by
  rcases Kq7 (19 + (m:Int)) with h | h | h | h | h | h | h | h <;> first | omega | (obtain ⟨_,e⟩:=h; rw [e]; congr 1; omega)
 have i0:idx y0.fty 0=some (19 + (m:Int)):=by rw [hty]; rfl
 unfold Kon Kom Kys Ko7
 cases hq:(u.all fun x=>le s n x (ti s n g m)) with
 | true =>
  rw [hq] at e
  simp [Kyt,Kyu,i0,Kq6,hsh,e0,e,e2,h,show ¬ (40 < (y1.fty.length:Int)) by omega,show ¬ (40 < y1.fty.length) by omega]
 | false =>
  rw [hq] at e
  simp [Kyt,Kyu,i0,Kq6,hsh,e0,e]
theorem Kz8 {g:Nat} (hg:g < n) {u v:List Nat} {us':List Int} (hu:Kwq n u) (hul:u.length ≤ 1000000) (hv:Kwq n v) (hvl:v.length ≤ 1000000) (ha:Kwq n a) (hb:Kwq n b) (hd:Kwq n d) (hl:a.length ≤ 1000000) (hab:a.length=b.length) (had:a.length=d.length) (h2:y2.fty.length ≤ 1000) (h1:y1.fty.length ≤ 40) :
  Kon (⟨s⟩,⟨[],z,[y0,y1,y2],0,[]⟩,ctx,⟨8,(g:Int),ty,ks⟩,[Kwa a,Kwa b,Kwa d],[us',Kwa u,Kwa v]) =
   some (if y1.fty=y2.fty then (if (u.all fun x=>le s n x g)=true∧(v.all fun x=>le s n x g)=true then Kys y1.fty (Kwn s n (Kwo s n g a) (Kwp s n b d)) [y0,y1,y2] else (9,⟨[],z,[y0,y1,y2],0,[]⟩)) else (3,⟨[],z,[y0,y1,y2],0,[]⟩)):=by
 have e:=Kxb hs g hg u hu (by omega)
 have e':=Kxb hs g hg v hv (by omega)
 have e2:=Kx9 hs g hg a ha (by omega)
 have hj:=Kx7 hs b d hb hd (by omega) (by omega)
 have hlj:(Kwp s n b d).length=a.length:=by unfold Kwp; rw [List.length_zipWith]; omega
 have hls:(Kwo s n g a).length=a.length:=by unfold Kwo; rw [List.length_map]
 have h:=Kx5 hs (Kwo s n g a) (Kwp s n b d) (Kwu hs hg ha) (Kwv hs hb hd) (by omega) (by omega)
 have he:=Kuz y1.fty y2.fty (by omega)
 unfold Kon Kom Kys Ko7
 by_cases hq:y1.fty=y2.fty
 ·rw [show (y1.fty == y2.fty)=true from beq_iff_eq.2 hq] at he
  rw [if_pos hq]
  cases hu':(u.all fun x=>le s n x g) with
  | false =>
   rw [hu'] at e
   simp [Kyt,Kyu,Kyv,he,e]
  | true =>
   rw [hu'] at e
   cases hv':(v.all fun x=>le s n x g) with
   | false =>
    rw [hv'] at e'
    simp [Kyt,Kyu,Kyv,he,e,e']
   | true =>
    rw [hv'] at e'
    simp [Kyt,Kyu,Kyv,he,e,e',e2,hj,h,show ¬ (40 < (y1.fty.length:Int)) by omega,show ¬ (40 < y1.fty.length) by omega]
 ·rw [show (y1.fty == y2.fty)=false from beq_eq_false_iff_ne.2 hq] at he
  rw [if_neg hq]
  simp [Kyt,Kyu,Kyv,he]
end
def Kz9 (t:K01) (i:Nat) (kids:List Knk):List (List Int):=(Kny (t,(i:Int),(match kids with | []=>[] | y :: _=>y.fty))).getD []
structure Kza (s:K00) (ctx:List (List Int)) (t:K01) (kids:List Knk) (i:Nat) (k:K01) (y:Knk):Prop where
 im:Koo (⟨s⟩,Kz9 t i kids ++ ctx,k)=some y
 fa:y.ffault=0
 ty:∀ q ∈ Kz9 t i kids,TyS s q
 ln:(Kz9 t i kids).length=Krb t.fOp i
structure Kzb (s:K00) (n:Nat) (ctx:List (List Int)) (t:K01) (x:Knj) (y:Knk):Prop where
 sp:Knu (s,ctx,t)=some x
 im:Koo (⟨s⟩,ctx,t)=some y
 ty:y.fty=x.fty
 ne:y.fneeds=x.fneeds
 fa:y.ffault=x.ffault
 pa:y.fpath=x.fpath
 pl:x.fpath.length + 1 ≤ tsz t
 bd:x.ffault ≠ 0→x.fty=[]∧x.fneeds=[]
 gd:x.ffault=0→TyS s x.fty∧x.fpath=[]∧∃ ns:List Nat,x.fneeds=Kwa ns∧ns.length=ctx.length∧Kwq n ns
 kd:x.ffault=0→y.fkids.length=t.fKids.length∧∀ (i:Nat) (k:K01),t.fKids[i]?=some k→∃ yk,y.fkids[i]?=some yk∧Kza s ctx t y.fkids i k yk
section
variable {s:K00} {n:Nat} {ctx:List (List Int)} {t:K01}
theorem Kzb.bad {f:Int} {p:List Int} (sp:Knu (s,ctx,t)=some ⟨[],[],f,p⟩) (im:Koo (⟨s⟩,ctx,t)=some ⟨[],[],[],f,p⟩) (hf:f ≠ 0) (hp:p.length + 1 ≤ tsz t):∃ x y,Kzb s n ctx t x y :=
 ⟨_,_,{ sp:=sp,im:=im,ty:=rfl,ne:=rfl,fa:=rfl,pa:=rfl,pl:=hp,bd:=fun _=>⟨rfl,rfl⟩,gd:=fun h=>absurd h hf,kd:=fun h=>absurd h hf }⟩
theorem Kzb.good {q:List Int} {ns:List Nat} {kids:List Knk} (sp:Knu (s,ctx,t)=some ⟨q,Kwa ns,0,[]⟩) (im:Koo (⟨s⟩,ctx,t)=some ⟨q,Kwa ns,kids,0,[]⟩) (hp:1 ≤ tsz t) (hq:TyS s q) (hl:ns.length=ctx.length) (hb:Kwq n ns)
  (kl:kids.length=t.fKids.length) (kd:∀ (i:Nat) (k:K01),t.fKids[i]?=some k→∃ yk,kids[i]?=some yk∧Kza s ctx t kids i k yk):∃ x y,Kzb s n ctx t x y :=
 ⟨_,_,{ sp:=sp,im:=im,ty:=rfl,ne:=rfl,fa:=rfl,pa:=rfl,pl:=by simpa using hp,bd:=fun h=>absurd rfl h,gd:=fun _=>⟨hq,rfl,ns,rfl,hl,hb⟩,kd:=fun _=>⟨kl,kd⟩ }⟩
theorem Kzb.done {q:List Int} {ns:List Nat} {kids:List Knk} (sp:Knu (s,ctx,t)=Knr (q,Kwa ns)) (im:Koo (⟨s⟩,ctx,t)=some (if (Kys q ns kids).1=0 then ⟨(Kys q ns kids).2.fty,(Kys q ns kids).2.fneeds,(Kys q ns kids).2.fkids,0,(Kys q ns kids).2.fpath⟩ else ⟨[],[],[],(Kys q ns kids).1,[]⟩)) (hp:1 ≤ tsz t)
  (hq:q.length ≤ 40→TyS s q) (hl:ns.length=ctx.length) (hb:Kwq n ns) (kl:kids.length=t.fKids.length) (kd:∀ (i:Nat) (k:K01),t.fKids[i]?=some k→∃ yk,kids[i]?=some yk∧Kza s ctx t kids i k yk):∃ x y,Kzb s n ctx t x y:=by
 unfold Knr Kno at sp
 simp only at sp
 unfold Kys at im
 by_cases h:q.length > 40
 ·rw [decide_eq_true (by omega),if_pos rfl,bs] at sp
  rw [if_pos h,if_neg (by simp)] at im
  exact Kzb.bad sp im (by decide) (by simpa using hp)
 ·rw [decide_eq_false (by omega),if_neg (by decide)] at sp
  rw [if_neg h,if_pos rfl] at im
  exact Kzb.good sp im hp (hq (by omega)) hl hb kl kd
theorem Kzc {i:Nat} {k:K01} {x:Knj} {y:Knk} {c:List (List Int)} (hk:t.fKids[i]?=some k) (h:Kzb s n c k x y) (hf:x.ffault=0):Knw (s,c,t,(i:Int))=some x:=by
 obtain ⟨h1,h2⟩:=List.getElem?_eq_some_iff.1 hk
 rw [Knw.eq_def]
 simp only
 rw [Kor h1,h2,bs,h.sp,bs,if_neg (by simp [hf]),bs]
theorem Kzd {i:Nat} {k:K01} {x:Knj} {y:Knk} {c:List (List Int)} (hk:t.fKids[i]?=some k) (h:Kzb s n c k x y) (hz:tsz k ≤ 1000000) (hf:x.ffault ≠ 0):Knw (s,c,t,(i:Int))=some ⟨[],[],x.ffault,(i:Int) :: x.fpath⟩:=by
 obtain ⟨h1,h2⟩:=List.getElem?_eq_some_iff.1 hk
 have hp:=h.pl
 obtain ⟨q1,q2⟩:=h.bd hf
 rw [Knw.eq_def]
 simp only
 rw [Kor h1,h2,bs,h.sp,bs,if_pos (bne_iff_ne.2 hf),Kry (by simp; omega),bs,bs,q1,q2]
 rfl
variable {out:List Knk} {nd us:List (List Int)} {w:Nat} {k:K01} {m:List (List Int)} {x:Knj} {y:Knk}
theorem Kze (hk:t.fKids[w]?=some k) (hm:Ky6 t out w=some m) (r:Kzb s n (m ++ ctx) k x y) (hz:tsz k ≤ 1000000) (hc:ctx.length + m.length ≤ 1000000) (hf:x.ffault ≠ 0) :
  Kop (⟨s⟩,ctx,t,out,nd,us,(w:Int))=some (.inr ⟨[],[],[],x.ffault,(w:Int) :: x.fpath⟩):=by
 obtain ⟨h1,h2⟩:=List.getElem?_eq_some_iff.1 hk
 have hp:=r.pl
 rw [Ky8 h1 (by rw [Kor h1,h2]) hm hc r.im,Kyd (by rw [r.fa]; exact hf) (by rw [r.pa]; omega),r.fa,r.pa]
theorem Kzf {f:Int} (hk:t.fKids[w]?=some k) (hm:Ky6 t out w=some m) (r:Kzb s n (m ++ ctx) k x y) (hc:ctx.length + m.length ≤ 1000000) (hf:x.ffault=0) (h:Ko3 (⟨s⟩,t,(w:Int),x.fty)=some f) (hf0:f ≠ 0) :
  Kop (⟨s⟩,ctx,t,out,nd,us,(w:Int))=some (.inr ⟨[],[],[],f,[]⟩):=by
 obtain ⟨h1,h2⟩:=List.getElem?_eq_some_iff.1 hk
 rw [Ky8 h1 (by rw [Kor h1,h2]) hm hc r.im,Kye (by rw [r.fa]; exact hf) (by rw [r.ty]; exact h) hf0]
theorem Kzg (hk:t.fKids[w]?=some k) (hm:Ky6 t out w=some m) (r:Kzb s n (m ++ ctx) k x y) (hc:ctx.length + m.length ≤ 1000000) (hf:x.ffault=0) (h:Ko3 (⟨s⟩,t,(w:Int),x.fty)=some 0) (ha:Kyc t out w y=some true) :
  Kop (⟨s⟩,ctx,t,out,nd,us,(w:Int))=some (.inr ⟨[],[],[],3,[]⟩):=by
 obtain ⟨h1,h2⟩:=List.getElem?_eq_some_iff.1 hk
 rw [Ky8 h1 (by rw [Kor h1,h2]) hm hc r.im,Kyf (by rw [r.fa]; exact hf) (by rw [r.ty]; exact h) ha]
theorem Kzh {ns:List Nat} (hk:t.fKids[w]?=some k) (hm:Ky6 t out w=some m) (r:Kzb s n (m ++ ctx) k x y) (hc:ctx.length + m.length ≤ 1000000) (hf:x.ffault=0) (h:Ko3 (⟨s⟩,t,(w:Int),x.fty)=some 0) (ha:Kyc t out w y=some false)
  (hn:x.fneeds=Kwa ns) (hl:m.length ≤ ns.length) (h1':out.length ≤ 1000000) (h2':nd.length ≤ 1000000) (h3':us.length ≤ 1000000) (h4':w ≤ 1000000) :
  Kop (⟨s⟩,ctx,t,out,nd,us,(w:Int))=Kop (⟨s⟩,ctx,t,(out ++ [y]),(nd ++ [Kwa (ns.drop m.length)]),(us ++ [Kwa (ns.take m.length)]),((w + 1:Nat):Int)):=by
 obtain ⟨h1,h2⟩:=List.getElem?_eq_some_iff.1 hk
 rw [Ky8 h1 (by rw [Kor h1,h2]) hm hc r.im,Kyg (by rw [r.fa]; exact hf) (by rw [r.ty]; exact h) ha (by rw [r.ne]; exact hn) hl h1' h2' h3' h4']
end
theorem Kzi {op N:Int} {ty:List Int} {ks:List K01} {i:Nat} {q:List Int} (h9:op ≠ 9) (h:Krb op (i:Int)=0):Kny (⟨op,N,ty,ks⟩,(i:Int),q)=some []:=by
 unfold Kny
 simp only
 rw [if_neg (by simpa using h9),Kre,bs,h]
 rfl
theorem Kzj {N:Int} {ty:List Int} {ks:List K01} {i:Nat} {q:List Int}:Kny (⟨9,N,ty,ks⟩,(i:Int),q)=some [ty]:=by
 unfold Kny
 simp only
 rw [if_pos (by decide)]
theorem Kzk {s:K00} {N:Int} {ty:List Int} {ks:List K01} {p q:List Int} (h:Kxr s 1 p q):Kny (⟨5,N,ty,ks⟩,((1:Nat):Int),1 :: (p ++ q))=some [q,p]:=by
 unfold Kny
 simp only
 rw [if_neg (by decide),Kre,bs,show Krb 5 ((1:Nat):Int)=2 from rfl,if_neg (by decide),h.pp,bs,if_pos (by decide)]
 rfl
theorem Kzl {s:K00} {N:Int} {ty:List Int} {ks:List K01} {p q:List Int} (h:Kxr s 2 p q):Kny (⟨8,N,ty,ks⟩,((1:Nat):Int),2 :: (p ++ q))=some [p]:=by
 unfold Kny
 simp only
 rw [if_neg (by decide),Kre,bs,show Krb 8 ((1:Nat):Int)=1 from rfl,if_neg (by decide),h.pp,bs,if_neg (by decide),if_pos (by decide)]
 rfl
theorem Kzm {s:K00} {N:Int} {ty:List Int} {ks:List K01} {p q:List Int} (h:Kxr s 2 p q):Kny (⟨8,N,ty,ks⟩,((2:Nat):Int),2 :: (p ++ q))=some [q]:=by
 unfold Kny
 simp only
 rw [if_neg (by decide),Kre,bs,show Krb 8 ((2:Nat):Int)=1 from rfl,if_neg (by decide),h.pp,bs,if_neg (by decide),if_pos (by decide)]
 rfl
theorem Kzn {s:K00} {N c:Int} {ty:List Int} {ks:List K01} {p:List Int} (h:Kxs s c p):Kny (⟨12,N,ty,ks⟩,((1:Nat):Int),c :: p)=some [p]:=by
 unfold Kny
 simp only
 rw [if_neg (by decide),Kre,bs,show Krb 12 ((1:Nat):Int)=1 from rfl,if_neg (by decide),h.pp,bs,if_neg (by decide),if_neg (by decide)]
theorem Kzo {op N:Int} {ty:List Int} {ks:List K01} (h9:op ≠ 9):Ky6 ⟨op,N,ty,ks⟩ [] 0=some []:=by
 unfold Ky6
 simp [h9]
theorem Kzp {N:Int} {ty:List Int} {ks:List K01}:Ky6 ⟨9,N,ty,ks⟩ [] 0=some [ty]:=by
 unfold Ky6
 have:=@Kzj N ty ks 0 []
 simp at this ⊢
 rw [this]
theorem Kzq {t:K01} {w:Nat} {y0:Knk} {l:List Knk} {m:List (List Int)} (hw:0 < w) (h:Kny (t,(w:Int),y0.fty)=some m):Ky6 t (y0 :: l) w=some m:=by
 unfold Ky6
 rw [show decide ((w:Int) > 0)=true from decide_eq_true (by omega),if_pos rfl,bs,if_pos rfl,if_pos rfl,Kyt,bs,bs,h,bs]
theorem Kzr {t:K01} {i:Nat} {y0:Knk} {l:List Knk} {m:List (List Int)} (h:Kny (t,(i:Int),y0.fty)=some m):Kz9 t i (y0 :: l)=m:=by
 unfold Kz9
 simp only
 rw [h]; rfl
theorem kd1 {s:K00} {ctx:List (List Int)} {op N:Int} {ty:List Int} {k0:K01} {y0:Knk} (h0:Kza s ctx ⟨op,N,ty,[k0]⟩ [y0] 0 k0 y0) :
  ∀ (i:Nat) (k:K01),(⟨op,N,ty,[k0]⟩:K01).fKids[i]?=some k→∃ yk,[y0][i]?=some yk∧Kza s ctx ⟨op,N,ty,[k0]⟩ [y0] i k yk:=by
 intro i k hk
 match i,hk with
 | 0,hk=>cases hk; exact ⟨y0,rfl,h0⟩
 | i + 1,hk=>simp at hk
theorem kd2 {s:K00} {ctx:List (List Int)} {op N:Int} {ty:List Int} {k0 k1:K01} {y0 y1:Knk} (h0:Kza s ctx ⟨op,N,ty,[k0,k1]⟩ [y0,y1] 0 k0 y0) (h1:Kza s ctx ⟨op,N,ty,[k0,k1]⟩ [y0,y1] 1 k1 y1) :
  ∀ (i:Nat) (k:K01),(⟨op,N,ty,[k0,k1]⟩:K01).fKids[i]?=some k→∃ yk,[y0,y1][i]?=some yk∧Kza s ctx ⟨op,N,ty,[k0,k1]⟩ [y0,y1] i k yk:=by
 intro i k hk
 match i,hk with
 | 0,hk=>cases hk; exact ⟨y0,rfl,h0⟩
 | 1,hk=>cases hk; exact ⟨y1,rfl,h1⟩
 | i + 2,hk=>simp at hk
theorem kd3 {s:K00} {ctx:List (List Int)} {op N:Int} {ty:List Int} {k0 k1 k2:K01} {y0 y1 y2:Knk} (h0:Kza s ctx ⟨op,N,ty,[k0,k1,k2]⟩ [y0,y1,y2] 0 k0 y0) (h1:Kza s ctx ⟨op,N,ty,[k0,k1,k2]⟩ [y0,y1,y2] 1 k1 y1) (h2:Kza s ctx ⟨op,N,ty,[k0,k1,k2]⟩ [y0,y1,y2] 2 k2 y2) :
  ∀ (i:Nat) (k:K01),(⟨op,N,ty,[k0,k1,k2]⟩:K01).fKids[i]?=some k→∃ yk,[y0,y1,y2][i]?=some yk∧Kza s ctx ⟨op,N,ty,[k0,k1,k2]⟩ [y0,y1,y2] i k yk:=by
 intro i k hk
 match i,hk with
 | 0,hk=>cases hk; exact ⟨y0,rfl,h0⟩
 | 1,hk=>cases hk; exact ⟨y1,rfl,h1⟩
 | 2,hk=>cases hk; exact ⟨y2,rfl,h2⟩
 | i + 3,hk=>simp at hk
theorem Kza.mk' {s:K00} {n:Nat} {ctx m:List (List Int)} {t k:K01} {y0:Knk} {l:List Knk} {i:Nat} {x:Knj} {y:Knk} (ha:Kny (t,(i:Int),y0.fty)=some m) (r:Kzb s n (m ++ ctx) k x y) (hf:x.ffault=0) (hm:∀ q ∈ m,TyS s q) (hl:m.length=Krb t.fOp i):Kza s ctx t (y0 :: l) i k y:=by
 have e:=Kzr (l:=l) ha
 exact ⟨by rw [e]; exact r.im,by rw [r.fa]; exact hf,by rw [e]; exact hm,by rw [e]; exact hl⟩
def Kzs (s:K00) (n sz:Nat):Prop:=∀ (k:K01) (c:List (List Int)),Ky1 s c.length k sz→(∀ q ∈ c,TyS s q)→c.length + 2 * tsz k ≤ 1000000→∃ x y,Kzb s n c k x y
theorem Kzt {X:Option Knk} {q:List Int} {ns:List Nat} {kids:List Knk} (h:q.length ≤ 40) (im:X=some (if (Kys q ns kids).1=0 then (⟨(Kys q ns kids).2.fty,(Kys q ns kids).2.fneeds,(Kys q ns kids).2.fkids,0,(Kys q ns kids).2.fpath⟩:Knk) else ⟨[],[],[],(Kys q ns kids).1,[]⟩)):X=some ⟨q,Kwa ns,kids,0,[]⟩:=by
 rw [im]
 unfold Kys
 simp only
 rw [show (if q.length > 40 then (3:Int) else 0)=0 from if_neg (by omega),if_pos rfl]
section
variable {s:K00} {n:Nat} (hs:Kwf s n) {ctx:List (List Int)} {N:Int} {ty:List Int} {ks:List K01}
theorem Kzu {op:Int} {k0:K01} {l:List K01} {x0:Knj} {y0:Knk} (h0:op ≠ 0) (h1:op ≠ 1) (h9:op ≠ 9) (hb:ctx.length + 2 * tsz (⟨op,N,ty,k0 :: l⟩:K01) ≤ 1000000) (r0:Kzb s n ctx k0 x0 y0) (f0:x0.ffault ≠ 0) :
  ∃ x y,Kzb s n ctx ⟨op,N,ty,k0 :: l⟩ x y:=by
 have hz:tsz k0 + 1 ≤ tsz (⟨op,N,ty,k0 :: l⟩:K01):=by rw [tsz,Kqr]; omega
 have e0:Knw (s,ctx,⟨op,N,ty,k0 :: l⟩,0)=some ⟨[],[],x0.ffault,0 :: x0.fpath⟩:=Kzd (i:=0) rfl r0 (by omega) f0
 refine Kzb.bad (f:=x0.ffault) (p:=0 :: x0.fpath) ?_ (Kyh (by omega) (Kze (m:=[]) rfl (Kzo h9) r0 (by omega) (by simp; omega) f0)) f0 (by have:=r0.pl; simp; omega)
 rw [Knu.eq_def]
 simp [h0,h1,h9,e0,f0]
include hs
theorem Kzv {t:K01} (ht:t.fOp=0) (h:tOk (gN s.fSize true) (yN s.fSize true) ctx.length t=true) (hc:∀ q ∈ ctx,TyS s q) (hb:ctx.length + 2 * tsz t ≤ 1000000):∃ x y,Kzb s n ctx t x y:=by
 obtain ⟨i,hi,hl,hk⟩:=Ky4 h ht
 obtain ⟨op,N,ty,ks⟩:=t
 simp only at ht hi hk
 subst ht; subst hi; subst hk
 have hq:ctx[i]?=some ctx[i]:=List.getElem?_eq_getElem hl
 have hy:=hc ctx[i] (List.getElem_mem hl)
 have e1:idx ctx (i:Int)=some ctx[i]:=Kor hl
 have hz:=Kxc ctx.length (by omega)
 have e2:idx (Kwa (List.replicate ctx.length 0)) (i:Int)=some (((List.replicate ctx.length (0:Nat))[i]'(by simpa using hl):Nat):Int):=by
  rw [Kor (by rw [Kwb]; simpa using hl)]; simp [Kwa]
 have e3:List.set (Kwa (List.replicate ctx.length 0)) i 1=Kwa ((List.replicate ctx.length 0).set i 1):=by unfold Kwa; rw [List.map_set]; rfl
 have hf:=Kyw (s:=s) (ty:=ty) (ks:=[]) (zs:=List.replicate ctx.length 0) hq (by simpa using hl) (Kxo hy)
 have im:=Kyi (p0:=⟨s⟩) (t:=⟨0,(i:Int),ty,[]⟩) (by omega) (Ky9 (Nat.le_refl _)) hf
 refine Kzb.good (q:=ctx[i]) (ns:=(List.replicate ctx.length 0).set i 1) (kids:=[]) ?_ ?_ (by rw [tsz]; omega) hy (by simp) ?_ rfl (fun i k hk=>by simp at hk)
 ·rw [Knu.eq_def]
  simp [hz,e1,e2,Ks0 ctx[i] (by have:=Kxo hy; omega),e3]
 ·exact Kzt (Kxo hy) im
 ·intro x hx
  have h1:=Kwh hs
  rcases List.mem_or_eq_of_mem_set hx with h | rfl
  ·rw [List.eq_of_mem_replicate h]; omega
  ·exact h1
theorem Kzw {t:K01} (ht:t.fOp=1) (h:tOk (gN s.fSize true) (yN s.fSize true) ctx.length t=true) (hb:ctx.length + 2 * tsz t ≤ 1000000):∃ x y,Kzb s n ctx t x y:=by
 have hk:=Ky5 h ht
 obtain ⟨op,N,ty,ks⟩:=t
 simp only at ht hk
 subst ht; subst hk
 have hz:=Kxc ctx.length (by omega)
 have hf:=Kyx (s:=s) (N:=N) (ty:=ty) (ks:=[]) (ctx:=ctx) (zs:=List.replicate ctx.length 0)
 have im:=Kyi (p0:=⟨s⟩) (t:=⟨1,N,ty,[]⟩) (by omega) (Ky9 (Nat.le_refl _)) hf
 refine Kzb.good (q:=[0]) (ns:=List.replicate ctx.length 0) (kids:=[]) ?_ ?_ (by rw [tsz]; omega) Kxu (by simp) ?_ rfl (fun i k hk=>by simp at hk)
 ·rw [Knu.eq_def]
  simp [hz]
 ·exact Kzt (by decide) im
 ·intro x hx
  rw [List.eq_of_mem_replicate hx]
  exact Kwi hs
theorem Kzx {q:List Int} (hq:TyS s q):∃ c r,q=c :: r∧((Kq5 c).1=0 ↔ c=0)∧(c=0→q=[0]):=by
 rcases Kxx hs hq with rfl | ⟨a,b,rfl,_⟩ | ⟨a,b,rfl,_⟩ | ⟨g,a,b,hg,h15,rfl,_⟩ | ⟨g,a,hg,h15,rfl,_⟩
 ·exact ⟨0,[],rfl,by decide,fun _=>rfl⟩
 ·exact ⟨1,_,rfl,by decide,fun h=>absurd h (by decide)⟩
 ·exact ⟨2,_,rfl,by decide,fun h=>absurd h (by decide)⟩
 ·refine ⟨_,_,rfl,?_,fun h=>by omega⟩
  rcases Kq7 (3 + (g:Int)) with h | h | h | h | h | h | h | h <;> first | omega | (obtain ⟨_,e⟩:=h; rw [e]; simp; omega)
 ·refine ⟨_,_,rfl,?_,fun h=>by omega⟩
  rcases Kq7 (19 + (g:Int)) with h | h | h | h | h | h | h | h <;> first | omega | (obtain ⟨_,e⟩:=h; rw [e]; simp; omega)
theorem Kzy (ih:Kzs s n (tsz (⟨6,N,ty,ks⟩:K01))) (h:tOk (gN s.fSize true) (yN s.fSize true) ctx.length ⟨6,N,ty,ks⟩=true) (hc:∀ q ∈ ctx,TyS s q) (hb:ctx.length + 2 * tsz (⟨6,N,ty,ks⟩:K01) ≤ 1000000):∃ x y,Kzb s n ctx ⟨6,N,ty,ks⟩ x y:=by
 obtain ⟨k0,rfl,p0⟩:=nd1 h (Nat.le_refl _) rfl
 have hz:=Kvm 6 N ty k0
 have hy:TyS s ty:=Ky3 h rfl
 have ly:=Kxo hy
 obtain ⟨x0,y0,r0⟩:=ih k0 ctx p0 hc (by omega)
 by_cases f0:x0.ffault=0
 rotate_left
 ·exact Kzu (by decide) (by decide) (by decide) hb r0 f0
 obtain ⟨g0,q0,a,na,la,ba⟩:=r0.gd f0
 obtain ⟨c0,t0,ht0,hn0,hz0⟩:=Kzx hs g0
 have L0:=Kxo g0
 have e0:Knw (s,ctx,⟨6,N,ty,[k0]⟩,0)=some x0:=Kzc (i:=0) rfl r0 f0
 have o0:=Kzh (out:=[]) (nd:=[]) (us:=[]) (w:=0) (t:=⟨6,N,ty,[k0]⟩) (m:=[]) rfl (Kzo (by decide)) r0 (by simp; omega) f0 (by rw [ht0]; exact Kyl (.inl (by decide))) (Kyj (show (6:Int) ≠ 10 by decide)) na (by simp <;> omega) (by simp) (by simp) (by simp) (by simp)
 have hf:=Kyy (s:=s) (N:=N) (ty:=ty) (ks:=[k0]) (ctx:=ctx) (us:=[Kwa []]) (z:=Kwa (List.replicate ctx.length 0)) (y0:=y0) (a:=a) (by rw [r0.ty]; omega) (by omega)
 have im:=Kyi (p0:=⟨s⟩) (t:=⟨6,N,ty,[k0]⟩) (ctx:=ctx) (by omega) (o0.trans (Ky9 (Nat.le_refl _))) hf
 rw [r0.ty] at im
 refine Kzb.done (q:=2 :: (x0.fty ++ ty)) (ns:=a) (kids:=[y0]) ?_ im (by omega) (fun hl=>Kxy hs g0 hy (.inr (.inl rfl)) hl) la ba rfl (kd1 (Kza.mk' (Kzi (by decide) rfl) r0 f0 (fun _ h=>by cases h) rfl))
 have hg:=Kxf 2 [x0.fty,ty] (by simp) (by simp; omega)
 simp only [List.flatten_cons,List.flatten_nil,List.append_nil] at hg
 rw [Knu.eq_def]
 simp [e0,f0,hg,na]
theorem Kzz (ih:Kzs s n (tsz (⟨7,N,ty,ks⟩:K01))) (h:tOk (gN s.fSize true) (yN s.fSize true) ctx.length ⟨7,N,ty,ks⟩=true) (hc:∀ q ∈ ctx,TyS s q) (hb:ctx.length + 2 * tsz (⟨7,N,ty,ks⟩:K01) ≤ 1000000):∃ x y,Kzb s n ctx ⟨7,N,ty,ks⟩ x y:=by
 obtain ⟨k0,rfl,p0⟩:=nd1 h (Nat.le_refl _) rfl
 have hz:=Kvm 7 N ty k0
 have hy:TyS s ty:=Ky3 h rfl
 have ly:=Kxo hy
 obtain ⟨x0,y0,r0⟩:=ih k0 ctx p0 hc (by omega)
 by_cases f0:x0.ffault=0
 rotate_left
 ·exact Kzu (by decide) (by decide) (by decide) hb r0 f0
 obtain ⟨g0,q0,a,na,la,ba⟩:=r0.gd f0
 obtain ⟨c0,t0,ht0,hn0,hz0⟩:=Kzx hs g0
 have L0:=Kxo g0
 have e0:Knw (s,ctx,⟨7,N,ty,[k0]⟩,0)=some x0:=Kzc (i:=0) rfl r0 f0
 have o0:=Kzh (out:=[]) (nd:=[]) (us:=[]) (w:=0) (t:=⟨7,N,ty,[k0]⟩) (m:=[]) rfl (Kzo (by decide)) r0 (by simp; omega) f0 (by rw [ht0]; exact Kyl (.inl (by decide))) (Kyj (show (7:Int) ≠ 10 by decide)) na (by simp <;> omega) (by simp) (by simp) (by simp) (by simp)
 have hf:=Kyz (s:=s) (N:=N) (ty:=ty) (ks:=[k0]) (ctx:=ctx) (us:=[Kwa []]) (z:=Kwa (List.replicate ctx.length 0)) (y0:=y0) (a:=a) (by rw [r0.ty]; omega) (by omega)
 have im:=Kyi (p0:=⟨s⟩) (t:=⟨7,N,ty,[k0]⟩) (ctx:=ctx) (by omega) (o0.trans (Ky9 (Nat.le_refl _))) hf
 rw [r0.ty] at im
 refine Kzb.done (q:=2 :: (ty ++ x0.fty)) (ns:=a) (kids:=[y0]) ?_ im (by omega) (fun hl=>Kxy hs hy g0 (.inr (.inl rfl)) hl) la ba rfl (kd1 (Kza.mk' (Kzi (by decide) rfl) r0 f0 (fun _ h=>by cases h) rfl))
 have hg:=Kxf 2 [ty,x0.fty] (by simp) (by simp; omega)
 simp only [List.flatten_cons,List.flatten_nil,List.append_nil] at hg
 rw [Knu.eq_def]
 simp [e0,f0,hg,na]
theorem V00 (ih:Kzs s n (tsz (⟨11,N,ty,ks⟩:K01))) (h:tOk (gN s.fSize true) (yN s.fSize true) ctx.length ⟨11,N,ty,ks⟩=true) (hc:∀ q ∈ ctx,TyS s q) (hb:ctx.length + 2 * tsz (⟨11,N,ty,ks⟩:K01) ≤ 1000000):∃ x y,Kzb s n ctx ⟨11,N,ty,ks⟩ x y:=by
 obtain ⟨k0,rfl,p0⟩:=nd1 h (Nat.le_refl _) rfl
 have hz:=Kvm 11 N ty k0
 obtain ⟨g,hN,hg'⟩:=Ky0 hs (Ky2 h rfl)
 simp only at hN
 subst hN
 obtain ⟨x0,y0,r0⟩:=ih k0 ctx p0 hc (by omega)
 by_cases f0:x0.ffault=0
 rotate_left
 ·exact Kzu (by decide) (by decide) (by decide) hb r0 f0
 obtain ⟨g0,q0,a,na,la,ba⟩:=r0.gd f0
 obtain ⟨c0,t0,ht0,hn0,hz0⟩:=Kzx hs g0
 have L0:=Kxo g0
 have e0:Knw (s,ctx,⟨11,(g:Int),ty,[k0]⟩,0)=some x0:=Kzc (i:=0) rfl r0 f0
 have o0:=Kzh (out:=[]) (nd:=[]) (us:=[]) (w:=0) (t:=⟨11,(g:Int),ty,[k0]⟩) (m:=[]) rfl (Kzo (by decide)) r0 (by simp; omega) f0 (by rw [ht0]; exact Kyl (.inl (by decide))) (Kyj (show (11:Int) ≠ 10 by decide)) na (by simp <;> omega) (by simp) (by simp) (by simp) (by simp)
 have hf:=Kz4 (ty:=ty) (ks:=[k0]) (ctx:=ctx) (us:=[Kwa []]) (z:=Kwa (List.replicate ctx.length 0)) (y0:=y0) (a:=a) hs hg' ba (by omega) (by rw [r0.ty]; omega)
 have im:=Kyi (p0:=⟨s⟩) (t:=⟨11,(g:Int),ty,[k0]⟩) (ctx:=ctx) (by omega) (o0.trans (Ky9 (Nat.le_refl _))) hf
 rw [r0.ty] at im
 have hn:=hs.tab.hi
 refine Kzb.done (q:=(19 + (g:Int)) :: x0.fty) (ns:=Kwo s n g a) (kids:=[y0]) ?_ im (by omega) (fun hl=>Kxz hs hg' g0 hl) (by unfold Kwo; rw [List.length_map]; exact la) (Kwu hs hg' ba) rfl (kd1 (Kza.mk' (Kzi (by decide) rfl) r0 f0 (fun _ h=>by cases h) rfl))
 have hg:=Kxf (19 + (g:Int)) [x0.fty] (by simp) (by simp; omega)
 simp only [List.flatten_cons,List.flatten_nil,List.append_nil] at hg
 have hsc:=Kwu hs hg' ba
 have hz0:=Kwx hs hsc
 rw [show (Kwo s n g a).length=ctx.length by unfold Kwo; rw [List.length_map]; exact la] at hz0
 have hsum:=Kwz hs g hg' (List.replicate ctx.length 0) a (fun x hx=>by rw [List.eq_of_mem_replicate hx]; exact Kwi hs) ba (by simp; omega) (by simp [la])
 rw [hz0] at hsum
 have hw:wr (19 + (g:Int))=19 + (g:Int):=Koq (by omega) (by omega)
 rw [Knu.eq_def]
 simp [e0,f0,hg,na,hw,Kxc ctx.length (by omega),hsum]
theorem V01 (ih:Kzs s n (tsz (⟨9,N,ty,ks⟩:K01))) (h:tOk (gN s.fSize true) (yN s.fSize true) ctx.length ⟨9,N,ty,ks⟩=true) (hc:∀ q ∈ ctx,TyS s q) (hb:ctx.length + 2 * tsz (⟨9,N,ty,ks⟩:K01) ≤ 1000000):∃ x y,Kzb s n ctx ⟨9,N,ty,ks⟩ x y:=by
 obtain ⟨k0,rfl,p0⟩:=nd1 h (Nat.le_refl _) rfl
 have hz:=Kvm 9 N ty k0
 obtain ⟨g,hN,hg'⟩:=Ky0 hs (Ky2 h rfl)
 simp only at hN
 subst hN
 have hy:TyS s ty:=Ky3 h rfl
 have ly:=Kxo hy
 have hn:=hs.tab.hi
 have p0':Ky1 s ([ty] ++ ctx).length k0 (tsz (⟨9,(g:Int),ty,[k0]⟩:K01)):=by
  have e:([ty] ++ ctx).length=ctx.length + Krb 9 0:=by simp [Krb]
  rw [e]; exact p0
 obtain ⟨x0,y0,r0⟩:=ih k0 ([ty] ++ ctx) p0' (fun q hq=>by rcases List.mem_cons.1 hq with rfl | hq; exact hy; exact hc q hq) (by simp; omega)
 have hw9:=Kxd ctx [ty] (by simp; omega)
 by_cases f0:x0.ffault=0
 rotate_left
 ·have e0:Knw (s,ty :: ctx,⟨9,(g:Int),ty,[k0]⟩,0)=some ⟨[],[],x0.ffault,0 :: x0.fpath⟩:=Kzd (i:=0) rfl r0 (by omega) f0
  refine Kzb.bad (f:=x0.ffault) (p:=0 :: x0.fpath) ?_ (Kyh (by omega) (Kze (m:=[ty]) rfl Kzp r0 (by omega) (by simp; omega) f0)) f0 (by have:=r0.pl; simp; omega)
  rw [Knu.eq_def]
  simp [hw9,e0,f0]
 obtain ⟨g0,q0,a,na,la,ba⟩:=r0.gd f0
 obtain ⟨c0,t0,ht0,hn0,hz0⟩:=Kzx hs g0
 have L0:=Kxo g0
 have e0:Knw (s,ty :: ctx,⟨9,(g:Int),ty,[k0]⟩,0)=some x0:=Kzc (i:=0) rfl r0 f0
 have la':a.length=ctx.length + 1:=by rw [la]; simp
 obtain ⟨u0,a',rfl⟩:∃ u0 a',a=u0 :: a':=by cases a with | nil=>simp at la' | cons u a'=>exact ⟨u,a',rfl⟩
 obtain ⟨hu0,ba'⟩:=Kwr ba
 have o0:=Kzh (out:=[]) (nd:=[]) (us:=[]) (w:=0) (t:=⟨9,(g:Int),ty,[k0]⟩) (m:=[ty]) rfl Kzp r0 (by simp; omega) f0 (by rw [ht0]; exact Kyl (.inl (by decide))) (Kyj (show (9:Int) ≠ 10 by decide)) na (by simp <;> omega) (by simp) (by simp) (by simp) (by simp)
 simp only [List.length_cons,List.length_nil,Nat.zero_add,List.drop_succ_cons,List.drop_zero,List.take_succ_cons,List.take_zero,List.nil_append] at o0
 have hf:=Kz3 (ty:=ty) (ks:=[k0]) (ctx:=ctx) (z:=Kwa (List.replicate ctx.length 0)) (y0:=y0) (a:=a') (u:=[u0]) hs hg' (fun x hx=>by simp at hx; rw [hx]; exact hu0) (by simp) (by rw [r0.ty]; omega) (by omega)
 have hl0:=o0.trans (Ky9 (Nat.le_refl _))
 have hle:=sLe hs.tab hu0 hg'
 have hw:wr (3 + (g:Int))=3 + (g:Int):=Koq (by omega) (by omega)
 have hi0:idx x0.fneeds 0=some (u0:Int):=by rw [na]; rfl
 simp only [List.all_cons,List.all_nil,Bool.and_true] at hf
 cases hl:le s n u0 g with
 | false =>
  rw [hl,if_neg (by decide)] at hf
  refine Kzb.bad (f:=9) (p:=[]) ?_ (Kyi (by omega) hl0 hf) (by decide) (by simp; omega)
  rw [Knu.eq_def]
  simp [hw9,e0,f0,hi0,hle,hl,Kno]
 | true =>
  rw [hl,if_pos rfl] at hf
  have im:=Kyi (by omega) hl0 hf
  rw [r0.ty] at im
  refine Kzb.done (q:=(3 + (g:Int)) :: (ty ++ x0.fty)) (ns:=a') (kids:=[y0]) ?_ im (by omega) (fun hl=>Kxy hs hy g0 (.inr (.inr ⟨g,hg',rfl⟩)) hl) (by simpa using la') ba' rfl (kd1 (Kza.mk' (m:=[ty]) Kzj r0 f0 (fun q hq=>by simp at hq; rw [hq]; exact hy) rfl))
  have hg:=Kxf (3 + (g:Int)) [ty,x0.fty] (by simp) (by simp; omega)
  simp only [List.flatten_cons,List.flatten_nil,List.append_nil] at hg
  have hcut:cut x0.fneeds (some 1) none none=some (Kwa a'):=by rw [na]; exact Ku2 _ _
  rw [Knu.eq_def]
  simp [hw9,e0,f0,hi0,hle,hl,hg,hw,hcut,Ks0 (Kwa a') (by rw [Kwb]; simp at la'; omega)]
theorem V02 (ih:Kzs s n (tsz (⟨4,N,ty,ks⟩:K01))) (h:tOk (gN s.fSize true) (yN s.fSize true) ctx.length ⟨4,N,ty,ks⟩=true) (hc:∀ q ∈ ctx,TyS s q) (hb:ctx.length + 2 * tsz (⟨4,N,ty,ks⟩:K01) ≤ 1000000):∃ x y,Kzb s n ctx ⟨4,N,ty,ks⟩ x y:=by
 obtain ⟨k0,k1,rfl,p0,p1⟩:=nd2 h (Nat.le_refl _) rfl
 have hz:=Kvn 4 N ty k0 k1
 obtain ⟨x0,y0,r0⟩:=ih k0 ctx p0 hc (by omega)
 obtain ⟨x1,y1,r1⟩:=ih k1 ctx p1 hc (by omega)
 by_cases f0:x0.ffault=0
 rotate_left
 ·exact Kzu (by decide) (by decide) (by decide) hb r0 f0
 obtain ⟨g0,q0,a,na,la,ba⟩:=r0.gd f0
 obtain ⟨c0,t0,ht0,hn0,hz0⟩:=Kzx hs g0
 have L0:=Kxo g0
 have e0:Knw (s,ctx,⟨4,N,ty,[k0,k1]⟩,0)=some x0:=Kzc (i:=0) rfl r0 f0
 have o0:=Kzh (out:=[]) (nd:=[]) (us:=[]) (w:=0) (t:=⟨4,N,ty,[k0,k1]⟩) (m:=[]) rfl (Kzo (by decide)) r0 (by simp; omega) f0 (by rw [ht0]; exact Kyl (.inl (by decide))) (Kyj (show (4:Int) ≠ 10 by decide)) na (by simp <;> omega) (by simp) (by simp) (by simp) (by simp)
 have m1:Ky6 ⟨4,N,ty,[k0,k1]⟩ [y0] 1=some []:=Kzq (by decide) (Kzi (by decide) rfl)
 by_cases f1:x1.ffault=0
 rotate_left
 ·have e1:Knw (s,ctx,⟨4,N,ty,[k0,k1]⟩,1)=some ⟨[],[],x1.ffault,1 :: x1.fpath⟩:=Kzd (i:=1) rfl r1 (by omega) f1
  refine Kzb.bad (f:=x1.ffault) (p:=1 :: x1.fpath) ?_ (Kyh (by omega) (o0.trans (Kze (m:=[]) rfl m1 r1 (by omega) (by simp; omega) f1))) f1 (by have:=r1.pl; simp; omega)
  rw [Knu.eq_def]
  simp [e0,f0,e1,f1]
 obtain ⟨g1,q1,b,nb,lb,bb⟩:=r1.gd f1
 obtain ⟨c1,t1,ht1,hn1,hz1⟩:=Kzx hs g1
 have L1:=Kxo g1
 have e1:Knw (s,ctx,⟨4,N,ty,[k0,k1]⟩,1)=some x1:=Kzc (i:=1) rfl r1 f1
 have o1:=Kzh (out:=[y0]) (nd:=[Kwa a]) (us:=[Kwa []]) (w:=1) (t:=⟨4,N,ty,[k0,k1]⟩) (m:=[]) rfl m1 r1 (by simp; omega) f1 (by rw [ht1]; exact Kyl (.inl (by decide))) (Kyj (show (4:Int) ≠ 10 by decide)) nb (by simp <;> omega) (by simp) (by simp) (by simp) (by simp)
 have hf:=Kz2 (N:=N) (ty:=ty) (ks:=[k0,k1]) (ctx:=ctx) (us:=[Kwa [],Kwa []]) (z:=Kwa (List.replicate ctx.length 0)) (y0:=y0) (y1:=y1) hs ba bb (by omega) (by omega) (by rw [r0.ty]; omega) (by rw [r1.ty]; omega)
 have im:=Kyi (p0:=⟨s⟩) (t:=⟨4,N,ty,[k0,k1]⟩) (ctx:=ctx) (by omega) (o0.trans (o1.trans (Ky9 (Nat.le_refl _)))) hf
 rw [r0.ty,r1.ty] at im
 refine Kzb.done (q:=1 :: (x0.fty ++ x1.fty)) (ns:=Kwn s n a b) (kids:=[y0,y1]) ?_ im (by omega) (fun hl=>Kxy hs g0 g1 (.inl rfl) hl) (by unfold Kwn; rw [List.length_zipWith]; omega) (Kwt hs ba bb) rfl (kd2 (Kza.mk' (Kzi (by decide) rfl) r0 f0 (fun _ h=>by cases h) rfl) (Kza.mk' (Kzi (by decide) rfl) r1 f1 (fun _ h=>by cases h) rfl))
 have hg:=Kxf 1 [x0.fty,x1.fty] (by simp) (by simp; omega)
 simp only [List.flatten_cons,List.flatten_nil,List.append_nil] at hg
 rw [Knu.eq_def]
 simp [e0,f0,e1,f1,hg,na,nb,Kx0 hs a b ba bb (by omega) (by omega)]
theorem V03 (ih:Kzs s n (tsz (⟨2,N,ty,ks⟩:K01))) (h:tOk (gN s.fSize true) (yN s.fSize true) ctx.length ⟨2,N,ty,ks⟩=true) (hc:∀ q ∈ ctx,TyS s q) (hb:ctx.length + 2 * tsz (⟨2,N,ty,ks⟩:K01) ≤ 1000000):∃ x y,Kzb s n ctx ⟨2,N,ty,ks⟩ x y:=by
 obtain ⟨k0,k1,rfl,p0,p1⟩:=nd2 h (Nat.le_refl _) rfl
 have hz:=Kvn 2 N ty k0 k1
 obtain ⟨x0,y0,r0⟩:=ih k0 ctx p0 hc (by omega)
 obtain ⟨x1,y1,r1⟩:=ih k1 ctx p1 hc (by omega)
 by_cases f0:x0.ffault=0
 rotate_left
 ·exact Kzu (by decide) (by decide) (by decide) hb r0 f0
 obtain ⟨g0,q0,a,na,la,ba⟩:=r0.gd f0
 obtain ⟨c0,t0,ht0,hn0,hz0⟩:=Kzx hs g0
 have L0:=Kxo g0
 have e0:Knw (s,ctx,⟨2,N,ty,[k0,k1]⟩,0)=some x0:=Kzc (i:=0) rfl r0 f0
 have i0:idx x0.fty 0=some c0:=by rw [ht0]; rfl
 by_cases z0:c0=0
 rotate_left
 ·refine Kzb.bad (f:=2) (p:=[]) ?_ (Kyh (by omega) (Kzf (m:=[]) rfl (Kzo (by decide)) r0 (by simp; omega) f0 (by rw [ht0,Kym,if_neg (by rw [hn0]; exact z0)]) (by decide))) (by decide) (by simp; omega)
  rw [Knu.eq_def]
  simp [e0,f0,i0,z0,Kno]
 have u0:=hz0 z0
 have s0:(Kq5 c0).1=0:=hn0.2 z0
 have o0:=Kzh (out:=[]) (nd:=[]) (us:=[]) (w:=0) (t:=⟨2,N,ty,[k0,k1]⟩) (m:=[]) rfl (Kzo (by decide)) r0 (by simp; omega) f0 (by rw [ht0,Kym,if_pos s0]) (Kyj (show (2:Int) ≠ 10 by decide)) na (by simp <;> omega) (by simp) (by simp) (by simp) (by simp)
 have m1:Ky6 ⟨2,N,ty,[k0,k1]⟩ [y0] 1=some []:=Kzq (by decide) (Kzi (by decide) rfl)
 by_cases f1:x1.ffault=0
 rotate_left
 ·have e1:Knw (s,ctx,⟨2,N,ty,[k0,k1]⟩,1)=some ⟨[],[],x1.ffault,1 :: x1.fpath⟩:=Kzd (i:=1) rfl r1 (by omega) f1
  refine Kzb.bad (f:=x1.ffault) (p:=1 :: x1.fpath) ?_ (Kyh (by omega) (o0.trans (Kze (m:=[]) rfl m1 r1 (by omega) (by simp; omega) f1))) f1 (by have:=r1.pl; simp; omega)
  rw [Knu.eq_def]
  simp [e0,f0,i0,z0,Knx.eq_def,e1,f1]
 obtain ⟨g1,q1,b,nb,lb,bb⟩:=r1.gd f1
 obtain ⟨c1,t1,ht1,hn1,hz1⟩:=Kzx hs g1
 have L1:=Kxo g1
 have e1:Knw (s,ctx,⟨2,N,ty,[k0,k1]⟩,1)=some x1:=Kzc (i:=1) rfl r1 f1
 have i1:idx x1.fty 0=some c1:=by rw [ht1]; rfl
 by_cases z1:c1=0
 rotate_left
 ·refine Kzb.bad (f:=2) (p:=[]) ?_ (Kyh (by omega) (o0.trans (Kzf (m:=[]) rfl m1 r1 (by simp; omega) f1 (by rw [ht1,Kym,if_neg (by rw [hn1]; exact z1)]) (by decide)))) (by decide) (by simp; omega)
  rw [Knu.eq_def]
  simp [e0,f0,i0,z0,e1,f1,i1,z1,Kno,Knx.eq_def]
 have u1:=hz1 z1
 have s1:(Kq5 c1).1=0:=hn1.2 z1
 have o1:=Kzh (out:=[y0]) (nd:=[Kwa a]) (us:=[Kwa []]) (w:=1) (t:=⟨2,N,ty,[k0,k1]⟩) (m:=[]) rfl m1 r1 (by simp; omega) f1 (by rw [ht1,Kym,if_pos s1]) (Kyj (show (2:Int) ≠ 10 by decide)) nb (by simp <;> omega) (by simp) (by simp) (by simp) (by simp)
 have hf:=Kz0 (N:=N) (ty:=ty) (ks:=[k0,k1]) (ctx:=ctx) (us:=[Kwa [],Kwa []]) (z:=Kwa (List.replicate ctx.length 0)) (y0:=y0) (y1:=y1) hs ba bb (by omega) (by omega)
 have im:=Kyi (p0:=⟨s⟩) (t:=⟨2,N,ty,[k0,k1]⟩) (ctx:=ctx) (by omega) (o0.trans (o1.trans (Ky9 (Nat.le_refl _)))) hf
 replace im:=Kzt (q:=[0]) (ns:=Kwn s n a b) (kids:=[y0,y1]) (by decide) im
 refine Kzb.good (q:=[0]) (ns:=Kwn s n a b) (kids:=[y0,y1]) ?_ im (by omega) Kxu (by unfold Kwn; rw [List.length_zipWith]; omega) (Kwt hs ba bb) rfl (kd2 (Kza.mk' (Kzi (by decide) rfl) r0 f0 (fun _ h=>by cases h) rfl) (Kza.mk' (Kzi (by decide) rfl) r1 f1 (fun _ h=>by cases h) rfl))
 rw [Knu.eq_def]
 simp [e0,f0,i0,z0,e1,f1,i1,z1,na,nb,u1,Kyt,Kx0 hs a b ba bb (by omega) (by omega),Knx.eq_def]
theorem V04 (ih:Kzs s n (tsz (⟨3,N,ty,ks⟩:K01))) (h:tOk (gN s.fSize true) (yN s.fSize true) ctx.length ⟨3,N,ty,ks⟩=true) (hc:∀ q ∈ ctx,TyS s q) (hb:ctx.length + 2 * tsz (⟨3,N,ty,ks⟩:K01) ≤ 1000000):∃ x y,Kzb s n ctx ⟨3,N,ty,ks⟩ x y:=by
 obtain ⟨k0,k1,k2,rfl,p0,p1,p2⟩:=nd3 h (Nat.le_refl _) rfl
 have hz:=Kvo 3 N ty k0 k1 k2
 obtain ⟨x0,y0,r0⟩:=ih k0 ctx p0 hc (by omega)
 obtain ⟨x1,y1,r1⟩:=ih k1 ctx p1 hc (by omega)
 obtain ⟨x2,y2,r2⟩:=ih k2 ctx p2 hc (by omega)
 by_cases f0:x0.ffault=0
 rotate_left
 ·exact Kzu (by decide) (by decide) (by decide) hb r0 f0
 obtain ⟨g0,q0,a,na,la,ba⟩:=r0.gd f0
 obtain ⟨c0,t0,ht0,hn0,hz0⟩:=Kzx hs g0
 have L0:=Kxo g0
 have e0:Knw (s,ctx,⟨3,N,ty,[k0,k1,k2]⟩,0)=some x0:=Kzc (i:=0) rfl r0 f0
 have i0:idx x0.fty 0=some c0:=by rw [ht0]; rfl
 by_cases z0:c0=0
 rotate_left
 ·refine Kzb.bad (f:=2) (p:=[]) ?_ (Kyh (by omega) (Kzf (m:=[]) rfl (Kzo (by decide)) r0 (by simp; omega) f0 (by rw [ht0,Kyn,if_neg (by rw [hn0]; exact z0)]) (by decide))) (by decide) (by simp; omega)
  rw [Knu.eq_def]
  simp [e0,f0,i0,z0,Kno]
 have u0:=hz0 z0
 have s0:(Kq5 c0).1=0:=hn0.2 z0
 have o0:=Kzh (out:=[]) (nd:=[]) (us:=[]) (w:=0) (t:=⟨3,N,ty,[k0,k1,k2]⟩) (m:=[]) rfl (Kzo (by decide)) r0 (by simp; omega) f0 (by rw [ht0,Kyn,if_pos s0]) (Kyj (show (3:Int) ≠ 10 by decide)) na (by simp <;> omega) (by simp) (by simp) (by simp) (by simp)
 have m1:Ky6 ⟨3,N,ty,[k0,k1,k2]⟩ [y0] 1=some []:=Kzq (by decide) (Kzi (by decide) rfl)
 by_cases f1:x1.ffault=0
 rotate_left
 ·have e1:Knw (s,ctx,⟨3,N,ty,[k0,k1,k2]⟩,1)=some ⟨[],[],x1.ffault,1 :: x1.fpath⟩:=Kzd (i:=1) rfl r1 (by omega) f1
  refine Kzb.bad (f:=x1.ffault) (p:=1 :: x1.fpath) ?_ (Kyh (by omega) (o0.trans (Kze (m:=[]) rfl m1 r1 (by omega) (by simp; omega) f1))) f1 (by have:=r1.pl; simp; omega)
  rw [Knu.eq_def]
  simp [e0,f0,i0,z0,Knx.eq_def,e1,f1]
 obtain ⟨g1,q1,b,nb,lb,bb⟩:=r1.gd f1
 obtain ⟨c1,t1,ht1,hn1,hz1⟩:=Kzx hs g1
 have L1:=Kxo g1
 have e1:Knw (s,ctx,⟨3,N,ty,[k0,k1,k2]⟩,1)=some x1:=Kzc (i:=1) rfl r1 f1
 have o1:=Kzh (out:=[y0]) (nd:=[Kwa a]) (us:=[Kwa []]) (w:=1) (t:=⟨3,N,ty,[k0,k1,k2]⟩) (m:=[]) rfl m1 r1 (by simp; omega) f1 (by rw [ht1]; exact Kyl (.inr (by decide))) (Kyj (show (3:Int) ≠ 10 by decide)) nb (by simp <;> omega) (by simp) (by simp) (by simp) (by simp)
 have m2:Ky6 ⟨3,N,ty,[k0,k1,k2]⟩ [y0,y1] 2=some []:=Kzq (by decide) (Kzi (by decide) rfl)
 by_cases f2:x2.ffault=0
 rotate_left
 ·have e2:Knw (s,ctx,⟨3,N,ty,[k0,k1,k2]⟩,2)=some ⟨[],[],x2.ffault,2 :: x2.fpath⟩:=Kzd (i:=2) rfl r2 (by omega) f2
  refine Kzb.bad (f:=x2.ffault) (p:=2 :: x2.fpath) ?_ (Kyh (by omega) (o0.trans (o1.trans (Kze (m:=[]) rfl m2 r2 (by omega) (by simp; omega) f2)))) f2 (by have:=r2.pl; simp; omega)
  rw [Knu.eq_def]
  simp [e0,f0,i0,z0,e1,f1,Knx.eq_def,e2,f2]
 obtain ⟨g2,q2,d,nd,ld,bd⟩:=r2.gd f2
 obtain ⟨c2,t2,ht2,hn2,hz2⟩:=Kzx hs g2
 have L2:=Kxo g2
 have e2:Knw (s,ctx,⟨3,N,ty,[k0,k1,k2]⟩,2)=some x2:=Kzc (i:=2) rfl r2 f2
 have o2:=Kzh (out:=[y0,y1]) (nd:=[Kwa a,Kwa b]) (us:=[Kwa [],Kwa []]) (w:=2) (t:=⟨3,N,ty,[k0,k1,k2]⟩) (m:=[]) rfl m2 r2 (by simp; omega) f2 (by rw [ht2]; exact Kyl (.inr (by decide))) (Kyj (show (3:Int) ≠ 10 by decide)) nd (by simp <;> omega) (by simp) (by simp) (by simp) (by simp)
 have hf:=Kz1 (N:=N) (ty:=ty) (ks:=[k0,k1,k2]) (ctx:=ctx) (us:=[Kwa [],Kwa [],Kwa []]) (z:=Kwa (List.replicate ctx.length 0)) (y0:=y0) (y1:=y1) (y2:=y2) hs ba bb bd (by omega) (by omega) (by omega) (by rw [r2.ty]; omega) (by rw [r1.ty]; omega)
 have hl0:=o0.trans (o1.trans (o2.trans (Ky9 (Nat.le_refl _))))
 
 have hsm:=Kux x1.fty x2.fty (by omega)
 have lj:(Kwp s n b d).length=ctx.length:=by unfold Kwp; rw [List.length_zipWith]; omega
 rw [r1.ty,r2.ty] at hf
 by_cases hq:x1.fty=x2.fty
 ·rw [if_pos hq] at hf
  have im:=Kyi (by omega) hl0 hf
  replace im:=Kzt (q:=x1.fty) (ns:=Kwn s n a (Kwp s n b d)) (kids:=[y0,y1,y2]) (by omega) im
  refine Kzb.good (q:=x1.fty) (ns:=Kwn s n a (Kwp s n b d)) (kids:=[y0,y1,y2]) ?_ im (by omega) g1 (by unfold Kwn; rw [List.length_zipWith]; omega) (Kwt hs ba (Kwv hs bb bd)) rfl (kd3 (Kza.mk' (Kzi (by decide) rfl) r0 f0 (fun _ h=>by cases h) rfl) (Kza.mk' (Kzi (by decide) rfl) r1 f1 (fun _ h=>by cases h) rfl) (Kza.mk' (Kzi (by decide) rfl) r2 f2 (fun _ h=>by cases h) rfl))
  rw [show (x1.fty == x2.fty)=true from beq_iff_eq.2 hq] at hsm
  rw [Knu.eq_def]
  simp [e0,f0,i0,z0,e1,f1,e2,f2,hsm,na,nb,nd,Kx2 hs b d bb bd (by omega) (by omega),Kx0 hs a (Kwp s n b d) ba (Kwv hs bb bd) (by omega) (by omega),Knx.eq_def]
 ·rw [if_neg hq] at hf
  refine Kzb.bad (f:=3) (p:=[]) ?_ (Kyi (by omega) hl0 hf) (by decide) (by simp; omega)
  rw [show (x1.fty == x2.fty)=false from beq_eq_false_iff_ne.2 hq] at hsm
  rw [Knu.eq_def]
  simp [e0,f0,i0,z0,e1,f1,e2,f2,hsm,Knx.eq_def,Kno]
end
end Go.Am
