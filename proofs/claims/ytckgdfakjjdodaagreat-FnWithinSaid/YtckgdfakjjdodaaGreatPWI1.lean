/- Plain laws of the printed functions. -/
import Derived.Test.YtckgdfakjjdodaaGreatPWI0
set_option linter.unusedSimpArgs false
set_option linter.unusedVariables false
namespace Go.Am
def TyS (s:K00) (ty:List Int):Prop:=yN s.fSize true ty=true
theorem Kyw {s:K00} {ty:List Int} (h:TyS s ty):ty.length ≤ 40:=by
 unfold TyS yN at h
 rw [Bool.and_eq_true] at h
 exact Kub h.1
theorem Kyx {s:K00} {ty:List Int} (h:TyS s ty):∃ T:Ty,T.ok∧ty=T.code∧T.code.length ≤ 40∧T.code.all (Kt3 s.fSize true)=true:=by
 have hl:=Kyw h
 unfold TyS yN at h
 rw [Bool.and_eq_true] at h
 obtain ⟨T,h1,rfl,_⟩:=Kv2 h.1
 exact ⟨T,h1,rfl,hl,h.2⟩
theorem Kyy {s:K00} {T:Ty} (h:T.ok) (hl:T.code.length ≤ 40) (hc:T.code.all (Kt3 s.fSize true)=true):TyS s T.code:=by
 unfold TyS yN
 rw [Kv3 h hl,hc]; rfl
structure Kyz (s:K00) (c:Int) (a b:List Int):Prop where
 ya:TyS s a
 yb:TyS s b
 p0:Ker (c :: (a ++ b),0)=some a
 p1:Ker (c :: (a ++ b),1)=some b
 pp:Klt (c :: (a ++ b))=some [a,b]
structure Kz0 (s:K00) (c:Int) (a:List Int):Prop where
 ya:TyS s a
 p0:Ker (c :: a,0)=some a
 pp:Klt (c :: a)=some [a]
theorem Kz1 {s:K00} {c:Int} (hc:c=35∨c=36):Kt3 s.fSize true c=false:=by
 rcases hc with rfl | rfl
 ·unfold Kt3 Kt2
  rw [show Ksh 35=2 from rfl]; simp
 ·unfold Kt3 Kt2
  rw [show Ksh 36=1 from rfl]; simp
theorem Kz2 {s:K00}:TyS s [0]:=Kyy (T:=.num) trivial (by decide) (by
 show (Kt3 s.fSize true 0 && true)=true
 unfold Kt3
 rw [show Ksh 0=0 from rfl]; simp)
section
variable {s:K00} {n:Nat} (hs:Kxa s n)
include hs
theorem Kz3 {c:Int} (hc:3 ≤ c∧c ≤ 18):Kt3 s.fSize true c=true ↔ c - 3 < (n:Int):=by
 have hk:Ksh c=2:=by rcases Ksl c with h | h | h | h <;> omega
 unfold Kt3 Kt2
 rw [hk,hs.tab.size,if_neg (by omega),if_neg (by omega)]
 simp
 omega
theorem Kz4 {c:Int} (hc:19 ≤ c∧c ≤ 34):Kt3 s.fSize true c=true ↔ c - 19 < (n:Int):=by
 have hk:Ksh c=1:=by rcases Ksl c with h | h | h | h <;> omega
 unfold Kt3 Kt2
 rw [hk,hs.tab.size,if_neg (by omega),if_pos (by omega)]
 simp
 omega
theorem Kz5 {ty:List Int} (h:TyS s ty):ty=[0]∨(∃ a b,ty=1 :: (a ++ b)∧Kyz s 1 a b)∨(∃ a b,ty=2 :: (a ++ b)∧Kyz s 2 a b) ∨
  (∃ (g:Nat) (a b:List Int),g < n∧g ≤ 15∧ty=(3 + (g:Int)) :: (a ++ b)∧Kyz s (3 + (g:Int)) a b)∨(∃ (g:Nat) (a:List Int),g < n∧g ≤ 15∧ty=(19 + (g:Int)) :: a∧Kz0 s (19 + (g:Int)) a):=by
 obtain ⟨T,hT,rfl,hl,hc⟩:=Kyx h
 cases T with
 | num=>exact .inl rfl
 | bin c a b =>
  have B:=Kwc hT (by omega)
  have hl':=hl
  rw [Ty.code,List.length_cons,List.length_append] at hl'
  rw [Ty.code,List.all_cons,List.all_append,Bool.and_eq_true,Bool.and_eq_true] at hc
  have hP:Kyz s c a.code b.code:=⟨Kyy B.ok.1 (by omega) hc.2.1,Kyy B.ok.2 (by omega) hc.2.2,B.p0,B.p1,B.pp⟩
  have hk:=hT.1
  rcases Ksl c with ⟨q,e⟩ | ⟨q,e⟩ | ⟨q,e⟩ | ⟨q,e⟩
  ·rw [e] at hk; exact absurd hk (by decide)
  ·rcases q with rfl | rfl | q | rfl
   ·exact .inr (.inl ⟨_,_,rfl,hP⟩)
   ·exact .inr (.inr (.inl ⟨_,_,rfl,hP⟩))
   ·have:=(Kz3 hs q).1 hc.1
    obtain ⟨g,hg⟩:∃ g:Nat,c=3 + (g:Int):=⟨(c - 3).toNat,by omega⟩
    subst hg
    exact .inr (.inr (.inr (.inl ⟨g,_,_,by omega,by omega,rfl,hP⟩)))
   ·rw [Kz1 (s:=s) (.inl rfl)] at hc; exact absurd hc.1 (by decide)
  ·rw [e] at hk; exact absurd hk (by decide)
  ·rw [e] at hk; exact absurd hk (by decide)
 | un c a =>
  have B:=unP hT (by omega)
  have hl':=hl
  rw [Ty.code,List.length_cons] at hl'
  rw [Ty.code,List.all_cons,Bool.and_eq_true] at hc
  have hP:Kz0 s c a.code:=⟨Kyy B.ok (by omega) hc.2,B.p0,B.pp⟩
  have hk:=hT.1
  rcases Ksl c with ⟨q,e⟩ | ⟨q,e⟩ | ⟨q,e⟩ | ⟨q,e⟩
  ·rw [e] at hk; exact absurd hk (by decide)
  ·rw [e] at hk; exact absurd hk (by decide)
  ·rcases q with q | rfl
   ·have:=(Kz4 hs q).1 hc.1
    obtain ⟨g,hg⟩:∃ g:Nat,c=19 + (g:Int):=⟨(c - 19).toNat,by omega⟩
    subst hg
    exact .inr (.inr (.inr (.inr ⟨g,_,by omega,by omega,rfl,hP⟩)))
   ·rw [Kz1 (s:=s) (.inr rfl)] at hc; exact absurd hc.1 (by decide)
  ·rw [e] at hk; exact absurd hk (by decide)
theorem Kz6 {c:Int} {a b:List Int} (ha:TyS s a) (hb:TyS s b) (hc:c=1∨c=2∨∃ g:Nat,g < n∧c=3 + (g:Int)) (hl:(c :: (a ++ b)).length ≤ 40):TyS s (c :: (a ++ b)):=by
 obtain ⟨A,hA,rfl,_,hAc⟩:=Kyx ha
 obtain ⟨B,hB,rfl,_,hBc⟩:=Kyx hb
 have hn:=hs.tab.hi
 have hk:Ksh c=2∧Kt3 s.fSize true c=true:=by
  rcases hc with rfl | rfl | ⟨g,hg,rfl⟩
  ·exact ⟨rfl,by unfold Kt3; rw [show Ksh 1=2 from rfl]; simp⟩
  ·exact ⟨rfl,by unfold Kt3; rw [show Ksh 2=2 from rfl]; simp⟩
  ·refine ⟨by rcases Ksl (3 + (g:Int)) with h | h | h | h <;> omega,(Kz3 hs (by omega)).2 (by omega)⟩
 have:TyS s (Ty.bin c A B).code:=Kyy ⟨hk.1,hA,hB⟩ hl (by rw [Ty.code,List.all_cons,List.all_append,hk.2,hAc,hBc]; rfl)
 exact this
theorem Kz7 {g:Nat} (hg:g < n) {a:List Int} (ha:TyS s a) (hl:((19 + (g:Int)) :: a).length ≤ 40):TyS s ((19 + (g:Int)) :: a):=by
 obtain ⟨A,hA,rfl,_,hAc⟩:=Kyx ha
 have hn:=hs.tab.hi
 have hk:Ksh (19 + (g:Int))=1:=by rcases Ksl (19 + (g:Int)) with h | h | h | h <;> omega
 have:TyS s (Ty.un (19 + (g:Int)) A).code:=Kyy ⟨hk,hA⟩ hl (by rw [Ty.code,List.all_cons,(Kz4 hs (by omega)).2 (by omega),hAc]; rfl)
 exact this
theorem Kz8 {x:Int} (h:gN s.fSize true x=true):∃ g:Nat,x=(g:Int)∧g < n:=by
 unfold gN at h
 rw [hs.tab.size] at h
 simp at h
 exact ⟨x.toNat,by omega,by omega⟩
end
structure Kz9 (s:K00) (n:Nat) (k:K01) (m:Nat):Prop where
 ok:tOk (gN s.fSize true) (yN s.fSize true) n k=true
 sz:tsz k + 1 ≤ m
theorem nd1 {s:K00} {n m:Nat} {op N:Int} {ty:List Int} {ks:List K01} (h:tOk (gN s.fSize true) (yN s.fSize true) n ⟨op,N,ty,ks⟩=true) (hm:tsz ⟨op,N,ty,ks⟩ ≤ m) (hk:Kti op=1):∃ a,ks=[a]∧Kz9 s (n + Kts op 0) a m:=by
 obtain ⟨h1,h2⟩:=Kuc h
 obtain ⟨a,rfl⟩:=Kwo (l:=ks) (beq_iff_eq.2 (by rw [← hk]; exact (Kuf h1).2))
 simp only at h2
 rw [Kwm,Bool.and_eq_true] at h2
 rw [Kx1] at hm
 exact ⟨a,rfl,h2.1,by omega⟩
theorem nd2 {s:K00} {n m:Nat} {op N:Int} {ty:List Int} {ks:List K01} (h:tOk (gN s.fSize true) (yN s.fSize true) n ⟨op,N,ty,ks⟩=true) (hm:tsz ⟨op,N,ty,ks⟩ ≤ m) (hk:Kti op=2):∃ a b,ks=[a,b]∧Kz9 s (n + Kts op 0) a m∧Kz9 s (n + Kts op 1) b m:=by
 obtain ⟨h1,h2⟩:=Kuc h
 obtain ⟨a,b,rfl⟩:=Kwp (l:=ks) (beq_iff_eq.2 (by rw [← hk]; exact (Kuf h1).2))
 simp only at h2
 rw [Kwm,Kwm,Bool.and_eq_true,Bool.and_eq_true] at h2
 rw [Kx2] at hm
 exact ⟨a,b,rfl,⟨h2.1,by omega⟩,⟨h2.2.1,by omega⟩⟩
theorem nd3 {s:K00} {n m:Nat} {op N:Int} {ty:List Int} {ks:List K01} (h:tOk (gN s.fSize true) (yN s.fSize true) n ⟨op,N,ty,ks⟩=true) (hm:tsz ⟨op,N,ty,ks⟩ ≤ m) (hk:Kti op=3):∃ a b c,ks=[a,b,c]∧Kz9 s (n + Kts op 0) a m∧Kz9 s (n + Kts op 1) b m∧Kz9 s (n + Kts op 2) c m:=by
 obtain ⟨h1,h2⟩:=Kuc h
 obtain ⟨a,b,c,rfl⟩:=Kx4 (l:=ks) (by rw [← hk]; exact (Kuf h1).2)
 simp only at h2
 rw [Kwm,Kwm,Kwm,Bool.and_eq_true,Bool.and_eq_true,Bool.and_eq_true] at h2
 rw [Kx3] at hm
 exact ⟨a,b,c,rfl,⟨h2.1,by omega⟩,⟨h2.2.1,by omega⟩,⟨h2.2.2.1,by omega⟩⟩
theorem Kza {s:K00} {n:Nat} {t:K01} (h:tOk (gN s.fSize true) (yN s.fSize true) n t=true) (hg:Ktj t.fOp=true):gN s.fSize true t.fN=true:=by
 have h1:=(Kuc h).1
 unfold Kty Ktw at h1
 simp only [Bool.and_eq_true] at h1
 have h2:=h1.1.2
 have hop:(t.fOp == 0)=false∧(t.fOp == 1)=false:=by
  simp only [Ktj,Bool.or_eq_true,beq_iff_eq] at hg
  constructor <;> rw [beq_eq_false_iff_ne] <;> omega
 rw [hop.1,hop.2,hg] at h2
 simpa using h2
theorem Kzb {s:K00} {n:Nat} {t:K01} (h:tOk (gN s.fSize true) (yN s.fSize true) n t=true) (hg:Ktk t.fOp=true):TyS s t.fType:=by
 have h1:=(Kuc h).1
 unfold Kty Ktx at h1
 simp only [Bool.and_eq_true] at h1
 have h2:=h1.2
 rw [hg] at h2
 show yN s.fSize true t.fType=true
 simpa using h2
theorem Kzc {s:K00} {n:Nat} {t:K01} (h:tOk (gN s.fSize true) (yN s.fSize true) n t=true) (hg:t.fOp=0):∃ i:Nat,t.fN=(i:Int)∧i < n∧t.fKids=[]:=by
 have h1:=(Kuc h).1
 have hl:=(Kuf h1).2
 unfold Kty Ktw at h1
 simp only [Bool.and_eq_true] at h1
 have h2:=h1.1.2
 rw [hg] at h2 hl
 simp [inB] at h2
 refine ⟨t.fN.toNat,by omega,by omega,?_⟩
 have:(t.fKids.length:Int)=0:=hl
 exact List.eq_nil_of_length_eq_zero (by omega)
theorem Kzd {s:K00} {n:Nat} {t:K01} (h:tOk (gN s.fSize true) (yN s.fSize true) n t=true) (hg:t.fOp=1):t.fKids=[]:=by
 have h1:=(Kuc h).1
 have hl:=(Kuf h1).2
 rw [hg] at hl
 have:(t.fKids.length:Int)=0:=hl
 exact List.eq_nil_of_length_eq_zero (by omega)
def Kze (t:K01) (out:List K04) (w:Nat):Option (List (List Int)) :=
 (if (decide ((w:Int) > 0))=true then some (true) else some ((t.fOp == 9))) >>= fun v =>
 if v=true then
  (if (decide ((w:Int) > 0))=true then (idx out 0) >>= fun e=>some (e.fty) else some ([])) >>= fun first=>(Klw (t,(w:Int),first)) >>= fun r=>some (r)
 else some ([])
def Kzf (p0:K06) (ctx:List (List Int)) (t:K01) (out:List K04) (needs used:List (List Int)) (w:Nat) (more:List (List Int)) (y:K04):Option (((List K04) × (List (List Int)) × (List (List Int))) ⊕ (K04)) :=
 if (y.ffault != 0)=true then
  (Qei ([(w:Int)].length + y.fpath.length) 8) >>= fun _=>some (.inr (K04.mk [] [] [] y.ffault ([(w:Int)] ++ y.fpath)))
 else
  (Kme (p0,t,(w:Int),y.fty)) >>= fun f =>
  if (f != 0)=true then some (.inr (K04.mk [] [] [] f []))
  else
   (if (t.fOp == 10)=true then
    if ((w:Int) == 1)=true then
     (idx out 0) >>= fun e=>(Klt e.fty) >>= fun r=>(idx r 0) >>= fun q=>(Kml (y.fty,q)) >>= fun b=>some ((!b))
    else some (false)
   else some (false)) >>= fun v =>
   if v=true then some (.inr (K04.mk [] [] [] 3 []))
   else
    (Qei (out.length + [y].length) 8) >>= fun _ =>
    (cut y.fneeds none (some (more.length:Int)) none) >>= fun c1 =>
    (Qei (used.length + [c1].length) 24) >>= fun _ =>
    (cut y.fneeds (some (more.length:Int)) none none) >>= fun c2 =>
    (Qei (needs.length + [c2].length) 24) >>= fun _ =>
    Kp5 (p0,ctx,t,(out ++ [y]),(needs ++ [c2]),(used ++ [c1]),(wr ((w:Int) + 1)))
theorem Kzg {p0:K06} {ctx:List (List Int)} {t:K01} {out:List K04} {needs used:List (List Int)} {w:Nat} {k:K01} {more:List (List Int)} {y:K04} (hw:w < t.fKids.length) (hk:idx t.fKids (w:Int)=some k) (hm:Kze t out w=some more)
  (hc:ctx.length + more.length ≤ 1000000) (hy:Kp4 (p0,more ++ ctx,k)=some y):Kp5 (p0,ctx,t,out,needs,used,(w:Int))=Kzf p0 ctx t out needs used w more y:=by
 rw [Kp5.eq_def]
 simp only
 rw [Kra hw,if_pos rfl,hk,bs]
 have key:∀ {β:Type} (R:List (List Int)→Option β),((if (decide ((w:Int) > 0))=true then some (true) else some ((t.fOp == 9))) >>= fun v =>
   (if v=true then (if (decide ((w:Int) > 0))=true then (idx out 0) >>= fun e=>some (e.fty) else some ([])) >>= fun first=>(Klw (t,(w:Int),first)) >>= fun r=>some (r) else some ([])) >>= R)=(Kze t out w >>= R):=fun R=>by
  unfold Kze
  simp only [Option.bind_eq_bind,Option.bind_assoc]
 refine (key _).trans ?_
 rw [hm,bs,Kyi [more,ctx] (by simp) (by simp; omega),bs]
 simp only [List.flatten_cons,List.flatten_nil,List.append_nil]
 rw [hy,bs]
 rfl
theorem Kzh {p0:K06} {ctx:List (List Int)} {t:K01} {out:List K04} {needs used:List (List Int)} {w:Nat} (hw:t.fKids.length ≤ w):Kp5 (p0,ctx,t,out,needs,used,(w:Int))=some (.inl (out,needs,used)):=by
 rw [Kp5.eq_def]
 simp only
 rw [Krb hw]; rfl
theorem Kzi {α:Type} {l:List α} {m:Nat} (h:m ≤ l.length):cut l none (some (m:Int)) none=some (l.take m):=by
 unfold cut
 simp only [Option.getD_none,Option.getD_some,Int.toNat_natCast,Int.toNat_zero,List.drop_zero]
 rw [if_pos (by omega)]
theorem Kzj {α:Type} {l:List α} {m:Nat} (h:m ≤ l.length):cut l (some (m:Int)) none none=some (l.drop m):=by
 unfold cut
 simp only [Option.getD_none,Option.getD_some,Int.toNat_natCast]
 rw [if_pos (by omega),List.take_length]
def Kzk (t:K01) (out:List K04) (w:Nat) (y:K04):Option Bool :=
 if (t.fOp == 10)=true then
  if ((w:Int) == 1)=true then
   (idx out 0) >>= fun e=>(Klt e.fty) >>= fun r=>(idx r 0) >>= fun q=>(Kml (y.fty,q)) >>= fun b=>some ((!b))
  else some (false)
 else some (false)
section
variable {p0:K06} {ctx:List (List Int)} {t:K01} {out:List K04} {needs used:List (List Int)} {w:Nat} {more:List (List Int)} {y:K04}
theorem Kzl (h:y.ffault ≠ 0) (hp:y.fpath.length ≤ 1000000):Kzf p0 ctx t out needs used w more y=some (.inr ⟨[],[],[],y.ffault,(w:Int) :: y.fpath⟩):=by
 unfold Kzf
 rw [if_pos (bne_iff_ne.2 h),Kue (by simp; omega),bs]
 rfl
theorem Kzm {f:Int} (h:y.ffault=0) (hf:Kme (p0,t,(w:Int),y.fty)=some f) (hf0:f ≠ 0):Kzf p0 ctx t out needs used w more y=some (.inr ⟨[],[],[],f,[]⟩):=by
 unfold Kzf
 rw [if_neg (by simp [h]),hf,bs,if_pos (bne_iff_ne.2 hf0)]
theorem Kzn (h:y.ffault=0) (hf:Kme (p0,t,(w:Int),y.fty)=some 0) (ha:Kzk t out w y=some true):Kzf p0 ctx t out needs used w more y=some (.inr ⟨[],[],[],3,[]⟩):=by
 unfold Kzf
 rw [if_neg (by simp [h]),hf,bs,if_neg (by simp)]
 refine (congrArg (· >>= _) (show _=some true from ha)).trans ?_
 rw [bs,if_pos rfl]
theorem Kzo {ns:List Nat} (h:y.ffault=0) (hf:Kme (p0,t,(w:Int),y.fty)=some 0) (ha:Kzk t out w y=some false) (hn:y.fneeds=Kx5 ns) (hl:more.length ≤ ns.length)
  (h1:out.length ≤ 1000000) (h2:needs.length ≤ 1000000) (h3:used.length ≤ 1000000) (h4:w ≤ 1000000) :
  Kzf p0 ctx t out needs used w more y=Kp5 (p0,ctx,t,(out ++ [y]),(needs ++ [Kx5 (ns.drop more.length)]),(used ++ [Kx5 (ns.take more.length)]),((w + 1:Nat):Int)):=by
 unfold Kzf
 rw [if_neg (by simp [h]),hf,bs,if_neg (by simp)]
 refine (congrArg (· >>= _) (show _=some false from ha)).trans ?_
 rw [bs,if_neg (by simp),Kue (by simp; omega),bs,hn,Kzi (by rw [Kx6]; exact hl),bs,Kue (by simp; omega),bs,Kzj (by rw [Kx6]; exact hl),bs,Kue (by simp; omega),bs,Kr9 (by omega),Kx8,Kx7]
theorem Kzp {r:K04} (hc:ctx.length ≤ 1000000) (h:Kp5 (p0,ctx,t,[],[],[],((0:Nat):Int))=some (.inr r)):Kp4 (p0,ctx,t)=some r:=by
 rw [Kp4.eq_def]
 simp only
 rw [Kwe (by simp; omega),bs,show (0:Int)=((0:Nat):Int) from rfl,h]
 rfl
theorem Kzq {o:List K04} {nd us:List (List Int)} {f:Int} {g:K04} (hc:ctx.length ≤ 1000000) (h:Kp5 (p0,ctx,t,[],[],[],((0:Nat):Int))=some (.inl (o,nd,us)))
  (hf:Koz (p0,⟨[],Kx5 (List.replicate ctx.length 0),o,0,[]⟩,ctx,t,nd,us)=some (f,g)) (hg:g.fpath=[]:=by rfl):Kp4 (p0,ctx,t)=some (if f=0 then ⟨g.fty,g.fneeds,g.fkids,0,g.fpath⟩ else ⟨[],[],[],f,[]⟩):=by
 have e:Kx5 (List.replicate ctx.length 0)=List.replicate (Int.toNat (ctx.length:Int)) (0:Int):=by
  unfold Kx5; rw [List.map_replicate,Int.toNat_natCast]; rfl
 rw [e] at hf
 rw [Kp4.eq_def]
 simp only
 rw [Kwe (by simp; omega),bs,show Kp5 (p0,ctx,t,[],[],[],0)=some (.inl (o,nd,us)) from h,bs]
 simp only
 rw [hf,bs]
 simp only
 by_cases hz:f=0
 ·subst hz; first | (rw [if_neg (by simp),if_pos rfl]; done) | rw [if_neg (by simp),if_pos rfl,hg]
 ·rw [if_pos (bne_iff_ne.2 hz),if_neg hz]
theorem Kzr (h:t.fOp ≠ 10):Kzk t out w y=some false:=by
 unfold Kzk
 rw [if_neg (by simpa using h)]
theorem Kzs (h:w ≠ 1):Kzk t out w y=some false:=by
 unfold Kzk
 have:((w:Int) == 1)=false:=by rw [beq_eq_false_iff_ne]; omega
 rw [this]
 simp
end
section
variable {s:K00} {n:Nat} (hs:Kxa s n) {N:Int} {ty:List Int} {ks:List K01} {w:Nat} {c:Int} {r:List Int}
theorem Kzt {op:Int} (h:(op=4∨op=6∨op=7∨op=9∨op=11)∨(w ≠ 0∧(op=3∨op=5∨op=8∨op=10∨op=12))):Kme (⟨s⟩,⟨op,N,ty,ks⟩,(w:Int),c :: r)=some 0:=by
 have hw:∀ hw:w ≠ 0,((w:Int) == 0)=false:=fun hw=>by rw [beq_eq_false_iff_ne]; omega
 unfold Kme
 rcases h with (rfl | rfl | rfl | rfl | rfl) | ⟨h0,(rfl | rfl | rfl | rfl | rfl)⟩
 all_goals first | simp [Kvl,Ksn,hw h0] | (by_cases h0:w=0 <;> simp [Kvl,Ksn,h0])
theorem Kzu:Kme (⟨s⟩,⟨2,N,ty,ks⟩,(w:Int),c :: r)=some (if (Ksm c).1=0 then 0 else 2):=by
 unfold Kme
 by_cases h:(Ksm c).1=0 <;> simp [Kvl,Ksn,h]
theorem Kzv:Kme (⟨s⟩,⟨3,N,ty,ks⟩,((0:Nat):Int),c :: r)=some (if (Ksm c).1=0 then 0 else 2):=by
 unfold Kme
 by_cases h:(Ksm c).1=0 <;> simp [Kvl,Ksn,h]
theorem Kzw:Kme (⟨s⟩,⟨10,N,ty,ks⟩,((0:Nat):Int),c :: r)=some (if (Ksm c).1=3 then 0 else 6):=by
 unfold Kme
 by_cases h:(Ksm c).1=3 <;> simp [Kvl,Ksn,h]
include hs
theorem Kzx {g:Nat} (hg:g < n):Kme (⟨s⟩,⟨5,(g:Int),ty,ks⟩,((0:Nat):Int),c :: r)=some (if (Ksm c).1=1 then (if le s n 1 g then 0 else 8) else 4):=by
 have hl:=iLe hs.tab (Kxc hs) hg
 unfold Kme
 by_cases h:(Ksm c).1=1 <;> cases hle:le s n 1 g <;> simp [Kvl,Ksn,h,show Kj3 (s,1,(g:Int))=some (le s n 1 g) from hl,hle]
theorem Kzy {g:Nat} (hg:g < n):Kme (⟨s⟩,⟨8,(g:Int),ty,ks⟩,((0:Nat):Int),c :: r)=some (if (Ksm c).1=2 then (if le s n 1 g then 0 else 8) else 5):=by
 have hl:=iLe hs.tab (Kxc hs) hg
 unfold Kme
 by_cases h:(Ksm c).1=2 <;> cases hle:le s n 1 g <;> simp [Kvl,Ksn,h,show Kj3 (s,1,(g:Int))=some (le s n 1 g) from hl,hle]
theorem Kzz {g:Nat} (hg:g < n):Kme (⟨s⟩,⟨12,(g:Int),ty,ks⟩,((0:Nat):Int),c :: r)=some (if (Ksm c).1=4 then (if le s n 1 g then 0 else 8) else 7):=by
 have hl:=iLe hs.tab (Kxc hs) hg
 unfold Kme
 by_cases h:(Ksm c).1=4 <;> cases hle:le s n 1 g <;> simp [Kvl,Ksn,h,show Kj3 (s,1,(g:Int))=some (le s n 1 g) from hl,hle]
end
def V00 (ty:List Int) (ns:List Nat) (kids:List K04):Int × K04:=(if ty.length > 40 then 3 else 0,⟨ty,Kx5 ns,kids,0,[]⟩)
theorem V01 {α:Type} (x:α) (l:List α):idx (x :: l) 0=some x:=rfl
theorem V02 {α:Type} (x y:α) (l:List α):idx (x :: y :: l) 1=some y:=rfl
theorem V03 {α:Type} (x y z:α) (l:List α):idx (x :: y :: z :: l) 2=some z:=rfl
section
variable {s:K00} {n:Nat} (hs:Kxa s n) {N:Int} {ty:List Int} {ks:List K01} {ctx us:List (List Int)} {z:List Int} {y0 y1 y2:K04} {a b d:List Nat}
theorem V04 {i:Nat} {q:List Int} {zs:List Nat} (hi:ctx[i]?=some q) (hz:i < zs.length) (hq:q.length ≤ 40):Koz (⟨s⟩,⟨[],Kx5 zs,[],0,[]⟩,ctx,⟨0,(i:Int),ty,ks⟩,[],[])=some (V00 q (zs.set i 1) []):=by
 obtain ⟨h1,h2⟩:=List.getElem?_eq_some_iff.1 hi
 have e1:idx ctx (i:Int)=some q:=by rw [Kr8 h1,h2]
 have e2:idx (Kx5 zs) (i:Int)=some ((zs[i]:Nat):Int):=by rw [Kr8 (by rw [Kx6]; exact hz)]; simp [Kx5]
 have e3:List.set (Kx5 zs) i 1=Kx5 (zs.set i 1):=by unfold Kx5; rw [List.map_set]; rfl
 have h40:¬ ((q.length:Int) > 40):=by omega
 unfold Koz Kof V00
 simp [e1,e2,e3,Kuh q (by omega),show ¬ (40 < (q.length:Int)) by omega,show ¬ (40 < q.length) by omega]
theorem V05 {zs:List Nat}:Koz (⟨s⟩,⟨[],Kx5 zs,[],0,[]⟩,ctx,⟨1,N,ty,ks⟩,[],[])=some (V00 [0] zs []):=by
 unfold Koz Kof V00
 simp
theorem V06 (hy:y0.fty.length ≤ 1000) (ht:ty.length ≤ 1000):Koz (⟨s⟩,⟨[],z,[y0],0,[]⟩,ctx,⟨6,N,ty,ks⟩,[Kx5 a],us)=some (V00 (2 :: (y0.fty ++ ty)) a [y0]):=by
 have hc:=Kye [[2],y0.fty,ty] (by simp) (by simp; omega)
 unfold Koz Kof V00 Kn1
 simp only [List.flatten_cons,List.flatten_nil,List.append_nil,List.singleton_append,List.cons_append,List.nil_append] at hc
 simp [V01,V02,hc]
 split <;> rename_i q40
 ·rw [if_pos (by omega)]
 ·rw [if_neg (by omega)]
theorem V07 (hy:y0.fty.length ≤ 1000) (ht:ty.length ≤ 1000):Koz (⟨s⟩,⟨[],z,[y0],0,[]⟩,ctx,⟨7,N,ty,ks⟩,[Kx5 a],us)=some (V00 (2 :: (ty ++ y0.fty)) a [y0]):=by
 have hc:=Kye [[2],ty,y0.fty] (by simp) (by simp; omega)
 unfold Koz Kof V00 Kn1
 simp only [List.flatten_cons,List.flatten_nil,List.append_nil,List.singleton_append,List.cons_append,List.nil_append] at hc
 simp [V01,V02,hc]
 split <;> rename_i q40
 ·rw [if_pos (by omega)]
 ·rw [if_neg (by omega)]
include hs
theorem V08 (ha:Kxl n a) (hb:Kxl n b) (hl:a.length ≤ 1000000) (hab:a.length=b.length):Koz (⟨s⟩,⟨[],z,[y0,y1],0,[]⟩,ctx,⟨2,N,ty,ks⟩,[Kx5 a,Kx5 b],us)=some (V00 [0] (Kxi s n a b) [y0,y1]):=by
 have h:=Ky0 hs a b ha hb (by omega) hab
 unfold Koz Kof V00
 simp [V01,V02,h]
theorem V09 (ha:Kxl n a) (hb:Kxl n b) (hd:Kxl n d) (hl:a.length ≤ 1000000) (hab:a.length=b.length) (had:a.length=d.length) (h2:y2.fty.length ≤ 1000) (h1:y1.fty.length ≤ 40) :
  Koz (⟨s⟩,⟨[],z,[y0,y1,y2],0,[]⟩,ctx,⟨3,N,ty,ks⟩,[Kx5 a,Kx5 b,Kx5 d],us)=some (if y1.fty=y2.fty then V00 y1.fty (Kxi s n a (Kxk s n b d)) [y0,y1,y2] else (3,⟨[],z,[y0,y1,y2],0,[]⟩)):=by
 have hj:=Ky2 hs b d hb hd (by omega) (by omega)
 have hlj:(Kxk s n b d).length=a.length:=by unfold Kxk; rw [List.length_zipWith]; omega
 have h:=Ky0 hs a (Kxk s n b d) ha (Kxq hs hb hd) (by omega) hlj.symm
 have he:=Kwj y1.fty y2.fty (by omega)
 unfold Koz Kof V00 Kn1
 by_cases hq:y1.fty=y2.fty
 ·rw [show (y1.fty == y2.fty)=true from beq_iff_eq.2 hq] at he
  rw [if_pos hq]
  simp [V01,V02,V03,he,hj,h,show ¬ (40 < (y1.fty.length:Int)) by omega,show ¬ (40 < y1.fty.length) by omega]
 ·rw [show (y1.fty == y2.fty)=false from beq_eq_false_iff_ne.2 hq] at he
  rw [if_neg hq]
  simp [V01,V02,V03,he]
theorem V0a (ha:Kxl n a) (hb:Kxl n b) (hl:a.length ≤ 1000000) (hab:a.length=b.length) (h0:y0.fty.length ≤ 1000) (h1:y1.fty.length ≤ 1000) :
  Koz (⟨s⟩,⟨[],z,[y0,y1],0,[]⟩,ctx,⟨4,N,ty,ks⟩,[Kx5 a,Kx5 b],us)=some (V00 (1 :: (y0.fty ++ y1.fty)) (Kxi s n a b) [y0,y1]):=by
 have h:=Ky0 hs a b ha hb (by omega) hab
 have hc:=Kye [[1],y0.fty,y1.fty] (by simp) (by simp; omega)
 unfold Koz Kof V00 Kn1
 simp only [List.flatten_cons,List.flatten_nil,List.append_nil,List.singleton_append,List.cons_append,List.nil_append] at hc
 simp [V01,V02,hc,h]
 split <;> rename_i q40
 ·rw [if_pos (by omega)]
 ·rw [if_neg (by omega)]
theorem V0b {g:Nat} (hg:g < n) {u:List Nat} (hu:Kxl n u) (hul:u.length ≤ 1000000) (hy:y0.fty.length ≤ 1000) (ht:ty.length ≤ 1000) :
  Koz (⟨s⟩,⟨[],z,[y0],0,[]⟩,ctx,⟨9,(g:Int),ty,ks⟩,[Kx5 a],[Kx5 u])=some (if (u.all fun x=>le s n x g)=true then V00 ((3 + (g:Int)) :: (ty ++ y0.fty)) a [y0] else (9,⟨[],z,[y0],0,[]⟩)):=by
 have hn:=hs.tab.hi
 have e:=Ky6 hs g hg u hu (by omega)
 have hw:wr (3 + (g:Int))=3 + (g:Int):=Kr7 (by omega) (by omega)
 have hc:=Kye [[3 + (g:Int)],ty,y0.fty] (by simp) (by simp; omega)
 unfold Koz Kof V00 Kn1
 simp only [List.flatten_cons,List.flatten_nil,List.append_nil,List.singleton_append,List.cons_append,List.nil_append] at hc
 cases hq:(u.all fun x=>le s n x g) with
 | true =>
  rw [hq] at e
  simp [V01,V02,e,hc,hw]
  split <;> rename_i q40
  ·rw [if_pos (by omega)]
  ·rw [if_neg (by omega)]
 | false =>
  rw [hq] at e
  simp [V01,V02,e]
theorem V0c {g:Nat} (hg:g < n) (ha:Kxl n a) (hl:a.length ≤ 1000000) (hy:y0.fty.length ≤ 1000) :
  Koz (⟨s⟩,⟨[],z,[y0],0,[]⟩,ctx,⟨11,(g:Int),ty,ks⟩,[Kx5 a],us)=some (V00 ((19 + (g:Int)) :: y0.fty) (Kxj s n g a) [y0]):=by
 have hn:=hs.tab.hi
 have e:=Ky4 hs g hg a ha (by omega)
 have hw:wr (19 + (g:Int))=19 + (g:Int):=Kr7 (by omega) (by omega)
 have hc:=Kye [[19 + (g:Int)],y0.fty] (by simp) (by simp; omega)
 unfold Koz Kof V00 Kn1
 simp only [List.flatten_cons,List.flatten_nil,List.append_nil,List.singleton_append,List.cons_append,List.nil_append] at hc
 simp [V01,V02,hc,hw,e]
 split <;> rename_i q40
 ·rw [if_pos (by omega)]
 ·rw [if_neg (by omega)]
theorem V0d {g:Nat} (hg:g < n) {p q:List Int} (hty:y0.fty=(3 + (g:Int)) :: (p ++ q)) (hP:Kyz s (3 + (g:Int)) p q) (ha:Kxl n a) (hb:Kxl n b) (hl:a.length ≤ 1000000) (hab:a.length=b.length) :
  Koz (⟨s⟩,⟨[],z,[y0,y1],0,[]⟩,ctx,⟨10,N,ty,ks⟩,[Kx5 a,Kx5 b],us)=some (V00 q (Kxi s n a (Kxj s n g b)) [y0,y1]):=by
 have hn:=hs.tab.hi
 have e:=Ky4 hs g hg b hb (by omega)
 have hlj:(Kxj s n g b).length=a.length:=by unfold Kxj; rw [List.length_map]; omega
 have h:=Ky0 hs a (Kxj s n g b) ha (Kxp hs hg hb) (by omega) hlj.symm
 have hsh:Ksm (3 + (g:Int))=(3,(g:Int)):=by
  rcases Kso (3 + (g:Int)) with h | h | h | h | h | h | h | h <;> first | omega | (obtain ⟨_,e⟩:=h; rw [e]; congr 1; omega)
 have hq:=Kyw hP.yb
 have pp:=hP.pp
 rw [← hty] at pp
 have i0:idx y0.fty 0=some (3 + (g:Int)):=by rw [hty]; rfl
 unfold Koz Kof V00 Kn1
 simp [V01,V02,i0,Ksn,hsh,pp,e,h,show ¬ (40 < (q.length:Int)) by omega,show ¬ (40 < q.length) by omega]
theorem V0e {g:Nat} (hg:g < n) {u:List Nat} {us':List Int} (hu:Kxl n u) (hul:u.length ≤ 1000000) (ha:Kxl n a) (hb:Kxl n b) (hl:a.length ≤ 1000000) (hab:a.length=b.length) (h1:y1.fty.length ≤ 40) :
  Koz (⟨s⟩,⟨[],z,[y0,y1],0,[]⟩,ctx,⟨5,(g:Int),ty,ks⟩,[Kx5 a,Kx5 b],[us',Kx5 u])=some (if (u.all fun x=>le s n x g)=true then V00 y1.fty (Kxi s n (Kxj s n g a) b) [y0,y1] else (9,⟨[],z,[y0,y1],0,[]⟩)):=by
 have e:=Ky6 hs g hg u hu (by omega)
 have e2:=Ky4 hs g hg a ha (by omega)
 have hlj:(Kxj s n g a).length=a.length:=by unfold Kxj; rw [List.length_map]
 have h:=Ky0 hs (Kxj s n g a) b (Kxp hs hg ha) hb (by omega) (by omega)
 unfold Koz Kof V00 Kn1
 cases hq:(u.all fun x=>le s n x g) with
 | true =>
  rw [hq] at e
  simp [V01,V02,e,e2,h,show ¬ (40 < (y1.fty.length:Int)) by omega,show ¬ (40 < y1.fty.length) by omega]
 | false =>
  rw [hq] at e
  simp [V01,V02,e]
theorem V0f {g m:Nat} (hg:g < n) (hm:m < n) {p:List Int} (hty:y0.fty=(19 + (m:Int)) :: p) {u:List Nat} {us':List Int} (hu:Kxl n u) (hul:u.length ≤ 1000000) (ha:Kxl n a) (hb:Kxl n b) (hl:a.length ≤ 1000000) (hab:a.length=b.length) (h1:y1.fty.length ≤ 40) :
  Koz (⟨s⟩,⟨[],z,[y0,y1],0,[]⟩,ctx,⟨12,(g:Int),ty,ks⟩,[Kx5 a,Kx5 b],[us',Kx5 u])=some (if (u.all fun x=>le s n x (ti s n g m))=true then V00 y1.fty (Kxi s n (Kxj s n g a) b) [y0,y1] else (9,⟨[],z,[y0,y1],0,[]⟩)):=by
 have hn:=hs.tab.hi
 have e0:=Krn hs.tab hg hm
 have e:=Ky6 hs (ti s n g m) (Krg hs.tab hg hm) u hu (by omega)
 have e2:=Ky4 hs g hg a ha (by omega)
 have hlj:(Kxj s n g a).length=a.length:=by unfold Kxj; rw [List.length_map]
 have h:=Ky0 hs (Kxj s n g a) b (Kxp hs hg ha) hb (by omega) (by omega)
 have hsh:Ksm (19 + (m:Int))=(4,(m:Int)):=by
  rcases Kso (19 + (m:Int)) with h | h | h | h | h | h | h | h <;> first | omega | (obtain ⟨_,e⟩:=h; rw [e]; congr 1; omega)
 have i0:idx y0.fty 0=some (19 + (m:Int)):=by rw [hty]; rfl
 unfold Koz Kof V00 Kn1
 cases hq:(u.all fun x=>le s n x (ti s n g m)) with
 | true =>
  rw [hq] at e
  simp [V01,V02,i0,Ksn,hsh,e0,e,e2,h,show ¬ (40 < (y1.fty.length:Int)) by omega,show ¬ (40 < y1.fty.length) by omega]
 | false =>
  rw [hq] at e
  simp [V01,V02,i0,Ksn,hsh,e0,e]
theorem V0g {g:Nat} (hg:g < n) {u v:List Nat} {us':List Int} (hu:Kxl n u) (hul:u.length ≤ 1000000) (hv:Kxl n v) (hvl:v.length ≤ 1000000) (ha:Kxl n a) (hb:Kxl n b) (hd:Kxl n d) (hl:a.length ≤ 1000000) (hab:a.length=b.length) (had:a.length=d.length) (h2:y2.fty.length ≤ 1000) (h1:y1.fty.length ≤ 40) :
  Koz (⟨s⟩,⟨[],z,[y0,y1,y2],0,[]⟩,ctx,⟨8,(g:Int),ty,ks⟩,[Kx5 a,Kx5 b,Kx5 d],[us',Kx5 u,Kx5 v]) =
   some (if y1.fty=y2.fty then (if (u.all fun x=>le s n x g)=true∧(v.all fun x=>le s n x g)=true then V00 y1.fty (Kxi s n (Kxj s n g a) (Kxk s n b d)) [y0,y1,y2] else (9,⟨[],z,[y0,y1,y2],0,[]⟩)) else (3,⟨[],z,[y0,y1,y2],0,[]⟩)):=by
 have e:=Ky6 hs g hg u hu (by omega)
 have e':=Ky6 hs g hg v hv (by omega)
 have e2:=Ky4 hs g hg a ha (by omega)
 have hj:=Ky2 hs b d hb hd (by omega) (by omega)
 have hlj:(Kxk s n b d).length=a.length:=by unfold Kxk; rw [List.length_zipWith]; omega
 have hls:(Kxj s n g a).length=a.length:=by unfold Kxj; rw [List.length_map]
 have h:=Ky0 hs (Kxj s n g a) (Kxk s n b d) (Kxp hs hg ha) (Kxq hs hb hd) (by omega) (by omega)
 have he:=Kwj y1.fty y2.fty (by omega)
 unfold Koz Kof V00 Kn1
 by_cases hq:y1.fty=y2.fty
 ·rw [show (y1.fty == y2.fty)=true from beq_iff_eq.2 hq] at he
  rw [if_pos hq]
  cases hu':(u.all fun x=>le s n x g) with
  | false =>
   rw [hu'] at e
   simp [V01,V02,V03,he,e]
  | true =>
   rw [hu'] at e
   cases hv':(v.all fun x=>le s n x g) with
   | false =>
    rw [hv'] at e'
    simp [V01,V02,V03,he,e,e']
   | true =>
    rw [hv'] at e'
    simp [V01,V02,V03,he,e,e',e2,hj,h,show ¬ (40 < (y1.fty.length:Int)) by omega,show ¬ (40 < y1.fty.length) by omega]
 ·rw [show (y1.fty == y2.fty)=false from beq_eq_false_iff_ne.2 hq] at he
  rw [if_neg hq]
  simp [V01,V02,V03,he]
end
def V0h (t:K01) (i:Nat) (kids:List K04):List (List Int):=(Klw (t,(i:Int),(match kids with | []=>[] | y :: _=>y.fty))).getD []
structure V0i (s:K00) (ctx:List (List Int)) (t:K01) (kids:List K04) (i:Nat) (k:K01) (y:K04):Prop where
 im:Kp4 (⟨s⟩,V0h t i kids ++ ctx,k)=some y
 fa:y.ffault=0
 ty:∀ q ∈ V0h t i kids,TyS s q
 ln:(V0h t i kids).length=Kts t.fOp i
structure V0j (s:K00) (n:Nat) (ctx:List (List Int)) (t:K01) (x:K03) (y:K04):Prop where
 sp:Kfv (s,ctx,t)=some x
 im:Kp4 (⟨s⟩,ctx,t)=some y
 ty:y.fty=x.fty
 ne:y.fneeds=x.fneeds
 fa:y.ffault=x.ffault
 pa:y.fpath=x.fpath
 pl:x.fpath.length + 1 ≤ tsz t
 bd:x.ffault ≠ 0→x.fty=[]∧x.fneeds=[]
 gd:x.ffault=0→TyS s x.fty∧x.fpath=[]∧∃ ns:List Nat,x.fneeds=Kx5 ns∧ns.length=ctx.length∧Kxl n ns
 kd:x.ffault=0→y.fkids.length=t.fKids.length∧∀ (i:Nat) (k:K01),t.fKids[i]?=some k→∃ yk,y.fkids[i]?=some yk∧V0i s ctx t y.fkids i k yk
section
variable {s:K00} {n:Nat} {ctx:List (List Int)} {t:K01}
theorem V0j.bad {f:Int} {p:List Int} (sp:Kfv (s,ctx,t)=some ⟨[],[],f,p⟩) (im:Kp4 (⟨s⟩,ctx,t)=some ⟨[],[],[],f,p⟩) (hf:f ≠ 0) (hp:p.length + 1 ≤ tsz t):∃ x y,V0j s n ctx t x y :=
 ⟨_,_,{ sp:=sp,im:=im,ty:=rfl,ne:=rfl,fa:=rfl,pa:=rfl,pl:=hp,bd:=fun _=>⟨rfl,rfl⟩,gd:=fun h=>absurd h hf,kd:=fun h=>absurd h hf }⟩
theorem V0j.good {q:List Int} {ns:List Nat} {kids:List K04} (sp:Kfv (s,ctx,t)=some ⟨q,Kx5 ns,0,[]⟩) (im:Kp4 (⟨s⟩,ctx,t)=some ⟨q,Kx5 ns,kids,0,[]⟩) (hp:1 ≤ tsz t) (hq:TyS s q) (hl:ns.length=ctx.length) (hb:Kxl n ns)
  (kl:kids.length=t.fKids.length) (kd:∀ (i:Nat) (k:K01),t.fKids[i]?=some k→∃ yk,kids[i]?=some yk∧V0i s ctx t kids i k yk):∃ x y,V0j s n ctx t x y :=
 ⟨_,_,{ sp:=sp,im:=im,ty:=rfl,ne:=rfl,fa:=rfl,pa:=rfl,pl:=by simpa using hp,bd:=fun h=>absurd rfl h,gd:=fun _=>⟨hq,rfl,ns,rfl,hl,hb⟩,kd:=fun _=>⟨kl,kd⟩ }⟩
theorem V0j.done {q:List Int} {ns:List Nat} {kids:List K04} (sp:Kfv (s,ctx,t)=Kff (q,Kx5 ns)) (im:Kp4 (⟨s⟩,ctx,t)=some (if (V00 q ns kids).1=0 then ⟨(V00 q ns kids).2.fty,(V00 q ns kids).2.fneeds,(V00 q ns kids).2.fkids,0,(V00 q ns kids).2.fpath⟩ else ⟨[],[],[],(V00 q ns kids).1,[]⟩)) (hp:1 ≤ tsz t)
  (hq:q.length ≤ 40→TyS s q) (hl:ns.length=ctx.length) (hb:Kxl n ns) (kl:kids.length=t.fKids.length) (kd:∀ (i:Nat) (k:K01),t.fKids[i]?=some k→∃ yk,kids[i]?=some yk∧V0i s ctx t kids i k yk):∃ x y,V0j s n ctx t x y:=by
 unfold Kff Kf5 at sp
 simp only at sp
 unfold V00 at im
 by_cases h:q.length > 40
 ·rw [decide_eq_true (by omega),if_pos rfl,bs] at sp
  rw [if_pos h,if_neg (by simp)] at im
  exact V0j.bad sp im (by decide) (by simpa using hp)
 ·rw [decide_eq_false (by omega),if_neg (by decide)] at sp
  rw [if_neg h,if_pos rfl] at im
  exact V0j.good sp im hp (hq (by omega)) hl hb kl kd
theorem V0k {i:Nat} {k:K01} {x:K03} {y:K04} {c:List (List Int)} (hk:t.fKids[i]?=some k) (h:V0j s n c k x y) (hf:x.ffault=0):Kfx (s,c,t,(i:Int))=some x:=by
 obtain ⟨h1,h2⟩:=List.getElem?_eq_some_iff.1 hk
 rw [Kfx.eq_def]
 simp only
 rw [Kr8 h1,h2,bs,h.sp,bs,if_neg (by simp [hf]),bs]
theorem V0l {i:Nat} {k:K01} {x:K03} {y:K04} {c:List (List Int)} (hk:t.fKids[i]?=some k) (h:V0j s n c k x y) (hz:tsz k ≤ 1000000) (hf:x.ffault ≠ 0):Kfx (s,c,t,(i:Int))=some ⟨[],[],x.ffault,(i:Int) :: x.fpath⟩:=by
 obtain ⟨h1,h2⟩:=List.getElem?_eq_some_iff.1 hk
 have hp:=h.pl
 obtain ⟨q1,q2⟩:=h.bd hf
 rw [Kfx.eq_def]
 simp only
 rw [Kr8 h1,h2,bs,h.sp,bs,if_pos (bne_iff_ne.2 hf),Kue (by simp; omega),bs,bs,q1,q2]
 rfl
variable {out:List K04} {nd us:List (List Int)} {w:Nat} {k:K01} {m:List (List Int)} {x:K03} {y:K04}
theorem V0m (hk:t.fKids[w]?=some k) (hm:Kze t out w=some m) (r:V0j s n (m ++ ctx) k x y) (hz:tsz k ≤ 1000000) (hc:ctx.length + m.length ≤ 1000000) (hf:x.ffault ≠ 0) :
  Kp5 (⟨s⟩,ctx,t,out,nd,us,(w:Int))=some (.inr ⟨[],[],[],x.ffault,(w:Int) :: x.fpath⟩):=by
 obtain ⟨h1,h2⟩:=List.getElem?_eq_some_iff.1 hk
 have hp:=r.pl
 rw [Kzg h1 (by rw [Kr8 h1,h2]) hm hc r.im,Kzl (by rw [r.fa]; exact hf) (by rw [r.pa]; omega),r.fa,r.pa]
theorem V0n {f:Int} (hk:t.fKids[w]?=some k) (hm:Kze t out w=some m) (r:V0j s n (m ++ ctx) k x y) (hc:ctx.length + m.length ≤ 1000000) (hf:x.ffault=0) (h:Kme (⟨s⟩,t,(w:Int),x.fty)=some f) (hf0:f ≠ 0) :
  Kp5 (⟨s⟩,ctx,t,out,nd,us,(w:Int))=some (.inr ⟨[],[],[],f,[]⟩):=by
 obtain ⟨h1,h2⟩:=List.getElem?_eq_some_iff.1 hk
 rw [Kzg h1 (by rw [Kr8 h1,h2]) hm hc r.im,Kzm (by rw [r.fa]; exact hf) (by rw [r.ty]; exact h) hf0]
theorem V0o (hk:t.fKids[w]?=some k) (hm:Kze t out w=some m) (r:V0j s n (m ++ ctx) k x y) (hc:ctx.length + m.length ≤ 1000000) (hf:x.ffault=0) (h:Kme (⟨s⟩,t,(w:Int),x.fty)=some 0) (ha:Kzk t out w y=some true) :
  Kp5 (⟨s⟩,ctx,t,out,nd,us,(w:Int))=some (.inr ⟨[],[],[],3,[]⟩):=by
 obtain ⟨h1,h2⟩:=List.getElem?_eq_some_iff.1 hk
 rw [Kzg h1 (by rw [Kr8 h1,h2]) hm hc r.im,Kzn (by rw [r.fa]; exact hf) (by rw [r.ty]; exact h) ha]
theorem V0p {ns:List Nat} (hk:t.fKids[w]?=some k) (hm:Kze t out w=some m) (r:V0j s n (m ++ ctx) k x y) (hc:ctx.length + m.length ≤ 1000000) (hf:x.ffault=0) (h:Kme (⟨s⟩,t,(w:Int),x.fty)=some 0) (ha:Kzk t out w y=some false)
  (hn:x.fneeds=Kx5 ns) (hl:m.length ≤ ns.length) (h1':out.length ≤ 1000000) (h2':nd.length ≤ 1000000) (h3':us.length ≤ 1000000) (h4':w ≤ 1000000) :
  Kp5 (⟨s⟩,ctx,t,out,nd,us,(w:Int))=Kp5 (⟨s⟩,ctx,t,(out ++ [y]),(nd ++ [Kx5 (ns.drop m.length)]),(us ++ [Kx5 (ns.take m.length)]),((w + 1:Nat):Int)):=by
 obtain ⟨h1,h2⟩:=List.getElem?_eq_some_iff.1 hk
 rw [Kzg h1 (by rw [Kr8 h1,h2]) hm hc r.im,Kzo (by rw [r.fa]; exact hf) (by rw [r.ty]; exact h) ha (by rw [r.ne]; exact hn) hl h1' h2' h3' h4']
end
theorem V0q {op N:Int} {ty:List Int} {ks:List K01} {i:Nat} {q:List Int} (h9:op ≠ 9) (h:Kts op (i:Int)=0):Klw (⟨op,N,ty,ks⟩,(i:Int),q)=some []:=by
 unfold Klw
 simp only
 rw [if_neg (by simpa using h9),Ktv,bs,h]
 rfl
theorem V0r {N:Int} {ty:List Int} {ks:List K01} {i:Nat} {q:List Int}:Klw (⟨9,N,ty,ks⟩,(i:Int),q)=some [ty]:=by
 unfold Klw
 simp only
 rw [if_pos (by decide)]
theorem V0s {s:K00} {N:Int} {ty:List Int} {ks:List K01} {p q:List Int} (h:Kyz s 1 p q):Klw (⟨5,N,ty,ks⟩,((1:Nat):Int),1 :: (p ++ q))=some [q,p]:=by
 unfold Klw
 simp only
 rw [if_neg (by decide),Ktv,bs,show Kts 5 ((1:Nat):Int)=2 from rfl,if_neg (by decide),h.pp,bs,if_pos (by decide)]
 rfl
theorem V0t {s:K00} {N:Int} {ty:List Int} {ks:List K01} {p q:List Int} (h:Kyz s 2 p q):Klw (⟨8,N,ty,ks⟩,((1:Nat):Int),2 :: (p ++ q))=some [p]:=by
 unfold Klw
 simp only
 rw [if_neg (by decide),Ktv,bs,show Kts 8 ((1:Nat):Int)=1 from rfl,if_neg (by decide),h.pp,bs,if_neg (by decide),if_pos (by decide)]
 rfl
theorem V0u {s:K00} {N:Int} {ty:List Int} {ks:List K01} {p q:List Int} (h:Kyz s 2 p q):Klw (⟨8,N,ty,ks⟩,((2:Nat):Int),2 :: (p ++ q))=some [q]:=by
 unfold Klw
 simp only
 rw [if_neg (by decide),Ktv,bs,show Kts 8 ((2:Nat):Int)=1 from rfl,if_neg (by decide),h.pp,bs,if_neg (by decide),if_pos (by decide)]
 rfl
theorem V0v {s:K00} {N c:Int} {ty:List Int} {ks:List K01} {p:List Int} (h:Kz0 s c p):Klw (⟨12,N,ty,ks⟩,((1:Nat):Int),c :: p)=some [p]:=by
 unfold Klw
 simp only
 rw [if_neg (by decide),Ktv,bs,show Kts 12 ((1:Nat):Int)=1 from rfl,if_neg (by decide),h.pp,bs,if_neg (by decide),if_neg (by decide)]
theorem V0w {op N:Int} {ty:List Int} {ks:List K01} (h9:op ≠ 9):Kze ⟨op,N,ty,ks⟩ [] 0=some []:=by
 unfold Kze
 simp [h9]
theorem V0x {N:Int} {ty:List Int} {ks:List K01}:Kze ⟨9,N,ty,ks⟩ [] 0=some [ty]:=by
 unfold Kze
 have:=@V0r N ty ks 0 []
 simp at this ⊢
 rw [this]
theorem V0y {t:K01} {w:Nat} {y0:K04} {l:List K04} {m:List (List Int)} (hw:0 < w) (h:Klw (t,(w:Int),y0.fty)=some m):Kze t (y0 :: l) w=some m:=by
 unfold Kze
 rw [show decide ((w:Int) > 0)=true from decide_eq_true (by omega),if_pos rfl,bs,if_pos rfl,if_pos rfl,V01,bs,bs,h,bs]
theorem V0z {t:K01} {i:Nat} {y0:K04} {l:List K04} {m:List (List Int)} (h:Klw (t,(i:Int),y0.fty)=some m):V0h t i (y0 :: l)=m:=by
 unfold V0h
 simp only
 rw [h]; rfl
theorem kd1 {s:K00} {ctx:List (List Int)} {op N:Int} {ty:List Int} {k0:K01} {y0:K04} (h0:V0i s ctx ⟨op,N,ty,[k0]⟩ [y0] 0 k0 y0) :
  ∀ (i:Nat) (k:K01),(⟨op,N,ty,[k0]⟩:K01).fKids[i]?=some k→∃ yk,[y0][i]?=some yk∧V0i s ctx ⟨op,N,ty,[k0]⟩ [y0] i k yk:=by
 intro i k hk
 match i,hk with
 | 0,hk=>cases hk; exact ⟨y0,rfl,h0⟩
 | i + 1,hk=>simp at hk
theorem kd2 {s:K00} {ctx:List (List Int)} {op N:Int} {ty:List Int} {k0 k1:K01} {y0 y1:K04} (h0:V0i s ctx ⟨op,N,ty,[k0,k1]⟩ [y0,y1] 0 k0 y0) (h1:V0i s ctx ⟨op,N,ty,[k0,k1]⟩ [y0,y1] 1 k1 y1) :
  ∀ (i:Nat) (k:K01),(⟨op,N,ty,[k0,k1]⟩:K01).fKids[i]?=some k→∃ yk,[y0,y1][i]?=some yk∧V0i s ctx ⟨op,N,ty,[k0,k1]⟩ [y0,y1] i k yk:=by
 intro i k hk
 match i,hk with
 | 0,hk=>cases hk; exact ⟨y0,rfl,h0⟩
 | 1,hk=>cases hk; exact ⟨y1,rfl,h1⟩
 | i + 2,hk=>simp at hk
theorem kd3 {s:K00} {ctx:List (List Int)} {op N:Int} {ty:List Int} {k0 k1 k2:K01} {y0 y1 y2:K04} (h0:V0i s ctx ⟨op,N,ty,[k0,k1,k2]⟩ [y0,y1,y2] 0 k0 y0) (h1:V0i s ctx ⟨op,N,ty,[k0,k1,k2]⟩ [y0,y1,y2] 1 k1 y1) (h2:V0i s ctx ⟨op,N,ty,[k0,k1,k2]⟩ [y0,y1,y2] 2 k2 y2) :
  ∀ (i:Nat) (k:K01),(⟨op,N,ty,[k0,k1,k2]⟩:K01).fKids[i]?=some k→∃ yk,[y0,y1,y2][i]?=some yk∧V0i s ctx ⟨op,N,ty,[k0,k1,k2]⟩ [y0,y1,y2] i k yk:=by
 intro i k hk
 match i,hk with
 | 0,hk=>cases hk; exact ⟨y0,rfl,h0⟩
 | 1,hk=>cases hk; exact ⟨y1,rfl,h1⟩
 | 2,hk=>cases hk; exact ⟨y2,rfl,h2⟩
 | i + 3,hk=>simp at hk
theorem V0i.mk' {s:K00} {n:Nat} {ctx m:List (List Int)} {t k:K01} {y0:K04} {l:List K04} {i:Nat} {x:K03} {y:K04} (ha:Klw (t,(i:Int),y0.fty)=some m) (r:V0j s n (m ++ ctx) k x y) (hf:x.ffault=0) (hm:∀ q ∈ m,TyS s q) (hl:m.length=Kts t.fOp i):V0i s ctx t (y0 :: l) i k y:=by
 have e:=V0z (l:=l) ha
 exact ⟨by rw [e]; exact r.im,by rw [r.fa]; exact hf,by rw [e]; exact hm,by rw [e]; exact hl⟩
def V10 (s:K00) (n sz:Nat):Prop:=∀ (k:K01) (c:List (List Int)),Kz9 s c.length k sz→(∀ q ∈ c,TyS s q)→c.length + 2 * tsz k ≤ 1000000→∃ x y,V0j s n c k x y
theorem V11 {X:Option K04} {q:List Int} {ns:List Nat} {kids:List K04} (h:q.length ≤ 40) (im:X=some (if (V00 q ns kids).1=0 then (⟨(V00 q ns kids).2.fty,(V00 q ns kids).2.fneeds,(V00 q ns kids).2.fkids,0,(V00 q ns kids).2.fpath⟩:K04) else ⟨[],[],[],(V00 q ns kids).1,[]⟩)):X=some ⟨q,Kx5 ns,kids,0,[]⟩:=by
 rw [im]
 unfold V00
 simp only
 rw [show (if q.length > 40 then (3:Int) else 0)=0 from if_neg (by omega),if_pos rfl]
section
variable {s:K00} {n:Nat} (hs:Kxa s n) {ctx:List (List Int)} {N:Int} {ty:List Int} {ks:List K01}
theorem V12 {op:Int} {k0:K01} {l:List K01} {x0:K03} {y0:K04} (h0:op ≠ 0) (h1:op ≠ 1) (h9:op ≠ 9) (hb:ctx.length + 2 * tsz (⟨op,N,ty,k0 :: l⟩:K01) ≤ 1000000) (r0:V0j s n ctx k0 x0 y0) (f0:x0.ffault ≠ 0) :
  ∃ x y,V0j s n ctx ⟨op,N,ty,k0 :: l⟩ x y:=by
 have hz:tsz k0 + 1 ≤ tsz (⟨op,N,ty,k0 :: l⟩:K01):=by rw [tsz,Kt8]; omega
 have e0:Kfx (s,ctx,⟨op,N,ty,k0 :: l⟩,0)=some ⟨[],[],x0.ffault,0 :: x0.fpath⟩:=V0l (i:=0) rfl r0 (by omega) f0
 refine V0j.bad (f:=x0.ffault) (p:=0 :: x0.fpath) ?_ (Kzp (by omega) (V0m (m:=[]) rfl (V0w h9) r0 (by omega) (by simp; omega) f0)) f0 (by have:=r0.pl; simp; omega)
 rw [Kfv.eq_def]
 simp [h0,h1,h9,e0,f0]
include hs
theorem V13 {t:K01} (ht:t.fOp=0) (h:tOk (gN s.fSize true) (yN s.fSize true) ctx.length t=true) (hc:∀ q ∈ ctx,TyS s q) (hb:ctx.length + 2 * tsz t ≤ 1000000):∃ x y,V0j s n ctx t x y:=by
 obtain ⟨i,hi,hl,hk⟩:=Kzc h ht
 obtain ⟨op,N,ty,ks⟩:=t
 simp only at ht hi hk
 subst ht; subst hi; subst hk
 have hq:ctx[i]?=some ctx[i]:=List.getElem?_eq_getElem hl
 have hy:=hc ctx[i] (List.getElem_mem hl)
 have e1:idx ctx (i:Int)=some ctx[i]:=Kr8 hl
 have hz:=Ky7 ctx.length (by omega)
 have e2:idx (Kx5 (List.replicate ctx.length 0)) (i:Int)=some (((List.replicate ctx.length (0:Nat))[i]'(by simpa using hl):Nat):Int):=by
  rw [Kr8 (by rw [Kx6]; simpa using hl)]; simp [Kx5]
 have e3:List.set (Kx5 (List.replicate ctx.length 0)) i 1=Kx5 ((List.replicate ctx.length 0).set i 1):=by unfold Kx5; rw [List.map_set]; rfl
 have hf:=V04 (s:=s) (ty:=ty) (ks:=[]) (zs:=List.replicate ctx.length 0) hq (by simpa using hl) (Kyw hy)
 have im:=Kzq (p0:=⟨s⟩) (t:=⟨0,(i:Int),ty,[]⟩) (by omega) (Kzh (Nat.le_refl _)) hf
 refine V0j.good (q:=ctx[i]) (ns:=(List.replicate ctx.length 0).set i 1) (kids:=[]) ?_ ?_ (by rw [tsz]; omega) hy (by simp) ?_ rfl (fun i k hk=>by simp at hk)
 ·rw [Kfv.eq_def]
  simp [hz,e1,e2,Kug ctx[i] (by have:=Kyw hy; omega),e3]
 ·exact V11 (Kyw hy) im
 ·intro x hx
  have h1:=Kxc hs
  rcases List.mem_or_eq_of_mem_set hx with h | rfl
  ·rw [List.eq_of_mem_replicate h]; omega
  ·exact h1
theorem V14 {t:K01} (ht:t.fOp=1) (h:tOk (gN s.fSize true) (yN s.fSize true) ctx.length t=true) (hb:ctx.length + 2 * tsz t ≤ 1000000):∃ x y,V0j s n ctx t x y:=by
 have hk:=Kzd h ht
 obtain ⟨op,N,ty,ks⟩:=t
 simp only at ht hk
 subst ht; subst hk
 have hz:=Ky7 ctx.length (by omega)
 have hf:=V05 (s:=s) (N:=N) (ty:=ty) (ks:=[]) (ctx:=ctx) (zs:=List.replicate ctx.length 0)
 have im:=Kzq (p0:=⟨s⟩) (t:=⟨1,N,ty,[]⟩) (by omega) (Kzh (Nat.le_refl _)) hf
 refine V0j.good (q:=[0]) (ns:=List.replicate ctx.length 0) (kids:=[]) ?_ ?_ (by rw [tsz]; omega) Kz2 (by simp) ?_ rfl (fun i k hk=>by simp at hk)
 ·rw [Kfv.eq_def]
  simp [hz]
 ·exact V11 (by decide) im
 ·intro x hx
  rw [List.eq_of_mem_replicate hx]
  exact Kxd hs
theorem V15 {q:List Int} (hq:TyS s q):∃ c r,q=c :: r∧((Ksm c).1=0 ↔ c=0)∧(c=0→q=[0]):=by
 rcases Kz5 hs hq with rfl | ⟨a,b,rfl,_⟩ | ⟨a,b,rfl,_⟩ | ⟨g,a,b,hg,h15,rfl,_⟩ | ⟨g,a,hg,h15,rfl,_⟩
 ·exact ⟨0,[],rfl,by decide,fun _=>rfl⟩
 ·exact ⟨1,_,rfl,by decide,fun h=>absurd h (by decide)⟩
 ·exact ⟨2,_,rfl,by decide,fun h=>absurd h (by decide)⟩
 ·refine ⟨_,_,rfl,?_,fun h=>by omega⟩
  rcases Kso (3 + (g:Int)) with h | h | h | h | h | h | h | h <;> first | omega | (obtain ⟨_,e⟩:=h; rw [e]; simp; omega)
 ·refine ⟨_,_,rfl,?_,fun h=>by omega⟩
  rcases Kso (19 + (g:Int)) with h | h | h | h | h | h | h | h <;> first | omega | (obtain ⟨_,e⟩:=h; rw [e]; simp; omega)
theorem V16 (ih:V10 s n (tsz (⟨6,N,ty,ks⟩:K01))) (h:tOk (gN s.fSize true) (yN s.fSize true) ctx.length ⟨6,N,ty,ks⟩=true) (hc:∀ q ∈ ctx,TyS s q) (hb:ctx.length + 2 * tsz (⟨6,N,ty,ks⟩:K01) ≤ 1000000):∃ x y,V0j s n ctx ⟨6,N,ty,ks⟩ x y:=by
 obtain ⟨k0,rfl,p0⟩:=nd1 h (Nat.le_refl _) rfl
 have hz:=Kx1 6 N ty k0
 have hy:TyS s ty:=Kzb h rfl
 have ly:=Kyw hy
 obtain ⟨x0,y0,r0⟩:=ih k0 ctx p0 hc (by omega)
 by_cases f0:x0.ffault=0
 rotate_left
 ·exact V12 (by decide) (by decide) (by decide) hb r0 f0
 obtain ⟨g0,q0,a,na,la,ba⟩:=r0.gd f0
 obtain ⟨c0,t0,ht0,hn0,hz0⟩:=V15 hs g0
 have L0:=Kyw g0
 have e0:Kfx (s,ctx,⟨6,N,ty,[k0]⟩,0)=some x0:=V0k (i:=0) rfl r0 f0
 have o0:=V0p (out:=[]) (nd:=[]) (us:=[]) (w:=0) (t:=⟨6,N,ty,[k0]⟩) (m:=[]) rfl (V0w (by decide)) r0 (by simp; omega) f0 (by rw [ht0]; exact Kzt (.inl (by decide))) (Kzr (show (6:Int) ≠ 10 by decide)) na (by simp <;> omega) (by simp) (by simp) (by simp) (by simp)
 have hf:=V06 (s:=s) (N:=N) (ty:=ty) (ks:=[k0]) (ctx:=ctx) (us:=[Kx5 []]) (z:=Kx5 (List.replicate ctx.length 0)) (y0:=y0) (a:=a) (by rw [r0.ty]; omega) (by omega)
 have im:=Kzq (p0:=⟨s⟩) (t:=⟨6,N,ty,[k0]⟩) (ctx:=ctx) (by omega) (o0.trans (Kzh (Nat.le_refl _))) hf
 rw [r0.ty] at im
 refine V0j.done (q:=2 :: (x0.fty ++ ty)) (ns:=a) (kids:=[y0]) ?_ im (by omega) (fun hl=>Kz6 hs g0 hy (.inr (.inl rfl)) hl) la ba rfl (kd1 (V0i.mk' (V0q (by decide) rfl) r0 f0 (fun _ h=>by cases h) rfl))
 have hg:=Kya 2 [x0.fty,ty] (by simp) (by simp; omega)
 simp only [List.flatten_cons,List.flatten_nil,List.append_nil] at hg
 rw [Kfv.eq_def]
 simp [e0,f0,hg,na]
theorem V17 (ih:V10 s n (tsz (⟨7,N,ty,ks⟩:K01))) (h:tOk (gN s.fSize true) (yN s.fSize true) ctx.length ⟨7,N,ty,ks⟩=true) (hc:∀ q ∈ ctx,TyS s q) (hb:ctx.length + 2 * tsz (⟨7,N,ty,ks⟩:K01) ≤ 1000000):∃ x y,V0j s n ctx ⟨7,N,ty,ks⟩ x y:=by
 obtain ⟨k0,rfl,p0⟩:=nd1 h (Nat.le_refl _) rfl
 have hz:=Kx1 7 N ty k0
 have hy:TyS s ty:=Kzb h rfl
 have ly:=Kyw hy
 obtain ⟨x0,y0,r0⟩:=ih k0 ctx p0 hc (by omega)
 by_cases f0:x0.ffault=0
 rotate_left
 ·exact V12 (by decide) (by decide) (by decide) hb r0 f0
 obtain ⟨g0,q0,a,na,la,ba⟩:=r0.gd f0
 obtain ⟨c0,t0,ht0,hn0,hz0⟩:=V15 hs g0
 have L0:=Kyw g0
 have e0:Kfx (s,ctx,⟨7,N,ty,[k0]⟩,0)=some x0:=V0k (i:=0) rfl r0 f0
 have o0:=V0p (out:=[]) (nd:=[]) (us:=[]) (w:=0) (t:=⟨7,N,ty,[k0]⟩) (m:=[]) rfl (V0w (by decide)) r0 (by simp; omega) f0 (by rw [ht0]; exact Kzt (.inl (by decide))) (Kzr (show (7:Int) ≠ 10 by decide)) na (by simp <;> omega) (by simp) (by simp) (by simp) (by simp)
 have hf:=V07 (s:=s) (N:=N) (ty:=ty) (ks:=[k0]) (ctx:=ctx) (us:=[Kx5 []]) (z:=Kx5 (List.replicate ctx.length 0)) (y0:=y0) (a:=a) (by rw [r0.ty]; omega) (by omega)
 have im:=Kzq (p0:=⟨s⟩) (t:=⟨7,N,ty,[k0]⟩) (ctx:=ctx) (by omega) (o0.trans (Kzh (Nat.le_refl _))) hf
 rw [r0.ty] at im
 refine V0j.done (q:=2 :: (ty ++ x0.fty)) (ns:=a) (kids:=[y0]) ?_ im (by omega) (fun hl=>Kz6 hs hy g0 (.inr (.inl rfl)) hl) la ba rfl (kd1 (V0i.mk' (V0q (by decide) rfl) r0 f0 (fun _ h=>by cases h) rfl))
 have hg:=Kya 2 [ty,x0.fty] (by simp) (by simp; omega)
 simp only [List.flatten_cons,List.flatten_nil,List.append_nil] at hg
 rw [Kfv.eq_def]
 simp [e0,f0,hg,na]
theorem V18 (ih:V10 s n (tsz (⟨11,N,ty,ks⟩:K01))) (h:tOk (gN s.fSize true) (yN s.fSize true) ctx.length ⟨11,N,ty,ks⟩=true) (hc:∀ q ∈ ctx,TyS s q) (hb:ctx.length + 2 * tsz (⟨11,N,ty,ks⟩:K01) ≤ 1000000):∃ x y,V0j s n ctx ⟨11,N,ty,ks⟩ x y:=by
 obtain ⟨k0,rfl,p0⟩:=nd1 h (Nat.le_refl _) rfl
 have hz:=Kx1 11 N ty k0
 obtain ⟨g,hN,hg'⟩:=Kz8 hs (Kza h rfl)
 simp only at hN
 subst hN
 obtain ⟨x0,y0,r0⟩:=ih k0 ctx p0 hc (by omega)
 by_cases f0:x0.ffault=0
 rotate_left
 ·exact V12 (by decide) (by decide) (by decide) hb r0 f0
 obtain ⟨g0,q0,a,na,la,ba⟩:=r0.gd f0
 obtain ⟨c0,t0,ht0,hn0,hz0⟩:=V15 hs g0
 have L0:=Kyw g0
 have e0:Kfx (s,ctx,⟨11,(g:Int),ty,[k0]⟩,0)=some x0:=V0k (i:=0) rfl r0 f0
 have o0:=V0p (out:=[]) (nd:=[]) (us:=[]) (w:=0) (t:=⟨11,(g:Int),ty,[k0]⟩) (m:=[]) rfl (V0w (by decide)) r0 (by simp; omega) f0 (by rw [ht0]; exact Kzt (.inl (by decide))) (Kzr (show (11:Int) ≠ 10 by decide)) na (by simp <;> omega) (by simp) (by simp) (by simp) (by simp)
 have hf:=V0c (ty:=ty) (ks:=[k0]) (ctx:=ctx) (us:=[Kx5 []]) (z:=Kx5 (List.replicate ctx.length 0)) (y0:=y0) (a:=a) hs hg' ba (by omega) (by rw [r0.ty]; omega)
 have im:=Kzq (p0:=⟨s⟩) (t:=⟨11,(g:Int),ty,[k0]⟩) (ctx:=ctx) (by omega) (o0.trans (Kzh (Nat.le_refl _))) hf
 rw [r0.ty] at im
 have hn:=hs.tab.hi
 refine V0j.done (q:=(19 + (g:Int)) :: x0.fty) (ns:=Kxj s n g a) (kids:=[y0]) ?_ im (by omega) (fun hl=>Kz7 hs hg' g0 hl) (by unfold Kxj; rw [List.length_map]; exact la) (Kxp hs hg' ba) rfl (kd1 (V0i.mk' (V0q (by decide) rfl) r0 f0 (fun _ h=>by cases h) rfl))
 have hg:=Kya (19 + (g:Int)) [x0.fty] (by simp) (by simp; omega)
 simp only [List.flatten_cons,List.flatten_nil,List.append_nil] at hg
 have hsc:=Kxp hs hg' ba
 have hz0:=Kxs hs hsc
 rw [show (Kxj s n g a).length=ctx.length by unfold Kxj; rw [List.length_map]; exact la] at hz0
 have hsum:=Kxu hs g hg' (List.replicate ctx.length 0) a (fun x hx=>by rw [List.eq_of_mem_replicate hx]; exact Kxd hs) ba (by simp; omega) (by simp [la])
 rw [hz0] at hsum
 have hw:wr (19 + (g:Int))=19 + (g:Int):=Kr7 (by omega) (by omega)
 rw [Kfv.eq_def]
 simp [e0,f0,hg,na,hw,Ky7 ctx.length (by omega),hsum]
theorem V19 (ih:V10 s n (tsz (⟨9,N,ty,ks⟩:K01))) (h:tOk (gN s.fSize true) (yN s.fSize true) ctx.length ⟨9,N,ty,ks⟩=true) (hc:∀ q ∈ ctx,TyS s q) (hb:ctx.length + 2 * tsz (⟨9,N,ty,ks⟩:K01) ≤ 1000000):∃ x y,V0j s n ctx ⟨9,N,ty,ks⟩ x y:=by
 obtain ⟨k0,rfl,p0⟩:=nd1 h (Nat.le_refl _) rfl
 have hz:=Kx1 9 N ty k0
 obtain ⟨g,hN,hg'⟩:=Kz8 hs (Kza h rfl)
 simp only at hN
 subst hN
 have hy:TyS s ty:=Kzb h rfl
 have ly:=Kyw hy
 have hn:=hs.tab.hi
 have p0':Kz9 s ([ty] ++ ctx).length k0 (tsz (⟨9,(g:Int),ty,[k0]⟩:K01)):=by
  have e:([ty] ++ ctx).length=ctx.length + Kts 9 0:=by simp [Kts]
  rw [e]; exact p0
 obtain ⟨x0,y0,r0⟩:=ih k0 ([ty] ++ ctx) p0' (fun q hq=>by rcases List.mem_cons.1 hq with rfl | hq; exact hy; exact hc q hq) (by simp; omega)
 have hw9:=Ky8 ctx [ty] (by simp; omega)
 by_cases f0:x0.ffault=0
 rotate_left
 ·have e0:Kfx (s,ty :: ctx,⟨9,(g:Int),ty,[k0]⟩,0)=some ⟨[],[],x0.ffault,0 :: x0.fpath⟩:=V0l (i:=0) rfl r0 (by omega) f0
  refine V0j.bad (f:=x0.ffault) (p:=0 :: x0.fpath) ?_ (Kzp (by omega) (V0m (m:=[ty]) rfl V0x r0 (by omega) (by simp; omega) f0)) f0 (by have:=r0.pl; simp; omega)
  rw [Kfv.eq_def]
  simp [hw9,e0,f0]
 obtain ⟨g0,q0,a,na,la,ba⟩:=r0.gd f0
 obtain ⟨c0,t0,ht0,hn0,hz0⟩:=V15 hs g0
 have L0:=Kyw g0
 have e0:Kfx (s,ty :: ctx,⟨9,(g:Int),ty,[k0]⟩,0)=some x0:=V0k (i:=0) rfl r0 f0
 have la':a.length=ctx.length + 1:=by rw [la]; simp
 obtain ⟨u0,a',rfl⟩:∃ u0 a',a=u0 :: a':=by cases a with | nil=>simp at la' | cons u a'=>exact ⟨u,a',rfl⟩
 obtain ⟨hu0,ba'⟩:=Kxm ba
 have o0:=V0p (out:=[]) (nd:=[]) (us:=[]) (w:=0) (t:=⟨9,(g:Int),ty,[k0]⟩) (m:=[ty]) rfl V0x r0 (by simp; omega) f0 (by rw [ht0]; exact Kzt (.inl (by decide))) (Kzr (show (9:Int) ≠ 10 by decide)) na (by simp <;> omega) (by simp) (by simp) (by simp) (by simp)
 simp only [List.length_cons,List.length_nil,Nat.zero_add,List.drop_succ_cons,List.drop_zero,List.take_succ_cons,List.take_zero,List.nil_append] at o0
 have hf:=V0b (ty:=ty) (ks:=[k0]) (ctx:=ctx) (z:=Kx5 (List.replicate ctx.length 0)) (y0:=y0) (a:=a') (u:=[u0]) hs hg' (fun x hx=>by simp at hx; rw [hx]; exact hu0) (by simp) (by rw [r0.ty]; omega) (by omega)
 have hl0:=o0.trans (Kzh (Nat.le_refl _))
 have hle:=sLe hs.tab hu0 hg'
 have hw:wr (3 + (g:Int))=3 + (g:Int):=Kr7 (by omega) (by omega)
 have hi0:idx x0.fneeds 0=some (u0:Int):=by rw [na]; rfl
 simp only [List.all_cons,List.all_nil,Bool.and_true] at hf
 cases hl:le s n u0 g with
 | false =>
  rw [hl,if_neg (by decide)] at hf
  refine V0j.bad (f:=9) (p:=[]) ?_ (Kzq (by omega) hl0 hf) (by decide) (by simp; omega)
  rw [Kfv.eq_def]
  simp [hw9,e0,f0,hi0,hle,hl,Kf5]
 | true =>
  rw [hl,if_pos rfl] at hf
  have im:=Kzq (by omega) hl0 hf
  rw [r0.ty] at im
  refine V0j.done (q:=(3 + (g:Int)) :: (ty ++ x0.fty)) (ns:=a') (kids:=[y0]) ?_ im (by omega) (fun hl=>Kz6 hs hy g0 (.inr (.inr ⟨g,hg',rfl⟩)) hl) (by simpa using la') ba' rfl (kd1 (V0i.mk' (m:=[ty]) V0r r0 f0 (fun q hq=>by simp at hq; rw [hq]; exact hy) rfl))
  have hg:=Kya (3 + (g:Int)) [ty,x0.fty] (by simp) (by simp; omega)
  simp only [List.flatten_cons,List.flatten_nil,List.append_nil] at hg
  have hcut:cut x0.fneeds (some 1) none none=some (Kx5 a'):=by rw [na]; exact Kw9 _ _
  rw [Kfv.eq_def]
  simp [hw9,e0,f0,hi0,hle,hl,hg,hw,hcut,Kug (Kx5 a') (by rw [Kx6]; simp at la'; omega)]
theorem V1a (ih:V10 s n (tsz (⟨4,N,ty,ks⟩:K01))) (h:tOk (gN s.fSize true) (yN s.fSize true) ctx.length ⟨4,N,ty,ks⟩=true) (hc:∀ q ∈ ctx,TyS s q) (hb:ctx.length + 2 * tsz (⟨4,N,ty,ks⟩:K01) ≤ 1000000):∃ x y,V0j s n ctx ⟨4,N,ty,ks⟩ x y:=by
 obtain ⟨k0,k1,rfl,p0,p1⟩:=nd2 h (Nat.le_refl _) rfl
 have hz:=Kx2 4 N ty k0 k1
 obtain ⟨x0,y0,r0⟩:=ih k0 ctx p0 hc (by omega)
 obtain ⟨x1,y1,r1⟩:=ih k1 ctx p1 hc (by omega)
 by_cases f0:x0.ffault=0
 rotate_left
 ·exact V12 (by decide) (by decide) (by decide) hb r0 f0
 obtain ⟨g0,q0,a,na,la,ba⟩:=r0.gd f0
 obtain ⟨c0,t0,ht0,hn0,hz0⟩:=V15 hs g0
 have L0:=Kyw g0
 have e0:Kfx (s,ctx,⟨4,N,ty,[k0,k1]⟩,0)=some x0:=V0k (i:=0) rfl r0 f0
 have o0:=V0p (out:=[]) (nd:=[]) (us:=[]) (w:=0) (t:=⟨4,N,ty,[k0,k1]⟩) (m:=[]) rfl (V0w (by decide)) r0 (by simp; omega) f0 (by rw [ht0]; exact Kzt (.inl (by decide))) (Kzr (show (4:Int) ≠ 10 by decide)) na (by simp <;> omega) (by simp) (by simp) (by simp) (by simp)
 have m1:Kze ⟨4,N,ty,[k0,k1]⟩ [y0] 1=some []:=V0y (by decide) (V0q (by decide) rfl)
 by_cases f1:x1.ffault=0
 rotate_left
 ·have e1:Kfx (s,ctx,⟨4,N,ty,[k0,k1]⟩,1)=some ⟨[],[],x1.ffault,1 :: x1.fpath⟩:=V0l (i:=1) rfl r1 (by omega) f1
  refine V0j.bad (f:=x1.ffault) (p:=1 :: x1.fpath) ?_ (Kzp (by omega) (o0.trans (V0m (m:=[]) rfl m1 r1 (by omega) (by simp; omega) f1))) f1 (by have:=r1.pl; simp; omega)
  rw [Kfv.eq_def]
  simp [e0,f0,e1,f1]
 obtain ⟨g1,q1,b,nb,lb,bb⟩:=r1.gd f1
 obtain ⟨c1,t1,ht1,hn1,hz1⟩:=V15 hs g1
 have L1:=Kyw g1
 have e1:Kfx (s,ctx,⟨4,N,ty,[k0,k1]⟩,1)=some x1:=V0k (i:=1) rfl r1 f1
 have o1:=V0p (out:=[y0]) (nd:=[Kx5 a]) (us:=[Kx5 []]) (w:=1) (t:=⟨4,N,ty,[k0,k1]⟩) (m:=[]) rfl m1 r1 (by simp; omega) f1 (by rw [ht1]; exact Kzt (.inl (by decide))) (Kzr (show (4:Int) ≠ 10 by decide)) nb (by simp <;> omega) (by simp) (by simp) (by simp) (by simp)
 have hf:=V0a (N:=N) (ty:=ty) (ks:=[k0,k1]) (ctx:=ctx) (us:=[Kx5 [],Kx5 []]) (z:=Kx5 (List.replicate ctx.length 0)) (y0:=y0) (y1:=y1) hs ba bb (by omega) (by omega) (by rw [r0.ty]; omega) (by rw [r1.ty]; omega)
 have im:=Kzq (p0:=⟨s⟩) (t:=⟨4,N,ty,[k0,k1]⟩) (ctx:=ctx) (by omega) (o0.trans (o1.trans (Kzh (Nat.le_refl _)))) hf
 rw [r0.ty,r1.ty] at im
 refine V0j.done (q:=1 :: (x0.fty ++ x1.fty)) (ns:=Kxi s n a b) (kids:=[y0,y1]) ?_ im (by omega) (fun hl=>Kz6 hs g0 g1 (.inl rfl) hl) (by unfold Kxi; rw [List.length_zipWith]; omega) (Kxo hs ba bb) rfl (kd2 (V0i.mk' (V0q (by decide) rfl) r0 f0 (fun _ h=>by cases h) rfl) (V0i.mk' (V0q (by decide) rfl) r1 f1 (fun _ h=>by cases h) rfl))
 have hg:=Kya 1 [x0.fty,x1.fty] (by simp) (by simp; omega)
 simp only [List.flatten_cons,List.flatten_nil,List.append_nil] at hg
 rw [Kfv.eq_def]
 simp [e0,f0,e1,f1,hg,na,nb,Kxv hs a b ba bb (by omega) (by omega)]
theorem V1b (ih:V10 s n (tsz (⟨2,N,ty,ks⟩:K01))) (h:tOk (gN s.fSize true) (yN s.fSize true) ctx.length ⟨2,N,ty,ks⟩=true) (hc:∀ q ∈ ctx,TyS s q) (hb:ctx.length + 2 * tsz (⟨2,N,ty,ks⟩:K01) ≤ 1000000):∃ x y,V0j s n ctx ⟨2,N,ty,ks⟩ x y:=by
 obtain ⟨k0,k1,rfl,p0,p1⟩:=nd2 h (Nat.le_refl _) rfl
 have hz:=Kx2 2 N ty k0 k1
 obtain ⟨x0,y0,r0⟩:=ih k0 ctx p0 hc (by omega)
 obtain ⟨x1,y1,r1⟩:=ih k1 ctx p1 hc (by omega)
 by_cases f0:x0.ffault=0
 rotate_left
 ·exact V12 (by decide) (by decide) (by decide) hb r0 f0
 obtain ⟨g0,q0,a,na,la,ba⟩:=r0.gd f0
 obtain ⟨c0,t0,ht0,hn0,hz0⟩:=V15 hs g0
 have L0:=Kyw g0
 have e0:Kfx (s,ctx,⟨2,N,ty,[k0,k1]⟩,0)=some x0:=V0k (i:=0) rfl r0 f0
 have i0:idx x0.fty 0=some c0:=by rw [ht0]; rfl
 by_cases z0:c0=0
 rotate_left
 ·refine V0j.bad (f:=2) (p:=[]) ?_ (Kzp (by omega) (V0n (m:=[]) rfl (V0w (by decide)) r0 (by simp; omega) f0 (by rw [ht0,Kzu,if_neg (by rw [hn0]; exact z0)]) (by decide))) (by decide) (by simp; omega)
  rw [Kfv.eq_def]
  simp [e0,f0,i0,z0,Kf5]
 have u0:=hz0 z0
 have s0:(Ksm c0).1=0:=hn0.2 z0
 have o0:=V0p (out:=[]) (nd:=[]) (us:=[]) (w:=0) (t:=⟨2,N,ty,[k0,k1]⟩) (m:=[]) rfl (V0w (by decide)) r0 (by simp; omega) f0 (by rw [ht0,Kzu,if_pos s0]) (Kzr (show (2:Int) ≠ 10 by decide)) na (by simp <;> omega) (by simp) (by simp) (by simp) (by simp)
 have m1:Kze ⟨2,N,ty,[k0,k1]⟩ [y0] 1=some []:=V0y (by decide) (V0q (by decide) rfl)
 by_cases f1:x1.ffault=0
 rotate_left
 ·have e1:Kfx (s,ctx,⟨2,N,ty,[k0,k1]⟩,1)=some ⟨[],[],x1.ffault,1 :: x1.fpath⟩:=V0l (i:=1) rfl r1 (by omega) f1
  refine V0j.bad (f:=x1.ffault) (p:=1 :: x1.fpath) ?_ (Kzp (by omega) (o0.trans (V0m (m:=[]) rfl m1 r1 (by omega) (by simp; omega) f1))) f1 (by have:=r1.pl; simp; omega)
  rw [Kfv.eq_def]
  simp [e0,f0,i0,z0,Kfy.eq_def,e1,f1]
 obtain ⟨g1,q1,b,nb,lb,bb⟩:=r1.gd f1
 obtain ⟨c1,t1,ht1,hn1,hz1⟩:=V15 hs g1
 have L1:=Kyw g1
 have e1:Kfx (s,ctx,⟨2,N,ty,[k0,k1]⟩,1)=some x1:=V0k (i:=1) rfl r1 f1
 have i1:idx x1.fty 0=some c1:=by rw [ht1]; rfl
 by_cases z1:c1=0
 rotate_left
 ·refine V0j.bad (f:=2) (p:=[]) ?_ (Kzp (by omega) (o0.trans (V0n (m:=[]) rfl m1 r1 (by simp; omega) f1 (by rw [ht1,Kzu,if_neg (by rw [hn1]; exact z1)]) (by decide)))) (by decide) (by simp; omega)
  rw [Kfv.eq_def]
  simp [e0,f0,i0,z0,e1,f1,i1,z1,Kf5,Kfy.eq_def]
 have u1:=hz1 z1
 have s1:(Ksm c1).1=0:=hn1.2 z1
 have o1:=V0p (out:=[y0]) (nd:=[Kx5 a]) (us:=[Kx5 []]) (w:=1) (t:=⟨2,N,ty,[k0,k1]⟩) (m:=[]) rfl m1 r1 (by simp; omega) f1 (by rw [ht1,Kzu,if_pos s1]) (Kzr (show (2:Int) ≠ 10 by decide)) nb (by simp <;> omega) (by simp) (by simp) (by simp) (by simp)
 have hf:=V08 (N:=N) (ty:=ty) (ks:=[k0,k1]) (ctx:=ctx) (us:=[Kx5 [],Kx5 []]) (z:=Kx5 (List.replicate ctx.length 0)) (y0:=y0) (y1:=y1) hs ba bb (by omega) (by omega)
 have im:=Kzq (p0:=⟨s⟩) (t:=⟨2,N,ty,[k0,k1]⟩) (ctx:=ctx) (by omega) (o0.trans (o1.trans (Kzh (Nat.le_refl _)))) hf
 replace im:=V11 (q:=[0]) (ns:=Kxi s n a b) (kids:=[y0,y1]) (by decide) im
 refine V0j.good (q:=[0]) (ns:=Kxi s n a b) (kids:=[y0,y1]) ?_ im (by omega) Kz2 (by unfold Kxi; rw [List.length_zipWith]; omega) (Kxo hs ba bb) rfl (kd2 (V0i.mk' (V0q (by decide) rfl) r0 f0 (fun _ h=>by cases h) rfl) (V0i.mk' (V0q (by decide) rfl) r1 f1 (fun _ h=>by cases h) rfl))
 rw [Kfv.eq_def]
 simp [e0,f0,i0,z0,e1,f1,i1,z1,na,nb,u1,V01,Kxv hs a b ba bb (by omega) (by omega),Kfy.eq_def]
theorem V1c (ih:V10 s n (tsz (⟨3,N,ty,ks⟩:K01))) (h:tOk (gN s.fSize true) (yN s.fSize true) ctx.length ⟨3,N,ty,ks⟩=true) (hc:∀ q ∈ ctx,TyS s q) (hb:ctx.length + 2 * tsz (⟨3,N,ty,ks⟩:K01) ≤ 1000000):∃ x y,V0j s n ctx ⟨3,N,ty,ks⟩ x y:=by
 obtain ⟨k0,k1,k2,rfl,p0,p1,p2⟩:=nd3 h (Nat.le_refl _) rfl
 have hz:=Kx3 3 N ty k0 k1 k2
 obtain ⟨x0,y0,r0⟩:=ih k0 ctx p0 hc (by omega)
 obtain ⟨x1,y1,r1⟩:=ih k1 ctx p1 hc (by omega)
 obtain ⟨x2,y2,r2⟩:=ih k2 ctx p2 hc (by omega)
 by_cases f0:x0.ffault=0
 rotate_left
 ·exact V12 (by decide) (by decide) (by decide) hb r0 f0
 obtain ⟨g0,q0,a,na,la,ba⟩:=r0.gd f0
 obtain ⟨c0,t0,ht0,hn0,hz0⟩:=V15 hs g0
 have L0:=Kyw g0
 have e0:Kfx (s,ctx,⟨3,N,ty,[k0,k1,k2]⟩,0)=some x0:=V0k (i:=0) rfl r0 f0
 have i0:idx x0.fty 0=some c0:=by rw [ht0]; rfl
 by_cases z0:c0=0
 rotate_left
 ·refine V0j.bad (f:=2) (p:=[]) ?_ (Kzp (by omega) (V0n (m:=[]) rfl (V0w (by decide)) r0 (by simp; omega) f0 (by rw [ht0,Kzv,if_neg (by rw [hn0]; exact z0)]) (by decide))) (by decide) (by simp; omega)
  rw [Kfv.eq_def]
  simp [e0,f0,i0,z0,Kf5]
 have u0:=hz0 z0
 have s0:(Ksm c0).1=0:=hn0.2 z0
 have o0:=V0p (out:=[]) (nd:=[]) (us:=[]) (w:=0) (t:=⟨3,N,ty,[k0,k1,k2]⟩) (m:=[]) rfl (V0w (by decide)) r0 (by simp; omega) f0 (by rw [ht0,Kzv,if_pos s0]) (Kzr (show (3:Int) ≠ 10 by decide)) na (by simp <;> omega) (by simp) (by simp) (by simp) (by simp)
 have m1:Kze ⟨3,N,ty,[k0,k1,k2]⟩ [y0] 1=some []:=V0y (by decide) (V0q (by decide) rfl)
 by_cases f1:x1.ffault=0
 rotate_left
 ·have e1:Kfx (s,ctx,⟨3,N,ty,[k0,k1,k2]⟩,1)=some ⟨[],[],x1.ffault,1 :: x1.fpath⟩:=V0l (i:=1) rfl r1 (by omega) f1
  refine V0j.bad (f:=x1.ffault) (p:=1 :: x1.fpath) ?_ (Kzp (by omega) (o0.trans (V0m (m:=[]) rfl m1 r1 (by omega) (by simp; omega) f1))) f1 (by have:=r1.pl; simp; omega)
  rw [Kfv.eq_def]
  simp [e0,f0,i0,z0,Kfy.eq_def,e1,f1]
 obtain ⟨g1,q1,b,nb,lb,bb⟩:=r1.gd f1
 obtain ⟨c1,t1,ht1,hn1,hz1⟩:=V15 hs g1
 have L1:=Kyw g1
 have e1:Kfx (s,ctx,⟨3,N,ty,[k0,k1,k2]⟩,1)=some x1:=V0k (i:=1) rfl r1 f1
 have o1:=V0p (out:=[y0]) (nd:=[Kx5 a]) (us:=[Kx5 []]) (w:=1) (t:=⟨3,N,ty,[k0,k1,k2]⟩) (m:=[]) rfl m1 r1 (by simp; omega) f1 (by rw [ht1]; exact Kzt (.inr (by decide))) (Kzr (show (3:Int) ≠ 10 by decide)) nb (by simp <;> omega) (by simp) (by simp) (by simp) (by simp)
 have m2:Kze ⟨3,N,ty,[k0,k1,k2]⟩ [y0,y1] 2=some []:=V0y (by decide) (V0q (by decide) rfl)
 by_cases f2:x2.ffault=0
 rotate_left
 ·have e2:Kfx (s,ctx,⟨3,N,ty,[k0,k1,k2]⟩,2)=some ⟨[],[],x2.ffault,2 :: x2.fpath⟩:=V0l (i:=2) rfl r2 (by omega) f2
  refine V0j.bad (f:=x2.ffault) (p:=2 :: x2.fpath) ?_ (Kzp (by omega) (o0.trans (o1.trans (V0m (m:=[]) rfl m2 r2 (by omega) (by simp; omega) f2)))) f2 (by have:=r2.pl; simp; omega)
  rw [Kfv.eq_def]
  simp [e0,f0,i0,z0,e1,f1,Kfy.eq_def,e2,f2]
 obtain ⟨g2,q2,d,nd,ld,bd⟩:=r2.gd f2
 obtain ⟨c2,t2,ht2,hn2,hz2⟩:=V15 hs g2
 have L2:=Kyw g2
 have e2:Kfx (s,ctx,⟨3,N,ty,[k0,k1,k2]⟩,2)=some x2:=V0k (i:=2) rfl r2 f2
 have o2:=V0p (out:=[y0,y1]) (nd:=[Kx5 a,Kx5 b]) (us:=[Kx5 [],Kx5 []]) (w:=2) (t:=⟨3,N,ty,[k0,k1,k2]⟩) (m:=[]) rfl m2 r2 (by simp; omega) f2 (by rw [ht2]; exact Kzt (.inr (by decide))) (Kzr (show (3:Int) ≠ 10 by decide)) nd (by simp <;> omega) (by simp) (by simp) (by simp) (by simp)
 have hf:=V09 (N:=N) (ty:=ty) (ks:=[k0,k1,k2]) (ctx:=ctx) (us:=[Kx5 [],Kx5 [],Kx5 []]) (z:=Kx5 (List.replicate ctx.length 0)) (y0:=y0) (y1:=y1) (y2:=y2) hs ba bb bd (by omega) (by omega) (by omega) (by rw [r2.ty]; omega) (by rw [r1.ty]; omega)
 have hl0:=o0.trans (o1.trans (o2.trans (Kzh (Nat.le_refl _))))
 
 have hsm:=Kwh x1.fty x2.fty (by omega)
 have lj:(Kxk s n b d).length=ctx.length:=by unfold Kxk; rw [List.length_zipWith]; omega
 rw [r1.ty,r2.ty] at hf
 by_cases hq:x1.fty=x2.fty
 ·rw [if_pos hq] at hf
  have im:=Kzq (by omega) hl0 hf
  replace im:=V11 (q:=x1.fty) (ns:=Kxi s n a (Kxk s n b d)) (kids:=[y0,y1,y2]) (by omega) im
  refine V0j.good (q:=x1.fty) (ns:=Kxi s n a (Kxk s n b d)) (kids:=[y0,y1,y2]) ?_ im (by omega) g1 (by unfold Kxi; rw [List.length_zipWith]; omega) (Kxo hs ba (Kxq hs bb bd)) rfl (kd3 (V0i.mk' (V0q (by decide) rfl) r0 f0 (fun _ h=>by cases h) rfl) (V0i.mk' (V0q (by decide) rfl) r1 f1 (fun _ h=>by cases h) rfl) (V0i.mk' (V0q (by decide) rfl) r2 f2 (fun _ h=>by cases h) rfl))
  rw [show (x1.fty == x2.fty)=true from beq_iff_eq.2 hq] at hsm
  rw [Kfv.eq_def]
  simp [e0,f0,i0,z0,e1,f1,e2,f2,hsm,na,nb,nd,Kxx hs b d bb bd (by omega) (by omega),Kxv hs a (Kxk s n b d) ba (Kxq hs bb bd) (by omega) (by omega),Kfy.eq_def]
 ·rw [if_neg hq] at hf
  refine V0j.bad (f:=3) (p:=[]) ?_ (Kzq (by omega) hl0 hf) (by decide) (by simp; omega)
  rw [show (x1.fty == x2.fty)=false from beq_eq_false_iff_ne.2 hq] at hsm
  rw [Kfv.eq_def]
  simp [e0,f0,i0,z0,e1,f1,e2,f2,hsm,Kfy.eq_def,Kf5]
end
theorem V1d (g:Nat) (h:g ≤ 15):Ksm (3 + (g:Int))=(3,(g:Int)):=by
 rcases Kso (3 + (g:Int)) with h | h | h | h | h | h | h | h <;> first | omega | (obtain ⟨_,e⟩:=h; rw [e]; congr 1; omega)
theorem V1e (g:Nat) (h:g ≤ 15):Ksm (19 + (g:Int))=(4,(g:Int)):=by
 rcases Kso (19 + (g:Int)) with h | h | h | h | h | h | h | h <;> first | omega | (obtain ⟨_,e⟩:=h; rw [e]; congr 1; omega)
theorem V1f (g:Nat) (h:g ≤ 15):Ksf (3 + (g:Int))=true:=by unfold Ksf inB; simp; omega
theorem V1g (g:Nat) (h:g ≤ 15):Ksf (19 + (g:Int))=false:=by unfold Ksf inB; simp; omega
theorem V1h (g:Nat) (h:g ≤ 15):Ksg (3 + (g:Int))=false:=by unfold Ksg inB; simp; omega
theorem V1i (g:Nat) (h:g ≤ 15):Ksg (19 + (g:Int))=true:=by unfold Ksg inB; simp; omega
theorem V1j (g:Nat) (h:g ≤ 15):Keu (3 + (g:Int))=some (g:Int):=by
 rw [Kt4 (by rcases Ksl (3 + (g:Int)) with h | h | h | h <;> omega)]
 unfold Kt2
 rw [if_neg (by omega),if_neg (by omega)]
 congr 1; omega
theorem V1k (g:Nat) (h:g ≤ 15):Keu (19 + (g:Int))=some (g:Int):=by
 rw [Kt4 (by rcases Ksl (19 + (g:Int)) with h | h | h | h <;> omega)]
 unfold Kt2
 rw [if_neg (by omega),if_pos (by omega)]
 congr 1; omega
section
variable {s:K00} {n:Nat} (hs:Kxa s n) {ctx:List (List Int)} {N:Int} {ty:List Int} {ks:List K01}
include hs
structure V1l (s:K00) (n:Nat) (q:List Int) (c:Int):Prop where
 arr:(Ksm c).1=3→∃ (g:Nat) (a b:List Int),g < n∧g ≤ 15∧c=3 + (g:Int)∧q=c :: (a ++ b)∧Kyz s (3 + (g:Int)) a b
 pair:(Ksm c).1=1→∃ (a b:List Int),c=1∧q=c :: (a ++ b)∧Kyz s 1 a b
 sum:(Ksm c).1=2→∃ (a b:List Int),c=2∧q=c :: (a ++ b)∧Kyz s 2 a b
 box:(Ksm c).1=4→∃ (g:Nat) (a:List Int),g < n∧g ≤ 15∧c=19 + (g:Int)∧q=c :: a∧Kz0 s (19 + (g:Int)) a
 arrB:Ksf c=true ↔ (Ksm c).1=3
 boxB:Ksg c=true ↔ (Ksm c).1=4
 one:c=1 ↔ (Ksm c).1=1
 two:c=2 ↔ (Ksm c).1=2
theorem V1m {q:List Int} (hq:TyS s q) {c:Int} {r:List Int} (e:q=c :: r):V1l s n q c:=by
 rcases Kz5 hs hq with rfl | ⟨a,b,rfl,P⟩ | ⟨a,b,rfl,P⟩ | ⟨g,a,b,hg,h15,rfl,P⟩ | ⟨g,a,hg,h15,rfl,P⟩
 ·cases e
  refine ⟨fun h=>?_,fun h=>?_,fun h=>?_,fun h=>?_,by decide,by decide,by decide,by decide⟩ <;> exact absurd h (by decide)
 ·cases e
  refine ⟨fun h=>absurd h (by decide),fun _=>⟨a,b,rfl,rfl,P⟩,fun h=>absurd h (by decide),fun h=>absurd h (by decide),by decide,by decide,by decide,by decide⟩
 ·cases e
  refine ⟨fun h=>absurd h (by decide),fun h=>absurd h (by decide),fun _=>⟨a,b,rfl,rfl,P⟩,fun h=>absurd h (by decide),by decide,by decide,by decide,by decide⟩
 ·cases e
  have hsh:=V1d g h15
  refine ⟨fun _=>⟨g,a,b,hg,h15,rfl,rfl,P⟩,fun h=>?_,fun h=>?_,fun h=>?_,?_,?_,?_,?_⟩
  ·rw [hsh] at h; simp at h
  ·rw [hsh] at h; simp at h
  ·rw [hsh] at h; simp at h
  ·rw [hsh,V1f g h15]; simp
  ·rw [hsh,V1h g h15]; simp
  ·rw [hsh]; simp; omega
  ·rw [hsh]; simp; omega
 ·cases e
  have hsh:=V1e g h15
  refine ⟨fun h=>?_,fun h=>?_,fun h=>?_,fun _=>⟨g,_,hg,h15,rfl,rfl,P⟩,?_,?_,?_,?_⟩
  ·rw [hsh] at h; simp at h
  ·rw [hsh] at h; simp at h
  ·rw [hsh] at h; simp at h
  ·rw [hsh,V1g g h15]; simp
  ·rw [hsh,V1i g h15]; simp
  ·rw [hsh]; simp; omega
  ·rw [hsh]; simp; omega
theorem V1n (ih:V10 s n (tsz (⟨10,N,ty,ks⟩:K01))) (h:tOk (gN s.fSize true) (yN s.fSize true) ctx.length ⟨10,N,ty,ks⟩=true) (hc:∀ q ∈ ctx,TyS s q) (hb:ctx.length + 2 * tsz (⟨10,N,ty,ks⟩:K01) ≤ 1000000):∃ x y,V0j s n ctx ⟨10,N,ty,ks⟩ x y:=by
 obtain ⟨k0,k1,rfl,p0,p1⟩:=nd2 h (Nat.le_refl _) rfl
 have hz:=Kx2 10 N ty k0 k1
 obtain ⟨x0,y0,r0⟩:=ih k0 ctx p0 hc (by omega)
 obtain ⟨x1,y1,r1⟩:=ih k1 ctx p1 hc (by omega)
 by_cases f0:x0.ffault=0
 rotate_left
 ·exact V12 (by decide) (by decide) (by decide) hb r0 f0
 obtain ⟨g0,q0,a,na,la,ba⟩:=r0.gd f0
 obtain ⟨c0,t0,ht0,hn0,hz0⟩:=V15 hs g0
 have L0:=Kyw g0
 have e0:Kfx (s,ctx,⟨10,N,ty,[k0,k1]⟩,0)=some x0:=V0k (i:=0) rfl r0 f0
 have C:=V1m hs g0 ht0
 have i0:idx x0.fty 0=some c0:=by rw [ht0]; rfl
 by_cases z0:(Ksm c0).1=3
 rotate_left
 ·have w0:Ksf c0=false:=by cases h:Ksf c0 with | true=>exact absurd (C.arrB.1 h) z0 | false=>rfl
  refine V0j.bad (f:=6) (p:=[]) ?_ (Kzp (by omega) (V0n (m:=[]) rfl (V0w (by decide)) r0 (by simp; omega) f0 (by rw [ht0,Kzw,if_neg z0]) (by decide))) (by decide) (by simp; omega)
  rw [Kfv.eq_def]
  simp [e0,f0,i0,Ksi,w0,Kf5]
 obtain ⟨g,p,q,hg,h15,hcg,hq,P⟩:=C.arr z0
 have w0:Ksf c0=true:=C.arrB.2 z0
 have o0:=V0p (out:=[]) (nd:=[]) (us:=[]) (w:=0) (t:=⟨10,N,ty,[k0,k1]⟩) (m:=[]) rfl (V0w (by decide)) r0 (by simp; omega) f0 (by rw [ht0,Kzw,if_pos z0]) (Kzs (by decide)) na (by simp <;> omega) (by simp) (by simp) (by simp) (by simp)
 have m1:Kze ⟨10,N,ty,[k0,k1]⟩ [y0] 1=some []:=V0y (by decide) (V0q (by decide) rfl)
 by_cases f1:x1.ffault=0
 rotate_left
 ·have e1:Kfx (s,ctx,⟨10,N,ty,[k0,k1]⟩,1)=some ⟨[],[],x1.ffault,1 :: x1.fpath⟩:=V0l (i:=1) rfl r1 (by omega) f1
  refine V0j.bad (f:=x1.ffault) (p:=1 :: x1.fpath) ?_ (Kzp (by omega) (o0.trans (V0m (m:=[]) rfl m1 r1 (by omega) (by simp; omega) f1))) f1 (by have:=r1.pl; simp; omega)
  rw [Kfv.eq_def]
  simp [e0,f0,i0,Ksi,w0,e1,f1]
 obtain ⟨g1,q1,b,nb,lb,bb⟩:=r1.gd f1
 obtain ⟨c1,t1,ht1,hn1,hz1⟩:=V15 hs g1
 have L1:=Kyw g1
 have e1:Kfx (s,ctx,⟨10,N,ty,[k0,k1]⟩,1)=some x1:=V0k (i:=1) rfl r1 f1
 have hp0:Ker (x0.fty,0)=some p:=by rw [hq,hcg]; exact P.p0
 have hp1:Ker (x0.fty,1)=some q:=by rw [hq,hcg]; exact P.p1
 have hpp:Klt y0.fty=some [p,q]:=by rw [r0.ty,hq,hcg]; exact P.pp
 have Lp:=Kyw P.ya
 have Lq:=Kyw P.yb
 have hsm:=Kwh x1.fty p (by omega)
 have hsi:=Kwj x1.fty p (by omega)
 have ha:Kzk ⟨10,N,ty,[k0,k1]⟩ [y0] 1 y1=some (!(x1.fty == p)):=by
  unfold Kzk
  rw [if_pos (show ((10:Int) == 10)=true by decide),if_pos (by decide),V01,bs,hpp,bs,V01,bs,r1.ty,hsi,bs]
 by_cases hqq:x1.fty=p
 rotate_left
 ·rw [show (x1.fty == p)=false from beq_eq_false_iff_ne.2 hqq] at hsm ha
  refine V0j.bad (f:=3) (p:=[]) ?_ (Kzp (by omega) (o0.trans (V0o (m:=[]) rfl m1 r1 (by simp; omega) f1 (by rw [ht1]; exact Kzt (.inr (by decide))) ha))) (by decide) (by simp; omega)
  rw [Kfv.eq_def]
  simp [e0,f0,i0,Ksi,w0,e1,f1,hp0,hsm,Kf5]
 rw [show (x1.fty == p)=true from beq_iff_eq.2 hqq] at hsm ha
 have o1:=V0p (out:=[y0]) (nd:=[Kx5 a]) (us:=[Kx5 []]) (w:=1) (t:=⟨10,N,ty,[k0,k1]⟩) (m:=[]) rfl m1 r1 (by simp; omega) f1 (by rw [ht1]; exact Kzt (.inr (by decide))) ha nb (by simp <;> omega) (by simp) (by simp) (by simp) (by simp)
 have hf:=V0d (N:=N) (ty:=ty) (ks:=[k0,k1]) (ctx:=ctx) (us:=[Kx5 [],Kx5 []]) (z:=Kx5 (List.replicate ctx.length 0)) (y0:=y0) (y1:=y1) hs hg (p:=p) (q:=q) (by rw [r0.ty,hq,hcg]) P ba bb (by omega) (by omega)
 have im:=V11 (q:=q) (ns:=Kxi s n a (Kxj s n g b)) (kids:=[y0,y1]) Lq (Kzq (p0:=⟨s⟩) (t:=⟨10,N,ty,[k0,k1]⟩) (ctx:=ctx) (by omega) (o0.trans (o1.trans (Kzh (Nat.le_refl _)))) hf)
 have lsc:(Kxj s n g b).length=ctx.length:=by unfold Kxj; rw [List.length_map]; exact lb
 refine V0j.good (q:=q) (ns:=Kxi s n a (Kxj s n g b)) (kids:=[y0,y1]) ?_ im (by omega) P.yb (by unfold Kxi; rw [List.length_zipWith]; omega) (Kxo hs ba (Kxp hs hg bb)) rfl (kd2 (V0i.mk' (V0q (by decide) rfl) r0 f0 (fun _ h=>by cases h) rfl) (V0i.mk' (V0q (by decide) rfl) r1 f1 (fun _ h=>by cases h) rfl))
 have hgr:Keu c0=some (g:Int):=by rw [hcg]; exact V1j g h15
 rw [Kfv.eq_def]
 simp [e0,f0,i0,Ksi,w0,e1,f1,hp0,hp1,hsm,hgr,na,nb,Kxu hs g hg a b ba bb (by omega) (by omega)]
theorem V1o (ih:V10 s n (tsz (⟨5,N,ty,ks⟩:K01))) (h:tOk (gN s.fSize true) (yN s.fSize true) ctx.length ⟨5,N,ty,ks⟩=true) (hc:∀ q ∈ ctx,TyS s q) (hb:ctx.length + 2 * tsz (⟨5,N,ty,ks⟩:K01) ≤ 1000000):∃ x y,V0j s n ctx ⟨5,N,ty,ks⟩ x y:=by
 obtain ⟨k0,k1,rfl,p0,p1⟩:=nd2 h (Nat.le_refl _) rfl
 have hz:=Kx2 5 N ty k0 k1
 obtain ⟨g,hN,hg⟩:=Kz8 hs (Kza h rfl)
 simp only at hN
 subst hN
 obtain ⟨x0,y0,r0⟩:=ih k0 ctx p0 hc (by omega)
 by_cases f0:x0.ffault=0
 rotate_left
 ·exact V12 (by decide) (by decide) (by decide) hb r0 f0
 obtain ⟨g0,q0,a,na,la,ba⟩:=r0.gd f0
 obtain ⟨c0,t0,ht0,hn0,hz0⟩:=V15 hs g0
 have L0:=Kyw g0
 have e0:Kfx (s,ctx,⟨5,(g:Int),ty,[k0,k1]⟩,0)=some x0:=V0k (i:=0) rfl r0 f0
 have C:=V1m hs g0 ht0
 have i0:idx x0.fty 0=some c0:=by rw [ht0]; rfl
 by_cases z0:(Ksm c0).1=1
 rotate_left
 ·have w0:c0 ≠ 1:=fun h=>z0 (C.one.1 h)
  refine V0j.bad (f:=4) (p:=[]) ?_ (Kzp (by omega) (V0n (m:=[]) rfl (V0w (by decide)) r0 (by simp; omega) f0 (by rw [ht0,Kzx hs hg,if_neg z0]) (by decide))) (by decide) (by simp; omega)
  rw [Kfv.eq_def]
  simp [e0,f0,i0,Kfw.eq_def,w0,Kf5]
 obtain ⟨p,q,hcg,hq,P⟩:=C.pair z0
 have hle:=sLe hs.tab (Kxc hs) hg
 cases hl:le s n 1 g with
 | false =>
  have hl2:Kbn (s,1,(g:Int))=some false:=by rw [← hl]; exact hle
  refine V0j.bad (f:=8) (p:=[]) ?_ (Kzp (by omega) (V0n (m:=[]) rfl (V0w (by decide)) r0 (by simp; omega) f0 (by rw [ht0,Kzx hs hg,if_pos z0,hl]; rfl) (by decide))) (by decide) (by simp; omega)
  rw [Kfv.eq_def]
  simp [e0,f0,i0,Kfw.eq_def,hcg,hl2,Kf5]
 | true =>
 have hl2:Kbn (s,1,(g:Int))=some true:=by rw [← hl]; exact hle
 have o0:=V0p (out:=[]) (nd:=[]) (us:=[]) (w:=0) (t:=⟨5,(g:Int),ty,[k0,k1]⟩) (m:=[]) rfl (V0w (by decide)) r0 (by simp; omega) f0 (by rw [ht0,Kzx hs hg,if_pos z0,hl]; rfl) (Kzr (show (5:Int) ≠ 10 by decide)) na (by simp <;> omega) (by simp) (by simp) (by simp) (by simp)
 have hp0:Ker (x0.fty,0)=some p:=by rw [hq,hcg]; exact P.p0
 have hp1:Ker (x0.fty,1)=some q:=by rw [hq,hcg]; exact P.p1
 have ad:Klw (⟨5,(g:Int),ty,[k0,k1]⟩,((1:Nat):Int),y0.fty)=some [q,p]:=by rw [r0.ty,hq,hcg]; exact V0s P
 have hm':∀ z ∈ [q,p],TyS s z:=fun z hz=>by simp at hz; rcases hz with rfl | rfl; exact P.yb; exact P.ya
 have m1:Kze ⟨5,(g:Int),ty,[k0,k1]⟩ [y0] 1=some [q,p]:=V0y (by decide) ad
 have p1':Kz9 s ([q,p] ++ ctx).length k1 (tsz (⟨5,(g:Int),ty,[k0,k1]⟩:K01)):=by
  have e:([q,p] ++ ctx).length=ctx.length + Kts 5 1:=by simp [Kts]
  rw [e]; exact p1
 obtain ⟨x1,y1,r1⟩:=ih k1 ([q,p] ++ ctx) p1' (fun z hz=>by rcases List.mem_append.1 hz with hz | hz; exact hm' z hz; exact hc z hz) (by simp; omega)
 have hwc:=Ky8 ctx [q,p] (by simp; omega)
 by_cases f1:x1.ffault=0
 rotate_left
 ·have e1:Kfx (s,q :: p :: ctx,⟨5,(g:Int),ty,[k0,k1]⟩,1)=some ⟨[],[],x1.ffault,1 :: x1.fpath⟩:=V0l (i:=1) rfl r1 (by omega) f1
  refine V0j.bad (f:=x1.ffault) (p:=1 :: x1.fpath) ?_ (Kzp (by omega) (o0.trans (V0m (m:=[q,p]) rfl m1 r1 (by omega) (by simp; omega) f1))) f1 (by have:=r1.pl; simp; omega)
  rw [Kfv.eq_def]
  simp [e0,f0,i0,Kfw.eq_def,hcg,hl2,hp0,hp1,hwc,e1,f1]
 obtain ⟨g1,q1,b,nb,lb,bb⟩:=r1.gd f1
 obtain ⟨c1,t1,ht1,hn1,hz1⟩:=V15 hs g1
 have L1:=Kyw g1
 have e1:Kfx (s,q :: p :: ctx,⟨5,(g:Int),ty,[k0,k1]⟩,1)=some x1:=V0k (i:=1) rfl r1 f1
 have lb':b.length=ctx.length + 2:=by rw [lb]; simp
 obtain ⟨u0,u1,b',rfl⟩:∃ u0 u1 b',b=u0 :: u1 :: b':=by match b,lb' with | u0 :: u1 :: b',_=>exact ⟨u0,u1,b',rfl⟩ | [_],h=>simp at h | [],h=>simp at h
 obtain ⟨hu0,bb1⟩:=Kxm bb
 obtain ⟨hu1,bb'⟩:=Kxm bb1
 have o1:=V0p (out:=[y0]) (nd:=[Kx5 a]) (us:=[Kx5 []]) (w:=1) (t:=⟨5,(g:Int),ty,[k0,k1]⟩) (m:=[q,p]) rfl m1 r1 (by simp; omega) f1 (by rw [ht1]; exact Kzt (.inr (by decide))) (Kzr (show (5:Int) ≠ 10 by decide)) nb (by simp <;> omega) (by simp) (by simp) (by simp) (by simp)
 simp only [List.length_cons,List.length_nil,Nat.zero_add,List.drop_succ_cons,List.drop_zero,List.take_succ_cons,List.take_zero,List.nil_append] at o1
 have hl0:=o0.trans (o1.trans (Kzh (Nat.le_refl _)))
 have lbc:b'.length=ctx.length:=by simp at lb'; omega
 have i1:idx x1.fneeds 0=some (u0:Int):=by rw [nb]; rfl
 have hcut:cut x1.fneeds (some (2:Int)) none none=some (Kx5 b'):=by
  rw [nb]
  have:=Kzj (l:=Kx5 (u0 :: u1 :: b')) (m:=2) (by simp [Kx5])
  exact this
 have hcp:=Kug (Kx5 b') (by rw [Kx6]; omega)
 have i2:idx x1.fneeds 1=some (u1:Int):=by rw [nb]; rfl
 have hle0:=sLe hs.tab hu0 hg
 have hle1:=sLe hs.tab hu1 hg
 have hf:=V0e (ty:=ty) (ks:=[k0,k1]) (ctx:=ctx) (z:=Kx5 (List.replicate ctx.length 0)) (y0:=y0) (y1:=y1) (us':=Kx5 []) (u:=[u0,u1]) hs hg (fun x hx=>by simp at hx; rcases hx with rfl | rfl; exact hu0; exact hu1) (by simp) ba bb' (by omega) (by omega) (by rw [r1.ty]; omega)
 simp only [List.all_cons,List.all_nil,Bool.and_true] at hf
 have es:=e1
 cases hal:(le s n u0 g && le s n u1 g) with
 | false =>
  rw [hal,if_neg (by decide)] at hf
  refine V0j.bad (f:=9) (p:=[]) ?_ (Kzq (by omega) hl0 hf) (by decide) (by simp; omega)
  rw [Kfv.eq_def]
  simp [e0,f0,i0,Kfw.eq_def,hcg,hl2,hp0,hp1,hwc,e1,f1,i1,i2,hcut,hcp,hle0,hle1,Kf5]
  cases q1:le s n u1 g with
  | false=>simp
  | true=>rw [q1,Bool.and_true] at hal; simp [hal]
 | true =>
  rw [hal,if_pos rfl] at hf
  have im:=V11 (q:=y1.fty) (ns:=Kxi s n (Kxj s n g a) b') (kids:=[y0,y1]) (by rw [r1.ty]; omega) (Kzq (by omega) hl0 hf)
  rw [r1.ty] at im
  have lsc:(Kxj s n g a).length=ctx.length:=by unfold Kxj; rw [List.length_map]; exact la
  have hsc:=Kxp hs hg ba
  have hz0:=Kxs hs hsc
  rw [lsc] at hz0
  have hsum:=Kxu hs g hg (List.replicate ctx.length 0) a (fun x hx=>by rw [List.eq_of_mem_replicate hx]; exact Kxd hs) ba (by simp; omega) (by simp [la])
  rw [hz0] at hsum
  have hs2:=Kxv hs (Kxj s n g a) b' hsc bb' (by omega) (by omega)
  refine V0j.good (q:=x1.fty) (ns:=Kxi s n (Kxj s n g a) b') (kids:=[y0,y1]) ?_ im (by omega) g1 (by unfold Kxi; rw [List.length_zipWith]; omega) (Kxo hs hsc bb') rfl (kd2 (V0i.mk' (V0q (by decide) rfl) r0 f0 (fun _ h=>by cases h) rfl) (V0i.mk' ad r1 f1 hm' rfl))
  rw [Kfv.eq_def]
  rw [Bool.and_eq_true] at hal
  simp [e0,f0,i0,Kfw.eq_def,hcg,hl2,hp0,hp1,hwc,e1,f1,i1,i2,hcut,hcp,hle0,hle1,hal.1,hal.2,na,Ky7 ctx.length (by omega),hsum,hs2]
theorem V1p (ih:V10 s n (tsz (⟨12,N,ty,ks⟩:K01))) (h:tOk (gN s.fSize true) (yN s.fSize true) ctx.length ⟨12,N,ty,ks⟩=true) (hc:∀ q ∈ ctx,TyS s q) (hb:ctx.length + 2 * tsz (⟨12,N,ty,ks⟩:K01) ≤ 1000000):∃ x y,V0j s n ctx ⟨12,N,ty,ks⟩ x y:=by
 obtain ⟨k0,k1,rfl,p0,p1⟩:=nd2 h (Nat.le_refl _) rfl
 have hz:=Kx2 12 N ty k0 k1
 obtain ⟨g,hN,hg⟩:=Kz8 hs (Kza h rfl)
 simp only at hN
 subst hN
 obtain ⟨x0,y0,r0⟩:=ih k0 ctx p0 hc (by omega)
 by_cases f0:x0.ffault=0
 rotate_left
 ·exact V12 (by decide) (by decide) (by decide) hb r0 f0
 obtain ⟨g0,q0,a,na,la,ba⟩:=r0.gd f0
 obtain ⟨c0,t0,ht0,hn0,hz0⟩:=V15 hs g0
 have L0:=Kyw g0
 have e0:Kfx (s,ctx,⟨12,(g:Int),ty,[k0,k1]⟩,0)=some x0:=V0k (i:=0) rfl r0 f0
 have C:=V1m hs g0 ht0
 have i0:idx x0.fty 0=some c0:=by rw [ht0]; rfl
 by_cases z0:(Ksm c0).1=4
 rotate_left
 ·have w0:Ksg c0=false:=by cases h:Ksg c0 with | true=>exact absurd (C.boxB.1 h) z0 | false=>rfl
  refine V0j.bad (f:=7) (p:=[]) ?_ (Kzp (by omega) (V0n (m:=[]) rfl (V0w (by decide)) r0 (by simp; omega) f0 (by rw [ht0,Kzz hs hg,if_neg z0]) (by decide))) (by decide) (by simp; omega)
  rw [Kfv.eq_def]
  simp [e0,f0,i0,Kfw.eq_def,Ksj,w0,Kf5]
 obtain ⟨m,p,hm,h15,hcg,hq,P⟩:=C.box z0
 have w0:Ksg c0=true:=C.boxB.2 z0
 have hle:=sLe hs.tab (Kxc hs) hg
 cases hl:le s n 1 g with
 | false =>
  have hl2:Kbn (s,1,(g:Int))=some false:=by rw [← hl]; exact hle
  refine V0j.bad (f:=8) (p:=[]) ?_ (Kzp (by omega) (V0n (m:=[]) rfl (V0w (by decide)) r0 (by simp; omega) f0 (by rw [ht0,Kzz hs hg,if_pos z0,hl]; rfl) (by decide))) (by decide) (by simp; omega)
  rw [Kfv.eq_def]
  simp [e0,f0,i0,Kfw.eq_def,Ksj,w0,hl2,Kf5]
 | true =>
 have hl2:Kbn (s,1,(g:Int))=some true:=by rw [← hl]; exact hle
 have o0:=V0p (out:=[]) (nd:=[]) (us:=[]) (w:=0) (t:=⟨12,(g:Int),ty,[k0,k1]⟩) (m:=[]) rfl (V0w (by decide)) r0 (by simp; omega) f0 (by rw [ht0,Kzz hs hg,if_pos z0,hl]; rfl) (Kzr (show (12:Int) ≠ 10 by decide)) na (by simp <;> omega) (by simp) (by simp) (by simp) (by simp)
 have hp0:Ker (x0.fty,0)=some p:=by rw [hq,hcg]; exact P.p0
 have ad:Klw (⟨12,(g:Int),ty,[k0,k1]⟩,((1:Nat):Int),y0.fty)=some [p]:=by rw [r0.ty,hq,hcg]; exact V0v P
 have hm':∀ z ∈ [p],TyS s z:=fun z hz=>by simp at hz; rw [hz]; exact P.ya
 have hgr:Keu c0=some (m:Int):=by rw [hcg]; exact V1k m h15
 have m1:Kze ⟨12,(g:Int),ty,[k0,k1]⟩ [y0] 1=some [p]:=V0y (by decide) ad
 have p1':Kz9 s ([p] ++ ctx).length k1 (tsz (⟨12,(g:Int),ty,[k0,k1]⟩:K01)):=by
  have e:([p] ++ ctx).length=ctx.length + Kts 12 1:=by simp [Kts]
  rw [e]; exact p1
 obtain ⟨x1,y1,r1⟩:=ih k1 ([p] ++ ctx) p1' (fun z hz=>by rcases List.mem_append.1 hz with hz | hz; exact hm' z hz; exact hc z hz) (by simp; omega)
 have hwc:=Ky8 ctx [p] (by simp; omega)
 by_cases f1:x1.ffault=0
 rotate_left
 ·have e1:Kfx (s,p :: ctx,⟨12,(g:Int),ty,[k0,k1]⟩,1)=some ⟨[],[],x1.ffault,1 :: x1.fpath⟩:=V0l (i:=1) rfl r1 (by omega) f1
  refine V0j.bad (f:=x1.ffault) (p:=1 :: x1.fpath) ?_ (Kzp (by omega) (o0.trans (V0m (m:=[p]) rfl m1 r1 (by omega) (by simp; omega) f1))) f1 (by have:=r1.pl; simp; omega)
  rw [Kfv.eq_def]
  simp [e0,f0,i0,Kfw.eq_def,Ksj,w0,hl2,hp0,hwc,e1,f1]
 obtain ⟨g1,q1,b,nb,lb,bb⟩:=r1.gd f1
 obtain ⟨c1,t1,ht1,hn1,hz1⟩:=V15 hs g1
 have L1:=Kyw g1
 have e1:Kfx (s,p :: ctx,⟨12,(g:Int),ty,[k0,k1]⟩,1)=some x1:=V0k (i:=1) rfl r1 f1
 have lb':b.length=ctx.length + 1:=by rw [lb]; simp
 obtain ⟨u0,b',rfl⟩:∃ u0 b',b=u0 :: b':=by match b,lb' with | u0 :: b',_=>exact ⟨u0,b',rfl⟩ | [],h=>simp at h
 obtain ⟨hu0,bb'⟩:=Kxm bb
 have o1:=V0p (out:=[y0]) (nd:=[Kx5 a]) (us:=[Kx5 []]) (w:=1) (t:=⟨12,(g:Int),ty,[k0,k1]⟩) (m:=[p]) rfl m1 r1 (by simp; omega) f1 (by rw [ht1]; exact Kzt (.inr (by decide))) (Kzr (show (12:Int) ≠ 10 by decide)) nb (by simp <;> omega) (by simp) (by simp) (by simp) (by simp)
 simp only [List.length_cons,List.length_nil,Nat.zero_add,List.drop_succ_cons,List.drop_zero,List.take_succ_cons,List.take_zero,List.nil_append] at o1
 have hl0:=o0.trans (o1.trans (Kzh (Nat.le_refl _)))
 have lbc:b'.length=ctx.length:=by simp at lb'; omega
 have i1:idx x1.fneeds 0=some (u0:Int):=by rw [nb]; rfl
 have hcut:cut x1.fneeds (some (1:Int)) none none=some (Kx5 b'):=by
  rw [nb]
  have:=Kzj (l:=Kx5 (u0 :: b')) (m:=1) (by simp [Kx5])
  exact this
 have hcp:=Kug (Kx5 b') (by rw [Kx6]; omega)
 have hmul:=Krl hs.tab hg hm
 have htm:=Krg hs.tab hg hm
 have hle0:=sLe hs.tab hu0 htm
 have hf:=V0f (ty:=ty) (ks:=[k0,k1]) (ctx:=ctx) (z:=Kx5 (List.replicate ctx.length 0)) (y0:=y0) (y1:=y1) (us':=Kx5 []) (u:=[u0]) hs hg hm (p:=p) (by rw [r0.ty,hq,hcg]) (fun x hx=>by simp at hx; rw [hx]; exact hu0) (by simp) ba bb' (by omega) (by omega) (by rw [r1.ty]; omega)
 simp only [List.all_cons,List.all_nil,Bool.and_true] at hf
 have es:=e1
 cases hal:(le s n u0 (ti s n g m)) with
 | false =>
  rw [hal,if_neg (by decide)] at hf
  refine V0j.bad (f:=9) (p:=[]) ?_ (Kzq (by omega) hl0 hf) (by decide) (by simp; omega)
  rw [Kfv.eq_def]
  simp [e0,f0,i0,Kfw.eq_def,Ksj,w0,hl2,hp0,hwc,e1,f1,i1,hcut,hcp,hgr,hmul,hle0,hal,Kf5]
 | true =>
  rw [hal,if_pos rfl] at hf
  have im:=V11 (q:=y1.fty) (ns:=Kxi s n (Kxj s n g a) b') (kids:=[y0,y1]) (by rw [r1.ty]; omega) (Kzq (by omega) hl0 hf)
  rw [r1.ty] at im
  have lsc:(Kxj s n g a).length=ctx.length:=by unfold Kxj; rw [List.length_map]; exact la
  have hsc:=Kxp hs hg ba
  have hz0:=Kxs hs hsc
  rw [lsc] at hz0
  have hsum:=Kxu hs g hg (List.replicate ctx.length 0) a (fun x hx=>by rw [List.eq_of_mem_replicate hx]; exact Kxd hs) ba (by simp; omega) (by simp [la])
  rw [hz0] at hsum
  have hs2:=Kxv hs (Kxj s n g a) b' hsc bb' (by omega) (by omega)
  refine V0j.good (q:=x1.fty) (ns:=Kxi s n (Kxj s n g a) b') (kids:=[y0,y1]) ?_ im (by omega) g1 (by unfold Kxi; rw [List.length_zipWith]; omega) (Kxo hs hsc bb') rfl (kd2 (V0i.mk' (V0q (by decide) rfl) r0 f0 (fun _ h=>by cases h) rfl) (V0i.mk' ad r1 f1 hm' rfl))
  rw [Kfv.eq_def]
  simp [e0,f0,i0,Kfw.eq_def,Ksj,w0,hl2,hp0,hwc,e1,f1,i1,hcut,hcp,hgr,hmul,hle0,hal,na,Ky7 ctx.length (by omega),hsum,hs2]
theorem V1q (ih:V10 s n (tsz (⟨8,N,ty,ks⟩:K01))) (h:tOk (gN s.fSize true) (yN s.fSize true) ctx.length ⟨8,N,ty,ks⟩=true) (hc:∀ q ∈ ctx,TyS s q) (hb:ctx.length + 2 * tsz (⟨8,N,ty,ks⟩:K01) ≤ 1000000):∃ x y,V0j s n ctx ⟨8,N,ty,ks⟩ x y:=by
 obtain ⟨k0,k1,k2,rfl,p0,p1,p2⟩:=nd3 h (Nat.le_refl _) rfl
 have hz:=Kx3 8 N ty k0 k1 k2
 obtain ⟨g,hN,hg⟩:=Kz8 hs (Kza h rfl)
 simp only at hN
 subst hN
 obtain ⟨x0,y0,r0⟩:=ih k0 ctx p0 hc (by omega)
 by_cases f0:x0.ffault=0
 rotate_left
 ·exact V12 (by decide) (by decide) (by decide) hb r0 f0
 obtain ⟨g0,q0,a,na,la,ba⟩:=r0.gd f0
 obtain ⟨c0,t0,ht0,hn0,hz0⟩:=V15 hs g0
 have L0:=Kyw g0
 have e0:Kfx (s,ctx,⟨8,(g:Int),ty,[k0,k1,k2]⟩,0)=some x0:=V0k (i:=0) rfl r0 f0
 have C:=V1m hs g0 ht0
 have i0:idx x0.fty 0=some c0:=by rw [ht0]; rfl
 by_cases z0:(Ksm c0).1=2
 rotate_left
 ·have w0:c0 ≠ 2:=fun h=>z0 (C.two.1 h)
  refine V0j.bad (f:=5) (p:=[]) ?_ (Kzp (by omega) (V0n (m:=[]) rfl (V0w (by decide)) r0 (by simp; omega) f0 (by rw [ht0,Kzy hs hg,if_neg z0]) (by decide))) (by decide) (by simp; omega)
  rw [Kfv.eq_def]
  simp [e0,f0,i0,Kfw.eq_def,w0,Kf5]
 obtain ⟨p,q,hcg,hq,P⟩:=C.sum z0
 have hle:=sLe hs.tab (Kxc hs) hg
 cases hl:le s n 1 g with
 | false =>
  have hl2:Kbn (s,1,(g:Int))=some false:=by rw [← hl]; exact hle
  refine V0j.bad (f:=8) (p:=[]) ?_ (Kzp (by omega) (V0n (m:=[]) rfl (V0w (by decide)) r0 (by simp; omega) f0 (by rw [ht0,Kzy hs hg,if_pos z0,hl]; rfl) (by decide))) (by decide) (by simp; omega)
  rw [Kfv.eq_def]
  simp [e0,f0,i0,Kfw.eq_def,hcg,hl2,Kf5]
 | true =>
 have hl2:Kbn (s,1,(g:Int))=some true:=by rw [← hl]; exact hle
 have o0:=V0p (out:=[]) (nd:=[]) (us:=[]) (w:=0) (t:=⟨8,(g:Int),ty,[k0,k1,k2]⟩) (m:=[]) rfl (V0w (by decide)) r0 (by simp; omega) f0 (by rw [ht0,Kzy hs hg,if_pos z0,hl]; rfl) (Kzr (show (8:Int) ≠ 10 by decide)) na (by simp <;> omega) (by simp) (by simp) (by simp) (by simp)
 have hp0:Ker (x0.fty,0)=some p:=by rw [hq,hcg]; exact P.p0
 have hp1:Ker (x0.fty,1)=some q:=by rw [hq,hcg]; exact P.p1
 have ad1:Klw (⟨8,(g:Int),ty,[k0,k1,k2]⟩,((1:Nat):Int),y0.fty)=some [p]:=by rw [r0.ty,hq,hcg]; exact V0t P
 have ad2:Klw (⟨8,(g:Int),ty,[k0,k1,k2]⟩,((2:Nat):Int),y0.fty)=some [q]:=by rw [r0.ty,hq,hcg]; exact V0u P
 have hm1:∀ z ∈ [p],TyS s z:=fun z hz=>by simp at hz; rw [hz]; exact P.ya
 have hm2:∀ z ∈ [q],TyS s z:=fun z hz=>by simp at hz; rw [hz]; exact P.yb
 have m1:Kze ⟨8,(g:Int),ty,[k0,k1,k2]⟩ [y0] 1=some [p]:=V0y (by decide) ad1
 have p1':Kz9 s ([p] ++ ctx).length k1 (tsz (⟨8,(g:Int),ty,[k0,k1,k2]⟩:K01)):=by
  have e:([p] ++ ctx).length=ctx.length + Kts 8 1:=by simp [Kts]
  rw [e]; exact p1
 obtain ⟨x1,y1,r1⟩:=ih k1 ([p] ++ ctx) p1' (fun z hz=>by rcases List.mem_append.1 hz with hz | hz; exact hm1 z hz; exact hc z hz) (by simp; omega)
 have hw1:=Ky8 ctx [p] (by simp; omega)
 by_cases f1:x1.ffault=0
 rotate_left
 ·have e1:Kfx (s,p :: ctx,⟨8,(g:Int),ty,[k0,k1,k2]⟩,1)=some ⟨[],[],x1.ffault,1 :: x1.fpath⟩:=V0l (i:=1) rfl r1 (by omega) f1
  refine V0j.bad (f:=x1.ffault) (p:=1 :: x1.fpath) ?_ (Kzp (by omega) (o0.trans (V0m (m:=[p]) rfl m1 r1 (by omega) (by simp; omega) f1))) f1 (by have:=r1.pl; simp; omega)
  rw [Kfv.eq_def]
  simp [e0,f0,i0,Kfw.eq_def,hcg,hl2,hp0,hp1,hw1,e1,f1]
 obtain ⟨g1,q1,b,nb,lb,bb⟩:=r1.gd f1
 obtain ⟨c1,t1,ht1,hn1,hz1⟩:=V15 hs g1
 have L1:=Kyw g1
 have e1:Kfx (s,p :: ctx,⟨8,(g:Int),ty,[k0,k1,k2]⟩,1)=some x1:=V0k (i:=1) rfl r1 f1
 have lb':b.length=ctx.length + 1:=by rw [lb]; simp
 obtain ⟨u0,b',rfl⟩:∃ u0 b',b=u0 :: b':=by match b,lb' with | u0 :: b',_=>exact ⟨u0,b',rfl⟩ | [],h=>simp at h
 obtain ⟨hu0,bb'⟩:=Kxm bb
 have lbc:b'.length=ctx.length:=by simp at lb'; omega
 have i1:idx x1.fneeds 0=some (u0:Int):=by rw [nb]; rfl
 have hcut1:cut x1.fneeds (some (1:Int)) none none=some (Kx5 b'):=by rw [nb]; exact Kw9 _ _
 have hcp1:=Kug (Kx5 b') (by rw [Kx6]; omega)
 have o1:=V0p (out:=[y0]) (nd:=[Kx5 a]) (us:=[Kx5 []]) (w:=1) (t:=⟨8,(g:Int),ty,[k0,k1,k2]⟩) (m:=[p]) rfl m1 r1 (by simp; omega) f1 (by rw [ht1]; exact Kzt (.inr (by decide))) (Kzr (show (8:Int) ≠ 10 by decide)) nb (by simp <;> omega) (by simp) (by simp) (by simp) (by simp)
 simp only [List.length_cons,List.length_nil,Nat.zero_add,List.drop_succ_cons,List.drop_zero,List.take_succ_cons,List.take_zero,List.nil_append,List.cons_append] at o1
 have m2:Kze ⟨8,(g:Int),ty,[k0,k1,k2]⟩ [y0,y1] 2=some [q]:=V0y (by decide) ad2
 have p2':Kz9 s ([q] ++ ctx).length k2 (tsz (⟨8,(g:Int),ty,[k0,k1,k2]⟩:K01)):=by
  have e:([q] ++ ctx).length=ctx.length + Kts 8 2:=by simp [Kts]
  rw [e]; exact p2
 obtain ⟨x2,y2,r2⟩:=ih k2 ([q] ++ ctx) p2' (fun z hz=>by rcases List.mem_append.1 hz with hz | hz; exact hm2 z hz; exact hc z hz) (by simp; omega)
 have hw2:=Ky8 ctx [q] (by simp; omega)
 by_cases f2:x2.ffault=0
 rotate_left
 ·have e2:Kfx (s,q :: ctx,⟨8,(g:Int),ty,[k0,k1,k2]⟩,2)=some ⟨[],[],x2.ffault,2 :: x2.fpath⟩:=V0l (i:=2) rfl r2 (by omega) f2
  refine V0j.bad (f:=x2.ffault) (p:=2 :: x2.fpath) ?_ (Kzp (by omega) (o0.trans (o1.trans (V0m (m:=[q]) rfl m2 r2 (by omega) (by simp; omega) f2)))) f2 (by have:=r2.pl; simp; omega)
  rw [Kfv.eq_def]
  simp [e0,f0,i0,Kfw.eq_def,hcg,hl2,hp0,hp1,hw1,e1,f1,hcut1,hcp1,hw2,e2,f2]
 obtain ⟨g2,q2,d,nd,ld,bd⟩:=r2.gd f2
 obtain ⟨c2,t2,ht2,hn2,hz2⟩:=V15 hs g2
 have L2:=Kyw g2
 have e2:Kfx (s,q :: ctx,⟨8,(g:Int),ty,[k0,k1,k2]⟩,2)=some x2:=V0k (i:=2) rfl r2 f2
 have ld':d.length=ctx.length + 1:=by rw [ld]; simp
 obtain ⟨v0,d',rfl⟩:∃ v0 d',d=v0 :: d':=by match d,ld' with | v0 :: d',_=>exact ⟨v0,d',rfl⟩ | [],h=>simp at h
 obtain ⟨hv0,bd'⟩:=Kxm bd
 have ldc:d'.length=ctx.length:=by simp at ld'; omega
 have i2:idx x2.fneeds 0=some (v0:Int):=by rw [nd]; rfl
 have hcut2:cut x2.fneeds (some (1:Int)) none none=some (Kx5 d'):=by rw [nd]; exact Kw9 _ _
 have o2:=V0p (out:=[y0,y1]) (nd:=[Kx5 a,Kx5 b']) (us:=[Kx5 [],Kx5 [u0]]) (w:=2) (t:=⟨8,(g:Int),ty,[k0,k1,k2]⟩) (m:=[q]) rfl m2 r2 (by simp; omega) f2 (by rw [ht2]; exact Kzt (.inr (by decide))) (Kzr (show (8:Int) ≠ 10 by decide)) nd (by simp <;> omega) (by simp) (by simp) (by simp) (by simp)
 simp only [List.length_cons,List.length_nil,Nat.zero_add,List.drop_succ_cons,List.drop_zero,List.take_succ_cons,List.take_zero,List.nil_append,List.cons_append] at o2
 have hl0:=o0.trans (o1.trans (o2.trans (Kzh (Nat.le_refl _))))
 have hle0:=sLe hs.tab hu0 hg
 have hle1:=sLe hs.tab hv0 hg
 have hf:=V0g (ty:=ty) (ks:=[k0,k1,k2]) (ctx:=ctx) (z:=Kx5 (List.replicate ctx.length 0)) (y0:=y0) (y1:=y1) (y2:=y2) (us':=Kx5 []) (u:=[u0]) (v:=[v0]) hs hg (fun x hx=>by simp at hx; rw [hx]; exact hu0) (by simp) (fun x hx=>by simp at hx; rw [hx]; exact hv0) (by simp) ba bb' bd' (by omega) (by omega) (by omega) (by rw [r2.ty]; omega) (by rw [r1.ty]; omega)
 simp only [List.all_cons,List.all_nil,Bool.and_true] at hf
 rw [r1.ty,r2.ty] at hf
 have hsm:=Kwh x1.fty x2.fty (by omega)
 have hj:=Kxx hs b' d' bb' bd' (by omega) (by omega)
 have lj:(Kxk s n b' d').length=ctx.length:=by unfold Kxk; rw [List.length_zipWith]; omega
 by_cases hqq:x1.fty=x2.fty
 rotate_left
 ·rw [if_neg hqq] at hf
  rw [show (x1.fty == x2.fty)=false from beq_eq_false_iff_ne.2 hqq] at hsm
  refine V0j.bad (f:=3) (p:=[]) ?_ (Kzq (by omega) hl0 hf) (by decide) (by simp; omega)
  rw [Kfv.eq_def]
  simp [e0,f0,i0,Kfw.eq_def,hcg,hl2,hp0,hp1,hw1,e1,f1,hcut1,hcp1,hw2,e2,f2,hsm,Kf5]
 rw [if_pos hqq] at hf
 rw [show (x1.fty == x2.fty)=true from beq_iff_eq.2 hqq] at hsm
 by_cases hal:le s n u0 g=true∧le s n v0 g=true
 rotate_left
 ·rw [if_neg hal] at hf
  refine V0j.bad (f:=9) (p:=[]) ?_ (Kzq (by omega) hl0 hf) (by decide) (by simp; omega)
  rw [Kfv.eq_def]
  simp [e0,f0,i0,Kfw.eq_def,hcg,hl2,hp0,hp1,hw1,e1,f1,hcut1,hcp1,hw2,e2,f2,hsm,i1,i2,hle0,hle1,hcut2,hj,Kf5]
  cases q1:le s n v0 g with
  | false=>simp
  | true =>
   cases q2:le s n u0 g with
   | false=>simp
   | true=>exact absurd ⟨q2,q1⟩ hal
 rw [if_pos hal] at hf
 have im:=V11 (q:=x1.fty) (ns:=Kxi s n (Kxj s n g a) (Kxk s n b' d')) (kids:=[y0,y1,y2]) (by omega) (Kzq (by omega) hl0 hf)
 have lsc:(Kxj s n g a).length=ctx.length:=by unfold Kxj; rw [List.length_map]; exact la
 have hsc:=Kxp hs hg ba
 have hz0:=Kxs hs hsc
 rw [lsc] at hz0
 have hsum:=Kxu hs g hg (List.replicate ctx.length 0) a (fun x hx=>by rw [List.eq_of_mem_replicate hx]; exact Kxd hs) ba (by simp; omega) (by simp [la])
 rw [hz0] at hsum
 have hs2:=Kxv hs (Kxj s n g a) (Kxk s n b' d') hsc (Kxq hs bb' bd') (by omega) (by omega)
 refine V0j.good (q:=x1.fty) (ns:=Kxi s n (Kxj s n g a) (Kxk s n b' d')) (kids:=[y0,y1,y2]) ?_ im (by omega) g1 (by unfold Kxi; rw [List.length_zipWith]; omega) (Kxo hs hsc (Kxq hs bb' bd')) rfl (kd3 (V0i.mk' (V0q (by decide) rfl) r0 f0 (fun _ h=>by cases h) rfl) (V0i.mk' ad1 r1 f1 hm1 rfl) (V0i.mk' ad2 r2 f2 hm2 rfl))
 rw [Kfv.eq_def]
 simp [e0,f0,i0,Kfw.eq_def,hcg,hl2,hp0,hp1,hw1,e1,f1,hcut1,hcp1,hw2,e2,f2,hsm,i1,i2,hle0,hle1,hal.1,hal.2,hcut2,hj,na,Ky7 ctx.length (by omega),hsum,hs2]
theorem V1r:∀ (m:Nat) (t:K01) (ctx:List (List Int)),tsz t ≤ m→tOk (gN s.fSize true) (yN s.fSize true) ctx.length t=true→(∀ q ∈ ctx,TyS s q)→ctx.length + 2 * tsz t ≤ 1000000→∃ x y,V0j s n ctx t x y
 | 0,t,ctx,hm,_,_,_=>by obtain ⟨op,N,ty,ks⟩:=t; rw [tsz] at hm; omega
 | m + 1,t,ctx,hm,h,hc,hb=>by
  have ih:V10 s n (tsz t):=fun k c hk hc hb=>V1r m k c (by have:=hk.sz; omega) hk.ok hc hb
  obtain ⟨op,N,ty,ks⟩:=t
  have hop:=(Kuf (Kuc h).1).1
  simp only at hop
  rcases Ktm hop with rfl | rfl | rfl | rfl | rfl | rfl | rfl | rfl | rfl | rfl | rfl | rfl | rfl
  ·exact V13 hs rfl h hc hb
  ·exact V14 hs rfl h hb
  ·exact V1b hs ih h hc hb
  ·exact V1c hs ih h hc hb
  ·exact V1a hs ih h hc hb
  ·exact V1o hs ih h hc hb
  ·exact V16 hs ih h hc hb
  ·exact V17 hs ih h hc hb
  ·exact V1q hs ih h hc hb
  ·exact V19 hs ih h hc hb
  ·exact V1n hs ih h hc hb
  ·exact V18 hs ih h hc hb
  ·exact V1p hs ih h hc hb
end
theorem V1s {l:List (List Int)} {v:List Int} (h:v ∈ l):v.length ≤ lms l:=by
 have:=Kw7 h
 unfold lms; omega
theorem V1t {s:K00} {ctx:List (List Int)} {t:K01} (h:Kyt s ctx t=true):Kxa s s.fSize.toNat∧ctx.length ≤ 8∧(∀ q ∈ ctx,TyS s q)∧tsz t ≤ 400∧tOk (gN s.fSize true) (yN s.fSize true) ctx.length t=true:=by
 unfold Kyt Kyj Kwq at h
 simp only [Bool.and_eq_true,decide_eq_true_eq,List.all_eq_true] at h
 exact ⟨Kxb h.1.1,h.1.2.1,fun q hq=>h.1.2.2 q hq,h.2.1.2,h.2.2⟩
theorem V1u {s:K00} {ctx:List (List Int)} {t:K01} (h:Kyt s ctx t=true):∃ x y,V0j s s.fSize.toNat ctx t x y:=by
 obtain ⟨h1,h2,h3,h4,h5⟩:=V1t h
 exact V1r h1 (tsz t) t ctx (Nat.le_refl _) h5 h3 (by omega)
theorem V1v {s:K00} {ctx:List (List Int)} {t:K01} (hc:lms ctx ≤ 1048576) (ht:tms t ≤ 1099511627776) :
  (Kyt s ctx t=false∧Kr3 (s,ctx,t)=some false∧Kpb (s,ctx,t)=some none) ∨
  (Kyt s ctx t=true∧Kr3 (s,ctx,t)=some true∧∃ x y,V0j s s.fSize.toNat ctx t x y∧Kpb (s,ctx,t)=some (some y)):=by
 have hl:∀ ty ∈ ctx,ty.length ≤ 1099511627776:=fun ty h=>by have:=V1s h; omega
 have hc':ctx.length ≤ 1048576:=by unfold lms at hc; omega
 have h1:=Kyu s ctx t hc' hl ht
 have h2:=Kyv s ctx t hc' hl ht
 cases h:Kyt s ctx t with
 | false=>rw [h] at h1 h2; exact .inl ⟨rfl,h1,by simpa using h2⟩
 | true =>
  rw [h] at h1 h2
  obtain ⟨x,y,r⟩:=V1u h
  refine .inr ⟨rfl,h1,x,y,r,?_⟩
  rw [if_pos rfl,r.im,bs] at h2
  exact h2
theorem V1w (s:K00) (ctx:List (List Int)) (t:K01) (hc:lms ctx ≤ 1048576) (ht:tms t ≤ 1099511627776) :
  (Kr4 (s,ctx,t)=some ([],[],false)∧Kpe (s,ctx,t)=some ([],[],false)∧(Kyt s ctx t=false∨∃ x y,V0j s s.fSize.toNat ctx t x y∧x.ffault ≠ 0)) ∨
  ∃ x y,V0j s s.fSize.toNat ctx t x y∧x.ffault=0∧Kyt s ctx t=true∧Kr4 (s,ctx,t)=some (x.fty,x.fneeds,true)∧Kpe (s,ctx,t)=some (x.fty,x.fneeds,true)∧Kpb (s,ctx,t)=some (some y):=by
 unfold Kr4 Kpe
 simp only
 rcases V1v (s:=s) hc ht with ⟨h0,h1,h2⟩ | ⟨h0,h1,x,y,r,h2⟩
 ·rw [h1,h2]
  exact .inl ⟨rfl,rfl,.inl h0⟩
 ·rw [h1,h2,bs,bs,if_pos rfl,r.sp,bs]
  by_cases hf:x.ffault=0
  ·obtain ⟨g,_,ns,hn,hl,_⟩:=r.gd hf
   have:=Kyw g
   obtain ⟨_,h8,_⟩:=V1t h0
   refine .inr ⟨x,y,r,hf,h0,by rw [if_neg (by simp [hf])],?_,rfl⟩
   simp only
   rw [if_neg (by rw [r.fa]; simp [hf]),r.ty,Kuh x.fty (by omega),bs,r.ne,Kuh x.fneeds (by rw [hn,Kx6]; omega),bs]
  ·refine .inl ⟨by rw [if_pos (bne_iff_ne.2 hf)],?_,.inr ⟨x,y,r,hf⟩⟩
   simp only
   rw [if_pos (by rw [r.fa]; exact bne_iff_ne.2 hf)]
end Go.Am
