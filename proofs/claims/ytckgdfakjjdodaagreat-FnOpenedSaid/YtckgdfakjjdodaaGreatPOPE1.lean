/- Plain laws of the printed functions. -/
import Derived.Test.YtckgdfakjjdodaaGreatPOPE0
set_option linter.unusedSimpArgs false
set_option linter.unusedVariables false
namespace Go.Am
def TyS (s:K02) (ty:List Int):Prop:=yN s.fSize true ty=true
theorem Kua {s:K02} {ty:List Int} (h:TyS s ty):ty.length ≤ 40:=by
 unfold TyS yN at h
 rw [Bool.and_eq_true] at h
 exact Kpl h.1
theorem Kub {s:K02} {ty:List Int} (h:TyS s ty):∃ T:Ty,T.ok∧ty=T.code∧T.code.length ≤ 40∧T.code.all (Ko9 s.fSize true)=true:=by
 have hl:=Kua h
 unfold TyS yN at h
 rw [Bool.and_eq_true] at h
 obtain ⟨T,h1,rfl,_⟩:=Kqi h.1
 exact ⟨T,h1,rfl,hl,h.2⟩
theorem Kuc {s:K02} {T:Ty} (h:T.ok) (hl:T.code.length ≤ 40) (hc:T.code.all (Ko9 s.fSize true)=true):TyS s T.code:=by
 unfold TyS yN
 rw [Kqj h hl,hc]; rfl
structure Kud (s:K02) (c:Int) (a b:List Int):Prop where
 ya:TyS s a
 yb:TyS s b
 p0:Kck (c :: (a ++ b),0)=some a
 p1:Kck (c :: (a ++ b),1)=some b
 pp:Klj (c :: (a ++ b))=some [a,b]
structure Kue (s:K02) (c:Int) (a:List Int):Prop where
 ya:TyS s a
 p0:Kck (c :: a,0)=some a
 pp:Klj (c :: a)=some [a]
theorem Kuf {s:K02} {c:Int} (hc:c=35∨c=36):Ko9 s.fSize true c=false:=by
 rcases hc with rfl | rfl
 ·unfold Ko9 Ko8
  rw [show Knn 35=2 from rfl]; simp
 ·unfold Ko9 Ko8
  rw [show Knn 36=1 from rfl]; simp
theorem Kug {s:K02}:TyS s [0]:=Kuc (T:=.num) trivial (by decide) (by
 show (Ko9 s.fSize true 0 && true)=true
 unfold Ko9
 rw [show Knn 0=0 from rfl]; simp)
section
variable {s:K02} {n:Nat} (hs:Kt1 s n)
include hs
theorem Kuh {c:Int} (hc:3 ≤ c∧c ≤ 18):Ko9 s.fSize true c=true ↔ c - 3 < (n:Int):=by
 have hk:Knn c=2:=by rcases Knr c with h | h | h | h <;> omega
 unfold Ko9 Ko8
 rw [hk,hs.tab.size,if_neg (by omega),if_neg (by omega)]
 simp
 omega
theorem Kui {c:Int} (hc:19 ≤ c∧c ≤ 34):Ko9 s.fSize true c=true ↔ c - 19 < (n:Int):=by
 have hk:Knn c=1:=by rcases Knr c with h | h | h | h <;> omega
 unfold Ko9 Ko8
 rw [hk,hs.tab.size,if_neg (by omega),if_pos (by omega)]
 simp
 omega
theorem Kuj {ty:List Int} (h:TyS s ty):ty=[0]∨(∃ a b,ty=1 :: (a ++ b)∧Kud s 1 a b)∨(∃ a b,ty=2 :: (a ++ b)∧Kud s 2 a b) ∨
  (∃ (g:Nat) (a b:List Int),g < n∧g ≤ 15∧ty=(3 + (g:Int)) :: (a ++ b)∧Kud s (3 + (g:Int)) a b)∨(∃ (g:Nat) (a:List Int),g < n∧g ≤ 15∧ty=(19 + (g:Int)) :: a∧Kue s (19 + (g:Int)) a):=by
 obtain ⟨T,hT,rfl,hl,hc⟩:=Kub h
 cases T with
 | num=>exact .inl rfl
 | bin c a b =>
  have B:=Krw hT (by omega)
  have hl':=hl
  rw [Ty.code,List.length_cons,List.length_append] at hl'
  rw [Ty.code,List.all_cons,List.all_append,Bool.and_eq_true,Bool.and_eq_true] at hc
  have hP:Kud s c a.code b.code:=⟨Kuc B.ok.1 (by omega) hc.2.1,Kuc B.ok.2 (by omega) hc.2.2,B.p0,B.p1,B.pp⟩
  have hk:=hT.1
  rcases Knr c with ⟨q,e⟩ | ⟨q,e⟩ | ⟨q,e⟩ | ⟨q,e⟩
  ·rw [e] at hk; exact absurd hk (by decide)
  ·rcases q with rfl | rfl | q | rfl
   ·exact .inr (.inl ⟨_,_,rfl,hP⟩)
   ·exact .inr (.inr (.inl ⟨_,_,rfl,hP⟩))
   ·have:=(Kuh hs q).1 hc.1
    obtain ⟨g,hg⟩:∃ g:Nat,c=3 + (g:Int):=⟨(c - 3).toNat,by omega⟩
    subst hg
    exact .inr (.inr (.inr (.inl ⟨g,_,_,by omega,by omega,rfl,hP⟩)))
   ·rw [Kuf (s:=s) (.inl rfl)] at hc; exact absurd hc.1 (by decide)
  ·rw [e] at hk; exact absurd hk (by decide)
  ·rw [e] at hk; exact absurd hk (by decide)
 | un c a =>
  have B:=unP hT (by omega)
  have hl':=hl
  rw [Ty.code,List.length_cons] at hl'
  rw [Ty.code,List.all_cons,Bool.and_eq_true] at hc
  have hP:Kue s c a.code:=⟨Kuc B.ok (by omega) hc.2,B.p0,B.pp⟩
  have hk:=hT.1
  rcases Knr c with ⟨q,e⟩ | ⟨q,e⟩ | ⟨q,e⟩ | ⟨q,e⟩
  ·rw [e] at hk; exact absurd hk (by decide)
  ·rw [e] at hk; exact absurd hk (by decide)
  ·rcases q with q | rfl
   ·have:=(Kui hs q).1 hc.1
    obtain ⟨g,hg⟩:∃ g:Nat,c=19 + (g:Int):=⟨(c - 19).toNat,by omega⟩
    subst hg
    exact .inr (.inr (.inr (.inr ⟨g,_,by omega,by omega,rfl,hP⟩)))
   ·rw [Kuf (s:=s) (.inr rfl)] at hc; exact absurd hc.1 (by decide)
  ·rw [e] at hk; exact absurd hk (by decide)
theorem Kuk {c:Int} {a b:List Int} (ha:TyS s a) (hb:TyS s b) (hc:c=1∨c=2∨∃ g:Nat,g < n∧c=3 + (g:Int)) (hl:(c :: (a ++ b)).length ≤ 40):TyS s (c :: (a ++ b)):=by
 obtain ⟨A,hA,rfl,_,hAc⟩:=Kub ha
 obtain ⟨B,hB,rfl,_,hBc⟩:=Kub hb
 have hn:=hs.tab.hi
 have hk:Knn c=2∧Ko9 s.fSize true c=true:=by
  rcases hc with rfl | rfl | ⟨g,hg,rfl⟩
  ·exact ⟨rfl,by unfold Ko9; rw [show Knn 1=2 from rfl]; simp⟩
  ·exact ⟨rfl,by unfold Ko9; rw [show Knn 2=2 from rfl]; simp⟩
  ·refine ⟨by rcases Knr (3 + (g:Int)) with h | h | h | h <;> omega,(Kuh hs (by omega)).2 (by omega)⟩
 have:TyS s (Ty.bin c A B).code:=Kuc ⟨hk.1,hA,hB⟩ hl (by rw [Ty.code,List.all_cons,List.all_append,hk.2,hAc,hBc]; rfl)
 exact this
theorem Kul {g:Nat} (hg:g < n) {a:List Int} (ha:TyS s a) (hl:((19 + (g:Int)) :: a).length ≤ 40):TyS s ((19 + (g:Int)) :: a):=by
 obtain ⟨A,hA,rfl,_,hAc⟩:=Kub ha
 have hn:=hs.tab.hi
 have hk:Knn (19 + (g:Int))=1:=by rcases Knr (19 + (g:Int)) with h | h | h | h <;> omega
 have:TyS s (Ty.un (19 + (g:Int)) A).code:=Kuc ⟨hk,hA⟩ hl (by rw [Ty.code,List.all_cons,(Kui hs (by omega)).2 (by omega),hAc]; rfl)
 exact this
theorem Kum {x:Int} (h:gN s.fSize true x=true):∃ g:Nat,x=(g:Int)∧g < n:=by
 unfold gN at h
 rw [hs.tab.size] at h
 simp at h
 exact ⟨x.toNat,by omega,by omega⟩
end
structure Kun (s:K02) (n:Nat) (k:K00) (m:Nat):Prop where
 ok:tOk (gN s.fSize true) (yN s.fSize true) n k=true
 sz:tsz k + 1 ≤ m
theorem nd1 {s:K02} {n m:Nat} {op N:Int} {ty:List Int} {ks:List K00} (h:tOk (gN s.fSize true) (yN s.fSize true) n ⟨op,N,ty,ks⟩=true) (hm:tsz ⟨op,N,ty,ks⟩ ≤ m) (hk:Kop op=1):∃ a,ks=[a]∧Kun s (n + Koz op 0) a m:=by
 obtain ⟨h1,h2⟩:=Kpt h
 obtain ⟨a,rfl⟩:=Ks7 (l:=ks) (beq_iff_eq.2 (by rw [← hk]; exact (Kpy h1).2))
 simp only at h2
 rw [Ks5,Bool.and_eq_true] at h2
 rw [Ksp] at hm
 exact ⟨a,rfl,h2.1,by omega⟩
theorem nd2 {s:K02} {n m:Nat} {op N:Int} {ty:List Int} {ks:List K00} (h:tOk (gN s.fSize true) (yN s.fSize true) n ⟨op,N,ty,ks⟩=true) (hm:tsz ⟨op,N,ty,ks⟩ ≤ m) (hk:Kop op=2):∃ a b,ks=[a,b]∧Kun s (n + Koz op 0) a m∧Kun s (n + Koz op 1) b m:=by
 obtain ⟨h1,h2⟩:=Kpt h
 obtain ⟨a,b,rfl⟩:=Ks8 (l:=ks) (beq_iff_eq.2 (by rw [← hk]; exact (Kpy h1).2))
 simp only at h2
 rw [Ks5,Ks5,Bool.and_eq_true,Bool.and_eq_true] at h2
 rw [Ksq] at hm
 exact ⟨a,b,rfl,⟨h2.1,by omega⟩,⟨h2.2.1,by omega⟩⟩
theorem nd3 {s:K02} {n m:Nat} {op N:Int} {ty:List Int} {ks:List K00} (h:tOk (gN s.fSize true) (yN s.fSize true) n ⟨op,N,ty,ks⟩=true) (hm:tsz ⟨op,N,ty,ks⟩ ≤ m) (hk:Kop op=3):∃ a b c,ks=[a,b,c]∧Kun s (n + Koz op 0) a m∧Kun s (n + Koz op 1) b m∧Kun s (n + Koz op 2) c m:=by
 obtain ⟨h1,h2⟩:=Kpt h
 obtain ⟨a,b,c,rfl⟩:=Kss (l:=ks) (by rw [← hk]; exact (Kpy h1).2)
 simp only at h2
 rw [Ks5,Ks5,Ks5,Bool.and_eq_true,Bool.and_eq_true,Bool.and_eq_true] at h2
 rw [Ksr] at hm
 exact ⟨a,b,c,rfl,⟨h2.1,by omega⟩,⟨h2.2.1,by omega⟩,⟨h2.2.2.1,by omega⟩⟩
theorem Kuo {s:K02} {n:Nat} {t:K00} (h:tOk (gN s.fSize true) (yN s.fSize true) n t=true) (hg:Koq t.fOp=true):gN s.fSize true t.fN=true:=by
 have h1:=(Kpt h).1
 unfold Kp5 Kp3 at h1
 simp only [Bool.and_eq_true] at h1
 have h2:=h1.1.2
 have hop:(t.fOp == 0)=false∧(t.fOp == 1)=false:=by
  simp only [Koq,Bool.or_eq_true,beq_iff_eq] at hg
  constructor <;> rw [beq_eq_false_iff_ne] <;> omega
 rw [hop.1,hop.2,hg] at h2
 simpa using h2
theorem Kup {s:K02} {n:Nat} {t:K00} (h:tOk (gN s.fSize true) (yN s.fSize true) n t=true) (hg:Kor t.fOp=true):TyS s t.fType:=by
 have h1:=(Kpt h).1
 unfold Kp5 Kp4 at h1
 simp only [Bool.and_eq_true] at h1
 have h2:=h1.2
 rw [hg] at h2
 show yN s.fSize true t.fType=true
 simpa using h2
theorem Kuq {s:K02} {n:Nat} {t:K00} (h:tOk (gN s.fSize true) (yN s.fSize true) n t=true) (hg:t.fOp=0):∃ i:Nat,t.fN=(i:Int)∧i < n∧t.fKids=[]:=by
 have h1:=(Kpt h).1
 have hl:=(Kpy h1).2
 unfold Kp5 Kp3 at h1
 simp only [Bool.and_eq_true] at h1
 have h2:=h1.1.2
 rw [hg] at h2 hl
 simp [inB] at h2
 refine ⟨t.fN.toNat,by omega,by omega,?_⟩
 have:(t.fKids.length:Int)=0:=hl
 exact List.eq_nil_of_length_eq_zero (by omega)
theorem Kur {s:K02} {n:Nat} {t:K00} (h:tOk (gN s.fSize true) (yN s.fSize true) n t=true) (hg:t.fOp=1):t.fKids=[]:=by
 have h1:=(Kpt h).1
 have hl:=(Kpy h1).2
 rw [hg] at hl
 have:(t.fKids.length:Int)=0:=hl
 exact List.eq_nil_of_length_eq_zero (by omega)
def Kus (t:K00) (out:List Klo) (w:Nat):Option (List (List Int)) :=
 (if (decide ((w:Int) > 0))=true then some (true) else some ((t.fOp == 9))) >>= fun v =>
 if v=true then
  (if (decide ((w:Int) > 0))=true then (idx out 0) >>= fun e=>some (e.fty) else some ([])) >>= fun first=>(Klq (t,(w:Int),first)) >>= fun r=>some (r)
 else some ([])
def Kut (p0:Klp) (ctx:List (List Int)) (t:K00) (out:List Klo) (needs used:List (List Int)) (w:Nat) (more:List (List Int)) (y:Klo):Option (((List Klo) × (List (List Int)) × (List (List Int))) ⊕ (Klo)) :=
 if (y.ffault != 0)=true then
  (Qdw ([(w:Int)].length + y.fpath.length) 8) >>= fun _=>some (.inr (Klo.mk [] [] [] y.ffault ([(w:Int)] ++ y.fpath)))
 else
  (Klv (p0,t,(w:Int),y.fty)) >>= fun f =>
  if (f != 0)=true then some (.inr (Klo.mk [] [] [] f []))
  else
   (if (t.fOp == 10)=true then
    if ((w:Int) == 1)=true then
     (idx out 0) >>= fun e=>(Klj e.fty) >>= fun r=>(idx r 0) >>= fun q=>(Kjm (y.fty,q)) >>= fun b=>some ((!b))
    else some (false)
   else some (false)) >>= fun v =>
   if v=true then some (.inr (Klo.mk [] [] [] 3 []))
   else
    (Qdw (out.length + [y].length) 8) >>= fun _ =>
    (cut y.fneeds none (some (more.length:Int)) none) >>= fun c1 =>
    (Qdw (used.length + [c1].length) 24) >>= fun _ =>
    (cut y.fneeds (some (more.length:Int)) none none) >>= fun c2 =>
    (Qdw (needs.length + [c2].length) 24) >>= fun _ =>
    Kmh (p0,ctx,t,(out ++ [y]),(needs ++ [c2]),(used ++ [c1]),(wr ((w:Int) + 1)))
theorem Kuu {p0:Klp} {ctx:List (List Int)} {t:K00} {out:List Klo} {needs used:List (List Int)} {w:Nat} {k:K00} {more:List (List Int)} {y:Klo} (hw:w < t.fKids.length) (hk:idx t.fKids (w:Int)=some k) (hm:Kus t out w=some more)
  (hc:ctx.length + more.length ≤ 1000000) (hy:Kmg (p0,more ++ ctx,k)=some y):Kmh (p0,ctx,t,out,needs,used,(w:Int))=Kut p0 ctx t out needs used w more y:=by
 rw [Kmh.eq_def]
 simp only
 rw [Kml hw,if_pos rfl,hk,bs]
 have key:∀ {β:Type} (R:List (List Int)→Option β),((if (decide ((w:Int) > 0))=true then some (true) else some ((t.fOp == 9))) >>= fun v =>
   (if v=true then (if (decide ((w:Int) > 0))=true then (idx out 0) >>= fun e=>some (e.fty) else some ([])) >>= fun first=>(Klq (t,(w:Int),first)) >>= fun r=>some (r) else some ([])) >>= R)=(Kus t out w >>= R):=fun R=>by
  unfold Kus
  simp only [Option.bind_eq_bind,Option.bind_assoc]
 refine (key _).trans ?_
 rw [hm,bs,Ku9 [more,ctx] (by simp) (by simp; omega),bs]
 simp only [List.flatten_cons,List.flatten_nil,List.append_nil]
 rw [hy,bs]
 rfl
theorem Kuv {p0:Klp} {ctx:List (List Int)} {t:K00} {out:List Klo} {needs used:List (List Int)} {w:Nat} (hw:t.fKids.length ≤ w):Kmh (p0,ctx,t,out,needs,used,(w:Int))=some (.inl (out,needs,used)):=by
 rw [Kmh.eq_def]
 simp only
 rw [Kmm hw]; rfl
theorem Kuw {α:Type} {l:List α} {m:Nat} (h:m ≤ l.length):cut l none (some (m:Int)) none=some (l.take m):=by
 unfold cut
 simp only [Option.getD_none,Option.getD_some,Int.toNat_natCast,Int.toNat_zero,List.drop_zero]
 rw [if_pos (by omega)]
theorem Kux {α:Type} {l:List α} {m:Nat} (h:m ≤ l.length):cut l (some (m:Int)) none none=some (l.drop m):=by
 unfold cut
 simp only [Option.getD_none,Option.getD_some,Int.toNat_natCast]
 rw [if_pos (by omega),List.take_length]
def Kuy (t:K00) (out:List Klo) (w:Nat) (y:Klo):Option Bool :=
 if (t.fOp == 10)=true then
  if ((w:Int) == 1)=true then
   (idx out 0) >>= fun e=>(Klj e.fty) >>= fun r=>(idx r 0) >>= fun q=>(Kjm (y.fty,q)) >>= fun b=>some ((!b))
  else some (false)
 else some (false)
section
variable {p0:Klp} {ctx:List (List Int)} {t:K00} {out:List Klo} {needs used:List (List Int)} {w:Nat} {more:List (List Int)} {y:Klo}
theorem Kuz (h:y.ffault ≠ 0) (hp:y.fpath.length ≤ 1000000):Kut p0 ctx t out needs used w more y=some (.inr ⟨[],[],[],y.ffault,(w:Int) :: y.fpath⟩):=by
 unfold Kut
 rw [if_pos (bne_iff_ne.2 h),Kpx (by simp; omega),bs]
 rfl
theorem Kv0 {f:Int} (h:y.ffault=0) (hf:Klv (p0,t,(w:Int),y.fty)=some f) (hf0:f ≠ 0):Kut p0 ctx t out needs used w more y=some (.inr ⟨[],[],[],f,[]⟩):=by
 unfold Kut
 rw [if_neg (by simp [h]),hf,bs,if_pos (bne_iff_ne.2 hf0)]
theorem Kv1 (h:y.ffault=0) (hf:Klv (p0,t,(w:Int),y.fty)=some 0) (ha:Kuy t out w y=some true):Kut p0 ctx t out needs used w more y=some (.inr ⟨[],[],[],3,[]⟩):=by
 unfold Kut
 rw [if_neg (by simp [h]),hf,bs,if_neg (by simp)]
 refine (congrArg (· >>= _) (show _=some true from ha)).trans ?_
 rw [bs,if_pos rfl]
theorem Kv2 {ns:List Nat} (h:y.ffault=0) (hf:Klv (p0,t,(w:Int),y.fty)=some 0) (ha:Kuy t out w y=some false) (hn:y.fneeds=Ksw ns) (hl:more.length ≤ ns.length)
  (h1:out.length ≤ 1000000) (h2:needs.length ≤ 1000000) (h3:used.length ≤ 1000000) (h4:w ≤ 1000000) :
  Kut p0 ctx t out needs used w more y=Kmh (p0,ctx,t,(out ++ [y]),(needs ++ [Ksw (ns.drop more.length)]),(used ++ [Ksw (ns.take more.length)]),((w + 1:Nat):Int)):=by
 unfold Kut
 rw [if_neg (by simp [h]),hf,bs,if_neg (by simp)]
 refine (congrArg (· >>= _) (show _=some false from ha)).trans ?_
 rw [bs,if_neg (by simp),Kpx (by simp; omega),bs,hn,Kuw (by rw [Ksx]; exact hl),bs,Kpx (by simp; omega),bs,Kux (by rw [Ksx]; exact hl),bs,Kpx (by simp; omega),bs,Kmk (by omega),Ksz,Ksy]
theorem Kv3 {r:Klo} (hc:ctx.length ≤ 1000000) (h:Kmh (p0,ctx,t,[],[],[],((0:Nat):Int))=some (.inr r)):Kmg (p0,ctx,t)=some r:=by
 rw [Kmg.eq_def]
 simp only
 rw [Krx (by simp; omega),bs,show (0:Int)=((0:Nat):Int) from rfl,h]
 rfl
theorem Kv4 {o:List Klo} {nd us:List (List Int)} {f:Int} {g:Klo} (hc:ctx.length ≤ 1000000) (h:Kmh (p0,ctx,t,[],[],[],((0:Nat):Int))=some (.inl (o,nd,us)))
  (hf:Kmf (p0,⟨[],Ksw (List.replicate ctx.length 0),o,0,[]⟩,ctx,t,nd,us)=some (f,g)) (hg:g.fpath=[]:=by rfl):Kmg (p0,ctx,t)=some (if f=0 then ⟨g.fty,g.fneeds,g.fkids,0,g.fpath⟩ else ⟨[],[],[],f,[]⟩):=by
 have e:Ksw (List.replicate ctx.length 0)=List.replicate (Int.toNat (ctx.length:Int)) (0:Int):=by
  unfold Ksw; rw [List.map_replicate,Int.toNat_natCast]; rfl
 rw [e] at hf
 rw [Kmg.eq_def]
 simp only
 rw [Krx (by simp; omega),bs,show Kmh (p0,ctx,t,[],[],[],0)=some (.inl (o,nd,us)) from h,bs]
 simp only
 rw [hf,bs]
 simp only
 by_cases hz:f=0
 ·subst hz; first | (rw [if_neg (by simp),if_pos rfl]; done) | rw [if_neg (by simp),if_pos rfl,hg]
 ·rw [if_pos (bne_iff_ne.2 hz),if_neg hz]
theorem Kv5 (h:t.fOp ≠ 10):Kuy t out w y=some false:=by
 unfold Kuy
 rw [if_neg (by simpa using h)]
theorem Kv6 (h:w ≠ 1):Kuy t out w y=some false:=by
 unfold Kuy
 have:((w:Int) == 1)=false:=by rw [beq_eq_false_iff_ne]; omega
 rw [this]
 simp
end
section
variable {s:K02} {n:Nat} (hs:Kt1 s n) {N:Int} {ty:List Int} {ks:List K00} {w:Nat} {c:Int} {r:List Int}
theorem Kv7 {op:Int} (h:(op=4∨op=6∨op=7∨op=9∨op=11)∨(w ≠ 0∧(op=3∨op=5∨op=8∨op=10∨op=12))):Klv (⟨s⟩,⟨op,N,ty,ks⟩,(w:Int),c :: r)=some 0:=by
 have hw:∀ hw:w ≠ 0,((w:Int) == 0)=false:=fun hw=>by rw [beq_eq_false_iff_ne]; omega
 unfold Klv
 rcases h with (rfl | rfl | rfl | rfl | rfl) | ⟨h0,(rfl | rfl | rfl | rfl | rfl)⟩
 all_goals first | simp [Kqt,Knt,hw h0] | (by_cases h0:w=0 <;> simp [Kqt,Knt,h0])
theorem Kv8:Klv (⟨s⟩,⟨2,N,ty,ks⟩,(w:Int),c :: r)=some (if (Kns c).1=0 then 0 else 2):=by
 unfold Klv
 by_cases h:(Kns c).1=0 <;> simp [Kqt,Knt,h]
theorem Kv9:Klv (⟨s⟩,⟨3,N,ty,ks⟩,((0:Nat):Int),c :: r)=some (if (Kns c).1=0 then 0 else 2):=by
 unfold Klv
 by_cases h:(Kns c).1=0 <;> simp [Kqt,Knt,h]
theorem Kva:Klv (⟨s⟩,⟨10,N,ty,ks⟩,((0:Nat):Int),c :: r)=some (if (Kns c).1=3 then 0 else 6):=by
 unfold Klv
 by_cases h:(Kns c).1=3 <;> simp [Kqt,Knt,h]
include hs
theorem Kvb {g:Nat} (hg:g < n):Klv (⟨s⟩,⟨5,(g:Int),ty,ks⟩,((0:Nat):Int),c :: r)=some (if (Kns c).1=1 then (if le s n 1 g then 0 else 8) else 4):=by
 have hl:=iLe hs.tab (Kt3 hs) hg
 unfold Klv
 by_cases h:(Kns c).1=1 <;> cases hle:le s n 1 g <;> simp [Kqt,Knt,h,show Kle (s,1,(g:Int))=some (le s n 1 g) from hl,hle]
theorem Kvc {g:Nat} (hg:g < n):Klv (⟨s⟩,⟨8,(g:Int),ty,ks⟩,((0:Nat):Int),c :: r)=some (if (Kns c).1=2 then (if le s n 1 g then 0 else 8) else 5):=by
 have hl:=iLe hs.tab (Kt3 hs) hg
 unfold Klv
 by_cases h:(Kns c).1=2 <;> cases hle:le s n 1 g <;> simp [Kqt,Knt,h,show Kle (s,1,(g:Int))=some (le s n 1 g) from hl,hle]
theorem Kvd {g:Nat} (hg:g < n):Klv (⟨s⟩,⟨12,(g:Int),ty,ks⟩,((0:Nat):Int),c :: r)=some (if (Kns c).1=4 then (if le s n 1 g then 0 else 8) else 7):=by
 have hl:=iLe hs.tab (Kt3 hs) hg
 unfold Klv
 by_cases h:(Kns c).1=4 <;> cases hle:le s n 1 g <;> simp [Kqt,Knt,h,show Kle (s,1,(g:Int))=some (le s n 1 g) from hl,hle]
end
def Kve (ty:List Int) (ns:List Nat) (kids:List Klo):Int × Klo:=(if ty.length > 40 then 3 else 0,⟨ty,Ksw ns,kids,0,[]⟩)
theorem Kvf {α:Type} (x:α) (l:List α):idx (x :: l) 0=some x:=rfl
theorem Kvg {α:Type} (x y:α) (l:List α):idx (x :: y :: l) 1=some y:=rfl
theorem Kvh {α:Type} (x y z:α) (l:List α):idx (x :: y :: z :: l) 2=some z:=rfl
section
variable {s:K02} {n:Nat} (hs:Kt1 s n) {N:Int} {ty:List Int} {ks:List K00} {ctx us:List (List Int)} {z:List Int} {y0 y1 y2:Klo} {a b d:List Nat}
theorem Kvi {i:Nat} {q:List Int} {zs:List Nat} (hi:ctx[i]?=some q) (hz:i < zs.length) (hq:q.length ≤ 40):Kmf (⟨s⟩,⟨[],Ksw zs,[],0,[]⟩,ctx,⟨0,(i:Int),ty,ks⟩,[],[])=some (Kve q (zs.set i 1) []):=by
 obtain ⟨h1,h2⟩:=List.getElem?_eq_some_iff.1 hi
 have e1:idx ctx (i:Int)=some q:=by rw [Kmj h1,h2]
 have e2:idx (Ksw zs) (i:Int)=some ((zs[i]:Nat):Int):=by rw [Kmj (by rw [Ksx]; exact hz)]; simp [Ksw]
 have e3:List.set (Ksw zs) i 1=Ksw (zs.set i 1):=by unfold Ksw; rw [List.map_set]; rfl
 have h40:¬ ((q.length:Int) > 40):=by omega
 unfold Kmf Kme Kve
 simp [e1,e2,e3,Kq0 q (by omega),show ¬ (40 < (q.length:Int)) by omega,show ¬ (40 < q.length) by omega]
theorem Kvj {zs:List Nat}:Kmf (⟨s⟩,⟨[],Ksw zs,[],0,[]⟩,ctx,⟨1,N,ty,ks⟩,[],[])=some (Kve [0] zs []):=by
 unfold Kmf Kme Kve
 simp
theorem Kvk (hy:y0.fty.length ≤ 1000) (ht:ty.length ≤ 1000):Kmf (⟨s⟩,⟨[],z,[y0],0,[]⟩,ctx,⟨6,N,ty,ks⟩,[Ksw a],us)=some (Kve (2 :: (y0.fty ++ ty)) a [y0]):=by
 have hc:=Ku5 [[2],y0.fty,ty] (by simp) (by simp; omega)
 unfold Kmf Kme Kve Klz
 simp only [List.flatten_cons,List.flatten_nil,List.append_nil,List.singleton_append,List.cons_append,List.nil_append] at hc
 simp [Kvf,Kvg,hc]
 split <;> rename_i q40
 ·rw [if_pos (by omega)]
 ·rw [if_neg (by omega)]
theorem Kvl (hy:y0.fty.length ≤ 1000) (ht:ty.length ≤ 1000):Kmf (⟨s⟩,⟨[],z,[y0],0,[]⟩,ctx,⟨7,N,ty,ks⟩,[Ksw a],us)=some (Kve (2 :: (ty ++ y0.fty)) a [y0]):=by
 have hc:=Ku5 [[2],ty,y0.fty] (by simp) (by simp; omega)
 unfold Kmf Kme Kve Klz
 simp only [List.flatten_cons,List.flatten_nil,List.append_nil,List.singleton_append,List.cons_append,List.nil_append] at hc
 simp [Kvf,Kvg,hc]
 split <;> rename_i q40
 ·rw [if_pos (by omega)]
 ·rw [if_neg (by omega)]
include hs
theorem Kvm (ha:Ktc n a) (hb:Ktc n b) (hl:a.length ≤ 1000000) (hab:a.length=b.length):Kmf (⟨s⟩,⟨[],z,[y0,y1],0,[]⟩,ctx,⟨2,N,ty,ks⟩,[Ksw a,Ksw b],us)=some (Kve [0] (Kt9 s n a b) [y0,y1]):=by
 have h:=Ktr hs a b ha hb (by omega) hab
 unfold Kmf Kme Kve
 simp [Kvf,Kvg,h]
theorem Kvn (ha:Ktc n a) (hb:Ktc n b) (hd:Ktc n d) (hl:a.length ≤ 1000000) (hab:a.length=b.length) (had:a.length=d.length) (h2:y2.fty.length ≤ 1000) (h1:y1.fty.length ≤ 40) :
  Kmf (⟨s⟩,⟨[],z,[y0,y1,y2],0,[]⟩,ctx,⟨3,N,ty,ks⟩,[Ksw a,Ksw b,Ksw d],us)=some (if y1.fty=y2.fty then Kve y1.fty (Kt9 s n a (Ktb s n b d)) [y0,y1,y2] else (3,⟨[],z,[y0,y1,y2],0,[]⟩)):=by
 have hj:=Ktt hs b d hb hd (by omega) (by omega)
 have hlj:(Ktb s n b d).length=a.length:=by unfold Ktb; rw [List.length_zipWith]; omega
 have h:=Ktr hs a (Ktb s n b d) ha (Kth hs hb hd) (by omega) hlj.symm
 have he:=Ks2 y1.fty y2.fty (by omega)
 unfold Kmf Kme Kve Klz
 by_cases hq:y1.fty=y2.fty
 ·rw [show (y1.fty == y2.fty)=true from beq_iff_eq.2 hq] at he
  rw [if_pos hq]
  simp [Kvf,Kvg,Kvh,he,hj,h,show ¬ (40 < (y1.fty.length:Int)) by omega,show ¬ (40 < y1.fty.length) by omega]
 ·rw [show (y1.fty == y2.fty)=false from beq_eq_false_iff_ne.2 hq] at he
  rw [if_neg hq]
  simp [Kvf,Kvg,Kvh,he]
theorem Kvo (ha:Ktc n a) (hb:Ktc n b) (hl:a.length ≤ 1000000) (hab:a.length=b.length) (h0:y0.fty.length ≤ 1000) (h1:y1.fty.length ≤ 1000) :
  Kmf (⟨s⟩,⟨[],z,[y0,y1],0,[]⟩,ctx,⟨4,N,ty,ks⟩,[Ksw a,Ksw b],us)=some (Kve (1 :: (y0.fty ++ y1.fty)) (Kt9 s n a b) [y0,y1]):=by
 have h:=Ktr hs a b ha hb (by omega) hab
 have hc:=Ku5 [[1],y0.fty,y1.fty] (by simp) (by simp; omega)
 unfold Kmf Kme Kve Klz
 simp only [List.flatten_cons,List.flatten_nil,List.append_nil,List.singleton_append,List.cons_append,List.nil_append] at hc
 simp [Kvf,Kvg,hc,h]
 split <;> rename_i q40
 ·rw [if_pos (by omega)]
 ·rw [if_neg (by omega)]
theorem Kvp {g:Nat} (hg:g < n) {u:List Nat} (hu:Ktc n u) (hul:u.length ≤ 1000000) (hy:y0.fty.length ≤ 1000) (ht:ty.length ≤ 1000) :
  Kmf (⟨s⟩,⟨[],z,[y0],0,[]⟩,ctx,⟨9,(g:Int),ty,ks⟩,[Ksw a],[Ksw u])=some (if (u.all fun x=>le s n x g)=true then Kve ((3 + (g:Int)) :: (ty ++ y0.fty)) a [y0] else (9,⟨[],z,[y0],0,[]⟩)):=by
 have hn:=hs.tab.hi
 have e:=Ktx hs g hg u hu (by omega)
 have hw:wr (3 + (g:Int))=3 + (g:Int):=Kmi (by omega) (by omega)
 have hc:=Ku5 [[3 + (g:Int)],ty,y0.fty] (by simp) (by simp; omega)
 unfold Kmf Kme Kve Klz
 simp only [List.flatten_cons,List.flatten_nil,List.append_nil,List.singleton_append,List.cons_append,List.nil_append] at hc
 cases hq:(u.all fun x=>le s n x g) with
 | true =>
  rw [hq] at e
  simp [Kvf,Kvg,e,hc,hw]
  split <;> rename_i q40
  ·rw [if_pos (by omega)]
  ·rw [if_neg (by omega)]
 | false =>
  rw [hq] at e
  simp [Kvf,Kvg,e]
theorem Kvq {g:Nat} (hg:g < n) (ha:Ktc n a) (hl:a.length ≤ 1000000) (hy:y0.fty.length ≤ 1000) :
  Kmf (⟨s⟩,⟨[],z,[y0],0,[]⟩,ctx,⟨11,(g:Int),ty,ks⟩,[Ksw a],us)=some (Kve ((19 + (g:Int)) :: y0.fty) (Kta s n g a) [y0]):=by
 have hn:=hs.tab.hi
 have e:=Ktv hs g hg a ha (by omega)
 have hw:wr (19 + (g:Int))=19 + (g:Int):=Kmi (by omega) (by omega)
 have hc:=Ku5 [[19 + (g:Int)],y0.fty] (by simp) (by simp; omega)
 unfold Kmf Kme Kve Klz
 simp only [List.flatten_cons,List.flatten_nil,List.append_nil,List.singleton_append,List.cons_append,List.nil_append] at hc
 simp [Kvf,Kvg,hc,hw,e]
 split <;> rename_i q40
 ·rw [if_pos (by omega)]
 ·rw [if_neg (by omega)]
theorem Kvr {g:Nat} (hg:g < n) {p q:List Int} (hty:y0.fty=(3 + (g:Int)) :: (p ++ q)) (hP:Kud s (3 + (g:Int)) p q) (ha:Ktc n a) (hb:Ktc n b) (hl:a.length ≤ 1000000) (hab:a.length=b.length) :
  Kmf (⟨s⟩,⟨[],z,[y0,y1],0,[]⟩,ctx,⟨10,N,ty,ks⟩,[Ksw a,Ksw b],us)=some (Kve q (Kt9 s n a (Kta s n g b)) [y0,y1]):=by
 have hn:=hs.tab.hi
 have e:=Ktv hs g hg b hb (by omega)
 have hlj:(Kta s n g b).length=a.length:=by unfold Kta; rw [List.length_map]; omega
 have h:=Ktr hs a (Kta s n g b) ha (Ktg hs hg hb) (by omega) hlj.symm
 have hsh:Kns (3 + (g:Int))=(3,(g:Int)):=by
  rcases Knu (3 + (g:Int)) with h | h | h | h | h | h | h | h <;> first | omega | (obtain ⟨_,e⟩:=h; rw [e]; congr 1; omega)
 have hq:=Kua hP.yb
 have pp:=hP.pp
 rw [← hty] at pp
 have i0:idx y0.fty 0=some (3 + (g:Int)):=by rw [hty]; rfl
 unfold Kmf Kme Kve Klz
 simp [Kvf,Kvg,i0,Knt,hsh,pp,e,h,show ¬ (40 < (q.length:Int)) by omega,show ¬ (40 < q.length) by omega]
theorem Kvs {g:Nat} (hg:g < n) {u:List Nat} {us':List Int} (hu:Ktc n u) (hul:u.length ≤ 1000000) (ha:Ktc n a) (hb:Ktc n b) (hl:a.length ≤ 1000000) (hab:a.length=b.length) (h1:y1.fty.length ≤ 40) :
  Kmf (⟨s⟩,⟨[],z,[y0,y1],0,[]⟩,ctx,⟨5,(g:Int),ty,ks⟩,[Ksw a,Ksw b],[us',Ksw u])=some (if (u.all fun x=>le s n x g)=true then Kve y1.fty (Kt9 s n (Kta s n g a) b) [y0,y1] else (9,⟨[],z,[y0,y1],0,[]⟩)):=by
 have e:=Ktx hs g hg u hu (by omega)
 have e2:=Ktv hs g hg a ha (by omega)
 have hlj:(Kta s n g a).length=a.length:=by unfold Kta; rw [List.length_map]
 have h:=Ktr hs (Kta s n g a) b (Ktg hs hg ha) hb (by omega) (by omega)
 unfold Kmf Kme Kve Klz
 cases hq:(u.all fun x=>le s n x g) with
 | true =>
  rw [hq] at e
  simp [Kvf,Kvg,e,e2,h,show ¬ (40 < (y1.fty.length:Int)) by omega,show ¬ (40 < y1.fty.length) by omega]
 | false =>
  rw [hq] at e
  simp [Kvf,Kvg,e]
theorem Kvt {g m:Nat} (hg:g < n) (hm:m < n) {p:List Int} (hty:y0.fty=(19 + (m:Int)) :: p) {u:List Nat} {us':List Int} (hu:Ktc n u) (hul:u.length ≤ 1000000) (ha:Ktc n a) (hb:Ktc n b) (hl:a.length ≤ 1000000) (hab:a.length=b.length) (h1:y1.fty.length ≤ 40) :
  Kmf (⟨s⟩,⟨[],z,[y0,y1],0,[]⟩,ctx,⟨12,(g:Int),ty,ks⟩,[Ksw a,Ksw b],[us',Ksw u])=some (if (u.all fun x=>le s n x (ti s n g m))=true then Kve y1.fty (Kt9 s n (Kta s n g a) b) [y0,y1] else (9,⟨[],z,[y0,y1],0,[]⟩)):=by
 have hn:=hs.tab.hi
 have e0:=Kmy hs.tab hg hm
 have e:=Ktx hs (ti s n g m) (Kmr hs.tab hg hm) u hu (by omega)
 have e2:=Ktv hs g hg a ha (by omega)
 have hlj:(Kta s n g a).length=a.length:=by unfold Kta; rw [List.length_map]
 have h:=Ktr hs (Kta s n g a) b (Ktg hs hg ha) hb (by omega) (by omega)
 have hsh:Kns (19 + (m:Int))=(4,(m:Int)):=by
  rcases Knu (19 + (m:Int)) with h | h | h | h | h | h | h | h <;> first | omega | (obtain ⟨_,e⟩:=h; rw [e]; congr 1; omega)
 have i0:idx y0.fty 0=some (19 + (m:Int)):=by rw [hty]; rfl
 unfold Kmf Kme Kve Klz
 cases hq:(u.all fun x=>le s n x (ti s n g m)) with
 | true =>
  rw [hq] at e
  simp [Kvf,Kvg,i0,Knt,hsh,e0,e,e2,h,show ¬ (40 < (y1.fty.length:Int)) by omega,show ¬ (40 < y1.fty.length) by omega]
 | false =>
  rw [hq] at e
  simp [Kvf,Kvg,i0,Knt,hsh,e0,e]
theorem Kvu {g:Nat} (hg:g < n) {u v:List Nat} {us':List Int} (hu:Ktc n u) (hul:u.length ≤ 1000000) (hv:Ktc n v) (hvl:v.length ≤ 1000000) (ha:Ktc n a) (hb:Ktc n b) (hd:Ktc n d) (hl:a.length ≤ 1000000) (hab:a.length=b.length) (had:a.length=d.length) (h2:y2.fty.length ≤ 1000) (h1:y1.fty.length ≤ 40) :
  Kmf (⟨s⟩,⟨[],z,[y0,y1,y2],0,[]⟩,ctx,⟨8,(g:Int),ty,ks⟩,[Ksw a,Ksw b,Ksw d],[us',Ksw u,Ksw v]) =
   some (if y1.fty=y2.fty then (if (u.all fun x=>le s n x g)=true∧(v.all fun x=>le s n x g)=true then Kve y1.fty (Kt9 s n (Kta s n g a) (Ktb s n b d)) [y0,y1,y2] else (9,⟨[],z,[y0,y1,y2],0,[]⟩)) else (3,⟨[],z,[y0,y1,y2],0,[]⟩)):=by
 have e:=Ktx hs g hg u hu (by omega)
 have e':=Ktx hs g hg v hv (by omega)
 have e2:=Ktv hs g hg a ha (by omega)
 have hj:=Ktt hs b d hb hd (by omega) (by omega)
 have hlj:(Ktb s n b d).length=a.length:=by unfold Ktb; rw [List.length_zipWith]; omega
 have hls:(Kta s n g a).length=a.length:=by unfold Kta; rw [List.length_map]
 have h:=Ktr hs (Kta s n g a) (Ktb s n b d) (Ktg hs hg ha) (Kth hs hb hd) (by omega) (by omega)
 have he:=Ks2 y1.fty y2.fty (by omega)
 unfold Kmf Kme Kve Klz
 by_cases hq:y1.fty=y2.fty
 ·rw [show (y1.fty == y2.fty)=true from beq_iff_eq.2 hq] at he
  rw [if_pos hq]
  cases hu':(u.all fun x=>le s n x g) with
  | false =>
   rw [hu'] at e
   simp [Kvf,Kvg,Kvh,he,e]
  | true =>
   rw [hu'] at e
   cases hv':(v.all fun x=>le s n x g) with
   | false =>
    rw [hv'] at e'
    simp [Kvf,Kvg,Kvh,he,e,e']
   | true =>
    rw [hv'] at e'
    simp [Kvf,Kvg,Kvh,he,e,e',e2,hj,h,show ¬ (40 < (y1.fty.length:Int)) by omega,show ¬ (40 < y1.fty.length) by omega]
 ·rw [show (y1.fty == y2.fty)=false from beq_eq_false_iff_ne.2 hq] at he
  rw [if_neg hq]
  simp [Kvf,Kvg,Kvh,he]
end
def Kvv (t:K00) (i:Nat) (kids:List Klo):List (List Int):=(Klq (t,(i:Int),(match kids with | []=>[] | y :: _=>y.fty))).getD []
structure Kvw (s:K02) (ctx:List (List Int)) (t:K00) (kids:List Klo) (i:Nat) (k:K00) (y:Klo):Prop where
 im:Kmg (⟨s⟩,Kvv t i kids ++ ctx,k)=some y
 fa:y.ffault=0
 ty:∀ q ∈ Kvv t i kids,TyS s q
 ln:(Kvv t i kids).length=Koz t.fOp i
structure Kvx (s:K02) (n:Nat) (ctx:List (List Int)) (t:K00) (x:K03) (y:Klo):Prop where
 sp:Kdm (s,ctx,t)=some x
 im:Kmg (⟨s⟩,ctx,t)=some y
 ty:y.fty=x.fty
 ne:y.fneeds=x.fneeds
 fa:y.ffault=x.ffault
 pa:y.fpath=x.fpath
 pl:x.fpath.length + 1 ≤ tsz t
 bd:x.ffault ≠ 0→x.fty=[]∧x.fneeds=[]
 gd:x.ffault=0→TyS s x.fty∧x.fpath=[]∧∃ ns:List Nat,x.fneeds=Ksw ns∧ns.length=ctx.length∧Ktc n ns
 kd:x.ffault=0→y.fkids.length=t.fKids.length∧∀ (i:Nat) (k:K00),t.fKids[i]?=some k→∃ yk,y.fkids[i]?=some yk∧Kvw s ctx t y.fkids i k yk
section
variable {s:K02} {n:Nat} {ctx:List (List Int)} {t:K00}
theorem Kvx.bad {f:Int} {p:List Int} (sp:Kdm (s,ctx,t)=some ⟨[],[],f,p⟩) (im:Kmg (⟨s⟩,ctx,t)=some ⟨[],[],[],f,p⟩) (hf:f ≠ 0) (hp:p.length + 1 ≤ tsz t):∃ x y,Kvx s n ctx t x y :=
 ⟨_,_,{ sp:=sp,im:=im,ty:=rfl,ne:=rfl,fa:=rfl,pa:=rfl,pl:=hp,bd:=fun _=>⟨rfl,rfl⟩,gd:=fun h=>absurd h hf,kd:=fun h=>absurd h hf }⟩
theorem Kvx.good {q:List Int} {ns:List Nat} {kids:List Klo} (sp:Kdm (s,ctx,t)=some ⟨q,Ksw ns,0,[]⟩) (im:Kmg (⟨s⟩,ctx,t)=some ⟨q,Ksw ns,kids,0,[]⟩) (hp:1 ≤ tsz t) (hq:TyS s q) (hl:ns.length=ctx.length) (hb:Ktc n ns)
  (kl:kids.length=t.fKids.length) (kd:∀ (i:Nat) (k:K00),t.fKids[i]?=some k→∃ yk,kids[i]?=some yk∧Kvw s ctx t kids i k yk):∃ x y,Kvx s n ctx t x y :=
 ⟨_,_,{ sp:=sp,im:=im,ty:=rfl,ne:=rfl,fa:=rfl,pa:=rfl,pl:=by simpa using hp,bd:=fun h=>absurd rfl h,gd:=fun _=>⟨hq,rfl,ns,rfl,hl,hb⟩,kd:=fun _=>⟨kl,kd⟩ }⟩
theorem Kvx.done {q:List Int} {ns:List Nat} {kids:List Klo} (sp:Kdm (s,ctx,t)=Kd6 (q,Ksw ns)) (im:Kmg (⟨s⟩,ctx,t)=some (if (Kve q ns kids).1=0 then ⟨(Kve q ns kids).2.fty,(Kve q ns kids).2.fneeds,(Kve q ns kids).2.fkids,0,(Kve q ns kids).2.fpath⟩ else ⟨[],[],[],(Kve q ns kids).1,[]⟩)) (hp:1 ≤ tsz t)
  (hq:q.length ≤ 40→TyS s q) (hl:ns.length=ctx.length) (hb:Ktc n ns) (kl:kids.length=t.fKids.length) (kd:∀ (i:Nat) (k:K00),t.fKids[i]?=some k→∃ yk,kids[i]?=some yk∧Kvw s ctx t kids i k yk):∃ x y,Kvx s n ctx t x y:=by
 unfold Kd6 Kcw at sp
 simp only at sp
 unfold Kve at im
 by_cases h:q.length > 40
 ·rw [decide_eq_true (by omega),if_pos rfl,bs] at sp
  rw [if_pos h,if_neg (by simp)] at im
  exact Kvx.bad sp im (by decide) (by simpa using hp)
 ·rw [decide_eq_false (by omega),if_neg (by decide)] at sp
  rw [if_neg h,if_pos rfl] at im
  exact Kvx.good sp im hp (hq (by omega)) hl hb kl kd
theorem Kvy {i:Nat} {k:K00} {x:K03} {y:Klo} {c:List (List Int)} (hk:t.fKids[i]?=some k) (h:Kvx s n c k x y) (hf:x.ffault=0):Kdo (s,c,t,(i:Int))=some x:=by
 obtain ⟨h1,h2⟩:=List.getElem?_eq_some_iff.1 hk
 rw [Kdo.eq_def]
 simp only
 rw [Kmj h1,h2,bs,h.sp,bs,if_neg (by simp [hf]),bs]
theorem Kvz {i:Nat} {k:K00} {x:K03} {y:Klo} {c:List (List Int)} (hk:t.fKids[i]?=some k) (h:Kvx s n c k x y) (hz:tsz k ≤ 1000000) (hf:x.ffault ≠ 0):Kdo (s,c,t,(i:Int))=some ⟨[],[],x.ffault,(i:Int) :: x.fpath⟩:=by
 obtain ⟨h1,h2⟩:=List.getElem?_eq_some_iff.1 hk
 have hp:=h.pl
 obtain ⟨q1,q2⟩:=h.bd hf
 rw [Kdo.eq_def]
 simp only
 rw [Kmj h1,h2,bs,h.sp,bs,if_pos (bne_iff_ne.2 hf),Kpx (by simp; omega),bs,bs,q1,q2]
 rfl
variable {out:List Klo} {nd us:List (List Int)} {w:Nat} {k:K00} {m:List (List Int)} {x:K03} {y:Klo}
theorem Kw0 (hk:t.fKids[w]?=some k) (hm:Kus t out w=some m) (r:Kvx s n (m ++ ctx) k x y) (hz:tsz k ≤ 1000000) (hc:ctx.length + m.length ≤ 1000000) (hf:x.ffault ≠ 0) :
  Kmh (⟨s⟩,ctx,t,out,nd,us,(w:Int))=some (.inr ⟨[],[],[],x.ffault,(w:Int) :: x.fpath⟩):=by
 obtain ⟨h1,h2⟩:=List.getElem?_eq_some_iff.1 hk
 have hp:=r.pl
 rw [Kuu h1 (by rw [Kmj h1,h2]) hm hc r.im,Kuz (by rw [r.fa]; exact hf) (by rw [r.pa]; omega),r.fa,r.pa]
theorem Kw1 {f:Int} (hk:t.fKids[w]?=some k) (hm:Kus t out w=some m) (r:Kvx s n (m ++ ctx) k x y) (hc:ctx.length + m.length ≤ 1000000) (hf:x.ffault=0) (h:Klv (⟨s⟩,t,(w:Int),x.fty)=some f) (hf0:f ≠ 0) :
  Kmh (⟨s⟩,ctx,t,out,nd,us,(w:Int))=some (.inr ⟨[],[],[],f,[]⟩):=by
 obtain ⟨h1,h2⟩:=List.getElem?_eq_some_iff.1 hk
 rw [Kuu h1 (by rw [Kmj h1,h2]) hm hc r.im,Kv0 (by rw [r.fa]; exact hf) (by rw [r.ty]; exact h) hf0]
theorem Kw2 (hk:t.fKids[w]?=some k) (hm:Kus t out w=some m) (r:Kvx s n (m ++ ctx) k x y) (hc:ctx.length + m.length ≤ 1000000) (hf:x.ffault=0) (h:Klv (⟨s⟩,t,(w:Int),x.fty)=some 0) (ha:Kuy t out w y=some true) :
  Kmh (⟨s⟩,ctx,t,out,nd,us,(w:Int))=some (.inr ⟨[],[],[],3,[]⟩):=by
 obtain ⟨h1,h2⟩:=List.getElem?_eq_some_iff.1 hk
 rw [Kuu h1 (by rw [Kmj h1,h2]) hm hc r.im,Kv1 (by rw [r.fa]; exact hf) (by rw [r.ty]; exact h) ha]
theorem Kw3 {ns:List Nat} (hk:t.fKids[w]?=some k) (hm:Kus t out w=some m) (r:Kvx s n (m ++ ctx) k x y) (hc:ctx.length + m.length ≤ 1000000) (hf:x.ffault=0) (h:Klv (⟨s⟩,t,(w:Int),x.fty)=some 0) (ha:Kuy t out w y=some false)
  (hn:x.fneeds=Ksw ns) (hl:m.length ≤ ns.length) (h1':out.length ≤ 1000000) (h2':nd.length ≤ 1000000) (h3':us.length ≤ 1000000) (h4':w ≤ 1000000) :
  Kmh (⟨s⟩,ctx,t,out,nd,us,(w:Int))=Kmh (⟨s⟩,ctx,t,(out ++ [y]),(nd ++ [Ksw (ns.drop m.length)]),(us ++ [Ksw (ns.take m.length)]),((w + 1:Nat):Int)):=by
 obtain ⟨h1,h2⟩:=List.getElem?_eq_some_iff.1 hk
 rw [Kuu h1 (by rw [Kmj h1,h2]) hm hc r.im,Kv2 (by rw [r.fa]; exact hf) (by rw [r.ty]; exact h) ha (by rw [r.ne]; exact hn) hl h1' h2' h3' h4']
end
theorem Kw4 {op N:Int} {ty:List Int} {ks:List K00} {i:Nat} {q:List Int} (h9:op ≠ 9) (h:Koz op (i:Int)=0):Klq (⟨op,N,ty,ks⟩,(i:Int),q)=some []:=by
 unfold Klq
 simp only
 rw [if_neg (by simpa using h9),Kp2,bs,h]
 rfl
theorem Kw5 {N:Int} {ty:List Int} {ks:List K00} {i:Nat} {q:List Int}:Klq (⟨9,N,ty,ks⟩,(i:Int),q)=some [ty]:=by
 unfold Klq
 simp only
 rw [if_pos (by decide)]
theorem Kw6 {s:K02} {N:Int} {ty:List Int} {ks:List K00} {p q:List Int} (h:Kud s 1 p q):Klq (⟨5,N,ty,ks⟩,((1:Nat):Int),1 :: (p ++ q))=some [q,p]:=by
 unfold Klq
 simp only
 rw [if_neg (by decide),Kp2,bs,show Koz 5 ((1:Nat):Int)=2 from rfl,if_neg (by decide),h.pp,bs,if_pos (by decide)]
 rfl
theorem Kw7 {s:K02} {N:Int} {ty:List Int} {ks:List K00} {p q:List Int} (h:Kud s 2 p q):Klq (⟨8,N,ty,ks⟩,((1:Nat):Int),2 :: (p ++ q))=some [p]:=by
 unfold Klq
 simp only
 rw [if_neg (by decide),Kp2,bs,show Koz 8 ((1:Nat):Int)=1 from rfl,if_neg (by decide),h.pp,bs,if_neg (by decide),if_pos (by decide)]
 rfl
theorem Kw8 {s:K02} {N:Int} {ty:List Int} {ks:List K00} {p q:List Int} (h:Kud s 2 p q):Klq (⟨8,N,ty,ks⟩,((2:Nat):Int),2 :: (p ++ q))=some [q]:=by
 unfold Klq
 simp only
 rw [if_neg (by decide),Kp2,bs,show Koz 8 ((2:Nat):Int)=1 from rfl,if_neg (by decide),h.pp,bs,if_neg (by decide),if_pos (by decide)]
 rfl
theorem Kw9 {s:K02} {N c:Int} {ty:List Int} {ks:List K00} {p:List Int} (h:Kue s c p):Klq (⟨12,N,ty,ks⟩,((1:Nat):Int),c :: p)=some [p]:=by
 unfold Klq
 simp only
 rw [if_neg (by decide),Kp2,bs,show Koz 12 ((1:Nat):Int)=1 from rfl,if_neg (by decide),h.pp,bs,if_neg (by decide),if_neg (by decide)]
theorem Kwa {op N:Int} {ty:List Int} {ks:List K00} (h9:op ≠ 9):Kus ⟨op,N,ty,ks⟩ [] 0=some []:=by
 unfold Kus
 simp [h9]
theorem Kwb {N:Int} {ty:List Int} {ks:List K00}:Kus ⟨9,N,ty,ks⟩ [] 0=some [ty]:=by
 unfold Kus
 have:=@Kw5 N ty ks 0 []
 simp at this ⊢
 rw [this]
theorem Kwc {t:K00} {w:Nat} {y0:Klo} {l:List Klo} {m:List (List Int)} (hw:0 < w) (h:Klq (t,(w:Int),y0.fty)=some m):Kus t (y0 :: l) w=some m:=by
 unfold Kus
 rw [show decide ((w:Int) > 0)=true from decide_eq_true (by omega),if_pos rfl,bs,if_pos rfl,if_pos rfl,Kvf,bs,bs,h,bs]
theorem Kwd {t:K00} {i:Nat} {y0:Klo} {l:List Klo} {m:List (List Int)} (h:Klq (t,(i:Int),y0.fty)=some m):Kvv t i (y0 :: l)=m:=by
 unfold Kvv
 simp only
 rw [h]; rfl
theorem kd1 {s:K02} {ctx:List (List Int)} {op N:Int} {ty:List Int} {k0:K00} {y0:Klo} (h0:Kvw s ctx ⟨op,N,ty,[k0]⟩ [y0] 0 k0 y0) :
  ∀ (i:Nat) (k:K00),(⟨op,N,ty,[k0]⟩:K00).fKids[i]?=some k→∃ yk,[y0][i]?=some yk∧Kvw s ctx ⟨op,N,ty,[k0]⟩ [y0] i k yk:=by
 intro i k hk
 match i,hk with
 | 0,hk=>cases hk; exact ⟨y0,rfl,h0⟩
 | i + 1,hk=>simp at hk
theorem kd2 {s:K02} {ctx:List (List Int)} {op N:Int} {ty:List Int} {k0 k1:K00} {y0 y1:Klo} (h0:Kvw s ctx ⟨op,N,ty,[k0,k1]⟩ [y0,y1] 0 k0 y0) (h1:Kvw s ctx ⟨op,N,ty,[k0,k1]⟩ [y0,y1] 1 k1 y1) :
  ∀ (i:Nat) (k:K00),(⟨op,N,ty,[k0,k1]⟩:K00).fKids[i]?=some k→∃ yk,[y0,y1][i]?=some yk∧Kvw s ctx ⟨op,N,ty,[k0,k1]⟩ [y0,y1] i k yk:=by
 intro i k hk
 match i,hk with
 | 0,hk=>cases hk; exact ⟨y0,rfl,h0⟩
 | 1,hk=>cases hk; exact ⟨y1,rfl,h1⟩
 | i + 2,hk=>simp at hk
theorem kd3 {s:K02} {ctx:List (List Int)} {op N:Int} {ty:List Int} {k0 k1 k2:K00} {y0 y1 y2:Klo} (h0:Kvw s ctx ⟨op,N,ty,[k0,k1,k2]⟩ [y0,y1,y2] 0 k0 y0) (h1:Kvw s ctx ⟨op,N,ty,[k0,k1,k2]⟩ [y0,y1,y2] 1 k1 y1) (h2:Kvw s ctx ⟨op,N,ty,[k0,k1,k2]⟩ [y0,y1,y2] 2 k2 y2) :
  ∀ (i:Nat) (k:K00),(⟨op,N,ty,[k0,k1,k2]⟩:K00).fKids[i]?=some k→∃ yk,[y0,y1,y2][i]?=some yk∧Kvw s ctx ⟨op,N,ty,[k0,k1,k2]⟩ [y0,y1,y2] i k yk:=by
 intro i k hk
 match i,hk with
 | 0,hk=>cases hk; exact ⟨y0,rfl,h0⟩
 | 1,hk=>cases hk; exact ⟨y1,rfl,h1⟩
 | 2,hk=>cases hk; exact ⟨y2,rfl,h2⟩
 | i + 3,hk=>simp at hk
theorem Kvw.mk' {s:K02} {n:Nat} {ctx m:List (List Int)} {t k:K00} {y0:Klo} {l:List Klo} {i:Nat} {x:K03} {y:Klo} (ha:Klq (t,(i:Int),y0.fty)=some m) (r:Kvx s n (m ++ ctx) k x y) (hf:x.ffault=0) (hm:∀ q ∈ m,TyS s q) (hl:m.length=Koz t.fOp i):Kvw s ctx t (y0 :: l) i k y:=by
 have e:=Kwd (l:=l) ha
 exact ⟨by rw [e]; exact r.im,by rw [r.fa]; exact hf,by rw [e]; exact hm,by rw [e]; exact hl⟩
def Kwe (s:K02) (n sz:Nat):Prop:=∀ (k:K00) (c:List (List Int)),Kun s c.length k sz→(∀ q ∈ c,TyS s q)→c.length + 2 * tsz k ≤ 1000000→∃ x y,Kvx s n c k x y
theorem Kwf {X:Option Klo} {q:List Int} {ns:List Nat} {kids:List Klo} (h:q.length ≤ 40) (im:X=some (if (Kve q ns kids).1=0 then (⟨(Kve q ns kids).2.fty,(Kve q ns kids).2.fneeds,(Kve q ns kids).2.fkids,0,(Kve q ns kids).2.fpath⟩:Klo) else ⟨[],[],[],(Kve q ns kids).1,[]⟩)):X=some ⟨q,Ksw ns,kids,0,[]⟩:=by
 rw [im]
 unfold Kve
 simp only
 rw [show (if q.length > 40 then (3:Int) else 0)=0 from if_neg (by omega),if_pos rfl]
section
variable {s:K02} {n:Nat} (hs:Kt1 s n) {ctx:List (List Int)} {N:Int} {ty:List Int} {ks:List K00}
theorem Kwg {op:Int} {k0:K00} {l:List K00} {x0:K03} {y0:Klo} (h0:op ≠ 0) (h1:op ≠ 1) (h9:op ≠ 9) (hb:ctx.length + 2 * tsz (⟨op,N,ty,k0 :: l⟩:K00) ≤ 1000000) (r0:Kvx s n ctx k0 x0 y0) (f0:x0.ffault ≠ 0) :
  ∃ x y,Kvx s n ctx ⟨op,N,ty,k0 :: l⟩ x y:=by
 have hz:tsz k0 + 1 ≤ tsz (⟨op,N,ty,k0 :: l⟩:K00):=by rw [tsz,Kof]; omega
 have e0:Kdo (s,ctx,⟨op,N,ty,k0 :: l⟩,0)=some ⟨[],[],x0.ffault,0 :: x0.fpath⟩:=Kvz (i:=0) rfl r0 (by omega) f0
 refine Kvx.bad (f:=x0.ffault) (p:=0 :: x0.fpath) ?_ (Kv3 (by omega) (Kw0 (m:=[]) rfl (Kwa h9) r0 (by omega) (by simp; omega) f0)) f0 (by have:=r0.pl; simp; omega)
 rw [Kdm.eq_def]
 simp [h0,h1,h9,e0,f0]
include hs
theorem Kwh {t:K00} (ht:t.fOp=0) (h:tOk (gN s.fSize true) (yN s.fSize true) ctx.length t=true) (hc:∀ q ∈ ctx,TyS s q) (hb:ctx.length + 2 * tsz t ≤ 1000000):∃ x y,Kvx s n ctx t x y:=by
 obtain ⟨i,hi,hl,hk⟩:=Kuq h ht
 obtain ⟨op,N,ty,ks⟩:=t
 simp only at ht hi hk
 subst ht; subst hi; subst hk
 have hq:ctx[i]?=some ctx[i]:=List.getElem?_eq_getElem hl
 have hy:=hc ctx[i] (List.getElem_mem hl)
 have e1:idx ctx (i:Int)=some ctx[i]:=Kmj hl
 have hz:=Kty ctx.length (by omega)
 have e2:idx (Ksw (List.replicate ctx.length 0)) (i:Int)=some (((List.replicate ctx.length (0:Nat))[i]'(by simpa using hl):Nat):Int):=by
  rw [Kmj (by rw [Ksx]; simpa using hl)]; simp [Ksw]
 have e3:List.set (Ksw (List.replicate ctx.length 0)) i 1=Ksw ((List.replicate ctx.length 0).set i 1):=by unfold Ksw; rw [List.map_set]; rfl
 have hf:=Kvi (s:=s) (ty:=ty) (ks:=[]) (zs:=List.replicate ctx.length 0) hq (by simpa using hl) (Kua hy)
 have im:=Kv4 (p0:=⟨s⟩) (t:=⟨0,(i:Int),ty,[]⟩) (by omega) (Kuv (Nat.le_refl _)) hf
 refine Kvx.good (q:=ctx[i]) (ns:=(List.replicate ctx.length 0).set i 1) (kids:=[]) ?_ ?_ (by rw [tsz]; omega) hy (by simp) ?_ rfl (fun i k hk=>by simp at hk)
 ·rw [Kdm.eq_def]
  simp [hz,e1,e2,Kpz ctx[i] (by have:=Kua hy; omega),e3]
 ·exact Kwf (Kua hy) im
 ·intro x hx
  have h1:=Kt3 hs
  rcases List.mem_or_eq_of_mem_set hx with h | rfl
  ·rw [List.eq_of_mem_replicate h]; omega
  ·exact h1
theorem Kwi {t:K00} (ht:t.fOp=1) (h:tOk (gN s.fSize true) (yN s.fSize true) ctx.length t=true) (hb:ctx.length + 2 * tsz t ≤ 1000000):∃ x y,Kvx s n ctx t x y:=by
 have hk:=Kur h ht
 obtain ⟨op,N,ty,ks⟩:=t
 simp only at ht hk
 subst ht; subst hk
 have hz:=Kty ctx.length (by omega)
 have hf:=Kvj (s:=s) (N:=N) (ty:=ty) (ks:=[]) (ctx:=ctx) (zs:=List.replicate ctx.length 0)
 have im:=Kv4 (p0:=⟨s⟩) (t:=⟨1,N,ty,[]⟩) (by omega) (Kuv (Nat.le_refl _)) hf
 refine Kvx.good (q:=[0]) (ns:=List.replicate ctx.length 0) (kids:=[]) ?_ ?_ (by rw [tsz]; omega) Kug (by simp) ?_ rfl (fun i k hk=>by simp at hk)
 ·rw [Kdm.eq_def]
  simp [hz]
 ·exact Kwf (by decide) im
 ·intro x hx
  rw [List.eq_of_mem_replicate hx]
  exact Kt4 hs
theorem Kwj {q:List Int} (hq:TyS s q):∃ c r,q=c :: r∧((Kns c).1=0 ↔ c=0)∧(c=0→q=[0]):=by
 rcases Kuj hs hq with rfl | ⟨a,b,rfl,_⟩ | ⟨a,b,rfl,_⟩ | ⟨g,a,b,hg,h15,rfl,_⟩ | ⟨g,a,hg,h15,rfl,_⟩
 ·exact ⟨0,[],rfl,by decide,fun _=>rfl⟩
 ·exact ⟨1,_,rfl,by decide,fun h=>absurd h (by decide)⟩
 ·exact ⟨2,_,rfl,by decide,fun h=>absurd h (by decide)⟩
 ·refine ⟨_,_,rfl,?_,fun h=>by omega⟩
  rcases Knu (3 + (g:Int)) with h | h | h | h | h | h | h | h <;> first | omega | (obtain ⟨_,e⟩:=h; rw [e]; simp; omega)
 ·refine ⟨_,_,rfl,?_,fun h=>by omega⟩
  rcases Knu (19 + (g:Int)) with h | h | h | h | h | h | h | h <;> first | omega | (obtain ⟨_,e⟩:=h; rw [e]; simp; omega)
theorem Kwk (ih:Kwe s n (tsz (⟨6,N,ty,ks⟩:K00))) (h:tOk (gN s.fSize true) (yN s.fSize true) ctx.length ⟨6,N,ty,ks⟩=true) (hc:∀ q ∈ ctx,TyS s q) (hb:ctx.length + 2 * tsz (⟨6,N,ty,ks⟩:K00) ≤ 1000000):∃ x y,Kvx s n ctx ⟨6,N,ty,ks⟩ x y:=by
 obtain ⟨k0,rfl,p0⟩:=nd1 h (Nat.le_refl _) rfl
 have hz:=Ksp 6 N ty k0
 have hy:TyS s ty:=Kup h rfl
 have ly:=Kua hy
 obtain ⟨x0,y0,r0⟩:=ih k0 ctx p0 hc (by omega)
 by_cases f0:x0.ffault=0
 rotate_left
 ·exact Kwg (by decide) (by decide) (by decide) hb r0 f0
 obtain ⟨g0,q0,a,na,la,ba⟩:=r0.gd f0
 obtain ⟨c0,t0,ht0,hn0,hz0⟩:=Kwj hs g0
 have L0:=Kua g0
 have e0:Kdo (s,ctx,⟨6,N,ty,[k0]⟩,0)=some x0:=Kvy (i:=0) rfl r0 f0
 have o0:=Kw3 (out:=[]) (nd:=[]) (us:=[]) (w:=0) (t:=⟨6,N,ty,[k0]⟩) (m:=[]) rfl (Kwa (by decide)) r0 (by simp; omega) f0 (by rw [ht0]; exact Kv7 (.inl (by decide))) (Kv5 (show (6:Int) ≠ 10 by decide)) na (by simp <;> omega) (by simp) (by simp) (by simp) (by simp)
 have hf:=Kvk (s:=s) (N:=N) (ty:=ty) (ks:=[k0]) (ctx:=ctx) (us:=[Ksw []]) (z:=Ksw (List.replicate ctx.length 0)) (y0:=y0) (a:=a) (by rw [r0.ty]; omega) (by omega)
 have im:=Kv4 (p0:=⟨s⟩) (t:=⟨6,N,ty,[k0]⟩) (ctx:=ctx) (by omega) (o0.trans (Kuv (Nat.le_refl _))) hf
 rw [r0.ty] at im
 refine Kvx.done (q:=2 :: (x0.fty ++ ty)) (ns:=a) (kids:=[y0]) ?_ im (by omega) (fun hl=>Kuk hs g0 hy (.inr (.inl rfl)) hl) la ba rfl (kd1 (Kvw.mk' (Kw4 (by decide) rfl) r0 f0 (fun _ h=>by cases h) rfl))
 have hg:=Ku1 2 [x0.fty,ty] (by simp) (by simp; omega)
 simp only [List.flatten_cons,List.flatten_nil,List.append_nil] at hg
 rw [Kdm.eq_def]
 simp [e0,f0,hg,na]
theorem Kwl (ih:Kwe s n (tsz (⟨7,N,ty,ks⟩:K00))) (h:tOk (gN s.fSize true) (yN s.fSize true) ctx.length ⟨7,N,ty,ks⟩=true) (hc:∀ q ∈ ctx,TyS s q) (hb:ctx.length + 2 * tsz (⟨7,N,ty,ks⟩:K00) ≤ 1000000):∃ x y,Kvx s n ctx ⟨7,N,ty,ks⟩ x y:=by
 obtain ⟨k0,rfl,p0⟩:=nd1 h (Nat.le_refl _) rfl
 have hz:=Ksp 7 N ty k0
 have hy:TyS s ty:=Kup h rfl
 have ly:=Kua hy
 obtain ⟨x0,y0,r0⟩:=ih k0 ctx p0 hc (by omega)
 by_cases f0:x0.ffault=0
 rotate_left
 ·exact Kwg (by decide) (by decide) (by decide) hb r0 f0
 obtain ⟨g0,q0,a,na,la,ba⟩:=r0.gd f0
 obtain ⟨c0,t0,ht0,hn0,hz0⟩:=Kwj hs g0
 have L0:=Kua g0
 have e0:Kdo (s,ctx,⟨7,N,ty,[k0]⟩,0)=some x0:=Kvy (i:=0) rfl r0 f0
 have o0:=Kw3 (out:=[]) (nd:=[]) (us:=[]) (w:=0) (t:=⟨7,N,ty,[k0]⟩) (m:=[]) rfl (Kwa (by decide)) r0 (by simp; omega) f0 (by rw [ht0]; exact Kv7 (.inl (by decide))) (Kv5 (show (7:Int) ≠ 10 by decide)) na (by simp <;> omega) (by simp) (by simp) (by simp) (by simp)
 have hf:=Kvl (s:=s) (N:=N) (ty:=ty) (ks:=[k0]) (ctx:=ctx) (us:=[Ksw []]) (z:=Ksw (List.replicate ctx.length 0)) (y0:=y0) (a:=a) (by rw [r0.ty]; omega) (by omega)
 have im:=Kv4 (p0:=⟨s⟩) (t:=⟨7,N,ty,[k0]⟩) (ctx:=ctx) (by omega) (o0.trans (Kuv (Nat.le_refl _))) hf
 rw [r0.ty] at im
 refine Kvx.done (q:=2 :: (ty ++ x0.fty)) (ns:=a) (kids:=[y0]) ?_ im (by omega) (fun hl=>Kuk hs hy g0 (.inr (.inl rfl)) hl) la ba rfl (kd1 (Kvw.mk' (Kw4 (by decide) rfl) r0 f0 (fun _ h=>by cases h) rfl))
 have hg:=Ku1 2 [ty,x0.fty] (by simp) (by simp; omega)
 simp only [List.flatten_cons,List.flatten_nil,List.append_nil] at hg
 rw [Kdm.eq_def]
 simp [e0,f0,hg,na]
theorem Kwm (ih:Kwe s n (tsz (⟨11,N,ty,ks⟩:K00))) (h:tOk (gN s.fSize true) (yN s.fSize true) ctx.length ⟨11,N,ty,ks⟩=true) (hc:∀ q ∈ ctx,TyS s q) (hb:ctx.length + 2 * tsz (⟨11,N,ty,ks⟩:K00) ≤ 1000000):∃ x y,Kvx s n ctx ⟨11,N,ty,ks⟩ x y:=by
 obtain ⟨k0,rfl,p0⟩:=nd1 h (Nat.le_refl _) rfl
 have hz:=Ksp 11 N ty k0
 obtain ⟨g,hN,hg'⟩:=Kum hs (Kuo h rfl)
 simp only at hN
 subst hN
 obtain ⟨x0,y0,r0⟩:=ih k0 ctx p0 hc (by omega)
 by_cases f0:x0.ffault=0
 rotate_left
 ·exact Kwg (by decide) (by decide) (by decide) hb r0 f0
 obtain ⟨g0,q0,a,na,la,ba⟩:=r0.gd f0
 obtain ⟨c0,t0,ht0,hn0,hz0⟩:=Kwj hs g0
 have L0:=Kua g0
 have e0:Kdo (s,ctx,⟨11,(g:Int),ty,[k0]⟩,0)=some x0:=Kvy (i:=0) rfl r0 f0
 have o0:=Kw3 (out:=[]) (nd:=[]) (us:=[]) (w:=0) (t:=⟨11,(g:Int),ty,[k0]⟩) (m:=[]) rfl (Kwa (by decide)) r0 (by simp; omega) f0 (by rw [ht0]; exact Kv7 (.inl (by decide))) (Kv5 (show (11:Int) ≠ 10 by decide)) na (by simp <;> omega) (by simp) (by simp) (by simp) (by simp)
 have hf:=Kvq (ty:=ty) (ks:=[k0]) (ctx:=ctx) (us:=[Ksw []]) (z:=Ksw (List.replicate ctx.length 0)) (y0:=y0) (a:=a) hs hg' ba (by omega) (by rw [r0.ty]; omega)
 have im:=Kv4 (p0:=⟨s⟩) (t:=⟨11,(g:Int),ty,[k0]⟩) (ctx:=ctx) (by omega) (o0.trans (Kuv (Nat.le_refl _))) hf
 rw [r0.ty] at im
 have hn:=hs.tab.hi
 refine Kvx.done (q:=(19 + (g:Int)) :: x0.fty) (ns:=Kta s n g a) (kids:=[y0]) ?_ im (by omega) (fun hl=>Kul hs hg' g0 hl) (by unfold Kta; rw [List.length_map]; exact la) (Ktg hs hg' ba) rfl (kd1 (Kvw.mk' (Kw4 (by decide) rfl) r0 f0 (fun _ h=>by cases h) rfl))
 have hg:=Ku1 (19 + (g:Int)) [x0.fty] (by simp) (by simp; omega)
 simp only [List.flatten_cons,List.flatten_nil,List.append_nil] at hg
 have hsc:=Ktg hs hg' ba
 have hz0:=Ktj hs hsc
 rw [show (Kta s n g a).length=ctx.length by unfold Kta; rw [List.length_map]; exact la] at hz0
 have hsum:=Ktl hs g hg' (List.replicate ctx.length 0) a (fun x hx=>by rw [List.eq_of_mem_replicate hx]; exact Kt4 hs) ba (by simp; omega) (by simp [la])
 rw [hz0] at hsum
 have hw:wr (19 + (g:Int))=19 + (g:Int):=Kmi (by omega) (by omega)
 rw [Kdm.eq_def]
 simp [e0,f0,hg,na,hw,Kty ctx.length (by omega),hsum]
theorem Kwn (ih:Kwe s n (tsz (⟨9,N,ty,ks⟩:K00))) (h:tOk (gN s.fSize true) (yN s.fSize true) ctx.length ⟨9,N,ty,ks⟩=true) (hc:∀ q ∈ ctx,TyS s q) (hb:ctx.length + 2 * tsz (⟨9,N,ty,ks⟩:K00) ≤ 1000000):∃ x y,Kvx s n ctx ⟨9,N,ty,ks⟩ x y:=by
 obtain ⟨k0,rfl,p0⟩:=nd1 h (Nat.le_refl _) rfl
 have hz:=Ksp 9 N ty k0
 obtain ⟨g,hN,hg'⟩:=Kum hs (Kuo h rfl)
 simp only at hN
 subst hN
 have hy:TyS s ty:=Kup h rfl
 have ly:=Kua hy
 have hn:=hs.tab.hi
 have p0':Kun s ([ty] ++ ctx).length k0 (tsz (⟨9,(g:Int),ty,[k0]⟩:K00)):=by
  have e:([ty] ++ ctx).length=ctx.length + Koz 9 0:=by simp [Koz]
  rw [e]; exact p0
 obtain ⟨x0,y0,r0⟩:=ih k0 ([ty] ++ ctx) p0' (fun q hq=>by rcases List.mem_cons.1 hq with rfl | hq; exact hy; exact hc q hq) (by simp; omega)
 have hw9:=Ktz ctx [ty] (by simp; omega)
 by_cases f0:x0.ffault=0
 rotate_left
 ·have e0:Kdo (s,ty :: ctx,⟨9,(g:Int),ty,[k0]⟩,0)=some ⟨[],[],x0.ffault,0 :: x0.fpath⟩:=Kvz (i:=0) rfl r0 (by omega) f0
  refine Kvx.bad (f:=x0.ffault) (p:=0 :: x0.fpath) ?_ (Kv3 (by omega) (Kw0 (m:=[ty]) rfl Kwb r0 (by omega) (by simp; omega) f0)) f0 (by have:=r0.pl; simp; omega)
  rw [Kdm.eq_def]
  simp [hw9,e0,f0]
 obtain ⟨g0,q0,a,na,la,ba⟩:=r0.gd f0
 obtain ⟨c0,t0,ht0,hn0,hz0⟩:=Kwj hs g0
 have L0:=Kua g0
 have e0:Kdo (s,ty :: ctx,⟨9,(g:Int),ty,[k0]⟩,0)=some x0:=Kvy (i:=0) rfl r0 f0
 have la':a.length=ctx.length + 1:=by rw [la]; simp
 obtain ⟨u0,a',rfl⟩:∃ u0 a',a=u0 :: a':=by cases a with | nil=>simp at la' | cons u a'=>exact ⟨u,a',rfl⟩
 obtain ⟨hu0,ba'⟩:=Ktd ba
 have o0:=Kw3 (out:=[]) (nd:=[]) (us:=[]) (w:=0) (t:=⟨9,(g:Int),ty,[k0]⟩) (m:=[ty]) rfl Kwb r0 (by simp; omega) f0 (by rw [ht0]; exact Kv7 (.inl (by decide))) (Kv5 (show (9:Int) ≠ 10 by decide)) na (by simp <;> omega) (by simp) (by simp) (by simp) (by simp)
 simp only [List.length_cons,List.length_nil,Nat.zero_add,List.drop_succ_cons,List.drop_zero,List.take_succ_cons,List.take_zero,List.nil_append] at o0
 have hf:=Kvp (ty:=ty) (ks:=[k0]) (ctx:=ctx) (z:=Ksw (List.replicate ctx.length 0)) (y0:=y0) (a:=a') (u:=[u0]) hs hg' (fun x hx=>by simp at hx; rw [hx]; exact hu0) (by simp) (by rw [r0.ty]; omega) (by omega)
 have hl0:=o0.trans (Kuv (Nat.le_refl _))
 have hle:=sLe hs.tab hu0 hg'
 have hw:wr (3 + (g:Int))=3 + (g:Int):=Kmi (by omega) (by omega)
 have hi0:idx x0.fneeds 0=some (u0:Int):=by rw [na]; rfl
 simp only [List.all_cons,List.all_nil,Bool.and_true] at hf
 cases hl:le s n u0 g with
 | false =>
  rw [hl,if_neg (by decide)] at hf
  refine Kvx.bad (f:=9) (p:=[]) ?_ (Kv4 (by omega) hl0 hf) (by decide) (by simp; omega)
  rw [Kdm.eq_def]
  simp [hw9,e0,f0,hi0,hle,hl,Kcw]
 | true =>
  rw [hl,if_pos rfl] at hf
  have im:=Kv4 (by omega) hl0 hf
  rw [r0.ty] at im
  refine Kvx.done (q:=(3 + (g:Int)) :: (ty ++ x0.fty)) (ns:=a') (kids:=[y0]) ?_ im (by omega) (fun hl=>Kuk hs hy g0 (.inr (.inr ⟨g,hg',rfl⟩)) hl) (by simpa using la') ba' rfl (kd1 (Kvw.mk' (m:=[ty]) Kw5 r0 f0 (fun q hq=>by simp at hq; rw [hq]; exact hy) rfl))
  have hg:=Ku1 (3 + (g:Int)) [ty,x0.fty] (by simp) (by simp; omega)
  simp only [List.flatten_cons,List.flatten_nil,List.append_nil] at hg
  have hcut:cut x0.fneeds (some 1) none none=some (Ksw a'):=by rw [na]; exact Krt _ _
  rw [Kdm.eq_def]
  simp [hw9,e0,f0,hi0,hle,hl,hg,hw,hcut,Kpz (Ksw a') (by rw [Ksx]; simp at la'; omega)]
theorem Kwo (ih:Kwe s n (tsz (⟨4,N,ty,ks⟩:K00))) (h:tOk (gN s.fSize true) (yN s.fSize true) ctx.length ⟨4,N,ty,ks⟩=true) (hc:∀ q ∈ ctx,TyS s q) (hb:ctx.length + 2 * tsz (⟨4,N,ty,ks⟩:K00) ≤ 1000000):∃ x y,Kvx s n ctx ⟨4,N,ty,ks⟩ x y:=by
 obtain ⟨k0,k1,rfl,p0,p1⟩:=nd2 h (Nat.le_refl _) rfl
 have hz:=Ksq 4 N ty k0 k1
 obtain ⟨x0,y0,r0⟩:=ih k0 ctx p0 hc (by omega)
 obtain ⟨x1,y1,r1⟩:=ih k1 ctx p1 hc (by omega)
 by_cases f0:x0.ffault=0
 rotate_left
 ·exact Kwg (by decide) (by decide) (by decide) hb r0 f0
 obtain ⟨g0,q0,a,na,la,ba⟩:=r0.gd f0
 obtain ⟨c0,t0,ht0,hn0,hz0⟩:=Kwj hs g0
 have L0:=Kua g0
 have e0:Kdo (s,ctx,⟨4,N,ty,[k0,k1]⟩,0)=some x0:=Kvy (i:=0) rfl r0 f0
 have o0:=Kw3 (out:=[]) (nd:=[]) (us:=[]) (w:=0) (t:=⟨4,N,ty,[k0,k1]⟩) (m:=[]) rfl (Kwa (by decide)) r0 (by simp; omega) f0 (by rw [ht0]; exact Kv7 (.inl (by decide))) (Kv5 (show (4:Int) ≠ 10 by decide)) na (by simp <;> omega) (by simp) (by simp) (by simp) (by simp)
 have m1:Kus ⟨4,N,ty,[k0,k1]⟩ [y0] 1=some []:=Kwc (by decide) (Kw4 (by decide) rfl)
 by_cases f1:x1.ffault=0
 rotate_left
 ·have e1:Kdo (s,ctx,⟨4,N,ty,[k0,k1]⟩,1)=some ⟨[],[],x1.ffault,1 :: x1.fpath⟩:=Kvz (i:=1) rfl r1 (by omega) f1
  refine Kvx.bad (f:=x1.ffault) (p:=1 :: x1.fpath) ?_ (Kv3 (by omega) (o0.trans (Kw0 (m:=[]) rfl m1 r1 (by omega) (by simp; omega) f1))) f1 (by have:=r1.pl; simp; omega)
  rw [Kdm.eq_def]
  simp [e0,f0,e1,f1]
 obtain ⟨g1,q1,b,nb,lb,bb⟩:=r1.gd f1
 obtain ⟨c1,t1,ht1,hn1,hz1⟩:=Kwj hs g1
 have L1:=Kua g1
 have e1:Kdo (s,ctx,⟨4,N,ty,[k0,k1]⟩,1)=some x1:=Kvy (i:=1) rfl r1 f1
 have o1:=Kw3 (out:=[y0]) (nd:=[Ksw a]) (us:=[Ksw []]) (w:=1) (t:=⟨4,N,ty,[k0,k1]⟩) (m:=[]) rfl m1 r1 (by simp; omega) f1 (by rw [ht1]; exact Kv7 (.inl (by decide))) (Kv5 (show (4:Int) ≠ 10 by decide)) nb (by simp <;> omega) (by simp) (by simp) (by simp) (by simp)
 have hf:=Kvo (N:=N) (ty:=ty) (ks:=[k0,k1]) (ctx:=ctx) (us:=[Ksw [],Ksw []]) (z:=Ksw (List.replicate ctx.length 0)) (y0:=y0) (y1:=y1) hs ba bb (by omega) (by omega) (by rw [r0.ty]; omega) (by rw [r1.ty]; omega)
 have im:=Kv4 (p0:=⟨s⟩) (t:=⟨4,N,ty,[k0,k1]⟩) (ctx:=ctx) (by omega) (o0.trans (o1.trans (Kuv (Nat.le_refl _)))) hf
 rw [r0.ty,r1.ty] at im
 refine Kvx.done (q:=1 :: (x0.fty ++ x1.fty)) (ns:=Kt9 s n a b) (kids:=[y0,y1]) ?_ im (by omega) (fun hl=>Kuk hs g0 g1 (.inl rfl) hl) (by unfold Kt9; rw [List.length_zipWith]; omega) (Ktf hs ba bb) rfl (kd2 (Kvw.mk' (Kw4 (by decide) rfl) r0 f0 (fun _ h=>by cases h) rfl) (Kvw.mk' (Kw4 (by decide) rfl) r1 f1 (fun _ h=>by cases h) rfl))
 have hg:=Ku1 1 [x0.fty,x1.fty] (by simp) (by simp; omega)
 simp only [List.flatten_cons,List.flatten_nil,List.append_nil] at hg
 rw [Kdm.eq_def]
 simp [e0,f0,e1,f1,hg,na,nb,Ktm hs a b ba bb (by omega) (by omega)]
theorem Kwp (ih:Kwe s n (tsz (⟨2,N,ty,ks⟩:K00))) (h:tOk (gN s.fSize true) (yN s.fSize true) ctx.length ⟨2,N,ty,ks⟩=true) (hc:∀ q ∈ ctx,TyS s q) (hb:ctx.length + 2 * tsz (⟨2,N,ty,ks⟩:K00) ≤ 1000000):∃ x y,Kvx s n ctx ⟨2,N,ty,ks⟩ x y:=by
 obtain ⟨k0,k1,rfl,p0,p1⟩:=nd2 h (Nat.le_refl _) rfl
 have hz:=Ksq 2 N ty k0 k1
 obtain ⟨x0,y0,r0⟩:=ih k0 ctx p0 hc (by omega)
 obtain ⟨x1,y1,r1⟩:=ih k1 ctx p1 hc (by omega)
 by_cases f0:x0.ffault=0
 rotate_left
 ·exact Kwg (by decide) (by decide) (by decide) hb r0 f0
 obtain ⟨g0,q0,a,na,la,ba⟩:=r0.gd f0
 obtain ⟨c0,t0,ht0,hn0,hz0⟩:=Kwj hs g0
 have L0:=Kua g0
 have e0:Kdo (s,ctx,⟨2,N,ty,[k0,k1]⟩,0)=some x0:=Kvy (i:=0) rfl r0 f0
 have i0:idx x0.fty 0=some c0:=by rw [ht0]; rfl
 by_cases z0:c0=0
 rotate_left
 ·refine Kvx.bad (f:=2) (p:=[]) ?_ (Kv3 (by omega) (Kw1 (m:=[]) rfl (Kwa (by decide)) r0 (by simp; omega) f0 (by rw [ht0,Kv8,if_neg (by rw [hn0]; exact z0)]) (by decide))) (by decide) (by simp; omega)
  rw [Kdm.eq_def]
  simp [e0,f0,i0,z0,Kcw]
 have u0:=hz0 z0
 have s0:(Kns c0).1=0:=hn0.2 z0
 have o0:=Kw3 (out:=[]) (nd:=[]) (us:=[]) (w:=0) (t:=⟨2,N,ty,[k0,k1]⟩) (m:=[]) rfl (Kwa (by decide)) r0 (by simp; omega) f0 (by rw [ht0,Kv8,if_pos s0]) (Kv5 (show (2:Int) ≠ 10 by decide)) na (by simp <;> omega) (by simp) (by simp) (by simp) (by simp)
 have m1:Kus ⟨2,N,ty,[k0,k1]⟩ [y0] 1=some []:=Kwc (by decide) (Kw4 (by decide) rfl)
 by_cases f1:x1.ffault=0
 rotate_left
 ·have e1:Kdo (s,ctx,⟨2,N,ty,[k0,k1]⟩,1)=some ⟨[],[],x1.ffault,1 :: x1.fpath⟩:=Kvz (i:=1) rfl r1 (by omega) f1
  refine Kvx.bad (f:=x1.ffault) (p:=1 :: x1.fpath) ?_ (Kv3 (by omega) (o0.trans (Kw0 (m:=[]) rfl m1 r1 (by omega) (by simp; omega) f1))) f1 (by have:=r1.pl; simp; omega)
  rw [Kdm.eq_def]
  simp [e0,f0,i0,z0,Kdp.eq_def,e1,f1]
 obtain ⟨g1,q1,b,nb,lb,bb⟩:=r1.gd f1
 obtain ⟨c1,t1,ht1,hn1,hz1⟩:=Kwj hs g1
 have L1:=Kua g1
 have e1:Kdo (s,ctx,⟨2,N,ty,[k0,k1]⟩,1)=some x1:=Kvy (i:=1) rfl r1 f1
 have i1:idx x1.fty 0=some c1:=by rw [ht1]; rfl
 by_cases z1:c1=0
 rotate_left
 ·refine Kvx.bad (f:=2) (p:=[]) ?_ (Kv3 (by omega) (o0.trans (Kw1 (m:=[]) rfl m1 r1 (by simp; omega) f1 (by rw [ht1,Kv8,if_neg (by rw [hn1]; exact z1)]) (by decide)))) (by decide) (by simp; omega)
  rw [Kdm.eq_def]
  simp [e0,f0,i0,z0,e1,f1,i1,z1,Kcw,Kdp.eq_def]
 have u1:=hz1 z1
 have s1:(Kns c1).1=0:=hn1.2 z1
 have o1:=Kw3 (out:=[y0]) (nd:=[Ksw a]) (us:=[Ksw []]) (w:=1) (t:=⟨2,N,ty,[k0,k1]⟩) (m:=[]) rfl m1 r1 (by simp; omega) f1 (by rw [ht1,Kv8,if_pos s1]) (Kv5 (show (2:Int) ≠ 10 by decide)) nb (by simp <;> omega) (by simp) (by simp) (by simp) (by simp)
 have hf:=Kvm (N:=N) (ty:=ty) (ks:=[k0,k1]) (ctx:=ctx) (us:=[Ksw [],Ksw []]) (z:=Ksw (List.replicate ctx.length 0)) (y0:=y0) (y1:=y1) hs ba bb (by omega) (by omega)
 have im:=Kv4 (p0:=⟨s⟩) (t:=⟨2,N,ty,[k0,k1]⟩) (ctx:=ctx) (by omega) (o0.trans (o1.trans (Kuv (Nat.le_refl _)))) hf
 replace im:=Kwf (q:=[0]) (ns:=Kt9 s n a b) (kids:=[y0,y1]) (by decide) im
 refine Kvx.good (q:=[0]) (ns:=Kt9 s n a b) (kids:=[y0,y1]) ?_ im (by omega) Kug (by unfold Kt9; rw [List.length_zipWith]; omega) (Ktf hs ba bb) rfl (kd2 (Kvw.mk' (Kw4 (by decide) rfl) r0 f0 (fun _ h=>by cases h) rfl) (Kvw.mk' (Kw4 (by decide) rfl) r1 f1 (fun _ h=>by cases h) rfl))
 rw [Kdm.eq_def]
 simp [e0,f0,i0,z0,e1,f1,i1,z1,na,nb,u1,Kvf,Ktm hs a b ba bb (by omega) (by omega),Kdp.eq_def]
theorem Kwq (ih:Kwe s n (tsz (⟨3,N,ty,ks⟩:K00))) (h:tOk (gN s.fSize true) (yN s.fSize true) ctx.length ⟨3,N,ty,ks⟩=true) (hc:∀ q ∈ ctx,TyS s q) (hb:ctx.length + 2 * tsz (⟨3,N,ty,ks⟩:K00) ≤ 1000000):∃ x y,Kvx s n ctx ⟨3,N,ty,ks⟩ x y:=by
 obtain ⟨k0,k1,k2,rfl,p0,p1,p2⟩:=nd3 h (Nat.le_refl _) rfl
 have hz:=Ksr 3 N ty k0 k1 k2
 obtain ⟨x0,y0,r0⟩:=ih k0 ctx p0 hc (by omega)
 obtain ⟨x1,y1,r1⟩:=ih k1 ctx p1 hc (by omega)
 obtain ⟨x2,y2,r2⟩:=ih k2 ctx p2 hc (by omega)
 by_cases f0:x0.ffault=0
 rotate_left
 ·exact Kwg (by decide) (by decide) (by decide) hb r0 f0
 obtain ⟨g0,q0,a,na,la,ba⟩:=r0.gd f0
 obtain ⟨c0,t0,ht0,hn0,hz0⟩:=Kwj hs g0
 have L0:=Kua g0
 have e0:Kdo (s,ctx,⟨3,N,ty,[k0,k1,k2]⟩,0)=some x0:=Kvy (i:=0) rfl r0 f0
 have i0:idx x0.fty 0=some c0:=by rw [ht0]; rfl
 by_cases z0:c0=0
 rotate_left
 ·refine Kvx.bad (f:=2) (p:=[]) ?_ (Kv3 (by omega) (Kw1 (m:=[]) rfl (Kwa (by decide)) r0 (by simp; omega) f0 (by rw [ht0,Kv9,if_neg (by rw [hn0]; exact z0)]) (by decide))) (by decide) (by simp; omega)
  rw [Kdm.eq_def]
  simp [e0,f0,i0,z0,Kcw]
 have u0:=hz0 z0
 have s0:(Kns c0).1=0:=hn0.2 z0
 have o0:=Kw3 (out:=[]) (nd:=[]) (us:=[]) (w:=0) (t:=⟨3,N,ty,[k0,k1,k2]⟩) (m:=[]) rfl (Kwa (by decide)) r0 (by simp; omega) f0 (by rw [ht0,Kv9,if_pos s0]) (Kv5 (show (3:Int) ≠ 10 by decide)) na (by simp <;> omega) (by simp) (by simp) (by simp) (by simp)
 have m1:Kus ⟨3,N,ty,[k0,k1,k2]⟩ [y0] 1=some []:=Kwc (by decide) (Kw4 (by decide) rfl)
 by_cases f1:x1.ffault=0
 rotate_left
 ·have e1:Kdo (s,ctx,⟨3,N,ty,[k0,k1,k2]⟩,1)=some ⟨[],[],x1.ffault,1 :: x1.fpath⟩:=Kvz (i:=1) rfl r1 (by omega) f1
  refine Kvx.bad (f:=x1.ffault) (p:=1 :: x1.fpath) ?_ (Kv3 (by omega) (o0.trans (Kw0 (m:=[]) rfl m1 r1 (by omega) (by simp; omega) f1))) f1 (by have:=r1.pl; simp; omega)
  rw [Kdm.eq_def]
  simp [e0,f0,i0,z0,Kdp.eq_def,e1,f1]
 obtain ⟨g1,q1,b,nb,lb,bb⟩:=r1.gd f1
 obtain ⟨c1,t1,ht1,hn1,hz1⟩:=Kwj hs g1
 have L1:=Kua g1
 have e1:Kdo (s,ctx,⟨3,N,ty,[k0,k1,k2]⟩,1)=some x1:=Kvy (i:=1) rfl r1 f1
 have o1:=Kw3 (out:=[y0]) (nd:=[Ksw a]) (us:=[Ksw []]) (w:=1) (t:=⟨3,N,ty,[k0,k1,k2]⟩) (m:=[]) rfl m1 r1 (by simp; omega) f1 (by rw [ht1]; exact Kv7 (.inr (by decide))) (Kv5 (show (3:Int) ≠ 10 by decide)) nb (by simp <;> omega) (by simp) (by simp) (by simp) (by simp)
 have m2:Kus ⟨3,N,ty,[k0,k1,k2]⟩ [y0,y1] 2=some []:=Kwc (by decide) (Kw4 (by decide) rfl)
 by_cases f2:x2.ffault=0
 rotate_left
 ·have e2:Kdo (s,ctx,⟨3,N,ty,[k0,k1,k2]⟩,2)=some ⟨[],[],x2.ffault,2 :: x2.fpath⟩:=Kvz (i:=2) rfl r2 (by omega) f2
  refine Kvx.bad (f:=x2.ffault) (p:=2 :: x2.fpath) ?_ (Kv3 (by omega) (o0.trans (o1.trans (Kw0 (m:=[]) rfl m2 r2 (by omega) (by simp; omega) f2)))) f2 (by have:=r2.pl; simp; omega)
  rw [Kdm.eq_def]
  simp [e0,f0,i0,z0,e1,f1,Kdp.eq_def,e2,f2]
 obtain ⟨g2,q2,d,nd,ld,bd⟩:=r2.gd f2
 obtain ⟨c2,t2,ht2,hn2,hz2⟩:=Kwj hs g2
 have L2:=Kua g2
 have e2:Kdo (s,ctx,⟨3,N,ty,[k0,k1,k2]⟩,2)=some x2:=Kvy (i:=2) rfl r2 f2
 have o2:=Kw3 (out:=[y0,y1]) (nd:=[Ksw a,Ksw b]) (us:=[Ksw [],Ksw []]) (w:=2) (t:=⟨3,N,ty,[k0,k1,k2]⟩) (m:=[]) rfl m2 r2 (by simp; omega) f2 (by rw [ht2]; exact Kv7 (.inr (by decide))) (Kv5 (show (3:Int) ≠ 10 by decide)) nd (by simp <;> omega) (by simp) (by simp) (by simp) (by simp)
 have hf:=Kvn (N:=N) (ty:=ty) (ks:=[k0,k1,k2]) (ctx:=ctx) (us:=[Ksw [],Ksw [],Ksw []]) (z:=Ksw (List.replicate ctx.length 0)) (y0:=y0) (y1:=y1) (y2:=y2) hs ba bb bd (by omega) (by omega) (by omega) (by rw [r2.ty]; omega) (by rw [r1.ty]; omega)
 have hl0:=o0.trans (o1.trans (o2.trans (Kuv (Nat.le_refl _))))
 
 have hsm:=Ks0 x1.fty x2.fty (by omega)
 have lj:(Ktb s n b d).length=ctx.length:=by unfold Ktb; rw [List.length_zipWith]; omega
 rw [r1.ty,r2.ty] at hf
 by_cases hq:x1.fty=x2.fty
 ·rw [if_pos hq] at hf
  have im:=Kv4 (by omega) hl0 hf
  replace im:=Kwf (q:=x1.fty) (ns:=Kt9 s n a (Ktb s n b d)) (kids:=[y0,y1,y2]) (by omega) im
  refine Kvx.good (q:=x1.fty) (ns:=Kt9 s n a (Ktb s n b d)) (kids:=[y0,y1,y2]) ?_ im (by omega) g1 (by unfold Kt9; rw [List.length_zipWith]; omega) (Ktf hs ba (Kth hs bb bd)) rfl (kd3 (Kvw.mk' (Kw4 (by decide) rfl) r0 f0 (fun _ h=>by cases h) rfl) (Kvw.mk' (Kw4 (by decide) rfl) r1 f1 (fun _ h=>by cases h) rfl) (Kvw.mk' (Kw4 (by decide) rfl) r2 f2 (fun _ h=>by cases h) rfl))
  rw [show (x1.fty == x2.fty)=true from beq_iff_eq.2 hq] at hsm
  rw [Kdm.eq_def]
  simp [e0,f0,i0,z0,e1,f1,e2,f2,hsm,na,nb,nd,Kto hs b d bb bd (by omega) (by omega),Ktm hs a (Ktb s n b d) ba (Kth hs bb bd) (by omega) (by omega),Kdp.eq_def]
 ·rw [if_neg hq] at hf
  refine Kvx.bad (f:=3) (p:=[]) ?_ (Kv4 (by omega) hl0 hf) (by decide) (by simp; omega)
  rw [show (x1.fty == x2.fty)=false from beq_eq_false_iff_ne.2 hq] at hsm
  rw [Kdm.eq_def]
  simp [e0,f0,i0,z0,e1,f1,e2,f2,hsm,Kdp.eq_def,Kcw]
end
theorem Kwr (g:Nat) (h:g ≤ 15):Kns (3 + (g:Int))=(3,(g:Int)):=by
 rcases Knu (3 + (g:Int)) with h | h | h | h | h | h | h | h <;> first | omega | (obtain ⟨_,e⟩:=h; rw [e]; congr 1; omega)
theorem Kws (g:Nat) (h:g ≤ 15):Kns (19 + (g:Int))=(4,(g:Int)):=by
 rcases Knu (19 + (g:Int)) with h | h | h | h | h | h | h | h <;> first | omega | (obtain ⟨_,e⟩:=h; rw [e]; congr 1; omega)
theorem Kwt (g:Nat) (h:g ≤ 15):Knl (3 + (g:Int))=true:=by unfold Knl inB; simp; omega
theorem Kwu (g:Nat) (h:g ≤ 15):Knl (19 + (g:Int))=false:=by unfold Knl inB; simp; omega
theorem Kwv (g:Nat) (h:g ≤ 15):Knm (3 + (g:Int))=false:=by unfold Knm inB; simp; omega
theorem Kww (g:Nat) (h:g ≤ 15):Knm (19 + (g:Int))=true:=by unfold Knm inB; simp; omega
theorem Kwx (g:Nat) (h:g ≤ 15):Kcn (3 + (g:Int))=some (g:Int):=by
 rw [Koa (by rcases Knr (3 + (g:Int)) with h | h | h | h <;> omega)]
 unfold Ko8
 rw [if_neg (by omega),if_neg (by omega)]
 congr 1; omega
theorem Kwy (g:Nat) (h:g ≤ 15):Kcn (19 + (g:Int))=some (g:Int):=by
 rw [Koa (by rcases Knr (19 + (g:Int)) with h | h | h | h <;> omega)]
 unfold Ko8
 rw [if_neg (by omega),if_pos (by omega)]
 congr 1; omega
section
variable {s:K02} {n:Nat} (hs:Kt1 s n) {ctx:List (List Int)} {N:Int} {ty:List Int} {ks:List K00}
include hs
structure Kwz (s:K02) (n:Nat) (q:List Int) (c:Int):Prop where
 arr:(Kns c).1=3→∃ (g:Nat) (a b:List Int),g < n∧g ≤ 15∧c=3 + (g:Int)∧q=c :: (a ++ b)∧Kud s (3 + (g:Int)) a b
 pair:(Kns c).1=1→∃ (a b:List Int),c=1∧q=c :: (a ++ b)∧Kud s 1 a b
 sum:(Kns c).1=2→∃ (a b:List Int),c=2∧q=c :: (a ++ b)∧Kud s 2 a b
 box:(Kns c).1=4→∃ (g:Nat) (a:List Int),g < n∧g ≤ 15∧c=19 + (g:Int)∧q=c :: a∧Kue s (19 + (g:Int)) a
 arrB:Knl c=true ↔ (Kns c).1=3
 boxB:Knm c=true ↔ (Kns c).1=4
 one:c=1 ↔ (Kns c).1=1
 two:c=2 ↔ (Kns c).1=2
theorem Kx0 {q:List Int} (hq:TyS s q) {c:Int} {r:List Int} (e:q=c :: r):Kwz s n q c:=by
 rcases Kuj hs hq with rfl | ⟨a,b,rfl,P⟩ | ⟨a,b,rfl,P⟩ | ⟨g,a,b,hg,h15,rfl,P⟩ | ⟨g,a,hg,h15,rfl,P⟩
 ·cases e
  refine ⟨fun h=>?_,fun h=>?_,fun h=>?_,fun h=>?_,by decide,by decide,by decide,by decide⟩ <;> exact absurd h (by decide)
 ·cases e
  refine ⟨fun h=>absurd h (by decide),fun _=>⟨a,b,rfl,rfl,P⟩,fun h=>absurd h (by decide),fun h=>absurd h (by decide),by decide,by decide,by decide,by decide⟩
 ·cases e
  refine ⟨fun h=>absurd h (by decide),fun h=>absurd h (by decide),fun _=>⟨a,b,rfl,rfl,P⟩,fun h=>absurd h (by decide),by decide,by decide,by decide,by decide⟩
 ·cases e
  have hsh:=Kwr g h15
  refine ⟨fun _=>⟨g,a,b,hg,h15,rfl,rfl,P⟩,fun h=>?_,fun h=>?_,fun h=>?_,?_,?_,?_,?_⟩
  ·rw [hsh] at h; simp at h
  ·rw [hsh] at h; simp at h
  ·rw [hsh] at h; simp at h
  ·rw [hsh,Kwt g h15]; simp
  ·rw [hsh,Kwv g h15]; simp
  ·rw [hsh]; simp; omega
  ·rw [hsh]; simp; omega
 ·cases e
  have hsh:=Kws g h15
  refine ⟨fun h=>?_,fun h=>?_,fun h=>?_,fun _=>⟨g,_,hg,h15,rfl,rfl,P⟩,?_,?_,?_,?_⟩
  ·rw [hsh] at h; simp at h
  ·rw [hsh] at h; simp at h
  ·rw [hsh] at h; simp at h
  ·rw [hsh,Kwu g h15]; simp
  ·rw [hsh,Kww g h15]; simp
  ·rw [hsh]; simp; omega
  ·rw [hsh]; simp; omega
theorem Kx1 (ih:Kwe s n (tsz (⟨10,N,ty,ks⟩:K00))) (h:tOk (gN s.fSize true) (yN s.fSize true) ctx.length ⟨10,N,ty,ks⟩=true) (hc:∀ q ∈ ctx,TyS s q) (hb:ctx.length + 2 * tsz (⟨10,N,ty,ks⟩:K00) ≤ 1000000):∃ x y,Kvx s n ctx ⟨10,N,ty,ks⟩ x y:=by
 obtain ⟨k0,k1,rfl,p0,p1⟩:=nd2 h (Nat.le_refl _) rfl
 have hz:=Ksq 10 N ty k0 k1
 obtain ⟨x0,y0,r0⟩:=ih k0 ctx p0 hc (by omega)
 obtain ⟨x1,y1,r1⟩:=ih k1 ctx p1 hc (by omega)
 by_cases f0:x0.ffault=0
 rotate_left
 ·exact Kwg (by decide) (by decide) (by decide) hb r0 f0
 obtain ⟨g0,q0,a,na,la,ba⟩:=r0.gd f0
 obtain ⟨c0,t0,ht0,hn0,hz0⟩:=Kwj hs g0
 have L0:=Kua g0
 have e0:Kdo (s,ctx,⟨10,N,ty,[k0,k1]⟩,0)=some x0:=Kvy (i:=0) rfl r0 f0
 have C:=Kx0 hs g0 ht0
 have i0:idx x0.fty 0=some c0:=by rw [ht0]; rfl
 by_cases z0:(Kns c0).1=3
 rotate_left
 ·have w0:Knl c0=false:=by cases h:Knl c0 with | true=>exact absurd (C.arrB.1 h) z0 | false=>rfl
  refine Kvx.bad (f:=6) (p:=[]) ?_ (Kv3 (by omega) (Kw1 (m:=[]) rfl (Kwa (by decide)) r0 (by simp; omega) f0 (by rw [ht0,Kva,if_neg z0]) (by decide))) (by decide) (by simp; omega)
  rw [Kdm.eq_def]
  simp [e0,f0,i0,Kno,w0,Kcw]
 obtain ⟨g,p,q,hg,h15,hcg,hq,P⟩:=C.arr z0
 have w0:Knl c0=true:=C.arrB.2 z0
 have o0:=Kw3 (out:=[]) (nd:=[]) (us:=[]) (w:=0) (t:=⟨10,N,ty,[k0,k1]⟩) (m:=[]) rfl (Kwa (by decide)) r0 (by simp; omega) f0 (by rw [ht0,Kva,if_pos z0]) (Kv6 (by decide)) na (by simp <;> omega) (by simp) (by simp) (by simp) (by simp)
 have m1:Kus ⟨10,N,ty,[k0,k1]⟩ [y0] 1=some []:=Kwc (by decide) (Kw4 (by decide) rfl)
 by_cases f1:x1.ffault=0
 rotate_left
 ·have e1:Kdo (s,ctx,⟨10,N,ty,[k0,k1]⟩,1)=some ⟨[],[],x1.ffault,1 :: x1.fpath⟩:=Kvz (i:=1) rfl r1 (by omega) f1
  refine Kvx.bad (f:=x1.ffault) (p:=1 :: x1.fpath) ?_ (Kv3 (by omega) (o0.trans (Kw0 (m:=[]) rfl m1 r1 (by omega) (by simp; omega) f1))) f1 (by have:=r1.pl; simp; omega)
  rw [Kdm.eq_def]
  simp [e0,f0,i0,Kno,w0,e1,f1]
 obtain ⟨g1,q1,b,nb,lb,bb⟩:=r1.gd f1
 obtain ⟨c1,t1,ht1,hn1,hz1⟩:=Kwj hs g1
 have L1:=Kua g1
 have e1:Kdo (s,ctx,⟨10,N,ty,[k0,k1]⟩,1)=some x1:=Kvy (i:=1) rfl r1 f1
 have hp0:Kck (x0.fty,0)=some p:=by rw [hq,hcg]; exact P.p0
 have hp1:Kck (x0.fty,1)=some q:=by rw [hq,hcg]; exact P.p1
 have hpp:Klj y0.fty=some [p,q]:=by rw [r0.ty,hq,hcg]; exact P.pp
 have Lp:=Kua P.ya
 have Lq:=Kua P.yb
 have hsm:=Ks0 x1.fty p (by omega)
 have hsi:=Ks2 x1.fty p (by omega)
 have ha:Kuy ⟨10,N,ty,[k0,k1]⟩ [y0] 1 y1=some (!(x1.fty == p)):=by
  unfold Kuy
  rw [if_pos (show ((10:Int) == 10)=true by decide),if_pos (by decide),Kvf,bs,hpp,bs,Kvf,bs,r1.ty,hsi,bs]
 by_cases hqq:x1.fty=p
 rotate_left
 ·rw [show (x1.fty == p)=false from beq_eq_false_iff_ne.2 hqq] at hsm ha
  refine Kvx.bad (f:=3) (p:=[]) ?_ (Kv3 (by omega) (o0.trans (Kw2 (m:=[]) rfl m1 r1 (by simp; omega) f1 (by rw [ht1]; exact Kv7 (.inr (by decide))) ha))) (by decide) (by simp; omega)
  rw [Kdm.eq_def]
  simp [e0,f0,i0,Kno,w0,e1,f1,hp0,hsm,Kcw]
 rw [show (x1.fty == p)=true from beq_iff_eq.2 hqq] at hsm ha
 have o1:=Kw3 (out:=[y0]) (nd:=[Ksw a]) (us:=[Ksw []]) (w:=1) (t:=⟨10,N,ty,[k0,k1]⟩) (m:=[]) rfl m1 r1 (by simp; omega) f1 (by rw [ht1]; exact Kv7 (.inr (by decide))) ha nb (by simp <;> omega) (by simp) (by simp) (by simp) (by simp)
 have hf:=Kvr (N:=N) (ty:=ty) (ks:=[k0,k1]) (ctx:=ctx) (us:=[Ksw [],Ksw []]) (z:=Ksw (List.replicate ctx.length 0)) (y0:=y0) (y1:=y1) hs hg (p:=p) (q:=q) (by rw [r0.ty,hq,hcg]) P ba bb (by omega) (by omega)
 have im:=Kwf (q:=q) (ns:=Kt9 s n a (Kta s n g b)) (kids:=[y0,y1]) Lq (Kv4 (p0:=⟨s⟩) (t:=⟨10,N,ty,[k0,k1]⟩) (ctx:=ctx) (by omega) (o0.trans (o1.trans (Kuv (Nat.le_refl _)))) hf)
 have lsc:(Kta s n g b).length=ctx.length:=by unfold Kta; rw [List.length_map]; exact lb
 refine Kvx.good (q:=q) (ns:=Kt9 s n a (Kta s n g b)) (kids:=[y0,y1]) ?_ im (by omega) P.yb (by unfold Kt9; rw [List.length_zipWith]; omega) (Ktf hs ba (Ktg hs hg bb)) rfl (kd2 (Kvw.mk' (Kw4 (by decide) rfl) r0 f0 (fun _ h=>by cases h) rfl) (Kvw.mk' (Kw4 (by decide) rfl) r1 f1 (fun _ h=>by cases h) rfl))
 have hgr:Kcn c0=some (g:Int):=by rw [hcg]; exact Kwx g h15
 rw [Kdm.eq_def]
 simp [e0,f0,i0,Kno,w0,e1,f1,hp0,hp1,hsm,hgr,na,nb,Ktl hs g hg a b ba bb (by omega) (by omega)]
theorem Kx2 (ih:Kwe s n (tsz (⟨5,N,ty,ks⟩:K00))) (h:tOk (gN s.fSize true) (yN s.fSize true) ctx.length ⟨5,N,ty,ks⟩=true) (hc:∀ q ∈ ctx,TyS s q) (hb:ctx.length + 2 * tsz (⟨5,N,ty,ks⟩:K00) ≤ 1000000):∃ x y,Kvx s n ctx ⟨5,N,ty,ks⟩ x y:=by
 obtain ⟨k0,k1,rfl,p0,p1⟩:=nd2 h (Nat.le_refl _) rfl
 have hz:=Ksq 5 N ty k0 k1
 obtain ⟨g,hN,hg⟩:=Kum hs (Kuo h rfl)
 simp only at hN
 subst hN
 obtain ⟨x0,y0,r0⟩:=ih k0 ctx p0 hc (by omega)
 by_cases f0:x0.ffault=0
 rotate_left
 ·exact Kwg (by decide) (by decide) (by decide) hb r0 f0
 obtain ⟨g0,q0,a,na,la,ba⟩:=r0.gd f0
 obtain ⟨c0,t0,ht0,hn0,hz0⟩:=Kwj hs g0
 have L0:=Kua g0
 have e0:Kdo (s,ctx,⟨5,(g:Int),ty,[k0,k1]⟩,0)=some x0:=Kvy (i:=0) rfl r0 f0
 have C:=Kx0 hs g0 ht0
 have i0:idx x0.fty 0=some c0:=by rw [ht0]; rfl
 by_cases z0:(Kns c0).1=1
 rotate_left
 ·have w0:c0 ≠ 1:=fun h=>z0 (C.one.1 h)
  refine Kvx.bad (f:=4) (p:=[]) ?_ (Kv3 (by omega) (Kw1 (m:=[]) rfl (Kwa (by decide)) r0 (by simp; omega) f0 (by rw [ht0,Kvb hs hg,if_neg z0]) (by decide))) (by decide) (by simp; omega)
  rw [Kdm.eq_def]
  simp [e0,f0,i0,Kdn.eq_def,w0,Kcw]
 obtain ⟨p,q,hcg,hq,P⟩:=C.pair z0
 have hle:=sLe hs.tab (Kt3 hs) hg
 cases hl:le s n 1 g with
 | false =>
  have hl2:K9g (s,1,(g:Int))=some false:=by rw [← hl]; exact hle
  refine Kvx.bad (f:=8) (p:=[]) ?_ (Kv3 (by omega) (Kw1 (m:=[]) rfl (Kwa (by decide)) r0 (by simp; omega) f0 (by rw [ht0,Kvb hs hg,if_pos z0,hl]; rfl) (by decide))) (by decide) (by simp; omega)
  rw [Kdm.eq_def]
  simp [e0,f0,i0,Kdn.eq_def,hcg,hl2,Kcw]
 | true =>
 have hl2:K9g (s,1,(g:Int))=some true:=by rw [← hl]; exact hle
 have o0:=Kw3 (out:=[]) (nd:=[]) (us:=[]) (w:=0) (t:=⟨5,(g:Int),ty,[k0,k1]⟩) (m:=[]) rfl (Kwa (by decide)) r0 (by simp; omega) f0 (by rw [ht0,Kvb hs hg,if_pos z0,hl]; rfl) (Kv5 (show (5:Int) ≠ 10 by decide)) na (by simp <;> omega) (by simp) (by simp) (by simp) (by simp)
 have hp0:Kck (x0.fty,0)=some p:=by rw [hq,hcg]; exact P.p0
 have hp1:Kck (x0.fty,1)=some q:=by rw [hq,hcg]; exact P.p1
 have ad:Klq (⟨5,(g:Int),ty,[k0,k1]⟩,((1:Nat):Int),y0.fty)=some [q,p]:=by rw [r0.ty,hq,hcg]; exact Kw6 P
 have hm':∀ z ∈ [q,p],TyS s z:=fun z hz=>by simp at hz; rcases hz with rfl | rfl; exact P.yb; exact P.ya
 have m1:Kus ⟨5,(g:Int),ty,[k0,k1]⟩ [y0] 1=some [q,p]:=Kwc (by decide) ad
 have p1':Kun s ([q,p] ++ ctx).length k1 (tsz (⟨5,(g:Int),ty,[k0,k1]⟩:K00)):=by
  have e:([q,p] ++ ctx).length=ctx.length + Koz 5 1:=by simp [Koz]
  rw [e]; exact p1
 obtain ⟨x1,y1,r1⟩:=ih k1 ([q,p] ++ ctx) p1' (fun z hz=>by rcases List.mem_append.1 hz with hz | hz; exact hm' z hz; exact hc z hz) (by simp; omega)
 have hwc:=Ktz ctx [q,p] (by simp; omega)
 by_cases f1:x1.ffault=0
 rotate_left
 ·have e1:Kdo (s,q :: p :: ctx,⟨5,(g:Int),ty,[k0,k1]⟩,1)=some ⟨[],[],x1.ffault,1 :: x1.fpath⟩:=Kvz (i:=1) rfl r1 (by omega) f1
  refine Kvx.bad (f:=x1.ffault) (p:=1 :: x1.fpath) ?_ (Kv3 (by omega) (o0.trans (Kw0 (m:=[q,p]) rfl m1 r1 (by omega) (by simp; omega) f1))) f1 (by have:=r1.pl; simp; omega)
  rw [Kdm.eq_def]
  simp [e0,f0,i0,Kdn.eq_def,hcg,hl2,hp0,hp1,hwc,e1,f1]
 obtain ⟨g1,q1,b,nb,lb,bb⟩:=r1.gd f1
 obtain ⟨c1,t1,ht1,hn1,hz1⟩:=Kwj hs g1
 have L1:=Kua g1
 have e1:Kdo (s,q :: p :: ctx,⟨5,(g:Int),ty,[k0,k1]⟩,1)=some x1:=Kvy (i:=1) rfl r1 f1
 have lb':b.length=ctx.length + 2:=by rw [lb]; simp
 obtain ⟨u0,u1,b',rfl⟩:∃ u0 u1 b',b=u0 :: u1 :: b':=by match b,lb' with | u0 :: u1 :: b',_=>exact ⟨u0,u1,b',rfl⟩ | [_],h=>simp at h | [],h=>simp at h
 obtain ⟨hu0,bb1⟩:=Ktd bb
 obtain ⟨hu1,bb'⟩:=Ktd bb1
 have o1:=Kw3 (out:=[y0]) (nd:=[Ksw a]) (us:=[Ksw []]) (w:=1) (t:=⟨5,(g:Int),ty,[k0,k1]⟩) (m:=[q,p]) rfl m1 r1 (by simp; omega) f1 (by rw [ht1]; exact Kv7 (.inr (by decide))) (Kv5 (show (5:Int) ≠ 10 by decide)) nb (by simp <;> omega) (by simp) (by simp) (by simp) (by simp)
 simp only [List.length_cons,List.length_nil,Nat.zero_add,List.drop_succ_cons,List.drop_zero,List.take_succ_cons,List.take_zero,List.nil_append] at o1
 have hl0:=o0.trans (o1.trans (Kuv (Nat.le_refl _)))
 have lbc:b'.length=ctx.length:=by simp at lb'; omega
 have i1:idx x1.fneeds 0=some (u0:Int):=by rw [nb]; rfl
 have hcut:cut x1.fneeds (some (2:Int)) none none=some (Ksw b'):=by
  rw [nb]
  have:=Kux (l:=Ksw (u0 :: u1 :: b')) (m:=2) (by simp [Ksw])
  exact this
 have hcp:=Kpz (Ksw b') (by rw [Ksx]; omega)
 have i2:idx x1.fneeds 1=some (u1:Int):=by rw [nb]; rfl
 have hle0:=sLe hs.tab hu0 hg
 have hle1:=sLe hs.tab hu1 hg
 have hf:=Kvs (ty:=ty) (ks:=[k0,k1]) (ctx:=ctx) (z:=Ksw (List.replicate ctx.length 0)) (y0:=y0) (y1:=y1) (us':=Ksw []) (u:=[u0,u1]) hs hg (fun x hx=>by simp at hx; rcases hx with rfl | rfl; exact hu0; exact hu1) (by simp) ba bb' (by omega) (by omega) (by rw [r1.ty]; omega)
 simp only [List.all_cons,List.all_nil,Bool.and_true] at hf
 have es:=e1
 cases hal:(le s n u0 g && le s n u1 g) with
 | false =>
  rw [hal,if_neg (by decide)] at hf
  refine Kvx.bad (f:=9) (p:=[]) ?_ (Kv4 (by omega) hl0 hf) (by decide) (by simp; omega)
  rw [Kdm.eq_def]
  simp [e0,f0,i0,Kdn.eq_def,hcg,hl2,hp0,hp1,hwc,e1,f1,i1,i2,hcut,hcp,hle0,hle1,Kcw]
  cases q1:le s n u1 g with
  | false=>simp
  | true=>rw [q1,Bool.and_true] at hal; simp [hal]
 | true =>
  rw [hal,if_pos rfl] at hf
  have im:=Kwf (q:=y1.fty) (ns:=Kt9 s n (Kta s n g a) b') (kids:=[y0,y1]) (by rw [r1.ty]; omega) (Kv4 (by omega) hl0 hf)
  rw [r1.ty] at im
  have lsc:(Kta s n g a).length=ctx.length:=by unfold Kta; rw [List.length_map]; exact la
  have hsc:=Ktg hs hg ba
  have hz0:=Ktj hs hsc
  rw [lsc] at hz0
  have hsum:=Ktl hs g hg (List.replicate ctx.length 0) a (fun x hx=>by rw [List.eq_of_mem_replicate hx]; exact Kt4 hs) ba (by simp; omega) (by simp [la])
  rw [hz0] at hsum
  have hs2:=Ktm hs (Kta s n g a) b' hsc bb' (by omega) (by omega)
  refine Kvx.good (q:=x1.fty) (ns:=Kt9 s n (Kta s n g a) b') (kids:=[y0,y1]) ?_ im (by omega) g1 (by unfold Kt9; rw [List.length_zipWith]; omega) (Ktf hs hsc bb') rfl (kd2 (Kvw.mk' (Kw4 (by decide) rfl) r0 f0 (fun _ h=>by cases h) rfl) (Kvw.mk' ad r1 f1 hm' rfl))
  rw [Kdm.eq_def]
  rw [Bool.and_eq_true] at hal
  simp [e0,f0,i0,Kdn.eq_def,hcg,hl2,hp0,hp1,hwc,e1,f1,i1,i2,hcut,hcp,hle0,hle1,hal.1,hal.2,na,Kty ctx.length (by omega),hsum,hs2]
theorem Kx3 (ih:Kwe s n (tsz (⟨12,N,ty,ks⟩:K00))) (h:tOk (gN s.fSize true) (yN s.fSize true) ctx.length ⟨12,N,ty,ks⟩=true) (hc:∀ q ∈ ctx,TyS s q) (hb:ctx.length + 2 * tsz (⟨12,N,ty,ks⟩:K00) ≤ 1000000):∃ x y,Kvx s n ctx ⟨12,N,ty,ks⟩ x y:=by
 obtain ⟨k0,k1,rfl,p0,p1⟩:=nd2 h (Nat.le_refl _) rfl
 have hz:=Ksq 12 N ty k0 k1
 obtain ⟨g,hN,hg⟩:=Kum hs (Kuo h rfl)
 simp only at hN
 subst hN
 obtain ⟨x0,y0,r0⟩:=ih k0 ctx p0 hc (by omega)
 by_cases f0:x0.ffault=0
 rotate_left
 ·exact Kwg (by decide) (by decide) (by decide) hb r0 f0
 obtain ⟨g0,q0,a,na,la,ba⟩:=r0.gd f0
 obtain ⟨c0,t0,ht0,hn0,hz0⟩:=Kwj hs g0
 have L0:=Kua g0
 have e0:Kdo (s,ctx,⟨12,(g:Int),ty,[k0,k1]⟩,0)=some x0:=Kvy (i:=0) rfl r0 f0
 have C:=Kx0 hs g0 ht0
 have i0:idx x0.fty 0=some c0:=by rw [ht0]; rfl
 by_cases z0:(Kns c0).1=4
 rotate_left
 ·have w0:Knm c0=false:=by cases h:Knm c0 with | true=>exact absurd (C.boxB.1 h) z0 | false=>rfl
  refine Kvx.bad (f:=7) (p:=[]) ?_ (Kv3 (by omega) (Kw1 (m:=[]) rfl (Kwa (by decide)) r0 (by simp; omega) f0 (by rw [ht0,Kvd hs hg,if_neg z0]) (by decide))) (by decide) (by simp; omega)
  rw [Kdm.eq_def]
  simp [e0,f0,i0,Kdn.eq_def,Knp,w0,Kcw]
 obtain ⟨m,p,hm,h15,hcg,hq,P⟩:=C.box z0
 have w0:Knm c0=true:=C.boxB.2 z0
 have hle:=sLe hs.tab (Kt3 hs) hg
 cases hl:le s n 1 g with
 | false =>
  have hl2:K9g (s,1,(g:Int))=some false:=by rw [← hl]; exact hle
  refine Kvx.bad (f:=8) (p:=[]) ?_ (Kv3 (by omega) (Kw1 (m:=[]) rfl (Kwa (by decide)) r0 (by simp; omega) f0 (by rw [ht0,Kvd hs hg,if_pos z0,hl]; rfl) (by decide))) (by decide) (by simp; omega)
  rw [Kdm.eq_def]
  simp [e0,f0,i0,Kdn.eq_def,Knp,w0,hl2,Kcw]
 | true =>
 have hl2:K9g (s,1,(g:Int))=some true:=by rw [← hl]; exact hle
 have o0:=Kw3 (out:=[]) (nd:=[]) (us:=[]) (w:=0) (t:=⟨12,(g:Int),ty,[k0,k1]⟩) (m:=[]) rfl (Kwa (by decide)) r0 (by simp; omega) f0 (by rw [ht0,Kvd hs hg,if_pos z0,hl]; rfl) (Kv5 (show (12:Int) ≠ 10 by decide)) na (by simp <;> omega) (by simp) (by simp) (by simp) (by simp)
 have hp0:Kck (x0.fty,0)=some p:=by rw [hq,hcg]; exact P.p0
 have ad:Klq (⟨12,(g:Int),ty,[k0,k1]⟩,((1:Nat):Int),y0.fty)=some [p]:=by rw [r0.ty,hq,hcg]; exact Kw9 P
 have hm':∀ z ∈ [p],TyS s z:=fun z hz=>by simp at hz; rw [hz]; exact P.ya
 have hgr:Kcn c0=some (m:Int):=by rw [hcg]; exact Kwy m h15
 have m1:Kus ⟨12,(g:Int),ty,[k0,k1]⟩ [y0] 1=some [p]:=Kwc (by decide) ad
 have p1':Kun s ([p] ++ ctx).length k1 (tsz (⟨12,(g:Int),ty,[k0,k1]⟩:K00)):=by
  have e:([p] ++ ctx).length=ctx.length + Koz 12 1:=by simp [Koz]
  rw [e]; exact p1
 obtain ⟨x1,y1,r1⟩:=ih k1 ([p] ++ ctx) p1' (fun z hz=>by rcases List.mem_append.1 hz with hz | hz; exact hm' z hz; exact hc z hz) (by simp; omega)
 have hwc:=Ktz ctx [p] (by simp; omega)
 by_cases f1:x1.ffault=0
 rotate_left
 ·have e1:Kdo (s,p :: ctx,⟨12,(g:Int),ty,[k0,k1]⟩,1)=some ⟨[],[],x1.ffault,1 :: x1.fpath⟩:=Kvz (i:=1) rfl r1 (by omega) f1
  refine Kvx.bad (f:=x1.ffault) (p:=1 :: x1.fpath) ?_ (Kv3 (by omega) (o0.trans (Kw0 (m:=[p]) rfl m1 r1 (by omega) (by simp; omega) f1))) f1 (by have:=r1.pl; simp; omega)
  rw [Kdm.eq_def]
  simp [e0,f0,i0,Kdn.eq_def,Knp,w0,hl2,hp0,hwc,e1,f1]
 obtain ⟨g1,q1,b,nb,lb,bb⟩:=r1.gd f1
 obtain ⟨c1,t1,ht1,hn1,hz1⟩:=Kwj hs g1
 have L1:=Kua g1
 have e1:Kdo (s,p :: ctx,⟨12,(g:Int),ty,[k0,k1]⟩,1)=some x1:=Kvy (i:=1) rfl r1 f1
 have lb':b.length=ctx.length + 1:=by rw [lb]; simp
 obtain ⟨u0,b',rfl⟩:∃ u0 b',b=u0 :: b':=by match b,lb' with | u0 :: b',_=>exact ⟨u0,b',rfl⟩ | [],h=>simp at h
 obtain ⟨hu0,bb'⟩:=Ktd bb
 have o1:=Kw3 (out:=[y0]) (nd:=[Ksw a]) (us:=[Ksw []]) (w:=1) (t:=⟨12,(g:Int),ty,[k0,k1]⟩) (m:=[p]) rfl m1 r1 (by simp; omega) f1 (by rw [ht1]; exact Kv7 (.inr (by decide))) (Kv5 (show (12:Int) ≠ 10 by decide)) nb (by simp <;> omega) (by simp) (by simp) (by simp) (by simp)
 simp only [List.length_cons,List.length_nil,Nat.zero_add,List.drop_succ_cons,List.drop_zero,List.take_succ_cons,List.take_zero,List.nil_append] at o1
 have hl0:=o0.trans (o1.trans (Kuv (Nat.le_refl _)))
 have lbc:b'.length=ctx.length:=by simp at lb'; omega
 have i1:idx x1.fneeds 0=some (u0:Int):=by rw [nb]; rfl
 have hcut:cut x1.fneeds (some (1:Int)) none none=some (Ksw b'):=by
  rw [nb]
  have:=Kux (l:=Ksw (u0 :: b')) (m:=1) (by simp [Ksw])
  exact this
 have hcp:=Kpz (Ksw b') (by rw [Ksx]; omega)
 have hmul:=Kmw hs.tab hg hm
 have htm:=Kmr hs.tab hg hm
 have hle0:=sLe hs.tab hu0 htm
 have hf:=Kvt (ty:=ty) (ks:=[k0,k1]) (ctx:=ctx) (z:=Ksw (List.replicate ctx.length 0)) (y0:=y0) (y1:=y1) (us':=Ksw []) (u:=[u0]) hs hg hm (p:=p) (by rw [r0.ty,hq,hcg]) (fun x hx=>by simp at hx; rw [hx]; exact hu0) (by simp) ba bb' (by omega) (by omega) (by rw [r1.ty]; omega)
 simp only [List.all_cons,List.all_nil,Bool.and_true] at hf
 have es:=e1
 cases hal:(le s n u0 (ti s n g m)) with
 | false =>
  rw [hal,if_neg (by decide)] at hf
  refine Kvx.bad (f:=9) (p:=[]) ?_ (Kv4 (by omega) hl0 hf) (by decide) (by simp; omega)
  rw [Kdm.eq_def]
  simp [e0,f0,i0,Kdn.eq_def,Knp,w0,hl2,hp0,hwc,e1,f1,i1,hcut,hcp,hgr,hmul,hle0,hal,Kcw]
 | true =>
  rw [hal,if_pos rfl] at hf
  have im:=Kwf (q:=y1.fty) (ns:=Kt9 s n (Kta s n g a) b') (kids:=[y0,y1]) (by rw [r1.ty]; omega) (Kv4 (by omega) hl0 hf)
  rw [r1.ty] at im
  have lsc:(Kta s n g a).length=ctx.length:=by unfold Kta; rw [List.length_map]; exact la
  have hsc:=Ktg hs hg ba
  have hz0:=Ktj hs hsc
  rw [lsc] at hz0
  have hsum:=Ktl hs g hg (List.replicate ctx.length 0) a (fun x hx=>by rw [List.eq_of_mem_replicate hx]; exact Kt4 hs) ba (by simp; omega) (by simp [la])
  rw [hz0] at hsum
  have hs2:=Ktm hs (Kta s n g a) b' hsc bb' (by omega) (by omega)
  refine Kvx.good (q:=x1.fty) (ns:=Kt9 s n (Kta s n g a) b') (kids:=[y0,y1]) ?_ im (by omega) g1 (by unfold Kt9; rw [List.length_zipWith]; omega) (Ktf hs hsc bb') rfl (kd2 (Kvw.mk' (Kw4 (by decide) rfl) r0 f0 (fun _ h=>by cases h) rfl) (Kvw.mk' ad r1 f1 hm' rfl))
  rw [Kdm.eq_def]
  simp [e0,f0,i0,Kdn.eq_def,Knp,w0,hl2,hp0,hwc,e1,f1,i1,hcut,hcp,hgr,hmul,hle0,hal,na,Kty ctx.length (by omega),hsum,hs2]
theorem Kx4 (ih:Kwe s n (tsz (⟨8,N,ty,ks⟩:K00))) (h:tOk (gN s.fSize true) (yN s.fSize true) ctx.length ⟨8,N,ty,ks⟩=true) (hc:∀ q ∈ ctx,TyS s q) (hb:ctx.length + 2 * tsz (⟨8,N,ty,ks⟩:K00) ≤ 1000000):∃ x y,Kvx s n ctx ⟨8,N,ty,ks⟩ x y:=by
 obtain ⟨k0,k1,k2,rfl,p0,p1,p2⟩:=nd3 h (Nat.le_refl _) rfl
 have hz:=Ksr 8 N ty k0 k1 k2
 obtain ⟨g,hN,hg⟩:=Kum hs (Kuo h rfl)
 simp only at hN
 subst hN
 obtain ⟨x0,y0,r0⟩:=ih k0 ctx p0 hc (by omega)
 by_cases f0:x0.ffault=0
 rotate_left
 ·exact Kwg (by decide) (by decide) (by decide) hb r0 f0
 obtain ⟨g0,q0,a,na,la,ba⟩:=r0.gd f0
 obtain ⟨c0,t0,ht0,hn0,hz0⟩:=Kwj hs g0
 have L0:=Kua g0
 have e0:Kdo (s,ctx,⟨8,(g:Int),ty,[k0,k1,k2]⟩,0)=some x0:=Kvy (i:=0) rfl r0 f0
 have C:=Kx0 hs g0 ht0
 have i0:idx x0.fty 0=some c0:=by rw [ht0]; rfl
 by_cases z0:(Kns c0).1=2
 rotate_left
 ·have w0:c0 ≠ 2:=fun h=>z0 (C.two.1 h)
  refine Kvx.bad (f:=5) (p:=[]) ?_ (Kv3 (by omega) (Kw1 (m:=[]) rfl (Kwa (by decide)) r0 (by simp; omega) f0 (by rw [ht0,Kvc hs hg,if_neg z0]) (by decide))) (by decide) (by simp; omega)
  rw [Kdm.eq_def]
  simp [e0,f0,i0,Kdn.eq_def,w0,Kcw]
 obtain ⟨p,q,hcg,hq,P⟩:=C.sum z0
 have hle:=sLe hs.tab (Kt3 hs) hg
 cases hl:le s n 1 g with
 | false =>
  have hl2:K9g (s,1,(g:Int))=some false:=by rw [← hl]; exact hle
  refine Kvx.bad (f:=8) (p:=[]) ?_ (Kv3 (by omega) (Kw1 (m:=[]) rfl (Kwa (by decide)) r0 (by simp; omega) f0 (by rw [ht0,Kvc hs hg,if_pos z0,hl]; rfl) (by decide))) (by decide) (by simp; omega)
  rw [Kdm.eq_def]
  simp [e0,f0,i0,Kdn.eq_def,hcg,hl2,Kcw]
 | true =>
 have hl2:K9g (s,1,(g:Int))=some true:=by rw [← hl]; exact hle
 have o0:=Kw3 (out:=[]) (nd:=[]) (us:=[]) (w:=0) (t:=⟨8,(g:Int),ty,[k0,k1,k2]⟩) (m:=[]) rfl (Kwa (by decide)) r0 (by simp; omega) f0 (by rw [ht0,Kvc hs hg,if_pos z0,hl]; rfl) (Kv5 (show (8:Int) ≠ 10 by decide)) na (by simp <;> omega) (by simp) (by simp) (by simp) (by simp)
 have hp0:Kck (x0.fty,0)=some p:=by rw [hq,hcg]; exact P.p0
 have hp1:Kck (x0.fty,1)=some q:=by rw [hq,hcg]; exact P.p1
 have ad1:Klq (⟨8,(g:Int),ty,[k0,k1,k2]⟩,((1:Nat):Int),y0.fty)=some [p]:=by rw [r0.ty,hq,hcg]; exact Kw7 P
 have ad2:Klq (⟨8,(g:Int),ty,[k0,k1,k2]⟩,((2:Nat):Int),y0.fty)=some [q]:=by rw [r0.ty,hq,hcg]; exact Kw8 P
 have hm1:∀ z ∈ [p],TyS s z:=fun z hz=>by simp at hz; rw [hz]; exact P.ya
 have hm2:∀ z ∈ [q],TyS s z:=fun z hz=>by simp at hz; rw [hz]; exact P.yb
 have m1:Kus ⟨8,(g:Int),ty,[k0,k1,k2]⟩ [y0] 1=some [p]:=Kwc (by decide) ad1
 have p1':Kun s ([p] ++ ctx).length k1 (tsz (⟨8,(g:Int),ty,[k0,k1,k2]⟩:K00)):=by
  have e:([p] ++ ctx).length=ctx.length + Koz 8 1:=by simp [Koz]
  rw [e]; exact p1
 obtain ⟨x1,y1,r1⟩:=ih k1 ([p] ++ ctx) p1' (fun z hz=>by rcases List.mem_append.1 hz with hz | hz; exact hm1 z hz; exact hc z hz) (by simp; omega)
 have hw1:=Ktz ctx [p] (by simp; omega)
 by_cases f1:x1.ffault=0
 rotate_left
 ·have e1:Kdo (s,p :: ctx,⟨8,(g:Int),ty,[k0,k1,k2]⟩,1)=some ⟨[],[],x1.ffault,1 :: x1.fpath⟩:=Kvz (i:=1) rfl r1 (by omega) f1
  refine Kvx.bad (f:=x1.ffault) (p:=1 :: x1.fpath) ?_ (Kv3 (by omega) (o0.trans (Kw0 (m:=[p]) rfl m1 r1 (by omega) (by simp; omega) f1))) f1 (by have:=r1.pl; simp; omega)
  rw [Kdm.eq_def]
  simp [e0,f0,i0,Kdn.eq_def,hcg,hl2,hp0,hp1,hw1,e1,f1]
 obtain ⟨g1,q1,b,nb,lb,bb⟩:=r1.gd f1
 obtain ⟨c1,t1,ht1,hn1,hz1⟩:=Kwj hs g1
 have L1:=Kua g1
 have e1:Kdo (s,p :: ctx,⟨8,(g:Int),ty,[k0,k1,k2]⟩,1)=some x1:=Kvy (i:=1) rfl r1 f1
 have lb':b.length=ctx.length + 1:=by rw [lb]; simp
 obtain ⟨u0,b',rfl⟩:∃ u0 b',b=u0 :: b':=by match b,lb' with | u0 :: b',_=>exact ⟨u0,b',rfl⟩ | [],h=>simp at h
 obtain ⟨hu0,bb'⟩:=Ktd bb
 have lbc:b'.length=ctx.length:=by simp at lb'; omega
 have i1:idx x1.fneeds 0=some (u0:Int):=by rw [nb]; rfl
 have hcut1:cut x1.fneeds (some (1:Int)) none none=some (Ksw b'):=by rw [nb]; exact Krt _ _
 have hcp1:=Kpz (Ksw b') (by rw [Ksx]; omega)
 have o1:=Kw3 (out:=[y0]) (nd:=[Ksw a]) (us:=[Ksw []]) (w:=1) (t:=⟨8,(g:Int),ty,[k0,k1,k2]⟩) (m:=[p]) rfl m1 r1 (by simp; omega) f1 (by rw [ht1]; exact Kv7 (.inr (by decide))) (Kv5 (show (8:Int) ≠ 10 by decide)) nb (by simp <;> omega) (by simp) (by simp) (by simp) (by simp)
 simp only [List.length_cons,List.length_nil,Nat.zero_add,List.drop_succ_cons,List.drop_zero,List.take_succ_cons,List.take_zero,List.nil_append,List.cons_append] at o1
 have m2:Kus ⟨8,(g:Int),ty,[k0,k1,k2]⟩ [y0,y1] 2=some [q]:=Kwc (by decide) ad2
 have p2':Kun s ([q] ++ ctx).length k2 (tsz (⟨8,(g:Int),ty,[k0,k1,k2]⟩:K00)):=by
  have e:([q] ++ ctx).length=ctx.length + Koz 8 2:=by simp [Koz]
  rw [e]; exact p2
 obtain ⟨x2,y2,r2⟩:=ih k2 ([q] ++ ctx) p2' (fun z hz=>by rcases List.mem_append.1 hz with hz | hz; exact hm2 z hz; exact hc z hz) (by simp; omega)
 have hw2:=Ktz ctx [q] (by simp; omega)
 by_cases f2:x2.ffault=0
 rotate_left
 ·have e2:Kdo (s,q :: ctx,⟨8,(g:Int),ty,[k0,k1,k2]⟩,2)=some ⟨[],[],x2.ffault,2 :: x2.fpath⟩:=Kvz (i:=2) rfl r2 (by omega) f2
  refine Kvx.bad (f:=x2.ffault) (p:=2 :: x2.fpath) ?_ (Kv3 (by omega) (o0.trans (o1.trans (Kw0 (m:=[q]) rfl m2 r2 (by omega) (by simp; omega) f2)))) f2 (by have:=r2.pl; simp; omega)
  rw [Kdm.eq_def]
  simp [e0,f0,i0,Kdn.eq_def,hcg,hl2,hp0,hp1,hw1,e1,f1,hcut1,hcp1,hw2,e2,f2]
 obtain ⟨g2,q2,d,nd,ld,bd⟩:=r2.gd f2
 obtain ⟨c2,t2,ht2,hn2,hz2⟩:=Kwj hs g2
 have L2:=Kua g2
 have e2:Kdo (s,q :: ctx,⟨8,(g:Int),ty,[k0,k1,k2]⟩,2)=some x2:=Kvy (i:=2) rfl r2 f2
 have ld':d.length=ctx.length + 1:=by rw [ld]; simp
 obtain ⟨v0,d',rfl⟩:∃ v0 d',d=v0 :: d':=by match d,ld' with | v0 :: d',_=>exact ⟨v0,d',rfl⟩ | [],h=>simp at h
 obtain ⟨hv0,bd'⟩:=Ktd bd
 have ldc:d'.length=ctx.length:=by simp at ld'; omega
 have i2:idx x2.fneeds 0=some (v0:Int):=by rw [nd]; rfl
 have hcut2:cut x2.fneeds (some (1:Int)) none none=some (Ksw d'):=by rw [nd]; exact Krt _ _
 have o2:=Kw3 (out:=[y0,y1]) (nd:=[Ksw a,Ksw b']) (us:=[Ksw [],Ksw [u0]]) (w:=2) (t:=⟨8,(g:Int),ty,[k0,k1,k2]⟩) (m:=[q]) rfl m2 r2 (by simp; omega) f2 (by rw [ht2]; exact Kv7 (.inr (by decide))) (Kv5 (show (8:Int) ≠ 10 by decide)) nd (by simp <;> omega) (by simp) (by simp) (by simp) (by simp)
 simp only [List.length_cons,List.length_nil,Nat.zero_add,List.drop_succ_cons,List.drop_zero,List.take_succ_cons,List.take_zero,List.nil_append,List.cons_append] at o2
 have hl0:=o0.trans (o1.trans (o2.trans (Kuv (Nat.le_refl _))))
 have hle0:=sLe hs.tab hu0 hg
 have hle1:=sLe hs.tab hv0 hg
 have hf:=Kvu (ty:=ty) (ks:=[k0,k1,k2]) (ctx:=ctx) (z:=Ksw (List.replicate ctx.length 0)) (y0:=y0) (y1:=y1) (y2:=y2) (us':=Ksw []) (u:=[u0]) (v:=[v0]) hs hg (fun x hx=>by simp at hx; rw [hx]; exact hu0) (by simp) (fun x hx=>by simp at hx; rw [hx]; exact hv0) (by simp) ba bb' bd' (by omega) (by omega) (by omega) (by rw [r2.ty]; omega) (by rw [r1.ty]; omega)
 simp only [List.all_cons,List.all_nil,Bool.and_true] at hf
 rw [r1.ty,r2.ty] at hf
 have hsm:=Ks0 x1.fty x2.fty (by omega)
 have hj:=Kto hs b' d' bb' bd' (by omega) (by omega)
 have lj:(Ktb s n b' d').length=ctx.length:=by unfold Ktb; rw [List.length_zipWith]; omega
 by_cases hqq:x1.fty=x2.fty
 rotate_left
 ·rw [if_neg hqq] at hf
  rw [show (x1.fty == x2.fty)=false from beq_eq_false_iff_ne.2 hqq] at hsm
  refine Kvx.bad (f:=3) (p:=[]) ?_ (Kv4 (by omega) hl0 hf) (by decide) (by simp; omega)
  rw [Kdm.eq_def]
  simp [e0,f0,i0,Kdn.eq_def,hcg,hl2,hp0,hp1,hw1,e1,f1,hcut1,hcp1,hw2,e2,f2,hsm,Kcw]
 rw [if_pos hqq] at hf
 rw [show (x1.fty == x2.fty)=true from beq_iff_eq.2 hqq] at hsm
 by_cases hal:le s n u0 g=true∧le s n v0 g=true
 rotate_left
 ·rw [if_neg hal] at hf
  refine Kvx.bad (f:=9) (p:=[]) ?_ (Kv4 (by omega) hl0 hf) (by decide) (by simp; omega)
  rw [Kdm.eq_def]
  simp [e0,f0,i0,Kdn.eq_def,hcg,hl2,hp0,hp1,hw1,e1,f1,hcut1,hcp1,hw2,e2,f2,hsm,i1,i2,hle0,hle1,hcut2,hj,Kcw]
  cases q1:le s n v0 g with
  | false=>simp
  | true =>
   cases q2:le s n u0 g with
   | false=>simp
   | true=>exact absurd ⟨q2,q1⟩ hal
 rw [if_pos hal] at hf
 have im:=Kwf (q:=x1.fty) (ns:=Kt9 s n (Kta s n g a) (Ktb s n b' d')) (kids:=[y0,y1,y2]) (by omega) (Kv4 (by omega) hl0 hf)
 have lsc:(Kta s n g a).length=ctx.length:=by unfold Kta; rw [List.length_map]; exact la
 have hsc:=Ktg hs hg ba
 have hz0:=Ktj hs hsc
 rw [lsc] at hz0
 have hsum:=Ktl hs g hg (List.replicate ctx.length 0) a (fun x hx=>by rw [List.eq_of_mem_replicate hx]; exact Kt4 hs) ba (by simp; omega) (by simp [la])
 rw [hz0] at hsum
 have hs2:=Ktm hs (Kta s n g a) (Ktb s n b' d') hsc (Kth hs bb' bd') (by omega) (by omega)
 refine Kvx.good (q:=x1.fty) (ns:=Kt9 s n (Kta s n g a) (Ktb s n b' d')) (kids:=[y0,y1,y2]) ?_ im (by omega) g1 (by unfold Kt9; rw [List.length_zipWith]; omega) (Ktf hs hsc (Kth hs bb' bd')) rfl (kd3 (Kvw.mk' (Kw4 (by decide) rfl) r0 f0 (fun _ h=>by cases h) rfl) (Kvw.mk' ad1 r1 f1 hm1 rfl) (Kvw.mk' ad2 r2 f2 hm2 rfl))
 rw [Kdm.eq_def]
 simp [e0,f0,i0,Kdn.eq_def,hcg,hl2,hp0,hp1,hw1,e1,f1,hcut1,hcp1,hw2,e2,f2,hsm,i1,i2,hle0,hle1,hal.1,hal.2,hcut2,hj,na,Kty ctx.length (by omega),hsum,hs2]
theorem Kx5:∀ (m:Nat) (t:K00) (ctx:List (List Int)),tsz t ≤ m→tOk (gN s.fSize true) (yN s.fSize true) ctx.length t=true→(∀ q ∈ ctx,TyS s q)→ctx.length + 2 * tsz t ≤ 1000000→∃ x y,Kvx s n ctx t x y
 | 0,t,ctx,hm,_,_,_=>by obtain ⟨op,N,ty,ks⟩:=t; rw [tsz] at hm; omega
 | m + 1,t,ctx,hm,h,hc,hb=>by
  have ih:Kwe s n (tsz t):=fun k c hk hc hb=>Kx5 m k c (by have:=hk.sz; omega) hk.ok hc hb
  obtain ⟨op,N,ty,ks⟩:=t
  have hop:=(Kpy (Kpt h).1).1
  simp only at hop
  rcases Kot hop with rfl | rfl | rfl | rfl | rfl | rfl | rfl | rfl | rfl | rfl | rfl | rfl | rfl
  ·exact Kwh hs rfl h hc hb
  ·exact Kwi hs rfl h hb
  ·exact Kwp hs ih h hc hb
  ·exact Kwq hs ih h hc hb
  ·exact Kwo hs ih h hc hb
  ·exact Kx2 hs ih h hc hb
  ·exact Kwk hs ih h hc hb
  ·exact Kwl hs ih h hc hb
  ·exact Kx4 hs ih h hc hb
  ·exact Kwn hs ih h hc hb
  ·exact Kx1 hs ih h hc hb
  ·exact Kwm hs ih h hc hb
  ·exact Kx3 hs ih h hc hb
end
end Go.Am
