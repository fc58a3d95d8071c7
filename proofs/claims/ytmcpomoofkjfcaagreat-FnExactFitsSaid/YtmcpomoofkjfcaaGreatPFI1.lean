/- Plain laws of the printed functions. -/
import Derived.Test.YtmcpomoofkjfcaaGreatPFI0
set_option linter.unusedSimpArgs false
set_option linter.unusedVariables false
namespace Go.Am
def TyS (s:GSystem) (ty:List Int):Prop:=yN s.fSize true ty=true
theorem TyS_len {s:GSystem} {ty:List Int} (h:TyS s ty):ty.length ≤ 40:=by
 unfold TyS yN at h
 rw [Bool.and_eq_true] at h
 exact wtB_len h.1
theorem TyS_tree {s:GSystem} {ty:List Int} (h:TyS s ty):∃ T:Ty,T.ok∧ty=T.code∧T.code.length ≤ 40∧T.code.all (gokC s.fSize true)=true:=by
 have hl:=TyS_len h
 unfold TyS yN at h
 rw [Bool.and_eq_true] at h
 obtain ⟨T,h1,rfl,_⟩:=wtB_tree h.1
 exact ⟨T,h1,rfl,hl,h.2⟩
theorem TyS_of {s:GSystem} {T:Ty} (h:T.ok) (hl:T.code.length ≤ 40) (hc:T.code.all (gokC s.fSize true)=true):TyS s T.code:=by
 unfold TyS yN
 rw [wtB_code h hl,hc]; rfl
structure TwoP (s:GSystem) (c:Int) (a b:List Int):Prop where
 ya:TyS s a
 yb:TyS s b
 p0:spec_l2Part (c :: (a ++ b),0)=some a
 p1:spec_l2Part (c :: (a ++ b),1)=some b
 pp:impl_parts (c :: (a ++ b))=some [a,b]
structure OneP (s:GSystem) (c:Int) (a:List Int):Prop where
 ya:TyS s a
 p0:spec_l2Part (c :: a,0)=some a
 pp:impl_parts (c :: a)=some [a]
theorem gok_open {s:GSystem} {c:Int} (hc:c=35∨c=36):gokC s.fSize true c=false:=by
 rcases hc with rfl | rfl
 ·unfold gokC gradeC
  rw [show kidsC 35=2 from rfl]; simp
 ·unfold gokC gradeC
  rw [show kidsC 36=1 from rfl]; simp
theorem TyS_num {s:GSystem}:TyS s [0]:=TyS_of (T:=.num) trivial (by decide) (by
 show (gokC s.fSize true 0 && true)=true
 unfold gokC
 rw [show kidsC 0=0 from rfl]; simp)
section
variable {s:GSystem} {n:Nat} (hs:SysL s n)
include hs
theorem gok_arrow {c:Int} (hc:3 ≤ c∧c ≤ 18):gokC s.fSize true c=true ↔ c - 3 < (n:Int):=by
 have hk:kidsC c=2:=by rcases kidsC_cases c with h | h | h | h <;> omega
 unfold gokC gradeC
 rw [hk,hs.tab.size,if_neg (by omega),if_neg (by omega)]
 simp
 omega
theorem gok_box {c:Int} (hc:19 ≤ c∧c ≤ 34):gokC s.fSize true c=true ↔ c - 19 < (n:Int):=by
 have hk:kidsC c=1:=by rcases kidsC_cases c with h | h | h | h <;> omega
 unfold gokC gradeC
 rw [hk,hs.tab.size,if_neg (by omega),if_pos (by omega)]
 simp
 omega
theorem TyS_cases {ty:List Int} (h:TyS s ty):ty=[0]∨(∃ a b,ty=1 :: (a ++ b)∧TwoP s 1 a b)∨(∃ a b,ty=2 :: (a ++ b)∧TwoP s 2 a b) ∨
  (∃ (g:Nat) (a b:List Int),g < n∧g ≤ 15∧ty=(3 + (g:Int)) :: (a ++ b)∧TwoP s (3 + (g:Int)) a b)∨(∃ (g:Nat) (a:List Int),g < n∧g ≤ 15∧ty=(19 + (g:Int)) :: a∧OneP s (19 + (g:Int)) a):=by
 obtain ⟨T,hT,rfl,hl,hc⟩:=TyS_tree h
 cases T with
 | num=>exact .inl rfl
 | bin c a b =>
  have B:=binP hT (by omega)
  have hl':=hl
  rw [Ty.code,List.length_cons,List.length_append] at hl'
  rw [Ty.code,List.all_cons,List.all_append,Bool.and_eq_true,Bool.and_eq_true] at hc
  have hP:TwoP s c a.code b.code:=⟨TyS_of B.ok.1 (by omega) hc.2.1,TyS_of B.ok.2 (by omega) hc.2.2,B.p0,B.p1,B.pp⟩
  have hk:=hT.1
  rcases kidsC_cases c with ⟨q,e⟩ | ⟨q,e⟩ | ⟨q,e⟩ | ⟨q,e⟩
  ·rw [e] at hk; exact absurd hk (by decide)
  ·rcases q with rfl | rfl | q | rfl
   ·exact .inr (.inl ⟨_,_,rfl,hP⟩)
   ·exact .inr (.inr (.inl ⟨_,_,rfl,hP⟩))
   ·have:=(gok_arrow hs q).1 hc.1
    obtain ⟨g,hg⟩:∃ g:Nat,c=3 + (g:Int):=⟨(c - 3).toNat,by omega⟩
    subst hg
    exact .inr (.inr (.inr (.inl ⟨g,_,_,by omega,by omega,rfl,hP⟩)))
   ·rw [gok_open (s:=s) (.inl rfl)] at hc; exact absurd hc.1 (by decide)
  ·rw [e] at hk; exact absurd hk (by decide)
  ·rw [e] at hk; exact absurd hk (by decide)
 | un c a =>
  have B:=unP hT (by omega)
  have hl':=hl
  rw [Ty.code,List.length_cons] at hl'
  rw [Ty.code,List.all_cons,Bool.and_eq_true] at hc
  have hP:OneP s c a.code:=⟨TyS_of B.ok (by omega) hc.2,B.p0,B.pp⟩
  have hk:=hT.1
  rcases kidsC_cases c with ⟨q,e⟩ | ⟨q,e⟩ | ⟨q,e⟩ | ⟨q,e⟩
  ·rw [e] at hk; exact absurd hk (by decide)
  ·rw [e] at hk; exact absurd hk (by decide)
  ·rcases q with q | rfl
   ·have:=(gok_box hs q).1 hc.1
    obtain ⟨g,hg⟩:∃ g:Nat,c=19 + (g:Int):=⟨(c - 19).toNat,by omega⟩
    subst hg
    exact .inr (.inr (.inr (.inr ⟨g,_,by omega,by omega,rfl,hP⟩)))
   ·rw [gok_open (s:=s) (.inr rfl)] at hc; exact absurd hc.1 (by decide)
  ·rw [e] at hk; exact absurd hk (by decide)
theorem TyS_two {c:Int} {a b:List Int} (ha:TyS s a) (hb:TyS s b) (hc:c=1∨c=2∨∃ g:Nat,g < n∧c=3 + (g:Int)) (hl:(c :: (a ++ b)).length ≤ 40):TyS s (c :: (a ++ b)):=by
 obtain ⟨A,hA,rfl,_,hAc⟩:=TyS_tree ha
 obtain ⟨B,hB,rfl,_,hBc⟩:=TyS_tree hb
 have hn:=hs.tab.hi
 have hk:kidsC c=2∧gokC s.fSize true c=true:=by
  rcases hc with rfl | rfl | ⟨g,hg,rfl⟩
  ·exact ⟨rfl,by unfold gokC; rw [show kidsC 1=2 from rfl]; simp⟩
  ·exact ⟨rfl,by unfold gokC; rw [show kidsC 2=2 from rfl]; simp⟩
  ·refine ⟨by rcases kidsC_cases (3 + (g:Int)) with h | h | h | h <;> omega,(gok_arrow hs (by omega)).2 (by omega)⟩
 have:TyS s (Ty.bin c A B).code:=TyS_of ⟨hk.1,hA,hB⟩ hl (by rw [Ty.code,List.all_cons,List.all_append,hk.2,hAc,hBc]; rfl)
 exact this
theorem TyS_one {g:Nat} (hg:g < n) {a:List Int} (ha:TyS s a) (hl:((19 + (g:Int)) :: a).length ≤ 40):TyS s ((19 + (g:Int)) :: a):=by
 obtain ⟨A,hA,rfl,_,hAc⟩:=TyS_tree ha
 have hn:=hs.tab.hi
 have hk:kidsC (19 + (g:Int))=1:=by rcases kidsC_cases (19 + (g:Int)) with h | h | h | h <;> omega
 have:TyS s (Ty.un (19 + (g:Int)) A).code:=TyS_of ⟨hk,hA⟩ hl (by rw [Ty.code,List.all_cons,(gok_box hs (by omega)).2 (by omega),hAc]; rfl)
 exact this
theorem gN_nat {x:Int} (h:gN s.fSize true x=true):∃ g:Nat,x=(g:Int)∧g < n:=by
 unfold gN at h
 rw [hs.tab.size] at h
 simp at h
 exact ⟨x.toNat,by omega,by omega⟩
end
structure KidP (s:GSystem) (n:Nat) (k:GTerm) (m:Nat):Prop where
 ok:tOk (gN s.fSize true) (yN s.fSize true) n k=true
 sz:tsz k + 1 ≤ m
theorem nd1 {s:GSystem} {n m:Nat} {op N:Int} {ty:List Int} {ks:List GTerm} (h:tOk (gN s.fSize true) (yN s.fSize true) n ⟨op,N,ty,ks⟩=true) (hm:tsz ⟨op,N,ty,ks⟩ ≤ m) (hk:manyI op=1):∃ a,ks=[a]∧KidP s (n + addsI op 0) a m:=by
 obtain ⟨h1,h2⟩:=tOk_node h
 obtain ⟨a,rfl⟩:=kids1 (l:=ks) (beq_iff_eq.2 (by rw [← hk]; exact (nodeOk_many h1).2))
 simp only at h2
 rw [tOks_cons,Bool.and_eq_true] at h2
 rw [tsz_1] at hm
 exact ⟨a,rfl,h2.1,by omega⟩
theorem nd2 {s:GSystem} {n m:Nat} {op N:Int} {ty:List Int} {ks:List GTerm} (h:tOk (gN s.fSize true) (yN s.fSize true) n ⟨op,N,ty,ks⟩=true) (hm:tsz ⟨op,N,ty,ks⟩ ≤ m) (hk:manyI op=2):∃ a b,ks=[a,b]∧KidP s (n + addsI op 0) a m∧KidP s (n + addsI op 1) b m:=by
 obtain ⟨h1,h2⟩:=tOk_node h
 obtain ⟨a,b,rfl⟩:=kids2 (l:=ks) (beq_iff_eq.2 (by rw [← hk]; exact (nodeOk_many h1).2))
 simp only at h2
 rw [tOks_cons,tOks_cons,Bool.and_eq_true,Bool.and_eq_true] at h2
 rw [tsz_2] at hm
 exact ⟨a,b,rfl,⟨h2.1,by omega⟩,⟨h2.2.1,by omega⟩⟩
theorem nd3 {s:GSystem} {n m:Nat} {op N:Int} {ty:List Int} {ks:List GTerm} (h:tOk (gN s.fSize true) (yN s.fSize true) n ⟨op,N,ty,ks⟩=true) (hm:tsz ⟨op,N,ty,ks⟩ ≤ m) (hk:manyI op=3):∃ a b c,ks=[a,b,c]∧KidP s (n + addsI op 0) a m∧KidP s (n + addsI op 1) b m∧KidP s (n + addsI op 2) c m:=by
 obtain ⟨h1,h2⟩:=tOk_node h
 obtain ⟨a,b,c,rfl⟩:=kids3 (l:=ks) (by rw [← hk]; exact (nodeOk_many h1).2)
 simp only at h2
 rw [tOks_cons,tOks_cons,tOks_cons,Bool.and_eq_true,Bool.and_eq_true,Bool.and_eq_true] at h2
 rw [tsz_3] at hm
 exact ⟨a,b,c,rfl,⟨h2.1,by omega⟩,⟨h2.2.1,by omega⟩,⟨h2.2.2.1,by omega⟩⟩
theorem nd_N {s:GSystem} {n:Nat} {t:GTerm} (h:tOk (gN s.fSize true) (yN s.fSize true) n t=true) (hg:hasG t.fOp=true):gN s.fSize true t.fN=true:=by
 have h1:=(tOk_node h).1
 unfold nodeOk nOkN at h1
 simp only [Bool.and_eq_true] at h1
 have h2:=h1.1.2
 have hop:(t.fOp == 0)=false∧(t.fOp == 1)=false:=by
  simp only [hasG,Bool.or_eq_true,beq_iff_eq] at hg
  constructor <;> rw [beq_eq_false_iff_ne] <;> omega
 rw [hop.1,hop.2,hg] at h2
 simpa using h2
theorem nd_Y {s:GSystem} {n:Nat} {t:GTerm} (h:tOk (gN s.fSize true) (yN s.fSize true) n t=true) (hg:typedG t.fOp=true):TyS s t.fType:=by
 have h1:=(tOk_node h).1
 unfold nodeOk nOkY at h1
 simp only [Bool.and_eq_true] at h1
 have h2:=h1.2
 rw [hg] at h2
 show yN s.fSize true t.fType=true
 simpa using h2
theorem nd_var {s:GSystem} {n:Nat} {t:GTerm} (h:tOk (gN s.fSize true) (yN s.fSize true) n t=true) (hg:t.fOp=0):∃ i:Nat,t.fN=(i:Int)∧i < n∧t.fKids=[]:=by
 have h1:=(tOk_node h).1
 have hl:=(nodeOk_many h1).2
 unfold nodeOk nOkN at h1
 simp only [Bool.and_eq_true] at h1
 have h2:=h1.1.2
 rw [hg] at h2 hl
 simp [inB] at h2
 refine ⟨t.fN.toNat,by omega,by omega,?_⟩
 have:(t.fKids.length:Int)=0:=hl
 exact List.eq_nil_of_length_eq_zero (by omega)
theorem nd_num {s:GSystem} {n:Nat} {t:GTerm} (h:tOk (gN s.fSize true) (yN s.fSize true) n t=true) (hg:t.fOp=1):t.fKids=[]:=by
 have h1:=(tOk_node h).1
 have hl:=(nodeOk_many h1).2
 rw [hg] at hl
 have:(t.fKids.length:Int)=0:=hl
 exact List.eq_nil_of_length_eq_zero (by omega)
def moreE (t:GTerm) (out:List GTyped) (w:Nat):Option (List (List Int)) :=
 (if (decide ((w:Int) > 0))=true then some (true) else some ((t.fOp == 9))) >>= fun v =>
 if v=true then
  (if (decide ((w:Int) > 0))=true then (idx out 0) >>= fun e=>some (e.fty) else some ([])) >>= fun first=>(impl_added (t,(w:Int),first)) >>= fun r=>some (r)
 else some ([])
def stepE (p0:GTyper) (ctx:List (List Int)) (t:GTerm) (out:List GTyped) (needs used:List (List Int)) (w:Nat) (more:List (List Int)) (y:GTyped):Option (((List GTyped) × (List (List Int)) × (List (List Int))) ⊕ (GTyped)) :=
 if (y.ffault != 0)=true then
  (fits ([(w:Int)].length + y.fpath.length) 8) >>= fun _=>some (.inr (GTyped.mk [] [] [] y.ffault ([(w:Int)] ++ y.fpath)))
 else
  (impl_typerfirstOk (p0,t,(w:Int),y.fty)) >>= fun f =>
  if (f != 0)=true then some (.inr (GTyped.mk [] [] [] f []))
  else
   (if (t.fOp == 10)=true then
    if ((w:Int) == 1)=true then
     (idx out 0) >>= fun e=>(impl_parts e.fty) >>= fun r=>(idx r 0) >>= fun q=>(slices_Equal_int (y.fty,q)) >>= fun b=>some ((!b))
    else some (false)
   else some (false)) >>= fun v =>
   if v=true then some (.inr (GTyped.mk [] [] [] 3 []))
   else
    (fits (out.length + [y].length) 8) >>= fun _ =>
    (cut y.fneeds none (some (more.length:Int)) none) >>= fun c1 =>
    (fits (used.length + [c1].length) 24) >>= fun _ =>
    (cut y.fneeds (some (more.length:Int)) none none) >>= fun c2 =>
    (fits (needs.length + [c2].length) 24) >>= fun _ =>
    impl_typertyp_l0 (p0,ctx,t,(out ++ [y]),(needs ++ [c2]),(used ++ [c1]),(wr ((w:Int) + 1)))
theorem iStep {p0:GTyper} {ctx:List (List Int)} {t:GTerm} {out:List GTyped} {needs used:List (List Int)} {w:Nat} {k:GTerm} {more:List (List Int)} {y:GTyped} (hw:w < t.fKids.length) (hk:idx t.fKids (w:Int)=some k) (hm:moreE t out w=some more)
  (hc:ctx.length + more.length ≤ 1000000) (hy:impl_typertyp (p0,more ++ ctx,k)=some y):impl_typertyp_l0 (p0,ctx,t,out,needs,used,(w:Int))=stepE p0 ctx t out needs used w more y:=by
 rw [impl_typertyp_l0.eq_def]
 simp only
 rw [lt_t hw,if_pos rfl,hk,bs]
 have key:∀ {β:Type} (R:List (List Int)→Option β),((if (decide ((w:Int) > 0))=true then some (true) else some ((t.fOp == 9))) >>= fun v =>
   (if v=true then (if (decide ((w:Int) > 0))=true then (idx out 0) >>= fun e=>some (e.fty) else some ([])) >>= fun first=>(impl_added (t,(w:Int),first)) >>= fun r=>some (r) else some ([])) >>= R)=(moreE t out w >>= R):=fun R=>by
  unfold moreE
  simp only [Option.bind_eq_bind,Option.bind_assoc]
 refine (key _).trans ?_
 rw [hm,bs,iConc_Lint [more,ctx] (by simp) (by simp; omega),bs]
 simp only [List.flatten_cons,List.flatten_nil,List.append_nil]
 rw [hy,bs]
 rfl
theorem iLast {p0:GTyper} {ctx:List (List Int)} {t:GTerm} {out:List GTyped} {needs used:List (List Int)} {w:Nat} (hw:t.fKids.length ≤ w):impl_typertyp_l0 (p0,ctx,t,out,needs,used,(w:Int))=some (.inl (out,needs,used)):=by
 rw [impl_typertyp_l0.eq_def]
 simp only
 rw [lt_f hw]; rfl
theorem cutTake {α:Type} {l:List α} {m:Nat} (h:m ≤ l.length):cut l none (some (m:Int)) none=some (l.take m):=by
 unfold cut
 simp only [Option.getD_none,Option.getD_some,Int.toNat_natCast,Int.toNat_zero,List.drop_zero]
 rw [if_pos (by omega)]
theorem cutDrop {α:Type} {l:List α} {m:Nat} (h:m ≤ l.length):cut l (some (m:Int)) none none=some (l.drop m):=by
 unfold cut
 simp only [Option.getD_none,Option.getD_some,Int.toNat_natCast]
 rw [if_pos (by omega),List.take_length]
def appE (t:GTerm) (out:List GTyped) (w:Nat) (y:GTyped):Option Bool :=
 if (t.fOp == 10)=true then
  if ((w:Int) == 1)=true then
   (idx out 0) >>= fun e=>(impl_parts e.fty) >>= fun r=>(idx r 0) >>= fun q=>(slices_Equal_int (y.fty,q)) >>= fun b=>some ((!b))
  else some (false)
 else some (false)
section
variable {p0:GTyper} {ctx:List (List Int)} {t:GTerm} {out:List GTyped} {needs used:List (List Int)} {w:Nat} {more:List (List Int)} {y:GTyped}
theorem stepE_bad (h:y.ffault ≠ 0) (hp:y.fpath.length ≤ 1000000):stepE p0 ctx t out needs used w more y=some (.inr ⟨[],[],[],y.ffault,(w:Int) :: y.fpath⟩):=by
 unfold stepE
 rw [if_pos (bne_iff_ne.2 h),fits_ok (by simp; omega),bs]
 rfl
theorem stepE_first {f:Int} (h:y.ffault=0) (hf:impl_typerfirstOk (p0,t,(w:Int),y.fty)=some f) (hf0:f ≠ 0):stepE p0 ctx t out needs used w more y=some (.inr ⟨[],[],[],f,[]⟩):=by
 unfold stepE
 rw [if_neg (by simp [h]),hf,bs,if_pos (bne_iff_ne.2 hf0)]
theorem stepE_app (h:y.ffault=0) (hf:impl_typerfirstOk (p0,t,(w:Int),y.fty)=some 0) (ha:appE t out w y=some true):stepE p0 ctx t out needs used w more y=some (.inr ⟨[],[],[],3,[]⟩):=by
 unfold stepE
 rw [if_neg (by simp [h]),hf,bs,if_neg (by simp)]
 refine (congrArg (· >>= _) (show _=some true from ha)).trans ?_
 rw [bs,if_pos rfl]
theorem stepE_ok {ns:List Nat} (h:y.ffault=0) (hf:impl_typerfirstOk (p0,t,(w:Int),y.fty)=some 0) (ha:appE t out w y=some false) (hn:y.fneeds=needI ns) (hl:more.length ≤ ns.length)
  (h1:out.length ≤ 1000000) (h2:needs.length ≤ 1000000) (h3:used.length ≤ 1000000) (h4:w ≤ 1000000) :
  stepE p0 ctx t out needs used w more y=impl_typertyp_l0 (p0,ctx,t,(out ++ [y]),(needs ++ [needI (ns.drop more.length)]),(used ++ [needI (ns.take more.length)]),((w + 1:Nat):Int)):=by
 unfold stepE
 rw [if_neg (by simp [h]),hf,bs,if_neg (by simp)]
 refine (congrArg (· >>= _) (show _=some false from ha)).trans ?_
 rw [bs,if_neg (by simp),fits_ok (by simp; omega),bs,hn,cutTake (by rw [needI_len]; exact hl),bs,fits_ok (by simp; omega),bs,cutDrop (by rw [needI_len]; exact hl),bs,fits_ok (by simp; omega),bs,wr_succ (by omega),needI_take,needI_drop]
theorem iTyp_r {r:GTyped} (hc:ctx.length ≤ 1000000) (h:impl_typertyp_l0 (p0,ctx,t,[],[],[],((0:Nat):Int))=some (.inr r)):impl_typertyp (p0,ctx,t)=some r:=by
 rw [impl_typertyp.eq_def]
 simp only
 rw [chk_t (by simp; omega),bs,show (0:Int)=((0:Nat):Int) from rfl,h]
 rfl
theorem iTyp_l {o:List GTyped} {nd us:List (List Int)} {f:Int} {g:GTyped} (hc:ctx.length ≤ 1000000) (h:impl_typertyp_l0 (p0,ctx,t,[],[],[],((0:Nat):Int))=some (.inl (o,nd,us)))
  (hf:impl_typerfinish (p0,⟨[],needI (List.replicate ctx.length 0),o,0,[]⟩,ctx,t,nd,us)=some (f,g)):impl_typertyp (p0,ctx,t)=some (if f=0 then ⟨g.fty,g.fneeds,g.fkids,0,g.fpath⟩ else ⟨[],[],[],f,[]⟩):=by
 have e:needI (List.replicate ctx.length 0)=List.replicate (Int.toNat (ctx.length:Int)) (0:Int):=by
  unfold needI; rw [List.map_replicate,Int.toNat_natCast]; rfl
 rw [e] at hf
 rw [impl_typertyp.eq_def]
 simp only
 rw [chk_t (by simp; omega),bs,show impl_typertyp_l0 (p0,ctx,t,[],[],[],0)=some (.inl (o,nd,us)) from h,bs]
 simp only
 rw [hf,bs]
 simp only
 by_cases hz:f=0
 ·subst hz; rw [if_neg (by simp),if_pos rfl]
 ·rw [if_pos (bne_iff_ne.2 hz),if_neg hz]
theorem appE_other (h:t.fOp ≠ 10):appE t out w y=some false:=by
 unfold appE
 rw [if_neg (by simpa using h)]
theorem appE_zero (h:w ≠ 1):appE t out w y=some false:=by
 unfold appE
 have:((w:Int) == 1)=false:=by rw [beq_eq_false_iff_ne]; omega
 rw [this]
 simp
end
section
variable {s:GSystem} {n:Nat} (hs:SysL s n) {N:Int} {ty:List Int} {ks:List GTerm} {w:Nat} {c:Int} {r:List Int}
theorem first_none {op:Int} (h:(op=4∨op=6∨op=7∨op=9∨op=11)∨(w ≠ 0∧(op=3∨op=5∨op=8∨op=10∨op=12))):impl_typerfirstOk (⟨s⟩,⟨op,N,ty,ks⟩,(w:Int),c :: r)=some 0:=by
 have hw:∀ hw:w ≠ 0,((w:Int) == 0)=false:=fun hw=>by rw [beq_eq_false_iff_ne]; omega
 unfold impl_typerfirstOk
 rcases h with (rfl | rfl | rfl | rfl | rfl) | ⟨h0,(rfl | rfl | rfl | rfl | rfl)⟩
 all_goals first | simp [idx0,iShape,hw h0] | (by_cases h0:w=0 <;> simp [idx0,iShape,h0])
theorem first_2:impl_typerfirstOk (⟨s⟩,⟨2,N,ty,ks⟩,(w:Int),c :: r)=some (if (shapeI c).1=0 then 0 else 2):=by
 unfold impl_typerfirstOk
 by_cases h:(shapeI c).1=0 <;> simp [idx0,iShape,h]
theorem first_3:impl_typerfirstOk (⟨s⟩,⟨3,N,ty,ks⟩,((0:Nat):Int),c :: r)=some (if (shapeI c).1=0 then 0 else 2):=by
 unfold impl_typerfirstOk
 by_cases h:(shapeI c).1=0 <;> simp [idx0,iShape,h]
theorem first_10:impl_typerfirstOk (⟨s⟩,⟨10,N,ty,ks⟩,((0:Nat):Int),c :: r)=some (if (shapeI c).1=3 then 0 else 6):=by
 unfold impl_typerfirstOk
 by_cases h:(shapeI c).1=3 <;> simp [idx0,iShape,h]
include hs
theorem first_5 {g:Nat} (hg:g < n):impl_typerfirstOk (⟨s⟩,⟨5,(g:Int),ty,ks⟩,((0:Nat):Int),c :: r)=some (if (shapeI c).1=1 then (if le s n 1 g then 0 else 8) else 4):=by
 have hl:=iLe hs.tab (one_lt_n hs) hg
 unfold impl_typerfirstOk
 by_cases h:(shapeI c).1=1 <;> cases hle:le s n 1 g <;> simp [idx0,iShape,h,show impl_Systembelow (s,1,(g:Int))=some (le s n 1 g) from hl,hle]
theorem first_8 {g:Nat} (hg:g < n):impl_typerfirstOk (⟨s⟩,⟨8,(g:Int),ty,ks⟩,((0:Nat):Int),c :: r)=some (if (shapeI c).1=2 then (if le s n 1 g then 0 else 8) else 5):=by
 have hl:=iLe hs.tab (one_lt_n hs) hg
 unfold impl_typerfirstOk
 by_cases h:(shapeI c).1=2 <;> cases hle:le s n 1 g <;> simp [idx0,iShape,h,show impl_Systembelow (s,1,(g:Int))=some (le s n 1 g) from hl,hle]
theorem first_12 {g:Nat} (hg:g < n):impl_typerfirstOk (⟨s⟩,⟨12,(g:Int),ty,ks⟩,((0:Nat):Int),c :: r)=some (if (shapeI c).1=4 then (if le s n 1 g then 0 else 8) else 7):=by
 have hl:=iLe hs.tab (one_lt_n hs) hg
 unfold impl_typerfirstOk
 by_cases h:(shapeI c).1=4 <;> cases hle:le s n 1 g <;> simp [idx0,iShape,h,show impl_Systembelow (s,1,(g:Int))=some (le s n 1 g) from hl,hle]
end
def finG (ty:List Int) (ns:List Nat) (kids:List GTyped):Int × GTyped:=(if ty.length > 40 then 3 else 0,⟨ty,needI ns,kids,0,[]⟩)
theorem idxA {α:Type} (x:α) (l:List α):idx (x :: l) 0=some x:=rfl
theorem idxB {α:Type} (x y:α) (l:List α):idx (x :: y :: l) 1=some y:=rfl
theorem idxC {α:Type} (x y z:α) (l:List α):idx (x :: y :: z :: l) 2=some z:=rfl
section
variable {s:GSystem} {n:Nat} (hs:SysL s n) {N:Int} {ty:List Int} {ks:List GTerm} {ctx us:List (List Int)} {z:List Int} {y0 y1 y2:GTyped} {a b d:List Nat}
theorem fin_0 {i:Nat} {q:List Int} {zs:List Nat} (hi:ctx[i]?=some q) (hz:i < zs.length) (hq:q.length ≤ 40):impl_typerfinish (⟨s⟩,⟨[],needI zs,[],0,[]⟩,ctx,⟨0,(i:Int),ty,ks⟩,[],[])=some (finG q (zs.set i 1) []):=by
 obtain ⟨h1,h2⟩:=List.getElem?_eq_some_iff.1 hi
 have e1:idx ctx (i:Int)=some q:=by rw [idx_get h1,h2]
 have e2:idx (needI zs) (i:Int)=some ((zs[i]:Nat):Int):=by rw [idx_get (by rw [needI_len]; exact hz)]; simp [needI]
 have e3:List.set (needI zs) i 1=needI (zs.set i 1):=by unfold needI; rw [List.map_set]; rfl
 have h40:¬ ((q.length:Int) > 40):=by omega
 unfold impl_typerfinish impl_long finG
 simp [e1,e2,e3,iCopy q (by omega),show ¬ (40 < (q.length:Int)) by omega,show ¬ (40 < q.length) by omega]
theorem fin_1 {zs:List Nat}:impl_typerfinish (⟨s⟩,⟨[],needI zs,[],0,[]⟩,ctx,⟨1,N,ty,ks⟩,[],[])=some (finG [0] zs []):=by
 unfold impl_typerfinish impl_long finG
 simp
theorem fin_6 (hy:y0.fty.length ≤ 1000) (ht:ty.length ≤ 1000):impl_typerfinish (⟨s⟩,⟨[],z,[y0],0,[]⟩,ctx,⟨6,N,ty,ks⟩,[needI a],us)=some (finG (2 :: (y0.fty ++ ty)) a [y0]):=by
 have hc:=iConc_int [[2],y0.fty,ty] (by simp) (by simp; omega)
 unfold impl_typerfinish impl_long finG impl_typerfinish_c1
 simp only [List.flatten_cons,List.flatten_nil,List.append_nil,List.singleton_append,List.cons_append,List.nil_append] at hc
 simp [idxA,idxB,hc]
 split <;> rename_i q40
 ·rw [if_pos (by omega)]
 ·rw [if_neg (by omega)]
theorem fin_7 (hy:y0.fty.length ≤ 1000) (ht:ty.length ≤ 1000):impl_typerfinish (⟨s⟩,⟨[],z,[y0],0,[]⟩,ctx,⟨7,N,ty,ks⟩,[needI a],us)=some (finG (2 :: (ty ++ y0.fty)) a [y0]):=by
 have hc:=iConc_int [[2],ty,y0.fty] (by simp) (by simp; omega)
 unfold impl_typerfinish impl_long finG impl_typerfinish_c1
 simp only [List.flatten_cons,List.flatten_nil,List.append_nil,List.singleton_append,List.cons_append,List.nil_append] at hc
 simp [idxA,idxB,hc]
 split <;> rename_i q40
 ·rw [if_pos (by omega)]
 ·rw [if_neg (by omega)]
include hs
theorem fin_2 (ha:below n a) (hb:below n b) (hl:a.length ≤ 1000000) (hab:a.length=b.length):impl_typerfinish (⟨s⟩,⟨[],z,[y0,y1],0,[]⟩,ctx,⟨2,N,ty,ks⟩,[needI a,needI b],us)=some (finG [0] (sumN s n a b) [y0,y1]):=by
 have h:=iSumL hs a b ha hb (by omega) hab
 unfold impl_typerfinish impl_long finG
 simp [idxA,idxB,h]
theorem fin_3 (ha:below n a) (hb:below n b) (hd:below n d) (hl:a.length ≤ 1000000) (hab:a.length=b.length) (had:a.length=d.length) (h2:y2.fty.length ≤ 1000) (h1:y1.fty.length ≤ 40) :
  impl_typerfinish (⟨s⟩,⟨[],z,[y0,y1,y2],0,[]⟩,ctx,⟨3,N,ty,ks⟩,[needI a,needI b,needI d],us)=some (if y1.fty=y2.fty then finG y1.fty (sumN s n a (jonN s n b d)) [y0,y1,y2] else (3,⟨[],z,[y0,y1,y2],0,[]⟩)):=by
 have hj:=iJoinL hs b d hb hd (by omega) (by omega)
 have hlj:(jonN s n b d).length=a.length:=by unfold jonN; rw [List.length_zipWith]; omega
 have h:=iSumL hs a (jonN s n b d) ha (below_jon hs hb hd) (by omega) hlj.symm
 have he:=iSame y1.fty y2.fty (by omega)
 unfold impl_typerfinish impl_long finG impl_typerfinish_c1
 by_cases hq:y1.fty=y2.fty
 ·rw [show (y1.fty == y2.fty)=true from beq_iff_eq.2 hq] at he
  rw [if_pos hq]
  simp [idxA,idxB,idxC,he,hj,h,show ¬ (40 < (y1.fty.length:Int)) by omega,show ¬ (40 < y1.fty.length) by omega]
 ·rw [show (y1.fty == y2.fty)=false from beq_eq_false_iff_ne.2 hq] at he
  rw [if_neg hq]
  simp [idxA,idxB,idxC,he]
theorem fin_4 (ha:below n a) (hb:below n b) (hl:a.length ≤ 1000000) (hab:a.length=b.length) (h0:y0.fty.length ≤ 1000) (h1:y1.fty.length ≤ 1000) :
  impl_typerfinish (⟨s⟩,⟨[],z,[y0,y1],0,[]⟩,ctx,⟨4,N,ty,ks⟩,[needI a,needI b],us)=some (finG (1 :: (y0.fty ++ y1.fty)) (sumN s n a b) [y0,y1]):=by
 have h:=iSumL hs a b ha hb (by omega) hab
 have hc:=iConc_int [[1],y0.fty,y1.fty] (by simp) (by simp; omega)
 unfold impl_typerfinish impl_long finG impl_typerfinish_c1
 simp only [List.flatten_cons,List.flatten_nil,List.append_nil,List.singleton_append,List.cons_append,List.nil_append] at hc
 simp [idxA,idxB,hc,h]
 split <;> rename_i q40
 ·rw [if_pos (by omega)]
 ·rw [if_neg (by omega)]
theorem fin_9 {g:Nat} (hg:g < n) {u:List Nat} (hu:below n u) (hul:u.length ≤ 1000000) (hy:y0.fty.length ≤ 1000) (ht:ty.length ≤ 1000) :
  impl_typerfinish (⟨s⟩,⟨[],z,[y0],0,[]⟩,ctx,⟨9,(g:Int),ty,ks⟩,[needI a],[needI u])=some (if (u.all fun x=>le s n x g)=true then finG ((3 + (g:Int)) :: (ty ++ y0.fty)) a [y0] else (9,⟨[],z,[y0],0,[]⟩)):=by
 have hn:=hs.tab.hi
 have e:=iUsed hs g hg u hu (by omega)
 have hw:wr (3 + (g:Int))=3 + (g:Int):=wr_id (by omega) (by omega)
 have hc:=iConc_int [[3 + (g:Int)],ty,y0.fty] (by simp) (by simp; omega)
 unfold impl_typerfinish impl_long finG impl_typerfinish_c1
 simp only [List.flatten_cons,List.flatten_nil,List.append_nil,List.singleton_append,List.cons_append,List.nil_append] at hc
 cases hq:(u.all fun x=>le s n x g) with
 | true =>
  rw [hq] at e
  simp [idxA,idxB,e,hc,hw]
  split <;> rename_i q40
  ·rw [if_pos (by omega)]
  ·rw [if_neg (by omega)]
 | false =>
  rw [hq] at e
  simp [idxA,idxB,e]
theorem fin_11 {g:Nat} (hg:g < n) (ha:below n a) (hl:a.length ≤ 1000000) (hy:y0.fty.length ≤ 1000) :
  impl_typerfinish (⟨s⟩,⟨[],z,[y0],0,[]⟩,ctx,⟨11,(g:Int),ty,ks⟩,[needI a],us)=some (finG ((19 + (g:Int)) :: y0.fty) (sclN s n g a) [y0]):=by
 have hn:=hs.tab.hi
 have e:=iSclL hs g hg a ha (by omega)
 have hw:wr (19 + (g:Int))=19 + (g:Int):=wr_id (by omega) (by omega)
 have hc:=iConc_int [[19 + (g:Int)],y0.fty] (by simp) (by simp; omega)
 unfold impl_typerfinish impl_long finG impl_typerfinish_c1
 simp only [List.flatten_cons,List.flatten_nil,List.append_nil,List.singleton_append,List.cons_append,List.nil_append] at hc
 simp [idxA,idxB,hc,hw,e]
 split <;> rename_i q40
 ·rw [if_pos (by omega)]
 ·rw [if_neg (by omega)]
theorem fin_10 {g:Nat} (hg:g < n) {p q:List Int} (hty:y0.fty=(3 + (g:Int)) :: (p ++ q)) (hP:TwoP s (3 + (g:Int)) p q) (ha:below n a) (hb:below n b) (hl:a.length ≤ 1000000) (hab:a.length=b.length) :
  impl_typerfinish (⟨s⟩,⟨[],z,[y0,y1],0,[]⟩,ctx,⟨10,N,ty,ks⟩,[needI a,needI b],us)=some (finG q (sumN s n a (sclN s n g b)) [y0,y1]):=by
 have hn:=hs.tab.hi
 have e:=iSclL hs g hg b hb (by omega)
 have hlj:(sclN s n g b).length=a.length:=by unfold sclN; rw [List.length_map]; omega
 have h:=iSumL hs a (sclN s n g b) ha (below_scl hs hg hb) (by omega) hlj.symm
 have hsh:shapeI (3 + (g:Int))=(3,(g:Int)):=by
  rcases shapeI_cases (3 + (g:Int)) with h | h | h | h | h | h | h | h <;> first | omega | (obtain ⟨_,e⟩:=h; rw [e]; congr 1; omega)
 have hq:=TyS_len hP.yb
 have pp:=hP.pp
 rw [← hty] at pp
 have i0:idx y0.fty 0=some (3 + (g:Int)):=by rw [hty]; rfl
 unfold impl_typerfinish impl_long finG impl_typerfinish_c1
 simp [idxA,idxB,i0,iShape,hsh,pp,e,h,show ¬ (40 < (q.length:Int)) by omega,show ¬ (40 < q.length) by omega]
theorem fin_5 {g:Nat} (hg:g < n) {u:List Nat} {us':List Int} (hu:below n u) (hul:u.length ≤ 1000000) (ha:below n a) (hb:below n b) (hl:a.length ≤ 1000000) (hab:a.length=b.length) (h1:y1.fty.length ≤ 40) :
  impl_typerfinish (⟨s⟩,⟨[],z,[y0,y1],0,[]⟩,ctx,⟨5,(g:Int),ty,ks⟩,[needI a,needI b],[us',needI u])=some (if (u.all fun x=>le s n x g)=true then finG y1.fty (sumN s n (sclN s n g a) b) [y0,y1] else (9,⟨[],z,[y0,y1],0,[]⟩)):=by
 have e:=iUsed hs g hg u hu (by omega)
 have e2:=iSclL hs g hg a ha (by omega)
 have hlj:(sclN s n g a).length=a.length:=by unfold sclN; rw [List.length_map]
 have h:=iSumL hs (sclN s n g a) b (below_scl hs hg ha) hb (by omega) (by omega)
 unfold impl_typerfinish impl_long finG impl_typerfinish_c1
 cases hq:(u.all fun x=>le s n x g) with
 | true =>
  rw [hq] at e
  simp [idxA,idxB,e,e2,h,show ¬ (40 < (y1.fty.length:Int)) by omega,show ¬ (40 < y1.fty.length) by omega]
 | false =>
  rw [hq] at e
  simp [idxA,idxB,e]
theorem fin_12 {g m:Nat} (hg:g < n) (hm:m < n) {p:List Int} (hty:y0.fty=(19 + (m:Int)) :: p) {u:List Nat} {us':List Int} (hu:below n u) (hul:u.length ≤ 1000000) (ha:below n a) (hb:below n b) (hl:a.length ≤ 1000000) (hab:a.length=b.length) (h1:y1.fty.length ≤ 40) :
  impl_typerfinish (⟨s⟩,⟨[],z,[y0,y1],0,[]⟩,ctx,⟨12,(g:Int),ty,ks⟩,[needI a,needI b],[us',needI u])=some (if (u.all fun x=>le s n x (ti s n g m))=true then finG y1.fty (sumN s n (sclN s n g a) b) [y0,y1] else (9,⟨[],z,[y0,y1],0,[]⟩)):=by
 have hn:=hs.tab.hi
 have e0:=iMul hs.tab hg hm
 have e:=iUsed hs (ti s n g m) (ti_lt hs.tab hg hm) u hu (by omega)
 have e2:=iSclL hs g hg a ha (by omega)
 have hlj:(sclN s n g a).length=a.length:=by unfold sclN; rw [List.length_map]
 have h:=iSumL hs (sclN s n g a) b (below_scl hs hg ha) hb (by omega) (by omega)
 have hsh:shapeI (19 + (m:Int))=(4,(m:Int)):=by
  rcases shapeI_cases (19 + (m:Int)) with h | h | h | h | h | h | h | h <;> first | omega | (obtain ⟨_,e⟩:=h; rw [e]; congr 1; omega)
 have i0:idx y0.fty 0=some (19 + (m:Int)):=by rw [hty]; rfl
 unfold impl_typerfinish impl_long finG impl_typerfinish_c1
 cases hq:(u.all fun x=>le s n x (ti s n g m)) with
 | true =>
  rw [hq] at e
  simp [idxA,idxB,i0,iShape,hsh,e0,e,e2,h,show ¬ (40 < (y1.fty.length:Int)) by omega,show ¬ (40 < y1.fty.length) by omega]
 | false =>
  rw [hq] at e
  simp [idxA,idxB,i0,iShape,hsh,e0,e]
theorem fin_8 {g:Nat} (hg:g < n) {u v:List Nat} {us':List Int} (hu:below n u) (hul:u.length ≤ 1000000) (hv:below n v) (hvl:v.length ≤ 1000000) (ha:below n a) (hb:below n b) (hd:below n d) (hl:a.length ≤ 1000000) (hab:a.length=b.length) (had:a.length=d.length) (h2:y2.fty.length ≤ 1000) (h1:y1.fty.length ≤ 40) :
  impl_typerfinish (⟨s⟩,⟨[],z,[y0,y1,y2],0,[]⟩,ctx,⟨8,(g:Int),ty,ks⟩,[needI a,needI b,needI d],[us',needI u,needI v]) =
   some (if y1.fty=y2.fty then (if (u.all fun x=>le s n x g)=true∧(v.all fun x=>le s n x g)=true then finG y1.fty (sumN s n (sclN s n g a) (jonN s n b d)) [y0,y1,y2] else (9,⟨[],z,[y0,y1,y2],0,[]⟩)) else (3,⟨[],z,[y0,y1,y2],0,[]⟩)):=by
 have e:=iUsed hs g hg u hu (by omega)
 have e':=iUsed hs g hg v hv (by omega)
 have e2:=iSclL hs g hg a ha (by omega)
 have hj:=iJoinL hs b d hb hd (by omega) (by omega)
 have hlj:(jonN s n b d).length=a.length:=by unfold jonN; rw [List.length_zipWith]; omega
 have hls:(sclN s n g a).length=a.length:=by unfold sclN; rw [List.length_map]
 have h:=iSumL hs (sclN s n g a) (jonN s n b d) (below_scl hs hg ha) (below_jon hs hb hd) (by omega) (by omega)
 have he:=iSame y1.fty y2.fty (by omega)
 unfold impl_typerfinish impl_long finG impl_typerfinish_c1
 by_cases hq:y1.fty=y2.fty
 ·rw [show (y1.fty == y2.fty)=true from beq_iff_eq.2 hq] at he
  rw [if_pos hq]
  cases hu':(u.all fun x=>le s n x g) with
  | false =>
   rw [hu'] at e
   simp [idxA,idxB,idxC,he,e]
  | true =>
   rw [hu'] at e
   cases hv':(v.all fun x=>le s n x g) with
   | false =>
    rw [hv'] at e'
    simp [idxA,idxB,idxC,he,e,e']
   | true =>
    rw [hv'] at e'
    simp [idxA,idxB,idxC,he,e,e',e2,hj,h,show ¬ (40 < (y1.fty.length:Int)) by omega,show ¬ (40 < y1.fty.length) by omega]
 ·rw [show (y1.fty == y2.fty)=false from beq_eq_false_iff_ne.2 hq] at he
  rw [if_neg hq]
  simp [idxA,idxB,idxC,he]
end
def addF (t:GTerm) (i:Nat) (kids:List GTyped):List (List Int):=(impl_added (t,(i:Int),(match kids with | []=>[] | y :: _=>y.fty))).getD []
structure KidF (s:GSystem) (ctx:List (List Int)) (t:GTerm) (kids:List GTyped) (i:Nat) (k:GTerm) (y:GTyped):Prop where
 im:impl_typertyp (⟨s⟩,addF t i kids ++ ctx,k)=some y
 fa:y.ffault=0
 ty:∀ q ∈ addF t i kids,TyS s q
 ln:(addF t i kids).length=addsI t.fOp i
structure TellR (s:GSystem) (n:Nat) (ctx:List (List Int)) (t:GTerm) (x:GL3Told) (y:GTyped):Prop where
 sp:spec_l3Tell (s,ctx,t)=some x
 im:impl_typertyp (⟨s⟩,ctx,t)=some y
 ty:y.fty=x.fty
 ne:y.fneeds=x.fneeds
 fa:y.ffault=x.ffault
 pa:y.fpath=x.fpath
 pl:x.fpath.length + 1 ≤ tsz t
 bd:x.ffault ≠ 0→x.fty=[]∧x.fneeds=[]
 gd:x.ffault=0→TyS s x.fty∧x.fpath=[]∧∃ ns:List Nat,x.fneeds=needI ns∧ns.length=ctx.length∧below n ns
 kd:x.ffault=0→y.fkids.length=t.fKids.length∧∀ (i:Nat) (k:GTerm),t.fKids[i]?=some k→∃ yk,y.fkids[i]?=some yk∧KidF s ctx t y.fkids i k yk
section
variable {s:GSystem} {n:Nat} {ctx:List (List Int)} {t:GTerm}
theorem TellR.bad {f:Int} {p:List Int} (sp:spec_l3Tell (s,ctx,t)=some ⟨[],[],f,p⟩) (im:impl_typertyp (⟨s⟩,ctx,t)=some ⟨[],[],[],f,p⟩) (hf:f ≠ 0) (hp:p.length + 1 ≤ tsz t):∃ x y,TellR s n ctx t x y :=
 ⟨_,_,{ sp:=sp,im:=im,ty:=rfl,ne:=rfl,fa:=rfl,pa:=rfl,pl:=hp,bd:=fun _=>⟨rfl,rfl⟩,gd:=fun h=>absurd h hf,kd:=fun h=>absurd h hf }⟩
theorem TellR.good {q:List Int} {ns:List Nat} {kids:List GTyped} (sp:spec_l3Tell (s,ctx,t)=some ⟨q,needI ns,0,[]⟩) (im:impl_typertyp (⟨s⟩,ctx,t)=some ⟨q,needI ns,kids,0,[]⟩) (hp:1 ≤ tsz t) (hq:TyS s q) (hl:ns.length=ctx.length) (hb:below n ns)
  (kl:kids.length=t.fKids.length) (kd:∀ (i:Nat) (k:GTerm),t.fKids[i]?=some k→∃ yk,kids[i]?=some yk∧KidF s ctx t kids i k yk):∃ x y,TellR s n ctx t x y :=
 ⟨_,_,{ sp:=sp,im:=im,ty:=rfl,ne:=rfl,fa:=rfl,pa:=rfl,pl:=by simpa using hp,bd:=fun h=>absurd rfl h,gd:=fun _=>⟨hq,rfl,ns,rfl,hl,hb⟩,kd:=fun _=>⟨kl,kd⟩ }⟩
theorem TellR.done {q:List Int} {ns:List Nat} {kids:List GTyped} (sp:spec_l3Tell (s,ctx,t)=spec_l3Done (q,needI ns)) (im:impl_typertyp (⟨s⟩,ctx,t)=some (if (finG q ns kids).1=0 then ⟨(finG q ns kids).2.fty,(finG q ns kids).2.fneeds,(finG q ns kids).2.fkids,0,(finG q ns kids).2.fpath⟩ else ⟨[],[],[],(finG q ns kids).1,[]⟩)) (hp:1 ≤ tsz t)
  (hq:q.length ≤ 40→TyS s q) (hl:ns.length=ctx.length) (hb:below n ns) (kl:kids.length=t.fKids.length) (kd:∀ (i:Nat) (k:GTerm),t.fKids[i]?=some k→∃ yk,kids[i]?=some yk∧KidF s ctx t kids i k yk):∃ x y,TellR s n ctx t x y:=by
 unfold spec_l3Done spec_l3Bad at sp
 simp only at sp
 unfold finG at im
 by_cases h:q.length > 40
 ·rw [decide_eq_true (by omega),if_pos rfl,bs] at sp
  rw [if_pos h,if_neg (by simp)] at im
  exact TellR.bad sp im (by decide) (by simpa using hp)
 ·rw [decide_eq_false (by omega),if_neg (by decide)] at sp
  rw [if_neg h,if_pos rfl] at im
  exact TellR.good sp im hp (hq (by omega)) hl hb kl kd
theorem sOf_ok {i:Nat} {k:GTerm} {x:GL3Told} {y:GTyped} {c:List (List Int)} (hk:t.fKids[i]?=some k) (h:TellR s n c k x y) (hf:x.ffault=0):spec_l3Of (s,c,t,(i:Int))=some x:=by
 obtain ⟨h1,h2⟩:=List.getElem?_eq_some_iff.1 hk
 rw [spec_l3Of.eq_def]
 simp only
 rw [idx_get h1,h2,bs,h.sp,bs,if_neg (by simp [hf]),bs]
theorem sOf_bad {i:Nat} {k:GTerm} {x:GL3Told} {y:GTyped} {c:List (List Int)} (hk:t.fKids[i]?=some k) (h:TellR s n c k x y) (hz:tsz k ≤ 1000000) (hf:x.ffault ≠ 0):spec_l3Of (s,c,t,(i:Int))=some ⟨[],[],x.ffault,(i:Int) :: x.fpath⟩:=by
 obtain ⟨h1,h2⟩:=List.getElem?_eq_some_iff.1 hk
 have hp:=h.pl
 obtain ⟨q1,q2⟩:=h.bd hf
 rw [spec_l3Of.eq_def]
 simp only
 rw [idx_get h1,h2,bs,h.sp,bs,if_pos (bne_iff_ne.2 hf),fits_ok (by simp; omega),bs,bs,q1,q2]
 rfl
variable {out:List GTyped} {nd us:List (List Int)} {w:Nat} {k:GTerm} {m:List (List Int)} {x:GL3Told} {y:GTyped}
theorem kidB (hk:t.fKids[w]?=some k) (hm:moreE t out w=some m) (r:TellR s n (m ++ ctx) k x y) (hz:tsz k ≤ 1000000) (hc:ctx.length + m.length ≤ 1000000) (hf:x.ffault ≠ 0) :
  impl_typertyp_l0 (⟨s⟩,ctx,t,out,nd,us,(w:Int))=some (.inr ⟨[],[],[],x.ffault,(w:Int) :: x.fpath⟩):=by
 obtain ⟨h1,h2⟩:=List.getElem?_eq_some_iff.1 hk
 have hp:=r.pl
 rw [iStep h1 (by rw [idx_get h1,h2]) hm hc r.im,stepE_bad (by rw [r.fa]; exact hf) (by rw [r.pa]; omega),r.fa,r.pa]
theorem kidN {f:Int} (hk:t.fKids[w]?=some k) (hm:moreE t out w=some m) (r:TellR s n (m ++ ctx) k x y) (hc:ctx.length + m.length ≤ 1000000) (hf:x.ffault=0) (h:impl_typerfirstOk (⟨s⟩,t,(w:Int),x.fty)=some f) (hf0:f ≠ 0) :
  impl_typertyp_l0 (⟨s⟩,ctx,t,out,nd,us,(w:Int))=some (.inr ⟨[],[],[],f,[]⟩):=by
 obtain ⟨h1,h2⟩:=List.getElem?_eq_some_iff.1 hk
 rw [iStep h1 (by rw [idx_get h1,h2]) hm hc r.im,stepE_first (by rw [r.fa]; exact hf) (by rw [r.ty]; exact h) hf0]
theorem kidA (hk:t.fKids[w]?=some k) (hm:moreE t out w=some m) (r:TellR s n (m ++ ctx) k x y) (hc:ctx.length + m.length ≤ 1000000) (hf:x.ffault=0) (h:impl_typerfirstOk (⟨s⟩,t,(w:Int),x.fty)=some 0) (ha:appE t out w y=some true) :
  impl_typertyp_l0 (⟨s⟩,ctx,t,out,nd,us,(w:Int))=some (.inr ⟨[],[],[],3,[]⟩):=by
 obtain ⟨h1,h2⟩:=List.getElem?_eq_some_iff.1 hk
 rw [iStep h1 (by rw [idx_get h1,h2]) hm hc r.im,stepE_app (by rw [r.fa]; exact hf) (by rw [r.ty]; exact h) ha]
theorem kidO {ns:List Nat} (hk:t.fKids[w]?=some k) (hm:moreE t out w=some m) (r:TellR s n (m ++ ctx) k x y) (hc:ctx.length + m.length ≤ 1000000) (hf:x.ffault=0) (h:impl_typerfirstOk (⟨s⟩,t,(w:Int),x.fty)=some 0) (ha:appE t out w y=some false)
  (hn:x.fneeds=needI ns) (hl:m.length ≤ ns.length) (h1':out.length ≤ 1000000) (h2':nd.length ≤ 1000000) (h3':us.length ≤ 1000000) (h4':w ≤ 1000000) :
  impl_typertyp_l0 (⟨s⟩,ctx,t,out,nd,us,(w:Int))=impl_typertyp_l0 (⟨s⟩,ctx,t,(out ++ [y]),(nd ++ [needI (ns.drop m.length)]),(us ++ [needI (ns.take m.length)]),((w + 1:Nat):Int)):=by
 obtain ⟨h1,h2⟩:=List.getElem?_eq_some_iff.1 hk
 rw [iStep h1 (by rw [idx_get h1,h2]) hm hc r.im,stepE_ok (by rw [r.fa]; exact hf) (by rw [r.ty]; exact h) ha (by rw [r.ne]; exact hn) hl h1' h2' h3' h4']
end
theorem added_none {op N:Int} {ty:List Int} {ks:List GTerm} {i:Nat} {q:List Int} (h9:op ≠ 9) (h:addsI op (i:Int)=0):impl_added (⟨op,N,ty,ks⟩,(i:Int),q)=some []:=by
 unfold impl_added
 simp only
 rw [if_neg (by simpa using h9),iAdds,bs,h]
 rfl
theorem added_9 {N:Int} {ty:List Int} {ks:List GTerm} {i:Nat} {q:List Int}:impl_added (⟨9,N,ty,ks⟩,(i:Int),q)=some [ty]:=by
 unfold impl_added
 simp only
 rw [if_pos (by decide)]
theorem added_5 {s:GSystem} {N:Int} {ty:List Int} {ks:List GTerm} {p q:List Int} (h:TwoP s 1 p q):impl_added (⟨5,N,ty,ks⟩,((1:Nat):Int),1 :: (p ++ q))=some [q,p]:=by
 unfold impl_added
 simp only
 rw [if_neg (by decide),iAdds,bs,show addsI 5 ((1:Nat):Int)=2 from rfl,if_neg (by decide),h.pp,bs,if_pos (by decide)]
 rfl
theorem added_8a {s:GSystem} {N:Int} {ty:List Int} {ks:List GTerm} {p q:List Int} (h:TwoP s 2 p q):impl_added (⟨8,N,ty,ks⟩,((1:Nat):Int),2 :: (p ++ q))=some [p]:=by
 unfold impl_added
 simp only
 rw [if_neg (by decide),iAdds,bs,show addsI 8 ((1:Nat):Int)=1 from rfl,if_neg (by decide),h.pp,bs,if_neg (by decide),if_pos (by decide)]
 rfl
theorem added_8b {s:GSystem} {N:Int} {ty:List Int} {ks:List GTerm} {p q:List Int} (h:TwoP s 2 p q):impl_added (⟨8,N,ty,ks⟩,((2:Nat):Int),2 :: (p ++ q))=some [q]:=by
 unfold impl_added
 simp only
 rw [if_neg (by decide),iAdds,bs,show addsI 8 ((2:Nat):Int)=1 from rfl,if_neg (by decide),h.pp,bs,if_neg (by decide),if_pos (by decide)]
 rfl
theorem added_12 {s:GSystem} {N c:Int} {ty:List Int} {ks:List GTerm} {p:List Int} (h:OneP s c p):impl_added (⟨12,N,ty,ks⟩,((1:Nat):Int),c :: p)=some [p]:=by
 unfold impl_added
 simp only
 rw [if_neg (by decide),iAdds,bs,show addsI 12 ((1:Nat):Int)=1 from rfl,if_neg (by decide),h.pp,bs,if_neg (by decide),if_neg (by decide)]
theorem more_zero {op N:Int} {ty:List Int} {ks:List GTerm} (h9:op ≠ 9):moreE ⟨op,N,ty,ks⟩ [] 0=some []:=by
 unfold moreE
 simp [h9]
theorem more_9 {N:Int} {ty:List Int} {ks:List GTerm}:moreE ⟨9,N,ty,ks⟩ [] 0=some [ty]:=by
 unfold moreE
 have:=@added_9 N ty ks 0 []
 simp at this ⊢
 rw [this]
theorem more_pos {t:GTerm} {w:Nat} {y0:GTyped} {l:List GTyped} {m:List (List Int)} (hw:0 < w) (h:impl_added (t,(w:Int),y0.fty)=some m):moreE t (y0 :: l) w=some m:=by
 unfold moreE
 rw [show decide ((w:Int) > 0)=true from decide_eq_true (by omega),if_pos rfl,bs,if_pos rfl,if_pos rfl,idxA,bs,bs,h,bs]
theorem addF_eq {t:GTerm} {i:Nat} {y0:GTyped} {l:List GTyped} {m:List (List Int)} (h:impl_added (t,(i:Int),y0.fty)=some m):addF t i (y0 :: l)=m:=by
 unfold addF
 simp only
 rw [h]; rfl
theorem kd1 {s:GSystem} {ctx:List (List Int)} {op N:Int} {ty:List Int} {k0:GTerm} {y0:GTyped} (h0:KidF s ctx ⟨op,N,ty,[k0]⟩ [y0] 0 k0 y0) :
  ∀ (i:Nat) (k:GTerm),(⟨op,N,ty,[k0]⟩:GTerm).fKids[i]?=some k→∃ yk,[y0][i]?=some yk∧KidF s ctx ⟨op,N,ty,[k0]⟩ [y0] i k yk:=by
 intro i k hk
 match i,hk with
 | 0,hk=>cases hk; exact ⟨y0,rfl,h0⟩
 | i + 1,hk=>simp at hk
theorem kd2 {s:GSystem} {ctx:List (List Int)} {op N:Int} {ty:List Int} {k0 k1:GTerm} {y0 y1:GTyped} (h0:KidF s ctx ⟨op,N,ty,[k0,k1]⟩ [y0,y1] 0 k0 y0) (h1:KidF s ctx ⟨op,N,ty,[k0,k1]⟩ [y0,y1] 1 k1 y1) :
  ∀ (i:Nat) (k:GTerm),(⟨op,N,ty,[k0,k1]⟩:GTerm).fKids[i]?=some k→∃ yk,[y0,y1][i]?=some yk∧KidF s ctx ⟨op,N,ty,[k0,k1]⟩ [y0,y1] i k yk:=by
 intro i k hk
 match i,hk with
 | 0,hk=>cases hk; exact ⟨y0,rfl,h0⟩
 | 1,hk=>cases hk; exact ⟨y1,rfl,h1⟩
 | i + 2,hk=>simp at hk
theorem kd3 {s:GSystem} {ctx:List (List Int)} {op N:Int} {ty:List Int} {k0 k1 k2:GTerm} {y0 y1 y2:GTyped} (h0:KidF s ctx ⟨op,N,ty,[k0,k1,k2]⟩ [y0,y1,y2] 0 k0 y0) (h1:KidF s ctx ⟨op,N,ty,[k0,k1,k2]⟩ [y0,y1,y2] 1 k1 y1) (h2:KidF s ctx ⟨op,N,ty,[k0,k1,k2]⟩ [y0,y1,y2] 2 k2 y2) :
  ∀ (i:Nat) (k:GTerm),(⟨op,N,ty,[k0,k1,k2]⟩:GTerm).fKids[i]?=some k→∃ yk,[y0,y1,y2][i]?=some yk∧KidF s ctx ⟨op,N,ty,[k0,k1,k2]⟩ [y0,y1,y2] i k yk:=by
 intro i k hk
 match i,hk with
 | 0,hk=>cases hk; exact ⟨y0,rfl,h0⟩
 | 1,hk=>cases hk; exact ⟨y1,rfl,h1⟩
 | 2,hk=>cases hk; exact ⟨y2,rfl,h2⟩
 | i + 3,hk=>simp at hk
theorem KidF.mk' {s:GSystem} {n:Nat} {ctx m:List (List Int)} {t k:GTerm} {y0:GTyped} {l:List GTyped} {i:Nat} {x:GL3Told} {y:GTyped} (ha:impl_added (t,(i:Int),y0.fty)=some m) (r:TellR s n (m ++ ctx) k x y) (hf:x.ffault=0) (hm:∀ q ∈ m,TyS s q) (hl:m.length=addsI t.fOp i):KidF s ctx t (y0 :: l) i k y:=by
 have e:=addF_eq (l:=l) ha
 exact ⟨by rw [e]; exact r.im,by rw [r.fa]; exact hf,by rw [e]; exact hm,by rw [e]; exact hl⟩
def TellIH (s:GSystem) (n sz:Nat):Prop:=∀ (k:GTerm) (c:List (List Int)),KidP s c.length k sz→(∀ q ∈ c,TyS s q)→c.length + 2 * tsz k ≤ 1000000→∃ x y,TellR s n c k x y
theorem im_ok {X:Option GTyped} {q:List Int} {ns:List Nat} {kids:List GTyped} (h:q.length ≤ 40) (im:X=some (if (finG q ns kids).1=0 then (⟨(finG q ns kids).2.fty,(finG q ns kids).2.fneeds,(finG q ns kids).2.fkids,0,(finG q ns kids).2.fpath⟩:GTyped) else ⟨[],[],[],(finG q ns kids).1,[]⟩)):X=some ⟨q,needI ns,kids,0,[]⟩:=by
 rw [im]
 unfold finG
 simp only
 rw [show (if q.length > 40 then (3:Int) else 0)=0 from if_neg (by omega),if_pos rfl]
section
variable {s:GSystem} {n:Nat} (hs:SysL s n) {ctx:List (List Int)} {N:Int} {ty:List Int} {ks:List GTerm}
theorem tell_bad0 {op:Int} {k0:GTerm} {l:List GTerm} {x0:GL3Told} {y0:GTyped} (h0:op ≠ 0) (h1:op ≠ 1) (h9:op ≠ 9) (hb:ctx.length + 2 * tsz (⟨op,N,ty,k0 :: l⟩:GTerm) ≤ 1000000) (r0:TellR s n ctx k0 x0 y0) (f0:x0.ffault ≠ 0) :
  ∃ x y,TellR s n ctx ⟨op,N,ty,k0 :: l⟩ x y:=by
 have hz:tsz k0 + 1 ≤ tsz (⟨op,N,ty,k0 :: l⟩:GTerm):=by rw [tsz,tszs]; omega
 have e0:spec_l3Of (s,ctx,⟨op,N,ty,k0 :: l⟩,0)=some ⟨[],[],x0.ffault,0 :: x0.fpath⟩:=sOf_bad (i:=0) rfl r0 (by omega) f0
 refine TellR.bad (f:=x0.ffault) (p:=0 :: x0.fpath) ?_ (iTyp_r (by omega) (kidB (m:=[]) rfl (more_zero h9) r0 (by omega) (by simp; omega) f0)) f0 (by have:=r0.pl; simp; omega)
 rw [spec_l3Tell.eq_def]
 simp [h0,h1,h9,e0,f0]
include hs
theorem tell_0 {t:GTerm} (ht:t.fOp=0) (h:tOk (gN s.fSize true) (yN s.fSize true) ctx.length t=true) (hc:∀ q ∈ ctx,TyS s q) (hb:ctx.length + 2 * tsz t ≤ 1000000):∃ x y,TellR s n ctx t x y:=by
 obtain ⟨i,hi,hl,hk⟩:=nd_var h ht
 obtain ⟨op,N,ty,ks⟩:=t
 simp only at ht hi hk
 subst ht; subst hi; subst hk
 have hq:ctx[i]?=some ctx[i]:=List.getElem?_eq_getElem hl
 have hy:=hc ctx[i] (List.getElem_mem hl)
 have e1:idx ctx (i:Int)=some ctx[i]:=idx_get hl
 have hz:=sZeroL ctx.length (by omega)
 have e2:idx (needI (List.replicate ctx.length 0)) (i:Int)=some (((List.replicate ctx.length (0:Nat))[i]'(by simpa using hl):Nat):Int):=by
  rw [idx_get (by rw [needI_len]; simpa using hl)]; simp [needI]
 have e3:List.set (needI (List.replicate ctx.length 0)) i 1=needI ((List.replicate ctx.length 0).set i 1):=by unfold needI; rw [List.map_set]; rfl
 have hf:=fin_0 (s:=s) (ty:=ty) (ks:=[]) (zs:=List.replicate ctx.length 0) hq (by simpa using hl) (TyS_len hy)
 have im:=iTyp_l (p0:=⟨s⟩) (t:=⟨0,(i:Int),ty,[]⟩) (by omega) (iLast (Nat.le_refl _)) hf
 refine TellR.good (q:=ctx[i]) (ns:=(List.replicate ctx.length 0).set i 1) (kids:=[]) ?_ ?_ (by rw [tsz]; omega) hy (by simp) ?_ rfl (fun i k hk=>by simp at hk)
 ·rw [spec_l3Tell.eq_def]
  simp [hz,e1,e2,sCopy ctx[i] (by have:=TyS_len hy; omega),e3]
 ·exact im_ok (TyS_len hy) im
 ·intro x hx
  have h1:=one_lt_n hs
  rcases List.mem_or_eq_of_mem_set hx with h | rfl
  ·rw [List.eq_of_mem_replicate h]; omega
  ·exact h1
theorem tell_1 {t:GTerm} (ht:t.fOp=1) (h:tOk (gN s.fSize true) (yN s.fSize true) ctx.length t=true) (hb:ctx.length + 2 * tsz t ≤ 1000000):∃ x y,TellR s n ctx t x y:=by
 have hk:=nd_num h ht
 obtain ⟨op,N,ty,ks⟩:=t
 simp only at ht hk
 subst ht; subst hk
 have hz:=sZeroL ctx.length (by omega)
 have hf:=fin_1 (s:=s) (N:=N) (ty:=ty) (ks:=[]) (ctx:=ctx) (zs:=List.replicate ctx.length 0)
 have im:=iTyp_l (p0:=⟨s⟩) (t:=⟨1,N,ty,[]⟩) (by omega) (iLast (Nat.le_refl _)) hf
 refine TellR.good (q:=[0]) (ns:=List.replicate ctx.length 0) (kids:=[]) ?_ ?_ (by rw [tsz]; omega) TyS_num (by simp) ?_ rfl (fun i k hk=>by simp at hk)
 ·rw [spec_l3Tell.eq_def]
  simp [hz]
 ·exact im_ok (by decide) im
 ·intro x hx
  rw [List.eq_of_mem_replicate hx]
  exact zero_lt_n hs
theorem num_of {q:List Int} (hq:TyS s q):∃ c r,q=c :: r∧((shapeI c).1=0 ↔ c=0)∧(c=0→q=[0]):=by
 rcases TyS_cases hs hq with rfl | ⟨a,b,rfl,_⟩ | ⟨a,b,rfl,_⟩ | ⟨g,a,b,hg,h15,rfl,_⟩ | ⟨g,a,hg,h15,rfl,_⟩
 ·exact ⟨0,[],rfl,by decide,fun _=>rfl⟩
 ·exact ⟨1,_,rfl,by decide,fun h=>absurd h (by decide)⟩
 ·exact ⟨2,_,rfl,by decide,fun h=>absurd h (by decide)⟩
 ·refine ⟨_,_,rfl,?_,fun h=>by omega⟩
  rcases shapeI_cases (3 + (g:Int)) with h | h | h | h | h | h | h | h <;> first | omega | (obtain ⟨_,e⟩:=h; rw [e]; simp; omega)
 ·refine ⟨_,_,rfl,?_,fun h=>by omega⟩
  rcases shapeI_cases (19 + (g:Int)) with h | h | h | h | h | h | h | h <;> first | omega | (obtain ⟨_,e⟩:=h; rw [e]; simp; omega)
theorem tell_6 (ih:TellIH s n (tsz (⟨6,N,ty,ks⟩:GTerm))) (h:tOk (gN s.fSize true) (yN s.fSize true) ctx.length ⟨6,N,ty,ks⟩=true) (hc:∀ q ∈ ctx,TyS s q) (hb:ctx.length + 2 * tsz (⟨6,N,ty,ks⟩:GTerm) ≤ 1000000):∃ x y,TellR s n ctx ⟨6,N,ty,ks⟩ x y:=by
 obtain ⟨k0,rfl,p0⟩:=nd1 h (Nat.le_refl _) rfl
 have hz:=tsz_1 6 N ty k0
 have hy:TyS s ty:=nd_Y h rfl
 have ly:=TyS_len hy
 obtain ⟨x0,y0,r0⟩:=ih k0 ctx p0 hc (by omega)
 by_cases f0:x0.ffault=0
 rotate_left
 ·exact tell_bad0 (by decide) (by decide) (by decide) hb r0 f0
 obtain ⟨g0,q0,a,na,la,ba⟩:=r0.gd f0
 obtain ⟨c0,t0,ht0,hn0,hz0⟩:=num_of hs g0
 have L0:=TyS_len g0
 have e0:spec_l3Of (s,ctx,⟨6,N,ty,[k0]⟩,0)=some x0:=sOf_ok (i:=0) rfl r0 f0
 have o0:=kidO (out:=[]) (nd:=[]) (us:=[]) (w:=0) (t:=⟨6,N,ty,[k0]⟩) (m:=[]) rfl (more_zero (by decide)) r0 (by simp; omega) f0 (by rw [ht0]; exact first_none (.inl (by decide))) (appE_other (show (6:Int) ≠ 10 by decide)) na (by simp <;> omega) (by simp) (by simp) (by simp) (by simp)
 have hf:=fin_6 (s:=s) (N:=N) (ty:=ty) (ks:=[k0]) (ctx:=ctx) (us:=[needI []]) (z:=needI (List.replicate ctx.length 0)) (y0:=y0) (a:=a) (by rw [r0.ty]; omega) (by omega)
 have im:=iTyp_l (p0:=⟨s⟩) (t:=⟨6,N,ty,[k0]⟩) (ctx:=ctx) (by omega) (o0.trans (iLast (Nat.le_refl _))) hf
 rw [r0.ty] at im
 refine TellR.done (q:=2 :: (x0.fty ++ ty)) (ns:=a) (kids:=[y0]) ?_ im (by omega) (fun hl=>TyS_two hs g0 hy (.inr (.inl rfl)) hl) la ba rfl (kd1 (KidF.mk' (added_none (by decide) rfl) r0 f0 (fun _ h=>by cases h) rfl))
 have hg:=sGlue 2 [x0.fty,ty] (by simp) (by simp; omega)
 simp only [List.flatten_cons,List.flatten_nil,List.append_nil] at hg
 rw [spec_l3Tell.eq_def]
 simp [e0,f0,hg,na]
theorem tell_7 (ih:TellIH s n (tsz (⟨7,N,ty,ks⟩:GTerm))) (h:tOk (gN s.fSize true) (yN s.fSize true) ctx.length ⟨7,N,ty,ks⟩=true) (hc:∀ q ∈ ctx,TyS s q) (hb:ctx.length + 2 * tsz (⟨7,N,ty,ks⟩:GTerm) ≤ 1000000):∃ x y,TellR s n ctx ⟨7,N,ty,ks⟩ x y:=by
 obtain ⟨k0,rfl,p0⟩:=nd1 h (Nat.le_refl _) rfl
 have hz:=tsz_1 7 N ty k0
 have hy:TyS s ty:=nd_Y h rfl
 have ly:=TyS_len hy
 obtain ⟨x0,y0,r0⟩:=ih k0 ctx p0 hc (by omega)
 by_cases f0:x0.ffault=0
 rotate_left
 ·exact tell_bad0 (by decide) (by decide) (by decide) hb r0 f0
 obtain ⟨g0,q0,a,na,la,ba⟩:=r0.gd f0
 obtain ⟨c0,t0,ht0,hn0,hz0⟩:=num_of hs g0
 have L0:=TyS_len g0
 have e0:spec_l3Of (s,ctx,⟨7,N,ty,[k0]⟩,0)=some x0:=sOf_ok (i:=0) rfl r0 f0
 have o0:=kidO (out:=[]) (nd:=[]) (us:=[]) (w:=0) (t:=⟨7,N,ty,[k0]⟩) (m:=[]) rfl (more_zero (by decide)) r0 (by simp; omega) f0 (by rw [ht0]; exact first_none (.inl (by decide))) (appE_other (show (7:Int) ≠ 10 by decide)) na (by simp <;> omega) (by simp) (by simp) (by simp) (by simp)
 have hf:=fin_7 (s:=s) (N:=N) (ty:=ty) (ks:=[k0]) (ctx:=ctx) (us:=[needI []]) (z:=needI (List.replicate ctx.length 0)) (y0:=y0) (a:=a) (by rw [r0.ty]; omega) (by omega)
 have im:=iTyp_l (p0:=⟨s⟩) (t:=⟨7,N,ty,[k0]⟩) (ctx:=ctx) (by omega) (o0.trans (iLast (Nat.le_refl _))) hf
 rw [r0.ty] at im
 refine TellR.done (q:=2 :: (ty ++ x0.fty)) (ns:=a) (kids:=[y0]) ?_ im (by omega) (fun hl=>TyS_two hs hy g0 (.inr (.inl rfl)) hl) la ba rfl (kd1 (KidF.mk' (added_none (by decide) rfl) r0 f0 (fun _ h=>by cases h) rfl))
 have hg:=sGlue 2 [ty,x0.fty] (by simp) (by simp; omega)
 simp only [List.flatten_cons,List.flatten_nil,List.append_nil] at hg
 rw [spec_l3Tell.eq_def]
 simp [e0,f0,hg,na]
theorem tell_11 (ih:TellIH s n (tsz (⟨11,N,ty,ks⟩:GTerm))) (h:tOk (gN s.fSize true) (yN s.fSize true) ctx.length ⟨11,N,ty,ks⟩=true) (hc:∀ q ∈ ctx,TyS s q) (hb:ctx.length + 2 * tsz (⟨11,N,ty,ks⟩:GTerm) ≤ 1000000):∃ x y,TellR s n ctx ⟨11,N,ty,ks⟩ x y:=by
 obtain ⟨k0,rfl,p0⟩:=nd1 h (Nat.le_refl _) rfl
 have hz:=tsz_1 11 N ty k0
 obtain ⟨g,hN,hg'⟩:=gN_nat hs (nd_N h rfl)
 simp only at hN
 subst hN
 obtain ⟨x0,y0,r0⟩:=ih k0 ctx p0 hc (by omega)
 by_cases f0:x0.ffault=0
 rotate_left
 ·exact tell_bad0 (by decide) (by decide) (by decide) hb r0 f0
 obtain ⟨g0,q0,a,na,la,ba⟩:=r0.gd f0
 obtain ⟨c0,t0,ht0,hn0,hz0⟩:=num_of hs g0
 have L0:=TyS_len g0
 have e0:spec_l3Of (s,ctx,⟨11,(g:Int),ty,[k0]⟩,0)=some x0:=sOf_ok (i:=0) rfl r0 f0
 have o0:=kidO (out:=[]) (nd:=[]) (us:=[]) (w:=0) (t:=⟨11,(g:Int),ty,[k0]⟩) (m:=[]) rfl (more_zero (by decide)) r0 (by simp; omega) f0 (by rw [ht0]; exact first_none (.inl (by decide))) (appE_other (show (11:Int) ≠ 10 by decide)) na (by simp <;> omega) (by simp) (by simp) (by simp) (by simp)
 have hf:=fin_11 (ty:=ty) (ks:=[k0]) (ctx:=ctx) (us:=[needI []]) (z:=needI (List.replicate ctx.length 0)) (y0:=y0) (a:=a) hs hg' ba (by omega) (by rw [r0.ty]; omega)
 have im:=iTyp_l (p0:=⟨s⟩) (t:=⟨11,(g:Int),ty,[k0]⟩) (ctx:=ctx) (by omega) (o0.trans (iLast (Nat.le_refl _))) hf
 rw [r0.ty] at im
 have hn:=hs.tab.hi
 refine TellR.done (q:=(19 + (g:Int)) :: x0.fty) (ns:=sclN s n g a) (kids:=[y0]) ?_ im (by omega) (fun hl=>TyS_one hs hg' g0 hl) (by unfold sclN; rw [List.length_map]; exact la) (below_scl hs hg' ba) rfl (kd1 (KidF.mk' (added_none (by decide) rfl) r0 f0 (fun _ h=>by cases h) rfl))
 have hg:=sGlue (19 + (g:Int)) [x0.fty] (by simp) (by simp; omega)
 simp only [List.flatten_cons,List.flatten_nil,List.append_nil] at hg
 have hsc:=below_scl hs hg' ba
 have hz0:=sum_zero hs hsc
 rw [show (sclN s n g a).length=ctx.length by unfold sclN; rw [List.length_map]; exact la] at hz0
 have hsum:=sSumL hs g hg' (List.replicate ctx.length 0) a (fun x hx=>by rw [List.eq_of_mem_replicate hx]; exact zero_lt_n hs) ba (by simp; omega) (by simp [la])
 rw [hz0] at hsum
 have hw:wr (19 + (g:Int))=19 + (g:Int):=wr_id (by omega) (by omega)
 rw [spec_l3Tell.eq_def]
 simp [e0,f0,hg,na,hw,sZeroL ctx.length (by omega),hsum]
theorem tell_9 (ih:TellIH s n (tsz (⟨9,N,ty,ks⟩:GTerm))) (h:tOk (gN s.fSize true) (yN s.fSize true) ctx.length ⟨9,N,ty,ks⟩=true) (hc:∀ q ∈ ctx,TyS s q) (hb:ctx.length + 2 * tsz (⟨9,N,ty,ks⟩:GTerm) ≤ 1000000):∃ x y,TellR s n ctx ⟨9,N,ty,ks⟩ x y:=by
 obtain ⟨k0,rfl,p0⟩:=nd1 h (Nat.le_refl _) rfl
 have hz:=tsz_1 9 N ty k0
 obtain ⟨g,hN,hg'⟩:=gN_nat hs (nd_N h rfl)
 simp only at hN
 subst hN
 have hy:TyS s ty:=nd_Y h rfl
 have ly:=TyS_len hy
 have hn:=hs.tab.hi
 have p0':KidP s ([ty] ++ ctx).length k0 (tsz (⟨9,(g:Int),ty,[k0]⟩:GTerm)):=by
  have e:([ty] ++ ctx).length=ctx.length + addsI 9 0:=by simp [addsI]
  rw [e]; exact p0
 obtain ⟨x0,y0,r0⟩:=ih k0 ([ty] ++ ctx) p0' (fun q hq=>by rcases List.mem_cons.1 hq with rfl | hq; exact hy; exact hc q hq) (by simp; omega)
 have hw9:=sWithL ctx [ty] (by simp; omega)
 by_cases f0:x0.ffault=0
 rotate_left
 ·have e0:spec_l3Of (s,ty :: ctx,⟨9,(g:Int),ty,[k0]⟩,0)=some ⟨[],[],x0.ffault,0 :: x0.fpath⟩:=sOf_bad (i:=0) rfl r0 (by omega) f0
  refine TellR.bad (f:=x0.ffault) (p:=0 :: x0.fpath) ?_ (iTyp_r (by omega) (kidB (m:=[ty]) rfl more_9 r0 (by omega) (by simp; omega) f0)) f0 (by have:=r0.pl; simp; omega)
  rw [spec_l3Tell.eq_def]
  simp [hw9,e0,f0]
 obtain ⟨g0,q0,a,na,la,ba⟩:=r0.gd f0
 obtain ⟨c0,t0,ht0,hn0,hz0⟩:=num_of hs g0
 have L0:=TyS_len g0
 have e0:spec_l3Of (s,ty :: ctx,⟨9,(g:Int),ty,[k0]⟩,0)=some x0:=sOf_ok (i:=0) rfl r0 f0
 have la':a.length=ctx.length + 1:=by rw [la]; simp
 obtain ⟨u0,a',rfl⟩:∃ u0 a',a=u0 :: a':=by cases a with | nil=>simp at la' | cons u a'=>exact ⟨u,a',rfl⟩
 obtain ⟨hu0,ba'⟩:=below_cons ba
 have o0:=kidO (out:=[]) (nd:=[]) (us:=[]) (w:=0) (t:=⟨9,(g:Int),ty,[k0]⟩) (m:=[ty]) rfl more_9 r0 (by simp; omega) f0 (by rw [ht0]; exact first_none (.inl (by decide))) (appE_other (show (9:Int) ≠ 10 by decide)) na (by simp <;> omega) (by simp) (by simp) (by simp) (by simp)
 simp only [List.length_cons,List.length_nil,Nat.zero_add,List.drop_succ_cons,List.drop_zero,List.take_succ_cons,List.take_zero,List.nil_append] at o0
 have hf:=fin_9 (ty:=ty) (ks:=[k0]) (ctx:=ctx) (z:=needI (List.replicate ctx.length 0)) (y0:=y0) (a:=a') (u:=[u0]) hs hg' (fun x hx=>by simp at hx; rw [hx]; exact hu0) (by simp) (by rw [r0.ty]; omega) (by omega)
 have hl0:=o0.trans (iLast (Nat.le_refl _))
 have hle:=sLe hs.tab hu0 hg'
 have hw:wr (3 + (g:Int))=3 + (g:Int):=wr_id (by omega) (by omega)
 have hi0:idx x0.fneeds 0=some (u0:Int):=by rw [na]; rfl
 simp only [List.all_cons,List.all_nil,Bool.and_true] at hf
 cases hl:le s n u0 g with
 | false =>
  rw [hl,if_neg (by decide)] at hf
  refine TellR.bad (f:=9) (p:=[]) ?_ (iTyp_l (by omega) hl0 hf) (by decide) (by simp; omega)
  rw [spec_l3Tell.eq_def]
  simp [hw9,e0,f0,hi0,hle,hl,spec_l3Bad]
 | true =>
  rw [hl,if_pos rfl] at hf
  have im:=iTyp_l (by omega) hl0 hf
  rw [r0.ty] at im
  refine TellR.done (q:=(3 + (g:Int)) :: (ty ++ x0.fty)) (ns:=a') (kids:=[y0]) ?_ im (by omega) (fun hl=>TyS_two hs hy g0 (.inr (.inr ⟨g,hg',rfl⟩)) hl) (by simpa using la') ba' rfl (kd1 (KidF.mk' (m:=[ty]) added_9 r0 f0 (fun q hq=>by simp at hq; rw [hq]; exact hy) rfl))
  have hg:=sGlue (3 + (g:Int)) [ty,x0.fty] (by simp) (by simp; omega)
  simp only [List.flatten_cons,List.flatten_nil,List.append_nil] at hg
  have hcut:cut x0.fneeds (some 1) none none=some (needI a'):=by rw [na]; exact cut_tail _ _
  rw [spec_l3Tell.eq_def]
  simp [hw9,e0,f0,hi0,hle,hl,hg,hw,hcut,sCopy (needI a') (by rw [needI_len]; simp at la'; omega)]
theorem tell_4 (ih:TellIH s n (tsz (⟨4,N,ty,ks⟩:GTerm))) (h:tOk (gN s.fSize true) (yN s.fSize true) ctx.length ⟨4,N,ty,ks⟩=true) (hc:∀ q ∈ ctx,TyS s q) (hb:ctx.length + 2 * tsz (⟨4,N,ty,ks⟩:GTerm) ≤ 1000000):∃ x y,TellR s n ctx ⟨4,N,ty,ks⟩ x y:=by
 obtain ⟨k0,k1,rfl,p0,p1⟩:=nd2 h (Nat.le_refl _) rfl
 have hz:=tsz_2 4 N ty k0 k1
 obtain ⟨x0,y0,r0⟩:=ih k0 ctx p0 hc (by omega)
 obtain ⟨x1,y1,r1⟩:=ih k1 ctx p1 hc (by omega)
 by_cases f0:x0.ffault=0
 rotate_left
 ·exact tell_bad0 (by decide) (by decide) (by decide) hb r0 f0
 obtain ⟨g0,q0,a,na,la,ba⟩:=r0.gd f0
 obtain ⟨c0,t0,ht0,hn0,hz0⟩:=num_of hs g0
 have L0:=TyS_len g0
 have e0:spec_l3Of (s,ctx,⟨4,N,ty,[k0,k1]⟩,0)=some x0:=sOf_ok (i:=0) rfl r0 f0
 have o0:=kidO (out:=[]) (nd:=[]) (us:=[]) (w:=0) (t:=⟨4,N,ty,[k0,k1]⟩) (m:=[]) rfl (more_zero (by decide)) r0 (by simp; omega) f0 (by rw [ht0]; exact first_none (.inl (by decide))) (appE_other (show (4:Int) ≠ 10 by decide)) na (by simp <;> omega) (by simp) (by simp) (by simp) (by simp)
 have m1:moreE ⟨4,N,ty,[k0,k1]⟩ [y0] 1=some []:=more_pos (by decide) (added_none (by decide) rfl)
 by_cases f1:x1.ffault=0
 rotate_left
 ·have e1:spec_l3Of (s,ctx,⟨4,N,ty,[k0,k1]⟩,1)=some ⟨[],[],x1.ffault,1 :: x1.fpath⟩:=sOf_bad (i:=1) rfl r1 (by omega) f1
  refine TellR.bad (f:=x1.ffault) (p:=1 :: x1.fpath) ?_ (iTyp_r (by omega) (o0.trans (kidB (m:=[]) rfl m1 r1 (by omega) (by simp; omega) f1))) f1 (by have:=r1.pl; simp; omega)
  rw [spec_l3Tell.eq_def]
  simp [e0,f0,e1,f1]
 obtain ⟨g1,q1,b,nb,lb,bb⟩:=r1.gd f1
 obtain ⟨c1,t1,ht1,hn1,hz1⟩:=num_of hs g1
 have L1:=TyS_len g1
 have e1:spec_l3Of (s,ctx,⟨4,N,ty,[k0,k1]⟩,1)=some x1:=sOf_ok (i:=1) rfl r1 f1
 have o1:=kidO (out:=[y0]) (nd:=[needI a]) (us:=[needI []]) (w:=1) (t:=⟨4,N,ty,[k0,k1]⟩) (m:=[]) rfl m1 r1 (by simp; omega) f1 (by rw [ht1]; exact first_none (.inl (by decide))) (appE_other (show (4:Int) ≠ 10 by decide)) nb (by simp <;> omega) (by simp) (by simp) (by simp) (by simp)
 have hf:=fin_4 (N:=N) (ty:=ty) (ks:=[k0,k1]) (ctx:=ctx) (us:=[needI [],needI []]) (z:=needI (List.replicate ctx.length 0)) (y0:=y0) (y1:=y1) hs ba bb (by omega) (by omega) (by rw [r0.ty]; omega) (by rw [r1.ty]; omega)
 have im:=iTyp_l (p0:=⟨s⟩) (t:=⟨4,N,ty,[k0,k1]⟩) (ctx:=ctx) (by omega) (o0.trans (o1.trans (iLast (Nat.le_refl _)))) hf
 rw [r0.ty,r1.ty] at im
 refine TellR.done (q:=1 :: (x0.fty ++ x1.fty)) (ns:=sumN s n a b) (kids:=[y0,y1]) ?_ im (by omega) (fun hl=>TyS_two hs g0 g1 (.inl rfl) hl) (by unfold sumN; rw [List.length_zipWith]; omega) (below_sum hs ba bb) rfl (kd2 (KidF.mk' (added_none (by decide) rfl) r0 f0 (fun _ h=>by cases h) rfl) (KidF.mk' (added_none (by decide) rfl) r1 f1 (fun _ h=>by cases h) rfl))
 have hg:=sGlue 1 [x0.fty,x1.fty] (by simp) (by simp; omega)
 simp only [List.flatten_cons,List.flatten_nil,List.append_nil] at hg
 rw [spec_l3Tell.eq_def]
 simp [e0,f0,e1,f1,hg,na,nb,sSum1 hs a b ba bb (by omega) (by omega)]
theorem tell_2 (ih:TellIH s n (tsz (⟨2,N,ty,ks⟩:GTerm))) (h:tOk (gN s.fSize true) (yN s.fSize true) ctx.length ⟨2,N,ty,ks⟩=true) (hc:∀ q ∈ ctx,TyS s q) (hb:ctx.length + 2 * tsz (⟨2,N,ty,ks⟩:GTerm) ≤ 1000000):∃ x y,TellR s n ctx ⟨2,N,ty,ks⟩ x y:=by
 obtain ⟨k0,k1,rfl,p0,p1⟩:=nd2 h (Nat.le_refl _) rfl
 have hz:=tsz_2 2 N ty k0 k1
 obtain ⟨x0,y0,r0⟩:=ih k0 ctx p0 hc (by omega)
 obtain ⟨x1,y1,r1⟩:=ih k1 ctx p1 hc (by omega)
 by_cases f0:x0.ffault=0
 rotate_left
 ·exact tell_bad0 (by decide) (by decide) (by decide) hb r0 f0
 obtain ⟨g0,q0,a,na,la,ba⟩:=r0.gd f0
 obtain ⟨c0,t0,ht0,hn0,hz0⟩:=num_of hs g0
 have L0:=TyS_len g0
 have e0:spec_l3Of (s,ctx,⟨2,N,ty,[k0,k1]⟩,0)=some x0:=sOf_ok (i:=0) rfl r0 f0
 have i0:idx x0.fty 0=some c0:=by rw [ht0]; rfl
 by_cases z0:c0=0
 rotate_left
 ·refine TellR.bad (f:=2) (p:=[]) ?_ (iTyp_r (by omega) (kidN (m:=[]) rfl (more_zero (by decide)) r0 (by simp; omega) f0 (by rw [ht0,first_2,if_neg (by rw [hn0]; exact z0)]) (by decide))) (by decide) (by simp; omega)
  rw [spec_l3Tell.eq_def]
  simp [e0,f0,i0,z0,spec_l3Bad]
 have u0:=hz0 z0
 have s0:(shapeI c0).1=0:=hn0.2 z0
 have o0:=kidO (out:=[]) (nd:=[]) (us:=[]) (w:=0) (t:=⟨2,N,ty,[k0,k1]⟩) (m:=[]) rfl (more_zero (by decide)) r0 (by simp; omega) f0 (by rw [ht0,first_2,if_pos s0]) (appE_other (show (2:Int) ≠ 10 by decide)) na (by simp <;> omega) (by simp) (by simp) (by simp) (by simp)
 have m1:moreE ⟨2,N,ty,[k0,k1]⟩ [y0] 1=some []:=more_pos (by decide) (added_none (by decide) rfl)
 by_cases f1:x1.ffault=0
 rotate_left
 ·have e1:spec_l3Of (s,ctx,⟨2,N,ty,[k0,k1]⟩,1)=some ⟨[],[],x1.ffault,1 :: x1.fpath⟩:=sOf_bad (i:=1) rfl r1 (by omega) f1
  refine TellR.bad (f:=x1.ffault) (p:=1 :: x1.fpath) ?_ (iTyp_r (by omega) (o0.trans (kidB (m:=[]) rfl m1 r1 (by omega) (by simp; omega) f1))) f1 (by have:=r1.pl; simp; omega)
  rw [spec_l3Tell.eq_def]
  simp [e0,f0,i0,z0,spec_l3Numbers.eq_def,e1,f1]
 obtain ⟨g1,q1,b,nb,lb,bb⟩:=r1.gd f1
 obtain ⟨c1,t1,ht1,hn1,hz1⟩:=num_of hs g1
 have L1:=TyS_len g1
 have e1:spec_l3Of (s,ctx,⟨2,N,ty,[k0,k1]⟩,1)=some x1:=sOf_ok (i:=1) rfl r1 f1
 have i1:idx x1.fty 0=some c1:=by rw [ht1]; rfl
 by_cases z1:c1=0
 rotate_left
 ·refine TellR.bad (f:=2) (p:=[]) ?_ (iTyp_r (by omega) (o0.trans (kidN (m:=[]) rfl m1 r1 (by simp; omega) f1 (by rw [ht1,first_2,if_neg (by rw [hn1]; exact z1)]) (by decide)))) (by decide) (by simp; omega)
  rw [spec_l3Tell.eq_def]
  simp [e0,f0,i0,z0,e1,f1,i1,z1,spec_l3Bad,spec_l3Numbers.eq_def]
 have u1:=hz1 z1
 have s1:(shapeI c1).1=0:=hn1.2 z1
 have o1:=kidO (out:=[y0]) (nd:=[needI a]) (us:=[needI []]) (w:=1) (t:=⟨2,N,ty,[k0,k1]⟩) (m:=[]) rfl m1 r1 (by simp; omega) f1 (by rw [ht1,first_2,if_pos s1]) (appE_other (show (2:Int) ≠ 10 by decide)) nb (by simp <;> omega) (by simp) (by simp) (by simp) (by simp)
 have hf:=fin_2 (N:=N) (ty:=ty) (ks:=[k0,k1]) (ctx:=ctx) (us:=[needI [],needI []]) (z:=needI (List.replicate ctx.length 0)) (y0:=y0) (y1:=y1) hs ba bb (by omega) (by omega)
 have im:=iTyp_l (p0:=⟨s⟩) (t:=⟨2,N,ty,[k0,k1]⟩) (ctx:=ctx) (by omega) (o0.trans (o1.trans (iLast (Nat.le_refl _)))) hf
 replace im:=im_ok (q:=[0]) (ns:=sumN s n a b) (kids:=[y0,y1]) (by decide) im
 refine TellR.good (q:=[0]) (ns:=sumN s n a b) (kids:=[y0,y1]) ?_ im (by omega) TyS_num (by unfold sumN; rw [List.length_zipWith]; omega) (below_sum hs ba bb) rfl (kd2 (KidF.mk' (added_none (by decide) rfl) r0 f0 (fun _ h=>by cases h) rfl) (KidF.mk' (added_none (by decide) rfl) r1 f1 (fun _ h=>by cases h) rfl))
 rw [spec_l3Tell.eq_def]
 simp [e0,f0,i0,z0,e1,f1,i1,z1,na,nb,u1,idxA,sSum1 hs a b ba bb (by omega) (by omega),spec_l3Numbers.eq_def]
theorem tell_3 (ih:TellIH s n (tsz (⟨3,N,ty,ks⟩:GTerm))) (h:tOk (gN s.fSize true) (yN s.fSize true) ctx.length ⟨3,N,ty,ks⟩=true) (hc:∀ q ∈ ctx,TyS s q) (hb:ctx.length + 2 * tsz (⟨3,N,ty,ks⟩:GTerm) ≤ 1000000):∃ x y,TellR s n ctx ⟨3,N,ty,ks⟩ x y:=by
 obtain ⟨k0,k1,k2,rfl,p0,p1,p2⟩:=nd3 h (Nat.le_refl _) rfl
 have hz:=tsz_3 3 N ty k0 k1 k2
 obtain ⟨x0,y0,r0⟩:=ih k0 ctx p0 hc (by omega)
 obtain ⟨x1,y1,r1⟩:=ih k1 ctx p1 hc (by omega)
 obtain ⟨x2,y2,r2⟩:=ih k2 ctx p2 hc (by omega)
 by_cases f0:x0.ffault=0
 rotate_left
 ·exact tell_bad0 (by decide) (by decide) (by decide) hb r0 f0
 obtain ⟨g0,q0,a,na,la,ba⟩:=r0.gd f0
 obtain ⟨c0,t0,ht0,hn0,hz0⟩:=num_of hs g0
 have L0:=TyS_len g0
 have e0:spec_l3Of (s,ctx,⟨3,N,ty,[k0,k1,k2]⟩,0)=some x0:=sOf_ok (i:=0) rfl r0 f0
 have i0:idx x0.fty 0=some c0:=by rw [ht0]; rfl
 by_cases z0:c0=0
 rotate_left
 ·refine TellR.bad (f:=2) (p:=[]) ?_ (iTyp_r (by omega) (kidN (m:=[]) rfl (more_zero (by decide)) r0 (by simp; omega) f0 (by rw [ht0,first_3,if_neg (by rw [hn0]; exact z0)]) (by decide))) (by decide) (by simp; omega)
  rw [spec_l3Tell.eq_def]
  simp [e0,f0,i0,z0,spec_l3Bad]
 have u0:=hz0 z0
 have s0:(shapeI c0).1=0:=hn0.2 z0
 have o0:=kidO (out:=[]) (nd:=[]) (us:=[]) (w:=0) (t:=⟨3,N,ty,[k0,k1,k2]⟩) (m:=[]) rfl (more_zero (by decide)) r0 (by simp; omega) f0 (by rw [ht0,first_3,if_pos s0]) (appE_other (show (3:Int) ≠ 10 by decide)) na (by simp <;> omega) (by simp) (by simp) (by simp) (by simp)
 have m1:moreE ⟨3,N,ty,[k0,k1,k2]⟩ [y0] 1=some []:=more_pos (by decide) (added_none (by decide) rfl)
 by_cases f1:x1.ffault=0
 rotate_left
 ·have e1:spec_l3Of (s,ctx,⟨3,N,ty,[k0,k1,k2]⟩,1)=some ⟨[],[],x1.ffault,1 :: x1.fpath⟩:=sOf_bad (i:=1) rfl r1 (by omega) f1
  refine TellR.bad (f:=x1.ffault) (p:=1 :: x1.fpath) ?_ (iTyp_r (by omega) (o0.trans (kidB (m:=[]) rfl m1 r1 (by omega) (by simp; omega) f1))) f1 (by have:=r1.pl; simp; omega)
  rw [spec_l3Tell.eq_def]
  simp [e0,f0,i0,z0,spec_l3Numbers.eq_def,e1,f1]
 obtain ⟨g1,q1,b,nb,lb,bb⟩:=r1.gd f1
 obtain ⟨c1,t1,ht1,hn1,hz1⟩:=num_of hs g1
 have L1:=TyS_len g1
 have e1:spec_l3Of (s,ctx,⟨3,N,ty,[k0,k1,k2]⟩,1)=some x1:=sOf_ok (i:=1) rfl r1 f1
 have o1:=kidO (out:=[y0]) (nd:=[needI a]) (us:=[needI []]) (w:=1) (t:=⟨3,N,ty,[k0,k1,k2]⟩) (m:=[]) rfl m1 r1 (by simp; omega) f1 (by rw [ht1]; exact first_none (.inr (by decide))) (appE_other (show (3:Int) ≠ 10 by decide)) nb (by simp <;> omega) (by simp) (by simp) (by simp) (by simp)
 have m2:moreE ⟨3,N,ty,[k0,k1,k2]⟩ [y0,y1] 2=some []:=more_pos (by decide) (added_none (by decide) rfl)
 by_cases f2:x2.ffault=0
 rotate_left
 ·have e2:spec_l3Of (s,ctx,⟨3,N,ty,[k0,k1,k2]⟩,2)=some ⟨[],[],x2.ffault,2 :: x2.fpath⟩:=sOf_bad (i:=2) rfl r2 (by omega) f2
  refine TellR.bad (f:=x2.ffault) (p:=2 :: x2.fpath) ?_ (iTyp_r (by omega) (o0.trans (o1.trans (kidB (m:=[]) rfl m2 r2 (by omega) (by simp; omega) f2)))) f2 (by have:=r2.pl; simp; omega)
  rw [spec_l3Tell.eq_def]
  simp [e0,f0,i0,z0,e1,f1,spec_l3Numbers.eq_def,e2,f2]
 obtain ⟨g2,q2,d,nd,ld,bd⟩:=r2.gd f2
 obtain ⟨c2,t2,ht2,hn2,hz2⟩:=num_of hs g2
 have L2:=TyS_len g2
 have e2:spec_l3Of (s,ctx,⟨3,N,ty,[k0,k1,k2]⟩,2)=some x2:=sOf_ok (i:=2) rfl r2 f2
 have o2:=kidO (out:=[y0,y1]) (nd:=[needI a,needI b]) (us:=[needI [],needI []]) (w:=2) (t:=⟨3,N,ty,[k0,k1,k2]⟩) (m:=[]) rfl m2 r2 (by simp; omega) f2 (by rw [ht2]; exact first_none (.inr (by decide))) (appE_other (show (3:Int) ≠ 10 by decide)) nd (by simp <;> omega) (by simp) (by simp) (by simp) (by simp)
 have hf:=fin_3 (N:=N) (ty:=ty) (ks:=[k0,k1,k2]) (ctx:=ctx) (us:=[needI [],needI [],needI []]) (z:=needI (List.replicate ctx.length 0)) (y0:=y0) (y1:=y1) (y2:=y2) hs ba bb bd (by omega) (by omega) (by omega) (by rw [r2.ty]; omega) (by rw [r1.ty]; omega)
 have hl0:=o0.trans (o1.trans (o2.trans (iLast (Nat.le_refl _))))
 
 have hsm:=sSame x1.fty x2.fty (by omega)
 have lj:(jonN s n b d).length=ctx.length:=by unfold jonN; rw [List.length_zipWith]; omega
 rw [r1.ty,r2.ty] at hf
 by_cases hq:x1.fty=x2.fty
 ·rw [if_pos hq] at hf
  have im:=iTyp_l (by omega) hl0 hf
  replace im:=im_ok (q:=x1.fty) (ns:=sumN s n a (jonN s n b d)) (kids:=[y0,y1,y2]) (by omega) im
  refine TellR.good (q:=x1.fty) (ns:=sumN s n a (jonN s n b d)) (kids:=[y0,y1,y2]) ?_ im (by omega) g1 (by unfold sumN; rw [List.length_zipWith]; omega) (below_sum hs ba (below_jon hs bb bd)) rfl (kd3 (KidF.mk' (added_none (by decide) rfl) r0 f0 (fun _ h=>by cases h) rfl) (KidF.mk' (added_none (by decide) rfl) r1 f1 (fun _ h=>by cases h) rfl) (KidF.mk' (added_none (by decide) rfl) r2 f2 (fun _ h=>by cases h) rfl))
  rw [show (x1.fty == x2.fty)=true from beq_iff_eq.2 hq] at hsm
  rw [spec_l3Tell.eq_def]
  simp [e0,f0,i0,z0,e1,f1,e2,f2,hsm,na,nb,nd,sJoinL hs b d bb bd (by omega) (by omega),sSum1 hs a (jonN s n b d) ba (below_jon hs bb bd) (by omega) (by omega),spec_l3Numbers.eq_def]
 ·rw [if_neg hq] at hf
  refine TellR.bad (f:=3) (p:=[]) ?_ (iTyp_l (by omega) hl0 hf) (by decide) (by simp; omega)
  rw [show (x1.fty == x2.fty)=false from beq_eq_false_iff_ne.2 hq] at hsm
  rw [spec_l3Tell.eq_def]
  simp [e0,f0,i0,z0,e1,f1,e2,f2,hsm,spec_l3Numbers.eq_def,spec_l3Bad]
end
theorem shape_arr (g:Nat) (h:g ≤ 15):shapeI (3 + (g:Int))=(3,(g:Int)):=by
 rcases shapeI_cases (3 + (g:Int)) with h | h | h | h | h | h | h | h <;> first | omega | (obtain ⟨_,e⟩:=h; rw [e]; congr 1; omega)
theorem shape_bx (g:Nat) (h:g ≤ 15):shapeI (19 + (g:Int))=(4,(g:Int)):=by
 rcases shapeI_cases (19 + (g:Int)) with h | h | h | h | h | h | h | h <;> first | omega | (obtain ⟨_,e⟩:=h; rw [e]; congr 1; omega)
theorem arrC_arr (g:Nat) (h:g ≤ 15):arrC (3 + (g:Int))=true:=by unfold arrC inB; simp; omega
theorem arrC_bx (g:Nat) (h:g ≤ 15):arrC (19 + (g:Int))=false:=by unfold arrC inB; simp; omega
theorem boxC_arr (g:Nat) (h:g ≤ 15):boxC (3 + (g:Int))=false:=by unfold boxC inB; simp; omega
theorem boxC_bx (g:Nat) (h:g ≤ 15):boxC (19 + (g:Int))=true:=by unfold boxC inB; simp; omega
theorem grade_arr (g:Nat) (h:g ≤ 15):spec_l2Grade (3 + (g:Int))=some (g:Int):=by
 rw [sGrade (by rcases kidsC_cases (3 + (g:Int)) with h | h | h | h <;> omega)]
 unfold gradeC
 rw [if_neg (by omega),if_neg (by omega)]
 congr 1; omega
theorem grade_bx (g:Nat) (h:g ≤ 15):spec_l2Grade (19 + (g:Int))=some (g:Int):=by
 rw [sGrade (by rcases kidsC_cases (19 + (g:Int)) with h | h | h | h <;> omega)]
 unfold gradeC
 rw [if_neg (by omega),if_pos (by omega)]
 congr 1; omega
section
variable {s:GSystem} {n:Nat} (hs:SysL s n) {ctx:List (List Int)} {N:Int} {ty:List Int} {ks:List GTerm}
include hs
structure CodeC (s:GSystem) (n:Nat) (q:List Int) (c:Int):Prop where
 arr:(shapeI c).1=3→∃ (g:Nat) (a b:List Int),g < n∧g ≤ 15∧c=3 + (g:Int)∧q=c :: (a ++ b)∧TwoP s (3 + (g:Int)) a b
 pair:(shapeI c).1=1→∃ (a b:List Int),c=1∧q=c :: (a ++ b)∧TwoP s 1 a b
 sum:(shapeI c).1=2→∃ (a b:List Int),c=2∧q=c :: (a ++ b)∧TwoP s 2 a b
 box:(shapeI c).1=4→∃ (g:Nat) (a:List Int),g < n∧g ≤ 15∧c=19 + (g:Int)∧q=c :: a∧OneP s (19 + (g:Int)) a
 arrB:arrC c=true ↔ (shapeI c).1=3
 boxB:boxC c=true ↔ (shapeI c).1=4
 one:c=1 ↔ (shapeI c).1=1
 two:c=2 ↔ (shapeI c).1=2
theorem code_of {q:List Int} (hq:TyS s q) {c:Int} {r:List Int} (e:q=c :: r):CodeC s n q c:=by
 rcases TyS_cases hs hq with rfl | ⟨a,b,rfl,P⟩ | ⟨a,b,rfl,P⟩ | ⟨g,a,b,hg,h15,rfl,P⟩ | ⟨g,a,hg,h15,rfl,P⟩
 ·cases e
  refine ⟨fun h=>?_,fun h=>?_,fun h=>?_,fun h=>?_,by decide,by decide,by decide,by decide⟩ <;> exact absurd h (by decide)
 ·cases e
  refine ⟨fun h=>absurd h (by decide),fun _=>⟨a,b,rfl,rfl,P⟩,fun h=>absurd h (by decide),fun h=>absurd h (by decide),by decide,by decide,by decide,by decide⟩
 ·cases e
  refine ⟨fun h=>absurd h (by decide),fun h=>absurd h (by decide),fun _=>⟨a,b,rfl,rfl,P⟩,fun h=>absurd h (by decide),by decide,by decide,by decide,by decide⟩
 ·cases e
  have hsh:=shape_arr g h15
  refine ⟨fun _=>⟨g,a,b,hg,h15,rfl,rfl,P⟩,fun h=>?_,fun h=>?_,fun h=>?_,?_,?_,?_,?_⟩
  ·rw [hsh] at h; simp at h
  ·rw [hsh] at h; simp at h
  ·rw [hsh] at h; simp at h
  ·rw [hsh,arrC_arr g h15]; simp
  ·rw [hsh,boxC_arr g h15]; simp
  ·rw [hsh]; simp; omega
  ·rw [hsh]; simp; omega
 ·cases e
  have hsh:=shape_bx g h15
  refine ⟨fun h=>?_,fun h=>?_,fun h=>?_,fun _=>⟨g,_,hg,h15,rfl,rfl,P⟩,?_,?_,?_,?_⟩
  ·rw [hsh] at h; simp at h
  ·rw [hsh] at h; simp at h
  ·rw [hsh] at h; simp at h
  ·rw [hsh,arrC_bx g h15]; simp
  ·rw [hsh,boxC_bx g h15]; simp
  ·rw [hsh]; simp; omega
  ·rw [hsh]; simp; omega
theorem tell_10 (ih:TellIH s n (tsz (⟨10,N,ty,ks⟩:GTerm))) (h:tOk (gN s.fSize true) (yN s.fSize true) ctx.length ⟨10,N,ty,ks⟩=true) (hc:∀ q ∈ ctx,TyS s q) (hb:ctx.length + 2 * tsz (⟨10,N,ty,ks⟩:GTerm) ≤ 1000000):∃ x y,TellR s n ctx ⟨10,N,ty,ks⟩ x y:=by
 obtain ⟨k0,k1,rfl,p0,p1⟩:=nd2 h (Nat.le_refl _) rfl
 have hz:=tsz_2 10 N ty k0 k1
 obtain ⟨x0,y0,r0⟩:=ih k0 ctx p0 hc (by omega)
 obtain ⟨x1,y1,r1⟩:=ih k1 ctx p1 hc (by omega)
 by_cases f0:x0.ffault=0
 rotate_left
 ·exact tell_bad0 (by decide) (by decide) (by decide) hb r0 f0
 obtain ⟨g0,q0,a,na,la,ba⟩:=r0.gd f0
 obtain ⟨c0,t0,ht0,hn0,hz0⟩:=num_of hs g0
 have L0:=TyS_len g0
 have e0:spec_l3Of (s,ctx,⟨10,N,ty,[k0,k1]⟩,0)=some x0:=sOf_ok (i:=0) rfl r0 f0
 have C:=code_of hs g0 ht0
 have i0:idx x0.fty 0=some c0:=by rw [ht0]; rfl
 by_cases z0:(shapeI c0).1=3
 rotate_left
 ·have w0:arrC c0=false:=by cases h:arrC c0 with | true=>exact absurd (C.arrB.1 h) z0 | false=>rfl
  refine TellR.bad (f:=6) (p:=[]) ?_ (iTyp_r (by omega) (kidN (m:=[]) rfl (more_zero (by decide)) r0 (by simp; omega) f0 (by rw [ht0,first_10,if_neg z0]) (by decide))) (by decide) (by simp; omega)
  rw [spec_l3Tell.eq_def]
  simp [e0,f0,i0,sArrow,w0,spec_l3Bad]
 obtain ⟨g,p,q,hg,h15,hcg,hq,P⟩:=C.arr z0
 have w0:arrC c0=true:=C.arrB.2 z0
 have o0:=kidO (out:=[]) (nd:=[]) (us:=[]) (w:=0) (t:=⟨10,N,ty,[k0,k1]⟩) (m:=[]) rfl (more_zero (by decide)) r0 (by simp; omega) f0 (by rw [ht0,first_10,if_pos z0]) (appE_zero (by decide)) na (by simp <;> omega) (by simp) (by simp) (by simp) (by simp)
 have m1:moreE ⟨10,N,ty,[k0,k1]⟩ [y0] 1=some []:=more_pos (by decide) (added_none (by decide) rfl)
 by_cases f1:x1.ffault=0
 rotate_left
 ·have e1:spec_l3Of (s,ctx,⟨10,N,ty,[k0,k1]⟩,1)=some ⟨[],[],x1.ffault,1 :: x1.fpath⟩:=sOf_bad (i:=1) rfl r1 (by omega) f1
  refine TellR.bad (f:=x1.ffault) (p:=1 :: x1.fpath) ?_ (iTyp_r (by omega) (o0.trans (kidB (m:=[]) rfl m1 r1 (by omega) (by simp; omega) f1))) f1 (by have:=r1.pl; simp; omega)
  rw [spec_l3Tell.eq_def]
  simp [e0,f0,i0,sArrow,w0,e1,f1]
 obtain ⟨g1,q1,b,nb,lb,bb⟩:=r1.gd f1
 obtain ⟨c1,t1,ht1,hn1,hz1⟩:=num_of hs g1
 have L1:=TyS_len g1
 have e1:spec_l3Of (s,ctx,⟨10,N,ty,[k0,k1]⟩,1)=some x1:=sOf_ok (i:=1) rfl r1 f1
 have hp0:spec_l2Part (x0.fty,0)=some p:=by rw [hq,hcg]; exact P.p0
 have hp1:spec_l2Part (x0.fty,1)=some q:=by rw [hq,hcg]; exact P.p1
 have hpp:impl_parts y0.fty=some [p,q]:=by rw [r0.ty,hq,hcg]; exact P.pp
 have Lp:=TyS_len P.ya
 have Lq:=TyS_len P.yb
 have hsm:=sSame x1.fty p (by omega)
 have hsi:=iSame x1.fty p (by omega)
 have ha:appE ⟨10,N,ty,[k0,k1]⟩ [y0] 1 y1=some (!(x1.fty == p)):=by
  unfold appE
  rw [if_pos (show ((10:Int) == 10)=true by decide),if_pos (by decide),idxA,bs,hpp,bs,idxA,bs,r1.ty,hsi,bs]
 by_cases hqq:x1.fty=p
 rotate_left
 ·rw [show (x1.fty == p)=false from beq_eq_false_iff_ne.2 hqq] at hsm ha
  refine TellR.bad (f:=3) (p:=[]) ?_ (iTyp_r (by omega) (o0.trans (kidA (m:=[]) rfl m1 r1 (by simp; omega) f1 (by rw [ht1]; exact first_none (.inr (by decide))) ha))) (by decide) (by simp; omega)
  rw [spec_l3Tell.eq_def]
  simp [e0,f0,i0,sArrow,w0,e1,f1,hp0,hsm,spec_l3Bad]
 rw [show (x1.fty == p)=true from beq_iff_eq.2 hqq] at hsm ha
 have o1:=kidO (out:=[y0]) (nd:=[needI a]) (us:=[needI []]) (w:=1) (t:=⟨10,N,ty,[k0,k1]⟩) (m:=[]) rfl m1 r1 (by simp; omega) f1 (by rw [ht1]; exact first_none (.inr (by decide))) ha nb (by simp <;> omega) (by simp) (by simp) (by simp) (by simp)
 have hf:=fin_10 (N:=N) (ty:=ty) (ks:=[k0,k1]) (ctx:=ctx) (us:=[needI [],needI []]) (z:=needI (List.replicate ctx.length 0)) (y0:=y0) (y1:=y1) hs hg (p:=p) (q:=q) (by rw [r0.ty,hq,hcg]) P ba bb (by omega) (by omega)
 have im:=im_ok (q:=q) (ns:=sumN s n a (sclN s n g b)) (kids:=[y0,y1]) Lq (iTyp_l (p0:=⟨s⟩) (t:=⟨10,N,ty,[k0,k1]⟩) (ctx:=ctx) (by omega) (o0.trans (o1.trans (iLast (Nat.le_refl _)))) hf)
 have lsc:(sclN s n g b).length=ctx.length:=by unfold sclN; rw [List.length_map]; exact lb
 refine TellR.good (q:=q) (ns:=sumN s n a (sclN s n g b)) (kids:=[y0,y1]) ?_ im (by omega) P.yb (by unfold sumN; rw [List.length_zipWith]; omega) (below_sum hs ba (below_scl hs hg bb)) rfl (kd2 (KidF.mk' (added_none (by decide) rfl) r0 f0 (fun _ h=>by cases h) rfl) (KidF.mk' (added_none (by decide) rfl) r1 f1 (fun _ h=>by cases h) rfl))
 have hgr:spec_l2Grade c0=some (g:Int):=by rw [hcg]; exact grade_arr g h15
 rw [spec_l3Tell.eq_def]
 simp [e0,f0,i0,sArrow,w0,e1,f1,hp0,hp1,hsm,hgr,na,nb,sSumL hs g hg a b ba bb (by omega) (by omega)]
theorem tell_5 (ih:TellIH s n (tsz (⟨5,N,ty,ks⟩:GTerm))) (h:tOk (gN s.fSize true) (yN s.fSize true) ctx.length ⟨5,N,ty,ks⟩=true) (hc:∀ q ∈ ctx,TyS s q) (hb:ctx.length + 2 * tsz (⟨5,N,ty,ks⟩:GTerm) ≤ 1000000):∃ x y,TellR s n ctx ⟨5,N,ty,ks⟩ x y:=by
 obtain ⟨k0,k1,rfl,p0,p1⟩:=nd2 h (Nat.le_refl _) rfl
 have hz:=tsz_2 5 N ty k0 k1
 obtain ⟨g,hN,hg⟩:=gN_nat hs (nd_N h rfl)
 simp only at hN
 subst hN
 obtain ⟨x0,y0,r0⟩:=ih k0 ctx p0 hc (by omega)
 by_cases f0:x0.ffault=0
 rotate_left
 ·exact tell_bad0 (by decide) (by decide) (by decide) hb r0 f0
 obtain ⟨g0,q0,a,na,la,ba⟩:=r0.gd f0
 obtain ⟨c0,t0,ht0,hn0,hz0⟩:=num_of hs g0
 have L0:=TyS_len g0
 have e0:spec_l3Of (s,ctx,⟨5,(g:Int),ty,[k0,k1]⟩,0)=some x0:=sOf_ok (i:=0) rfl r0 f0
 have C:=code_of hs g0 ht0
 have i0:idx x0.fty 0=some c0:=by rw [ht0]; rfl
 by_cases z0:(shapeI c0).1=1
 rotate_left
 ·have w0:c0 ≠ 1:=fun h=>z0 (C.one.1 h)
  refine TellR.bad (f:=4) (p:=[]) ?_ (iTyp_r (by omega) (kidN (m:=[]) rfl (more_zero (by decide)) r0 (by simp; omega) f0 (by rw [ht0,first_5 hs hg,if_neg z0]) (by decide))) (by decide) (by simp; omega)
  rw [spec_l3Tell.eq_def]
  simp [e0,f0,i0,spec_l3Taken.eq_def,w0,spec_l3Bad]
 obtain ⟨p,q,hcg,hq,P⟩:=C.pair z0
 have hle:=sLe hs.tab (one_lt_n hs) hg
 cases hl:le s n 1 g with
 | false =>
  have hl2:spec_l1Le (s,1,(g:Int))=some false:=by rw [← hl]; exact hle
  refine TellR.bad (f:=8) (p:=[]) ?_ (iTyp_r (by omega) (kidN (m:=[]) rfl (more_zero (by decide)) r0 (by simp; omega) f0 (by rw [ht0,first_5 hs hg,if_pos z0,hl]; rfl) (by decide))) (by decide) (by simp; omega)
  rw [spec_l3Tell.eq_def]
  simp [e0,f0,i0,spec_l3Taken.eq_def,hcg,hl2,spec_l3Bad]
 | true =>
 have hl2:spec_l1Le (s,1,(g:Int))=some true:=by rw [← hl]; exact hle
 have o0:=kidO (out:=[]) (nd:=[]) (us:=[]) (w:=0) (t:=⟨5,(g:Int),ty,[k0,k1]⟩) (m:=[]) rfl (more_zero (by decide)) r0 (by simp; omega) f0 (by rw [ht0,first_5 hs hg,if_pos z0,hl]; rfl) (appE_other (show (5:Int) ≠ 10 by decide)) na (by simp <;> omega) (by simp) (by simp) (by simp) (by simp)
 have hp0:spec_l2Part (x0.fty,0)=some p:=by rw [hq,hcg]; exact P.p0
 have hp1:spec_l2Part (x0.fty,1)=some q:=by rw [hq,hcg]; exact P.p1
 have ad:impl_added (⟨5,(g:Int),ty,[k0,k1]⟩,((1:Nat):Int),y0.fty)=some [q,p]:=by rw [r0.ty,hq,hcg]; exact added_5 P
 have hm':∀ z ∈ [q,p],TyS s z:=fun z hz=>by simp at hz; rcases hz with rfl | rfl; exact P.yb; exact P.ya
 have m1:moreE ⟨5,(g:Int),ty,[k0,k1]⟩ [y0] 1=some [q,p]:=more_pos (by decide) ad
 have p1':KidP s ([q,p] ++ ctx).length k1 (tsz (⟨5,(g:Int),ty,[k0,k1]⟩:GTerm)):=by
  have e:([q,p] ++ ctx).length=ctx.length + addsI 5 1:=by simp [addsI]
  rw [e]; exact p1
 obtain ⟨x1,y1,r1⟩:=ih k1 ([q,p] ++ ctx) p1' (fun z hz=>by rcases List.mem_append.1 hz with hz | hz; exact hm' z hz; exact hc z hz) (by simp; omega)
 have hwc:=sWithL ctx [q,p] (by simp; omega)
 by_cases f1:x1.ffault=0
 rotate_left
 ·have e1:spec_l3Of (s,q :: p :: ctx,⟨5,(g:Int),ty,[k0,k1]⟩,1)=some ⟨[],[],x1.ffault,1 :: x1.fpath⟩:=sOf_bad (i:=1) rfl r1 (by omega) f1
  refine TellR.bad (f:=x1.ffault) (p:=1 :: x1.fpath) ?_ (iTyp_r (by omega) (o0.trans (kidB (m:=[q,p]) rfl m1 r1 (by omega) (by simp; omega) f1))) f1 (by have:=r1.pl; simp; omega)
  rw [spec_l3Tell.eq_def]
  simp [e0,f0,i0,spec_l3Taken.eq_def,hcg,hl2,hp0,hp1,hwc,e1,f1]
 obtain ⟨g1,q1,b,nb,lb,bb⟩:=r1.gd f1
 obtain ⟨c1,t1,ht1,hn1,hz1⟩:=num_of hs g1
 have L1:=TyS_len g1
 have e1:spec_l3Of (s,q :: p :: ctx,⟨5,(g:Int),ty,[k0,k1]⟩,1)=some x1:=sOf_ok (i:=1) rfl r1 f1
 have lb':b.length=ctx.length + 2:=by rw [lb]; simp
 obtain ⟨u0,u1,b',rfl⟩:∃ u0 u1 b',b=u0 :: u1 :: b':=by match b,lb' with | u0 :: u1 :: b',_=>exact ⟨u0,u1,b',rfl⟩ | [_],h=>simp at h | [],h=>simp at h
 obtain ⟨hu0,bb1⟩:=below_cons bb
 obtain ⟨hu1,bb'⟩:=below_cons bb1
 have o1:=kidO (out:=[y0]) (nd:=[needI a]) (us:=[needI []]) (w:=1) (t:=⟨5,(g:Int),ty,[k0,k1]⟩) (m:=[q,p]) rfl m1 r1 (by simp; omega) f1 (by rw [ht1]; exact first_none (.inr (by decide))) (appE_other (show (5:Int) ≠ 10 by decide)) nb (by simp <;> omega) (by simp) (by simp) (by simp) (by simp)
 simp only [List.length_cons,List.length_nil,Nat.zero_add,List.drop_succ_cons,List.drop_zero,List.take_succ_cons,List.take_zero,List.nil_append] at o1
 have hl0:=o0.trans (o1.trans (iLast (Nat.le_refl _)))
 have lbc:b'.length=ctx.length:=by simp at lb'; omega
 have i1:idx x1.fneeds 0=some (u0:Int):=by rw [nb]; rfl
 have hcut:cut x1.fneeds (some (2:Int)) none none=some (needI b'):=by
  rw [nb]
  have:=cutDrop (l:=needI (u0 :: u1 :: b')) (m:=2) (by simp [needI])
  exact this
 have hcp:=sCopy (needI b') (by rw [needI_len]; omega)
 have i2:idx x1.fneeds 1=some (u1:Int):=by rw [nb]; rfl
 have hle0:=sLe hs.tab hu0 hg
 have hle1:=sLe hs.tab hu1 hg
 have hf:=fin_5 (ty:=ty) (ks:=[k0,k1]) (ctx:=ctx) (z:=needI (List.replicate ctx.length 0)) (y0:=y0) (y1:=y1) (us':=needI []) (u:=[u0,u1]) hs hg (fun x hx=>by simp at hx; rcases hx with rfl | rfl; exact hu0; exact hu1) (by simp) ba bb' (by omega) (by omega) (by rw [r1.ty]; omega)
 simp only [List.all_cons,List.all_nil,Bool.and_true] at hf
 have es:=e1
 cases hal:(le s n u0 g && le s n u1 g) with
 | false =>
  rw [hal,if_neg (by decide)] at hf
  refine TellR.bad (f:=9) (p:=[]) ?_ (iTyp_l (by omega) hl0 hf) (by decide) (by simp; omega)
  rw [spec_l3Tell.eq_def]
  simp [e0,f0,i0,spec_l3Taken.eq_def,hcg,hl2,hp0,hp1,hwc,e1,f1,i1,i2,hcut,hcp,hle0,hle1,spec_l3Bad]
  cases q1:le s n u1 g with
  | false=>simp
  | true=>rw [q1,Bool.and_true] at hal; simp [hal]
 | true =>
  rw [hal,if_pos rfl] at hf
  have im:=im_ok (q:=y1.fty) (ns:=sumN s n (sclN s n g a) b') (kids:=[y0,y1]) (by rw [r1.ty]; omega) (iTyp_l (by omega) hl0 hf)
  rw [r1.ty] at im
  have lsc:(sclN s n g a).length=ctx.length:=by unfold sclN; rw [List.length_map]; exact la
  have hsc:=below_scl hs hg ba
  have hz0:=sum_zero hs hsc
  rw [lsc] at hz0
  have hsum:=sSumL hs g hg (List.replicate ctx.length 0) a (fun x hx=>by rw [List.eq_of_mem_replicate hx]; exact zero_lt_n hs) ba (by simp; omega) (by simp [la])
  rw [hz0] at hsum
  have hs2:=sSum1 hs (sclN s n g a) b' hsc bb' (by omega) (by omega)
  refine TellR.good (q:=x1.fty) (ns:=sumN s n (sclN s n g a) b') (kids:=[y0,y1]) ?_ im (by omega) g1 (by unfold sumN; rw [List.length_zipWith]; omega) (below_sum hs hsc bb') rfl (kd2 (KidF.mk' (added_none (by decide) rfl) r0 f0 (fun _ h=>by cases h) rfl) (KidF.mk' ad r1 f1 hm' rfl))
  rw [spec_l3Tell.eq_def]
  rw [Bool.and_eq_true] at hal
  simp [e0,f0,i0,spec_l3Taken.eq_def,hcg,hl2,hp0,hp1,hwc,e1,f1,i1,i2,hcut,hcp,hle0,hle1,hal.1,hal.2,na,sZeroL ctx.length (by omega),hsum,hs2]
theorem tell_12 (ih:TellIH s n (tsz (⟨12,N,ty,ks⟩:GTerm))) (h:tOk (gN s.fSize true) (yN s.fSize true) ctx.length ⟨12,N,ty,ks⟩=true) (hc:∀ q ∈ ctx,TyS s q) (hb:ctx.length + 2 * tsz (⟨12,N,ty,ks⟩:GTerm) ≤ 1000000):∃ x y,TellR s n ctx ⟨12,N,ty,ks⟩ x y:=by
 obtain ⟨k0,k1,rfl,p0,p1⟩:=nd2 h (Nat.le_refl _) rfl
 have hz:=tsz_2 12 N ty k0 k1
 obtain ⟨g,hN,hg⟩:=gN_nat hs (nd_N h rfl)
 simp only at hN
 subst hN
 obtain ⟨x0,y0,r0⟩:=ih k0 ctx p0 hc (by omega)
 by_cases f0:x0.ffault=0
 rotate_left
 ·exact tell_bad0 (by decide) (by decide) (by decide) hb r0 f0
 obtain ⟨g0,q0,a,na,la,ba⟩:=r0.gd f0
 obtain ⟨c0,t0,ht0,hn0,hz0⟩:=num_of hs g0
 have L0:=TyS_len g0
 have e0:spec_l3Of (s,ctx,⟨12,(g:Int),ty,[k0,k1]⟩,0)=some x0:=sOf_ok (i:=0) rfl r0 f0
 have C:=code_of hs g0 ht0
 have i0:idx x0.fty 0=some c0:=by rw [ht0]; rfl
 by_cases z0:(shapeI c0).1=4
 rotate_left
 ·have w0:boxC c0=false:=by cases h:boxC c0 with | true=>exact absurd (C.boxB.1 h) z0 | false=>rfl
  refine TellR.bad (f:=7) (p:=[]) ?_ (iTyp_r (by omega) (kidN (m:=[]) rfl (more_zero (by decide)) r0 (by simp; omega) f0 (by rw [ht0,first_12 hs hg,if_neg z0]) (by decide))) (by decide) (by simp; omega)
  rw [spec_l3Tell.eq_def]
  simp [e0,f0,i0,spec_l3Taken.eq_def,sBox,w0,spec_l3Bad]
 obtain ⟨m,p,hm,h15,hcg,hq,P⟩:=C.box z0
 have w0:boxC c0=true:=C.boxB.2 z0
 have hle:=sLe hs.tab (one_lt_n hs) hg
 cases hl:le s n 1 g with
 | false =>
  have hl2:spec_l1Le (s,1,(g:Int))=some false:=by rw [← hl]; exact hle
  refine TellR.bad (f:=8) (p:=[]) ?_ (iTyp_r (by omega) (kidN (m:=[]) rfl (more_zero (by decide)) r0 (by simp; omega) f0 (by rw [ht0,first_12 hs hg,if_pos z0,hl]; rfl) (by decide))) (by decide) (by simp; omega)
  rw [spec_l3Tell.eq_def]
  simp [e0,f0,i0,spec_l3Taken.eq_def,sBox,w0,hl2,spec_l3Bad]
 | true =>
 have hl2:spec_l1Le (s,1,(g:Int))=some true:=by rw [← hl]; exact hle
 have o0:=kidO (out:=[]) (nd:=[]) (us:=[]) (w:=0) (t:=⟨12,(g:Int),ty,[k0,k1]⟩) (m:=[]) rfl (more_zero (by decide)) r0 (by simp; omega) f0 (by rw [ht0,first_12 hs hg,if_pos z0,hl]; rfl) (appE_other (show (12:Int) ≠ 10 by decide)) na (by simp <;> omega) (by simp) (by simp) (by simp) (by simp)
 have hp0:spec_l2Part (x0.fty,0)=some p:=by rw [hq,hcg]; exact P.p0
 have ad:impl_added (⟨12,(g:Int),ty,[k0,k1]⟩,((1:Nat):Int),y0.fty)=some [p]:=by rw [r0.ty,hq,hcg]; exact added_12 P
 have hm':∀ z ∈ [p],TyS s z:=fun z hz=>by simp at hz; rw [hz]; exact P.ya
 have hgr:spec_l2Grade c0=some (m:Int):=by rw [hcg]; exact grade_bx m h15
 have m1:moreE ⟨12,(g:Int),ty,[k0,k1]⟩ [y0] 1=some [p]:=more_pos (by decide) ad
 have p1':KidP s ([p] ++ ctx).length k1 (tsz (⟨12,(g:Int),ty,[k0,k1]⟩:GTerm)):=by
  have e:([p] ++ ctx).length=ctx.length + addsI 12 1:=by simp [addsI]
  rw [e]; exact p1
 obtain ⟨x1,y1,r1⟩:=ih k1 ([p] ++ ctx) p1' (fun z hz=>by rcases List.mem_append.1 hz with hz | hz; exact hm' z hz; exact hc z hz) (by simp; omega)
 have hwc:=sWithL ctx [p] (by simp; omega)
 by_cases f1:x1.ffault=0
 rotate_left
 ·have e1:spec_l3Of (s,p :: ctx,⟨12,(g:Int),ty,[k0,k1]⟩,1)=some ⟨[],[],x1.ffault,1 :: x1.fpath⟩:=sOf_bad (i:=1) rfl r1 (by omega) f1
  refine TellR.bad (f:=x1.ffault) (p:=1 :: x1.fpath) ?_ (iTyp_r (by omega) (o0.trans (kidB (m:=[p]) rfl m1 r1 (by omega) (by simp; omega) f1))) f1 (by have:=r1.pl; simp; omega)
  rw [spec_l3Tell.eq_def]
  simp [e0,f0,i0,spec_l3Taken.eq_def,sBox,w0,hl2,hp0,hwc,e1,f1]
 obtain ⟨g1,q1,b,nb,lb,bb⟩:=r1.gd f1
 obtain ⟨c1,t1,ht1,hn1,hz1⟩:=num_of hs g1
 have L1:=TyS_len g1
 have e1:spec_l3Of (s,p :: ctx,⟨12,(g:Int),ty,[k0,k1]⟩,1)=some x1:=sOf_ok (i:=1) rfl r1 f1
 have lb':b.length=ctx.length + 1:=by rw [lb]; simp
 obtain ⟨u0,b',rfl⟩:∃ u0 b',b=u0 :: b':=by match b,lb' with | u0 :: b',_=>exact ⟨u0,b',rfl⟩ | [],h=>simp at h
 obtain ⟨hu0,bb'⟩:=below_cons bb
 have o1:=kidO (out:=[y0]) (nd:=[needI a]) (us:=[needI []]) (w:=1) (t:=⟨12,(g:Int),ty,[k0,k1]⟩) (m:=[p]) rfl m1 r1 (by simp; omega) f1 (by rw [ht1]; exact first_none (.inr (by decide))) (appE_other (show (12:Int) ≠ 10 by decide)) nb (by simp <;> omega) (by simp) (by simp) (by simp) (by simp)
 simp only [List.length_cons,List.length_nil,Nat.zero_add,List.drop_succ_cons,List.drop_zero,List.take_succ_cons,List.take_zero,List.nil_append] at o1
 have hl0:=o0.trans (o1.trans (iLast (Nat.le_refl _)))
 have lbc:b'.length=ctx.length:=by simp at lb'; omega
 have i1:idx x1.fneeds 0=some (u0:Int):=by rw [nb]; rfl
 have hcut:cut x1.fneeds (some (1:Int)) none none=some (needI b'):=by
  rw [nb]
  have:=cutDrop (l:=needI (u0 :: b')) (m:=1) (by simp [needI])
  exact this
 have hcp:=sCopy (needI b') (by rw [needI_len]; omega)
 have hmul:=sMul hs.tab hg hm
 have htm:=ti_lt hs.tab hg hm
 have hle0:=sLe hs.tab hu0 htm
 have hf:=fin_12 (ty:=ty) (ks:=[k0,k1]) (ctx:=ctx) (z:=needI (List.replicate ctx.length 0)) (y0:=y0) (y1:=y1) (us':=needI []) (u:=[u0]) hs hg hm (p:=p) (by rw [r0.ty,hq,hcg]) (fun x hx=>by simp at hx; rw [hx]; exact hu0) (by simp) ba bb' (by omega) (by omega) (by rw [r1.ty]; omega)
 simp only [List.all_cons,List.all_nil,Bool.and_true] at hf
 have es:=e1
 cases hal:(le s n u0 (ti s n g m)) with
 | false =>
  rw [hal,if_neg (by decide)] at hf
  refine TellR.bad (f:=9) (p:=[]) ?_ (iTyp_l (by omega) hl0 hf) (by decide) (by simp; omega)
  rw [spec_l3Tell.eq_def]
  simp [e0,f0,i0,spec_l3Taken.eq_def,sBox,w0,hl2,hp0,hwc,e1,f1,i1,hcut,hcp,hgr,hmul,hle0,hal,spec_l3Bad]
 | true =>
  rw [hal,if_pos rfl] at hf
  have im:=im_ok (q:=y1.fty) (ns:=sumN s n (sclN s n g a) b') (kids:=[y0,y1]) (by rw [r1.ty]; omega) (iTyp_l (by omega) hl0 hf)
  rw [r1.ty] at im
  have lsc:(sclN s n g a).length=ctx.length:=by unfold sclN; rw [List.length_map]; exact la
  have hsc:=below_scl hs hg ba
  have hz0:=sum_zero hs hsc
  rw [lsc] at hz0
  have hsum:=sSumL hs g hg (List.replicate ctx.length 0) a (fun x hx=>by rw [List.eq_of_mem_replicate hx]; exact zero_lt_n hs) ba (by simp; omega) (by simp [la])
  rw [hz0] at hsum
  have hs2:=sSum1 hs (sclN s n g a) b' hsc bb' (by omega) (by omega)
  refine TellR.good (q:=x1.fty) (ns:=sumN s n (sclN s n g a) b') (kids:=[y0,y1]) ?_ im (by omega) g1 (by unfold sumN; rw [List.length_zipWith]; omega) (below_sum hs hsc bb') rfl (kd2 (KidF.mk' (added_none (by decide) rfl) r0 f0 (fun _ h=>by cases h) rfl) (KidF.mk' ad r1 f1 hm' rfl))
  rw [spec_l3Tell.eq_def]
  simp [e0,f0,i0,spec_l3Taken.eq_def,sBox,w0,hl2,hp0,hwc,e1,f1,i1,hcut,hcp,hgr,hmul,hle0,hal,na,sZeroL ctx.length (by omega),hsum,hs2]
theorem tell_8 (ih:TellIH s n (tsz (⟨8,N,ty,ks⟩:GTerm))) (h:tOk (gN s.fSize true) (yN s.fSize true) ctx.length ⟨8,N,ty,ks⟩=true) (hc:∀ q ∈ ctx,TyS s q) (hb:ctx.length + 2 * tsz (⟨8,N,ty,ks⟩:GTerm) ≤ 1000000):∃ x y,TellR s n ctx ⟨8,N,ty,ks⟩ x y:=by
 obtain ⟨k0,k1,k2,rfl,p0,p1,p2⟩:=nd3 h (Nat.le_refl _) rfl
 have hz:=tsz_3 8 N ty k0 k1 k2
 obtain ⟨g,hN,hg⟩:=gN_nat hs (nd_N h rfl)
 simp only at hN
 subst hN
 obtain ⟨x0,y0,r0⟩:=ih k0 ctx p0 hc (by omega)
 by_cases f0:x0.ffault=0
 rotate_left
 ·exact tell_bad0 (by decide) (by decide) (by decide) hb r0 f0
 obtain ⟨g0,q0,a,na,la,ba⟩:=r0.gd f0
 obtain ⟨c0,t0,ht0,hn0,hz0⟩:=num_of hs g0
 have L0:=TyS_len g0
 have e0:spec_l3Of (s,ctx,⟨8,(g:Int),ty,[k0,k1,k2]⟩,0)=some x0:=sOf_ok (i:=0) rfl r0 f0
 have C:=code_of hs g0 ht0
 have i0:idx x0.fty 0=some c0:=by rw [ht0]; rfl
 by_cases z0:(shapeI c0).1=2
 rotate_left
 ·have w0:c0 ≠ 2:=fun h=>z0 (C.two.1 h)
  refine TellR.bad (f:=5) (p:=[]) ?_ (iTyp_r (by omega) (kidN (m:=[]) rfl (more_zero (by decide)) r0 (by simp; omega) f0 (by rw [ht0,first_8 hs hg,if_neg z0]) (by decide))) (by decide) (by simp; omega)
  rw [spec_l3Tell.eq_def]
  simp [e0,f0,i0,spec_l3Taken.eq_def,w0,spec_l3Bad]
 obtain ⟨p,q,hcg,hq,P⟩:=C.sum z0
 have hle:=sLe hs.tab (one_lt_n hs) hg
 cases hl:le s n 1 g with
 | false =>
  have hl2:spec_l1Le (s,1,(g:Int))=some false:=by rw [← hl]; exact hle
  refine TellR.bad (f:=8) (p:=[]) ?_ (iTyp_r (by omega) (kidN (m:=[]) rfl (more_zero (by decide)) r0 (by simp; omega) f0 (by rw [ht0,first_8 hs hg,if_pos z0,hl]; rfl) (by decide))) (by decide) (by simp; omega)
  rw [spec_l3Tell.eq_def]
  simp [e0,f0,i0,spec_l3Taken.eq_def,hcg,hl2,spec_l3Bad]
 | true =>
 have hl2:spec_l1Le (s,1,(g:Int))=some true:=by rw [← hl]; exact hle
 have o0:=kidO (out:=[]) (nd:=[]) (us:=[]) (w:=0) (t:=⟨8,(g:Int),ty,[k0,k1,k2]⟩) (m:=[]) rfl (more_zero (by decide)) r0 (by simp; omega) f0 (by rw [ht0,first_8 hs hg,if_pos z0,hl]; rfl) (appE_other (show (8:Int) ≠ 10 by decide)) na (by simp <;> omega) (by simp) (by simp) (by simp) (by simp)
 have hp0:spec_l2Part (x0.fty,0)=some p:=by rw [hq,hcg]; exact P.p0
 have hp1:spec_l2Part (x0.fty,1)=some q:=by rw [hq,hcg]; exact P.p1
 have ad1:impl_added (⟨8,(g:Int),ty,[k0,k1,k2]⟩,((1:Nat):Int),y0.fty)=some [p]:=by rw [r0.ty,hq,hcg]; exact added_8a P
 have ad2:impl_added (⟨8,(g:Int),ty,[k0,k1,k2]⟩,((2:Nat):Int),y0.fty)=some [q]:=by rw [r0.ty,hq,hcg]; exact added_8b P
 have hm1:∀ z ∈ [p],TyS s z:=fun z hz=>by simp at hz; rw [hz]; exact P.ya
 have hm2:∀ z ∈ [q],TyS s z:=fun z hz=>by simp at hz; rw [hz]; exact P.yb
 have m1:moreE ⟨8,(g:Int),ty,[k0,k1,k2]⟩ [y0] 1=some [p]:=more_pos (by decide) ad1
 have p1':KidP s ([p] ++ ctx).length k1 (tsz (⟨8,(g:Int),ty,[k0,k1,k2]⟩:GTerm)):=by
  have e:([p] ++ ctx).length=ctx.length + addsI 8 1:=by simp [addsI]
  rw [e]; exact p1
 obtain ⟨x1,y1,r1⟩:=ih k1 ([p] ++ ctx) p1' (fun z hz=>by rcases List.mem_append.1 hz with hz | hz; exact hm1 z hz; exact hc z hz) (by simp; omega)
 have hw1:=sWithL ctx [p] (by simp; omega)
 by_cases f1:x1.ffault=0
 rotate_left
 ·have e1:spec_l3Of (s,p :: ctx,⟨8,(g:Int),ty,[k0,k1,k2]⟩,1)=some ⟨[],[],x1.ffault,1 :: x1.fpath⟩:=sOf_bad (i:=1) rfl r1 (by omega) f1
  refine TellR.bad (f:=x1.ffault) (p:=1 :: x1.fpath) ?_ (iTyp_r (by omega) (o0.trans (kidB (m:=[p]) rfl m1 r1 (by omega) (by simp; omega) f1))) f1 (by have:=r1.pl; simp; omega)
  rw [spec_l3Tell.eq_def]
  simp [e0,f0,i0,spec_l3Taken.eq_def,hcg,hl2,hp0,hp1,hw1,e1,f1]
 obtain ⟨g1,q1,b,nb,lb,bb⟩:=r1.gd f1
 obtain ⟨c1,t1,ht1,hn1,hz1⟩:=num_of hs g1
 have L1:=TyS_len g1
 have e1:spec_l3Of (s,p :: ctx,⟨8,(g:Int),ty,[k0,k1,k2]⟩,1)=some x1:=sOf_ok (i:=1) rfl r1 f1
 have lb':b.length=ctx.length + 1:=by rw [lb]; simp
 obtain ⟨u0,b',rfl⟩:∃ u0 b',b=u0 :: b':=by match b,lb' with | u0 :: b',_=>exact ⟨u0,b',rfl⟩ | [],h=>simp at h
 obtain ⟨hu0,bb'⟩:=below_cons bb
 have lbc:b'.length=ctx.length:=by simp at lb'; omega
 have i1:idx x1.fneeds 0=some (u0:Int):=by rw [nb]; rfl
 have hcut1:cut x1.fneeds (some (1:Int)) none none=some (needI b'):=by rw [nb]; exact cut_tail _ _
 have hcp1:=sCopy (needI b') (by rw [needI_len]; omega)
 have o1:=kidO (out:=[y0]) (nd:=[needI a]) (us:=[needI []]) (w:=1) (t:=⟨8,(g:Int),ty,[k0,k1,k2]⟩) (m:=[p]) rfl m1 r1 (by simp; omega) f1 (by rw [ht1]; exact first_none (.inr (by decide))) (appE_other (show (8:Int) ≠ 10 by decide)) nb (by simp <;> omega) (by simp) (by simp) (by simp) (by simp)
 simp only [List.length_cons,List.length_nil,Nat.zero_add,List.drop_succ_cons,List.drop_zero,List.take_succ_cons,List.take_zero,List.nil_append,List.cons_append] at o1
 have m2:moreE ⟨8,(g:Int),ty,[k0,k1,k2]⟩ [y0,y1] 2=some [q]:=more_pos (by decide) ad2
 have p2':KidP s ([q] ++ ctx).length k2 (tsz (⟨8,(g:Int),ty,[k0,k1,k2]⟩:GTerm)):=by
  have e:([q] ++ ctx).length=ctx.length + addsI 8 2:=by simp [addsI]
  rw [e]; exact p2
 obtain ⟨x2,y2,r2⟩:=ih k2 ([q] ++ ctx) p2' (fun z hz=>by rcases List.mem_append.1 hz with hz | hz; exact hm2 z hz; exact hc z hz) (by simp; omega)
 have hw2:=sWithL ctx [q] (by simp; omega)
 by_cases f2:x2.ffault=0
 rotate_left
 ·have e2:spec_l3Of (s,q :: ctx,⟨8,(g:Int),ty,[k0,k1,k2]⟩,2)=some ⟨[],[],x2.ffault,2 :: x2.fpath⟩:=sOf_bad (i:=2) rfl r2 (by omega) f2
  refine TellR.bad (f:=x2.ffault) (p:=2 :: x2.fpath) ?_ (iTyp_r (by omega) (o0.trans (o1.trans (kidB (m:=[q]) rfl m2 r2 (by omega) (by simp; omega) f2)))) f2 (by have:=r2.pl; simp; omega)
  rw [spec_l3Tell.eq_def]
  simp [e0,f0,i0,spec_l3Taken.eq_def,hcg,hl2,hp0,hp1,hw1,e1,f1,hcut1,hcp1,hw2,e2,f2]
 obtain ⟨g2,q2,d,nd,ld,bd⟩:=r2.gd f2
 obtain ⟨c2,t2,ht2,hn2,hz2⟩:=num_of hs g2
 have L2:=TyS_len g2
 have e2:spec_l3Of (s,q :: ctx,⟨8,(g:Int),ty,[k0,k1,k2]⟩,2)=some x2:=sOf_ok (i:=2) rfl r2 f2
 have ld':d.length=ctx.length + 1:=by rw [ld]; simp
 obtain ⟨v0,d',rfl⟩:∃ v0 d',d=v0 :: d':=by match d,ld' with | v0 :: d',_=>exact ⟨v0,d',rfl⟩ | [],h=>simp at h
 obtain ⟨hv0,bd'⟩:=below_cons bd
 have ldc:d'.length=ctx.length:=by simp at ld'; omega
 have i2:idx x2.fneeds 0=some (v0:Int):=by rw [nd]; rfl
 have hcut2:cut x2.fneeds (some (1:Int)) none none=some (needI d'):=by rw [nd]; exact cut_tail _ _
 have o2:=kidO (out:=[y0,y1]) (nd:=[needI a,needI b']) (us:=[needI [],needI [u0]]) (w:=2) (t:=⟨8,(g:Int),ty,[k0,k1,k2]⟩) (m:=[q]) rfl m2 r2 (by simp; omega) f2 (by rw [ht2]; exact first_none (.inr (by decide))) (appE_other (show (8:Int) ≠ 10 by decide)) nd (by simp <;> omega) (by simp) (by simp) (by simp) (by simp)
 simp only [List.length_cons,List.length_nil,Nat.zero_add,List.drop_succ_cons,List.drop_zero,List.take_succ_cons,List.take_zero,List.nil_append,List.cons_append] at o2
 have hl0:=o0.trans (o1.trans (o2.trans (iLast (Nat.le_refl _))))
 have hle0:=sLe hs.tab hu0 hg
 have hle1:=sLe hs.tab hv0 hg
 have hf:=fin_8 (ty:=ty) (ks:=[k0,k1,k2]) (ctx:=ctx) (z:=needI (List.replicate ctx.length 0)) (y0:=y0) (y1:=y1) (y2:=y2) (us':=needI []) (u:=[u0]) (v:=[v0]) hs hg (fun x hx=>by simp at hx; rw [hx]; exact hu0) (by simp) (fun x hx=>by simp at hx; rw [hx]; exact hv0) (by simp) ba bb' bd' (by omega) (by omega) (by omega) (by rw [r2.ty]; omega) (by rw [r1.ty]; omega)
 simp only [List.all_cons,List.all_nil,Bool.and_true] at hf
 rw [r1.ty,r2.ty] at hf
 have hsm:=sSame x1.fty x2.fty (by omega)
 have hj:=sJoinL hs b' d' bb' bd' (by omega) (by omega)
 have lj:(jonN s n b' d').length=ctx.length:=by unfold jonN; rw [List.length_zipWith]; omega
 by_cases hqq:x1.fty=x2.fty
 rotate_left
 ·rw [if_neg hqq] at hf
  rw [show (x1.fty == x2.fty)=false from beq_eq_false_iff_ne.2 hqq] at hsm
  refine TellR.bad (f:=3) (p:=[]) ?_ (iTyp_l (by omega) hl0 hf) (by decide) (by simp; omega)
  rw [spec_l3Tell.eq_def]
  simp [e0,f0,i0,spec_l3Taken.eq_def,hcg,hl2,hp0,hp1,hw1,e1,f1,hcut1,hcp1,hw2,e2,f2,hsm,spec_l3Bad]
 rw [if_pos hqq] at hf
 rw [show (x1.fty == x2.fty)=true from beq_iff_eq.2 hqq] at hsm
 by_cases hal:le s n u0 g=true∧le s n v0 g=true
 rotate_left
 ·rw [if_neg hal] at hf
  refine TellR.bad (f:=9) (p:=[]) ?_ (iTyp_l (by omega) hl0 hf) (by decide) (by simp; omega)
  rw [spec_l3Tell.eq_def]
  simp [e0,f0,i0,spec_l3Taken.eq_def,hcg,hl2,hp0,hp1,hw1,e1,f1,hcut1,hcp1,hw2,e2,f2,hsm,i1,i2,hle0,hle1,hcut2,hj,spec_l3Bad]
  cases q1:le s n v0 g with
  | false=>simp
  | true =>
   cases q2:le s n u0 g with
   | false=>simp
   | true=>exact absurd ⟨q2,q1⟩ hal
 rw [if_pos hal] at hf
 have im:=im_ok (q:=x1.fty) (ns:=sumN s n (sclN s n g a) (jonN s n b' d')) (kids:=[y0,y1,y2]) (by omega) (iTyp_l (by omega) hl0 hf)
 have lsc:(sclN s n g a).length=ctx.length:=by unfold sclN; rw [List.length_map]; exact la
 have hsc:=below_scl hs hg ba
 have hz0:=sum_zero hs hsc
 rw [lsc] at hz0
 have hsum:=sSumL hs g hg (List.replicate ctx.length 0) a (fun x hx=>by rw [List.eq_of_mem_replicate hx]; exact zero_lt_n hs) ba (by simp; omega) (by simp [la])
 rw [hz0] at hsum
 have hs2:=sSum1 hs (sclN s n g a) (jonN s n b' d') hsc (below_jon hs bb' bd') (by omega) (by omega)
 refine TellR.good (q:=x1.fty) (ns:=sumN s n (sclN s n g a) (jonN s n b' d')) (kids:=[y0,y1,y2]) ?_ im (by omega) g1 (by unfold sumN; rw [List.length_zipWith]; omega) (below_sum hs hsc (below_jon hs bb' bd')) rfl (kd3 (KidF.mk' (added_none (by decide) rfl) r0 f0 (fun _ h=>by cases h) rfl) (KidF.mk' ad1 r1 f1 hm1 rfl) (KidF.mk' ad2 r2 f2 hm2 rfl))
 rw [spec_l3Tell.eq_def]
 simp [e0,f0,i0,spec_l3Taken.eq_def,hcg,hl2,hp0,hp1,hw1,e1,f1,hcut1,hcp1,hw2,e2,f2,hsm,i1,i2,hle0,hle1,hal.1,hal.2,hcut2,hj,na,sZeroL ctx.length (by omega),hsum,hs2]
theorem tell_all:∀ (m:Nat) (t:GTerm) (ctx:List (List Int)),tsz t ≤ m→tOk (gN s.fSize true) (yN s.fSize true) ctx.length t=true→(∀ q ∈ ctx,TyS s q)→ctx.length + 2 * tsz t ≤ 1000000→∃ x y,TellR s n ctx t x y
 | 0,t,ctx,hm,_,_,_=>by obtain ⟨op,N,ty,ks⟩:=t; rw [tsz] at hm; omega
 | m + 1,t,ctx,hm,h,hc,hb=>by
  have ih:TellIH s n (tsz t):=fun k c hk hc hb=>tell_all m k c (by have:=hk.sz; omega) hk.ok hc hb
  obtain ⟨op,N,ty,ks⟩:=t
  have hop:=(nodeOk_many (tOk_node h).1).1
  simp only at hop
  rcases op_cases hop with rfl | rfl | rfl | rfl | rfl | rfl | rfl | rfl | rfl | rfl | rfl | rfl | rfl
  ·exact tell_0 hs rfl h hc hb
  ·exact tell_1 hs rfl h hb
  ·exact tell_2 hs ih h hc hb
  ·exact tell_3 hs ih h hc hb
  ·exact tell_4 hs ih h hc hb
  ·exact tell_5 hs ih h hc hb
  ·exact tell_6 hs ih h hc hb
  ·exact tell_7 hs ih h hc hb
  ·exact tell_8 hs ih h hc hb
  ·exact tell_9 hs ih h hc hb
  ·exact tell_10 hs ih h hc hb
  ·exact tell_11 hs ih h hc hb
  ·exact tell_12 hs ih h hc hb
end
theorem lms_mem {l:List (List Int)} {v:List Int} (h:v ∈ l):v.length ≤ lms l:=by
 have:=lct_mem h
 unfold lms; omega
theorem inp_of {s:GSystem} {ctx:List (List Int)} {t:GTerm} (h:inpB s ctx t=true):SysL s s.fSize.toNat∧ctx.length ≤ 8∧(∀ q ∈ ctx,TyS s q)∧tsz t ≤ 400∧tOk (gN s.fSize true) (yN s.fSize true) ctx.length t=true:=by
 unfold inpB ctxG trmB at h
 simp only [Bool.and_eq_true,decide_eq_true_eq,List.all_eq_true] at h
 exact ⟨sysL_of h.1.1,h.1.2.1,fun q hq=>h.1.2.2 q hq,h.2.1.2,h.2.2⟩
theorem typ_ok {s:GSystem} {ctx:List (List Int)} {t:GTerm} (h:inpB s ctx t=true):∃ x y,TellR s s.fSize.toNat ctx t x y:=by
 obtain ⟨h1,h2,h3,h4,h5⟩:=inp_of h
 exact tell_all h1 (tsz t) t ctx (Nat.le_refl _) h5 h3 (by omega)
theorem typedOf_of {s:GSystem} {ctx:List (List Int)} {t:GTerm} (hc:lms ctx ≤ 1048576) (ht:tms t ≤ 1099511627776) :
  (inpB s ctx t=false∧spec_l3Input (s,ctx,t)=some false∧impl_typedOf (s,ctx,t)=some none) ∨
  (inpB s ctx t=true∧spec_l3Input (s,ctx,t)=some true∧∃ x y,TellR s s.fSize.toNat ctx t x y∧impl_typedOf (s,ctx,t)=some (some y)):=by
 have hl:∀ ty ∈ ctx,ty.length ≤ 1099511627776:=fun ty h=>by have:=lms_mem h; omega
 have hc':ctx.length ≤ 1048576:=by unfold lms at hc; omega
 have h1:=sInput s ctx t hc' hl ht
 have h2:=iInput s ctx t hc' hl ht
 cases h:inpB s ctx t with
 | false=>rw [h] at h1 h2; exact .inl ⟨rfl,h1,by simpa using h2⟩
 | true =>
  rw [h] at h1 h2
  obtain ⟨x,y,r⟩:=typ_ok h
  refine .inr ⟨rfl,h1,x,y,r,?_⟩
  rw [if_pos rfl,r.im,bs] at h2
  exact h2
theorem typeOf_eq (s:GSystem) (ctx:List (List Int)) (t:GTerm) (hc:lms ctx ≤ 1048576) (ht:tms t ≤ 1099511627776) :
  (spec_TypeOf (s,ctx,t)=some ([],[],false)∧impl_TypeOf (s,ctx,t)=some ([],[],false)∧(inpB s ctx t=false∨∃ x y,TellR s s.fSize.toNat ctx t x y∧x.ffault ≠ 0)) ∨
  ∃ x y,TellR s s.fSize.toNat ctx t x y∧x.ffault=0∧inpB s ctx t=true∧spec_TypeOf (s,ctx,t)=some (x.fty,x.fneeds,true)∧impl_TypeOf (s,ctx,t)=some (x.fty,x.fneeds,true)∧impl_typedOf (s,ctx,t)=some (some y):=by
 unfold spec_TypeOf impl_TypeOf
 simp only
 rcases typedOf_of (s:=s) hc ht with ⟨h0,h1,h2⟩ | ⟨h0,h1,x,y,r,h2⟩
 ·rw [h1,h2]
  exact .inl ⟨rfl,rfl,.inl h0⟩
 ·rw [h1,h2,bs,bs,if_pos rfl,r.sp,bs]
  by_cases hf:x.ffault=0
  ·obtain ⟨g,_,ns,hn,hl,_⟩:=r.gd hf
   have:=TyS_len g
   obtain ⟨_,h8,_⟩:=inp_of h0
   refine .inr ⟨x,y,r,hf,h0,by rw [if_neg (by simp [hf])],?_,rfl⟩
   simp only
   rw [if_neg (by rw [r.fa]; simp [hf]),r.ty,iCopy x.fty (by omega),bs,r.ne,iCopy x.fneeds (by rw [hn,needI_len]; omega),bs]
  ·refine .inl ⟨by rw [if_pos (bne_iff_ne.2 hf)],?_,.inr ⟨x,y,r,hf⟩⟩
   simp only
   rw [if_pos (by rw [r.fa]; exact bne_iff_ne.2 hf)]
def budB (s:GSystem) (n:Nat) (x:Nat) (g:Int):Bool:=hasB s g && le s n x g.toNat
def budL (s:GSystem) (n:Nat) (a:List Nat) (b:List Int):Bool:=(List.zipWith (budB s n) a b).all id
section
variable {s:GSystem} {n:Nat} (hs:SysL s n)
include hs
theorem has_nat {g:Int} (h:hasB s g=true):∃ k:Nat,g=(k:Int)∧k < n:=gN_nat hs (by rw [← gN_hasB hs.tab]; exact h)
theorem sBud_l0 (a:List Nat) (b:List Int) (ha:below n a) (hl:a.length ≤ 1048576):∀ (al:List Nat) (bl:List Int) (i:Nat),a.drop i=al→b.drop i=bl→al.length=bl.length →
  spec_l3Below_l0 (s,needI a,b,(i:Int))=some (if budL s n al bl then .inl () else .inr false):=by
 intro al
 induction al with
 | nil =>
  intro bl i hd hd2 he
  rw [spec_l3Below_l0.eq_def]
  simp only
  rw [needI_len,lt_f (drop_nil_le hd)]
  rfl
 | cons x al ih =>
  intro bl i hd hd2 he
  obtain ⟨h1,h2,h3⟩:=needI_at hd
  have hx:x < n:=below_drop ha i x (by rw [hd]; exact List.mem_cons_self)
  match bl,he,hd2 with
  | g :: bl,he,hd2 =>
  obtain ⟨k1,k2,k3⟩:=drop_cons_get hd2
  rw [spec_l3Below_l0.eq_def]
  simp only
  rw [needI_len,lt_t h1,if_pos rfl,k2,bs,sIn,bs]
  have e:budL s n (x :: al) (g :: bl)=(budB s n x g && budL s n al bl):=rfl
  rw [e]
  unfold budB
  cases hg:hasB s g with
  | false =>
   unfold hasB at hg
   rw [hg]
   rfl
  | true =>
   obtain ⟨k,rfl,hk⟩:=has_nat hs hg
   have hg':=hg
   unfold hasB at hg
   rw [hg,if_pos rfl,h2,bs,bs,sLe hs.tab hx hk,bs,bs,Int.toNat_natCast,Bool.true_and]
   cases hle:le s n x k with
   | false=>rfl
   | true =>
    rw [if_neg (by decide),wr_succ (by omega),ih bl (i + 1) h3 k3 (by simpa using he),Bool.true_and]
theorem iBud_l0 (a:List Nat) (b:List Int) (ha:below n a) (hl:b.length ≤ 1048576):∀ (al:List Nat) (bl:List Int) (i:Nat),a.drop i=al→b.drop i=bl→al.length=bl.length →
  impl_Fits_l0 (s,b,needI a,(i:Int))=some (if budL s n al bl then .inl () else .inr false):=by
 intro al
 induction al with
 | nil =>
  intro bl i hd hd2 he
  match bl,he,hd2 with
  | [],he,hd2 =>
  rw [impl_Fits_l0.eq_def]
  simp only
  rw [lt_f (drop_nil_le hd2)]
  rfl
 | cons x al ih =>
  intro bl i hd hd2 he
  obtain ⟨h1,h2,h3⟩:=needI_at hd
  have hx:x < n:=below_drop ha i x (by rw [hd]; exact List.mem_cons_self)
  match bl,he,hd2 with
  | g :: bl,he,hd2 =>
  obtain ⟨k1,k2,k3⟩:=drop_cons_get hd2
  rw [impl_Fits_l0.eq_def]
  simp only
  rw [lt_t k1,if_pos rfl,k2,bs,iHas,bs]
  have e:budL s n (x :: al) (g :: bl)=(budB s n x g && budL s n al bl):=rfl
  rw [e]
  unfold budB
  cases hg:hasB s g with
  | false=>rfl
  | true =>
   obtain ⟨k,rfl,hk⟩:=has_nat hs hg
   rw [if_pos rfl,h2,bs,iLe hs.tab hx hk,bs,bs,Int.toNat_natCast,Bool.true_and]
   cases hle:le s n x k with
   | false=>rfl
   | true =>
    rw [if_neg (by decide),wr_succ (by omega),ih bl (i + 1) h3 k3 (by simpa using he),Bool.true_and]
theorem sBud (a:List Nat) (b:List Int) (ha:below n a) (hl:a.length ≤ 1048576):spec_l3Below (s,needI a,b)=some (decide (a.length=b.length) && budL s n a b):=by
 unfold spec_l3Below
 simp only
 rw [needI_len]
 by_cases h:a.length=b.length
 ·rw [if_neg (by simp [h]),show (0:Int)=((0:Nat):Int) from rfl,sBud_l0 hs a b ha hl a b 0 rfl rfl h,bs,decide_eq_true h,Bool.true_and]
  cases budL s n a b <;> rfl
 ·rw [if_pos (bne_iff_ne.2 (by omega)),decide_eq_false h,Bool.false_and]
end
theorem fits_same (x0:GSystem) (x1:List (List Int)) (x2:List Int) (x3:GTerm) (x4:List Int) (b0:sms x0 ≤ 1048576) (b1:lms x1 ≤ 1048576) (b2:x2.length ≤ 1048576) (b3:tms x3 ≤ 1048576) (h3:tln x3) (b4:x4.length ≤ 1048576) :
  ∃ w0,spec_Fits (x0,x1,x2,x3,x4)=some w0∧impl_Fits (x0,x1,x2,x3,x4)=some w0:=by
 unfold spec_Fits impl_Fits
 simp only
 rcases typeOf_eq x0 x1 x3 b1 (by omega) with ⟨h1,h2,_⟩ | ⟨x,y,r,hf,hi,h1,h2,_⟩
 ·rw [h1,h2]
  exact ⟨false,rfl,rfl⟩
 ·obtain ⟨g,_,ns,hn,hl,hb⟩:=r.gd hf
  obtain ⟨hs,h8,_⟩:=inp_of hi
  rw [h1,h2]
  simp only [bs,if_true]
  rw [sSame x.fty x4 (by omega),iSame x.fty x4 (by omega),bs,bs,hn]
  cases x.fty == x4 with
  | false=>exact ⟨false,rfl,rfl⟩
  | true =>
   rw [if_pos rfl,if_pos rfl,sBud hs ns x2 hb (by omega),bs,bs,bs]
   refine ⟨_,rfl,?_⟩
   by_cases h:ns.length=x2.length
   ·rw [if_neg (by simp; omega),show (0:Int)=((0:Nat):Int) from rfl,iBud_l0 hs ns x2 hb b2 ns x2 0 rfl rfl h,bs,decide_eq_true h,Bool.true_and]
    cases budL x0 x0.fSize.toNat ns x2 <;> rfl
   ·rw [if_pos (bne_iff_ne.2 (by omega)),decide_eq_false h,Bool.false_and]
theorem fits_true (x0:GSystem) (x1:List (List Int)) (x2:List Int) (x3:GTerm) (x4:List Int) (hx0:sln x0) (hx1:lln x1) (hx2:x2.length ≤ 9223372036854775807) (hx3:tln x3) (hx4:x4.length ≤ 9223372036854775807):laws_FnExactFits (x0,x1,x2,x3,x4)=some true:=by
 unfold laws_FnExactFits
 simp only
 by_cases gx2:x2.length ≤ 1048576
 ·rw [decide_eq_false (by omega),if_neg (by decide)]
  by_cases gx4:x4.length ≤ 1048576
  ·rw [decide_eq_false (by omega),if_neg (by decide)]
   rw [szSystem_eq x0 (1048576) hx0 (by omega) (by omega),bs]
   rcases szB_cases (1048576) (sms x0) with ⟨e0,l0⟩ | ⟨e0,l0⟩
   ·rw [e0]; rfl
   ·rw [e0,decide_eq_false (by omega),if_neg (by decide)]
    rw [szIntSS_eq x1 (1048576 - (sms x0:Int)) hx1 (by omega) (by omega),bs]
    rcases szB_cases (1048576 - (sms x0:Int)) (lms x1) with ⟨e1,l1⟩ | ⟨e1,l1⟩
    ·rw [e1]; rfl
    ·rw [e1,decide_eq_false (by omega),if_neg (by decide)]
     rw [szTerm_eq x3 (1048576 - (sms x0:Int) - (lms x1:Int)) hx3 (by omega) (by omega),bs]
     rcases szB_cases (1048576 - (sms x0:Int) - (lms x1:Int)) (tms x3) with ⟨e2,l2⟩ | ⟨e2,l2⟩
     ·rw [e2]; rfl
     ·rw [e2,decide_eq_false (by omega),if_neg (by decide)]
      have bx0:sms x0 ≤ 1048576:=by omega
      have bx1:lms x1 ≤ 1048576:=by omega
      have bx3:tms x3 ≤ 1048576:=by omega
      obtain ⟨w0,s1,s2⟩:=fits_same x0 x1 x2 x3 x4 bx0 bx1 gx2 bx3 hx3 gx4
      simp only [s1,s2,bs,toSystem_sms (s:=x0) (by omega),eqSystem_sms (s:=x0) (by omega),toIntSS_id x1 (by omega),eqIntSS_refl x1 (lok_of (by omega)),toIntS_id x2 (by omega),eqIntS_refl x2 (by omega),toTerm_id x3 (by omega),eqTerm_refl x3 (by omega),toIntS_id x4 (by omega),eqIntS_refl x4 (by omega),beq_self_b,if_true,if_false,Bool.false_eq_true,bne_self,Bool.not_true,Bool.not_false,beq_self_t,beq_self_eq_true]
  ·rw [decide_eq_true (by omega),if_pos rfl]
 ·rw [decide_eq_true (by omega),if_pos rfl]
end Go.Am
