/- Functions of the library, met by the contracts of the kit's shelf: their layings at this program (written by the shelf's own tool), and what the own layer is told of them. -/
import Derived.Shelf.LaysM
import Derived.Shelf.Strconv.Itoa3
import Derived.Shelf.LaysC
import Derived.Shelf.Strconv.Atoi
import Derived.Shelf.Strconv.AtoiErr
import Derived.Test.YtifijafaaljamaaDoorAmXE
import Derived.Test.YtifijafaaljamaaDoorChecked
set_option linter.unusedVariables false
namespace Go.Am
open Go Go.Proofs Go.Shelf
def K00:Go.Shelf.Ren:=⟨fun | 171=>56 | 243=>66 | 246=>75 | 283=>79 | 284=>80 | 285=>81 | 286=>82 | 129=>86 | 317=>85 | 318=>87 | 319=>88 | 320=>89 | 337=>90 | 338=>91 | n=>n,fun | 3=>3 | 9=>9 | 2=>2 | 4=>4 | 171=>96 | 0=>0 | 53=>88 | 37=>78 | 5=>5 | 173=>99 | 212=>107 | 51=>108 | 20=>20 | 213=>109 | 46=>91 | 232=>112 | 233=>113 | n=>n,fun | 17=>2 | 18=>3 | 19=>4 | n=>n⟩
theorem shM:Go.Proofs.LaysM.n171 Tryd.prog K00:={
 mixed:=by kernel_rfl
 f129:=Tryd.func86.trans (congrArg some (by kernel_rfl))
 f171:=Tryd.func56.trans (congrArg some (by kernel_rfl))
 f243:=Tryd.func66.trans (congrArg some (by kernel_rfl))
 f246:=Tryd.func75.trans (congrArg some (by kernel_rfl))
 f283:=Tryd.func79.trans (congrArg some (by kernel_rfl))
 f284:=Tryd.func80.trans (congrArg some (by kernel_rfl))
 f285:=Tryd.func81.trans (congrArg some (by kernel_rfl))
 f286:=Tryd.func82.trans (congrArg some (by kernel_rfl))
 f317:=Tryd.func85.trans (congrArg some (by kernel_rfl))
 f318:=Tryd.func87.trans (congrArg some (by kernel_rfl))
 f319:=Tryd.func88.trans (congrArg some (by kernel_rfl))
 f320:=Tryd.func89.trans (congrArg some (by kernel_rfl))
 f337:=Tryd.func90.trans (congrArg some (by kernel_rfl))
 f338:=Tryd.func91.trans (congrArg some (by kernel_rfl))
 t0:=Tryd.underlying0
 a0:=Tryd.isAgg0
 z0:=Tryd.sizeOf0
 v0:=Tryd.zeroValue0
 t2:=Tryd.underlying2
 a2:=Tryd.isAgg2
 z2:=Tryd.sizeOf2
 v2:=Tryd.zeroValue2
 t3:=Tryd.underlying3
 a3:=Tryd.isAgg3
 z3:=Tryd.sizeOf3
 v3:=Tryd.zeroValue3
 t4:=Tryd.underlying4
 a4:=Tryd.isAgg4
 z4:=Tryd.sizeOf4
 v4:=Tryd.zeroValue4
 t5:=Tryd.underlying5
 a5:=Tryd.isAgg5
 z5:=Tryd.sizeOf5
 v5:=Tryd.zeroValue5
 t9:=Tryd.underlying9
 a9:=Tryd.isAgg9
 z9:=Tryd.sizeOf9
 v9:=Tryd.zeroValue9
 t20:=Tryd.underlying20
 a20:=Tryd.isAgg20
 z20:=Tryd.sizeOf20
 v20:=Tryd.zeroValue20
 t37:=Tryd.underlying78
 a37:=Tryd.isAgg78
 z37:=Tryd.sizeOf78
 v37:=Tryd.zeroValue78
 t46:=Tryd.underlying91
 a46:=Tryd.isAgg91
 z46:=Tryd.sizeOf91
 v46:=Tryd.zeroValue91
 t51:=Tryd.underlying108
 a51:=Tryd.isAgg108
 z51:=Tryd.sizeOf108
 v51:=Tryd.zeroValue108
 t53:=Tryd.underlying88
 a53:=Tryd.isAgg88
 z53:=Tryd.sizeOf88
 v53:=Tryd.zeroValue88
 t171:=Tryd.underlying96
 a171:=Tryd.isAgg96
 z171:=Tryd.sizeOf96
 v171:=Tryd.zeroValue96
 t173:=Tryd.underlying99
 a173:=Tryd.isAgg99
 z173:=Tryd.sizeOf99
 v173:=Tryd.zeroValue99
 t212:=Tryd.underlying107
 a212:=Tryd.isAgg107
 z212:=Tryd.sizeOf107
 v212:=Tryd.zeroValue107
 t213:=Tryd.underlying109
 a213:=Tryd.isAgg109
 z213:=Tryd.sizeOf109
 t232:=Tryd.underlying112
 a232:=Tryd.isAgg112
 z232:=Tryd.sizeOf112
 v232:=Tryd.zeroValue112
 t233:=Tryd.underlying113
 a233:=Tryd.isAgg113
 z233:=Tryd.sizeOf113
 v233:=Tryd.zeroValue113
 g17:=by kernel_rfl
 g18:=by kernel_rfl
 g19:=by kernel_rfl
 i0:=by kernel_rfl
 i2:=by kernel_rfl
 i3:=by kernel_rfl
 i4:=by kernel_rfl
 i5:=by kernel_rfl
 i9:=by kernel_rfl
 i20:=by kernel_rfl
 i37:=by kernel_rfl
 i46:=by kernel_rfl
 i51:=by kernel_rfl
 i53:=by kernel_rfl
 i171:=by kernel_rfl
 i173:=by kernel_rfl
 i212:=by kernel_rfl
 i232:=by kernel_rfl
 i233:=by kernel_rfl
 m17:=by kernel_rfl
 m18:=by kernel_rfl
 m19:=by kernel_rfl }
def K01:Go.Shelf.Ren:=⟨fun | 172=>55 | 244=>64 | 245=>65 | 247=>70 | 279=>71 | 280=>72 | 281=>73 | 282=>74 | 287=>76 | 316=>77 | 171=>56 | 205=>78 | 321=>83 | 322=>84 | 243=>66 | 246=>75 | 283=>79 | 284=>80 | 285=>81 | 286=>82 | 129=>86 | 317=>85 | 318=>87 | 319=>88 | 320=>89 | 337=>90 | 338=>91 | n=>n,fun | 9=>9 | 3=>3 | 75=>72 | 76=>73 | 4=>4 | 5=>5 | 167=>81 | 37=>78 | 0=>0 | 85=>82 | 2=>2 | 168=>84 | 53=>88 | 175=>89 | 46=>91 | 210=>94 | 127=>102 | 145=>105 | 143=>103 | 21=>21 | 171=>96 | 173=>99 | 212=>107 | 51=>108 | 20=>20 | 213=>109 | 232=>112 | 233=>113 | 80=>114 | n=>n,fun | 15=>0 | 16=>1 | 17=>2 | 18=>3 | 19=>4 | n=>n⟩
theorem shC:Go.Proofs.LaysC.n172 Tryd.prog K01:={
 mixed:=by kernel_rfl
 f129:=Tryd.func86.trans (congrArg some (by kernel_rfl))
 f171:=Tryd.func56.trans (congrArg some (by kernel_rfl))
 f172:=Tryd.func55.trans (congrArg some (by kernel_rfl))
 f205:=Tryd.func78.trans (congrArg some (by kernel_rfl))
 f243:=Tryd.func66.trans (congrArg some (by kernel_rfl))
 f244:=Tryd.func64.trans (congrArg some (by kernel_rfl))
 f245:=Tryd.func65.trans (congrArg some (by kernel_rfl))
 f246:=Tryd.func75.trans (congrArg some (by kernel_rfl))
 f247:=Tryd.func70.trans (congrArg some (by kernel_rfl))
 f279:=Tryd.func71.trans (congrArg some (by kernel_rfl))
 f280:=Tryd.func72.trans (congrArg some (by kernel_rfl))
 f281:=Tryd.func73.trans (congrArg some (by kernel_rfl))
 f282:=Tryd.func74.trans (congrArg some (by kernel_rfl))
 f283:=Tryd.func79.trans (congrArg some (by kernel_rfl))
 f284:=Tryd.func80.trans (congrArg some (by kernel_rfl))
 f285:=Tryd.func81.trans (congrArg some (by kernel_rfl))
 f286:=Tryd.func82.trans (congrArg some (by kernel_rfl))
 f287:=Tryd.func76.trans (congrArg some (by kernel_rfl))
 f316:=Tryd.func77.trans (congrArg some (by kernel_rfl))
 f317:=Tryd.func85.trans (congrArg some (by kernel_rfl))
 f318:=Tryd.func87.trans (congrArg some (by kernel_rfl))
 f319:=Tryd.func88.trans (congrArg some (by kernel_rfl))
 f320:=Tryd.func89.trans (congrArg some (by kernel_rfl))
 f321:=Tryd.func83.trans (congrArg some (by kernel_rfl))
 f322:=Tryd.func84.trans (congrArg some (by kernel_rfl))
 f337:=Tryd.func90.trans (congrArg some (by kernel_rfl))
 f338:=Tryd.func91.trans (congrArg some (by kernel_rfl))
 t0:=Tryd.underlying0
 a0:=Tryd.isAgg0
 z0:=Tryd.sizeOf0
 v0:=Tryd.zeroValue0
 t2:=Tryd.underlying2
 a2:=Tryd.isAgg2
 z2:=Tryd.sizeOf2
 v2:=Tryd.zeroValue2
 t3:=Tryd.underlying3
 a3:=Tryd.isAgg3
 z3:=Tryd.sizeOf3
 v3:=Tryd.zeroValue3
 t4:=Tryd.underlying4
 a4:=Tryd.isAgg4
 z4:=Tryd.sizeOf4
 v4:=Tryd.zeroValue4
 t5:=Tryd.underlying5
 a5:=Tryd.isAgg5
 z5:=Tryd.sizeOf5
 v5:=Tryd.zeroValue5
 t9:=Tryd.underlying9
 a9:=Tryd.isAgg9
 z9:=Tryd.sizeOf9
 v9:=Tryd.zeroValue9
 t20:=Tryd.underlying20
 a20:=Tryd.isAgg20
 z20:=Tryd.sizeOf20
 v20:=Tryd.zeroValue20
 t21:=Tryd.underlying21
 a21:=Tryd.isAgg21
 z21:=Tryd.sizeOf21
 v21:=Tryd.zeroValue21
 t37:=Tryd.underlying78
 a37:=Tryd.isAgg78
 z37:=Tryd.sizeOf78
 v37:=Tryd.zeroValue78
 t46:=Tryd.underlying91
 a46:=Tryd.isAgg91
 z46:=Tryd.sizeOf91
 v46:=Tryd.zeroValue91
 t51:=Tryd.underlying108
 a51:=Tryd.isAgg108
 z51:=Tryd.sizeOf108
 v51:=Tryd.zeroValue108
 t53:=Tryd.underlying88
 a53:=Tryd.isAgg88
 z53:=Tryd.sizeOf88
 v53:=Tryd.zeroValue88
 t75:=Tryd.underlying72
 a75:=Tryd.isAgg72
 z75:=Tryd.sizeOf72
 v75:=Tryd.zeroValue72
 t76:=Tryd.underlying73
 a76:=Tryd.isAgg73
 z76:=Tryd.sizeOf73
 v76:=Tryd.zeroValue73
 t85:=Tryd.underlying82
 a85:=Tryd.isAgg82
 z85:=Tryd.sizeOf82
 v85:=Tryd.zeroValue82
 t127:=Tryd.underlying102
 a127:=Tryd.isAgg102
 z127:=Tryd.sizeOf102
 v127:=Tryd.zeroValue102
 t143:=Tryd.underlying103
 a143:=Tryd.isAgg103
 z143:=Tryd.sizeOf103
 v143:=Tryd.zeroValue103
 t145:=Tryd.underlying105
 a145:=Tryd.isAgg105
 z145:=Tryd.sizeOf105
 v145:=Tryd.zeroValue105
 t167:=Tryd.underlying81
 a167:=Tryd.isAgg81
 z167:=Tryd.sizeOf81
 v167:=Tryd.zeroValue81
 t168:=Tryd.underlying84
 a168:=Tryd.isAgg84
 z168:=Tryd.sizeOf84
 v168:=Tryd.zeroValue84
 t171:=Tryd.underlying96
 a171:=Tryd.isAgg96
 z171:=Tryd.sizeOf96
 v171:=Tryd.zeroValue96
 t173:=Tryd.underlying99
 a173:=Tryd.isAgg99
 z173:=Tryd.sizeOf99
 v173:=Tryd.zeroValue99
 t175:=Tryd.underlying89
 a175:=Tryd.isAgg89
 z175:=Tryd.sizeOf89
 v175:=Tryd.zeroValue89
 t210:=Tryd.underlying94
 a210:=Tryd.isAgg94
 z210:=Tryd.sizeOf94
 v210:=Tryd.zeroValue94
 t212:=Tryd.underlying107
 a212:=Tryd.isAgg107
 z212:=Tryd.sizeOf107
 v212:=Tryd.zeroValue107
 t213:=Tryd.underlying109
 a213:=Tryd.isAgg109
 z213:=Tryd.sizeOf109
 t232:=Tryd.underlying112
 a232:=Tryd.isAgg112
 z232:=Tryd.sizeOf112
 v232:=Tryd.zeroValue112
 t233:=Tryd.underlying113
 a233:=Tryd.isAgg113
 z233:=Tryd.sizeOf113
 v233:=Tryd.zeroValue113
 g15:=by kernel_rfl
 g16:=by kernel_rfl
 g17:=by kernel_rfl
 g18:=by kernel_rfl
 g19:=by kernel_rfl
 t80:=Tryd.underlying114
 a80:=Tryd.isAgg114
 z80:=Tryd.sizeOf114
 v80:=Tryd.zeroValue114
 i0:=by kernel_rfl
 i2:=by kernel_rfl
 i3:=by kernel_rfl
 i4:=by kernel_rfl
 i5:=by kernel_rfl
 i9:=by kernel_rfl
 i20:=by kernel_rfl
 i21:=by kernel_rfl
 i37:=by kernel_rfl
 i46:=by kernel_rfl
 i51:=by kernel_rfl
 i53:=by kernel_rfl
 i75:=by kernel_rfl
 i76:=by kernel_rfl
 i80:=by kernel_rfl
 i85:=by kernel_rfl
 i127:=by kernel_rfl
 i143:=by kernel_rfl
 i145:=by kernel_rfl
 i167:=by kernel_rfl
 i168:=by kernel_rfl
 i171:=by kernel_rfl
 i173:=by kernel_rfl
 i175:=by kernel_rfl
 i210:=by kernel_rfl
 i212:=by kernel_rfl
 i232:=by kernel_rfl
 i233:=by kernel_rfl
 m15:=by kernel_rfl
 m16:=by kernel_rfl
 m17:=by kernel_rfl
 m18:=by kernel_rfl
 m19:=by kernel_rfl
 c0:=by kernel_rfl
 c2:=by kernel_rfl
 c3:=by kernel_rfl
 c4:=by kernel_rfl
 c5:=by kernel_rfl
 c9:=by kernel_rfl
 c20:=by kernel_rfl
 c21:=by kernel_rfl
 c37:=by kernel_rfl
 c46:=by kernel_rfl
 c51:=by kernel_rfl
 c53:=by kernel_rfl
 c75:=by kernel_rfl
 c76:=by kernel_rfl
 c80:=by kernel_rfl
 c85:=by kernel_rfl
 c127:=by kernel_rfl
 c143:=by kernel_rfl
 c145:=by kernel_rfl
 c167:=by kernel_rfl
 c168:=by kernel_rfl
 c171:=by kernel_rfl
 c173:=by kernel_rfl
 c175:=by kernel_rfl
 c210:=by kernel_rfl
 c212:=by kernel_rfl
 c213:=by kernel_rfl
 c232:=by kernel_rfl
 c233:=by kernel_rfl }
theorem K02 {w:World} {Sh:Nat→Prop} (h:Q02 w Sh):Lib.TabIs Tryd.prog w "internal/strconv.uint64pow10" .u64 Lib.pow10Tab:=by
 obtain ⟨_,o,h2,h3⟩:=h.g 2 (by decide)
 obtain ⟨e,fr,rfl⟩:=h3.2 rfl
 have hg:Tryd.prog.globalNamed "internal/strconv.uint64pow10"=some 2:=by kernel_rfl
 simp only [Lib.TabIs,World.var?,hg,Option.bind_some,h2]
theorem K03 {w:World} {Sh:Nat→Prop} (h:Q02 w Sh):∃ ev,w.cell? ⟨0,0,none⟩=some ev∧(ev=.nilIface∨∃ te pe,ev=.iface te pe):=by
 obtain ⟨_,o,h2,h3⟩:=h.g 0 (by decide)
 obtain ⟨c,e,fr,ev,rfl,hc,hev⟩:=h3.1 rfl
 exact ⟨ev,by simp [World.cell?,h2,hc],hev⟩
theorem K04 (x:Int) (r:ByteArray) (h:Q93 x=some r):Q7a Tryd.prog 56 [.int .i64 x] (.str r) []:=by
 unfold Q93 at h
 split at h
 ·rename_i hb
  obtain rfl:=Option.some.inj h
  refine Q7a.ofInt fun w Sh hS=>(Any.strconv_Itoa shM x hb.1 hb.2 w (K02 hS)).mono ?_
  rintro e w' ⟨rfl,k,os,rfl⟩
  exact ⟨_,rfl,⟨rfl,rfl,rfl,by simp [Go.Sort.grow,World.drewN],fun b hb _=>by simp [Go.Sort.grow,World.drewN,Array.getElem?_append,hb]⟩,.str _⟩
 ·cases h
theorem K05 (x:ByteArray) (r:Int × Bool) (h:Q92 x=some r):Q7a Tryd.prog 55 [.str x] (.tup [.int .i64 r.1,.err r.2]) []:=by
 unfold Q92 at h
 split at h
 ·rename_i hl
  have tup2:∀ (w:World) (Sh:Nat→Prop) (n:Int) (b:Bool) (v:Value),Q00 b v=true→Q03 w Sh (.tuple #[.int .i64 n,v]) (.tup [.int .i64 n,.err b]):=fun w Sh n b v hv =>
   .tup _ _ rfl (fun i hi=>by
    match i,hi with
    | 0,_=>exact .int _ _
    | 1,_=>exact .err _ _ hv)
  cases ha:Lib.atoi x.data.toList with
  | some n =>
   rw [ha] at h
   obtain rfl:=Option.some.inj h
   refine Q7a.ofStr fun w Sh hS=>(Any.strconv_Atoi { shC with } x n hl ha w).mono ?_
   rintro e w' ⟨rfl,t,rfl⟩
   exact ⟨_,rfl,Fr.ofBelow (Lib.bytesWorld_below _ _ _),tup2 _ _ _ _ _ rfl⟩
  | none =>
   rw [ha] at h
   obtain rfl:=Option.some.inj h
   refine Q7a.ofStr fun w Sh hS=>?_
   obtain ⟨ev,h1,h2⟩:=K03 hS
   refine (Any.strconv_Atoi_err shC x hl ha ev w h1 h2).mono ?_
   rintro e w' ⟨N,rfl,_,_,hB⟩
   exact ⟨_,rfl,Fr.ofBelow hB,tup2 _ _ _ _ _ rfl⟩
 ·cases h
end Go.Am
