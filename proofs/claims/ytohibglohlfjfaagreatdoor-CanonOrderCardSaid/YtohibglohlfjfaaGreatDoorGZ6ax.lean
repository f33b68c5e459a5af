import Derived.Test.YtohibglohlfjfaaGreatDoorGZ6aw
import Derived.Shelf.Lay
import Derived.Shelf.Strings.Trim
import Derived.Shelf.Strconv.Atoi
set_option linter.unusedVariables false
set_option linter.unusedSimpArgs false
set_option maxHeartbeats 64000000
namespace Go.Proofs.YtohibglohlfjfaaGreatDoor
open Go.RowKit Go.Shelf
variable {l:List UInt8}{w:World}
def vS:Go.Shelf.Ren:=⟨fun|161=>227|231=>233|227=>234|233=>235|235=>236|228=>243|197=>244|151=>245|260=>254|152=>255|137=>260|119=>261|224=>262|225=>263|217=>266|266=>267|n=>n,fun|9=>9|4=>4|3=>3|5=>5|117=>382|116=>381|0=>0|124=>385|105=>377|21=>21|119=>402|46=>176|139=>405|138=>404|n=>n,fun|3=>23|4=>24|n=>n⟩
theorem Id:Go.Proofs.Lays.n161 Tryz.prog vS:={
 mixed:=by kernel_rfl
 f119:=Tryz.func261.trans (congrArg some (by kernel_rfl))
 f137:=Tryz.func260.trans (congrArg some (by kernel_rfl))
 f151:=Tryz.func245.trans (congrArg some (by kernel_rfl))
 f152:=Tryz.func255.trans (congrArg some (by kernel_rfl))
 f161:=Tryz.func227.trans (congrArg some (by kernel_rfl))
 f197:=Tryz.func244.trans (congrArg some (by kernel_rfl))
 f217:=Tryz.func266.trans (congrArg some (by kernel_rfl))
 f224:=Tryz.func262.trans (congrArg some (by kernel_rfl))
 f225:=Tryz.func263.trans (congrArg some (by kernel_rfl))
 f227:=Tryz.func234.trans (congrArg some (by kernel_rfl))
 f228:=Tryz.func243.trans (congrArg some (by kernel_rfl))
 f231:=Tryz.func233.trans (congrArg some (by kernel_rfl))
 f233:=Tryz.func235.trans (congrArg some (by kernel_rfl))
 f235:=Tryz.func236.trans (congrArg some (by kernel_rfl))
 f260:=Tryz.func254.trans (congrArg some (by kernel_rfl))
 f266:=Tryz.func267.trans (congrArg some (by kernel_rfl))
 t0:=Tryz.underlying0
 a0:=Tryz.isAgg0
 z0:=Tryz.sizeOf0
 v0:=Tryz.zeroValue0
 t3:=Tryz.underlying3
 a3:=Tryz.isAgg3
 z3:=Tryz.sizeOf3
 v3:=Tryz.zeroValue3
 t4:=Tryz.underlying4
 a4:=Tryz.isAgg4
 z4:=Tryz.sizeOf4
 v4:=Tryz.zeroValue4
 t5:=Tryz.underlying5
 a5:=Tryz.isAgg5
 z5:=Tryz.sizeOf5
 v5:=Tryz.zeroValue5
 t9:=Tryz.underlying9
 a9:=Tryz.isAgg9
 z9:=Tryz.sizeOf9
 v9:=Tryz.zeroValue9
 t21:=Tryz.underlying21
 a21:=Tryz.isAgg21
 z21:=Tryz.sizeOf21
 v21:=Tryz.zeroValue21
 t46:=Tryz.underlying176
 a46:=Tryz.isAgg176
 z46:=Tryz.sizeOf176
 v46:=Tryz.zeroValue176
 t105:=Tryz.underlying377
 a105:=Tryz.isAgg377
 z105:=Tryz.sizeOf377
 v105:=Tryz.zeroValue377
 t116:=Tryz.underlying381
 a116:=Tryz.isAgg381
 z116:=Tryz.sizeOf381
 t117:=Tryz.underlying382
 a117:=Tryz.isAgg382
 z117:=Tryz.sizeOf382
 v117:=Tryz.zeroValue382
 t119:=Tryz.underlying402
 a119:=Tryz.isAgg402
 z119:=Tryz.sizeOf402
 t124:=Tryz.underlying385
 a124:=Tryz.isAgg385
 z124:=Tryz.sizeOf385
 v124:=Tryz.zeroValue385
 t138:=Tryz.underlying404
 a138:=Tryz.isAgg404
 z138:=Tryz.sizeOf404
 v138:=Tryz.zeroValue404
 t139:=Tryz.underlying405
 a139:=Tryz.isAgg405
 z139:=Tryz.sizeOf405
 v139:=Tryz.zeroValue405
 g3:=by kernel_rfl
 g4:=by kernel_rfl
}
def wI:Go.Shelf.Ren:=⟨fun|162=>228|232=>237|227=>234|234=>238|236=>239|228=>243|271=>246|151=>245|120=>256|197=>244|152=>255|260=>254|137=>260|119=>261|224=>262|225=>263|217=>266|266=>267|n=>n,fun|9=>9|4=>4|3=>3|5=>5|117=>382|116=>381|0=>0|124=>385|21=>21|105=>377|46=>176|119=>402|139=>405|138=>404|n=>n,fun|3=>23|4=>24|n=>n⟩
theorem Ib:Go.Proofs.Lays.n162 Tryz.prog wI:={
 mixed:=by kernel_rfl
 f119:=Tryz.func261.trans (congrArg some (by kernel_rfl))
 f120:=Tryz.func256.trans (congrArg some (by kernel_rfl))
 f137:=Tryz.func260.trans (congrArg some (by kernel_rfl))
 f151:=Tryz.func245.trans (congrArg some (by kernel_rfl))
 f152:=Tryz.func255.trans (congrArg some (by kernel_rfl))
 f162:=Tryz.func228.trans (congrArg some (by kernel_rfl))
 f197:=Tryz.func244.trans (congrArg some (by kernel_rfl))
 f217:=Tryz.func266.trans (congrArg some (by kernel_rfl))
 f224:=Tryz.func262.trans (congrArg some (by kernel_rfl))
 f225:=Tryz.func263.trans (congrArg some (by kernel_rfl))
 f227:=Tryz.func234.trans (congrArg some (by kernel_rfl))
 f228:=Tryz.func243.trans (congrArg some (by kernel_rfl))
 f232:=Tryz.func237.trans (congrArg some (by kernel_rfl))
 f234:=Tryz.func238.trans (congrArg some (by kernel_rfl))
 f236:=Tryz.func239.trans (congrArg some (by kernel_rfl))
 f260:=Tryz.func254.trans (congrArg some (by kernel_rfl))
 f266:=Tryz.func267.trans (congrArg some (by kernel_rfl))
 f271:=Tryz.func246.trans (congrArg some (by kernel_rfl))
 t0:=Tryz.underlying0
 a0:=Tryz.isAgg0
 z0:=Tryz.sizeOf0
 v0:=Tryz.zeroValue0
 t3:=Tryz.underlying3
 a3:=Tryz.isAgg3
 z3:=Tryz.sizeOf3
 v3:=Tryz.zeroValue3
 t4:=Tryz.underlying4
 a4:=Tryz.isAgg4
 z4:=Tryz.sizeOf4
 v4:=Tryz.zeroValue4
 t5:=Tryz.underlying5
 a5:=Tryz.isAgg5
 z5:=Tryz.sizeOf5
 v5:=Tryz.zeroValue5
 t9:=Tryz.underlying9
 a9:=Tryz.isAgg9
 z9:=Tryz.sizeOf9
 v9:=Tryz.zeroValue9
 t21:=Tryz.underlying21
 a21:=Tryz.isAgg21
 z21:=Tryz.sizeOf21
 v21:=Tryz.zeroValue21
 t46:=Tryz.underlying176
 a46:=Tryz.isAgg176
 z46:=Tryz.sizeOf176
 v46:=Tryz.zeroValue176
 t105:=Tryz.underlying377
 a105:=Tryz.isAgg377
 z105:=Tryz.sizeOf377
 v105:=Tryz.zeroValue377
 t116:=Tryz.underlying381
 a116:=Tryz.isAgg381
 z116:=Tryz.sizeOf381
 t117:=Tryz.underlying382
 a117:=Tryz.isAgg382
 z117:=Tryz.sizeOf382
 v117:=Tryz.zeroValue382
 t119:=Tryz.underlying402
 a119:=Tryz.isAgg402
 z119:=Tryz.sizeOf402
 t124:=Tryz.underlying385
 a124:=Tryz.isAgg385
 z124:=Tryz.sizeOf385
 v124:=Tryz.zeroValue385
 t138:=Tryz.underlying404
 a138:=Tryz.isAgg404
 z138:=Tryz.sizeOf404
 v138:=Tryz.zeroValue404
 t139:=Tryz.underlying405
 a139:=Tryz.isAgg405
 z139:=Tryz.sizeOf405
 v139:=Tryz.zeroValue405
 g3:=by kernel_rfl
 g4:=by kernel_rfl
}
def qk:Go.Shelf.Ren:=⟨fun|172=>229|244=>240|245=>241|247=>247|279=>248|280=>249|281=>250|282=>251|287=>257|316=>258|171=>78|205=>259|321=>264|322=>265|243=>106|246=>146|283=>178|284=>179|285=>180|286=>181|129=>129|317=>198|318=>199|319=>200|320=>201|337=>214|338=>215|n=>n,fun|9=>9|3=>3|75=>40|76=>174|4=>4|5=>5|167=>389|37=>22|0=>0|85=>390|2=>2|168=>392|53=>252|175=>397|46=>176|210=>401|127=>408|145=>411|143=>409|21=>21|171=>315|173=>317|212=>344|51=>250|20=>20|213=>345|232=>374|233=>375|80=>138|n=>n,fun|15=>21|16=>22|17=>11|18=>16|19=>17|n=>n⟩
theorem CN:Go.Proofs.Lays.n172 Tryz.prog qk:={
 mixed:=by kernel_rfl
 f129:=Tryz.func129.trans (congrArg some (by kernel_rfl))
 f171:=Tryz.func78.trans (congrArg some (by kernel_rfl))
 f172:=Tryz.func229.trans (congrArg some (by kernel_rfl))
 f205:=Tryz.func259.trans (congrArg some (by kernel_rfl))
 f243:=Tryz.func106.trans (congrArg some (by kernel_rfl))
 f244:=Tryz.func240.trans (congrArg some (by kernel_rfl))
 f245:=Tryz.func241.trans (congrArg some (by kernel_rfl))
 f246:=Tryz.func146.trans (congrArg some (by kernel_rfl))
 f247:=Tryz.func247.trans (congrArg some (by kernel_rfl))
 f279:=Tryz.func248.trans (congrArg some (by kernel_rfl))
 f280:=Tryz.func249.trans (congrArg some (by kernel_rfl))
 f281:=Tryz.func250.trans (congrArg some (by kernel_rfl))
 f282:=Tryz.func251.trans (congrArg some (by kernel_rfl))
 f283:=Tryz.func178.trans (congrArg some (by kernel_rfl))
 f284:=Tryz.func179.trans (congrArg some (by kernel_rfl))
 f285:=Tryz.func180.trans (congrArg some (by kernel_rfl))
 f286:=Tryz.func181.trans (congrArg some (by kernel_rfl))
 f287:=Tryz.func257.trans (congrArg some (by kernel_rfl))
 f316:=Tryz.func258.trans (congrArg some (by kernel_rfl))
 f317:=Tryz.func198.trans (congrArg some (by kernel_rfl))
 f318:=Tryz.func199.trans (congrArg some (by kernel_rfl))
 f319:=Tryz.func200.trans (congrArg some (by kernel_rfl))
 f320:=Tryz.func201.trans (congrArg some (by kernel_rfl))
 f321:=Tryz.func264.trans (congrArg some (by kernel_rfl))
 f322:=Tryz.func265.trans (congrArg some (by kernel_rfl))
 f337:=Tryz.func214.trans (congrArg some (by kernel_rfl))
 f338:=Tryz.func215.trans (congrArg some (by kernel_rfl))
 t0:=Tryz.underlying0
 a0:=Tryz.isAgg0
 z0:=Tryz.sizeOf0
 v0:=Tryz.zeroValue0
 t2:=Tryz.underlying2
 a2:=Tryz.isAgg2
 z2:=Tryz.sizeOf2
 v2:=Tryz.zeroValue2
 t3:=Tryz.underlying3
 a3:=Tryz.isAgg3
 z3:=Tryz.sizeOf3
 v3:=Tryz.zeroValue3
 t4:=Tryz.underlying4
 a4:=Tryz.isAgg4
 z4:=Tryz.sizeOf4
 v4:=Tryz.zeroValue4
 t5:=Tryz.underlying5
 a5:=Tryz.isAgg5
 z5:=Tryz.sizeOf5
 v5:=Tryz.zeroValue5
 t9:=Tryz.underlying9
 a9:=Tryz.isAgg9
 z9:=Tryz.sizeOf9
 v9:=Tryz.zeroValue9
 t20:=Tryz.underlying20
 a20:=Tryz.isAgg20
 z20:=Tryz.sizeOf20
 v20:=Tryz.zeroValue20
 t21:=Tryz.underlying21
 a21:=Tryz.isAgg21
 z21:=Tryz.sizeOf21
 v21:=Tryz.zeroValue21
 t37:=Tryz.underlying22
 a37:=Tryz.isAgg22
 z37:=Tryz.sizeOf22
 v37:=Tryz.zeroValue22
 t46:=Tryz.underlying176
 a46:=Tryz.isAgg176
 z46:=Tryz.sizeOf176
 v46:=Tryz.zeroValue176
 t51:=Tryz.underlying250
 a51:=Tryz.isAgg250
 z51:=Tryz.sizeOf250
 v51:=Tryz.zeroValue250
 t53:=Tryz.underlying252
 a53:=Tryz.isAgg252
 z53:=Tryz.sizeOf252
 v53:=Tryz.zeroValue252
 t75:=Tryz.underlying40
 a75:=Tryz.isAgg40
 z75:=Tryz.sizeOf40
 v75:=Tryz.zeroValue40
 t76:=Tryz.underlying174
 a76:=Tryz.isAgg174
 z76:=Tryz.sizeOf174
 v76:=Tryz.zeroValue174
 t85:=Tryz.underlying390
 a85:=Tryz.isAgg390
 z85:=Tryz.sizeOf390
 v85:=Tryz.zeroValue390
 t127:=Tryz.underlying408
 a127:=Tryz.isAgg408
 z127:=Tryz.sizeOf408
 v127:=Tryz.zeroValue408
 t143:=Tryz.underlying409
 a143:=Tryz.isAgg409
 z143:=Tryz.sizeOf409
 v143:=Tryz.zeroValue409
 t145:=Tryz.underlying411
 a145:=Tryz.isAgg411
 z145:=Tryz.sizeOf411
 v145:=Tryz.zeroValue411
 t167:=Tryz.underlying389
 a167:=Tryz.isAgg389
 z167:=Tryz.sizeOf389
 v167:=Tryz.zeroValue389
 t168:=Tryz.underlying392
 a168:=Tryz.isAgg392
 z168:=Tryz.sizeOf392
 v168:=Tryz.zeroValue392
 t171:=Tryz.underlying315
 a171:=Tryz.isAgg315
 z171:=Tryz.sizeOf315
 v171:=Tryz.zeroValue315
 t173:=Tryz.underlying317
 a173:=Tryz.isAgg317
 z173:=Tryz.sizeOf317
 v173:=Tryz.zeroValue317
 t175:=Tryz.underlying397
 a175:=Tryz.isAgg397
 z175:=Tryz.sizeOf397
 v175:=Tryz.zeroValue397
 t210:=Tryz.underlying401
 a210:=Tryz.isAgg401
 z210:=Tryz.sizeOf401
 v210:=Tryz.zeroValue401
 t212:=Tryz.underlying344
 a212:=Tryz.isAgg344
 z212:=Tryz.sizeOf344
 v212:=Tryz.zeroValue344
 t213:=Tryz.underlying345
 a213:=Tryz.isAgg345
 z213:=Tryz.sizeOf345
 t232:=Tryz.underlying374
 a232:=Tryz.isAgg374
 z232:=Tryz.sizeOf374
 v232:=Tryz.zeroValue374
 t233:=Tryz.underlying375
 a233:=Tryz.isAgg375
 z233:=Tryz.sizeOf375
 v233:=Tryz.zeroValue375
 g15:=by kernel_rfl
 g16:=by kernel_rfl
 g17:=by kernel_rfl
 g18:=by kernel_rfl
 g19:=by kernel_rfl
}
theorem ky (s:ByteArray)(w:World):Calls Tryz.prog 227 #[.string s,.string ⟨#[48]⟩] w fun e w'=>e =.returned (.string ⟨(dI s.data.toList).toArray⟩)/\w=w':=
 (Any.strings_TrimLeft_one Id s 48 (by decide) w).mono fun _ _ ⟨h1,h2⟩=>⟨h1,h2.symm⟩
theorem o8 (s:ByteArray)(hs:s.size<=9223372036854775807)(w:World):Calls Tryz.prog 228 #[.string s,.string ⟨#[48]⟩] w fun e w'=>e =.returned (.string ⟨(nX s.data.toList).toArray⟩)/\w=w':=
 (Any.strings_TrimRight_one Ib s 48 (by decide) w hs).mono fun _ _ ⟨h1,h2⟩=>⟨h1,h2.symm⟩
theorem sj:∀ (l:List UInt8) (a:Nat),(∀c∈l,eG c=true)->Lib.decFrom a l=some (l.foldl (fun a c=>a*10+ (c.toNat - 48)) a)
 | [],a,_=>rfl
 |c::l,a,h=>by
  have hd:=h c (by simp);have hv:Lib.digitVal c=some (c.toNat - 48):=by
   have:=uM (p:=fun c=> !eG c||(Lib.digitVal c==some (c.toNat - 48))) (by decide +kernel) c;simpa [hd] using this
  show(match Lib.digitVal c with|some d=>Lib.decFrom (a*10+d) l|none=>none)=_
  rw[hv];exact sj l _ (fun c hc=>h c (Zm _ hc))
theorem DS (h:∀c∈l,eG c=true)(hl:l.length<=12)(w:World):Calls Tryz.prog 229 #[.string ⟨(48::l).toArray⟩] w fun e w'=>e =.returned (.tuple #[.int .i64 (jx l:Nat),.nilIface])/\Below w.heap.size w w':=by
 have ha:Lib.atoi (⟨(48::l).toArray⟩:ByteArray).data.toList=some ((jx l:Nat):Int):=by
  show(Lib.decNat (48::l)).map _=_
  have:Lib.decNat (48::l)=some (jx l):=by
   show Lib.decFrom 0 (48::l)=_
   rw[sj (48::l) 0 (by intro c hc;rcases List.mem_cons.1 hc with rfl|hc;decide;exact h c hc)];rfl
  rw[this];rfl
 refine(Any.strconv_Atoi CN ⟨(48::l).toArray⟩ _ (by show(48::l).length<=18;simp;omega) ha w).mono ?_;rintro e w' ⟨rfl,t,rfl⟩;exact⟨rfl,⟨rfl,rfl,rfl,by rw[Lib.bytesWorld_size];omega,fun k hk=>Lib.bytesWorld_at_old _ _ _ _ hk⟩⟩
theorem j9 (h:∀c∈l,eG c=true):∀c∈dI l,eG c=true:=fun c hc=>h c ((List.dropWhile_sublist _).mem hc)
theorem un:∀ (l:List UInt8),(∀c∈l,eG c=true)->jx l.reverse<10 ^ l.length
 | [],_=>by decide
 |c::l,h=>by
  have h1:=un l (fun c hc=>h c (Zm _ hc));have h2:=h c (by simp);unfold eG at h2;simp at h2;rw[List.reverse_cons,pL,List.length_cons,Nat.pow_succ];omega
theorem yS (l:List UInt8)(h:∀c∈l,eG c=true):jx l<10 ^ l.length:=by
 have:=un l.reverse (fun c hc=>h c (List.mem_reverse.1 hc))
 rwa[List.reverse_reverse,List.length_reverse] at this
theorem I0 (l:List UInt8):(⟨#[48]⟩:ByteArray)++ ⟨l.toArray⟩= ⟨(48::l).toArray⟩:=by
 apply ByteArray.ext
 simp
theorem ER {t:NS}(hd:∀c∈t.exps,eG c=true): -1099511627776<=fK t/\fK t<=1099511627776:=by
 have h1:=yS _ (j9 hd);unfold fK
 by_cases h:(dI t.exps).length<=12
 ·have h2:10 ^ (dI t.exps).length<=10 ^ 12:=Nat.pow_le_pow_right (by decide) h;simp only[if_pos h]
  split <;> omega
 ·simp only[if_neg h]
  split <;> omega
theorem pH (t:NS)(vd ve:Value)(a5:Bs w ve t.exps)(hd:∀c∈t.exps,eG c=true)(hl:t.exps.length<=1000000000):Calls Tryz.prog 213 #[.agg #[.bool t.neg,.bool t.down,vd,.int .i64 t.part,ve,.int .i64 t.st,.int .i64 t.n]] w fun e w'=>e =.returned (.int .i64 (fK t))/\Below w.heap.size w w':=by
 obtain⟨neg,down,digs,part,exps,st,n⟩:=t
 dsimp only at *
 have hv:=yS _ (j9 hd);have b0:=Qa (fun hl w=>DS (l:=dI exps) (j9 hd) hl w);have hle:(dI exps).length<=exps.length:=(List.dropWhile_sublist _).length_le;have hb:=ac w (.cells #[.bool neg,.bool down,vd,.int .i64 part,ve,.int .i64 st,.int .i64 n] 354);have hc:=aO (a5.below hb);have Hb:=Qa hb;have a3:fK ⟨neg,down,digs,part,exps,st,n⟩= (if down then -(if(dI exps).length<=12 then((jx (dI exps):Nat):Int) else 1099511627776) else(if(dI exps).length<=12 then((jx (dI exps):Nat):Int) else 1099511627776)):=rfl;rw[a3];clear hb a5 hd a3;have e1:(⟨exps.toArray⟩:ByteArray).data.toList=exps:=rfl;have a6:=Qa (fun w=>ky ⟨exps.toArray⟩ w);rw[e1] at a6;clear e1;generalize dI exps=l at *;have hsz:(⟨l.toArray⟩:ByteArray).size=l.length:=rfl;have a0:=I0 l;obtain⟨s,hs⟩:∃s:ByteArray,⟨l.toArray⟩=s:=⟨_,rfl⟩;rw[hs] at hsz a0;have Hs:=Qa hs;have a9:=Qa a0;clear a0;obtain⟨z,hz⟩:∃z:Int,(if l.length<=12 then((jx l:Nat):Int) else 1099511627776)=z:=⟨_,rfl⟩;rw[hz];go_enter Tryz.func213,Tryz.ntmps213;go_wp2_with fail;refine(a6.out _).mono ?_;rintro e w1 ⟨rfl,rfl⟩;rw[Hs.out];clear hs hc
 by_cases h12:l.length<=12
 ·have a2:(s.size:Int)<=12:=by omega
  have b1:jx l<1000000000000:=Nat.lt_of_lt_of_le hv (Nat.pow_le_pow_right (by decide) h12);rw[if_pos h12] at hz;subst hz;go_wp2_with fail;rw[a9.out];refine(b0.out h12 _).mono ?_;rintro e w2 ⟨rfl,a1⟩;have a4:=bu Hb.out a1;have a7:=Qa a4;have c1:w2.cell? ⟨w.heap.size,1,none⟩=some (.bool down):=Zg a1 (aa (Zf w (.cells #[.bool neg,.bool down,vd,.int .i64 part,ve,.int .i64 st,.int .i64 n] 354)) (j:=1) rfl);clear a1 a4
  cases down with
  |true=>
   go_wp2_with fail;go_ret;exact⟨rfl,a7.out⟩
  |false=>
   go_wp2_with fail;go_ret;exact⟨rfl,a7.out⟩
 ·have a2:¬ (s.size:Int)<=12:=by omega
  rw[if_neg h12] at hz;subst hz
  cases down with
  |true=>
   go_wp2_with fail;go_ret;exact⟨rfl,Hb.out⟩
  |false=>
   go_wp2_with fail;go_ret;exact⟨rfl,Hb.out⟩
def JU:Option Dc->Value->Prop
 |some d,v=>v =.tuple #[.agg #[.bool d.neg,.string d.digits,.int .i64 d.exp],.bool true]
 |none,v=> ∃a b c,v =.tuple #[.agg #[.bool a,.string b,.int .i64 c],.bool false]
theorem CM:(Tryz.prog.info? 110).map (·.size)=some 3:=by kernel_rfl
theorem gY {fn:Func}{p q:Tmp}(h:fn.results = #[.cell p 110,.tmp q])(tmps:Array Value)(w:World)(g:Nat)(t:TypeId)(d0 d1 d2:Value)(fr:Nat×Nat)
  (hp:tmps.getD p undef =.pointer (some ⟨g,0,none⟩)) (hg:w.heap[g]?=some (.cells #[d0,d1,d2] t fr)):(results fn tmps).run Tryz.prog w =.ok (.tuple #[.agg #[d0,d1,d2],tmps.getD q undef]) w:=by
 have a0:tmps[p]?.getD undef =.pointer (some ⟨g,0,none⟩):=by simpa using hp
 have hl:=run_loadVar_row (P:=Tryz.prog) w g t 110 #[d0,d1,d2] fr _ hg Tryz.underlying110 rfl CM;simp[results,h,a0,asAddr,hl]
theorem iC {fn:Func}{p q r:Tmp}(h:fn.results = #[.cell p 110,.tmp q,.tmp r])(tmps:Array Value)(w:World)(g:Nat)(t:TypeId)(d0 d1 d2:Value)(fr:Nat×Nat)
  (hp:tmps.getD p undef =.pointer (some ⟨g,0,none⟩)) (hg:w.heap[g]?=some (.cells #[d0,d1,d2] t fr)):(results fn tmps).run Tryz.prog w =.ok (.tuple #[.agg #[d0,d1,d2],tmps.getD q undef,tmps.getD r undef]) w:=by
 have a0:tmps[p]?.getD undef =.pointer (some ⟨g,0,none⟩):=by simpa using hp
 have hl:=run_loadVar_row (P:=Tryz.prog) w g t 110 #[d0,d1,d2] fr _ hg Tryz.underlying110 rfl CM;simp[results,h,a0,asAddr,hl]
def yR (neg:Bool)(l:List UInt8)(x m:Int)(w:World)(e:Ending)(w':World):Prop:= ∃v,e =.returned v/\JU (it neg l x m) v/\Below w.heap.size w w'
theorem iO (neg:Bool)(l:List UInt8)(x m:Int)(hl:l.length<=1000000000)(hx: -9223372036854775808<=x/\x<=9223372036854775807)(hm: -1000000000<=m/\m<=1000000000)(w:World):Calls Tryz.prog 212 #[.bool neg,.string ⟨l.toArray⟩,.int .i64 x,.int .i64 m] w (yR neg l x m w):=by
 have hle:(dI l).length<=l.length:=(List.dropWhile_sublist _).length_le;have a0:=Qa (fun w=>ky ⟨l.toArray⟩ w);have e1:(⟨l.toArray⟩:ByteArray).data.toList=l:=rfl;rw[e1] at a0;unfold yR it
 dsimp only
 clear e1;generalize hd:dI l=d at *;have hb:=ac w (.cells #[.bool false,.string es,.int .i64 0] 110);have h0:=Zf w (.cells #[.bool false,.string es,.int .i64 0] 110);have Hb:=Qa hb;have H0:=Qa h0;clear hb h0 hd
 by_cases hde:d = []
 ·subst hde;rw[if_pos rfl];go_enter Tryz.func212,Tryz.ntmps212;go_wp2_with fail;refine(a0.out _).mono ?_;rintro e w1 ⟨rfl,rfl⟩;have h4:=H0.out;go_wp2_with (refine bF h4 ?_);exact Zh (gY Tryz.results212 _ _ w.heap.size 110 _ _ _ (0,0) (by simp) (setRow_heap _ _ _ _ _ _ H0.out)) rfl ⟨_,rfl,rfl,Hb.out.grown (ah ..) Hb.out.size (fun g e=>by cases e;exact Zb _)⟩
 ·rw[if_neg hde];have hs:∃s:ByteArray,⟨d.toArray⟩=s/\s.toList.isEmpty=false/\s.size=d.length:=⟨_,rfl,by rw[ByteArray.toList_eq];simpa using hde,rfl⟩;obtain⟨s,a1,b3,a6⟩:=hs;have a2:=Qa (fun w=>o8 s (by omega) w);have e2:s.data.toList=d:=by rw[<-a1]
  rw[e2] at a2;have a9:(nX d).length<=d.length:=by
   unfold nX;have:=(List.dropWhile_sublist (l:=d.reverse) (p:=(· == 48))).length_le;simp only[dI,List.length_reverse] at this ⊢;exact this
  generalize nX d=r at *;have hr:∃q:ByteArray,⟨r.toArray⟩=q/\q.size=r.length:=⟨_,rfl,rfl⟩;obtain⟨q,a7,a5⟩:=hr;rw[a1] at a0;rw[a7] at a2 ⊢;clear a1 a7 e2;rw[<-a6,<-a5];have b4:q.size<=s.size:=by omega
  have b2:s.size<=1000000000:=by omega
  clear a6 a5 a9 hle;generalize hy:oe x=y at *;have b1: -2199023255552<=y/\y<=2199023255552:=by unfold oe at hy;omega
  have b0:max (-2199023255552) (min x 2199023255552)=y:=hy;clear hy;go_enter Tryz.func212,Tryz.ntmps212;go_wp2_with fail;refine(a0.out _).mono ?_;rintro e w1 ⟨rfl,rfl⟩;go_wp2_with fail;refine(a2.out _).mono ?_;rintro e w1 ⟨rfl,rfl⟩;have h4:=H0.out;have s1:IntKind.i64.wrap ((s.size:Int) - q.size)= (s.size:Int) - q.size:=IntWalk.i64_in _ (by omega);have s2:IntKind.i64.wrap (y+m+ ((s.size:Int) - q.size))=y+m+ ((s.size:Int) - q.size):=IntWalk.i64_in _ (by omega)
  by_cases a3: -1000000000<=y+m+ ((s.size:Int) - q.size)
  ·by_cases a4:y+m+ ((s.size:Int) - q.size)<=1000000000
   ·have Hz:=Qa (And.intro a3 a4);go_wp2_with (refine bF h4 ?_);exact Zh (gY Tryz.results212 _ _ w.heap.size 110 _ _ _ (0,0) (by simp) (setRow_heap _ _ _ _ _ _ H0.out)) rfl ⟨_,rfl,by first|rfl|(rw[if_pos Hz.out];rfl),Hb.out.grown (ah ..) Hb.out.size (fun g e=>by cases e;exact Zb _)⟩
   ·have Hz:=Qa (show ¬ (-1000000000<=y+m+ ((s.size:Int) - q.size)/\y+m+ ((s.size:Int) - q.size)<=1000000000) from fun h=>a4 h.2);go_wp2_with (refine bF h4 ?_);exact Zh (gY Tryz.results212 _ _ w.heap.size 110 _ _ _ (0,0) (by simp) (setRow_heap _ _ _ _ _ _ H0.out)) rfl ⟨_,rfl,by first|exact⟨_,_,_,rfl⟩|(rw[if_neg Hz.out];exact⟨_,_,_,rfl⟩),Hb.out.grown (ah ..) Hb.out.size (fun g e=>by cases e;exact Zb _)⟩
  ·have Hz:=Qa (show ¬ (-1000000000<=y+m+ ((s.size:Int) - q.size)/\y+m+ ((s.size:Int) - q.size)<=1000000000) from fun h=>a3 h.1);go_wp2_with (refine bF h4 ?_);exact Zh (gY Tryz.results212 _ _ w.heap.size 110 _ _ _ (0,0) (by simp) (setRow_heap _ _ _ _ _ _ H0.out)) rfl ⟨_,rfl,by first|exact⟨_,_,_,rfl⟩|(rw[if_neg Hz.out];exact⟨_,_,_,rfl⟩),Hb.out.grown (ah ..) Hb.out.size (fun g e=>by cases e;exact Zb _)⟩
