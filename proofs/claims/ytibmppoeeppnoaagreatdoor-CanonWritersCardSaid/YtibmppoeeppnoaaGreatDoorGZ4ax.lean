import Derived.Test.YtibmppoeeppnoaaGreatDoorGZ4aw
import Derived.Shelf.Lay
import Derived.Shelf.Strings.Trim
import Derived.Shelf.Strconv.Atoi
set_option linter.unusedVariables false
set_option linter.unusedSimpArgs false
set_option maxHeartbeats 64000000
namespace Go.Proofs.YtibmppoeeppnoaaGreatDoor
open Go.RowKit Go.Shelf
variable {l:List UInt8}{w:World}
def wu:Go.Shelf.Ren:=⟨fun|161=>222|231=>228|227=>229|233=>230|235=>231|228=>238|197=>239|151=>240|260=>249|152=>250|137=>255|119=>256|224=>257|225=>258|217=>261|266=>262|n=>n,fun|9=>9|4=>4|3=>3|5=>5|117=>379|116=>378|0=>0|124=>382|105=>374|21=>21|119=>399|46=>175|139=>402|138=>401|n=>n,fun|3=>23|4=>24|n=>n⟩
theorem Fc:Go.Proofs.Lays.n161 Tryz.prog wu:={
 mixed:=by kernel_rfl
 f119:=Tryz.func256.trans (congrArg some (by kernel_rfl))
 f137:=Tryz.func255.trans (congrArg some (by kernel_rfl))
 f151:=Tryz.func240.trans (congrArg some (by kernel_rfl))
 f152:=Tryz.func250.trans (congrArg some (by kernel_rfl))
 f161:=Tryz.func222.trans (congrArg some (by kernel_rfl))
 f197:=Tryz.func239.trans (congrArg some (by kernel_rfl))
 f217:=Tryz.func261.trans (congrArg some (by kernel_rfl))
 f224:=Tryz.func257.trans (congrArg some (by kernel_rfl))
 f225:=Tryz.func258.trans (congrArg some (by kernel_rfl))
 f227:=Tryz.func229.trans (congrArg some (by kernel_rfl))
 f228:=Tryz.func238.trans (congrArg some (by kernel_rfl))
 f231:=Tryz.func228.trans (congrArg some (by kernel_rfl))
 f233:=Tryz.func230.trans (congrArg some (by kernel_rfl))
 f235:=Tryz.func231.trans (congrArg some (by kernel_rfl))
 f260:=Tryz.func249.trans (congrArg some (by kernel_rfl))
 f266:=Tryz.func262.trans (congrArg some (by kernel_rfl))
 t0:=Tryz.underlying0
 a0:=Tryz.isAgg0
 z0:=Tryz.sizeOf0
 v0:=Tryz.zeroValue0
 t3:=Tryz.underlying3
 a3:=Tryz.isAgg3
 z3:=Tryz.sizeOf3
 v3:=Tryz.zeroValue3
 t4:=Tryz.underlying4
 a4:=Tryz.isAgg4
 z4:=Tryz.sizeOf4
 v4:=Tryz.zeroValue4
 t5:=Tryz.underlying5
 a5:=Tryz.isAgg5
 z5:=Tryz.sizeOf5
 v5:=Tryz.zeroValue5
 t9:=Tryz.underlying9
 a9:=Tryz.isAgg9
 z9:=Tryz.sizeOf9
 v9:=Tryz.zeroValue9
 t21:=Tryz.underlying21
 a21:=Tryz.isAgg21
 z21:=Tryz.sizeOf21
 v21:=Tryz.zeroValue21
 t46:=Tryz.underlying175
 a46:=Tryz.isAgg175
 z46:=Tryz.sizeOf175
 v46:=Tryz.zeroValue175
 t105:=Tryz.underlying374
 a105:=Tryz.isAgg374
 z105:=Tryz.sizeOf374
 v105:=Tryz.zeroValue374
 t116:=Tryz.underlying378
 a116:=Tryz.isAgg378
 z116:=Tryz.sizeOf378
 t117:=Tryz.underlying379
 a117:=Tryz.isAgg379
 z117:=Tryz.sizeOf379
 v117:=Tryz.zeroValue379
 t119:=Tryz.underlying399
 a119:=Tryz.isAgg399
 z119:=Tryz.sizeOf399
 t124:=Tryz.underlying382
 a124:=Tryz.isAgg382
 z124:=Tryz.sizeOf382
 v124:=Tryz.zeroValue382
 t138:=Tryz.underlying401
 a138:=Tryz.isAgg401
 z138:=Tryz.sizeOf401
 v138:=Tryz.zeroValue401
 t139:=Tryz.underlying402
 a139:=Tryz.isAgg402
 z139:=Tryz.sizeOf402
 v139:=Tryz.zeroValue402
 g3:=by kernel_rfl
 g4:=by kernel_rfl
}
def vZ:Go.Shelf.Ren:=⟨fun|162=>223|232=>232|227=>229|234=>233|236=>234|228=>238|271=>241|151=>240|120=>251|197=>239|152=>250|260=>249|137=>255|119=>256|224=>257|225=>258|217=>261|266=>262|n=>n,fun|9=>9|4=>4|3=>3|5=>5|117=>379|116=>378|0=>0|124=>382|21=>21|105=>374|46=>175|119=>399|139=>402|138=>401|n=>n,fun|3=>23|4=>24|n=>n⟩
theorem FM:Go.Proofs.Lays.n162 Tryz.prog vZ:={
 mixed:=by kernel_rfl
 f119:=Tryz.func256.trans (congrArg some (by kernel_rfl))
 f120:=Tryz.func251.trans (congrArg some (by kernel_rfl))
 f137:=Tryz.func255.trans (congrArg some (by kernel_rfl))
 f151:=Tryz.func240.trans (congrArg some (by kernel_rfl))
 f152:=Tryz.func250.trans (congrArg some (by kernel_rfl))
 f162:=Tryz.func223.trans (congrArg some (by kernel_rfl))
 f197:=Tryz.func239.trans (congrArg some (by kernel_rfl))
 f217:=Tryz.func261.trans (congrArg some (by kernel_rfl))
 f224:=Tryz.func257.trans (congrArg some (by kernel_rfl))
 f225:=Tryz.func258.trans (congrArg some (by kernel_rfl))
 f227:=Tryz.func229.trans (congrArg some (by kernel_rfl))
 f228:=Tryz.func238.trans (congrArg some (by kernel_rfl))
 f232:=Tryz.func232.trans (congrArg some (by kernel_rfl))
 f234:=Tryz.func233.trans (congrArg some (by kernel_rfl))
 f236:=Tryz.func234.trans (congrArg some (by kernel_rfl))
 f260:=Tryz.func249.trans (congrArg some (by kernel_rfl))
 f266:=Tryz.func262.trans (congrArg some (by kernel_rfl))
 f271:=Tryz.func241.trans (congrArg some (by kernel_rfl))
 t0:=Tryz.underlying0
 a0:=Tryz.isAgg0
 z0:=Tryz.sizeOf0
 v0:=Tryz.zeroValue0
 t3:=Tryz.underlying3
 a3:=Tryz.isAgg3
 z3:=Tryz.sizeOf3
 v3:=Tryz.zeroValue3
 t4:=Tryz.underlying4
 a4:=Tryz.isAgg4
 z4:=Tryz.sizeOf4
 v4:=Tryz.zeroValue4
 t5:=Tryz.underlying5
 a5:=Tryz.isAgg5
 z5:=Tryz.sizeOf5
 v5:=Tryz.zeroValue5
 t9:=Tryz.underlying9
 a9:=Tryz.isAgg9
 z9:=Tryz.sizeOf9
 v9:=Tryz.zeroValue9
 t21:=Tryz.underlying21
 a21:=Tryz.isAgg21
 z21:=Tryz.sizeOf21
 v21:=Tryz.zeroValue21
 t46:=Tryz.underlying175
 a46:=Tryz.isAgg175
 z46:=Tryz.sizeOf175
 v46:=Tryz.zeroValue175
 t105:=Tryz.underlying374
 a105:=Tryz.isAgg374
 z105:=Tryz.sizeOf374
 v105:=Tryz.zeroValue374
 t116:=Tryz.underlying378
 a116:=Tryz.isAgg378
 z116:=Tryz.sizeOf378
 t117:=Tryz.underlying379
 a117:=Tryz.isAgg379
 z117:=Tryz.sizeOf379
 v117:=Tryz.zeroValue379
 t119:=Tryz.underlying399
 a119:=Tryz.isAgg399
 z119:=Tryz.sizeOf399
 t124:=Tryz.underlying382
 a124:=Tryz.isAgg382
 z124:=Tryz.sizeOf382
 v124:=Tryz.zeroValue382
 t138:=Tryz.underlying401
 a138:=Tryz.isAgg401
 z138:=Tryz.sizeOf401
 v138:=Tryz.zeroValue401
 t139:=Tryz.underlying402
 a139:=Tryz.isAgg402
 z139:=Tryz.sizeOf402
 v139:=Tryz.zeroValue402
 g3:=by kernel_rfl
 g4:=by kernel_rfl
}
def rg:Go.Shelf.Ren:=⟨fun|172=>224|244=>235|245=>236|247=>242|279=>243|280=>244|281=>245|282=>246|287=>252|316=>253|171=>65|205=>254|321=>259|322=>260|243=>86|246=>116|283=>157|284=>158|285=>159|286=>160|129=>126|317=>187|318=>188|319=>189|320=>190|337=>202|338=>203|n=>n,fun|9=>9|3=>3|75=>36|76=>173|4=>4|5=>5|167=>386|37=>22|0=>0|85=>387|2=>2|168=>389|53=>250|175=>394|46=>175|210=>398|127=>405|145=>408|143=>406|21=>21|171=>296|173=>298|212=>327|51=>248|20=>20|213=>328|232=>361|233=>362|80=>121|n=>n,fun|15=>21|16=>22|17=>9|18=>14|19=>15|n=>n⟩
theorem AF:Go.Proofs.Lays.n172 Tryz.prog rg:={
 mixed:=by kernel_rfl
 f129:=Tryz.func126.trans (congrArg some (by kernel_rfl))
 f171:=Tryz.func65.trans (congrArg some (by kernel_rfl))
 f172:=Tryz.func224.trans (congrArg some (by kernel_rfl))
 f205:=Tryz.func254.trans (congrArg some (by kernel_rfl))
 f243:=Tryz.func86.trans (congrArg some (by kernel_rfl))
 f244:=Tryz.func235.trans (congrArg some (by kernel_rfl))
 f245:=Tryz.func236.trans (congrArg some (by kernel_rfl))
 f246:=Tryz.func116.trans (congrArg some (by kernel_rfl))
 f247:=Tryz.func242.trans (congrArg some (by kernel_rfl))
 f279:=Tryz.func243.trans (congrArg some (by kernel_rfl))
 f280:=Tryz.func244.trans (congrArg some (by kernel_rfl))
 f281:=Tryz.func245.trans (congrArg some (by kernel_rfl))
 f282:=Tryz.func246.trans (congrArg some (by kernel_rfl))
 f283:=Tryz.func157.trans (congrArg some (by kernel_rfl))
 f284:=Tryz.func158.trans (congrArg some (by kernel_rfl))
 f285:=Tryz.func159.trans (congrArg some (by kernel_rfl))
 f286:=Tryz.func160.trans (congrArg some (by kernel_rfl))
 f287:=Tryz.func252.trans (congrArg some (by kernel_rfl))
 f316:=Tryz.func253.trans (congrArg some (by kernel_rfl))
 f317:=Tryz.func187.trans (congrArg some (by kernel_rfl))
 f318:=Tryz.func188.trans (congrArg some (by kernel_rfl))
 f319:=Tryz.func189.trans (congrArg some (by kernel_rfl))
 f320:=Tryz.func190.trans (congrArg some (by kernel_rfl))
 f321:=Tryz.func259.trans (congrArg some (by kernel_rfl))
 f322:=Tryz.func260.trans (congrArg some (by kernel_rfl))
 f337:=Tryz.func202.trans (congrArg some (by kernel_rfl))
 f338:=Tryz.func203.trans (congrArg some (by kernel_rfl))
 t0:=Tryz.underlying0
 a0:=Tryz.isAgg0
 z0:=Tryz.sizeOf0
 v0:=Tryz.zeroValue0
 t2:=Tryz.underlying2
 a2:=Tryz.isAgg2
 z2:=Tryz.sizeOf2
 v2:=Tryz.zeroValue2
 t3:=Tryz.underlying3
 a3:=Tryz.isAgg3
 z3:=Tryz.sizeOf3
 v3:=Tryz.zeroValue3
 t4:=Tryz.underlying4
 a4:=Tryz.isAgg4
 z4:=Tryz.sizeOf4
 v4:=Tryz.zeroValue4
 t5:=Tryz.underlying5
 a5:=Tryz.isAgg5
 z5:=Tryz.sizeOf5
 v5:=Tryz.zeroValue5
 t9:=Tryz.underlying9
 a9:=Tryz.isAgg9
 z9:=Tryz.sizeOf9
 v9:=Tryz.zeroValue9
 t20:=Tryz.underlying20
 a20:=Tryz.isAgg20
 z20:=Tryz.sizeOf20
 v20:=Tryz.zeroValue20
 t21:=Tryz.underlying21
 a21:=Tryz.isAgg21
 z21:=Tryz.sizeOf21
 v21:=Tryz.zeroValue21
 t37:=Tryz.underlying22
 a37:=Tryz.isAgg22
 z37:=Tryz.sizeOf22
 v37:=Tryz.zeroValue22
 t46:=Tryz.underlying175
 a46:=Tryz.isAgg175
 z46:=Tryz.sizeOf175
 v46:=Tryz.zeroValue175
 t51:=Tryz.underlying248
 a51:=Tryz.isAgg248
 z51:=Tryz.sizeOf248
 v51:=Tryz.zeroValue248
 t53:=Tryz.underlying250
 a53:=Tryz.isAgg250
 z53:=Tryz.sizeOf250
 v53:=Tryz.zeroValue250
 t75:=Tryz.underlying36
 a75:=Tryz.isAgg36
 z75:=Tryz.sizeOf36
 v75:=Tryz.zeroValue36
 t76:=Tryz.underlying173
 a76:=Tryz.isAgg173
 z76:=Tryz.sizeOf173
 v76:=Tryz.zeroValue173
 t85:=Tryz.underlying387
 a85:=Tryz.isAgg387
 z85:=Tryz.sizeOf387
 v85:=Tryz.zeroValue387
 t127:=Tryz.underlying405
 a127:=Tryz.isAgg405
 z127:=Tryz.sizeOf405
 v127:=Tryz.zeroValue405
 t143:=Tryz.underlying406
 a143:=Tryz.isAgg406
 z143:=Tryz.sizeOf406
 v143:=Tryz.zeroValue406
 t145:=Tryz.underlying408
 a145:=Tryz.isAgg408
 z145:=Tryz.sizeOf408
 v145:=Tryz.zeroValue408
 t167:=Tryz.underlying386
 a167:=Tryz.isAgg386
 z167:=Tryz.sizeOf386
 v167:=Tryz.zeroValue386
 t168:=Tryz.underlying389
 a168:=Tryz.isAgg389
 z168:=Tryz.sizeOf389
 v168:=Tryz.zeroValue389
 t171:=Tryz.underlying296
 a171:=Tryz.isAgg296
 z171:=Tryz.sizeOf296
 v171:=Tryz.zeroValue296
 t173:=Tryz.underlying298
 a173:=Tryz.isAgg298
 z173:=Tryz.sizeOf298
 v173:=Tryz.zeroValue298
 t175:=Tryz.underlying394
 a175:=Tryz.isAgg394
 z175:=Tryz.sizeOf394
 v175:=Tryz.zeroValue394
 t210:=Tryz.underlying398
 a210:=Tryz.isAgg398
 z210:=Tryz.sizeOf398
 v210:=Tryz.zeroValue398
 t212:=Tryz.underlying327
 a212:=Tryz.isAgg327
 z212:=Tryz.sizeOf327
 v212:=Tryz.zeroValue327
 t213:=Tryz.underlying328
 a213:=Tryz.isAgg328
 z213:=Tryz.sizeOf328
 t232:=Tryz.underlying361
 a232:=Tryz.isAgg361
 z232:=Tryz.sizeOf361
 v232:=Tryz.zeroValue361
 t233:=Tryz.underlying362
 a233:=Tryz.isAgg362
 z233:=Tryz.sizeOf362
 v233:=Tryz.zeroValue362
 g15:=by kernel_rfl
 g16:=by kernel_rfl
 g17:=by kernel_rfl
 g18:=by kernel_rfl
 g19:=by kernel_rfl
}
theorem kI (s:ByteArray)(w:World):Calls Tryz.prog 222 #[.string s,.string ⟨#[48]⟩] w fun e w'=>e =.returned (.string ⟨(dG s.data.toList).toArray⟩)/\w=w':=
 (Any.strings_TrimLeft_one Fc s 48 (by decide) w).mono fun _ _ ⟨h1,h2⟩=>⟨h1,h2.symm⟩
theorem oZ (s:ByteArray)(hs:s.size<=9223372036854775807)(w:World):Calls Tryz.prog 223 #[.string s,.string ⟨#[48]⟩] w fun e w'=>e =.returned (.string ⟨(nL s.data.toList).toArray⟩)/\w=w':=
 (Any.strings_TrimRight_one FM s 48 (by decide) w hs).mono fun _ _ ⟨h1,h2⟩=>⟨h1,h2.symm⟩
theorem tL:∀ (l:List UInt8) (a:Nat),(∀c∈l,eH c=true)->Lib.decFrom a l=some (l.foldl (fun a c=>a*10+ (c.toNat - 48)) a)
 | [],a,_=>rfl
 |c::l,a,h=>by
  have hd:=h c (by simp);have hv:Lib.digitVal c=some (c.toNat - 48):=by
   have:=ti (p:=fun c=> !eH c||(Lib.digitVal c==some (c.toNat - 48))) (by decide +kernel) c;simpa [hd] using this
  show(match Lib.digitVal c with|some d=>Lib.decFrom (a*10+d) l|none=>none)=_
  rw[hv];exact tL l _ (fun c hc=>h c (Zl _ hc))
theorem CC (h:∀c∈l,eH c=true)(hl:l.length<=12)(w:World):Calls Tryz.prog 224 #[.string ⟨(48::l).toArray⟩] w fun e w'=>e =.returned (.tuple #[.int .i64 (jt l:Nat),.nilIface])/\Below w.heap.size w w':=by
 have ha:Lib.atoi (⟨(48::l).toArray⟩:ByteArray).data.toList=some ((jt l:Nat):Int):=by
  show(Lib.decNat (48::l)).map _=_
  have:Lib.decNat (48::l)=some (jt l):=by
   show Lib.decFrom 0 (48::l)=_
   rw[tL (48::l) 0 (by intro c hc;rcases List.mem_cons.1 hc with rfl|hc;decide;exact h c hc)];rfl
  rw[this];rfl
 refine(Any.strconv_Atoi AF ⟨(48::l).toArray⟩ _ (by show(48::l).length<=18;simp;omega) ha w).mono ?_;rintro e w' ⟨rfl,t,rfl⟩;exact⟨rfl,⟨rfl,rfl,rfl,by rw[Lib.bytesWorld_size];omega,fun k hk=>Lib.bytesWorld_at_old _ _ _ _ hk⟩⟩
theorem j9 (h:∀c∈l,eH c=true):∀c∈dG l,eH c=true:=fun c hc=>h c ((List.dropWhile_sublist _).mem hc)
theorem tN:∀ (l:List UInt8),(∀c∈l,eH c=true)->jt l.reverse<10 ^ l.length
 | [],_=>by decide
 |c::l,h=>by
  have h1:=tN l (fun c hc=>h c (Zl _ hc));have h2:=h c (by simp);unfold eH at h2;simp at h2;rw[List.reverse_cons,ph,List.length_cons,Nat.pow_succ];omega
theorem yz (l:List UInt8)(h:∀c∈l,eH c=true):jt l<10 ^ l.length:=by
 have:=tN l.reverse (fun c hc=>h c (List.mem_reverse.1 hc))
 rwa[List.reverse_reverse,List.length_reverse] at this
theorem Gh (l:List UInt8):(⟨#[48]⟩:ByteArray)++ ⟨l.toArray⟩= ⟨(48::l).toArray⟩:=by
 apply ByteArray.ext
 simp
theorem Ej {t:NS}(hd:∀c∈t.exps,eH c=true): -1099511627776<=fK t/\fK t<=1099511627776:=by
 have h1:=yz _ (j9 hd);unfold fK
 by_cases h:(dG t.exps).length<=12
 ·have h2:10 ^ (dG t.exps).length<=10 ^ 12:=Nat.pow_le_pow_right (by decide) h;simp only[if_pos h]
  split <;> omega
 ·simp only[if_neg h]
  split <;> omega
theorem pH (t:NS)(vd ve:Value)(a3:Bs w ve t.exps)(hd:∀c∈t.exps,eH c=true)(hl:t.exps.length<=1000000000):Calls Tryz.prog 210 #[.agg #[.bool t.neg,.bool t.down,vd,.int .i64 t.part,ve,.int .i64 t.st,.int .i64 t.n]] w fun e w'=>e =.returned (.int .i64 (fK t))/\Below w.heap.size w w':=by
 obtain⟨neg,down,digs,part,exps,st,n⟩:=t
 dsimp only at *
 have hv:=yz _ (j9 hd);have a9:=Qa (fun hl w=>CC (l:=dG exps) (j9 hd) hl w);have hle:(dG exps).length<=exps.length:=(List.dropWhile_sublist _).length_le;have hb:=ac w (.cells #[.bool neg,.bool down,vd,.int .i64 part,ve,.int .i64 st,.int .i64 n] 351);have hc:=aJ (a3.below hb);have Hb:=Qa hb;have a5:fK ⟨neg,down,digs,part,exps,st,n⟩= (if down then -(if(dG exps).length<=12 then((jt (dG exps):Nat):Int) else 1099511627776) else(if(dG exps).length<=12 then((jt (dG exps):Nat):Int) else 1099511627776)):=rfl;rw[a5];clear hb a3 hd a5;have e1:(⟨exps.toArray⟩:ByteArray).data.toList=exps:=rfl;have a4:=Qa (fun w=>kI ⟨exps.toArray⟩ w);rw[e1] at a4;clear e1;generalize dG exps=l at *;have b0:(⟨l.toArray⟩:ByteArray).size=l.length:=rfl;have a2:=Gh l;obtain⟨s,hs⟩:∃s:ByteArray,⟨l.toArray⟩=s:=⟨_,rfl⟩;rw[hs] at b0 a2;have Hs:=Qa hs;have b1:=Qa a2;clear a2;obtain⟨z,hz⟩:∃z:Int,(if l.length<=12 then((jt l:Nat):Int) else 1099511627776)=z:=⟨_,rfl⟩;rw[hz];go_enter Tryz.func210,Tryz.ntmps210;go_wp2_with fail;refine(a4.out _).mono ?_;rintro e w1 ⟨rfl,rfl⟩;rw[Hs.out];clear hs hc
 by_cases h12:l.length<=12
 ·have a0:(s.size:Int)<=12:=by omega
  have b2:jt l<1000000000000:=Nat.lt_of_lt_of_le hv (Nat.pow_le_pow_right (by decide) h12);rw[if_pos h12] at hz;subst hz;go_wp2_with fail;rw[b1.out];refine(a9.out h12 _).mono ?_;rintro e w2 ⟨rfl,a1⟩;have a6:=bt Hb.out a1;have a7:=Qa a6;have c1:w2.cell? ⟨w.heap.size,1,none⟩=some (.bool down):=Zf a1 (aa (Ze w (.cells #[.bool neg,.bool down,vd,.int .i64 part,ve,.int .i64 st,.int .i64 n] 351)) (j:=1) rfl);clear a1 a6
  cases down with
  |true=>
   go_wp2_with fail;go_ret;exact⟨rfl,a7.out⟩
  |false=>
   go_wp2_with fail;go_ret;exact⟨rfl,a7.out⟩
 ·have a0:¬ (s.size:Int)<=12:=by omega
  rw[if_neg h12] at hz;subst hz
  cases down with
  |true=>
   go_wp2_with fail;go_ret;exact⟨rfl,Hb.out⟩
  |false=>
   go_wp2_with fail;go_ret;exact⟨rfl,Hb.out⟩
def Iq:Option Dc->Value->Prop
 |some d,v=>v =.tuple #[.agg #[.bool d.neg,.string d.digits,.int .i64 d.exp],.bool true]
 |none,v=> ∃a b c,v =.tuple #[.agg #[.bool a,.string b,.int .i64 c],.bool false]
theorem Ct:(Tryz.prog.info? 125).map (·.size)=some 3:=by kernel_rfl
theorem gU {fn:Func}{p q:Tmp}(h:fn.results = #[.cell p 125,.tmp q])(tmps:Array Value)(w:World)(g:Nat)(t:TypeId)(d0 d1 d2:Value)(fr:Nat×Nat)
  (hp:tmps.getD p undef =.pointer (some ⟨g,0,none⟩)) (hg:w.heap[g]?=some (.cells #[d0,d1,d2] t fr)):(results fn tmps).run Tryz.prog w =.ok (.tuple #[.agg #[d0,d1,d2],tmps.getD q undef]) w:=by
 have a0:tmps[p]?.getD undef =.pointer (some ⟨g,0,none⟩):=by simpa using hp
 have hl:=run_loadVar_row (P:=Tryz.prog) w g t 125 #[d0,d1,d2] fr _ hg Tryz.underlying125 rfl Ct;simp[results,h,a0,asAddr,hl]
theorem iX {fn:Func}{p q r:Tmp}(h:fn.results = #[.cell p 125,.tmp q,.tmp r])(tmps:Array Value)(w:World)(g:Nat)(t:TypeId)(d0 d1 d2:Value)(fr:Nat×Nat)
  (hp:tmps.getD p undef =.pointer (some ⟨g,0,none⟩)) (hg:w.heap[g]?=some (.cells #[d0,d1,d2] t fr)):(results fn tmps).run Tryz.prog w =.ok (.tuple #[.agg #[d0,d1,d2],tmps.getD q undef,tmps.getD r undef]) w:=by
 have a0:tmps[p]?.getD undef =.pointer (some ⟨g,0,none⟩):=by simpa using hp
 have hl:=run_loadVar_row (P:=Tryz.prog) w g t 125 #[d0,d1,d2] fr _ hg Tryz.underlying125 rfl Ct;simp[results,h,a0,asAddr,hl]
def yq (neg:Bool)(l:List UInt8)(x m:Int)(w:World)(e:Ending)(w':World):Prop:= ∃v,e =.returned v/\Iq (it neg l x m) v/\Below w.heap.size w w'
theorem iS (neg:Bool)(l:List UInt8)(x m:Int)(hl:l.length<=1000000000)(hx: -9223372036854775808<=x/\x<=9223372036854775807)(hm: -1000000000<=m/\m<=1000000000)(w:World):Calls Tryz.prog 209 #[.bool neg,.string ⟨l.toArray⟩,.int .i64 x,.int .i64 m] w (yq neg l x m w):=by
 have hle:(dG l).length<=l.length:=(List.dropWhile_sublist _).length_le;have a0:=Qa (fun w=>kI ⟨l.toArray⟩ w);have e1:(⟨l.toArray⟩:ByteArray).data.toList=l:=rfl;rw[e1] at a0;unfold yq it
 dsimp only
 clear e1;generalize hd:dG l=d at *;have hb:=ac w (.cells #[.bool false,.string es,.int .i64 0] 125);have h0:=Ze w (.cells #[.bool false,.string es,.int .i64 0] 125);have Hb:=Qa hb;have H0:=Qa h0;clear hb h0 hd
 by_cases hde:d = []
 ·subst hde;rw[if_pos rfl];go_enter Tryz.func209,Tryz.ntmps209;go_wp2_with fail;refine(a0.out _).mono ?_;rintro e w1 ⟨rfl,rfl⟩;have h4:=H0.out;go_wp2_with (refine bE h4 ?_);exact Zg (gU Tryz.results209 _ _ w.heap.size 125 _ _ _ (0,0) (by simp) (setRow_heap _ _ _ _ _ _ H0.out)) rfl ⟨_,rfl,rfl,Hb.out.grown (ah ..) Hb.out.size (fun g e=>by cases e;exact Za _)⟩
 ·rw[if_neg hde];have hs:∃s:ByteArray,⟨d.toArray⟩=s/\s.toList.isEmpty=false/\s.size=d.length:=⟨_,rfl,by rw[ByteArray.toList_eq];simpa using hde,rfl⟩;obtain⟨s,a1,b0,a5⟩:=hs;have a2:=Qa (fun w=>oZ s (by omega) w);have e2:s.data.toList=d:=by rw[<-a1]
  rw[e2] at a2;have a9:(nL d).length<=d.length:=by
   unfold nL;have:=(List.dropWhile_sublist (l:=d.reverse) (p:=(· == 48))).length_le;simp only[dG,List.length_reverse] at this ⊢;exact this
  generalize nL d=r at *;have hr:∃q:ByteArray,⟨r.toArray⟩=q/\q.size=r.length:=⟨_,rfl,rfl⟩;obtain⟨q,a7,a4⟩:=hr;rw[a1] at a0;rw[a7] at a2 ⊢;clear a1 a7 e2;rw[<-a5,<-a4];have b4:q.size<=s.size:=by omega
  have b2:s.size<=1000000000:=by omega
  clear a5 a4 a9 hle;generalize hy:oy x=y at *;have b3: -2199023255552<=y/\y<=2199023255552:=by unfold oy at hy;omega
  have b1:max (-2199023255552) (min x 2199023255552)=y:=hy;clear hy;go_enter Tryz.func209,Tryz.ntmps209;go_wp2_with fail;refine(a0.out _).mono ?_;rintro e w1 ⟨rfl,rfl⟩;go_wp2_with fail;refine(a2.out _).mono ?_;rintro e w1 ⟨rfl,rfl⟩;have h4:=H0.out;have s1:IntKind.i64.wrap ((s.size:Int) - q.size)= (s.size:Int) - q.size:=IntWalk.i64_in _ (by omega);have s2:IntKind.i64.wrap (y+m+ ((s.size:Int) - q.size))=y+m+ ((s.size:Int) - q.size):=IntWalk.i64_in _ (by omega)
  by_cases a6: -1000000000<=y+m+ ((s.size:Int) - q.size)
  ·by_cases a3:y+m+ ((s.size:Int) - q.size)<=1000000000
   ·have Hz:=Qa (And.intro a6 a3);go_wp2_with (refine bE h4 ?_);exact Zg (gU Tryz.results209 _ _ w.heap.size 125 _ _ _ (0,0) (by simp) (setRow_heap _ _ _ _ _ _ H0.out)) rfl ⟨_,rfl,by first|rfl|(rw[if_pos Hz.out];rfl),Hb.out.grown (ah ..) Hb.out.size (fun g e=>by cases e;exact Za _)⟩
   ·have Hz:=Qa (show ¬ (-1000000000<=y+m+ ((s.size:Int) - q.size)/\y+m+ ((s.size:Int) - q.size)<=1000000000) from fun h=>a3 h.2);go_wp2_with (refine bE h4 ?_);exact Zg (gU Tryz.results209 _ _ w.heap.size 125 _ _ _ (0,0) (by simp) (setRow_heap _ _ _ _ _ _ H0.out)) rfl ⟨_,rfl,by first|exact⟨_,_,_,rfl⟩|(rw[if_neg Hz.out];exact⟨_,_,_,rfl⟩),Hb.out.grown (ah ..) Hb.out.size (fun g e=>by cases e;exact Za _)⟩
  ·have Hz:=Qa (show ¬ (-1000000000<=y+m+ ((s.size:Int) - q.size)/\y+m+ ((s.size:Int) - q.size)<=1000000000) from fun h=>a6 h.1);go_wp2_with (refine bE h4 ?_);exact Zg (gU Tryz.results209 _ _ w.heap.size 125 _ _ _ (0,0) (by simp) (setRow_heap _ _ _ _ _ _ H0.out)) rfl ⟨_,rfl,by first|exact⟨_,_,_,rfl⟩|(rw[if_neg Hz.out];exact⟨_,_,_,rfl⟩),Hb.out.grown (ah ..) Hb.out.size (fun g e=>by cases e;exact Za _)⟩
