import Derived.Test.YtgkkffeagolnpaaGreatDoorGZ16ai
import Derived.Shelf.Lay
import Derived.Shelf.Strings.Trim
import Derived.Shelf.Strconv.Atoi
set_option linter.unusedVariables false
set_option linter.unusedSimpArgs false
set_option maxHeartbeats 64000000
namespace Go.Proofs.YtgkkffeagolnpaaGreatDoor
open Go.RowKit Go.Shelf
variable {w:World}
def vU:Go.Shelf.Ren:=⟨fun|161=>237|231=>247|227=>248|233=>249|235=>250|228=>258|197=>156|151=>259|260=>179|152=>268|137=>273|119=>274|224=>197|225=>196|217=>195|266=>209|n=>n,fun|9=>9|4=>4|3=>3|5=>5|117=>384|116=>383|0=>0|124=>387|105=>264|21=>21|119=>325|46=>147|139=>328|138=>327|n=>n,fun|3=>15|4=>16|n=>n⟩
theorem Im:Go.Proofs.Lays.n161 Tryz.prog vU:={
 mixed:=by kernel_rfl
 f119:=Tryz.func274.trans (congrArg some (by kernel_rfl))
 f137:=Tryz.func273.trans (congrArg some (by kernel_rfl))
 f151:=Tryz.func259.trans (congrArg some (by kernel_rfl))
 f152:=Tryz.func268.trans (congrArg some (by kernel_rfl))
 f161:=Tryz.func237.trans (congrArg some (by kernel_rfl))
 f197:=Tryz.func156.trans (congrArg some (by kernel_rfl))
 f217:=Tryz.func195.trans (congrArg some (by kernel_rfl))
 f224:=Tryz.func197.trans (congrArg some (by kernel_rfl))
 f225:=Tryz.func196.trans (congrArg some (by kernel_rfl))
 f227:=Tryz.func248.trans (congrArg some (by kernel_rfl))
 f228:=Tryz.func258.trans (congrArg some (by kernel_rfl))
 f231:=Tryz.func247.trans (congrArg some (by kernel_rfl))
 f233:=Tryz.func249.trans (congrArg some (by kernel_rfl))
 f235:=Tryz.func250.trans (congrArg some (by kernel_rfl))
 f260:=Tryz.func179.trans (congrArg some (by kernel_rfl))
 f266:=Tryz.func209.trans (congrArg some (by kernel_rfl))
 t0:=Tryz.underlying0
 a0:=Tryz.isAgg0
 z0:=Tryz.sizeOf0
 v0:=Tryz.zeroValue0
 t3:=Tryz.underlying3
 a3:=Tryz.isAgg3
 z3:=Tryz.sizeOf3
 v3:=Tryz.zeroValue3
 t4:=Tryz.underlying4
 a4:=Tryz.isAgg4
 z4:=Tryz.sizeOf4
 v4:=Tryz.zeroValue4
 t5:=Tryz.underlying5
 a5:=Tryz.isAgg5
 z5:=Tryz.sizeOf5
 v5:=Tryz.zeroValue5
 t9:=Tryz.underlying9
 a9:=Tryz.isAgg9
 z9:=Tryz.sizeOf9
 v9:=Tryz.zeroValue9
 t21:=Tryz.underlying21
 a21:=Tryz.isAgg21
 z21:=Tryz.sizeOf21
 v21:=Tryz.zeroValue21
 t46:=Tryz.underlying147
 a46:=Tryz.isAgg147
 z46:=Tryz.sizeOf147
 v46:=Tryz.zeroValue147
 t105:=Tryz.underlying264
 a105:=Tryz.isAgg264
 z105:=Tryz.sizeOf264
 v105:=Tryz.zeroValue264
 t116:=Tryz.underlying383
 a116:=Tryz.isAgg383
 z116:=Tryz.sizeOf383
 t117:=Tryz.underlying384
 a117:=Tryz.isAgg384
 z117:=Tryz.sizeOf384
 v117:=Tryz.zeroValue384
 t119:=Tryz.underlying325
 a119:=Tryz.isAgg325
 z119:=Tryz.sizeOf325
 t124:=Tryz.underlying387
 a124:=Tryz.isAgg387
 z124:=Tryz.sizeOf387
 v124:=Tryz.zeroValue387
 t138:=Tryz.underlying327
 a138:=Tryz.isAgg327
 z138:=Tryz.sizeOf327
 v138:=Tryz.zeroValue327
 t139:=Tryz.underlying328
 a139:=Tryz.isAgg328
 z139:=Tryz.sizeOf328
 v139:=Tryz.zeroValue328
 g3:=by kernel_rfl
 g4:=by kernel_rfl
}
def uS:Go.Shelf.Ren:=⟨fun|162=>238|232=>251|227=>248|234=>252|236=>253|228=>258|271=>260|151=>259|120=>269|197=>156|152=>268|260=>179|137=>273|119=>274|224=>197|225=>196|217=>195|266=>209|n=>n,fun|9=>9|4=>4|3=>3|5=>5|117=>384|116=>383|0=>0|124=>387|21=>21|105=>264|46=>147|119=>325|139=>328|138=>327|n=>n,fun|3=>15|4=>16|n=>n⟩
theorem Ia:Go.Proofs.Lays.n162 Tryz.prog uS:={
 mixed:=by kernel_rfl
 f119:=Tryz.func274.trans (congrArg some (by kernel_rfl))
 f120:=Tryz.func269.trans (congrArg some (by kernel_rfl))
 f137:=Tryz.func273.trans (congrArg some (by kernel_rfl))
 f151:=Tryz.func259.trans (congrArg some (by kernel_rfl))
 f152:=Tryz.func268.trans (congrArg some (by kernel_rfl))
 f162:=Tryz.func238.trans (congrArg some (by kernel_rfl))
 f197:=Tryz.func156.trans (congrArg some (by kernel_rfl))
 f217:=Tryz.func195.trans (congrArg some (by kernel_rfl))
 f224:=Tryz.func197.trans (congrArg some (by kernel_rfl))
 f225:=Tryz.func196.trans (congrArg some (by kernel_rfl))
 f227:=Tryz.func248.trans (congrArg some (by kernel_rfl))
 f228:=Tryz.func258.trans (congrArg some (by kernel_rfl))
 f232:=Tryz.func251.trans (congrArg some (by kernel_rfl))
 f234:=Tryz.func252.trans (congrArg some (by kernel_rfl))
 f236:=Tryz.func253.trans (congrArg some (by kernel_rfl))
 f260:=Tryz.func179.trans (congrArg some (by kernel_rfl))
 f266:=Tryz.func209.trans (congrArg some (by kernel_rfl))
 f271:=Tryz.func260.trans (congrArg some (by kernel_rfl))
 t0:=Tryz.underlying0
 a0:=Tryz.isAgg0
 z0:=Tryz.sizeOf0
 v0:=Tryz.zeroValue0
 t3:=Tryz.underlying3
 a3:=Tryz.isAgg3
 z3:=Tryz.sizeOf3
 v3:=Tryz.zeroValue3
 t4:=Tryz.underlying4
 a4:=Tryz.isAgg4
 z4:=Tryz.sizeOf4
 v4:=Tryz.zeroValue4
 t5:=Tryz.underlying5
 a5:=Tryz.isAgg5
 z5:=Tryz.sizeOf5
 v5:=Tryz.zeroValue5
 t9:=Tryz.underlying9
 a9:=Tryz.isAgg9
 z9:=Tryz.sizeOf9
 v9:=Tryz.zeroValue9
 t21:=Tryz.underlying21
 a21:=Tryz.isAgg21
 z21:=Tryz.sizeOf21
 v21:=Tryz.zeroValue21
 t46:=Tryz.underlying147
 a46:=Tryz.isAgg147
 z46:=Tryz.sizeOf147
 v46:=Tryz.zeroValue147
 t105:=Tryz.underlying264
 a105:=Tryz.isAgg264
 z105:=Tryz.sizeOf264
 v105:=Tryz.zeroValue264
 t116:=Tryz.underlying383
 a116:=Tryz.isAgg383
 z116:=Tryz.sizeOf383
 t117:=Tryz.underlying384
 a117:=Tryz.isAgg384
 z117:=Tryz.sizeOf384
 v117:=Tryz.zeroValue384
 t119:=Tryz.underlying325
 a119:=Tryz.isAgg325
 z119:=Tryz.sizeOf325
 t124:=Tryz.underlying387
 a124:=Tryz.isAgg387
 z124:=Tryz.sizeOf387
 v124:=Tryz.zeroValue387
 t138:=Tryz.underlying327
 a138:=Tryz.isAgg327
 z138:=Tryz.sizeOf327
 v138:=Tryz.zeroValue327
 t139:=Tryz.underlying328
 a139:=Tryz.isAgg328
 z139:=Tryz.sizeOf328
 v139:=Tryz.zeroValue328
 g3:=by kernel_rfl
 g4:=by kernel_rfl
}
def o1:Go.Shelf.Ren:=⟨fun|172=>239|244=>254|245=>255|247=>261|279=>262|280=>263|281=>264|282=>265|287=>270|316=>271|171=>161|205=>272|321=>275|322=>276|243=>181|246=>201|283=>211|284=>212|285=>213|286=>214|129=>110|317=>230|318=>231|319=>232|320=>233|337=>243|338=>244|n=>n,fun|9=>9|3=>3|75=>30|76=>120|4=>4|5=>5|167=>393|37=>28|0=>0|85=>394|2=>2|168=>396|53=>197|175=>402|46=>147|210=>406|127=>303|145=>410|143=>408|21=>21|171=>348|173=>350|212=>365|51=>195|20=>20|213=>366|232=>390|233=>391|80=>54|n=>n,fun|15=>29|16=>30|17=>21|18=>25|19=>26|n=>n⟩
theorem AZ:Go.Proofs.Lays.n172 Tryz.prog o1:={
 mixed:=by kernel_rfl
 f129:=Tryz.func110.trans (congrArg some (by kernel_rfl))
 f171:=Tryz.func161.trans (congrArg some (by kernel_rfl))
 f172:=Tryz.func239.trans (congrArg some (by kernel_rfl))
 f205:=Tryz.func272.trans (congrArg some (by kernel_rfl))
 f243:=Tryz.func181.trans (congrArg some (by kernel_rfl))
 f244:=Tryz.func254.trans (congrArg some (by kernel_rfl))
 f245:=Tryz.func255.trans (congrArg some (by kernel_rfl))
 f246:=Tryz.func201.trans (congrArg some (by kernel_rfl))
 f247:=Tryz.func261.trans (congrArg some (by kernel_rfl))
 f279:=Tryz.func262.trans (congrArg some (by kernel_rfl))
 f280:=Tryz.func263.trans (congrArg some (by kernel_rfl))
 f281:=Tryz.func264.trans (congrArg some (by kernel_rfl))
 f282:=Tryz.func265.trans (congrArg some (by kernel_rfl))
 f283:=Tryz.func211.trans (congrArg some (by kernel_rfl))
 f284:=Tryz.func212.trans (congrArg some (by kernel_rfl))
 f285:=Tryz.func213.trans (congrArg some (by kernel_rfl))
 f286:=Tryz.func214.trans (congrArg some (by kernel_rfl))
 f287:=Tryz.func270.trans (congrArg some (by kernel_rfl))
 f316:=Tryz.func271.trans (congrArg some (by kernel_rfl))
 f317:=Tryz.func230.trans (congrArg some (by kernel_rfl))
 f318:=Tryz.func231.trans (congrArg some (by kernel_rfl))
 f319:=Tryz.func232.trans (congrArg some (by kernel_rfl))
 f320:=Tryz.func233.trans (congrArg some (by kernel_rfl))
 f321:=Tryz.func275.trans (congrArg some (by kernel_rfl))
 f322:=Tryz.func276.trans (congrArg some (by kernel_rfl))
 f337:=Tryz.func243.trans (congrArg some (by kernel_rfl))
 f338:=Tryz.func244.trans (congrArg some (by kernel_rfl))
 t0:=Tryz.underlying0
 a0:=Tryz.isAgg0
 z0:=Tryz.sizeOf0
 v0:=Tryz.zeroValue0
 t2:=Tryz.underlying2
 a2:=Tryz.isAgg2
 z2:=Tryz.sizeOf2
 v2:=Tryz.zeroValue2
 t3:=Tryz.underlying3
 a3:=Tryz.isAgg3
 z3:=Tryz.sizeOf3
 v3:=Tryz.zeroValue3
 t4:=Tryz.underlying4
 a4:=Tryz.isAgg4
 z4:=Tryz.sizeOf4
 v4:=Tryz.zeroValue4
 t5:=Tryz.underlying5
 a5:=Tryz.isAgg5
 z5:=Tryz.sizeOf5
 v5:=Tryz.zeroValue5
 t9:=Tryz.underlying9
 a9:=Tryz.isAgg9
 z9:=Tryz.sizeOf9
 v9:=Tryz.zeroValue9
 t20:=Tryz.underlying20
 a20:=Tryz.isAgg20
 z20:=Tryz.sizeOf20
 v20:=Tryz.zeroValue20
 t21:=Tryz.underlying21
 a21:=Tryz.isAgg21
 z21:=Tryz.sizeOf21
 v21:=Tryz.zeroValue21
 t37:=Tryz.underlying28
 a37:=Tryz.isAgg28
 z37:=Tryz.sizeOf28
 v37:=Tryz.zeroValue28
 t46:=Tryz.underlying147
 a46:=Tryz.isAgg147
 z46:=Tryz.sizeOf147
 v46:=Tryz.zeroValue147
 t51:=Tryz.underlying195
 a51:=Tryz.isAgg195
 z51:=Tryz.sizeOf195
 v51:=Tryz.zeroValue195
 t53:=Tryz.underlying197
 a53:=Tryz.isAgg197
 z53:=Tryz.sizeOf197
 v53:=Tryz.zeroValue197
 t75:=Tryz.underlying30
 a75:=Tryz.isAgg30
 z75:=Tryz.sizeOf30
 v75:=Tryz.zeroValue30
 t76:=Tryz.underlying120
 a76:=Tryz.isAgg120
 z76:=Tryz.sizeOf120
 v76:=Tryz.zeroValue120
 t85:=Tryz.underlying394
 a85:=Tryz.isAgg394
 z85:=Tryz.sizeOf394
 v85:=Tryz.zeroValue394
 t127:=Tryz.underlying303
 a127:=Tryz.isAgg303
 z127:=Tryz.sizeOf303
 v127:=Tryz.zeroValue303
 t143:=Tryz.underlying408
 a143:=Tryz.isAgg408
 z143:=Tryz.sizeOf408
 v143:=Tryz.zeroValue408
 t145:=Tryz.underlying410
 a145:=Tryz.isAgg410
 z145:=Tryz.sizeOf410
 v145:=Tryz.zeroValue410
 t167:=Tryz.underlying393
 a167:=Tryz.isAgg393
 z167:=Tryz.sizeOf393
 v167:=Tryz.zeroValue393
 t168:=Tryz.underlying396
 a168:=Tryz.isAgg396
 z168:=Tryz.sizeOf396
 v168:=Tryz.zeroValue396
 t171:=Tryz.underlying348
 a171:=Tryz.isAgg348
 z171:=Tryz.sizeOf348
 v171:=Tryz.zeroValue348
 t173:=Tryz.underlying350
 a173:=Tryz.isAgg350
 z173:=Tryz.sizeOf350
 v173:=Tryz.zeroValue350
 t175:=Tryz.underlying402
 a175:=Tryz.isAgg402
 z175:=Tryz.sizeOf402
 v175:=Tryz.zeroValue402
 t210:=Tryz.underlying406
 a210:=Tryz.isAgg406
 z210:=Tryz.sizeOf406
 v210:=Tryz.zeroValue406
 t212:=Tryz.underlying365
 a212:=Tryz.isAgg365
 z212:=Tryz.sizeOf365
 v212:=Tryz.zeroValue365
 t213:=Tryz.underlying366
 a213:=Tryz.isAgg366
 z213:=Tryz.sizeOf366
 t232:=Tryz.underlying390
 a232:=Tryz.isAgg390
 z232:=Tryz.sizeOf390
 v232:=Tryz.zeroValue390
 t233:=Tryz.underlying391
 a233:=Tryz.isAgg391
 z233:=Tryz.sizeOf391
 v233:=Tryz.zeroValue391
 g15:=by kernel_rfl
 g16:=by kernel_rfl
 g17:=by kernel_rfl
 g18:=by kernel_rfl
 g19:=by kernel_rfl
}
theorem jC (s:ByteArray)(w:World):Calls Tryz.prog 237 #[.string s,.string ⟨#[48]⟩] w fun e w'=>e =.returned (.string ⟨(cZ s.data.toList).toArray⟩)/\w=w':=
 (Any.strings_TrimLeft_one Im s 48 (by decide) w).mono fun _ _ ⟨h1,h2⟩=>⟨h1,h2.symm⟩
theorem nj (s:ByteArray)(hs:s.size<=9223372036854775807)(w:World):Calls Tryz.prog 238 #[.string s,.string ⟨#[48]⟩] w fun e w'=>e =.returned (.string ⟨(mg s.data.toList).toArray⟩)/\w=w':=
 (Any.strings_TrimRight_one Ia s 48 (by decide) w hs).mono fun _ _ ⟨h1,h2⟩=>⟨h1,h2.symm⟩
theorem tJ:∀ (l:List UInt8) (a:Nat),(∀c∈l,ef c=true)->Lib.decFrom a l=some (l.foldl (fun a c=>a*10+ (c.toNat - 48)) a)
 | [],a,_=>rfl
 |c::l,a,h=>by
  have hd:=h c (by simp);have hv:Lib.digitVal c=some (c.toNat - 48):=by
   have:=sN (p:=fun c=> !ef c||(Lib.digitVal c==some (c.toNat - 48))) (by decide +kernel) c;simpa [hd] using this
  show(match Lib.digitVal c with|some d=>Lib.decFrom (a*10+d) l|none=>none)=_
  rw[hv];exact tJ l _ (fun c hc=>h c (Zl _ hc))
theorem Dp {l:List UInt8}(h:∀c∈l,ef c=true)(hl:l.length<=12)(w:World):Calls Tryz.prog 239 #[.string ⟨(48::l).toArray⟩] w fun e w'=>e =.returned (.tuple #[.int .i64 (iF l:Nat),.nilIface])/\Below w.heap.size w w':=by
 have ha:Lib.atoi (⟨(48::l).toArray⟩:ByteArray).data.toList=some ((iF l:Nat):Int):=by
  show(Lib.decNat (48::l)).map _=_
  have:Lib.decNat (48::l)=some (iF l):=by
   show Lib.decFrom 0 (48::l)=_
   rw[tJ (48::l) 0 (by intro c hc;rcases List.mem_cons.1 hc with rfl|hc;decide;exact h c hc)];rfl
  rw[this];rfl
 refine(Any.strconv_Atoi AZ ⟨(48::l).toArray⟩ _ (by show(48::l).length<=18;simp;omega) ha w).mono ?_;rintro e w' ⟨rfl,t,rfl⟩;exact⟨rfl,⟨rfl,rfl,rfl,by rw[Lib.bytesWorld_size];omega,fun k hk=>Lib.bytesWorld_at_old _ _ _ _ hk⟩⟩
theorem iZ {l:List UInt8}(h:∀c∈l,ef c=true):∀c∈cZ l,ef c=true:=fun c hc=>h c ((List.dropWhile_sublist _).mem hc)
theorem rB:∀ (l:List UInt8),(∀c∈l,ef c=true)->iF l.reverse<10 ^ l.length
 | [],_=>by decide
 |c::l,h=>by
  have h1:=rB l (fun c hc=>h c (Zl _ hc));have h2:=h c (by simp);unfold ef at h2;simp at h2;rw[List.reverse_cons,nU,List.length_cons,Nat.pow_succ];omega
theorem wQ (l:List UInt8)(h:∀c∈l,ef c=true):iF l<10 ^ l.length:=by
 have:=rB l.reverse (fun c hc=>h c (List.mem_reverse.1 hc))
 rwa[List.reverse_reverse,List.length_reverse] at this
theorem IX (l:List UInt8):(⟨#[48]⟩:ByteArray)++ ⟨l.toArray⟩= ⟨(48::l).toArray⟩:=by
 apply ByteArray.ext
 simp
theorem Fe {t:NS}(hd:∀c∈t.exps,ef c=true): -1099511627776<=eL t/\eL t<=1099511627776:=by
 have h1:=wQ _ (iZ hd);unfold eL
 by_cases h:(cZ t.exps).length<=12
 ·have h2:10 ^ (cZ t.exps).length<=10 ^ 12:=Nat.pow_le_pow_right (by decide) h;simp only[if_pos h]
  split <;> omega
 ·simp only[if_neg h]
  split <;> omega
theorem oa (t:NS)(vd ve:Value)(hve:Bs w ve t.exps)(hd:∀c∈t.exps,ef c=true)(hl:t.exps.length<=1000000000):Calls Tryz.prog 221 #[.agg #[.bool t.neg,.bool t.down,vd,.int .i64 t.part,ve,.int .i64 t.st,.int .i64 t.n]] w fun e w'=>e =.returned (.int .i64 (eL t))/\Below w.heap.size w w':=by
 obtain⟨neg,down,digs,part,exps,st,n⟩:=t
 dsimp only at *
 have hv:=wQ _ (iZ hd);have b0:=Qa (fun hl w=>Dp (l:=cZ exps) (iZ hd) hl w);have hle:(cZ exps).length<=exps.length:=(List.dropWhile_sublist _).length_le;have hb:=aa w (.cells #[.bool neg,.bool down,vd,.int .i64 part,ve,.int .i64 st,.int .i64 n] 355);have hc:=aI (hve.below hb);have Hb:=Qa hb;have a3:eL ⟨neg,down,digs,part,exps,st,n⟩= (if down then -(if(cZ exps).length<=12 then((iF (cZ exps):Nat):Int) else 1099511627776) else(if(cZ exps).length<=12 then((iF (cZ exps):Nat):Int) else 1099511627776)):=rfl;rw[a3];clear hb hve hd a3;have e1:(⟨exps.toArray⟩:ByteArray).data.toList=exps:=rfl;have a4:=Qa (fun w=>jC ⟨exps.toArray⟩ w);rw[e1] at a4;clear e1;generalize cZ exps=l at *;have b1:(⟨l.toArray⟩:ByteArray).size=l.length:=rfl;have a0:=IX l;obtain⟨s,hs⟩:∃s:ByteArray,⟨l.toArray⟩=s:=⟨_,rfl⟩;rw[hs] at b1 a0;have Hs:=Qa hs;have b2:=Qa a0;clear a0;obtain⟨z,hz⟩:∃z:Int,(if l.length<=12 then((iF l:Nat):Int) else 1099511627776)=z:=⟨_,rfl⟩;rw[hz];go_enter Tryz.func221,Tryz.ntmps221;go_wp2_with fail;refine(a4.out _).mono ?_;rintro e w1 ⟨rfl,rfl⟩;rw[Hs.out];clear hs hc
 by_cases h12:l.length<=12
 ·have a1:(s.size:Int)<=12:=by omega
  have b3:iF l<1000000000000:=Nat.lt_of_lt_of_le hv (Nat.pow_le_pow_right (by decide) h12);rw[if_pos h12] at hz;subst hz;go_wp2_with fail;rw[b2.out];refine(b0.out h12 _).mono ?_;rintro e w2 ⟨rfl,a2⟩;have a5:=aj Hb.out a2;have a9:=Qa a5;have c1:w2.cell? ⟨w.heap.size,1,none⟩=some (.bool down):=Zg a2 (ac (Zf w (.cells #[.bool neg,.bool down,vd,.int .i64 part,ve,.int .i64 st,.int .i64 n] 355)) (j:=1) rfl);clear a2 a5
  cases down with
  |true=>
   go_wp2_with fail;go_ret;exact⟨rfl,a9.out⟩
  |false=>
   go_wp2_with fail;go_ret;exact⟨rfl,a9.out⟩
 ·have a1:¬ (s.size:Int)<=12:=by omega
  rw[if_neg h12] at hz;subst hz
  cases down with
  |true=>
   go_wp2_with fail;go_ret;exact⟨rfl,Hb.out⟩
  |false=>
   go_wp2_with fail;go_ret;exact⟨rfl,Hb.out⟩
def JM:Option Dc->Value->Prop
 |some d,v=>v =.tuple #[.agg #[.bool d.neg,.string d.digits,.int .i64 d.exp],.bool true]
 |none,v=> ∃a b c,v =.tuple #[.agg #[.bool a,.string b,.int .i64 c],.bool false]
theorem Br:(Tryz.prog.info? 311).map (·.size)=some 3:=by kernel_rfl
theorem fS {fn:Func}{p q:Tmp}(h:fn.results = #[.cell p 311,.tmp q])(tmps:Array Value)(w:World)(g:Nat)(t:TypeId)(d0 d1 d2:Value)(fr:Nat×Nat)
  (hp:tmps.getD p undef =.pointer (some ⟨g,0,none⟩)) (hg:w.heap[g]?=some (.cells #[d0,d1,d2] t fr)):(results fn tmps).run Tryz.prog w =.ok (.tuple #[.agg #[d0,d1,d2],tmps.getD q undef]) w:=by
 have a0:tmps[p]?.getD undef =.pointer (some ⟨g,0,none⟩):=by simpa using hp
 have hl:=run_loadVar_row (P:=Tryz.prog) w g t 311 #[d0,d1,d2] fr _ hg Tryz.underlying311 rfl Br;simp[results,h,a0,asAddr,hl]
theorem gS {fn:Func}{p q r:Tmp}(h:fn.results = #[.cell p 311,.tmp q,.tmp r])(tmps:Array Value)(w:World)(g:Nat)(t:TypeId)(d0 d1 d2:Value)(fr:Nat×Nat)
  (hp:tmps.getD p undef =.pointer (some ⟨g,0,none⟩)) (hg:w.heap[g]?=some (.cells #[d0,d1,d2] t fr)):(results fn tmps).run Tryz.prog w =.ok (.tuple #[.agg #[d0,d1,d2],tmps.getD q undef,tmps.getD r undef]) w:=by
 have a0:tmps[p]?.getD undef =.pointer (some ⟨g,0,none⟩):=by simpa using hp
 have hl:=run_loadVar_row (P:=Tryz.prog) w g t 311 #[d0,d1,d2] fr _ hg Tryz.underlying311 rfl Br;simp[results,h,a0,asAddr,hl]
def wL (neg:Bool)(l:List UInt8)(x m:Int)(w:World)(e:Ending)(w':World):Prop:= ∃v,e =.returned v/\JM (gd neg l x m) v/\Below w.heap.size w w'
theorem g9 (neg:Bool)(l:List UInt8)(x m:Int)(hl:l.length<=1000000000)(hx: -9223372036854775808<=x/\x<=9223372036854775807)(hm: -1000000000<=m/\m<=1000000000)(w:World):Calls Tryz.prog 220 #[.bool neg,.string ⟨l.toArray⟩,.int .i64 x,.int .i64 m] w (wL neg l x m w):=by
 have hle:(cZ l).length<=l.length:=(List.dropWhile_sublist _).length_le;have a0:=Qa (fun w=>jC ⟨l.toArray⟩ w);have e1:(⟨l.toArray⟩:ByteArray).data.toList=l:=rfl;rw[e1] at a0;unfold wL gd
 dsimp only
 clear e1;generalize hd:cZ l=d at *;have hb:=aa w (.cells #[.bool false,.string es,.int .i64 0] 311);have h0:=Zf w (.cells #[.bool false,.string es,.int .i64 0] 311);have Hb:=Qa hb;have H0:=Qa h0;clear hb h0 hd
 by_cases hde:d = []
 ·subst hde;rw[if_pos rfl];go_enter Tryz.func220,Tryz.ntmps220;go_wp2_with fail;refine(a0.out _).mono ?_;rintro e w1 ⟨rfl,rfl⟩;have h4:=H0.out;go_wp2_with (refine eX h4 ?_);exact Zh (fS Tryz.results220 _ _ w.heap.size 311 _ _ _ (0,0) (by simp) (setRow_heap _ _ _ _ _ _ H0.out)) rfl ⟨_,rfl,rfl,Hb.out.grown (aD ..) Hb.out.size (fun g e=>by cases e;exact Zb _)⟩
 ·rw[if_neg hde];have hs:∃s:ByteArray,⟨d.toArray⟩=s/\s.toList.isEmpty=false/\s.size=d.length:=⟨_,rfl,by rw[ByteArray.toList_eq];simpa using hde,rfl⟩;obtain⟨s,a1,b8,a3⟩:=hs;have a2:=Qa (fun w=>nj s (by omega) w);have e2:s.data.toList=d:=by rw[<-a1]
  rw[e2] at a2;have b1:(mg d).length<=d.length:=by
   unfold mg;have:=(List.dropWhile_sublist (l:=d.reverse) (p:=(· == 48))).length_le;simp only[cZ,List.length_reverse] at this ⊢;exact this
  generalize mg d=r at *;have hr:∃q:ByteArray,⟨r.toArray⟩=q/\q.size=r.length:=⟨_,rfl,rfl⟩;obtain⟨q,a4,a9⟩:=hr;rw[a1] at a0;rw[a4] at a2 ⊢;clear a1 a4 e2;rw[<-a3,<-a9];have b4:q.size<=s.size:=by omega
  have b3:s.size<=1000000000:=by omega
  clear a3 a9 b1 hle;generalize hy:mT x=y at *;have b2: -2199023255552<=y/\y<=2199023255552:=by unfold mT at hy;omega
  have b5:max (-2199023255552) (min x 2199023255552)=y:=hy;clear hy;go_enter Tryz.func220,Tryz.ntmps220;go_wp2_with fail;refine(a0.out _).mono ?_;rintro e w1 ⟨rfl,rfl⟩;go_wp2_with fail;refine(a2.out _).mono ?_;rintro e w1 ⟨rfl,rfl⟩;have h4:=H0.out;have s1:IntKind.i64.wrap ((s.size:Int) - q.size)= (s.size:Int) - q.size:=IntWalk.i64_in _ (by omega);have s2:IntKind.i64.wrap (y+m+ ((s.size:Int) - q.size))=y+m+ ((s.size:Int) - q.size):=IntWalk.i64_in _ (by omega)
  by_cases a5: -1000000000<=y+m+ ((s.size:Int) - q.size)
  ·by_cases b0:y+m+ ((s.size:Int) - q.size)<=1000000000
   ·have Hz:=Qa (And.intro a5 b0);go_wp2_with (refine eX h4 ?_);exact Zh (fS Tryz.results220 _ _ w.heap.size 311 _ _ _ (0,0) (by simp) (setRow_heap _ _ _ _ _ _ H0.out)) rfl ⟨_,rfl,by first|rfl|(rw[if_pos Hz.out];rfl),Hb.out.grown (aD ..) Hb.out.size (fun g e=>by cases e;exact Zb _)⟩
   ·have Hz:=Qa (show ¬ (-1000000000<=y+m+ ((s.size:Int) - q.size)/\y+m+ ((s.size:Int) - q.size)<=1000000000) from fun h=>b0 h.2);go_wp2_with (refine eX h4 ?_);exact Zh (fS Tryz.results220 _ _ w.heap.size 311 _ _ _ (0,0) (by simp) (setRow_heap _ _ _ _ _ _ H0.out)) rfl ⟨_,rfl,by first|exact⟨_,_,_,rfl⟩|(rw[if_neg Hz.out];exact⟨_,_,_,rfl⟩),Hb.out.grown (aD ..) Hb.out.size (fun g e=>by cases e;exact Zb _)⟩
  ·have Hz:=Qa (show ¬ (-1000000000<=y+m+ ((s.size:Int) - q.size)/\y+m+ ((s.size:Int) - q.size)<=1000000000) from fun h=>a5 h.1);go_wp2_with (refine eX h4 ?_);exact Zh (fS Tryz.results220 _ _ w.heap.size 311 _ _ _ (0,0) (by simp) (setRow_heap _ _ _ _ _ _ H0.out)) rfl ⟨_,rfl,by first|exact⟨_,_,_,rfl⟩|(rw[if_neg Hz.out];exact⟨_,_,_,rfl⟩),Hb.out.grown (aD ..) Hb.out.size (fun g e=>by cases e;exact Zb _)⟩
