import Derived.Test.YtehpfidnpfcniaaGreatDoorGZ14ai
import Derived.Shelf.Lay
import Derived.Shelf.Strings.Trim
import Derived.Shelf.Strconv.Atoi
set_option linter.unusedVariables false
set_option linter.unusedSimpArgs false
set_option maxHeartbeats 64000000
namespace Go.Proofs.YtehpfidnpfcniaaGreatDoor
open Go.RowKit Go.Shelf
variable {w:World}
def tF:Go.Shelf.Ren:=⟨fun|161=>234|231=>244|227=>245|233=>246|235=>247|228=>255|197=>120|151=>256|260=>144|152=>265|137=>270|119=>271|224=>168|225=>167|217=>166|266=>185|n=>n,fun|9=>9|4=>4|3=>3|5=>5|117=>383|116=>382|0=>0|124=>386|105=>208|21=>21|119=>282|46=>149|139=>285|138=>284|n=>n,fun|3=>13|4=>14|n=>n⟩
theorem Ed:Go.Proofs.Lays.n161 Tryz.prog tF:={
 mixed:=by kernel_rfl
 f119:=Tryz.func271.trans (congrArg some (by kernel_rfl))
 f137:=Tryz.func270.trans (congrArg some (by kernel_rfl))
 f151:=Tryz.func256.trans (congrArg some (by kernel_rfl))
 f152:=Tryz.func265.trans (congrArg some (by kernel_rfl))
 f161:=Tryz.func234.trans (congrArg some (by kernel_rfl))
 f197:=Tryz.func120.trans (congrArg some (by kernel_rfl))
 f217:=Tryz.func166.trans (congrArg some (by kernel_rfl))
 f224:=Tryz.func168.trans (congrArg some (by kernel_rfl))
 f225:=Tryz.func167.trans (congrArg some (by kernel_rfl))
 f227:=Tryz.func245.trans (congrArg some (by kernel_rfl))
 f228:=Tryz.func255.trans (congrArg some (by kernel_rfl))
 f231:=Tryz.func244.trans (congrArg some (by kernel_rfl))
 f233:=Tryz.func246.trans (congrArg some (by kernel_rfl))
 f235:=Tryz.func247.trans (congrArg some (by kernel_rfl))
 f260:=Tryz.func144.trans (congrArg some (by kernel_rfl))
 f266:=Tryz.func185.trans (congrArg some (by kernel_rfl))
 t0:=Tryz.underlying0
 a0:=Tryz.isAgg0
 z0:=Tryz.sizeOf0
 v0:=Tryz.zeroValue0
 t3:=Tryz.underlying3
 a3:=Tryz.isAgg3
 z3:=Tryz.sizeOf3
 v3:=Tryz.zeroValue3
 t4:=Tryz.underlying4
 a4:=Tryz.isAgg4
 z4:=Tryz.sizeOf4
 v4:=Tryz.zeroValue4
 t5:=Tryz.underlying5
 a5:=Tryz.isAgg5
 z5:=Tryz.sizeOf5
 v5:=Tryz.zeroValue5
 t9:=Tryz.underlying9
 a9:=Tryz.isAgg9
 z9:=Tryz.sizeOf9
 v9:=Tryz.zeroValue9
 t21:=Tryz.underlying21
 a21:=Tryz.isAgg21
 z21:=Tryz.sizeOf21
 v21:=Tryz.zeroValue21
 t46:=Tryz.underlying149
 a46:=Tryz.isAgg149
 z46:=Tryz.sizeOf149
 v46:=Tryz.zeroValue149
 t105:=Tryz.underlying208
 a105:=Tryz.isAgg208
 z105:=Tryz.sizeOf208
 v105:=Tryz.zeroValue208
 t116:=Tryz.underlying382
 a116:=Tryz.isAgg382
 z116:=Tryz.sizeOf382
 t117:=Tryz.underlying383
 a117:=Tryz.isAgg383
 z117:=Tryz.sizeOf383
 v117:=Tryz.zeroValue383
 t119:=Tryz.underlying282
 a119:=Tryz.isAgg282
 z119:=Tryz.sizeOf282
 t124:=Tryz.underlying386
 a124:=Tryz.isAgg386
 z124:=Tryz.sizeOf386
 v124:=Tryz.zeroValue386
 t138:=Tryz.underlying284
 a138:=Tryz.isAgg284
 z138:=Tryz.sizeOf284
 v138:=Tryz.zeroValue284
 t139:=Tryz.underlying285
 a139:=Tryz.isAgg285
 z139:=Tryz.sizeOf285
 v139:=Tryz.zeroValue285
 g3:=by kernel_rfl
 g4:=by kernel_rfl
}
def td:Go.Shelf.Ren:=⟨fun|162=>235|232=>248|227=>245|234=>249|236=>250|228=>255|271=>257|151=>256|120=>266|197=>120|152=>265|260=>144|137=>270|119=>271|224=>168|225=>167|217=>166|266=>185|n=>n,fun|9=>9|4=>4|3=>3|5=>5|117=>383|116=>382|0=>0|124=>386|21=>21|105=>208|46=>149|119=>282|139=>285|138=>284|n=>n,fun|3=>13|4=>14|n=>n⟩
theorem Em:Go.Proofs.Lays.n162 Tryz.prog td:={
 mixed:=by kernel_rfl
 f119:=Tryz.func271.trans (congrArg some (by kernel_rfl))
 f120:=Tryz.func266.trans (congrArg some (by kernel_rfl))
 f137:=Tryz.func270.trans (congrArg some (by kernel_rfl))
 f151:=Tryz.func256.trans (congrArg some (by kernel_rfl))
 f152:=Tryz.func265.trans (congrArg some (by kernel_rfl))
 f162:=Tryz.func235.trans (congrArg some (by kernel_rfl))
 f197:=Tryz.func120.trans (congrArg some (by kernel_rfl))
 f217:=Tryz.func166.trans (congrArg some (by kernel_rfl))
 f224:=Tryz.func168.trans (congrArg some (by kernel_rfl))
 f225:=Tryz.func167.trans (congrArg some (by kernel_rfl))
 f227:=Tryz.func245.trans (congrArg some (by kernel_rfl))
 f228:=Tryz.func255.trans (congrArg some (by kernel_rfl))
 f232:=Tryz.func248.trans (congrArg some (by kernel_rfl))
 f234:=Tryz.func249.trans (congrArg some (by kernel_rfl))
 f236:=Tryz.func250.trans (congrArg some (by kernel_rfl))
 f260:=Tryz.func144.trans (congrArg some (by kernel_rfl))
 f266:=Tryz.func185.trans (congrArg some (by kernel_rfl))
 f271:=Tryz.func257.trans (congrArg some (by kernel_rfl))
 t0:=Tryz.underlying0
 a0:=Tryz.isAgg0
 z0:=Tryz.sizeOf0
 v0:=Tryz.zeroValue0
 t3:=Tryz.underlying3
 a3:=Tryz.isAgg3
 z3:=Tryz.sizeOf3
 v3:=Tryz.zeroValue3
 t4:=Tryz.underlying4
 a4:=Tryz.isAgg4
 z4:=Tryz.sizeOf4
 v4:=Tryz.zeroValue4
 t5:=Tryz.underlying5
 a5:=Tryz.isAgg5
 z5:=Tryz.sizeOf5
 v5:=Tryz.zeroValue5
 t9:=Tryz.underlying9
 a9:=Tryz.isAgg9
 z9:=Tryz.sizeOf9
 v9:=Tryz.zeroValue9
 t21:=Tryz.underlying21
 a21:=Tryz.isAgg21
 z21:=Tryz.sizeOf21
 v21:=Tryz.zeroValue21
 t46:=Tryz.underlying149
 a46:=Tryz.isAgg149
 z46:=Tryz.sizeOf149
 v46:=Tryz.zeroValue149
 t105:=Tryz.underlying208
 a105:=Tryz.isAgg208
 z105:=Tryz.sizeOf208
 v105:=Tryz.zeroValue208
 t116:=Tryz.underlying382
 a116:=Tryz.isAgg382
 z116:=Tryz.sizeOf382
 t117:=Tryz.underlying383
 a117:=Tryz.isAgg383
 z117:=Tryz.sizeOf383
 v117:=Tryz.zeroValue383
 t119:=Tryz.underlying282
 a119:=Tryz.isAgg282
 z119:=Tryz.sizeOf282
 t124:=Tryz.underlying386
 a124:=Tryz.isAgg386
 z124:=Tryz.sizeOf386
 v124:=Tryz.zeroValue386
 t138:=Tryz.underlying284
 a138:=Tryz.isAgg284
 z138:=Tryz.sizeOf284
 v138:=Tryz.zeroValue284
 t139:=Tryz.underlying285
 a139:=Tryz.isAgg285
 z139:=Tryz.sizeOf285
 v139:=Tryz.zeroValue285
 g3:=by kernel_rfl
 g4:=by kernel_rfl
}
def oa:Go.Shelf.Ren:=⟨fun|172=>236|244=>251|245=>252|247=>258|279=>259|280=>260|281=>261|282=>262|287=>267|316=>268|171=>164|205=>269|321=>272|322=>273|243=>184|246=>200|283=>208|284=>209|285=>210|286=>211|129=>112|317=>227|318=>228|319=>229|320=>230|337=>240|338=>241|n=>n,fun|9=>9|3=>3|75=>30|76=>61|4=>4|5=>5|167=>392|37=>28|0=>0|85=>393|2=>2|168=>395|53=>200|175=>401|46=>149|210=>405|127=>236|145=>409|143=>407|21=>21|171=>347|173=>349|212=>364|51=>198|20=>20|213=>365|232=>389|233=>390|80=>54|n=>n,fun|15=>29|16=>30|17=>21|18=>25|19=>26|n=>n⟩
theorem yQ:Go.Proofs.Lays.n172 Tryz.prog oa:={
 mixed:=by kernel_rfl
 f129:=Tryz.func112.trans (congrArg some (by kernel_rfl))
 f171:=Tryz.func164.trans (congrArg some (by kernel_rfl))
 f172:=Tryz.func236.trans (congrArg some (by kernel_rfl))
 f205:=Tryz.func269.trans (congrArg some (by kernel_rfl))
 f243:=Tryz.func184.trans (congrArg some (by kernel_rfl))
 f244:=Tryz.func251.trans (congrArg some (by kernel_rfl))
 f245:=Tryz.func252.trans (congrArg some (by kernel_rfl))
 f246:=Tryz.func200.trans (congrArg some (by kernel_rfl))
 f247:=Tryz.func258.trans (congrArg some (by kernel_rfl))
 f279:=Tryz.func259.trans (congrArg some (by kernel_rfl))
 f280:=Tryz.func260.trans (congrArg some (by kernel_rfl))
 f281:=Tryz.func261.trans (congrArg some (by kernel_rfl))
 f282:=Tryz.func262.trans (congrArg some (by kernel_rfl))
 f283:=Tryz.func208.trans (congrArg some (by kernel_rfl))
 f284:=Tryz.func209.trans (congrArg some (by kernel_rfl))
 f285:=Tryz.func210.trans (congrArg some (by kernel_rfl))
 f286:=Tryz.func211.trans (congrArg some (by kernel_rfl))
 f287:=Tryz.func267.trans (congrArg some (by kernel_rfl))
 f316:=Tryz.func268.trans (congrArg some (by kernel_rfl))
 f317:=Tryz.func227.trans (congrArg some (by kernel_rfl))
 f318:=Tryz.func228.trans (congrArg some (by kernel_rfl))
 f319:=Tryz.func229.trans (congrArg some (by kernel_rfl))
 f320:=Tryz.func230.trans (congrArg some (by kernel_rfl))
 f321:=Tryz.func272.trans (congrArg some (by kernel_rfl))
 f322:=Tryz.func273.trans (congrArg some (by kernel_rfl))
 f337:=Tryz.func240.trans (congrArg some (by kernel_rfl))
 f338:=Tryz.func241.trans (congrArg some (by kernel_rfl))
 t0:=Tryz.underlying0
 a0:=Tryz.isAgg0
 z0:=Tryz.sizeOf0
 v0:=Tryz.zeroValue0
 t2:=Tryz.underlying2
 a2:=Tryz.isAgg2
 z2:=Tryz.sizeOf2
 v2:=Tryz.zeroValue2
 t3:=Tryz.underlying3
 a3:=Tryz.isAgg3
 z3:=Tryz.sizeOf3
 v3:=Tryz.zeroValue3
 t4:=Tryz.underlying4
 a4:=Tryz.isAgg4
 z4:=Tryz.sizeOf4
 v4:=Tryz.zeroValue4
 t5:=Tryz.underlying5
 a5:=Tryz.isAgg5
 z5:=Tryz.sizeOf5
 v5:=Tryz.zeroValue5
 t9:=Tryz.underlying9
 a9:=Tryz.isAgg9
 z9:=Tryz.sizeOf9
 v9:=Tryz.zeroValue9
 t20:=Tryz.underlying20
 a20:=Tryz.isAgg20
 z20:=Tryz.sizeOf20
 v20:=Tryz.zeroValue20
 t21:=Tryz.underlying21
 a21:=Tryz.isAgg21
 z21:=Tryz.sizeOf21
 v21:=Tryz.zeroValue21
 t37:=Tryz.underlying28
 a37:=Tryz.isAgg28
 z37:=Tryz.sizeOf28
 v37:=Tryz.zeroValue28
 t46:=Tryz.underlying149
 a46:=Tryz.isAgg149
 z46:=Tryz.sizeOf149
 v46:=Tryz.zeroValue149
 t51:=Tryz.underlying198
 a51:=Tryz.isAgg198
 z51:=Tryz.sizeOf198
 v51:=Tryz.zeroValue198
 t53:=Tryz.underlying200
 a53:=Tryz.isAgg200
 z53:=Tryz.sizeOf200
 v53:=Tryz.zeroValue200
 t75:=Tryz.underlying30
 a75:=Tryz.isAgg30
 z75:=Tryz.sizeOf30
 v75:=Tryz.zeroValue30
 t76:=Tryz.underlying61
 a76:=Tryz.isAgg61
 z76:=Tryz.sizeOf61
 v76:=Tryz.zeroValue61
 t85:=Tryz.underlying393
 a85:=Tryz.isAgg393
 z85:=Tryz.sizeOf393
 v85:=Tryz.zeroValue393
 t127:=Tryz.underlying236
 a127:=Tryz.isAgg236
 z127:=Tryz.sizeOf236
 v127:=Tryz.zeroValue236
 t143:=Tryz.underlying407
 a143:=Tryz.isAgg407
 z143:=Tryz.sizeOf407
 v143:=Tryz.zeroValue407
 t145:=Tryz.underlying409
 a145:=Tryz.isAgg409
 z145:=Tryz.sizeOf409
 v145:=Tryz.zeroValue409
 t167:=Tryz.underlying392
 a167:=Tryz.isAgg392
 z167:=Tryz.sizeOf392
 v167:=Tryz.zeroValue392
 t168:=Tryz.underlying395
 a168:=Tryz.isAgg395
 z168:=Tryz.sizeOf395
 v168:=Tryz.zeroValue395
 t171:=Tryz.underlying347
 a171:=Tryz.isAgg347
 z171:=Tryz.sizeOf347
 v171:=Tryz.zeroValue347
 t173:=Tryz.underlying349
 a173:=Tryz.isAgg349
 z173:=Tryz.sizeOf349
 v173:=Tryz.zeroValue349
 t175:=Tryz.underlying401
 a175:=Tryz.isAgg401
 z175:=Tryz.sizeOf401
 v175:=Tryz.zeroValue401
 t210:=Tryz.underlying405
 a210:=Tryz.isAgg405
 z210:=Tryz.sizeOf405
 v210:=Tryz.zeroValue405
 t212:=Tryz.underlying364
 a212:=Tryz.isAgg364
 z212:=Tryz.sizeOf364
 v212:=Tryz.zeroValue364
 t213:=Tryz.underlying365
 a213:=Tryz.isAgg365
 z213:=Tryz.sizeOf365
 t232:=Tryz.underlying389
 a232:=Tryz.isAgg389
 z232:=Tryz.sizeOf389
 v232:=Tryz.zeroValue389
 t233:=Tryz.underlying390
 a233:=Tryz.isAgg390
 z233:=Tryz.sizeOf390
 v233:=Tryz.zeroValue390
 g15:=by kernel_rfl
 g16:=by kernel_rfl
 g17:=by kernel_rfl
 g18:=by kernel_rfl
 g19:=by kernel_rfl
}
theorem iH (s:ByteArray)(w:World):Calls Tryz.prog 234 #[.string s,.string ⟨#[48]⟩] w fun e w'=>e =.returned (.string ⟨(cI s.data.toList).toArray⟩)/\w=w':=
 (Any.strings_TrimLeft_one Ed s 48 (by decide) w).mono fun _ _ ⟨h1,h2⟩=>⟨h1,h2.symm⟩
theorem mC (s:ByteArray)(hs:s.size<=9223372036854775807)(w:World):Calls Tryz.prog 235 #[.string s,.string ⟨#[48]⟩] w fun e w'=>e =.returned (.string ⟨(ly s.data.toList).toArray⟩)/\w=w':=
 (Any.strings_TrimRight_one Em s 48 (by decide) w hs).mono fun _ _ ⟨h1,h2⟩=>⟨h1,h2.symm⟩
theorem ss:∀ (l:List UInt8) (a:Nat),(∀c∈l,dK c=true)->Lib.decFrom a l=some (l.foldl (fun a c=>a*10+ (c.toNat - 48)) a)
 | [],a,_=>rfl
 |c::l,a,h=>by
  have hd:=h c (by simp);have hv:Lib.digitVal c=some (c.toNat - 48):=by
   have:=qn (p:=fun c=> !dK c||(Lib.digitVal c==some (c.toNat - 48))) (by decide +kernel) c;simpa [hd] using this
  show(match Lib.digitVal c with|some d=>Lib.decFrom (a*10+d) l|none=>none)=_
  rw[hv];exact ss l _ (fun c hc=>h c (Zl _ hc))
theorem zw {l:List UInt8}(h:∀c∈l,dK c=true)(hl:l.length<=12)(w:World):Calls Tryz.prog 236 #[.string ⟨(48::l).toArray⟩] w fun e w'=>e =.returned (.tuple #[.int .i64 (gD l:Nat),.nilIface])/\Below w.heap.size w w':=by
 have ha:Lib.atoi (⟨(48::l).toArray⟩:ByteArray).data.toList=some ((gD l:Nat):Int):=by
  show(Lib.decNat (48::l)).map _=_
  have:Lib.decNat (48::l)=some (gD l):=by
   show Lib.decFrom 0 (48::l)=_
   rw[ss (48::l) 0 (by intro c hc;rcases List.mem_cons.1 hc with rfl|hc;decide;exact h c hc)];rfl
  rw[this];rfl
 refine(Any.strconv_Atoi yQ ⟨(48::l).toArray⟩ _ (by show(48::l).length<=18;simp;omega) ha w).mono ?_;rintro e w' ⟨rfl,t,rfl⟩;exact⟨rfl,⟨rfl,rfl,rfl,by rw[Lib.bytesWorld_size];omega,fun k hk=>Lib.bytesWorld_at_old _ _ _ _ hk⟩⟩
theorem ia {l:List UInt8}(h:∀c∈l,dK c=true):∀c∈cI l,dK c=true:=fun c hc=>h c ((List.dropWhile_sublist _).mem hc)
theorem qO:∀ (l:List UInt8),(∀c∈l,dK c=true)->gD l.reverse<10 ^ l.length
 | [],_=>by decide
 |c::l,h=>by
  have h1:=qO l (fun c hc=>h c (Zl _ hc));have h2:=h c (by simp);unfold dK at h2;simp at h2;rw[List.reverse_cons,np,List.length_cons,Nat.pow_succ];omega
theorem vS (l:List UInt8)(h:∀c∈l,dK c=true):gD l<10 ^ l.length:=by
 have:=qO l.reverse (fun c hc=>h c (List.mem_reverse.1 hc))
 rwa[List.reverse_reverse,List.length_reverse] at this
theorem Fq (l:List UInt8):(⟨#[48]⟩:ByteArray)++ ⟨l.toArray⟩= ⟨(48::l).toArray⟩:=by
 apply ByteArray.ext
 simp
theorem Cn {t:NS}(hd:∀c∈t.exps,dK c=true): -1099511627776<=ee t/\ee t<=1099511627776:=by
 have h1:=vS _ (ia hd);unfold ee
 by_cases h:(cI t.exps).length<=12
 ·have h2:10 ^ (cI t.exps).length<=10 ^ 12:=Nat.pow_le_pow_right (by decide) h;simp only[if_pos h]
  split <;> omega
 ·simp only[if_neg h]
  split <;> omega
theorem mL (t:NS)(vd ve:Value)(hve:Bs w ve t.exps)(hd:∀c∈t.exps,dK c=true)(hl:t.exps.length<=1000000000):Calls Tryz.prog 218 #[.agg #[.bool t.neg,.bool t.down,vd,.int .i64 t.part,ve,.int .i64 t.st,.int .i64 t.n]] w fun e w'=>e =.returned (.int .i64 (ee t))/\Below w.heap.size w w':=by
 obtain⟨neg,down,digs,part,exps,st,n⟩:=t
 dsimp only at *
 have hv:=vS _ (ia hd);have b0:=H8 (fun hl w=>zw (l:=cI exps) (ia hd) hl w);have hle:(cI exps).length<=exps.length:=(List.dropWhile_sublist _).length_le;have hb:=ac w (.cells #[.bool neg,.bool down,vd,.int .i64 part,ve,.int .i64 st,.int .i64 n] 354);have hc:=aH (hve.below hb);have Hb:=H8 hb;have a3:ee ⟨neg,down,digs,part,exps,st,n⟩= (if down then -(if(cI exps).length<=12 then((gD (cI exps):Nat):Int) else 1099511627776) else(if(cI exps).length<=12 then((gD (cI exps):Nat):Int) else 1099511627776)):=rfl;rw[a3];clear hb hve hd a3;have e1:(⟨exps.toArray⟩:ByteArray).data.toList=exps:=rfl;have a9:=H8 (fun w=>iH ⟨exps.toArray⟩ w);rw[e1] at a9;clear e1;generalize cI exps=l at *;have b1:(⟨l.toArray⟩:ByteArray).size=l.length:=rfl;have a1:=Fq l;obtain⟨s,hs⟩:∃s:ByteArray,⟨l.toArray⟩=s:=⟨_,rfl⟩;rw[hs] at b1 a1;have Hs:=H8 hs;have b2:=H8 a1;clear a1;obtain⟨z,hz⟩:∃z:Int,(if l.length<=12 then((gD l:Nat):Int) else 1099511627776)=z:=⟨_,rfl⟩;rw[hz];go_enter Tryz.func218,Tryz.ntmps218;go_wp2_with fail;refine(a9.out _).mono ?_;rintro e w1 ⟨rfl,rfl⟩;rw[Hs.out];clear hs hc
 by_cases h12:l.length<=12
 ·have a2:(s.size:Int)<=12:=by omega
  have b3:gD l<1000000000000:=Nat.lt_of_lt_of_le hv (Nat.pow_le_pow_right (by decide) h12);rw[if_pos h12] at hz;subst hz;go_wp2_with fail;rw[b2.out];refine(b0.out h12 _).mono ?_;rintro e w2 ⟨rfl,a0⟩;have a5:=ak Hb.out a0;have a4:=H8 a5;have c1:w2.cell? ⟨w.heap.size,1,none⟩=some (.bool down):=Zg a0 (aa (Zf w (.cells #[.bool neg,.bool down,vd,.int .i64 part,ve,.int .i64 st,.int .i64 n] 354)) (j:=1) rfl);clear a0 a5
  cases down with
  |true=>
   go_wp2_with fail;go_ret;exact⟨rfl,a4.out⟩
  |false=>
   go_wp2_with fail;go_ret;exact⟨rfl,a4.out⟩
 ·have a2:¬ (s.size:Int)<=12:=by omega
  rw[if_neg h12] at hz;subst hz
  cases down with
  |true=>
   go_wp2_with fail;go_ret;exact⟨rfl,Hb.out⟩
  |false=>
   go_wp2_with fail;go_ret;exact⟨rfl,Hb.out⟩
def GC:Option Dc->Value->Prop
 |some d,v=>v =.tuple #[.agg #[.bool d.neg,.string d.digits,.int .i64 d.exp],.bool true]
 |none,v=> ∃a b c,v =.tuple #[.agg #[.bool a,.string b,.int .i64 c],.bool false]
theorem Bo:(Tryz.prog.info? 320).map (·.size)=some 3:=by kernel_rfl
theorem fj {fn:Func}{p q:Tmp}(h:fn.results = #[.cell p 320,.tmp q])(tmps:Array Value)(w:World)(g:Nat)(t:TypeId)(d0 d1 d2:Value)(fr:Nat×Nat)
  (hp:tmps.getD p undef =.pointer (some ⟨g,0,none⟩)) (hg:w.heap[g]?=some (.cells #[d0,d1,d2] t fr)):(results fn tmps).run Tryz.prog w =.ok (.tuple #[.agg #[d0,d1,d2],tmps.getD q undef]) w:=by
 have a0:tmps[p]?.getD undef =.pointer (some ⟨g,0,none⟩):=by simpa using hp
 have hl:=run_loadVar_row (P:=Tryz.prog) w g t 320 #[d0,d1,d2] fr _ hg Tryz.underlying320 rfl Bo;simp[results,h,a0,asAddr,hl]
theorem fB {fn:Func}{p q r:Tmp}(h:fn.results = #[.cell p 320,.tmp q,.tmp r])(tmps:Array Value)(w:World)(g:Nat)(t:TypeId)(d0 d1 d2:Value)(fr:Nat×Nat)
  (hp:tmps.getD p undef =.pointer (some ⟨g,0,none⟩)) (hg:w.heap[g]?=some (.cells #[d0,d1,d2] t fr)):(results fn tmps).run Tryz.prog w =.ok (.tuple #[.agg #[d0,d1,d2],tmps.getD q undef,tmps.getD r undef]) w:=by
 have a0:tmps[p]?.getD undef =.pointer (some ⟨g,0,none⟩):=by simpa using hp
 have hl:=run_loadVar_row (P:=Tryz.prog) w g t 320 #[d0,d1,d2] fr _ hg Tryz.underlying320 rfl Bo;simp[results,h,a0,asAddr,hl]
def vE (neg:Bool)(l:List UInt8)(x m:Int)(w:World)(e:Ending)(w':World):Prop:= ∃v,e =.returned v/\GC (fo neg l x m) v/\Below w.heap.size w w'
theorem fW (neg:Bool)(l:List UInt8)(x m:Int)(hl:l.length<=1000000000)(hx: -9223372036854775808<=x/\x<=9223372036854775807)(hm: -1000000000<=m/\m<=1000000000)(w:World):Calls Tryz.prog 217 #[.bool neg,.string ⟨l.toArray⟩,.int .i64 x,.int .i64 m] w (vE neg l x m w):=by
 have hle:(cI l).length<=l.length:=(List.dropWhile_sublist _).length_le;have a0:=H8 (fun w=>iH ⟨l.toArray⟩ w);have e1:(⟨l.toArray⟩:ByteArray).data.toList=l:=rfl;rw[e1] at a0;unfold vE fo
 dsimp only
 clear e1;generalize hd:cI l=d at *;have hb:=ac w (.cells #[.bool false,.string es,.int .i64 0] 320);have h0:=Zf w (.cells #[.bool false,.string es,.int .i64 0] 320);have Hb:=H8 hb;have H0:=H8 h0;clear hb h0 hd
 by_cases hde:d = []
 ·subst hde;rw[if_pos rfl];go_enter Tryz.func217,Tryz.ntmps217;go_wp2_with fail;refine(a0.out _).mono ?_;rintro e w1 ⟨rfl,rfl⟩;have h4:=H0.out;go_wp2_with (refine eN h4 ?_);exact Zh (fj Tryz.results217 _ _ w.heap.size 320 _ _ _ (0,0) (by simp) (setRow_heap _ _ _ _ _ _ H0.out)) rfl ⟨_,rfl,rfl,Hb.out.grown (aD ..) Hb.out.size (fun g e=>by cases e;exact Zb _)⟩
 ·rw[if_neg hde];have hs:∃s:ByteArray,⟨d.toArray⟩=s/\s.toList.isEmpty=false/\s.size=d.length:=⟨_,rfl,by rw[ByteArray.toList_eq];simpa using hde,rfl⟩;obtain⟨s,a1,b4,a5⟩:=hs;have a2:=H8 (fun w=>mC s (by omega) w);have e2:s.data.toList=d:=by rw[<-a1]
  rw[e2] at a2;have b1:(ly d).length<=d.length:=by
   unfold ly;have:=(List.dropWhile_sublist (l:=d.reverse) (p:=(· == 48))).length_le;simp only[cI,List.length_reverse] at this ⊢;exact this
  generalize ly d=r at *;have hr:∃q:ByteArray,⟨r.toArray⟩=q/\q.size=r.length:=⟨_,rfl,rfl⟩;obtain⟨q,a4,a3⟩:=hr;rw[a1] at a0;rw[a4] at a2 ⊢;clear a1 a4 e2;rw[<-a5,<-a3];have b2:q.size<=s.size:=by omega
  have b8:s.size<=1000000000:=by omega
  clear a5 a3 b1 hle;generalize hy:kL x=y at *;have b3: -2199023255552<=y/\y<=2199023255552:=by unfold kL at hy;omega
  have b5:max (-2199023255552) (min x 2199023255552)=y:=hy;clear hy;go_enter Tryz.func217,Tryz.ntmps217;go_wp2_with fail;refine(a0.out _).mono ?_;rintro e w1 ⟨rfl,rfl⟩;go_wp2_with fail;refine(a2.out _).mono ?_;rintro e w1 ⟨rfl,rfl⟩;have h4:=H0.out;have s1:IntKind.i64.wrap ((s.size:Int) - q.size)= (s.size:Int) - q.size:=IntWalk.i64_in _ (by omega);have s2:IntKind.i64.wrap (y+m+ ((s.size:Int) - q.size))=y+m+ ((s.size:Int) - q.size):=IntWalk.i64_in _ (by omega)
  by_cases b0: -1000000000<=y+m+ ((s.size:Int) - q.size)
  ·by_cases a9:y+m+ ((s.size:Int) - q.size)<=1000000000
   ·have Hz:=H8 (And.intro b0 a9);go_wp2_with (refine eN h4 ?_);exact Zh (fj Tryz.results217 _ _ w.heap.size 320 _ _ _ (0,0) (by simp) (setRow_heap _ _ _ _ _ _ H0.out)) rfl ⟨_,rfl,by first|rfl|(rw[if_pos Hz.out];rfl),Hb.out.grown (aD ..) Hb.out.size (fun g e=>by cases e;exact Zb _)⟩
   ·have Hz:=H8 (show ¬ (-1000000000<=y+m+ ((s.size:Int) - q.size)/\y+m+ ((s.size:Int) - q.size)<=1000000000) from fun h=>a9 h.2);go_wp2_with (refine eN h4 ?_);exact Zh (fj Tryz.results217 _ _ w.heap.size 320 _ _ _ (0,0) (by simp) (setRow_heap _ _ _ _ _ _ H0.out)) rfl ⟨_,rfl,by first|exact⟨_,_,_,rfl⟩|(rw[if_neg Hz.out];exact⟨_,_,_,rfl⟩),Hb.out.grown (aD ..) Hb.out.size (fun g e=>by cases e;exact Zb _)⟩
  ·have Hz:=H8 (show ¬ (-1000000000<=y+m+ ((s.size:Int) - q.size)/\y+m+ ((s.size:Int) - q.size)<=1000000000) from fun h=>b0 h.1);go_wp2_with (refine eN h4 ?_);exact Zh (fj Tryz.results217 _ _ w.heap.size 320 _ _ _ (0,0) (by simp) (setRow_heap _ _ _ _ _ _ H0.out)) rfl ⟨_,rfl,by first|exact⟨_,_,_,rfl⟩|(rw[if_neg Hz.out];exact⟨_,_,_,rfl⟩),Hb.out.grown (aD ..) Hb.out.size (fun g e=>by cases e;exact Zb _)⟩
