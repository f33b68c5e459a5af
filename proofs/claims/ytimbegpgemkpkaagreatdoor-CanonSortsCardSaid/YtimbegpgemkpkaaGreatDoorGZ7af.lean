import Derived.Test.YtimbegpgemkpkaaGreatDoorGZ7ae
import Derived.Shelf.Lay
import Derived.Shelf.Strings.Trim
import Derived.Shelf.Strconv.Atoi
import Derived.RangeFuncNested
import Derived.RangeFuncBound
import Derived.Shelf.RegionOpen
import Derived.OwnWalkIn
import Derived.LoopNIn
import Derived.LoopIn
set_option linter.unusedVariables false
set_option linter.unusedSimpArgs false
set_option maxHeartbeats 64000000
set_option maxRecDepth 100000
namespace Go.Proofs.YtimbegpgemkpkaaGreatDoor
open Go.Proofs.Tryz
open Go.RowKit Go.Shelf
variable {aE aU:Addr}{l xs:Na}{B B2 g i k0 m n nd p q:Nat}{v:Value}{W W' X w w' w1:Wd}
def yw:Go.Shelf.Ren:=⟨fun|161=>252|231=>258|227=>259|233=>260|235=>261|228=>268|197=>269|151=>270|260=>279|152=>280|137=>285|119=>286|224=>287|225=>288|217=>291|266=>292|n=>n,fun|9=>9|4=>4|3=>3|5=>5|117=>398|116=>397|0=>0|124=>401|105=>393|21=>21|119=>418|46=>196|139=>421|138=>420|n=>n,fun|3=>23|4=>24|n=>n⟩
theorem Ju:Go.Proofs.Lays.n161 prog yw:={
 mixed:=by kernel_rfl
 f119:=func286.trans (congrArg some (by kernel_rfl))
 f137:=func285.trans (congrArg some (by kernel_rfl))
 f151:=func270.trans (congrArg some (by kernel_rfl))
 f152:=func280.trans (congrArg some (by kernel_rfl))
 f161:=func252.trans (congrArg some (by kernel_rfl))
 f197:=func269.trans (congrArg some (by kernel_rfl))
 f217:=func291.trans (congrArg some (by kernel_rfl))
 f224:=func287.trans (congrArg some (by kernel_rfl))
 f225:=func288.trans (congrArg some (by kernel_rfl))
 f227:=func259.trans (congrArg some (by kernel_rfl))
 f228:=func268.trans (congrArg some (by kernel_rfl))
 f231:=func258.trans (congrArg some (by kernel_rfl))
 f233:=func260.trans (congrArg some (by kernel_rfl))
 f235:=func261.trans (congrArg some (by kernel_rfl))
 f260:=func279.trans (congrArg some (by kernel_rfl))
 f266:=func292.trans (congrArg some (by kernel_rfl))
 t0:=underlying0
 a0:=isAgg0
 z0:=sizeOf0
 v0:=zeroValue0
 t3:=underlying3
 a3:=isAgg3
 z3:=sizeOf3
 v3:=zeroValue3
 t4:=underlying4
 a4:=isAgg4
 z4:=sizeOf4
 v4:=zeroValue4
 t5:=underlying5
 a5:=isAgg5
 z5:=sizeOf5
 v5:=zeroValue5
 t9:=underlying9
 a9:=isAgg9
 z9:=sizeOf9
 v9:=zeroValue9
 t21:=underlying21
 a21:=isAgg21
 z21:=sizeOf21
 v21:=zeroValue21
 t46:=underlying196
 a46:=isAgg196
 z46:=sizeOf196
 v46:=zeroValue196
 t105:=underlying393
 a105:=isAgg393
 z105:=sizeOf393
 v105:=zeroValue393
 t116:=underlying397
 a116:=isAgg397
 z116:=sizeOf397
 t117:=underlying398
 a117:=isAgg398
 z117:=sizeOf398
 v117:=zeroValue398
 t119:=underlying418
 a119:=isAgg418
 z119:=sizeOf418
 t124:=underlying401
 a124:=isAgg401
 z124:=sizeOf401
 v124:=zeroValue401
 t138:=underlying420
 a138:=isAgg420
 z138:=sizeOf420
 v138:=zeroValue420
 t139:=underlying421
 a139:=isAgg421
 z139:=sizeOf421
 v139:=zeroValue421
 g3:=by kernel_rfl
 g4:=by kernel_rfl
}
def Am:Go.Shelf.Ren:=⟨fun|162=>253|232=>262|227=>259|234=>263|236=>264|228=>268|271=>271|151=>270|120=>281|197=>269|152=>280|260=>279|137=>285|119=>286|224=>287|225=>288|217=>291|266=>292|n=>n,fun|9=>9|4=>4|3=>3|5=>5|117=>398|116=>397|0=>0|124=>401|21=>21|105=>393|46=>196|119=>418|139=>421|138=>420|n=>n,fun|3=>23|4=>24|n=>n⟩
theorem Jn:Go.Proofs.Lays.n162 prog Am:={
 mixed:=by kernel_rfl
 f119:=func286.trans (congrArg some (by kernel_rfl))
 f120:=func281.trans (congrArg some (by kernel_rfl))
 f137:=func285.trans (congrArg some (by kernel_rfl))
 f151:=func270.trans (congrArg some (by kernel_rfl))
 f152:=func280.trans (congrArg some (by kernel_rfl))
 f162:=func253.trans (congrArg some (by kernel_rfl))
 f197:=func269.trans (congrArg some (by kernel_rfl))
 f217:=func291.trans (congrArg some (by kernel_rfl))
 f224:=func287.trans (congrArg some (by kernel_rfl))
 f225:=func288.trans (congrArg some (by kernel_rfl))
 f227:=func259.trans (congrArg some (by kernel_rfl))
 f228:=func268.trans (congrArg some (by kernel_rfl))
 f232:=func262.trans (congrArg some (by kernel_rfl))
 f234:=func263.trans (congrArg some (by kernel_rfl))
 f236:=func264.trans (congrArg some (by kernel_rfl))
 f260:=func279.trans (congrArg some (by kernel_rfl))
 f266:=func292.trans (congrArg some (by kernel_rfl))
 f271:=func271.trans (congrArg some (by kernel_rfl))
 t0:=underlying0
 a0:=isAgg0
 z0:=sizeOf0
 v0:=zeroValue0
 t3:=underlying3
 a3:=isAgg3
 z3:=sizeOf3
 v3:=zeroValue3
 t4:=underlying4
 a4:=isAgg4
 z4:=sizeOf4
 v4:=zeroValue4
 t5:=underlying5
 a5:=isAgg5
 z5:=sizeOf5
 v5:=zeroValue5
 t9:=underlying9
 a9:=isAgg9
 z9:=sizeOf9
 v9:=zeroValue9
 t21:=underlying21
 a21:=isAgg21
 z21:=sizeOf21
 v21:=zeroValue21
 t46:=underlying196
 a46:=isAgg196
 z46:=sizeOf196
 v46:=zeroValue196
 t105:=underlying393
 a105:=isAgg393
 z105:=sizeOf393
 v105:=zeroValue393
 t116:=underlying397
 a116:=isAgg397
 z116:=sizeOf397
 t117:=underlying398
 a117:=isAgg398
 z117:=sizeOf398
 v117:=zeroValue398
 t119:=underlying418
 a119:=isAgg418
 z119:=sizeOf418
 t124:=underlying401
 a124:=isAgg401
 z124:=sizeOf401
 v124:=zeroValue401
 t138:=underlying420
 a138:=isAgg420
 z138:=sizeOf420
 v138:=zeroValue420
 t139:=underlying421
 a139:=isAgg421
 z139:=sizeOf421
 v139:=zeroValue421
 g3:=by kernel_rfl
 g4:=by kernel_rfl
}
def sE:Go.Shelf.Ren:=⟨fun|172=>254|244=>265|245=>266|247=>272|279=>273|280=>274|281=>275|282=>276|287=>282|316=>283|171=>105|205=>284|321=>289|322=>290|243=>138|246=>179|283=>207|284=>208|285=>209|286=>210|129=>161|317=>231|318=>232|319=>233|320=>234|337=>244|338=>245|n=>n,fun|9=>9|3=>3|75=>44|76=>194|4=>4|5=>5|167=>405|37=>30|0=>0|85=>406|2=>2|168=>408|53=>275|175=>413|46=>196|210=>417|127=>424|145=>427|143=>425|21=>21|171=>335|173=>337|212=>365|51=>273|20=>20|213=>366|232=>390|233=>391|80=>155|n=>n,fun|15=>21|16=>22|17=>11|18=>16|19=>17|n=>n⟩
theorem Er:Go.Proofs.Lays.n172 prog sE:={
 mixed:=by kernel_rfl
 f129:=func161.trans (congrArg some (by kernel_rfl))
 f171:=func105.trans (congrArg some (by kernel_rfl))
 f172:=func254.trans (congrArg some (by kernel_rfl))
 f205:=func284.trans (congrArg some (by kernel_rfl))
 f243:=func138.trans (congrArg some (by kernel_rfl))
 f244:=func265.trans (congrArg some (by kernel_rfl))
 f245:=func266.trans (congrArg some (by kernel_rfl))
 f246:=func179.trans (congrArg some (by kernel_rfl))
 f247:=func272.trans (congrArg some (by kernel_rfl))
 f279:=func273.trans (congrArg some (by kernel_rfl))
 f280:=func274.trans (congrArg some (by kernel_rfl))
 f281:=func275.trans (congrArg some (by kernel_rfl))
 f282:=func276.trans (congrArg some (by kernel_rfl))
 f283:=func207.trans (congrArg some (by kernel_rfl))
 f284:=func208.trans (congrArg some (by kernel_rfl))
 f285:=func209.trans (congrArg some (by kernel_rfl))
 f286:=func210.trans (congrArg some (by kernel_rfl))
 f287:=func282.trans (congrArg some (by kernel_rfl))
 f316:=func283.trans (congrArg some (by kernel_rfl))
 f317:=func231.trans (congrArg some (by kernel_rfl))
 f318:=func232.trans (congrArg some (by kernel_rfl))
 f319:=func233.trans (congrArg some (by kernel_rfl))
 f320:=func234.trans (congrArg some (by kernel_rfl))
 f321:=func289.trans (congrArg some (by kernel_rfl))
 f322:=func290.trans (congrArg some (by kernel_rfl))
 f337:=func244.trans (congrArg some (by kernel_rfl))
 f338:=func245.trans (congrArg some (by kernel_rfl))
 t0:=underlying0
 a0:=isAgg0
 z0:=sizeOf0
 v0:=zeroValue0
 t2:=underlying2
 a2:=isAgg2
 z2:=sizeOf2
 v2:=zeroValue2
 t3:=underlying3
 a3:=isAgg3
 z3:=sizeOf3
 v3:=zeroValue3
 t4:=underlying4
 a4:=isAgg4
 z4:=sizeOf4
 v4:=zeroValue4
 t5:=underlying5
 a5:=isAgg5
 z5:=sizeOf5
 v5:=zeroValue5
 t9:=underlying9
 a9:=isAgg9
 z9:=sizeOf9
 v9:=zeroValue9
 t20:=underlying20
 a20:=isAgg20
 z20:=sizeOf20
 v20:=zeroValue20
 t21:=underlying21
 a21:=isAgg21
 z21:=sizeOf21
 v21:=zeroValue21
 t37:=underlying30
 a37:=isAgg30
 z37:=sizeOf30
 v37:=zeroValue30
 t46:=underlying196
 a46:=isAgg196
 z46:=sizeOf196
 v46:=zeroValue196
 t51:=underlying273
 a51:=isAgg273
 z51:=sizeOf273
 v51:=zeroValue273
 t53:=underlying275
 a53:=isAgg275
 z53:=sizeOf275
 v53:=zeroValue275
 t75:=underlying44
 a75:=isAgg44
 z75:=sizeOf44
 v75:=zeroValue44
 t76:=underlying194
 a76:=isAgg194
 z76:=sizeOf194
 v76:=zeroValue194
 t85:=underlying406
 a85:=isAgg406
 z85:=sizeOf406
 v85:=zeroValue406
 t127:=underlying424
 a127:=isAgg424
 z127:=sizeOf424
 v127:=zeroValue424
 t143:=underlying425
 a143:=isAgg425
 z143:=sizeOf425
 v143:=zeroValue425
 t145:=underlying427
 a145:=isAgg427
 z145:=sizeOf427
 v145:=zeroValue427
 t167:=underlying405
 a167:=isAgg405
 z167:=sizeOf405
 v167:=zeroValue405
 t168:=underlying408
 a168:=isAgg408
 z168:=sizeOf408
 v168:=zeroValue408
 t171:=underlying335
 a171:=isAgg335
 z171:=sizeOf335
 v171:=zeroValue335
 t173:=underlying337
 a173:=isAgg337
 z173:=sizeOf337
 v173:=zeroValue337
 t175:=underlying413
 a175:=isAgg413
 z175:=sizeOf413
 v175:=zeroValue413
 t210:=underlying417
 a210:=isAgg417
 z210:=sizeOf417
 v210:=zeroValue417
 t212:=underlying365
 a212:=isAgg365
 z212:=sizeOf365
 v212:=zeroValue365
 t213:=underlying366
 a213:=isAgg366
 z213:=sizeOf366
 t232:=underlying390
 a232:=isAgg390
 z232:=sizeOf390
 v232:=zeroValue390
 t233:=underlying391
 a233:=isAgg391
 z233:=sizeOf391
 v233:=zeroValue391
 g15:=by kernel_rfl
 g16:=by kernel_rfl
 g17:=by kernel_rfl
 g18:=by kernel_rfl
 g19:=by kernel_rfl
}
theorem lD (s:Nc)(w:Wd):Calls prog 252 #[s,.string ⟨#[48]⟩] w fun e w'=>e =.returned (.string ⟨(ea s.data.toList).toArray⟩)/\w=w':=
 (Any.strings_TrimLeft_one Ju s 48 (by decide) w).mono fun _ _ ⟨h1,h2⟩=>⟨h1,h2.symm⟩
theorem qN (s:Nc)(hs:s.size<=9223372036854775807)(w:Wd):Calls prog 253 #[s,.string ⟨#[48]⟩] w fun e w'=>e =.returned (.string ⟨(o8 s.data.toList).toArray⟩)/\w=w':=
 (Any.strings_TrimRight_one Jn s 48 (by decide) w hs).mono fun _ _ ⟨h1,h2⟩=>⟨h1,h2.symm⟩
theorem vy:∀ (l:Na) (a:Nat),(∀c∈l,eV c=true)->Lib.decFrom a l=some (l.foldl (fun a c=>a*10+ (c.toNat - 48)) a)
 | [],a,_=>rfl
 |c::l,a,h=>by
  have hd:=h c (by simp);have hv:Lib.digitVal c=some (c.toNat - 48):=by
   have:=wI (p:=fun c=> !eV c||(Lib.digitVal c==some (c.toNat - 48))) (by decide +kernel) c;simpa [hd] using this
  show(match Lib.digitVal c with|some d=>Lib.decFrom (a*10+d) l|none=>none)=_
  rw[hv];exact vy l _ (fun c hc=>h c (Zm _ hc))
theorem F0 (h:∀c∈l,eV c=true)(hl:l.length<=12)(w:Wd):Calls prog 254 #[.string ⟨(48::l).toArray⟩] w fun e w'=>e =.returned (.tuple #[((ku l:Nat):Int),.nilIface])/\ge w w':=by
 have ha:Lib.atoi (⟨(48::l).toArray⟩:Nc).data.toList=some ((ku l:Nat):Int):=by
  show(Lib.decNat (48::l)).map _=_
  have:Lib.decNat (48::l)=some (ku l):=by
   show Lib.decFrom 0 (48::l)=_
   rw[vy (48::l) 0 (by intro c hc;rcases List.mem_cons.1 hc with rfl|hc;decide;exact h c hc)];rfl
  rw[this];rfl
 refine(Any.strconv_Atoi Er ⟨(48::l).toArray⟩ _ (by show(48::l).length<=18;simp;omega) ha w).mono ?_;rintro e w' ⟨rfl,t,rfl⟩;exact⟨rfl,⟨rfl,rfl,rfl,by rw[Lib.bytesWorld_size];omega,fun k hk=>Lib.bytesWorld_at_old _ _ _ _ hk⟩⟩
theorem lh (h:∀c∈l,eV c=true):∀c∈ea l,eV c=true:=fun c hc=>h c ((List.dropWhile_sublist _).mem hc)
theorem wS:∀ (l:Na),(∀c∈l,eV c=true)->ku l.reverse<10 ^ l.length
 | [],_=>by decide
 |c::l,h=>by
  have h1:=wS l (fun c hc=>h c (Zm _ hc));have h2:=h c (by simp);unfold eV at h2;simp at h2;rw[List.reverse_cons,rX,List.length_cons,Nat.pow_succ];omega
theorem AR (l:Na)(h:∀c∈l,eV c=true):ku l<10 ^ l.length:=by
 have:=wS l.reverse (fun c hc=>h c (List.mem_reverse.1 hc))
 rwa[List.reverse_reverse,List.length_reverse] at this
theorem LE (l:Na):(⟨#[48]⟩:Nc)++ ⟨l.toArray⟩= ⟨(48::l).toArray⟩:=by
 apply ByteArray.ext
 simp
theorem Ii {t:NS}(hd:∀c∈t.exps,eV c=true): -1099511627776<=gT t/\gT t<=1099511627776:=by
 have h1:=AR _ (lh hd);unfold gT
 by_cases h:(ea t.exps).length<=12
 .have h2:10 ^ (ea t.exps).length<=10 ^ 12:=Nat.pow_le_pow_right (by decide) h;simp only[if_pos h]
  split <;> omega
 .simp only[if_neg h]
  split <;> omega
theorem rM (t:NS)(vd ve:Value)(a4:Bs w ve t.exps)(hd:∀c∈t.exps,eV c=true)(hl:t.exps.length<=1000000000):Calls prog 243 #[.agg #[.bool t.neg,.bool t.down,vd,.int .i64 t.part,ve,.int .i64 t.st,.int .i64 t.n]] w fun e w'=>e =.returned (.int .i64 (gT t))/\Below w.heap.size w w':=by
 obtain⟨neg,down,digs,part,exps,st,n⟩:=t
 dsimp only at *
 have hv:=AR _ (lh hd);have a9:=Qa (fun hl w=>F0 (l:=ea exps) (lh hd) hl w);have hle:(ea exps).length<=exps.length:=(List.dropWhile_sublist _).length_le;have hb:=aa w (.cells #[.bool neg,.bool down,vd,.int .i64 part,ve,.int .i64 st,.int .i64 n] 372);have hc:=a8 (a4.below hb);have Hb:=Qa hb;have a3:gT ⟨neg,down,digs,part,exps,st,n⟩= (if down then -(if(ea exps).length<=12 then((ku (ea exps):Nat):Int) else 1099511627776) else(if(ea exps).length<=12 then((ku (ea exps):Nat):Int) else 1099511627776)):=rfl;rw[a3];clear hb a4 hd a3;have e1:(⟨exps.toArray⟩:ByteArray).data.toList=exps:=rfl;have a6:=Qa (fun w=>lD ⟨exps.toArray⟩ w);rw[e1] at a6;clear e1;generalize ea exps=l at *;have hsz:(⟨l.toArray⟩:ByteArray).size=l.length:=rfl;have a0:=LE l;obtain⟨s,hs⟩:∃s:ByteArray,⟨l.toArray⟩=s:=⟨_,rfl⟩;rw[hs] at hsz a0;have Hs:=Qa hs;have b0:=Qa a0;clear a0;obtain⟨z,hz⟩:∃z:Int,(if l.length<=12 then((ku l:Nat):Int) else 1099511627776)=z:=⟨_,rfl⟩;rw[hz];go_in;go_wp2_with fail;refine(a6 _).mono ?_;rintro e w1 ⟨rfl,rfl⟩;rw[Hs.out];clear hs hc
 by_cases h12:l.length<=12
 ·have a1:(s.size:Int)<=12:=by omega
  have b1:ku l<1000000000000:=Nat.lt_of_lt_of_le hv (Nat.pow_le_pow_right (by decide) h12);rw[if_pos h12] at hz;subst hz;go_wp2_with fail;rw[b0.out];refine(a9 h12 _).mono ?_;rintro e w2 ⟨rfl,a2⟩;have a5:=bI Hb.out a2;have a7:=Qa a5;have c1:w2.cell? ⟨w.heap.size,1,none⟩=some (.bool down):=Zg a2 (ac (Zf w (.cells #[.bool neg,.bool down,vd,.int .i64 part,ve,.int .i64 st,.int .i64 n] 372)) (j:=1) rfl);clear a2 a5
  cases down with
  |true=>
   go_wp2;go_ret;exact⟨rfl,a7⟩
  |false=>
   go_wp2;go_ret;exact⟨rfl,a7⟩
 ·have a1:¬ (s.size:Int)<=12:=by omega
  rw[if_neg h12] at hz;subst hz
  cases down with
  |true=>
   go_wp2;go_ret;exact⟨rfl,Hb⟩
  |false=>
   go_wp2;go_ret;exact⟨rfl,Hb⟩
def L7:Option Dc->Value->Prop
 |some d,v=>v =.tuple #[.agg #[.bool d.neg,d.digits,(d.exp:Int)],true]
 |none,v=> ∃a b c,v =.tuple #[.agg #[.bool a,.string b,(c:Int)],false]
theorem Dq:(prog.info? 120).map (·.size)=some 3:=by kernel_rfl
theorem iZ {fn:Func}{p q:Tmp}(h:fn.results = #[.cell p 120,.tmp q])(tmps:Array Value)(w:Wd)(g:Nat)(t:TypeId)(d0 d1 d2:Value)(fr:Nat×Nat)
  (hp:tmps.getD p undef =.pointer (some (nl g))) (hg:w.heap[g]?=some (.cells #[d0,d1,d2] t fr)):(results fn tmps).run prog w =.ok (.tuple #[.agg #[d0,d1,d2],tmps.getD q undef]) w:=by
 have a0:tmps[p]?.getD undef =.pointer (some (nl g)):=by simpa using hp
 have hl:=run_loadVar_row (P:=prog) w g t 120 #[d0,d1,d2] fr _ hg underlying120 rfl Dq;simp[results,h,a0,asAddr,hl]
theorem jS {fn:Func}{p q r:Tmp}(h:fn.results = #[.cell p 120,.tmp q,.tmp r])(tmps:Array Value)(w:Wd)(g:Nat)(t:TypeId)(d0 d1 d2:Value)(fr:Nat×Nat)
  (hp:tmps.getD p undef =.pointer (some (nl g))) (hg:w.heap[g]?=some (.cells #[d0,d1,d2] t fr)):(results fn tmps).run prog w =.ok (.tuple #[.agg #[d0,d1,d2],tmps.getD q undef,tmps.getD r undef]) w:=by
 have a0:tmps[p]?.getD undef =.pointer (some (nl g)):=by simpa using hp
 have hl:=run_loadVar_row (P:=prog) w g t 120 #[d0,d1,d2] fr _ hg underlying120 rfl Dq;simp[results,h,a0,asAddr,hl]
def Br (neg:Bool)(l:Na)(x m:Int)(w:Wd)(e:Ending)(w':Wd):Prop:= ∃v,e =.returned v/\L7 (jv neg l x m) v/\ge w w'
theorem jz (neg:Bool)(l:Na)(x m:Int)(hl:l.length<=1000000000)(hx: -9223372036854775808<=x/\x<=9223372036854775807)(hm: -1000000000<=m/\m<=1000000000)(w:Wd):Calls prog 242 #[.bool neg,.string ⟨l.toArray⟩,(x:Int),(m:Int)] w (Br neg l x m w):=by
 have hle:(ea l).length<=l.length:=(List.dropWhile_sublist _).length_le;have a0:=Qa (fun w=>lD ⟨l.toArray⟩ w);have e1:(⟨l.toArray⟩:Nc).data.toList=l:=rfl;rw[e1] at a0;unfold Br jv
 dsimp only
 clear e1;generalize hd:ea l=d at *;have hb:=aa w (.cells #[false,es,(0:Int)] 120);have h0:=Zf w (.cells #[false,es,(0:Int)] 120);have Hb:=Qa hb;have H0:=Qa h0;clear hb h0 hd
 by_cases hde:d = []
 .subst hde;rw[if_pos rfl];go_in;go_wp2_with fail;refine(a0 _).mono ?_;rintro e w1 ⟨rfl,rfl⟩;have h4:=H0.out;go_wp2_with (refine bQ h4 ?_);exact Zh (iZ results242 _ _ w.heap.size 120 _ _ _ (0,0) (by simp) (setRow_heap _ _ _ _ _ _ H0)) rfl ⟨_,rfl,rfl,Hb.grown (aj ..) Hb.size (fun g e=>by cases e;exact Zb _)⟩
 .rw[if_neg hde];have hs:∃s:Nc,⟨d.toArray⟩=s/\s.toList.isEmpty=false/\s.size=d.length:=⟨_,rfl,by rw[ByteArray.toList_eq];simpa using hde,rfl⟩;obtain⟨s,a1,b0,a3⟩:=hs;have a2:=Qa (fun w=>qN s (by omega) w);have e2:s.data.toList=d:=by rw[<-a1]
  rw[e2] at a2;have a9:(o8 d).length<=d.length:=by
   unfold o8;have:=(List.dropWhile_sublist (l:=d.reverse) (p:=(· == 48))).length_le;simp only[ea,List.length_reverse] at this ⊢;exact this
  generalize o8 d=r at *;have hr:∃q:Nc,⟨r.toArray⟩=q/\q.size=r.length:=⟨_,rfl,rfl⟩;obtain⟨q,a4,a7⟩:=hr;rw[a1] at a0;rw[a4] at a2 ⊢;clear a1 a4 e2;rw[<-a3,<-a7];have b4:q.size<=s.size:=by omega
  have b1:s.size<=1000000000:=by omega
  clear a3 a7 a9 hle;generalize hy:pH x=y at *;have b2: -2199023255552<=y/\y<=2199023255552:=by unfold pH at hy;omega
  have b3:max (-2199023255552) (min x 2199023255552)=y:=hy;clear hy;go_in;go_wp2_with fail;refine(a0 _).mono ?_;rintro e w1 ⟨rfl,rfl⟩;go_wp2_with fail;refine(a2 _).mono ?_;rintro e w1 ⟨rfl,rfl⟩;have h4:=H0.out;have s1:=y9 ((s.size:Int) - q.size);have s2:=y9 (y+m+ ((s.size:Int) - q.size))
  by_cases a5: -1000000000<=y+m+ ((s.size:Int) - q.size)
  .by_cases a6:y+m+ ((s.size:Int) - q.size)<=1000000000
   .have Hz:=NA a5 a6;go_wp2_with (refine bQ h4 ?_);exact Zh (iZ results242 _ _ w.heap.size 120 _ _ _ (0,0) (by simp) (setRow_heap _ _ _ _ _ _ H0)) rfl ⟨_,rfl,by first|rfl|(rw[if_pos Hz.out];rfl),Hb.grown (aj ..) Hb.size (fun g e=>by cases e;exact Zb _)⟩
   .have Hz:=Qa (show ¬ (-1000000000<=y+m+ ((s.size:Int) - q.size)/\y+m+ ((s.size:Int) - q.size)<=1000000000) from fun h=>a6 h.2);go_wp2_with (refine bQ h4 ?_);exact Zh (iZ results242 _ _ w.heap.size 120 _ _ _ (0,0) (by simp) (setRow_heap _ _ _ _ _ _ H0)) rfl ⟨_,rfl,by first|exact⟨_,_,_,rfl⟩|(rw[if_neg Hz.out];exact⟨_,_,_,rfl⟩),Hb.grown (aj ..) Hb.size (fun g e=>by cases e;exact Zb _)⟩
  .have Hz:=Qa (show ¬ (-1000000000<=y+m+ ((s.size:Int) - q.size)/\y+m+ ((s.size:Int) - q.size)<=1000000000) from fun h=>a5 h.1);go_wp2_with (refine bQ h4 ?_);exact Zh (iZ results242 _ _ w.heap.size 120 _ _ _ (0,0) (by simp) (setRow_heap _ _ _ _ _ _ H0)) rfl ⟨_,rfl,by first|exact⟨_,_,_,rfl⟩|(rw[if_neg Hz.out];exact⟨_,_,_,rfl⟩),Hb.grown (aj ..) Hb.size (fun g e=>by cases e;exact Zb _)⟩
abbrev bR (a:Addr):Value:=.iface 425 (.pointer (some a))
def bG (w:Wd)(g:Nat):Prop:= ∃a,w.cell? (nl g)=some (bR a)
theorem bG.below (h:bG w g)(hb:ge w w'):bG w' g:=by
 obtain⟨a,h⟩:=h;exact⟨a,Zg hb h⟩
def Ks (w:Wd)(v:Value):Prop:= ∃ (g:Nat) (p:Int) (a:Addr),v =.iface 249 (.pointer (some (nl g)))/\w.heap[g]?=some (.cells #[(p:Int),bR a] 251 (0,0))
theorem Ks.below (h:Ks w v)(hb:ge w w'):Ks w' v:=by
 obtain⟨g,p,a,e,hg⟩:=h;exact⟨g,p,a,e,al hg hb⟩
def ML (d:Dc):Value:=.agg #[.bool d.neg,d.digits,(d.exp:Int)]
def JN (r:Option (Dc×Nat))(w:Wd)(e:Ending)(w':Wd):Prop:=ge w w'/\match r with
 |some p=>e =.returned (.tuple #[ML p.1,(p.2:Int),.nilIface])
 |none=> ∃v,e =.returned (.tuple #[.agg #[false,es,(0:Int)],(0:Int),v])/\Ks w' v
theorem FM:∀ (t:NS),t.part<=t.n->t.digs.length<=t.n->t.exps.length<=t.n->(∀c∈t.exps,eV c=true)->t.n+xs.length<=1000000000->
  (aG t xs).part<=1000000000/\(aG t xs).digs.length<=1000000000/\(aG t xs).exps.length<=1000000000/\(aG t xs).n<=1000000000/\∀c∈(aG t xs).exps,eV c=true:=by
 induction xs with
 |nil=>intro t h1 h2 h3 h4 h5;simp at h5;unfold aG;exact⟨by omega,by omega,by omega,by omega,h4⟩
 |cons c xs ih=>
  intro t h1 h2 h3 h4 h5;simp only[List.length_cons] at h5;unfold aG
  split
  .exact⟨by omega,by omega,by omega,by omega,h4⟩
  .rename_i h9
   refine ih (t.next c) ?_ ?_ ?_ ?_ ?_
   .simp only[NS.next];split <;> omega
   .simp only[NS.next];split
    .simp;omega
    .omega
   .simp only[NS.next];split
    .simp;omega
    .omega
   .simp only[NS.next];split
    .rename_i h8
     intro a ha;rcases List.mem_append.1 ha with ha|ha
     .exact h4 a ha
     .rw[List.mem_singleton.1 ha]
      -- state 8 is reached by digits alone
      have key:∀s,s<9->∀k,k<7->fm s k=8->k=2\/k=3:=by decide +kernel
      have h7:fm t.st (bH c)=8->bH c=2\/bH c=3:=by
       intro h
       by_cases hs:t.st<9
       .exact key _ hs _ (by have:=uV c;omega) h
       .exfalso
        unfold fm at h
        split at h
        .rw[List.getD_eq_getElem?_getD,List.getElem?_eq_none (by show px.length<=_;simp[px];omega)] at h;simp at h
        .omega
      have hk:=h7 h8;have:=wI (p:=fun c=> !(bH c==2||bH c==3)||eV c) (by decide +kernel) c;rcases hk with hk|hk <;> simpa [hk] using this
    .exact h4
   .simp only[NS.next];omega
def MP (r:Option Dc)(a:Bool)(b:Nc)(c:Int)(ok:Bool):Prop:=match r with|some d=>ok=true/\a=d.neg/\b=d.digits/\c=d.exp|none=>ok=false
theorem L7.form {r:Option Dc}(h:L7 r v):∃a b c ok,v =.tuple #[.agg #[.bool a,.string b,(c:Int)],.bool ok]/\MP r a b c ok:=by
 cases r with
 |none=>obtain⟨a,b,c,rfl⟩:=h;exact⟨a,b,c,false,rfl,rfl⟩
 |some d=>obtain rfl:=h;exact⟨_,_,_,true,rfl,rfl,rfl,rfl,rfl⟩
def M6 (r:Option Dc)(w3:Wd)(s6 s7:Value)(wx:Wd):Prop:= ∃gz a b c ok,s6 =.pointer (some (nl gz))/\s7 =.bool ok/\wx.heap[gz]?=some (.cells #[.bool a,.string b,(c:Int)] 120 (0,0))/\ge w3 wx/\MP r a b c ok/\w3.heap.size<=gz
def SP (g:Nat)(t:NS)(Ad:OA)(nd qd:Nat)(Ae:OA)(ne qe:Nat)(w':Wd):Prop:=w'.cell? (nl g)=some (.bool t.neg)/\w'.cell? (no g 1)=some (.bool t.down)/\w'.cell? (no g 2)=some (.slice Ad nd qd)/\w'.cell? (no g 3)=some (.int .i64 t.part)/\w'.cell? (no g 4)=some (.slice Ae ne qe)/\w'.cell? (no g 5)=some (.int .i64 t.st)/\w'.cell? (no g 6)=some (.int .i64 t.n)/\
 (convert 30 9 (.slice Ad nd qd)).run prog w' =.ok (.string ⟨t.digs.toArray⟩) w'/\Bs w' (.slice Ad nd qd) t.digs
theorem SP.below {t:NS}{Ad:OA}{qd:Nat}{Ae:OA}{ne qe:Nat}(h:SP g t Ad nd qd Ae ne qe w)(hb:ge w w'):SP g t Ad nd qd Ae ne qe w':=by
 obtain⟨h0,h1,h2,h3,h4,h5,h6,-,h8⟩:=h;exact⟨Zg hb h0,Zg hb h1,Zg hb h2,Zg hb h3,Zg hb h4,Zg hb h5,Zg hb h6,a8 (h8.below hb),h8.below hb⟩
theorem ub (hb:Bs w v xs)(hl:xs.length<=1000000000)(hG:qp w)(hN:bG w 12)(hX:bG w 13):Calls prog 230 #[v] w (JN (pU xs) w):=by
 have c9:=aa w (.cells #[false,es,(0:Int)] 120);have h0:=Zf w (.cells #[false,es,(0:Int)] 120);have f8:=Qa (vj (hb.below c9) hl (hG.below c9));have h3:12<w.heap.size:=by obtain⟨a,h⟩:=hN;exact World.block_lt_of_cell? w _ h
 have g9:13<w.heap.size:=by obtain⟨a,h⟩:=hX;exact World.block_lt_of_cell? w _ h
 have g0:=hN.below c9;have f3:=hX.below c9;have hnum:pU xs=if eG (aG jn xs).st then(jv (aG jn xs).neg (aG jn xs).digs (gT (aG jn xs)) (-((aG jn xs).part:Int))).map fun d=>(d,(aG jn xs).n) else none:=rfl
 obtain⟨b1,b2,b3,b4,b5⟩:=FM (xs:=xs) jn (Zb _) (Zb _) (Zb _) (by simp[jn]) (by show 0+xs.length<=_;omega);rw[hnum];clear hb hG hN hX hnum;generalize aG jn xs=t at *;have B5:=Qa b5;have h7:=Ii b5;have H0:=Qa h0;have e3:=Qa c9;have HN:=Qa g0;have HX:=Qa f3;clear b5 h0 c9 g0 f3;go_in;go_wp2_with fail;generalize w.alloc (.cells #[false,es,(0:Int)] 120)=w0 at *;refine Za f8 ?_;rintro e w1 ⟨vd,ve,rfl,c7,hd,he⟩;obtain⟨Ad,nd,qd,rfl⟩:∃A n q,vd =.slice A n q:=by obtain⟨A,c,e,_⟩:=ai hd;exact⟨A,_,c,e⟩
 obtain⟨Ae,ne,qe,rfl⟩:∃A n q,ve =.slice A n q:=by obtain⟨A,c,e,_⟩:=ai he;exact⟨A,_,c,e⟩
 have hz:=Zf w1 J1;have f4:=aj (w1.alloc J1) w1.heap.size #[.bool t.neg,.bool t.down,.slice Ad nd qd,(t.part:Int),.slice Ae ne qe,(t.st:Int),(t.n:Int)];have b6:ge w1 ((w1.alloc J1).setRow w1.heap.size #[.bool t.neg,.bool t.down,.slice Ad nd qd,(t.part:Int),.slice Ae ne qe,(t.st:Int),(t.n:Int)]):=(aa w1 J1).grown f4 (by simp) (fun g e=>by cases e;exact Zb _);have ht:=setRow_heap (w1.alloc J1) w1.heap.size _ #[.bool t.neg,.bool t.down,.slice Ad nd qd,(t.part:Int),.slice Ae ne qe,(t.st:Int),(t.n:Int)] _ _ hz;have e0:=Qa (e3.trans ((c7.trans (b6.mono c7.size)).mono e3.size));have e5:=Qa (al (al H0 c7) b6);have f1:=Qa ((HN.below c7).below b6);have g1:=Qa ((HX.below c7).below b6);have Hd:=Qa (hd.bs.below b6);have He:=Qa (he.bs.below b6);have Ht:=Qa ht;have h5:w.heap.size<w1.heap.size:=Nat.lt_of_lt_of_le (ah H0) c7.size;have h4:=b6.size;clear f8 c7 hd he b6 ht e3 H0 HN HX f4;have f9:(w1.alloc (.cells #[false,false,(),(0:Int),(),(0:Int),(0:Int)] 372)).heap[w1.heap.size]?=some (.cells #[false,false,(),(0:Int),(),(0:Int),(0:Int)] 372):=hz;clear hz;go_upto_region 2 with (refine bQ f9 ?_)
 unfold J1 at *;generalize (w1.alloc (.cells #[false,false,(),(0:Int),(),(0:Int),(0:Int)] 372)).setRow w1.heap.size #[.bool t.neg,.bool t.down,.slice Ad nd qd,(t.part:Int),.slice Ae ne qe,(t.st:Int),(t.n:Int)]=w2 at *;clear f9;have c0:=ac Ht.out (j:=0) (u:=.bool t.neg) rfl;have c1:=ac Ht.out (j:=1) (u:=.bool t.down) rfl;have c2:=ac Ht.out (j:=2) (u:=.slice Ad nd qd) rfl;have c3:=ac Ht.out (j:=3) (u:=(t.part:Int)) rfl;have c4:=ac Ht.out (j:=4) (u:=.slice Ae ne qe) rfl;have c5:=ac Ht.out (j:=5) (u:=(t.st:Int)) rfl;have c6:=ac Ht.out (j:=6) (u:=(t.n:Int)) rfl
 by_cases hw:eG t.st=true
 .go_wp2_with fail;refine(rV t (.slice Ad nd qd) (.slice Ae ne qe) w2).mono ?_;rintro e w3 ⟨rfl,a5⟩;rw[hw];have H3:=Qa (al Ht.out a5);have c8:=Qa (e0.trans (a5.mono e0.size));have d7:=Qa (al e5.out a5);have f7:=Qa (g1.below a5);have f0:=Qa (Hd.below a5);have e7:=Qa (He.below a5);have d0:=ac H3.out (j:=0) (u:=.bool t.neg) rfl;have d1:=ac H3.out (j:=1) (u:=.bool t.down) rfl;have d2:=ac H3.out (j:=2) (u:=.slice Ad nd qd) rfl;have d3:=ac H3.out (j:=3) (u:=(t.part:Int)) rfl;have d4:=ac H3.out (j:=4) (u:=.slice Ae ne qe) rfl;have d5:=ac H3.out (j:=5) (u:=(t.st:Int)) rfl;have d6:=ac H3.out (j:=6) (u:=(t.n:Int)) rfl;have g7:=a5.size;clear a5 c0 c1 c2 c3 c4 c5 c6 Hd He g1 f1 e5 e0 Ht;go_wp2_with fail;have h6:w.heap.size<w3.heap.size:=ah d7.out;have swn:=y9 (-(t.part:Int));go_cut [6,7] (fun s6 s7 wx=>M6 (jv t.neg t.digs (gT t) (-(t.part:Int))) w3 s6 s7 wx)
  case first=>
   obtain⟨wq,hwq⟩:=y7 w3.drew;have Hq:Hid (ge w3 wq):=Qa (by rw[<-hwq];exact(Ze _ _).drew);have SP3:Hid (SP w1.heap.size t Ad nd qd Ae ne qe w3):=Qa ⟨d0,d1,d2,d3,d4,d5,d6,a8 f0.out,f0.out⟩;refine aI (fun w'=>w'.cell? (nl w1.heap.size)=some (.bool t.neg)/\w'.cell? (no w1.heap.size 1)=some (.bool t.down)/\w'.cell? (no w1.heap.size 2)=some (.slice Ad nd qd)/\w'.cell? (no w1.heap.size 3)=some (.int .i64 t.part)/\w'.cell? (no w1.heap.size 4)=some (.slice Ae ne qe)/\w'.cell? (no w1.heap.size 5)=some (.int .i64 t.st)/\w'.cell? (no w1.heap.size 6)=some (.int .i64 t.n)/\(convert 30 9 (.slice Ad nd qd)).run prog w' =.ok (.string ⟨t.digs.toArray⟩) w'/\Bs w' (.slice Ad nd qd) t.digs) ((by rw[hwq];exact(SP.below SP3 Hq.out:SP w1.heap.size t Ad nd qd Ae ne qe wq))) fun a0=>?_
   rw[hwq] at a0 ⊢;clear hwq;refine bw 0 1 2 a0 ?_;refine bw 3 4 5 a0 ?_;refine bw 7 8 9 a0 ?_;refine wpAnyH_ready (rs:= [6,14]) (by kernel_rfl) (by simp) ?_;refine AllReadyH.cons (pk rfl) (fun K hK=>?_) (AllReadyH.cons (pk rfl) (fun K hK=>?_) AllReadyH.nil);go_simp;refine(rM t (.slice Ad nd qd) (.slice Ae ne qe) (e7.below Hq) B5 b3).mono ?_;rintro e wn ⟨rfl,hb⟩;have Hq:=Qa (bI Hq.out hb);(try have Hzq:=Qa (al Hzq.out hb));obtain⟨wq,hwq⟩:∃x,x=wn:=⟨_,rfl⟩;subst hwq;refine hK _ _ ((SP.below SP3 Hq.out:SP w1.heap.size t Ad nd qd Ae ne qe _)) (fun a0=>?_);clear hK K
   try simp only[Act.put,jP,jQ,jR]
   refine wpAnyH_ready (rs:= [10,14]) (by kernel_rfl) (by simp) ?_;refine AllReadyH.cons (pk rfl) (fun K hK=>?_) (AllReadyH.cons (pk rfl) (fun K hK=>?_) AllReadyH.nil);go_simp;(try rw[swn]);refine(jz t.neg t.digs (gT t) (-(t.part:Int)) b2 (by omega) (by omega) wq).mono ?_;rintro e wn ⟨vN,rfl,b0,hb⟩;obtain⟨a,b,c,ok,rfl,a9⟩:=b0.form;have Hvr:=Qa a9;clear a9 b0;have Hq:=Qa (bI Hq.out hb);(try have Hzq:=Qa (al Hzq.out hb));obtain⟨wq,hwq⟩:∃x,x=wn:=⟨_,rfl⟩;subst hwq;refine hK _ _ ((SP.below SP3 Hq.out:SP w1.heap.size t Ad nd qd Ae ne qe _)) (fun a0=>?_);clear hK K
   try simp only[Act.put,jP,jQ,jR]
   refine bw 11 12 13 a0 ?_;refine rH 14 fun K hK=>?_
   go_simp;have hb:=aa wq (.cells #[false,es,(0:Int)] 120);have a7:=Zf wq (.cells #[false,es,(0:Int)] 120);obtain⟨gz,b7⟩:=y7 wq.heap.size;have Hgz:=Qa (show w3.heap.size<=gz by rw[<-b7];exact Hq.size);rw[b7] at a7 ⊢;have Hzq:=Qa a7;have Hq:=Qa (bI Hq.out hb);obtain⟨wn,a3⟩:=y7 (wq.alloc (.cells #[false,es,(0:Int)] 120));rw[a3] at Hzq Hq hb ⊢;clear a7;obtain⟨wq,hwq⟩:∃x,x=wn:=⟨_,rfl⟩;subst hwq;refine hK _ _ ((SP.below SP3 Hq.out:SP w1.heap.size t Ad nd qd Ae ne qe _)) (fun a0=>?_);clear hK K
   try simp only[Act.put,jP,jQ,jR]
   rotate_left
   go_simp;have hb:=aa wq (.cells #[false,es,(0:Int)] 120);have a7:=Zf wq (.cells #[false,es,(0:Int)] 120);obtain⟨gz,b7⟩:=y7 wq.heap.size;have Hgz:=Qa (show w3.heap.size<=gz by rw[<-b7];exact Hq.size);rw[b7] at a7 ⊢;have Hzq:=Qa a7;have Hq:=Qa (bI Hq.out hb);obtain⟨wn,a3⟩:=y7 (wq.alloc (.cells #[false,es,(0:Int)] 120));rw[a3] at Hzq Hq hb ⊢;clear a7;obtain⟨wq,hwq⟩:∃x,x=wn:=⟨_,rfl⟩;subst hwq;refine hK _ _ ((SP.below SP3 Hq.out:SP w1.heap.size t Ad nd qd Ae ne qe _)) (fun a0=>?_);clear hK K
   try simp only[Act.put,jP,jQ,jR]
   refine rH 10 fun K hK=>?_
   go_simp;(try rw[swn]);refine(jz t.neg t.digs (gT t) (-(t.part:Int)) b2 (by omega) (by omega) wq).mono ?_;rintro e wn ⟨vN,rfl,b0,hb⟩;obtain⟨a,b,c,ok,rfl,a9⟩:=b0.form;have Hvr:=Qa a9;clear a9 b0;have Hq:=Qa (bI Hq.out hb);(try have Hzq:=Qa (al Hzq.out hb));obtain⟨wq,hwq⟩:∃x,x=wn:=⟨_,rfl⟩;subst hwq;refine hK _ _ ((SP.below SP3 Hq.out:SP w1.heap.size t Ad nd qd Ae ne qe _)) (fun a0=>?_);clear hK K
   try simp only[Act.put,jP,jQ,jR]
   refine bw 11 12 13 a0 ?_
   rotate_left
   go_simp;have hb:=aa wq (.cells #[false,es,(0:Int)] 120);have a7:=Zf wq (.cells #[false,es,(0:Int)] 120);obtain⟨gz,b7⟩:=y7 wq.heap.size;have Hgz:=Qa (show w3.heap.size<=gz by rw[<-b7];exact Hq.size);rw[b7] at a7 ⊢;have Hzq:=Qa a7;have Hq:=Qa (bI Hq.out hb);obtain⟨wn,a3⟩:=y7 (wq.alloc (.cells #[false,es,(0:Int)] 120));rw[a3] at Hzq Hq hb ⊢;clear a7;obtain⟨wq,hwq⟩:∃x,x=wn:=⟨_,rfl⟩;subst hwq;refine hK _ _ ((SP.below SP3 Hq.out:SP w1.heap.size t Ad nd qd Ae ne qe _)) (fun a0=>?_);clear hK K
   try simp only[Act.put,jP,jQ,jR]
   refine rH 6 fun K hK=>?_
   go_simp;refine(rM t (.slice Ad nd qd) (.slice Ae ne qe) (e7.below Hq) B5 b3).mono ?_;rintro e wn ⟨rfl,hb⟩;have Hq:=Qa (bI Hq.out hb);(try have Hzq:=Qa (al Hzq.out hb));obtain⟨wq,hwq⟩:∃x,x=wn:=⟨_,rfl⟩;subst hwq;refine hK _ _ ((SP.below SP3 Hq.out:SP w1.heap.size t Ad nd qd Ae ne qe _)) (fun a0=>?_);clear hK K
   try simp only[Act.put,jP,jQ,jR]
   refine rH 10 fun K hK=>?_
   go_simp;(try rw[swn]);refine(jz t.neg t.digs (gT t) (-(t.part:Int)) b2 (by omega) (by omega) wq).mono ?_;rintro e wn ⟨vN,rfl,b0,hb⟩;obtain⟨a,b,c,ok,rfl,a9⟩:=b0.form;have Hvr:=Qa a9;clear a9 b0;have Hq:=Qa (bI Hq.out hb);(try have Hzq:=Qa (al Hzq.out hb));obtain⟨wq,hwq⟩:∃x,x=wn:=⟨_,rfl⟩;subst hwq;refine hK _ _ ((SP.below SP3 Hq.out:SP w1.heap.size t Ad nd qd Ae ne qe _)) (fun a0=>?_);clear hK K
   try simp only[Act.put,jP,jQ,jR]
   refine bw 11 12 13 a0 ?_
   rotate_left
   all_goals
    refine rH 15 fun K hK=>?_
    refine bZ Hzq.out ?_;have Hq:=Qa (Hq.grown (aj wq gz #[.bool a,b,(c:Int)]) Hq.size (fun g e=>by cases e;exact Hgz.out));have Hzq:=Qa (setRow_heap _ _ _ #[.bool a,b,(c:Int)] _ _ Hzq.out);obtain⟨wn,a3⟩:=y7 (wq.setRow gz #[.bool a,b,(c:Int)]);rw[a3] at Hzq Hq ⊢;obtain⟨wq,hwq⟩:∃x,x=wn:=⟨_,rfl⟩;subst hwq;refine hK _ _ ((SP.below SP3 Hq.out:SP w1.heap.size t Ad nd qd Ae ne qe _)) (fun a0=>?_);clear hK K
    try simp only[Act.put,jP,jQ,jR]
    refine tH 16 a0 ?_;refine y5 ?_;go_wp2_with fail;go_meet
    case rel=>exact⟨gz,a,b,c,ok,rfl,rfl,Hzq,Hq,Hvr,Hgz⟩
  case rest=>
   obtain⟨gz,a,b,c,ok,rfl,rfl,hz,hq,f2,g8⟩:=hcut;have f5:=Qa f2;have e6:=Zg hq d6;have e1:=Qa (al d7.out hq);have e2:=Qa (c8.trans (hq.mono c8.size));have g6:=Qa (f7.below hq);have z0:=ac hz (j:=0) (u:=.bool a) rfl;have z1:=ac hz (j:=1) (u:=.string b) rfl;have z2:=ac hz (j:=2) (u:=(c:Int)) rfl;have e4:w.heap.size<gz:=by omega
   clear hz hq f2 d0 d1 d2 d3 d4 d5 d6 f0 e7 H3 d7 c8 f7;obtain⟨aX,g2⟩:=g6.out
   cases ok with
   |true=>
    have e8:=Qa ((e2.drew).grown (aj wc.drew w.heap.size #[.bool a,b,(c:Int)]) e2.size (fun g e=>by cases e;exact Zb _));have b8:gz≠w.heap.size:=fun e=>by subst e;exact absurd e4 (Nat.lt_irrefl _)
    go_wp2_with fail;refine aI (fun w'=>w'.cell? (nl gz)=some (.bool a)/\w'.cell? (no gz 1)=some (.string b)/\w'.cell? (no gz 2)=some (.int .i64 c)/\w'.cell? (no w1.heap.size 6)=some (.int .i64 t.n)) (⟨z0,z1,z2,e6⟩) fun a0=>?_
    refine bw 0 1 2 a0 ?_;refine rH 3 fun K hK=>?_
    refine bZ e1.out ?_;have hg:=aj wc.drew w.heap.size #[.bool a,b,(c:Int)];refine hK _ _ (⟨hg.cell a0.1 (fun e=>by injection e with e;exact b8 e),hg.cell a0.2.1 (fun e=>by injection e with e;exact b8 e),hg.cell a0.2.2.1 (fun e=>by injection e with e;exact b8 e),hg.cell a0.2.2.2 (fun e=>by injection e with e;have e:w1.heap.size=w.heap.size:=e;omega)⟩) (fun a0=>?_);clear hK K
    try simp only[Act.put,jP,jQ,jR]
    refine tH 4 a0 ?_;refine tH 5 a0 ?_;refine y5 ?_;go_wp2_with fail;have hd:=f5.out;have d9:JN ((jv t.neg t.digs (gT t) (-(t.part:Int))).map fun d=>(d,t.n)) w (.returned (.tuple #[.agg #[.bool a,b,(c:Int)],(t.n:Int),.nilIface])) (wc.drew.setRow w.heap.size #[.bool a,b,(c:Int)]):=by
     refine⟨e8,?_⟩
     cases hr:jv t.neg t.digs (gT t) (-(t.part:Int)) with
     |none=>rw[hr] at hd;cases hd
     |some d=>rw[hr] at hd;obtain⟨-,rfl,rfl,rfl⟩:=hd;rfl
    exact Zh (jS results230 _ _ w.heap.size 120 _ _ _ (0,0) (by simp) (setRow_heap _ _ _ _ _ _ e1)) rfl d9
   |false=>
    have f6:∀v w',ge w w'->Ks w' v->JN ((jv t.neg t.digs (gT t) (-(t.part:Int))).map fun d=>(d,t.n)) w (.returned (.tuple #[.agg #[false,es,(0:Int)],(0:Int),v])) w':=by
     intro v w' h1 h2;have hd:=f5.out;refine⟨h1,?_⟩
     cases hr:jv t.neg t.digs (gT t) (-(t.part:Int)) with
     |some d=>rw[hr] at hd;cases hd.1
     |none=>exact⟨v,rfl,h2⟩
    have g4:=Qa f6;clear f6;go_wp2_with fail;obtain⟨wq,hwq⟩:=y7 wc.drew;have a2:Hid (wq.heap[w.heap.size]?=some (.cells #[false,es,(0:Int)] 120 (0,0))):=Qa (by rw[<-hwq];exact e1.out);have a1:=Qa (show ge w wq by rw[<-hwq];exact e2.drew);clear e1 e2 z0 z1 z2 e6;refine aI (fun w'=>w'.cell? (nl 13)=some (bR aX)) (g2) fun a0=>?_
    rw[hwq] at a0 ⊢;clear hwq;refine bw 0 1 2 a0 ?_;refine wpAnyH_ready (rs:= [3,5]) (by kernel_rfl) (by simp) ?_;refine AllReadyH.cons (pk rfl) (fun K hK=>?_) (AllReadyH.cons (pk rfl) (fun K hK=>?_) AllReadyH.nil);go_simp;have hb:=aa wq (.cells #[(0:Int),bR aX] 251);have a4:=Qa (Zf wq (.cells #[(0:Int),bR aX] 251));obtain⟨gb,a6⟩:=y7 wq.heap.size;have b9:=Qa (show w.heap.size<gb by rw[<-a6];exact ah a2.out);rw[a6] at a4 ⊢;have a2:=Qa (al a2.out hb);have a1:=Qa (a1.trans (hb.mono a1.size));obtain⟨wn,a3⟩:=y7 (wq.alloc (.cells #[(0:Int),bR aX] 251));rw[a3] at a4 a2 a1 hb ⊢;obtain⟨wq,hwq⟩:∃x,x=wn:=⟨_,rfl⟩;subst hwq;refine hK _ _ (Zg hb a0) (fun a0=>?_);clear hK K
    try simp only[Act.put,jP,jQ,jR]
    refine tH 4 a0 ?_;refine rH 5 fun K hK=>?_
    refine bZ a2.out ?_;have hg:=aj wq w.heap.size #[false,es,(0:Int)];have a1:=Qa (a1.grown hg a1.size (fun g e=>by cases e;exact Zb _));(try have a4:=Qa (aJ a4.out hg (fun e=>by injection e with e;have:=b9.out;omega)));have a2:=Qa (setRow_heap _ _ _ #[false,es,(0:Int)] _ _ a2.out);obtain⟨wn,a3⟩:=y7 (wq.setRow w.heap.size #[false,es,(0:Int)]);rw[a3] at a2 a1 hg ⊢;(try rw[a3] at a4);obtain⟨wq,hwq⟩:∃x,x=wn:=⟨_,rfl⟩;subst hwq;refine hK _ _ (hg.cell a0 (fun e=>by injection e with e;have e:13=w.heap.size:=e;omega)) (fun a0=>?_);clear hK K
    try simp only[Act.put,jP,jQ,jR]
    refine tH 6 a0 ?_;refine tH 7 a0 ?_
    rotate_left
    refine bZ a2.out ?_;have hg:=aj wq w.heap.size #[false,es,(0:Int)];have a1:=Qa (a1.grown hg a1.size (fun g e=>by cases e;exact Zb _));(try have a4:=Qa (aJ a4.out hg (fun e=>by injection e with e;have:=b9.out;omega)));have a2:=Qa (setRow_heap _ _ _ #[false,es,(0:Int)] _ _ a2.out);obtain⟨wn,a3⟩:=y7 (wq.setRow w.heap.size #[false,es,(0:Int)]);rw[a3] at a2 a1 hg ⊢;(try rw[a3] at a4);obtain⟨wq,hwq⟩:∃x,x=wn:=⟨_,rfl⟩;subst hwq;refine hK _ _ (hg.cell a0 (fun e=>by injection e with e;have e:13=w.heap.size:=e;omega)) (fun a0=>?_);clear hK K
    try simp only[Act.put,jP,jQ,jR]
    refine tH 6 a0 ?_;refine rH 3 fun K hK=>?_
    go_simp;have hb:=aa wq (.cells #[(0:Int),bR aX] 251);have a4:=Qa (Zf wq (.cells #[(0:Int),bR aX] 251));obtain⟨gb,a6⟩:=y7 wq.heap.size;have b9:=Qa (show w.heap.size<gb by rw[<-a6];exact ah a2.out);rw[a6] at a4 ⊢;have a2:=Qa (al a2.out hb);have a1:=Qa (a1.trans (hb.mono a1.size));obtain⟨wn,a3⟩:=y7 (wq.alloc (.cells #[(0:Int),bR aX] 251));rw[a3] at a4 a2 a1 hb ⊢;obtain⟨wq,hwq⟩:∃x,x=wn:=⟨_,rfl⟩;subst hwq;refine hK _ _ (Zg hb a0) (fun a0=>?_);clear hK K
    try simp only[Act.put,jP,jQ,jR]
    refine tH 4 a0 ?_;refine tH 7 a0 ?_
    rotate_left
    all_goals
     refine y5 ?_;go_wp2_with fail;exact Zh (jS results230 _ _ w.heap.size 120 _ _ _ (0,0) (by simp) a2.out) rfl (g4 _ _ a1 ⟨gb,_,aX,rfl,a4⟩)
 .have g5:eG t.st=false:=by simpa using hw
  go_wp2_with fail;refine(rV t (.slice Ad nd qd) (.slice Ae ne qe) w2).mono ?_;rintro e w3 ⟨rfl,a5⟩;rw[g5];have H3:=Qa (al Ht.out a5);have c8:=Qa (e0.trans (a5.mono e0.size));have d7:=Qa (al e5.out a5);obtain⟨aN,g3⟩:=f1.below a5;have d6:=ac H3.out (j:=6) (u:=(t.n:Int)) rfl;have g7:=a5.size;clear a5 c0 c1 c2 c3 c4 c5 c6;go_wp2_with fail;obtain⟨wq,hwq⟩:=y7 w3.drew;have a2:Hid (wq.heap[w.heap.size]?=some (.cells #[false,es,(0:Int)] 120 (0,0))):=Qa (by rw[<-hwq];exact d7.out);have a1:=Qa (show ge w wq by rw[<-hwq];exact c8.drew);clear d7 c8;refine aI (fun w'=>w'.cell? (no w1.heap.size 6)=some (.int .i64 t.n)/\w'.cell? (nl 12)=some (bR aN)) (⟨d6,g3⟩) fun a0=>?_
  rw[hwq] at a0 ⊢;clear hwq;refine bw 0 1 2 a0 ?_;refine tH 3 a0 ?_;refine tH 4 a0 ?_;refine wpAnyH_ready (rs:= [5,7]) (by kernel_rfl) (by simp) ?_;refine AllReadyH.cons (pk rfl) (fun K hK=>?_) (AllReadyH.cons (pk rfl) (fun K hK=>?_) AllReadyH.nil);go_simp;have hb:=aa wq (.cells #[(t.n:Int),bR aN] 251);have a4:=Qa (Zf wq (.cells #[(t.n:Int),bR aN] 251));obtain⟨gb,a6⟩:=y7 wq.heap.size;have b9:=Qa (show w.heap.size<gb by rw[<-a6];exact ah a2.out);rw[a6] at a4 ⊢;have a2:=Qa (al a2.out hb);have a1:=Qa (a1.trans (hb.mono a1.size));obtain⟨wn,a3⟩:=y7 (wq.alloc (.cells #[(t.n:Int),bR aN] 251));rw[a3] at a4 a2 a1 hb ⊢;obtain⟨wq,hwq⟩:∃x,x=wn:=⟨_,rfl⟩;subst hwq;refine hK _ _ (⟨Zg hb a0.1,Zg hb a0.2⟩) (fun a0=>?_);clear hK K
  try simp only[Act.put,jP,jQ,jR]
  refine tH 6 a0 ?_;refine rH 7 fun K hK=>?_
  refine bZ a2.out ?_;have hg:=aj wq w.heap.size #[false,es,(0:Int)];have a1:=Qa (a1.grown hg a1.size (fun g e=>by cases e;exact Zb _));(try have a4:=Qa (aJ a4.out hg (fun e=>by injection e with e;have:=b9.out;omega)));have a2:=Qa (setRow_heap _ _ _ #[false,es,(0:Int)] _ _ a2.out);obtain⟨wn,a3⟩:=y7 (wq.setRow w.heap.size #[false,es,(0:Int)]);rw[a3] at a2 a1 hg ⊢;(try rw[a3] at a4);obtain⟨wq,hwq⟩:∃x,x=wn:=⟨_,rfl⟩;subst hwq;refine hK _ _ (⟨hg.cell a0.1 (fun e=>by injection e with e;have e:w1.heap.size=w.heap.size:=e;omega),hg.cell a0.2 (fun e=>by injection e with e;have e:12=w.heap.size:=e;omega)⟩) (fun a0=>?_);clear hK K
  try simp only[Act.put,jP,jQ,jR]
  refine tH 8 a0 ?_;refine tH 9 a0 ?_
  rotate_left
  refine bZ a2.out ?_;have hg:=aj wq w.heap.size #[false,es,(0:Int)];have a1:=Qa (a1.grown hg a1.size (fun g e=>by cases e;exact Zb _));(try have a4:=Qa (aJ a4.out hg (fun e=>by injection e with e;have:=b9.out;omega)));have a2:=Qa (setRow_heap _ _ _ #[false,es,(0:Int)] _ _ a2.out);obtain⟨wn,a3⟩:=y7 (wq.setRow w.heap.size #[false,es,(0:Int)]);rw[a3] at a2 a1 hg ⊢;(try rw[a3] at a4);obtain⟨wq,hwq⟩:∃x,x=wn:=⟨_,rfl⟩;subst hwq;refine hK _ _ (⟨hg.cell a0.1 (fun e=>by injection e with e;have e:w1.heap.size=w.heap.size:=e;omega),hg.cell a0.2 (fun e=>by injection e with e;have e:12=w.heap.size:=e;omega)⟩) (fun a0=>?_);clear hK K
  try simp only[Act.put,jP,jQ,jR]
  refine tH 8 a0 ?_;refine rH 5 fun K hK=>?_
  go_simp;have hb:=aa wq (.cells #[(t.n:Int),bR aN] 251);have a4:=Qa (Zf wq (.cells #[(t.n:Int),bR aN] 251));obtain⟨gb,a6⟩:=y7 wq.heap.size;have b9:=Qa (show w.heap.size<gb by rw[<-a6];exact ah a2.out);rw[a6] at a4 ⊢;have a2:=Qa (al a2.out hb);have a1:=Qa (a1.trans (hb.mono a1.size));obtain⟨wn,a3⟩:=y7 (wq.alloc (.cells #[(t.n:Int),bR aN] 251));rw[a3] at a4 a2 a1 hb ⊢;obtain⟨wq,hwq⟩:∃x,x=wn:=⟨_,rfl⟩;subst hwq;refine hK _ _ (⟨Zg hb a0.1,Zg hb a0.2⟩) (fun a0=>?_);clear hK K
  try simp only[Act.put,jP,jQ,jR]
  refine tH 6 a0 ?_;refine tH 9 a0 ?_
  rotate_left
  all_goals
   refine y5 ?_;go_wp2_with fail;exact Zh (jS results230 _ _ w.heap.size 120 _ _ _ (0,0) (by simp) a2.out) rfl ⟨a1,⟨_,rfl,gb,_,aN,rfl,a4⟩⟩
def qG:List (Na):= [[49,45,53,45,45,45,45,45,45,45,45,45,50,52,45,45], [52,52,52,52,52,52,52,52,52,52,50,45,45,45,45,45], [45,51,51,51,51,51,51,51,51,51,51,51,51,51,51,51], [51,51,51,51,51,51,51,51,51,51,51,50,45,50,45,45], [45,51,51,51,51,51,51,51,51,51,51,51,51,51,51,51], [51,51,51,51,51,51,51,51,51,51,51,50,45,50,45,45]]
def mQ (w:Wd):Prop:= ∀i,i<6->w.cell? (no 9 i)=some (.string ⟨(qG.getD i []).toArray⟩)
theorem mQ.below (h:mQ w)(hb:ge w w'):mQ w':=fun i hi=>Zg hb (h i hi)
theorem FN (x:UInt8):(x.toNat=9\/x.toNat=10\/x.toNat=13->cO x=1)/\(¬ (x.toNat=9\/x.toNat=10\/x.toNat=13)->(x.toNat<32\/127<x.toNat)->cO x=0)/\(32<=x.toNat->x.toNat<=127->((cO x:Nat):Int)=max ((((qG.getD (x.toNat/16 - 2) []).getD (x.toNat % 16) 0).toNat:Int) - 48) 0):=by
 have:=wI (p:=fun x=>decide ((x.toNat=9\/x.toNat=10\/x.toNat=13->cO x=1)/\(¬ (x.toNat=9\/x.toNat=10\/x.toNat=13)->(x.toNat<32\/127<x.toNat)->cO x=0)/\(32<=x.toNat->x.toNat<=127->((cO x:Nat):Int)=max ((((qG.getD (x.toNat/16 - 2) []).getD (x.toNat % 16) 0).toNat:Int) - 48) 0))) (by decide +kernel) x;exact of_decide_eq_true this
theorem CP (R:Na)(j:Nat)(h:j<R.length):R[j]?=some (R.getD j 0):=by simp[Zd h]
theorem IB:∀i,i<6->(qG.getD i []).length=16:=by decide
theorem kn {k:IntKind}{s:Nc}{x:UInt8}(hg:s.data.toList[p]?=some x)(w':Wd):(Instr.index 9 s (.int k (p:Int))).run prog w' =.ok (.int .u8 x.toNat) w':=by
 have hlt:p<s.size:=by
  have h2:=(List.getElem?_eq_some_iff.1 hg).1;rw[Array.length_toList] at h2;exact h2
 rw[run_index_string w' 9 s k (p:Int) underlying9,dif_pos ⟨Int.natCast_nonneg _,by omega⟩];have h3:s[((p:Nat):Int).toNat]'(by simpa using hlt)=x:=by
  simp only[Int.toNat_natCast];have h4:s.data[p]?=some x:=by rw[<-Array.getElem?_toList];exact hg
  exact(Array.getElem?_eq_some_iff.1 h4).2
 rw[h3]
theorem eo (x:UInt8)(hB:mQ w):Calls prog 199 #[.int .u8 x.toNat] w fun e w'=>e = ((cO x:Nat):Int)/\w=w':=by
 obtain⟨k1,k2,k3⟩:=FN x;have hx:=x.toNat_lt;obtain⟨n,hn⟩:=y7 x.toNat;rw[hn] at k1 k2 k3 hx ⊢;obtain⟨k,hk⟩:=y7 (cO x);rw[hk] at k1 k2 k3 ⊢;clear hn hk
 by_cases h1:n=9\/n=10\/n=13
 .obtain rfl:=k1 h1;clear k1 k2 k3;go_in;rcases h1 with rfl|rfl|rfl
  .go_wp2;go_ret;exact⟨rfl,rfl⟩
  .go_wp2;go_ret;exact⟨rfl,rfl⟩
  .go_wp2;go_ret;exact⟨rfl,rfl⟩
 .have e1:((n:Int)==9)=false:=by simp;omega
  have e2:((n:Int)==10)=false:=by simp;omega
  have e3:((n:Int)==13)=false:=by simp;omega
  by_cases h2:n<32\/127<n
  .obtain rfl:=k2 h1 h2;clear k1 k2 k3 h1;go_in;rcases h2 with h2|h2
   .have a2:(n:Int)<32:=by omega
    go_wp2;go_ret;exact⟨rfl,rfl⟩
   .have a2:¬ (n:Int)<32:=by omega
    have a3:(127:Int)<n:=by omega
    go_wp2;go_ret;exact⟨rfl,rfl⟩
  .have k3:=k3 (by omega) (by omega);have hc:=hB (n/16 - 2) (by omega);have hl:=IB (n/16 - 2) (by omega);obtain⟨v,hv⟩:=y7 ((qG.getD (n/16 - 2) []).getD (n % 16) 0:UInt8);have a0:=fun w'=>kn (k:=.u8) (s:=⟨(qG.getD (n/16 - 2) []).toArray⟩) (p:=n % 16) (x:=v) (by
    show(qG.getD (n/16 - 2) [])[n % 16]?=some v
    rw[<-hv];exact CP _ _ (by rw[hl];omega)) w'
   rw[hv] at k3;have a1:=v.toNat_lt;obtain⟨z,hz⟩:=y7 ((v.toNat:Int):Int);rw[hz] at k3 a0;have a4:0<=z:=by omega
   have a5:z<256:=by omega
   generalize (⟨(qG.getD (n/16 - 2) []).toArray⟩:Nc)=row at *;obtain⟨q,hq⟩:=y7 (n/16);obtain⟨r,hr⟩:=y7 (n % 16);have d1:(n:Int)/16=q:=by omega
   have d2:(n:Int) % 16=r:=by omega
   have d1':Int.tdiv (n:Int) 16=q:=by rw[Int.tdiv_eq_ediv_of_nonneg (by omega)];exact d1
   have d2':Int.tmod (n:Int) 16=r:=by rw[Int.tmod_eq_emod_of_nonneg (by omega)];exact d2
   have d3:IntKind.u8.wrap ((q:Int) - 2)= ((q - 2:Nat):Int):=by simp[IntKind.wrap,IntKind.bits,IntKind.signed];omega
   have d4:((q:Int) - 2).toNat=q - 2:=by omega
   rw[hq] at hc;rw[hr] at a0;have n1:¬ (n:Int)<32:=by omega
   have n2:¬ (127:Int)<n:=by omega
   have n3:2<=(q:Int):=by omega
   have n4:(q:Int)<8:=by omega
   rw[k3];clear k1 k2 k3 h1 h2 hl hv hz hq hr hB a1;go_in;go_wp2;go_ret;exact⟨rfl,rfl⟩
theorem l7 (x:UInt8)(w:Wd):Calls prog 226 #[.int .u8 x.toNat] w fun e w'=>e =.returned (.bool (em x))/\w=w':=by
 have key:em x= (decide (97<=bits .or .u8 (x.toNat:Int) 32)&&decide (bits .or .u8 (x.toNat:Int) 32<=122)):=by
  have h:∀n:Nat,n<256->em (UInt8.ofNat n)= (decide (97<=bits .or .u8 (n:Int) 32)&&decide (bits .or .u8 (n:Int) 32<=122)):=by decide +kernel
  have:=h x.toNat x.toNat_lt
  rwa[UInt8.ofNat_toNat] at this
 rw[key];clear key;obtain⟨y,hy⟩:=y7 (bits .or .u8 (x.toNat:Int) 32:Int);rw[hy]
 by_cases h1:97<=y
 .by_cases h2:y<=122
  .rw[decide_eq_true h1,decide_eq_true h2];go_in;go_wp2;go_ret;exact⟨rfl,rfl⟩
  .rw[decide_eq_true h1,decide_eq_false h2];go_in;go_wp2;go_ret;exact⟨rfl,rfl⟩
 .rw[decide_eq_false h1];go_in;go_wp2;go_ret;exact⟨rfl,rfl⟩
def JY (l:Na):Bool:=l == [110,117,108,108]||l == [116,114,117,101]||l == [102,97,108,115,101]
theorem m6 (l:Na)(w:Wd):Calls prog 227 #[.string ⟨l.toArray⟩] w fun e w'=>e =.returned (.bool (JY l))/\w=w':=by
 have hl:(⟨l.toArray⟩:Nc).toList=l:=by rw[ByteArray.toList_eq]
 obtain⟨s,hs⟩:=y7 (⟨l.toArray⟩:Nc);rw[hs] at hl ⊢;unfold JY;obtain⟨b1,h1⟩:∃b,(s.toList == [110,117,108,108])=b:=⟨_,rfl⟩;obtain⟨b2,h2⟩:∃b,(s.toList == [116,114,117,101])=b:=⟨_,rfl⟩;obtain⟨b3,h3⟩:∃b,(s.toList == [102,97,108,115,101])=b:=⟨_,rfl⟩;rw[<-hl,h1,h2,h3];clear hs hl;go_in
 cases b1 <;> cases b2 <;> cases b3
 all_goals go_wp2
 all_goals (go_ret;exact⟨rfl,rfl⟩)
def jU (w:Wd)(e:Ending)(w':Wd):Prop:= ∃v,e =.panicked [{v:=v,recovered:=false}]/\Ks w' v/\ge w w'
theorem sS (hb:Below w.drew.heap.size w.drew w'):ge w w':=⟨hb.os,hb.tape,hb.output,hb.size,hb.block⟩
theorem bE (p:Int)(a:Addr)(w:Wd):Calls prog 249 #[(p:Int),bR a] w (jU w):=by
 go_in;go_wp2_with fail;exact⟨rfl,_,rfl,⟨_,_,a,rfl,Zf _ _⟩,aa _ _⟩
theorem Es (x:UInt8):jq x=if 48<=(x.toNat:Int)/\(x.toNat:Int)<=57 then some (x.toNat - 48) else if 97<=(x.toNat:Int)/\(x.toNat:Int)<=102 then some (x.toNat - 87) else if 65<=(x.toNat:Int)/\(x.toNat:Int)<=70 then some (x.toNat - 55) else none:=by
 unfold jq
 congr 1
 .simp only[eq_iff_iff];omega
 .congr 1
  .simp only[eq_iff_iff];omega
  .congr 1
   simp only[eq_iff_iff];omega
def mC (r:Option Nat):Value:=match r with|some d=>.tuple #[(d:Int),true]|none=>.tuple #[(0:Int),false]
theorem dL (x:UInt8)(w:Wd):Calls prog 278 #[.int .u8 x.toNat] w fun e w'=>e =mC (jq x)/\w=w':=by
 have hx:=x.toNat_lt;rw[Es];obtain⟨n,hn⟩:=y7 x.toNat;rw[hn] at hx ⊢;clear hn
 by_cases h1:48<=(n:Int)/\(n:Int)<=57
 .rw[if_pos h1];obtain⟨h1,h2⟩:=h1;have e1:((n - 48:Nat):Int)= (n:Int) - 48:=by omega
  have e2:IntKind.u8.wrap ((n:Int) - 48)= (n:Int) - 48:=by simp[IntKind.wrap,IntKind.bits,IntKind.signed];omega
  unfold mC
  dsimp only
  rw[e1];clear e1;go_in;go_wp2;go_ret2;exact⟨rfl,rfl⟩
 rw[if_neg h1];have g1:(decide (48<=(n:Int))&&decide ((n:Int)<=57))=false:=by simpa using h1
 by_cases h2:97<=(n:Int)/\(n:Int)<=102
 .rw[if_pos h2];obtain⟨h2,h3⟩:=h2;have n1:(48:Int)<=n:=by omega
  have n2:¬ (n:Int)<=57:=by omega
  have e1:((n - 87:Nat):Int)= (n:Int) - 97+10:=by omega
  have e2:IntKind.u8.wrap ((n:Int) - 97)= (n:Int) - 97:=by simp[IntKind.wrap,IntKind.bits,IntKind.signed];omega
  unfold mC
  dsimp only
  rw[e1];clear e1 h1 g1;go_in;go_wp2;go_ret2;exact⟨rfl,rfl⟩
 rw[if_neg h2]
 by_cases h3:65<=(n:Int)/\(n:Int)<=70
 .rw[if_pos h3];obtain⟨h3,h4⟩:=h3;have n1:(48:Int)<=n:=by omega
  have n2:¬ (n:Int)<=57:=by omega
  have n3:¬ (97:Int)<=n:=by omega
  have e1:((n - 55:Nat):Int)= (n:Int) - 65+10:=by omega
  have e2:IntKind.u8.wrap ((n:Int) - 65)= (n:Int) - 65:=by simp[IntKind.wrap,IntKind.bits,IntKind.signed];omega
  unfold mC
  dsimp only
  rw[e1];clear e1 h1 g1 h2;go_in;go_wp2;go_ret2;exact⟨rfl,rfl⟩
 rw[if_neg h3];unfold mC
 dsimp only
 clear g1;go_in;go_wp2
 all_goals first|(exfalso;simp_all;done)|(exfalso;omega)|(go_ret2;exact⟨rfl,rfl⟩)
def uQ (w:Wd)(g:Nat)(v:Value)(xs:Na)(k:Nat):Prop:=w.heap[g]?=some (.cells #[v,(k:Int)] 383 (0,0))/\Bs w v xs
theorem uQ.below {k:Nat}(h:uQ w g v xs k)(hb:ge w w'):uQ w' g v xs k:=⟨al h.1 hb,h.2.below hb⟩
def KV (xs:Na)(i:Nat)(w:Wd)(e:Ending)(w':Wd):Prop:=(i<xs.length/\e =.returned (.int .u8 (ar xs i))/\w=w')\/(xs.length<=i/\jU w e w')
theorem lg {k:Nat}(h:uQ w g v xs k)(hE:bG w 4)(i:Nat):Calls prog 256 #[.pointer (some (nl g)),(i:Int)] w (KV xs i w):=by
 obtain⟨hg,hb⟩:=h;obtain⟨hm,A,cap,rfl,a4,a0⟩:=id hb;obtain⟨aE,a3⟩:=hE;have c0:=ac hg (j:=0) (u:=.slice A xs.length cap) rfl
 by_cases hi:i<xs.length
 .obtain⟨b,o,rfl,a1⟩:=a0 (by omega);have c1:=a1 i hi;have a5:(i:Int)<xs.length:=by omega
  clear hg hb a0 a1;go_in;go_wp2;go_ret;exact .inl ⟨hi,rfl,rfl⟩
 .have a5:¬ (i:Int)<xs.length:=by omega
  have Hi:=Qa (show xs.length<=i by omega);clear hg hb a0 hi;go_in;go_wp2_with fail;refine wp_region_held_drew (S:=fun w'=>w'.cell? (nl g)=some (.slice A xs.length cap)/\w'.cell? (nl 4)=some (bR aE)) (by kernel_rfl) (⟨c0,a3⟩) (fun a2=>?_);refine bw 0 1 2 a2 ?_;refine bw 3 4 5 a2 ?_;refine rH 6 fun K hK=>?_
  go_simp;refine(bE _ aE _).mono ?_;rintro e w' ⟨v,rfl,hv,hb⟩;exact⟨rfl,.inr ⟨Hi,v,rfl,hv,sS hb⟩⟩
theorem tu (a d:Nat)(ha:a<1000000000)(hd:d<16):bits .or .i64 (((a*16:Nat)):Int) (d:Int)= ((a*16+d:Nat):Int):=by
 have h1:a*16 |||d=a*16+d:=by
  have:=Nat.shiftLeft_add_eq_or_of_lt (i:=4) (b:=d) (by omega) a;rw[Nat.shiftLeft_eq] at this;exact this.symm
 have e:bits .or .i64 (((a*16:Nat)):Int) (d:Int)=IntKind.i64.wrap (((BitVec.ofInt 64 ((a*16:Nat):Int) |||BitVec.ofInt 64 (d:Int)).toNat:Nat):Int):=rfl;rw[e,BitVec.toNat_or,BitVec.ofInt_natCast,BitVec.ofInt_natCast,BitVec.toNat_ofNat,BitVec.toNat_ofNat,Nat.mod_eq_of_lt (by omega),Nat.mod_eq_of_lt (by omega),h1];exact IntWalk.i64_in _ (by omega)
def bD (xs:Na)(i:Nat):Nat->Option Nat
 |0=>some 0
 |k+1=>match bD xs i k,xs[i+k]? with
  |some a,some c=>(jq c).map fun d=>a*16+d
  |_,_=>none
theorem oK {c:UInt8}{d:Nat}(h:jq c=some d):d<16:=by
 unfold jq at h
 split at h
 .injection h with h;omega
 .split at h
  .injection h with h;omega
  .split at h
   .injection h with h;omega
   .cases h
theorem jM:∀ {k x:Nat},bD xs i k=some x->x<16 ^ k
 |0,x,h=>by simp[bD] at h;subst h;decide
 |k+1,x,h=>by
  unfold bD at h
  cases ha:bD xs i k with
  |none=>rw[ha] at h;cases h
  |some a=>
   cases hc:xs[i+k]? with
   |none=>rw[ha,hc] at h;cases h
   |some c=>
    rw[ha,hc] at h;simp only[Option.map_eq_some_iff] at h;obtain⟨d,hd,rfl⟩:=h;have:=jM ha;have:=oK hd;rw[Nat.pow_succ];omega
theorem ji {k:Nat}(h:bD xs i k=none):∀m,bD xs i (k+m)=none
 |0=>h
 |m+1=>by
  have:=ji h m
  show bD xs i (k+m+1)=none
  unfold bD;rw[this]
theorem jh (xs:Na)(i:Nat):dj (xs.drop i)=bD xs i 4:=by
 have g:∀j,xs[i+j]?= (xs.drop i)[j]?:=fun j=>by rw[List.getElem?_drop]
 simp only[bD,g];generalize xs.drop i=ys;rcases ys with _|⟨a,_|⟨b,_|⟨c,_|⟨d,t⟩⟩⟩⟩
 .rfl
 .simp[dj]
 .simp[dj]
 .simp[dj]
 .simp only[dj,bind,pure,Option.bind];rcases ha:jq a with _|a1 <;> rcases hb:jq b with _|b1 <;> rcases hc:jq c with _|c1 <;> rcases hd:jq d with _|d1 <;> simp[ha,hb,hc,hd]
def Md (r:Option Nat)(w:Wd)(e:Ending)(w':Wd):Prop:=(∃x,r=some x/\e = (x:Int)/\w=w')\/(r=none/\jU w e w')
def KB (xs:Na)(i:Nat)(w:Wd)(s7 s11:Value)(wr:Wd):Prop:= ∃k x:Nat,k<=4/\s11 =(k:Int)/\s7 =(x:Int)/\bD xs i k=some x/\w=wr
theorem rt (h:uQ w g v xs k0)(hE:bG w 4)(hS:bG w 19)(i:Nat)(hi:i<=2000000000)(b:Int):Calls prog 277 #[.pointer (some (nl g)),(i:Int),(b:Int)] w fun e w'=>Md (dj (xs.drop i)) w e w':=by
 rw[jh];have H:=Qa h;have HE:=Qa hE;obtain⟨aS,a4⟩:=hS;clear h hE;go_in;go_wp2_with fail
 go_loopw [7,8,9,10,11] (fun s7 _ _ _ s11 wr=>KB xs i w s7 s11 wr) (fun _ _ _ _ s11 _=>4 - (intOf s11).toNat)
 case atStart=>exact⟨0,0,by omega,rfl,rfl,rfl,rfl⟩
 case round=>
  obtain⟨k,x,hk,rfl,rfl,hf,rfl⟩:=hrel;have a2:=jM hf;have Hf:=Qa hf
  by_cases h4:k<4
  .have a5:(k:Int)<4:=by omega
   have a3:x<65536:=Nat.lt_of_lt_of_le a2 (Zc (Nat.pow_le_pow_right (by decide) hk) (by decide));clear hf a2;go_wp2_with fail;rw[show(i:Int)+k= ((i+k:Nat):Int) from by omega];refine(lg H HE (i+k)).mono ?_;rintro e w' (⟨hlt,rfl,rfl⟩|⟨a1,vP,rfl,hv,hb⟩)
   .obtain⟨c,hc⟩:∃c,xs[i+k]?=some c:=⟨_,Zd hlt⟩;have a0:ar xs (i+k)=c.toNat:=by unfold ar;rw[List.getD_eq_getElem?_getD,hc];rfl
    rw[a0];have Hc:=Qa hc;clear hc a0 hlt;go_wp2_with fail;refine(dL c w).mono ?_;rintro e w' ⟨rfl,rfl⟩;rcases hh:jq c with _|d
    .have Hn:=Qa (show bD xs i 4=none from by
      have h1:bD xs i (k+1)=none:=by unfold bD;rw[Hf.out,Hc.out];simp[hh]
      obtain⟨m,hm⟩:∃m,4=k+1+m:=⟨3 - k,by omega⟩;rw[hm];exact ji h1 m)
     unfold mC;clear hh;go_wp2_with fail;refine(bE b aS w).mono ?_;rintro e w' ⟨vP,rfl,hv,hb⟩;have Hv:=Qa hv;have Hb:=Qa hb;clear hv hb;go_wp2_with fail;exact⟨rfl,.inr ⟨Hn,vP,rfl,Hv,Hb⟩⟩
    .have hd:=oK hh;have Hs:=Qa (show bD xs i (k+1)=some (x*16+d) from by unfold bD;rw[Hf.out,Hc.out];simp[hh]);have or1:=tu x d (by omega) hd;have sh1:((x*16:Nat):Int)= (x:Int)*16:=by omega
     rw[sh1] at or1;unfold mC;clear hh sh1;go_wp2_with fail;exact⟨⟨k+1,x*16+d,by omega,by go_num,by go_num,Hs.out,rfl⟩,by simp[intOf];omega⟩
   .have hn:bD xs i (k+1)=none:=by unfold bD;rw[Hf.out,List.getElem?_eq_none a1]
    have Hn:=Qa (show bD xs i 4=none from by
     obtain⟨m,hm⟩:∃m,4=k+1+m:=⟨3 - k,by omega⟩;rw[hm];exact ji hn m)
    have Hv:=Qa hv;have Hb:=Qa hb;clear hv hb hn a1;go_wp2_with fail;exact⟨rfl,.inr ⟨Hn,vP,rfl,Hv,Hb⟩⟩
  .obtain rfl:k=4:=by omega
   go_wp2;go_ret;exact .inl ⟨x,Hf,rfl,rfl⟩
theorem mm {k y:Nat}(h:bD xs i (k+1)=some y):bD xs i k=some (y/16):=by
 unfold bD at h
 cases ha:bD xs i k with
 |none=>rw[ha] at h;cases h
 |some a=>
  cases hc:xs[i+k]? with
  |none=>rw[ha,hc] at h;cases h
  |some c=>
   rw[ha,hc] at h;simp only[Option.map_eq_some_iff] at h;obtain⟨d,hd,rfl⟩:=h;have:=oK hd
   congr 1;omega
def jt (m y:Nat):Prop:=(m=0/\y=0)\/(m=1/\y=13)\/(m=2/\220<=y/\y<=223)\/(m=3/\3520<=y/\y<=3583)\/(m=4/\56320<=y/\y<=57343)
theorem vg {y:Nat}(hm:m<=4)(h:bD xs i m=some y)(hn:¬jt m y):∀z,bD xs i 4=some z->z<56320\/57343<z:=by
 intro z hz;have h3:=mm hz;have h2:=mm h3;have h1:=mm h2;unfold jt at hn;rcases(by omega:m=0\/m=1\/m=2\/m=3\/m=4) with rfl|rfl|rfl|rfl|rfl
 .simp[bD] at h;omega
 .rw[h] at h1;injection h1 with h1;omega
 .rw[h] at h2;injection h2 with h2;omega
 .rw[h] at h3;injection h3 with h3;omega
 .rw[h] at hz;injection hz with hz;omega
theorem o5 (h:bD xs i m=none)(hm:m<=4):bD xs i 4=none:=by
 obtain⟨j,hj⟩:∃j,4=m+j:=⟨4 - m,by omega⟩;rw[hj];exact ji h j
theorem Iq {k x:Nat}(hx:dj (xs.drop (k+2))=some x):lm (xs.drop (k+2))=if x<55296\/57343<x then some (x,6) else if x>56319\/xs[k+6]?≠some 92\/xs[k+7]?≠some 117 then none else
  match bD xs (k+8) 4 with|none=>none|some y=>if y<56320\/57343<y then none else some (65536+ (x - 55296)*1024+ (y - 56320),12):=by
 have g6:xs[k+6]?= (xs.drop (k+2))[4]?:=by rw[List.getElem?_drop]
 have g7:xs[k+7]?= (xs.drop (k+2))[5]?:=by rw[List.getElem?_drop]
 have g8:bD xs (k+8) 4=dj ((xs.drop (k+2)).drop 6):=by rw[<-jh,List.drop_drop]
 rw[g6,g7,g8];generalize xs.drop (k+2)=ys at *;unfold lm;simp only[hx,bind,pure,Option.bind]
 split
 .rfl
 .rcases ys with _|⟨a,_|⟨b,_|⟨c,_|⟨d,t⟩⟩⟩⟩
  .cases hx
  .simp[dj] at hx
  .simp[dj] at hx
  .simp[dj] at hx
  .rcases t with _|⟨e,_|⟨f,t⟩⟩
   .simp
   .simp
   .simp only[List.drop_succ_cons,List.drop_zero,List.getElem?_cons_succ,List.getElem?_cons_zero,ne_eq,Option.some.injEq]
    split
    .rfl
    .cases dj t <;> rfl
def EB (r:Option (Nat×Nat))(w:Wd)(e:Ending)(w':Wd):Prop:=(∃p,r=some p/\e =.returned (.tuple #[.int .i32 p.1,(p.2:Int)])/\ge w w')\/(r=none/\jU w e w')
theorem CT {k:Nat}(hx:dj (xs.drop (k+2))=none):lm (xs.drop (k+2))=none:=by
 unfold lm;simp only[hx,bind,Option.bind]
theorem Cl (h:uQ w g v xs k0)(hE:bG w 4)(hS:bG w 19)(i:Nat)(hi:i<=2000000000)(b:Int){x:Nat}(hx:dj (xs.drop i)=some x):Calls prog 277 #[.pointer (some (nl g)),(i:Int),(b:Int)] w fun e w'=>e = (x:Int)/\w=w':=
 (rt h hE hS i hi b).mono fun e w' hq=>by
  rcases hq with ⟨y,hy,he,hw⟩|⟨hn,-⟩
  .rw[hx] at hy;injection hy with hy;subst hy;exact⟨he,hw⟩
  .rw[hx] at hn;cases hn
theorem FU (h:uQ w g v xs k0)(hE:bG w 4)(hS:bG w 19)(i:Nat)(hi:i<=2000000000)(b:Int)(hx:dj (xs.drop i)=none):Calls prog 277 #[.pointer (some (nl g)),(i:Int),(b:Int)] w (jU w):=
 (rt h hE hS i hi b).mono fun e w' hq=>by
  rcases hq with ⟨y,hy,-⟩|⟨-,hf⟩
  .rw[hx] at hy;cases hy
  .exact hf
theorem bh {k:Nat}(h:uQ w g v xs k)(hE:bG w 4)(i:Nat){c:UInt8}(hc:xs[i]?=some c):Calls prog 256 #[.pointer (some (nl g)),(i:Int)] w fun e w'=>e =.returned (.int .u8 c.toNat)/\w=w':=
 (lg h hE i).mono fun e w' hq=>by
  have hi:=(List.getElem?_eq_some_iff.1 hc).1;rcases hq with ⟨-,he,hw⟩|⟨hn,-⟩
  .refine⟨?_,hw⟩;rw[he];have:ar xs i=c.toNat:=by unfold ar;rw[List.getD_eq_getElem?_getD,hc];rfl
   rw[this]
  .omega
theorem jT {k:Nat}(h:uQ w g v xs k)(hE:bG w 4)(i:Nat)(hc:xs[i]?=none):Calls prog 256 #[.pointer (some (nl g)),(i:Int)] w (jU w):=
 (lg h hE i).mono fun e w' hq=>by
  have hi:=List.getElem?_eq_none_iff.1 hc;rcases hq with ⟨hn,-⟩|⟨-,hf⟩
  .omega
  .exact hf
theorem jU.low {e:Ending}(h:jU w1 e w')(hb:ge w w1):jU w e w':=by
 obtain⟨v,he,hv,a0⟩:=h;exact⟨v,he,hv,bI hb a0⟩
def JO (xs:Na)(k:Nat)(w:Wd)(s5 s56:Value)(wr:Wd):Prop:= ∃m y:Nat,m<=4/\s56 =(m:Int)/\s5 =(y:Int)/\bD xs (k+8) m=some y/\jt m y/\w=wr
theorem wQ {k:Nat}(h:uQ w g v xs k)(hE:bG w 4)(hS:bG w 19)(hU:bG w 20)(hk:k<=1000000000):Calls prog 267 #[.pointer (some (nl g))] w fun e w'=>EB (lm (xs.drop (k+2))) w e w':=by
 obtain⟨A,n,q,rfl⟩:∃A n q,v =.slice A n q:=by obtain⟨-,-,A,c,e,-⟩:=h;exact⟨A,_,c,e⟩
 have c1:=ac h.1 (j:=1) (u:=(k:Int)) rfl;have H:=Qa (show uQ w.drew g (.slice A n q) xs k from h);have HE:=Qa (show bG w.drew 4 from hE);have HS:=Qa (show bG w.drew 19 from hS);have HU:=Qa (show bG w.drew 20 from hU);have Hb:=Qa (show ge w w.drew from(Ze _ _).drew);clear h hE hS hU;have e2:((k+2:Nat):Int)= (k:Int)+2:=by omega
 have s1:=y9 ((k:Int)+2);rcases hx:dj (xs.drop (k+2)) with _|x
 .have Hn:=Qa (CT hx);have Hx:=Qa hx;clear hx;go_in;go_wp2_with fail;refine wp_region_held_drew (S:=fun w'=>w'.cell? (no g 1)=some (.int .i64 k)) (by kernel_rfl) (c1) (fun a0=>?_);refine bw 0 1 2 a0 ?_;refine bw 3 4 5 a0 ?_;refine bw 6 7 8 a0 ?_;refine tH 9 a0 ?_;refine rH 10 fun K hK=>?_
  go_simp;(try rw[s1]);rw[<-e2];refine(FU H HE HS (k+2) (by omega) _ Hx.out).mono ?_;rintro e w' hf;obtain⟨vP,rfl,hv,hb⟩:=hf.low Hb.out;exact⟨rfl,.inr ⟨Hn,vP,rfl,hv,hb⟩⟩
 .have Hq:=Qa (Iq hx);have Hx:=Qa hx;have b7:=jM (show bD xs (k+2) 4=some x by rw[<-jh];exact hx);have b9:x<65536:=b7;clear hx b7;go_in;go_wp2_with fail;refine aI (fun w'=>w'.cell? (no g 1)=some (.int .i64 k)) (c1) fun a0=>?_
  refine bw 0 1 2 a0 ?_;refine bw 3 4 5 a0 ?_;refine bw 6 7 8 a0 ?_;refine tH 9 a0 ?_;refine rH 10 fun K hK=>?_
  go_simp;(try rw[s1]);rw[<-e2];refine(Cl H HE HS (k+2) (by omega) _ Hx.out).mono ?_;rintro e w' ⟨rfl,rfl⟩;refine hK _ _ (a0) (fun a0=>?_);clear hK K
  try simp only[Act.put,jP,jQ,jR]
  refine tH 11 a0 ?_;refine y5 ?_;have c1':w.drew.cell? (no g 1)=some (.int .i64 k):=c1;generalize w.drew=w1 at *;clear c1;obtain⟨aU,a4⟩:=HU.out;have sw:IntKind.i32.wrap (x:Int)=x:=by simp[IntKind.wrap,IntKind.bits,IntKind.signed];omega
  by_cases hA:x<55296
  .have b4:(x:Int)<55296:=by omega
   have Hr:=Qa (Hq.trans (if_pos (.inl hA)));go_wp2_with fail;go_ret2;exact .inl ⟨_,Hr,rfl,Hb⟩
  by_cases hB:57343<x
  .have b4:¬ (x:Int)<55296:=by omega
   have c0:(57343:Int)<x:=by omega
   have Hr:=Qa (Hq.trans (if_pos (.inr hB)));go_wp2_with fail;go_ret2;exact .inl ⟨_,Hr,rfl,Hb⟩
  have a5:=Qa (Hq.trans (if_neg (by omega)));have b4:¬ (x:Int)<55296:=by omega
  have c0:¬ (57343:Int)<x:=by omega
  by_cases hC:56319<x
  .have b8:(56319:Int)<x:=by omega
   have Hn:=Qa (a5.trans (if_pos (.inl hC)));go_wp2_with fail;refine wp_region_held_drew (S:=fun w'=>w'.cell? (no g 1)=some (.int .i64 k)/\w'.cell? (nl 20)=some (bR aU)) (by kernel_rfl) (⟨c1',a4⟩) (fun a0=>?_);refine bw 0 1 2 a0 ?_;refine tH 3 a0 ?_;refine tH 4 a0 ?_;refine rH 5 fun K hK=>?_
   go_simp;refine(bE _ aU _).mono ?_;rintro e w' hf;obtain⟨vP,rfl,hv,hb⟩:=hf.low (show ge w w1.drew from Hb.drew);exact⟨rfl,.inr ⟨Hn,vP,rfl,hv,hb⟩⟩
  have b8:¬ (56319:Int)<x:=by omega
  rcases h6:xs[k+6]? with _|c6
  .have Hn:=Qa (a5.trans (if_pos (.inr (.inl (by rw[h6];simp)))));have H6:=Qa h6;clear h6;go_wp2_with fail;rw[show(k:Int)+6= ((k+6:Nat):Int) from by omega];refine(jT H HE (k+6) H6).mono ?_;rintro e w' hf;obtain⟨vP,rfl,hv,hb⟩:=hf.low Hb.out;have Hv:=Qa hv;have a6:=Qa hb;clear hv hb hf;go_wp2_with fail;exact⟨rfl,.inr ⟨Hn,vP,rfl,Hv,a6⟩⟩
  have H6:=Qa h6
  by_cases h92:c6.toNat=92
  case neg=>
   have b1:((c6.toNat:Int)==92)=false:=by simp;omega
   have b2:((c6.toNat:Int) !=92)=true:=by simp;omega
   have Hn:=Qa (a5.trans (if_pos (.inr (.inl (by rw[h6];intro e;injection e with e;subst e;exact h92 rfl)))));clear h6 h92;go_wp2_with fail;rw[show(k:Int)+6= ((k+6:Nat):Int) from by omega];refine(bh H HE (k+6) H6).mono ?_;rintro e w' ⟨rfl,rfl⟩;go_wp2_with fail;refine wp_region_held_drew (S:=fun w'=>w'.cell? (no g 1)=some (.int .i64 k)/\w'.cell? (nl 20)=some (bR aU)) (by kernel_rfl) (⟨c1',a4⟩) (fun a0=>?_);refine bw 0 1 2 a0 ?_;refine tH 3 a0 ?_;refine tH 4 a0 ?_;refine rH 5 fun K hK=>?_
   go_simp;refine(bE _ aU _).mono ?_;rintro e w' hf;obtain⟨vP,rfl,hv,hb⟩:=hf.low (show ge w w1.drew from Hb.drew);exact⟨rfl,.inr ⟨Hn,vP,rfl,hv,hb⟩⟩
  have b1:((c6.toNat:Int)==92)=true:=by simp;omega
  have b2:((c6.toNat:Int) !=92)=false:=by simp;omega
  obtain rfl:c6=92:=UInt8.toNat_inj.1 (by rw[h92];rfl);rcases h7:xs[k+7]? with _|c7
  .have Hn:=Qa (a5.trans (if_pos (.inr (.inr (by rw[h7];simp)))));have H7:=Qa h7;clear h6 h7 h92;go_wp2_with fail;rw[show(k:Int)+6= ((k+6:Nat):Int) from by omega];refine(bh H HE (k+6) H6).mono ?_;rintro e w' ⟨rfl,rfl⟩;go_wp2_with fail;rw[show(k:Int)+7= ((k+7:Nat):Int) from by omega];refine(jT H HE (k+7) H7).mono ?_;rintro e w' hf;obtain⟨vP,rfl,hv,hb⟩:=hf.low Hb.out;have Hv:=Qa hv;have a6:=Qa hb;clear hv hb hf;go_wp2_with fail;exact⟨rfl,.inr ⟨Hn,vP,rfl,Hv,a6⟩⟩
  have H7:=Qa h7
  by_cases h117:c7.toNat=117
  case neg=>
   have a7:((c7.toNat:Int) !=117)=true:=by simp;omega
   have Hn:=Qa (a5.trans (if_pos (.inr (.inr (by rw[h7];intro e;injection e with e;subst e;exact h117 rfl)))));clear h6 h7 h92 h117;go_wp2_with fail;rw[show(k:Int)+6= ((k+6:Nat):Int) from by omega];refine(bh H HE (k+6) H6).mono ?_;rintro e w' ⟨rfl,rfl⟩;go_wp2_with fail;rw[show(k:Int)+7= ((k+7:Nat):Int) from by omega];refine(bh H HE (k+7) H7).mono ?_;rintro e w' ⟨rfl,rfl⟩;go_wp2_with fail;refine wp_region_held_drew (S:=fun w'=>w'.cell? (no g 1)=some (.int .i64 k)/\w'.cell? (nl 20)=some (bR aU)) (by kernel_rfl) (⟨c1',a4⟩) (fun a0=>?_);refine bw 0 1 2 a0 ?_;refine tH 3 a0 ?_;refine tH 4 a0 ?_;refine rH 5 fun K hK=>?_
   go_simp;refine(bE _ aU _).mono ?_;rintro e w' hf;obtain⟨vP,rfl,hv,hb⟩:=hf.low (show ge w w1.drew from Hb.drew);exact⟨rfl,.inr ⟨Hn,vP,rfl,hv,hb⟩⟩
  have a7:((c7.toNat:Int) !=117)=false:=by simp;omega
  obtain rfl:c7=117:=UInt8.toNat_inj.1 (by rw[h117];rfl);have a9:=Qa (a5.trans (if_neg (by rw[h6,h7];simp;omega)));clear h6 h7 h92 h117;go_wp2_with fail;rw[show(k:Int)+6= ((k+6:Nat):Int) from by omega];refine(bh H HE (k+6) H6).mono ?_;rintro e w' ⟨rfl,rfl⟩;go_wp2_with fail;rw[show(k:Int)+7= ((k+7:Nat):Int) from by omega];refine(bh H HE (k+7) H7).mono ?_;rintro e w' ⟨rfl,rfl⟩;go_wp2_with fail
  go_loopw [5,6,7,8,56] (fun s5 _ _ _ s56 wr=>JO xs k w1 s5 s56 wr) (fun _ _ _ _ s56 _=>4 - (intOf s56).toNat)
  case atStart=>exact⟨0,0,by omega,rfl,rfl,rfl,.inl ⟨rfl,rfl⟩,rfl⟩
  case round=>
   obtain⟨m,y,hm,rfl,rfl,hf,b5,rfl⟩:=hrel;have Hf:=Qa hf;have a3:=Qa b5;have c3:y<65536:=Nat.lt_of_lt_of_le (jM hf) (Zc (Nat.pow_le_pow_right (by decide) hm) (by decide));clear hf b5
   by_cases h4:m<4
   .have c5:(m:Int)<4:=by omega
    rcases hc:xs[k+8+m]? with _|c
    .have Hn:=Qa (show lm (xs.drop (k+2))=none from by
      have h1:bD xs (k+8) (m+1)=none:=by unfold bD;rw[Hf.out,hc]
      rw[a9.out,o5 h1 (by omega)])
     have Hc:=Qa hc;clear hc;go_wp2_with fail
     (first|rw[show(k:Int)+8+m= ((k+8+m:Nat):Int) from by omega]|rw[show(k:Int)+8+1= ((k+8+m:Nat):Int) from by omega]|rw[show(k:Int)+9= ((k+8+m:Nat):Int) from by omega]|rw[show(k:Int)+8= ((k+8+m:Nat):Int) from by omega])
     refine(jT H HE (k+8+m) Hc).mono ?_;rintro e w' hf;obtain⟨vP,rfl,hv,hb⟩:=hf.low Hb.out;have Hv:=Qa hv;have a6:=Qa hb;clear hv hb hf;go_wp2_with fail;exact⟨rfl,.inr ⟨Hn,vP,rfl,Hv,a6⟩⟩
    have Hc:=Qa hc;clear hc;rcases hh:jq c with _|d
    .have HH:=Qa hh;have Hn:=Qa (show lm (xs.drop (k+2))=none from by
      have h1:bD xs (k+8) (m+1)=none:=by unfold bD;rw[Hf.out,Hc.out];simp[hh]
      rw[a9.out,o5 h1 (by omega)])
     clear hh;go_wp2_with fail
     (first|rw[show(k:Int)+8+m= ((k+8+m:Nat):Int) from by omega]|rw[show(k:Int)+8+1= ((k+8+m:Nat):Int) from by omega]|rw[show(k:Int)+9= ((k+8+m:Nat):Int) from by omega]|rw[show(k:Int)+8= ((k+8+m:Nat):Int) from by omega])
     refine(bh H HE (k+8+m) Hc).mono ?_;rintro e w' ⟨rfl,rfl⟩;go_wp2_with fail;refine(dL c w1).mono ?_;rintro e w' ⟨rfl,rfl⟩;rw[HH.out];unfold mC;go_wp2_with fail;refine wp_region_held_drew (S:=fun w'=>w'.cell? (no g 1)=some (.int .i64 k)/\w'.cell? (nl 20)=some (bR aU)) (by kernel_rfl) (⟨c1',a4⟩) (fun a0=>?_);refine bw 0 1 2 a0 ?_;refine tH 3 a0 ?_;refine tH 4 a0 ?_;refine rH 5 fun K hK=>?_
     go_simp;refine(bE _ aU _).mono ?_;rintro e w' hf;obtain⟨vP,rfl,hv,hb⟩:=hf.low (show ge w w1.drew from Hb.drew);exact⟨rfl,.inr ⟨Hn,vP,rfl,hv,hb⟩⟩
    have HH:=Qa hh;have a2:=oK hh;clear hh
    by_cases h0:m=0
    .have c2:((m:Int)==0)=true:=by simp;omega
     have b6:((m:Int)==1)=false:=by simp;omega
     by_cases h13:d=13
     .have b0:((d:Int) !=13)=false:=by simp;omega
      have Hs:=Qa (show bD xs (k+8) (m+1)=some (y*16+d) from by unfold bD;rw[Hf.out,Hc.out];simp[HH.out]);have a1:=Qa (show jt (m+1) (y*16+d) from by have:=a3.out;unfold jt at this ⊢;omega);(try clear h13);(try clear h0);(try clear h1);(try clear h12);have or1:=tu y d (by omega) a2;have sh1:((y*16:Nat):Int)= (y:Int)*16:=by omega
      rw[sh1] at or1;clear sh1;go_wp2_with fail
      (first|rw[show(k:Int)+8+m= ((k+8+m:Nat):Int) from by omega]|rw[show(k:Int)+8+1= ((k+8+m:Nat):Int) from by omega]|rw[show(k:Int)+9= ((k+8+m:Nat):Int) from by omega]|rw[show(k:Int)+8= ((k+8+m:Nat):Int) from by omega])
      refine(bh H HE (k+8+m) Hc).mono ?_;rintro e w' ⟨rfl,rfl⟩;go_wp2_with fail;refine(dL c w1).mono ?_;rintro e w' ⟨rfl,rfl⟩;rw[HH.out];unfold mC;go_wp2_with fail;exact⟨⟨m+1,y*16+d,by omega,by go_num,by go_num,Hs.out,a1.out,rfl⟩,by simp[intOf];omega⟩
     .have b0:((d:Int) !=13)=true:=by simp;omega
      have Hn:=Qa (show lm (xs.drop (k+2))=none from by
       have h1:bD xs (k+8) (m+1)=some (y*16+d):=by unfold bD;rw[Hf.out,Hc.out];simp[HH.out]
       have h2:=vg (by omega) h1 (by have:=a3.out;unfold jt at this ⊢;omega);rw[a9.out]
       cases h4:bD xs (k+8) 4 with
       |none=>rfl
       |some z=>exact if_pos (h2 z h4))
      go_wp2_with fail
      (first|rw[show(k:Int)+8+m= ((k+8+m:Nat):Int) from by omega]|rw[show(k:Int)+8+1= ((k+8+m:Nat):Int) from by omega]|rw[show(k:Int)+9= ((k+8+m:Nat):Int) from by omega]|rw[show(k:Int)+8= ((k+8+m:Nat):Int) from by omega])
      refine(bh H HE (k+8+m) Hc).mono ?_;rintro e w' ⟨rfl,rfl⟩;go_wp2_with fail;refine(dL c w1).mono ?_;rintro e w' ⟨rfl,rfl⟩;rw[HH.out];unfold mC;go_wp2_with fail;refine wp_region_held_drew (S:=fun w'=>w'.cell? (no g 1)=some (.int .i64 k)/\w'.cell? (nl 20)=some (bR aU)) (by kernel_rfl) (⟨c1',a4⟩) (fun a0=>?_);refine bw 0 1 2 a0 ?_;refine tH 3 a0 ?_;refine tH 4 a0 ?_;refine rH 5 fun K hK=>?_
      go_simp;refine(bE _ aU _).mono ?_;rintro e w' hf;obtain⟨vP,rfl,hv,hb⟩:=hf.low (show ge w w1.drew from Hb.drew);exact⟨rfl,.inr ⟨Hn,vP,rfl,hv,hb⟩⟩
    .have c2:((m:Int)==0)=false:=by simp;omega
     by_cases h1:m=1
     .have b6:((m:Int)==1)=true:=by simp;omega
      by_cases h12:d<12
      .have b3:(d:Int)<12:=by omega
       have Hn:=Qa (show lm (xs.drop (k+2))=none from by
        have h1:bD xs (k+8) (m+1)=some (y*16+d):=by unfold bD;rw[Hf.out,Hc.out];simp[HH.out]
        have h2:=vg (by omega) h1 (by have:=a3.out;unfold jt at this ⊢;omega);rw[a9.out]
        cases h4:bD xs (k+8) 4 with
        |none=>rfl
        |some z=>exact if_pos (h2 z h4))
       go_wp2_with fail
       (first|rw[show(k:Int)+8+m= ((k+8+m:Nat):Int) from by omega]|rw[show(k:Int)+8+1= ((k+8+m:Nat):Int) from by omega]|rw[show(k:Int)+9= ((k+8+m:Nat):Int) from by omega]|rw[show(k:Int)+8= ((k+8+m:Nat):Int) from by omega])
       refine(bh H HE (k+8+m) Hc).mono ?_;rintro e w' ⟨rfl,rfl⟩;go_wp2_with fail;refine(dL c w1).mono ?_;rintro e w' ⟨rfl,rfl⟩;rw[HH.out];unfold mC;go_wp2_with fail;refine wp_region_held_drew (S:=fun w'=>w'.cell? (no g 1)=some (.int .i64 k)/\w'.cell? (nl 20)=some (bR aU)) (by kernel_rfl) (⟨c1',a4⟩) (fun a0=>?_);refine bw 0 1 2 a0 ?_;refine tH 3 a0 ?_;refine tH 4 a0 ?_;refine rH 5 fun K hK=>?_
       go_simp;refine(bE _ aU _).mono ?_;rintro e w' hf;obtain⟨vP,rfl,hv,hb⟩:=hf.low (show ge w w1.drew from Hb.drew);exact⟨rfl,.inr ⟨Hn,vP,rfl,hv,hb⟩⟩
      .have b3:¬ (d:Int)<12:=by omega
       have Hs:=Qa (show bD xs (k+8) (m+1)=some (y*16+d) from by unfold bD;rw[Hf.out,Hc.out];simp[HH.out]);have a1:=Qa (show jt (m+1) (y*16+d) from by have:=a3.out;unfold jt at this ⊢;omega);(try clear h13);(try clear h0);(try clear h1);(try clear h12);have or1:=tu y d (by omega) a2;have sh1:((y*16:Nat):Int)= (y:Int)*16:=by omega
       rw[sh1] at or1;clear sh1;go_wp2_with fail
       (first|rw[show(k:Int)+8+m= ((k+8+m:Nat):Int) from by omega]|rw[show(k:Int)+8+1= ((k+8+m:Nat):Int) from by omega]|rw[show(k:Int)+9= ((k+8+m:Nat):Int) from by omega]|rw[show(k:Int)+8= ((k+8+m:Nat):Int) from by omega])
       refine(bh H HE (k+8+m) Hc).mono ?_;rintro e w' ⟨rfl,rfl⟩;go_wp2_with fail;refine(dL c w1).mono ?_;rintro e w' ⟨rfl,rfl⟩;rw[HH.out];unfold mC;go_wp2_with fail;exact⟨⟨m+1,y*16+d,by omega,by go_num,by go_num,Hs.out,a1.out,rfl⟩,by simp[intOf];omega⟩
     .have b6:((m:Int)==1)=false:=by simp;omega
      have Hs:=Qa (show bD xs (k+8) (m+1)=some (y*16+d) from by unfold bD;rw[Hf.out,Hc.out];simp[HH.out]);have a1:=Qa (show jt (m+1) (y*16+d) from by have:=a3.out;unfold jt at this ⊢;omega);(try clear h13);(try clear h0);(try clear h1);(try clear h12);have or1:=tu y d (by omega) a2;have sh1:((y*16:Nat):Int)= (y:Int)*16:=by omega
      rw[sh1] at or1;clear sh1;go_wp2_with fail
      (first|rw[show(k:Int)+8+m= ((k+8+m:Nat):Int) from by omega]|rw[show(k:Int)+8+1= ((k+8+m:Nat):Int) from by omega]|rw[show(k:Int)+9= ((k+8+m:Nat):Int) from by omega]|rw[show(k:Int)+8= ((k+8+m:Nat):Int) from by omega])
      refine(bh H HE (k+8+m) Hc).mono ?_;rintro e w' ⟨rfl,rfl⟩;go_wp2_with fail;refine(dL c w1).mono ?_;rintro e w' ⟨rfl,rfl⟩;rw[HH.out];unfold mC;go_wp2_with fail;exact⟨⟨m+1,y*16+d,by omega,by go_num,by go_num,Hs.out,a1.out,rfl⟩,by simp[intOf];omega⟩
   .obtain rfl:m=4:=by omega
    have c4:56320<=y/\y<=57343:=by have:=a3.out;unfold jt at this;omega
    have Hr:=Qa (show lm (xs.drop (k+2))=some (65536+ (x - 55296)*1024+ (y - 56320),12) from by
     rw[a9.out,Hf.out];exact if_neg (by omega))
    obtain⟨z,hz⟩:=y7 (65536+ (x - 55296)*1024+ (y - 56320):Nat);have hzb:z<1114112:=by omega
    have sz:IntKind.i32.wrap (z:Int)=z:=by simp[IntKind.wrap,IntKind.bits,IntKind.signed];omega
    have ez:65536+ ((x:Int) - 55296)*1024+y - 56320=z:=by omega
    rw[hz] at Hr;clear hz;go_wp2_with fail;go_ret2;exact .inl ⟨_,Hr,rfl,Hb⟩
theorem EB.low {r:Option (Nat×Nat)}{e:Ending}(h:EB r w1 e w')(hb:ge w w1):EB r w e w':=by
 rcases h with ⟨p,h1,h2,h3⟩|⟨h1,h2⟩
 .exact .inl ⟨p,h1,h2,bI hb h3⟩
 .exact .inr ⟨h1,h2.low hb⟩
theorem zP {c:UInt8}{t:Na}(h:¬ (c=98\/c=116\/c=110\/c=102\/c=114\/c=34\/c=92\/c=47\/c=117)):wR (c::t)=none:=by
 unfold wR
 split <;> first|rfl|(rename_i e;injection e with e _;subst e;simp at h)
theorem xz {k:Nat}(h:uQ w g v xs k)(hE:bG w 4)(hS:bG w 19)(hU:bG w 20)(hk:k<=1000000000):Calls prog 257 #[.pointer (some (nl g))] w fun e w'=>EB (wR (xs.drop (k+1))) w e w':=by
 have c1:=ac h.1 (j:=1) (u:=(k:Int)) rfl;have H:=Qa h;have HE:=Qa hE;have a3:=Qa (wQ h hE hS hU hk);obtain⟨aS,a2⟩:=hS;clear h hE hU;rcases hc:xs[k+1]? with _|c
 .have Hn:=Qa (show wR (xs.drop (k+1))=none by rw[List.drop_of_length_le (List.getElem?_eq_none_iff.1 hc)];rfl);have Hc:=Qa hc;clear hc;go_in;go_wp2_with fail;rw[show(k:Int)+1= ((k+1:Nat):Int) from by omega];refine(jT H HE (k+1) Hc).mono ?_;rintro e w' ⟨vP,rfl,hv,hb⟩;have Hv:=Qa hv;have a0:=Qa hb;clear hv hb;go_wp2_with fail;exact⟨rfl,.inr ⟨Hn,vP,rfl,Hv,a0⟩⟩
 have hd:xs.drop (k+1)=c::xs.drop (k+2):=by
  obtain⟨hlt,he⟩:=List.getElem?_eq_some_iff.1 hc;rw[List.drop_eq_getElem_cons hlt,he]
 rw[hd];have Hc:=Qa hc;clear hc hd
 by_cases h98:c=98
 .subst h98;go_in;go_wp2_with fail;rw[show(k:Int)+1= ((k+1:Nat):Int) from by omega];refine(bh H HE (k+1) Hc).mono ?_;rintro e w' ⟨rfl,rfl⟩;rw[show(98:UInt8).toNat=98 from rfl];go_wp2_with fail;go_ret2;exact .inl ⟨(8,2),rfl,rfl,Ze _ _⟩
 by_cases h116:c=116
 .subst h116;go_in;go_wp2_with fail;rw[show(k:Int)+1= ((k+1:Nat):Int) from by omega];refine(bh H HE (k+1) Hc).mono ?_;rintro e w' ⟨rfl,rfl⟩;rw[show(116:UInt8).toNat=116 from rfl];go_wp2_with fail;go_ret2;exact .inl ⟨(9,2),rfl,rfl,Ze _ _⟩
 by_cases h110:c=110
 .subst h110;go_in;go_wp2_with fail;rw[show(k:Int)+1= ((k+1:Nat):Int) from by omega];refine(bh H HE (k+1) Hc).mono ?_;rintro e w' ⟨rfl,rfl⟩;rw[show(110:UInt8).toNat=110 from rfl];go_wp2_with fail;go_ret2;exact .inl ⟨(10,2),rfl,rfl,Ze _ _⟩
 by_cases h102:c=102
 .subst h102;go_in;go_wp2_with fail;rw[show(k:Int)+1= ((k+1:Nat):Int) from by omega];refine(bh H HE (k+1) Hc).mono ?_;rintro e w' ⟨rfl,rfl⟩;rw[show(102:UInt8).toNat=102 from rfl];go_wp2_with fail;go_ret2;exact .inl ⟨(12,2),rfl,rfl,Ze _ _⟩
 by_cases h114:c=114
 .subst h114;go_in;go_wp2_with fail;rw[show(k:Int)+1= ((k+1:Nat):Int) from by omega];refine(bh H HE (k+1) Hc).mono ?_;rintro e w' ⟨rfl,rfl⟩;rw[show(114:UInt8).toNat=114 from rfl];go_wp2_with fail;go_ret2;exact .inl ⟨(13,2),rfl,rfl,Ze _ _⟩
 by_cases h34:c=34
 .subst h34;go_in;go_wp2_with fail;rw[show(k:Int)+1= ((k+1:Nat):Int) from by omega];refine(bh H HE (k+1) Hc).mono ?_;rintro e w' ⟨rfl,rfl⟩;rw[show(34:UInt8).toNat=34 from rfl];go_wp2_with fail;go_ret2;exact .inl ⟨(34,2),rfl,rfl,Ze _ _⟩
 by_cases h92:c=92
 .subst h92;go_in;go_wp2_with fail;rw[show(k:Int)+1= ((k+1:Nat):Int) from by omega];refine(bh H HE (k+1) Hc).mono ?_;rintro e w' ⟨rfl,rfl⟩;rw[show(92:UInt8).toNat=92 from rfl];go_wp2_with fail;go_ret2;exact .inl ⟨(92,2),rfl,rfl,Ze _ _⟩
 by_cases h47:c=47
 .subst h47;go_in;go_wp2_with fail;rw[show(k:Int)+1= ((k+1:Nat):Int) from by omega];refine(bh H HE (k+1) Hc).mono ?_;rintro e w' ⟨rfl,rfl⟩;rw[show(47:UInt8).toNat=47 from rfl];go_wp2_with fail;go_ret2;exact .inl ⟨(47,2),rfl,rfl,Ze _ _⟩
 by_cases h117:c=117
 .subst h117;go_in;go_wp2_with fail;rw[show(k:Int)+1= ((k+1:Nat):Int) from by omega];refine(bh H HE (k+1) Hc).mono ?_;rintro e w' ⟨rfl,rfl⟩;rw[show(117:UInt8).toNat=117 from rfl];go_wp2_with fail;refine Za a3 ?_;rintro e w' (⟨p,hp,rfl,hb⟩|⟨hn,vP,rfl,hv,hb⟩)
  .have Hp:=Qa hp;have Hb:=Qa hb;obtain⟨p1,p2⟩:=p;clear hp hb
   dsimp only
   go_wp2_with fail;go_ret2;exact .inl ⟨(p1,p2),Hp,rfl,Hb⟩
  .have Hn:=Qa hn;have Hv:=Qa hv;have a0:=Qa hb;clear hn hv hb;go_wp2_with fail;exact⟨rfl,.inr ⟨Hn,vP,rfl,Hv,a0⟩⟩
 have Hn:=Qa (zP (c:=c) (t:=xs.drop (k+2)) (by rintro(e|e|e|e|e|e|e|e|e) <;> contradiction));have n98:((c.toNat:Int)==98)=false:=by simp only[beq_eq_false_iff_ne];intro e;exact h98 (UInt8.toNat_inj.1 (by show c.toNat=98;omega))
 have n116:((c.toNat:Int)==116)=false:=by simp only[beq_eq_false_iff_ne];intro e;exact h116 (UInt8.toNat_inj.1 (by show c.toNat=116;omega))
 have n110:((c.toNat:Int)==110)=false:=by simp only[beq_eq_false_iff_ne];intro e;exact h110 (UInt8.toNat_inj.1 (by show c.toNat=110;omega))
 have n102:((c.toNat:Int)==102)=false:=by simp only[beq_eq_false_iff_ne];intro e;exact h102 (UInt8.toNat_inj.1 (by show c.toNat=102;omega))
 have n114:((c.toNat:Int)==114)=false:=by simp only[beq_eq_false_iff_ne];intro e;exact h114 (UInt8.toNat_inj.1 (by show c.toNat=114;omega))
 have n34:((c.toNat:Int)==34)=false:=by simp only[beq_eq_false_iff_ne];intro e;exact h34 (UInt8.toNat_inj.1 (by show c.toNat=34;omega))
 have n92:((c.toNat:Int)==92)=false:=by simp only[beq_eq_false_iff_ne];intro e;exact h92 (UInt8.toNat_inj.1 (by show c.toNat=92;omega))
 have n47:((c.toNat:Int)==47)=false:=by simp only[beq_eq_false_iff_ne];intro e;exact h47 (UInt8.toNat_inj.1 (by show c.toNat=47;omega))
 have n117:((c.toNat:Int)==117)=false:=by simp only[beq_eq_false_iff_ne];intro e;exact h117 (UInt8.toNat_inj.1 (by show c.toNat=117;omega))
 clear h98 h116 h110 h102 h114 h34 h92 h47 h117;go_in;go_wp2_with fail;rw[show(k:Int)+1= ((k+1:Nat):Int) from by omega];refine(bh H HE (k+1) Hc).mono ?_;rintro e w' ⟨rfl,rfl⟩;go_wp2_with fail;refine wp_region_held_drew (S:=fun w'=>w'.cell? (no g 1)=some (.int .i64 k)/\w'.cell? (nl 19)=some (bR aS)) (by kernel_rfl) (⟨c1,a2⟩) (fun a1=>?_);refine bw 0 1 2 a1 ?_;refine tH 3 a1 ?_;refine tH 4 a1 ?_;refine rH 5 fun K hK=>?_
 go_simp;refine(bE _ aS _).mono ?_;rintro e w' hf;obtain⟨vP,rfl,hv,hb⟩:=hf.low (show ge w w.drew from(Ze _ _).drew);exact⟨rfl,.inr ⟨Hn,vP,rfl,hv,hb⟩⟩
theorem iP (x:Int)(w:Wd) :
  Calls prog 169 #[.int .u8 x] w fun e w'=>e =.returned (.bool (eB x))/\w=w':=by
 go_in;go_wp2;go_ret;exact⟨rfl,rfl⟩
theorem fa (x y:Int)(h':0<=y/\y<=255)(w:Wd) :
  Calls prog 168 #[.int .u8 x,.int .u8 y] w fun e w'=>e =.returned (.bool (dU x y))/\w=w':=by
 go_in;go_wp2_with (go_at_call 169;refine(iP _ _).mono ?_;rintro e w' ⟨rfl,rfl⟩)
 all_goals go_ret
 all_goals refine⟨bP ?_,rfl⟩
 all_goals (simp_all [dU] <;> omega)
def Aj (w:Wd):Prop:= ∀i,i<16->w.cell? (no 7 i)=some (.int .i8 (fK.getD i 0))
theorem iM (x:Int)(h:0<=x/\x<=255)(w:Wd)(hL:Aj w) :
  Calls prog 167 #[.int .u8 x] w fun e w'=>e = (bu x:Int)/\w=w':=by
 by_cases h1:x=192\/x=193\/244<x
 .have hc:bu x = -1:=by simp[bu,h1]
  rw[hc];clear hc;go_in;rcases h1 with rfl|rfl|h1
  .go_wp2;go_ret;exact⟨rfl,rfl⟩
  .go_wp2;go_ret;exact⟨rfl,rfl⟩
  .have e1:(x==192)=false:=by simp;omega
   have e2:(x==193)=false:=by simp;omega
   go_wp2;go_ret;exact⟨rfl,rfl⟩
 .have hc:bu x=fK.getD (x/16).toNat 0:=by simp[bu,h1]
  rw[hc];clear hc;have hc:=hL (x/16).toNat (by omega);clear hL;have hb:∃q:Int,-1<=q/\q<=4/\fK.getD (x/16).toNat 0=q:=⟨_,(sj _).1,(sj _).2,rfl⟩;obtain⟨q,q1,q2,hq⟩:=hb;rw[hq] at hc ⊢;clear hq;have e1:(x==192)=false:=by simp;omega
  have e2:(x==193)=false:=by simp;omega
  have e3:¬244<x:=by omega
  clear h1;go_in;go_wp2;go_ret;exact⟨rfl,rfl⟩
def oN (U E:Value)(c:Nat):Value:=if c=0 then .nilIface else if c=1 then E else U
def tF (U E:Value)(r:Nat×Nat×Nat):Value:=.tuple #[.int .i32 r.1,(r.2.1:Int),oN U E r.2.2]
theorem ux (n:Nat)(xs:Na)(hn:2<=n)(a2:n<=4):∀k,k<=n->eR n xs k<2097152/\(k<n->eR n xs k<32768):=by
 have b0:=aO xs 0;have b1:=aO xs 1;have b2:=aO xs 2;have b3:=aO xs 3;intro k hk;have a1:k=0\/k=1\/k=2\/k=3\/k=4:=by omega
 have a0:n=2\/n=3\/n=4:=by omega
 rcases a0 with rfl|rfl|rfl <;> rcases a1 with rfl|rfl|rfl|rfl|rfl <;> simp[eR,cZ] <;> omega
def im (U E:Value)(w:Wd)(R:Nat×Nat×Nat)(e:Ending)(w':Wd):Prop:=e =tF U E R/\∃m,w'=w.drewN m
def jl (xs:Na)(n:Nat)(R:Nat×Nat×Nat)(w:Wd)(cc i:Value)(wr:Wd):Prop:=
 ∃f k:Nat,k+f=n/\1<=k/\k<=xs.length/\i =(k:Int)/\cc =.int .i32 (eR n xs k)/\aL xs n f k=R/\∃m,wr=w.drewN m
theorem KN:∀x:Nat,x<256->bits .and .i32 (x:Int) 31= ((x % 32:Nat):Int):=by decide +kernel
theorem Jl:∀x:Nat,x<256->bits .and .i32 (x:Int) 15= ((x % 16:Nat):Int):=by decide +kernel
theorem Ml:∀x:Nat,x<256->bits .and .i32 (x:Int) 7= ((x % 8:Nat):Int):=by decide +kernel
theorem yG (x:Nat)(h:x<256):((cZ 2 x:Nat):Int)=bits .and .i32 (x:Int) 31:=by rw[KN x h];rfl
theorem zC (x:Nat)(h:x<256):((cZ 3 x:Nat):Int)=bits .and .i32 (x:Int) 15:=by rw[Jl x h];rfl
theorem zy (x:Nat)(h:x<256):((cZ 4 x:Nat):Int)=bits .and .i32 (x:Int) 7:=by rw[Ml x h];rfl
theorem iH {f k y:Nat}{R:Nat×Nat×Nat}{v:Int}(hq:eR n xs k=q)(hy:ar xs k=y)(hk:1<=k)(hf:k+ (f+1)=n)
  (hlt:k<xs.length) (hR:aL xs n (f+1) k=R) (a0:qQ xs k=true) (hv:v= (k:Int)+1) :
  jl xs n R w (.int .i32 ((q:Int)*64+ (y:Int) % 64)) (v:Int) (w.drewN m):=by
 refine⟨f,k+1,by omega,by omega,by omega,by rw[hv];rfl,?_,?_,m,rfl⟩
 .obtain⟨j,rfl⟩:∃j,k=j+1:=⟨k - 1,by omega⟩;rw[eR,hq,hy];congr 1
 .rw[<-hR,aL,if_neg (by omega),if_pos a0]
theorem fy {f k:Nat}{R:Nat×Nat×Nat}(hlt:k<xs.length)(hR:aL xs n (f+1) k=R)(a0:qQ xs k=false):(0,0,2)=R:=by
 rw[<-hR,aL,if_neg (by omega),a0];rfl
theorem Fe (b o c len:Nat)(xs:Na)(w:Wd)(hlen:xs.length=len)(h2:1<=len)(hm:len<=9223372036854775807)
  (hc:∀i,i<len->w.cell? ⟨b,o+i,none⟩=some (.int .u8 (ar xs i))) (U E:Value) (hU:w.cell? (nl 5)=some U) (hE:w.cell? (nl 4)=some E) (hL:Aj w) (hn:bu (ar xs 0)=2) :
  Calls prog 124 #[.slice (some (no b o)) len c] w (im U E w (aL xs 2 1 1)):=by
 have a7:=ux 2 xs (by omega) (by omega);have h0:=hc 0 (by omega);rw[Nat.add_zero] at h0;have hx:=aO xs 0;have a3:eR 2 xs 1=cZ 2 (ar xs 0):=rfl;have a0:jl xs 2 (aL xs 2 1 1) w (.int .i32 (eR 2 xs 1)) (1:Int) w:=
  ⟨1,1,by omega,by omega,by omega,rfl,rfl,rfl,0,rfl⟩
 rw[a3] at a0;generalize aL xs 2 1 1=R at *;generalize hx0:ar xs 0=x0 at *;have Hc:=Qa hc;have Hn:=Qa hn;have b0:=Qa a7;have Hs:=Qa a0;have a1:=Qa hlen;have b1:=Qa hx0;clear hc hn hlen a7 a3 a0 hx0;have HL:=Qa hL;clear hL;have b5:((len:Int)==0)=false:=by simp;omega
 go_in;go_wp2_with (go_at_call 167;refine(iM _ (by omega) _ HL.out).mono ?_;rintro e w' ⟨rfl,rfl⟩;rw[Hn.out])
 go_loopw [6,7] (jl xs 2 R w) (fun _ i _=>2 - (intOf i).toNat)
 case atStart=>exact yG x0 hx▸Hs.out
 case round=>
  obtain⟨f,k,hf,a6,b7,rfl,rfl,hR,m,rfl⟩:=hrel
  cases f with
  |zero=>
   obtain rfl:k=2:=by omega
   generalize hq:eR 2 xs 2=q at *;have HR:=Qa (show(q,2,0)=R by rw[<-hR,<-hq];rfl);clear hR hq;go_wp2;go_ret3;exact⟨by rw[<-HR.out];rfl,m,rfl⟩
  |succ f=>
   have b8:k<2:=by omega
   by_cases hkl:k=len
   .have HR:=Qa (show(0,0,1)=R by rw[<-hR,aL,if_pos (by rw[a1.out];exact hkl)]);clear hR;generalize eR 2 xs k=q at *;subst hkl;go_wp2;go_quiet (fail)
    all_goals (go_wp2;go_ret3)
    exact⟨by rw[<-HR.out];rfl,_,World.drewN_drewN _ _ _⟩
   .have a2:k<len:=by have:=a1.out;omega
    have a9:((k:Int)==len)=false:=by simp;omega
    have hq:=(b0 k (by omega)).2 (by omega);have a5:=Hc k a2;have b4:=aO xs k;have Hf:=Qa hf;generalize hqq:eR 2 xs k=q at *;have Hq:=Qa hqq;clear hqq hf;generalize hyy:ar xs k=y at *;have Hy:=Qa hyy;clear hyy;have HR:=Qa hR;clear hR;have hp:0<len:=by omega
    have b6:(0:Int)<len:=by omega
    by_cases a6:k=1
    .subst a6;have b3:(1:Int)<len:=by omega
     have a4:=Qa (l6 b1.out Hy.out)
     by_cases hs:dU x0 y=true
     .go_wp2;go_quiet ((go_at_call 168;exact df (fa _ _ (by omega) _)));go_wp2_with (go_at_call 169;refine(iP _ _).mono ?_;rintro e w' ⟨rfl,rfl⟩)
      .have ht:(!eB y)=true:=by assumption
       go_quiet (fail)
       all_goals (go_wp2;go_ret3)
       exact⟨by rw[<-fy (by rw[a1.out];exact a2) HR.out (by rw[a4.out,hs];simpa using ht)];rfl,_,World.drewN_drewN _ _ _⟩
      .have ht:(!eB y)=false:=by assumption
       exact⟨iH Hq Hy (by omega) Hf.out (by rw[a1.out];exact a2) HR.out (by rw[a4.out,hs];simpa using ht) (by omega),by simp[intOf]⟩
     .have b2:dU x0 y=false:=by simpa using hs
      clear hs;go_wp2;go_quiet ((go_at_call 168;exact df (fa _ _ (by omega) _)));go_wp2;go_quiet (fail)
      all_goals (go_wp2;go_ret3)
      exact⟨by rw[<-fy (by rw[a1.out];exact a2) HR.out (by rw[a4.out,b2];rfl)];rfl,_,(congrArg (fun W:Wd=>W.drewN _) (World.drewN_drewN ..)).trans (World.drewN_drewN ..)⟩
    .exfalso;omega
theorem DU (b o c len:Nat)(xs:Na)(w:Wd)(hlen:xs.length=len)(h2:1<=len)(hm:len<=9223372036854775807)
  (hc:∀i,i<len->w.cell? ⟨b,o+i,none⟩=some (.int .u8 (ar xs i))) (U E:Value) (hU:w.cell? (nl 5)=some U) (hE:w.cell? (nl 4)=some E) (hL:Aj w) (hn:bu (ar xs 0)=3) :
  Calls prog 124 #[.slice (some (no b o)) len c] w (im U E w (aL xs 3 2 1)):=by
 have a7:=ux 3 xs (by omega) (by omega);have h0:=hc 0 (by omega);rw[Nat.add_zero] at h0;have hx:=aO xs 0;have a4:eR 3 xs 1=cZ 3 (ar xs 0):=rfl;have a1:jl xs 3 (aL xs 3 2 1) w (.int .i32 (eR 3 xs 1)) (1:Int) w:=
  ⟨2,1,by omega,by omega,by omega,rfl,rfl,rfl,0,rfl⟩
 rw[a4] at a1;generalize aL xs 3 2 1=R at *;generalize hx0:ar xs 0=x0 at *;have Hc:=Qa hc;have Hn:=Qa hn;have b0:=Qa a7;have Hs:=Qa a1;have a0:=Qa hlen;have b1:=Qa hx0;clear hc hn hlen a7 a4 a1 hx0;have HL:=Qa hL;clear hL;have b5:((len:Int)==0)=false:=by simp;omega
 go_in;go_wp2_with (go_at_call 167;refine(iM _ (by omega) _ HL.out).mono ?_;rintro e w' ⟨rfl,rfl⟩;rw[Hn.out])
 go_loopw [6,7] (jl xs 3 R w) (fun _ i _=>3 - (intOf i).toNat)
 case atStart=>exact zC x0 hx▸Hs.out
 case round=>
  obtain⟨f,k,hf,a5,b8,rfl,rfl,hR,m,rfl⟩:=hrel
  cases f with
  |zero=>
   obtain rfl:k=3:=by omega
   generalize hq:eR 3 xs 3=q at *;have HR:=Qa (show(q,3,0)=R by rw[<-hR,<-hq];rfl);clear hR hq;go_wp2;go_ret3;exact⟨by rw[<-HR.out];rfl,m,rfl⟩
  |succ f=>
   have b9:k<3:=by omega
   by_cases hkl:k=len
   .have HR:=Qa (show(0,0,1)=R by rw[<-hR,aL,if_pos (by rw[a0.out];exact hkl)]);clear hR;generalize eR 3 xs k=q at *;subst hkl;go_wp2;go_quiet (fail)
    all_goals (go_wp2;go_ret3)
    exact⟨by rw[<-HR.out];rfl,_,World.drewN_drewN _ _ _⟩
   .have a2:k<len:=by have:=a0.out;omega
    have a9:((k:Int)==len)=false:=by simp;omega
    have hq:=(b0 k (by omega)).2 (by omega);have a6:=Hc k a2;have b4:=aO xs k;have Hf:=Qa hf;generalize hqq:eR 3 xs k=q at *;have Hq:=Qa hqq;clear hqq hf;generalize hyy:ar xs k=y at *;have Hy:=Qa hyy;clear hyy;have HR:=Qa hR;clear hR;have hp:0<len:=by omega
    have b6:(0:Int)<len:=by omega
    by_cases a5:k=1
    .subst a5;have b3:(1:Int)<len:=by omega
     have a3:=Qa (l6 b1.out Hy.out)
     by_cases hs:dU x0 y=true
     .go_wp2;go_quiet ((go_at_call 168;exact df (fa _ _ (by omega) _)));go_wp2_with (go_at_call 169;refine(iP _ _).mono ?_;rintro e w' ⟨rfl,rfl⟩)
      .have ht:(!eB y)=true:=by assumption
       go_quiet (fail)
       all_goals (go_wp2;go_ret3)
       exact⟨by rw[<-fy (by rw[a0.out];exact a2) HR.out (by rw[a3.out,hs];simpa using ht)];rfl,_,World.drewN_drewN _ _ _⟩
      .have ht:(!eB y)=false:=by assumption
       exact⟨iH Hq Hy (by omega) Hf.out (by rw[a0.out];exact a2) HR.out (by rw[a3.out,hs];simpa using ht) (by omega),by simp[intOf]⟩
     .have b2:dU x0 y=false:=by simpa using hs
      clear hs;go_wp2;go_quiet ((go_at_call 168;exact df (fa _ _ (by omega) _)));go_wp2;go_quiet (fail)
      all_goals (go_wp2;go_ret3)
      exact⟨by rw[<-fy (by rw[a0.out];exact a2) HR.out (by rw[a3.out,b2];rfl)];rfl,_,(congrArg (fun W:Wd=>W.drewN _) (World.drewN_drewN ..)).trans (World.drewN_drewN ..)⟩
    .have b7:((k:Int)==1)=false:=by simp;omega
     have a3:=Qa (ko a5 Hy.out);go_wp2;go_quiet (fail);go_wp2_with (go_at_call 169;refine(iP _ _).mono ?_;rintro e w' ⟨rfl,rfl⟩)
     .have ht:(!eB y)=true:=by assumption
      go_quiet (fail)
      all_goals (go_wp2;go_ret3)
      exact⟨by rw[<-fy (by rw[a0.out];exact a2) HR.out (by rw[a3.out];simpa using ht)];rfl,_,World.drewN_drewN _ _ _⟩
     .have ht:(!eB y)=false:=by assumption
      exact⟨iH Hq Hy (by omega) Hf.out (by rw[a0.out];exact a2) HR.out (by rw[a3.out];simpa using ht) (by omega),by simp[intOf];omega⟩
theorem EG (b o c len:Nat)(xs:Na)(w:Wd)(hlen:xs.length=len)(h2:1<=len)(hm:len<=9223372036854775807)
  (hc:∀i,i<len->w.cell? ⟨b,o+i,none⟩=some (.int .u8 (ar xs i))) (U E:Value) (hU:w.cell? (nl 5)=some U) (hE:w.cell? (nl 4)=some E) (hL:Aj w) (hn:bu (ar xs 0)=4) :
  Calls prog 124 #[.slice (some (no b o)) len c] w (im U E w (aL xs 4 3 1)):=by
 have a7:=ux 4 xs (by omega) (by omega);have h0:=hc 0 (by omega);rw[Nat.add_zero] at h0;have hx:=aO xs 0;have a4:eR 4 xs 1=cZ 4 (ar xs 0):=rfl;have a1:jl xs 4 (aL xs 4 3 1) w (.int .i32 (eR 4 xs 1)) (1:Int) w:=
  ⟨3,1,by omega,by omega,by omega,rfl,rfl,rfl,0,rfl⟩
 rw[a4] at a1;generalize aL xs 4 3 1=R at *;generalize hx0:ar xs 0=x0 at *;have Hc:=Qa hc;have Hn:=Qa hn;have b0:=Qa a7;have Hs:=Qa a1;have a0:=Qa hlen;have b1:=Qa hx0;clear hc hn hlen a7 a4 a1 hx0;have HL:=Qa hL;clear hL;have b5:((len:Int)==0)=false:=by simp;omega
 go_in;go_wp2_with (go_at_call 167;refine(iM _ (by omega) _ HL.out).mono ?_;rintro e w' ⟨rfl,rfl⟩;rw[Hn.out])
 go_loopw [6,7] (jl xs 4 R w) (fun _ i _=>4 - (intOf i).toNat)
 case atStart=>exact zy x0 hx▸Hs.out
 case round=>
  obtain⟨f,k,hf,a5,b8,rfl,rfl,hR,m,rfl⟩:=hrel
  cases f with
  |zero=>
   obtain rfl:k=4:=by omega
   generalize hq:eR 4 xs 4=q at *;have HR:=Qa (show(q,4,0)=R by rw[<-hR,<-hq];rfl);clear hR hq;go_wp2;go_ret3;exact⟨by rw[<-HR.out];rfl,m,rfl⟩
  |succ f=>
   have b9:k<4:=by omega
   by_cases hkl:k=len
   .have HR:=Qa (show(0,0,1)=R by rw[<-hR,aL,if_pos (by rw[a0.out];exact hkl)]);clear hR;generalize eR 4 xs k=q at *;subst hkl;go_wp2;go_quiet (fail)
    all_goals (go_wp2;go_ret3)
    exact⟨by rw[<-HR.out];rfl,_,World.drewN_drewN _ _ _⟩
   .have a2:k<len:=by have:=a0.out;omega
    have a9:((k:Int)==len)=false:=by simp;omega
    have hq:=(b0 k (by omega)).2 (by omega);have a6:=Hc k a2;have b4:=aO xs k;have Hf:=Qa hf;generalize hqq:eR 4 xs k=q at *;have Hq:=Qa hqq;clear hqq hf;generalize hyy:ar xs k=y at *;have Hy:=Qa hyy;clear hyy;have HR:=Qa hR;clear hR;have hp:0<len:=by omega
    have b6:(0:Int)<len:=by omega
    by_cases a5:k=1
    .subst a5;have b3:(1:Int)<len:=by omega
     have a3:=Qa (l6 b1.out Hy.out)
     by_cases hs:dU x0 y=true
     .go_wp2;go_quiet ((go_at_call 168;exact df (fa _ _ (by omega) _)));go_wp2_with (go_at_call 169;refine(iP _ _).mono ?_;rintro e w' ⟨rfl,rfl⟩)
      .have ht:(!eB y)=true:=by assumption
       go_quiet (fail)
       all_goals (go_wp2;go_ret3)
       exact⟨by rw[<-fy (by rw[a0.out];exact a2) HR.out (by rw[a3.out,hs];simpa using ht)];rfl,_,World.drewN_drewN _ _ _⟩
      .have ht:(!eB y)=false:=by assumption
       exact⟨iH Hq Hy (by omega) Hf.out (by rw[a0.out];exact a2) HR.out (by rw[a3.out,hs];simpa using ht) (by omega),by simp[intOf]⟩
     .have b2:dU x0 y=false:=by simpa using hs
      clear hs;go_wp2;go_quiet ((go_at_call 168;exact df (fa _ _ (by omega) _)));go_wp2;go_quiet (fail)
      all_goals (go_wp2;go_ret3)
      exact⟨by rw[<-fy (by rw[a0.out];exact a2) HR.out (by rw[a3.out,b2];rfl)];rfl,_,(congrArg (fun W:Wd=>W.drewN _) (World.drewN_drewN ..)).trans (World.drewN_drewN ..)⟩
    .have b7:((k:Int)==1)=false:=by simp;omega
     have a3:=Qa (ko a5 Hy.out);go_wp2;go_quiet (fail);go_wp2_with (go_at_call 169;refine(iP _ _).mono ?_;rintro e w' ⟨rfl,rfl⟩)
     .have ht:(!eB y)=true:=by assumption
      go_quiet (fail)
      all_goals (go_wp2;go_ret3)
      exact⟨by rw[<-fy (by rw[a0.out];exact a2) HR.out (by rw[a3.out];simpa using ht)];rfl,_,World.drewN_drewN _ _ _⟩
     .have ht:(!eB y)=false:=by assumption
      exact⟨iH Hq Hy (by omega) Hf.out (by rw[a0.out];exact a2) HR.out (by rw[a3.out];simpa using ht) (by omega),by simp[intOf];omega⟩
theorem DE (b o c len:Nat)(w:Wd)(h2:1<=len)(hm:len<=9223372036854775807)(x:Nat)(hx:x<256)
  (h0:w.cell? (no b o)=some (.int .u8 x)) (U E:Value) (hL:Aj w) (hn:bu x=1) :
  Calls prog 124 #[.slice (some (no b o)) len c] w (im U E w (x,1,0)):=by
 have Hn:=Qa hn;have HL:=Qa hL;clear hL hn;have a0:((len:Int)==0)=false:=by simp;omega
 go_in;go_wp2_with (go_at_call 167;refine(iM _ (by omega) _ HL.out).mono ?_;rintro e w' ⟨rfl,rfl⟩;rw[Hn.out])
 go_loopw [6,7] (fun cc i wr=>i =(1:Int)/\cc =.int .i32 x/\w=wr) (fun _ i _=>1 - (intOf i).toNat)
 case atStart=>exact⟨rfl,rfl,rfl⟩
 case round=>
  obtain⟨rfl,rfl,rfl⟩:=hrel;go_wp2;go_ret3;exact⟨rfl,0,rfl⟩
theorem Dp (b o c len:Nat)(w:Wd)(h2:1<=len)(hm:len<=9223372036854775807)(x:Nat)(hx:x<256)
  (h0:w.cell? (no b o)=some (.int .u8 x)) (U E:Value) (hU:w.cell? (nl 5)=some U) (hL:Aj w) (n:Int) (a1:n<1) (hn:bu x=n) :
  Calls prog 124 #[.slice (some (no b o)) len c] w (im U E w (0,0,2)):=by
 have Hn:=Qa hn;have HL:=Qa hL;clear hL hn;have a0:((len:Int)==0)=false:=by simp;omega
 go_in;go_wp2_with (go_at_call 167;refine(iM _ (by omega) _ HL.out).mono ?_;rintro e w' ⟨rfl,rfl⟩;rw[Hn.out]);go_quiet (fail)
 all_goals (go_wp2;go_ret3)
 exact⟨rfl,_,rfl⟩
theorem yU (A:OA)(c:Nat)(w:Wd)(U E:Value)(hE:w.cell? (nl 4)=some E) :
  Calls prog 124 #[.slice A 0 c] w (im U E w (0,0,1)):=by
 go_in;go_wp2;go_quiet (fail)
 all_goals (go_wp2;go_ret3)
 exact⟨rfl,_,rfl⟩
abbrev cQ (a:Addr):Value:=.iface 425 (.pointer (some a))
structure cG (w:Wd) (aU aE:Addr):Prop where
 u:w.cell? (nl 5)=some (cQ aU)
 e:w.cell? (nl 4)=some (cQ aE)
 l:Aj w
 hu:∃cs t,w.heap[aU.block]?=some (.cells cs t (0,0))
 he:∃cs t,w.heap[aE.block]?=some (.cells cs t (0,0))
 ne:aU≠aE
theorem cG.below (h:cG w aU aE)(hb:ge w w'):cG w' aU aE:=by
 obtain⟨c1,t1,h1⟩:=h.hu;obtain⟨c2,t2,h2⟩:=h.he;exact⟨Zg hb h.u,Zg hb h.e,fun i hi=>Zg hb (h.l i hi),
  ⟨c1,t1,(hb.block _ (ah h1)).trans h1⟩,⟨c2,t2,(hb.block _ (ah h2)).trans h2⟩,h.ne⟩
theorem cG.drewN (h:cG w aU aE)(m:Nat):cG (w.drewN m) aU aE:=⟨h.u,h.e,h.l,h.hu,h.he,h.ne⟩
theorem iY (hb:Bs w v xs)(hg:cG w aU aE) :
  Calls prog 124 #[v] w (im (cQ aU) (cQ aE) w (bK xs)):=by
 obtain⟨hm,A,c,rfl,hc,a0⟩:=hb
 by_cases h0:xs.length=0
 .obtain rfl:xs = []:=List.eq_nil_of_length_eq_zero h0;exact yU A c w (cQ aU) (cQ aE) hg.e
 .obtain⟨b,o,rfl,a1⟩:=a0 (by omega);have hx:=aO xs 0;have h1:=a1 0 (by omega);rw[Nat.add_zero] at h1;rcases fR _ hx with hn|hn|hn|hn|hn
  .rw[E4 (by omega) hn];exact Dp b o c xs.length w (by omega) hm _ hx h1 (cQ aU) (cQ aE) hg.u hg.l _ hn rfl
  .rw[nP (n:=1) (by omega) (by omega) hn];have:=DE b o c xs.length w (by omega) hm _ hx h1 (cQ aU) (cQ aE) hg.l hn;simpa [aL,eR,cZ] using this
  .rw[nP (n:=2) (by omega) (by omega) hn];exact Fe b o c xs.length xs w rfl (by omega) hm a1 (cQ aU) (cQ aE) hg.u hg.e hg.l hn
  .rw[nP (n:=3) (by omega) (by omega) hn];exact DU b o c xs.length xs w rfl (by omega) hm a1 (cQ aU) (cQ aE) hg.u hg.e hg.l hn
  .rw[nP (n:=4) (by omega) (by omega) hn];exact EG b o c xs.length xs w rfl (by omega) hm a1 (cQ aU) (cQ aE) hg.u hg.e hg.l hn
attribute [local go_sem] Oper.semAt_some
theorem EP (U E:Value)(a b:Nat):tF U E (a,b,0) =.tuple #[.int .i32 a,(b:Int),.nilIface]:=rfl
theorem yI (U E:Value)(a b:Nat):tF U E (a,b,1) =.tuple #[.int .i32 a,(b:Int),E]:=rfl
theorem yR (U E:Value)(a b:Nat):tF U E (a,b,2) =.tuple #[.int .i32 a,(b:Int),U]:=rfl
def Be (c:Int):Int:=bits .or .u8 128 (bits .and .i32 c 63 % 256)
theorem z6:∀n:Int,0<=n->n<2 ^ 31->IntKind.i32.wrap n=n:=by
 intro n h0 h1;have e:(2:Int) ^ 31=2147483648:=rfl;rw[e] at h1;rw[IntKind.wrap_i32];omega
theorem my (c:Int)(h0:0<=c)(h1:c<2147483648):Be c=128+c % 64:=by
 unfold Be;rw[show bits .and .i32 c 63=c % 64 from bits_mask .i32 31 (by decide) z6 6 (by decide) c h0 (by simpa using h1)];rw[show c % 64 % 256=c % 64 by omega];exact u8_or128 (c % 64) (by omega) (by omega)
theorem MS (c:Int)(h:0<=c/\c<128):bits .or .u8 0 c=c:=by
 have hd:∀x:Nat,x<128->bits .or .u8 0 (x:Int)=x:=by decide +kernel
 have:=hd c.toNat (by omega)
 rwa[show((c.toNat:Nat):Int)=c by omega] at this
def mN (a b c d:Int):Value:=.agg #[.int .u8 a,.int .u8 b,.int .u8 c,.int .u8 d]
def mx (w:Wd)(v:Value)(n:Int)(e:Ending)(w':Wd):Prop:=e =.returned (.tuple #[v,(n:Int)])/\ge w w'
theorem J5 (c:Int)(w:Wd)(h:65536<=c/\c<=1114111) :
  Calls prog 140 #[.int .i32 c] w fun e w'=>mx w (mN (240+c/64/64/64) (Be (c/64/64)) (Be (c/64)) (Be c)) 4 e w':=by
 go_in;go_wp2;exact Zh (by simp[results,results140,go_sem];rfl) rfl ⟨rfl,((Ze _ _).alloc (Zb _) _).alloc (by simp) _⟩
theorem Ki (c:Int)(w:Wd)(h:2048<=c/\c<65536)(h':¬ (55296<=c/\c<=57343)) :
  Calls prog 140 #[.int .i32 c] w fun e w'=>mx w (mN (224+c/64/64) (Be (c/64)) (Be c) 0) 3 e w':=by
 have a0:c<55296\/57343<c:=by omega
 clear h';go_in;rcases a0 with a0|a0
 all_goals
  go_wp2;exact Zh (by simp[results,results140,go_sem];rfl) rfl ⟨rfl,((Ze _ _).alloc (Zb _) _).alloc (by simp) _⟩
theorem JL (c:Int)(w:Wd)(h:128<=c/\c<2048) :
  Calls prog 140 #[.int .i32 c] w fun e w'=>mx w (mN (192+c/64) (Be c) 0 0) 2 e w':=by
 go_in;go_wp2;exact Zh (by simp[results,results140,go_sem];rfl) rfl ⟨rfl,((Ze _ _).alloc (Zb _) _).alloc (by simp) _⟩
theorem JZ (c:Int)(w:Wd)(h:0<=c/\c<128) :
  Calls prog 140 #[.int .i32 c] w fun e w'=>mx w (mN (bits .or .u8 0 c) 0 0 0) 1 e w':=by
 go_in;go_wp2;exact Zh (by simp[results,results140,go_sem];rfl) rfl ⟨rfl,((Ze _ _).alloc (Zb _) _).alloc (by simp) _⟩
theorem Kd (c:Int)(w:Wd)(h:c<0\/1114111<c\/(55296<=c/\c<=57343)) :
  Calls prog 140 #[.int .i32 c] w (mx w (mN 0 0 0 0) 0):=by
 go_in;rcases h with h|h|⟨h,h'⟩
 all_goals
  go_wp2;exact Zh (by simp[results,results140,go_sem];rfl) rfl ⟨rfl,((Ze _ _).alloc (Zb _) _).alloc (by simp) _⟩
theorem iS {a b c d a' b' c' d':Int}(h1:a=a')(h2:b=b')(h3:c=c')(h4:d=d'):mN a b c d=mN a' b' c' d':=by rw[h1,h2,h3,h4]
def oc (c:Int):Value:=mN (ar (bL c) 0) (ar (bL c) 1) (ar (bL c) 2) (ar (bL c) 3)
theorem Fz (c:Int)(w:Wd):Calls prog 140 #[.int .i32 c] w fun e w'=>mx w (oc c) (bL c).length e w':=by
 by_cases hr:dY c=true
 .have a0:=hr;simp only[dY,Bool.and_eq_true,decide_eq_true_eq,Bool.not_eq_true',Bool.and_eq_false_iff,decide_eq_false_iff_not] at a0
  by_cases h1:c<128
  .have e:bL c = [UInt8.ofNat c.toNat]:=by rw[bL,if_pos hr,if_pos h1]
   have:oc c=mN (bits .or .u8 0 c) 0 0 0:=by
    rw[MS c (by omega)];unfold oc;rw[e];exact iS (aM _ (by omega)) rfl rfl rfl
   rw[this,e];exact JZ c w (by omega)
  by_cases h2:c<2048
  .have e:bL c = [UInt8.ofNat (192+c/64).toNat,UInt8.ofNat (128+c % 64).toNat]:=by rw[bL,if_pos hr,if_neg h1,if_pos h2]
   have:oc c=mN (192+c/64) (Be c) 0 0:=by
    unfold oc;rw[e];exact iS (aM _ (by omega)) ((aM _ (by omega)).trans (my _ (by omega) (by omega)).symm) rfl rfl
   rw[this,e];exact JL c w (by omega)
  by_cases h3:c<65536
  .have e:bL c = [UInt8.ofNat (224+c/4096).toNat,UInt8.ofNat (128+c/64 % 64).toNat,UInt8.ofNat (128+c % 64).toNat]:=by rw[bL,if_pos hr,if_neg h1,if_neg h2,if_pos h3]
   have:oc c=mN (224+c/64/64) (Be (c/64)) (Be c) 0:=by
    unfold oc;rw[e];exact iS ((aM _ (by omega)).trans (by omega)) ((aM _ (by omega)).trans (my _ (by omega) (by omega)).symm) ((aM _ (by omega)).trans (my _ (by omega) (by omega)).symm) rfl
   rw[this,e];exact Ki c w (by omega) (by omega)
  .have e:bL c = [UInt8.ofNat (240+c/262144).toNat,UInt8.ofNat (128+c/4096 % 64).toNat,UInt8.ofNat (128+c/64 % 64).toNat,UInt8.ofNat (128+c % 64).toNat]:=by rw[bL,if_pos hr,if_neg h1,if_neg h2,if_neg h3]
   have:oc c=mN (240+c/64/64/64) (Be (c/64/64)) (Be (c/64)) (Be c):=by
    unfold oc;rw[e];exact iS ((aM _ (by omega)).trans (by omega)) ((aM _ (by omega)).trans ((my _ (by omega) (by omega)).trans (by omega)).symm) ((aM _ (by omega)).trans (my _ (by omega) (by omega)).symm) ((aM _ (by omega)).trans (my _ (by omega) (by omega)).symm)
   rw[this,e];exact J5 c w (by omega)
 .have e:bL c = []:=by rw[bL,if_neg hr]
  have:oc c=mN 0 0 0 0:=by unfold oc;rw[e];rfl
  have a0:¬dY c=true:=hr;simp only[dY,Bool.and_eq_true,decide_eq_true_eq,Bool.not_eq_true',Bool.and_eq_false_iff,decide_eq_false_iff_not] at a0;rw[this,e];exact Kd c w (by omega)
def bX (pre:List (Nat×Nat)):Int:=match pre.getLast? with|none=>0|some x=>wrap64 ((x.1:Int)+ (bL x.2).length)
theorem kD (pre:List (Nat×Nat))(x:Nat×Nat):bX (pre ++ [x])=wrap64 ((x.1:Int)+ (bL x.2).length):=by simp[bX]
def wv (xs:Na):Nat->Nat->Nat
 |0,k=>k
 |f+1,k=>if(bK (xs.drop k)).2.2=0 then wv xs f (k+ (bK (xs.drop k)).2.1) else k
def GI (xs:Na):Nat:=wv xs (xs.length+1) 0
theorem mZ (xs:Na)(hm:xs.length<=9223372036854775807):∀f k pre,k<=xs.length->bX pre=k->bX (pre++gR xs f k)=wv xs f k
 |0,k,pre,h,hp=>by simpa [gR,wv] using hp
 |f+1,k,pre,h,hp=>by
  unfold gR wv
  by_cases h0:(bK (xs.drop k)).2.2=0
  .rw[if_pos h0,if_pos h0,List.append_cons];have hle:=il xs k h;refine mZ xs hm f _ _ hle ?_;rw[kD,(jp h0).1,List.length_take,List.length_drop];rw[show min (bK (xs.drop k)).2.1 (xs.length - k)= (bK (xs.drop k)).2.1 by omega];rw[IntWalk.wrap64_in _ ⟨by omega,by omega⟩];simp
  .rw[if_neg h0,if_neg h0];simpa using hp
theorem kJ (xs:Na)(hm:xs.length<=9223372036854775807):bX (eM xs)=GI xs:=by
 have:=mZ xs hm (xs.length+1) 0 [] (Zk _) rfl;simpa [eM,GI] using this
def io (B B2:Nat)(W W':Wd):Prop:= ∀k cs t z,(k<B\/B2<=k)->W.heap[k]?=some (.cells cs t z)->W'.heap[k]?=some (.cells cs t z)
theorem io.t {Y Z:Wd}(h:io B B2 X Y)(k:io B B2 Y Z):io B B2 X Z:=fun i cs t z hi hc=>k i cs t z hi (h i cs t z hi hc)
theorem io.b (W:Wd)(l:Nat)(o o':Obj)(h:W.heap[l]?=some o)(ho:o.isCells=false):io B B2 W (W.putObj l o'):=fun k cs t z _ hc=>by
 have:k≠l:=by rintro rfl;rw[h] at hc;cases hc;simp[Obj.isCells] at ho
 exact(World.putObj_heap_other this).trans hc
theorem io.drewN (W:Wd)(m:Nat):io B B2 W (W.drewN m):=fun _ _ _ _ _ h=>h
theorem io.of_below (h:ge W W'):io B B2 W W':=fun k cs t z _ hc=>(h.block k (ah hc)).trans hc
theorem uB {a:Addr}(h:w.cell? a=some v):∃cs t z,w.heap[a.block]?=some (.cells cs t z):=by
 unfold World.cell? at h
 cases hh:w.heap[a.block]? with
 |none=>rw[hh] at h;simp at h
 |some o=>
  rw[hh] at h
  cases o with
  |cells cs t z=>exact⟨cs,t,z,rfl⟩
  |_=>simp at h
theorem io.cell (h:io B B2 W W'){a:Addr}(hc:W.cell? a=some v)(hb:a.block<B\/B2<=a.block):W'.cell? a=some v:=by
 obtain⟨cs,t,z,hh⟩:=uB hc;rw[<-hc];exact World.cell?_of_block ((h _ cs t z hb hh).trans hh.symm)
theorem io.glob (h:io B B2 W W')(hg:cG W aU aE)(h2:5<B/\4<B/\7<B)(hU:aU.block<B)(hE:aE.block<B):cG W' aU aE:=by
 obtain⟨c1,t1,h1⟩:=hg.hu;obtain⟨c2,t2,h3⟩:=hg.he;exact⟨h.cell hg.u (.inl h2.1),h.cell hg.e (.inl h2.2.1),fun i hi=>h.cell (hg.l i hi) (.inl h2.2.2),⟨c1,t1,h _ _ _ _ (.inl hU) h1⟩,⟨c2,t2,h _ _ _ _ (.inl hE) h3⟩,hg.ne⟩
theorem vm (W:Wd)(s:Nc)(hs:s.size<=9223372036854775807):∃W2 cap cs z,(convert 9 30 s).run prog W =.ok (.slice (some (nl W.heap.size)) s.size cap) W2/\
  s.size<=cap/\W.grownBy W2 none/\W2.heap.size=W.heap.size+1/\W2.heap[W.heap.size]?=some (.cells cs 5 z)/\
  (∀X:Wd,X.heap[W.heap.size]?=some (.cells cs 5 z)->Bs X (.slice (some (nl W.heap.size)) s.size cap) s.data.toList):=by
 refine⟨Lib.bytesWorld W 5 s,grownCap W s.size 0 5,Lib.bytesCells W 5 s,_,Lib.run_convert_string_bytes W 9 30 5 s underlying9 underlying30 underlying5,grownCap_ge _ _ _ _,?_,Lib.bytesWorld_size _ _ _,Lib.bytesWorld_at_new _ _ _,?_⟩
 .exact⟨rfl,rfl,rfl,by rw[Lib.bytesWorld_size];omega,fun k hk _=>Lib.bytesWorld_at_old _ _ _ _ hk⟩
 .intro X hX;have hl:s.data.toList.length=s.size:=by simp
  refine⟨by omega,_,_,by rw[hl],by rw[hl];exact grownCap_ge _ _ _ _,fun _=>⟨_,0,rfl,fun i hi=>?_⟩⟩;rw[Nat.zero_add,World.cell?_of_block (w:=Lib.bytesWorld W 5 s) (hX.trans (Lib.bytesWorld_at_new W 5 s).symm)];exact Lib.bytesWorld_cell W 5 s i (by omega)
def Gz (xs:Na)(J:List (Nat×Nat)->Wd->Prop)(G:Wd->Prop)(k:Nat)(wr:Wd):Prop:=
 ∃pre f,eM xs=pre++gR xs f k/\xs.length<f+k/\k<=xs.length/\J pre wr/\G wr
theorem DI (n:Nat)(hn:1<=n)(l sb:Nat)(s:Nc)(B B2:Nat)(hsz:s.size<=9223372036854775807)(aU aE:Addr)(J Jx:List (Nat×Nat)->Wd->Prop)
  (W:Wd) (hB:B2<=W.heap.size) (h2:5<B/\4<B/\7<B) (hU:aU.block<B) (hE:aE.block<B) (hg:cG W aU aE)
  (hJ:AbidesFrom W.heap.size J) (d2:AbidesFrom W.heap.size Jx)
  (hY:∀pre (x:Nat×Nat) W1,J pre W1->pre.length< (eM s.data.toList).length->YieldAt Fence.wide (n - 1) prog l #[(x.1:Int),.int .i32 (x.2:Int)] W1 fun e W'=>
   (e =.returned true/\J (pre ++ [x]) W'/\io B B2 W1 W')\/(e =.returned false/\Jx (pre ++ [x]) W'))
  (hs:W.cell? (nl sb)=some (.string s)) (h0:J [] W) :
  CallsIn Fence.wide n prog 180 #[.func (.yield l) #[] #[],.pointer (some (nl sb))] W fun e W'=>(∃v,e =.returned v)/\
   ((∃ys,ys=eM s.data.toList/\J ys W')\/(∃pre,pre <+:eM s.data.toList/\Jx pre W')):=by
 obtain⟨W2,cap,cs,z,c2,c6,b5,a9,a7,c1⟩:=vm W s hsz;refine callsIn_of_wp func180 rfl trivial ?_ rfl;simp only[ntmps180,List.size_toArray,List.length_cons,List.length_nil,Nat.reduceAdd,Nat.reduceSub,Array.replicate_succ,Array.replicate_zero,List.push_toArray,List.append_toArray,List.nil_append,List.cons_append];have hl:s.data.toList.length=s.size:=by simp
 generalize s.data.toList=xs at *;have Hg:=Qa hg;have HJ:=Qa hJ;have HY:=Qa hY;have a4:=Qa b5;have c9:=Qa a9;have b0:=Qa a7;have c5:=Qa c1;have Hl:=Qa hl;have H0:=Qa h0;clear hg hJ hY b5 a9 a7 c1 hl h0;generalize hrb:W.heap.size=rb at *;have d3:=Qa hrb;clear hrb
 gi_wp2
 gi_loopw [4] (fun v wr=> ∃k:Nat,v =(k:Int)/\Gz xs J (fun wr=>cG wr aU aE/\wr.heap[rb]?=some (.cells cs 5 z)) k wr) (fun v _=>s.size - (intOf v).toNat)
 case atStart=>
  refine⟨0,rfl, [],xs.length+1,rfl,by omega,Zk _,?_,?_,b0.out⟩
  .exact HJ _ _ _ none H0.out a4.out (fun r e=>by cases e)
  .exact Hg.below ⟨a4.os,a4.tape,a4.output,a4.size,fun k hk=>a4.block k hk (by simp)⟩
 case round=>
  obtain⟨k,rfl,pre,f,he,hf,hk,c3,hG,hR⟩:=hrel;have d4:k<=s.size:=by rw[<-Hl.out];exact hk
  have Hf:=Qa hf;have He:=Qa he;have HG:=Qa hG;have HR:=Qa hR;have a5:=Qa c3;have Hk:=Qa hk;clear hf he hG hR c3 hk;have a3:Bs wr (.slice (some (nl rb)) xs.length cap) xs:=by rw[Hl.out];exact c5 wr HR.out
  have hle:=il xs k Hk.out;have a2:=(pf (xs.drop k)).2;have hcut:∀A c',cap=k\/(A=some (no rb k)/\c'=cap - k)->Calls prog 124 #[.slice A (s.size - k) c'] wr fun e w'=>im (cQ aU) (cQ aE) wr (bK (xs.drop k)) e w':=by
   intro A c' h;refine iY ?_ HG.out;rcases h with d1|⟨rfl,rfl⟩
   .have h0:s.size - k=0:=by omega
    have:xs.drop k = []:=List.drop_eq_nil_of_le (by rw[Hl.out];omega);rw[this,h0];exact⟨by simp,_,_,rfl,Zk _,fun h=>by simp at h⟩
   .have:=a3.cut Hk.out
    rwa[Hl.out,Nat.zero_add] at this
  have b4:=Qa hcut;clear hcut a3;have a6:∀e:(bK (xs.drop k)).2.2≠0,eM xs=pre:=fun e=>by rw[He.out,zc e,List.append_nil]
  have b7:∀e:(bK (xs.drop k)).2.2=0,1<=(bK (xs.drop k)).2.1/\∃f',xs.length<f'+ (k+ (bK (xs.drop k)).2.1)/\eM xs=pre++ (k,(bK (xs.drop k)).1)::gR xs f' (k+ (bK (xs.drop k)).2.1):=fun e=>by
   have hp:=fp e;have h1:=Hf.out;have h2:=Hk.out;obtain⟨f',rfl⟩:∃f',f=f'+1:=⟨f - 1,by omega⟩;exact⟨hp,f',by omega,by rw[He.out,zk e]⟩
  have a1:=Qa a6;have b1:=Qa b7;clear a6 b7;generalize bK (xs.drop k)=r at *;obtain⟨r1,r2,r3⟩:=r;have b2:k+r2<=s.size:=by rw[<-Hl.out];exact hle
  clear hle;have a0:r3=0\/r3=1\/r3=2:=by have:r3<=2:=a2;omega
  clear a2;have hp:pre.length< (eM xs).length\/r3≠0:=by
   by_cases h:r3=0
   .obtain⟨_,f',_,h'⟩:=b1 h
    left;rw[h'];simp
   .exact .inr h
  have Hp:=Qa hp;clear hp
  gi_wp2_with fail
  all_goals
   refine⟨trivial,?_⟩;refine(callsIn_wide.2 (b4 _ _ (by first|exact .inl (by assumption)|exact .inr ⟨rfl,rfl⟩))).mono ?_;rintro e w' ⟨rfl,m,rfl⟩
  .rcases a0 with rfl|rfl|rfl
   .exfalso;have:=(b1 rfl).1;omega
   .rw[yI]
    gi_wp2
    refine⟨fun _ h=>(by cases h),?_⟩
    gi_wp2
    refine Zh (results_none rfl ..) rfl ?_;exact⟨⟨_,rfl⟩,.inl ⟨_,rfl,by rw[a1.out (by simp)];exact HJ _ _ _ none a5.out ⟨rfl,rfl,rfl,Zb _,fun _ _ _=>rfl⟩ (fun r e=>by cases e)⟩⟩
   .rw[yR]
    gi_wp2
    refine⟨fun _ h=>(by cases h),?_⟩
    gi_wp2
    refine Zh (results_none rfl ..) rfl ?_;exact⟨⟨_,rfl⟩,.inl ⟨_,rfl,by rw[a1.out (by simp)];exact HJ _ _ _ none a5.out ⟨rfl,rfl,rfl,Zb _,fun _ _ _=>rfl⟩ (fun r e=>by cases e)⟩⟩
  .rcases a0 with rfl|rfl|rfl
   .rw[EP];obtain⟨d0,f',b8,c0⟩:=b1 rfl;have c7:=Qa b8;have b6:=Qa c0;clear b8 c0;obtain⟨fn,tmps,assign,body,hy,c4⟩:=HY pre (k,r1) (wr.drewN m) (HJ _ _ _ none a5 ⟨rfl,rfl,rfl,Zb _,fun _ _ _=>rfl⟩ (fun r e=>by cases e)) (Hp.resolve_right (fun h=>h rfl))
    dsimp only at hy
    gi_wp2
    refine c4.mono ?_;rintro e W3 (⟨rfl,c8,b9⟩|⟨rfl,b3⟩)
    .gi_wp2
     exact⟨⟨k+r2,by go_num,pre ++ [(k,r1)],f',by rw[b6.out,List.append_cons],c7.out,by rw[Hl.out];exact b2,c8,b9.glob (HG.drewN m) h2 hU hE,b9 rb cs 5 z (.inr hB) HR.out⟩,by simp[intOf];omega⟩
    .gi_wp2
     refine Zh (results_none rfl ..) rfl ?_;exact⟨⟨_,rfl⟩,.inr ⟨_,⟨gR xs f' (k+r2),by rw[b6.out];simp⟩,b3⟩⟩
   .rw[yI]
    gi_wp2
    refine⟨fun _ h=>(by cases h),?_⟩
    gi_wp2
    refine Zh (results_none rfl ..) rfl ?_;exact⟨⟨_,rfl⟩,.inl ⟨_,rfl,by rw[a1.out (by simp)];exact HJ _ _ _ none a5.out ⟨rfl,rfl,rfl,Zb _,fun _ _ _=>rfl⟩ (fun r e=>by cases e)⟩⟩
   .rw[yR]
    gi_wp2
    refine⟨fun _ h=>(by cases h),?_⟩
    gi_wp2
    refine Zh (results_none rfl ..) rfl ?_;exact⟨⟨_,rfl⟩,.inl ⟨_,rfl,by rw[a1.out (by simp)];exact HJ _ _ _ none a5.out ⟨rfl,rfl,rfl,Zb _,fun _ _ _=>rfl⟩ (fun r e=>by cases e)⟩⟩
theorem io.setCell (W:Wd){p:Addr}(h1:B<=p.block)(h2:p.block<B2)(v:Value):io B B2 W (W.setCell p v):=fun k cs t z hk hc=>
 (Below.heap_setCell W p v k (by omega)).trans hc
theorem io.alloc (W:Wd)(o:Obj):io B B2 W (W.alloc o):=io.of_below ((Ze _ _).alloc (Zb _) _)
theorem qw (h:ge W W'):KeepsOthers W W':=⟨h.size,fun k _ hk _=>(h.block k (ah hk)).trans hk⟩
theorem wj (n:Nat)(hn:1<=n)(sb:Nat)(s:Nc)(B B2:Nat)(hsz:s.size<=9223372036854775807)(aU aE:Addr)
  (hB:B2<=w.heap.size) (h2:5<B/\4<B/\7<B) (hU:aU.block<B) (hE:aE.block<B) (hg:cG w aU aE) (hs:w.cell? (nl sb)=some (.string s)) :
  SeqStopsK Fence.wide n prog 180 #[.pointer (some (nl sb))] (fun x:Nat×Nat=> #[(x.1:Int),.int .i32 (x.2:Int)]) (io B B2) (fun ys=>ys=eM s.data.toList) (fun ys=>ys <+:eM s.data.toList) (eM s.data.toList).length w:=
 fun l J Jx W hW hJ a0 hY h0=>DI n hn l sb s B B2 hsz aU aE J Jx W (Zc hB hW.size) h2 hU hE (hg.below hW) hJ a0 hY (Zg hW hs) h0
theorem FJ (h:Bs w v xs) :
  Calls prog 139 #[v] w fun e w'=>e =.returned (.func (.func 180) #[] #[.pointer (some (nl w.heap.size))])/\w.alloc (.cells #[.string ⟨xs.toArray⟩] 9)=w':=by
 have hc:=a8 h;have H:=Qa h;clear h;go_in;go_wp2;go_ret;exact⟨rfl,rfl⟩
def Em (w:Wd)(pre:List (Nat×Nat))(W:Wd):Prop:=
 Bx W w.heap.size 3 (pre.length:Int)/\Bx W (w.heap.size+1) 3 (bX pre:Int)/\ge w W
def AU (xs:Na)(aU aE:Addr)(w:Wd)(e:Ending)(w':Wd):Prop:=
 ge w w'/\((xs.length<=bX (eM xs)/\e =.returned (.tuple #[((eM xs).length:Int),.nilIface]))\/
  (bX (eM xs)<xs.length/\∃g:Nat,e =.returned (.tuple #[(0:Int),.iface 249 (.pointer (some (nl g)))])/\
   w'.heap[g]?=some (.cells #[(bX (eM xs):Int),oN (cQ aU) (cQ aE) (bK (xs.drop (bX (eM xs)).toNat)).2.2] 251 (0,0))/\w.heap.size<=g))
theorem E6 (v:Value)(xs:Na)(w:Wd)(aU aE:Addr)(hb:Bs w v xs)(hg:cG w aU aE)(hsz:xs.length<=9223372036854775807) :
  CallsIn Fence.wide 9 prog 107 #[v] w (AU xs aU aE w):=by
 have h2:5<w.heap.size/\4<w.heap.size/\7<w.heap.size:=⟨World.block_lt_of_cell? w _ hg.u,World.block_lt_of_cell? w _ hg.e,World.block_lt_of_cell? w _ (hg.l 0 (by omega))⟩;obtain⟨cU,tU,hU⟩:=hg.hu;obtain⟨cE,tE,hE⟩:=hg.he;have hU:=ah hU;have hE:=ah hE;obtain⟨hm,A,cap,rfl,d0,_⟩:=id hb;have Hb:=Qa hb;have Hg:=Qa hg;clear hb hg;refine callsIn_of_wp_marks func107 rfl trivial ?_ rfl;simp only[ntmps107,List.size_toArray,List.length_cons,List.length_nil,Nat.reduceAdd,Nat.reduceSub,Array.replicate_succ,Array.replicate_zero,List.push_toArray,List.append_toArray,List.nil_append,List.cons_append];have a9:ge w ((w.alloc (.cells #[(0:Int)] 3)).alloc (.cells #[(0:Int)] 3)):=((Ze _ _).alloc (Zb _) _).alloc (by simp) _;have b0:=Qa (Hb.below a9);have b6:=Qa (Hg.below a9);have Hk:=Qa ((Bx.new w 3 (0:Int)).alloc (.cells #[(0:Int)] 3));have Ha:=Qa (Bx.new (w.alloc (.cells #[(0:Int)] 3)) 3 (0:Int));have b2:=Qa a9;clear a9
 gi_wp2_with fail
 refine⟨trivial,?_⟩;refine(callsIn_wide.2 (FJ b0)).mono ?_;rintro e w' ⟨rfl,rfl⟩
 gi_wp2
 obtain⟨W0,b1⟩:=y7 ((w.alloc (.cells #[(0:Int)] 3)).alloc (.cells #[(0:Int)] 3));have a0:W0.heap.size=w.heap.size+2:=by rw[<-b1];simp
 rw[b1] at b0 b6 Hk Ha b2;obtain⟨W1,a6⟩:=y7 (W0.alloc (.cells #[.string ⟨xs.toArray⟩] 9));have a3:ge W0 W1:=by rw[<-a6];exact(Ze _ _).alloc (Zb _) _
 have c5:W1.cell? ⟨w.heap.size+2,0,none⟩=some (.string ⟨xs.toArray⟩):=by
  have h:=(Bx.new W0 9 (.string ⟨xs.toArray⟩)).cell;rw[a0] at h;rw[<-a6];exact h
 have a7:W1.heap.size=w.heap.size+3:=by rw[<-a6];simp[a0]
 rw[b1,a6];rw[show(w.alloc (.cells #[(0:Int)] 3)).heap.size=w.heap.size+1 by simp] at Ha;clear b1 a6;have c9:=Qa (b0.below a3);have c2:=Qa (b6.below a3);have c6:Em w [] W1:=⟨Hk.later a3,Ha.later a3,b2.trans (a3.mono b2.size)⟩;have c0:=Qa a0;have a2:=Qa a7;have d2:=Qa c5;have d9:=Qa c6;clear a0 c0 a7 c5 c6 b0 b6 Hk Ha b2 a3 W0;refine wpIn_rangeFunc_ownF rfl (by omega) (gf:=180) (lb:= #[.pointer (some ⟨w.heap.size+2,0,none⟩)]) (by simp[Act.eval]) trivial (enters_of func180 (by kernel_rfl) rfl)
  (wj (w:=W1) (9 - 1) (by omega) (w.heap.size+2) ⟨xs.toArray⟩ w.heap.size (w.heap.size+2) (by simpa [ByteArray.size] using hsz) aU aE (by rw[a2.out];omega) h2 hU hE c2.out d2.out)
  (fun h k=>h.t k) (fun W l o o' _ h ho _=>io.b W l o o' h ho) (Ze _ _) (fun _=>rfl)
  (Em w) (fun _ _ _=>False) ?hI ?hIx d9.out
  (fun x=>{tmps:= #[.slice A xs.length cap,undef,.int .i64 0,.nilIface,.pointer (some (nl w.heap.size)),.pointer (some ⟨w.heap.size+1,0,none⟩),.int .i64 (x.1:Int),.int .i32 (x.2:Int),undef,undef,undef,undef,undef,.slice A xs.length cap,.func (.func 180) #[] #[.pointer (some ⟨w.heap.size+2,0,none⟩)],.int .i64 (x.1:Int),.int .i32 (x.2:Int),undef,undef,undef,undef,undef,undef,undef,undef,undef,undef,undef,undef,undef,undef,undef,undef,undef,undef,undef,undef,undef,undef,undef,undef,undef,undef,undef,undef],defers:= []}) ?assign ?body ?done ?stop
 case hI=>
  intro s A B row hs hg hr;exact⟨hs.1.kept hg (fun r e=>(hr r e).2),hs.2.1.kept hg (fun r e=>(hr r e).2),hs.2.2.grown hg hs.2.2.size (fun k e=>by have:=(hr k e).1;rw[a2.out] at this;omega)⟩
 case hIx=>exact fun _ _ _ _ _ hs _ _=>hs
 case assign=>
  intro l x W K hK
  gi_wp2
  exact hK
 case body=>
  rintro l pre x W ⟨hk,ha,hB⟩ hN;have c8:=hk.cell;have d1:=hk.frozen;have hlen:(pre.length:Int)+1<=9223372036854775807:=by have:=EM xs;simp at hN;omega
  gi_wp2_with fail
  refine⟨trivial,?_⟩;refine(CallsIn.inRound l (callsIn_wide.2 (Fz x.2 _))).mono ?_;rintro e W2 ⟨rfl,a5⟩;rw[show oc x.2 =.agg #[.int .u8 (ar (bL x.2) 0),.int .u8 (ar (bL x.2) 1),.int .u8 (ar (bL x.2) 2),.int .u8 (ar (bL x.2) 3)] from rfl];have c4:=kD pre x;generalize (bL (x.2:Int)).length=q at *;have d4:=Qa c4;clear c4;generalize ar (bL x.2) 0=g0;generalize ar (bL x.2) 1=g1;generalize ar (bL x.2) 2=g2;generalize ar (bL x.2) 3=g3;have c1:=hk.later a5;have b3:=ha.later a5;have d6:=(c1.alloc (.cells #[.int .u8 g0,.int .u8 g1,.int .u8 g2,.int .u8 g3] 246)).cell;have e4:=(c1.alloc (.cells #[.int .u8 g0,.int .u8 g1,.int .u8 g2,.int .u8 g3] 246)).frozen;have e0:=(b3.alloc (.cells #[.int .u8 g0,.int .u8 g1,.int .u8 g2,.int .u8 g3] 246)).cell;have d7:=(b3.alloc (.cells #[.int .u8 g0,.int .u8 g1,.int .u8 g2,.int .u8 g3] 246)).frozen;have e7:w.heap.size+1<W2.heap.size:=b3.lt;clear c8 d1
  gi_wp2
  refine⟨(qw a5).trans ((KeepsOthers.alloc _ _).trans ((KeepsOthers.setCell _ _ _).trans (KeepsOthers.setCell ..))),
   (io.of_below a5).t ((io.alloc _ _).t ((io.setCell _ (p:=⟨w.heap.size,0,none⟩) (Zb _) (by simp) _).t (io.setCell _ (p:=⟨w.heap.size+1,0,none⟩) (by simp) (by simp) _))),?_,?_,?_⟩
  .have h:=(((c1.alloc (.cells #[.int .u8 g0,.int .u8 g1,.int .u8 g2,.int .u8 g3] 246)).set ((pre.length:Int)+1:Int)).far (p:=⟨w.heap.size+1,0,none⟩) (by simp) (wrap64 ((x.1:Int)+q):Int));rw[List.length_append];exact h
  .have h:=(((b3.alloc (.cells #[.int .u8 g0,.int .u8 g1,.int .u8 g2,.int .u8 g3] 246)).far (p:=⟨w.heap.size,0,none⟩) (by simp) ((pre.length:Int)+1:Int)).set (wrap64 ((x.1:Int)+q):Int));rw[d4.out];exact h
  .exact(((hB.trans (a5.mono hB.size)).alloc (Zc hB.size a5.size) _).setCell (p:=⟨w.heap.size,0,none⟩) (Zb _) _).setCell (p:=⟨w.heap.size+1,0,none⟩) (by simp) _
 case done=>
  rintro D ys W hD rfl ⟨hk,ha,hB⟩ hK;have c8:=hk.cell;have d3:=ha.cell;have b8:D<W.heap.size:=ah hK;have b4:w.heap.size<=D:=by rw[a2.out] at hD;omega
  by_cases hlt:bX (eM xs)<xs.length
  .obtain⟨p,hp⟩:∃p:Nat,bX (eM xs)=p:=⟨(bX (eM xs)).toNat,by have:=kJ xs hsz;omega⟩;have Hp:=Qa hp;rw[hp] at hlt d3;clear hp;have d5:p<xs.length:=by omega
   have b7:=Hb.below hB;obtain⟨_,A',c',e',_,c3⟩:=id b7;injection e' with e1 e2 e3
   subst e1 e3;obtain⟨b,o,rfl,_⟩:=c3 (by omega);have b9:=Qa (b7.cut (Zj d5));have e5:=Qa (Hg.below hB);have e6:¬cap=p:=by omega
   clear c3 b7
   gi_wp2_with fail
   refine⟨trivial,?_⟩;refine(callsIn_wide.2 (iY b9 e5)).mono ?_;have a4:=Qa (show oN (cQ aU) (cQ aE) (bK (xs.drop (bX (eM xs)).toNat)).2.2=oN (cQ aU) (cQ aE) (bK (xs.drop p)).2.2 from by rw[Hp.out];rfl);have c7:=(pf (xs.drop p)).2;generalize bK (xs.drop p)=r at *;obtain⟨r1,r2,r3⟩:=r;have b5:r3=0\/r3=1\/r3=2:=by have:r3<=2:=c7;omega
   clear c7;rintro e w' ⟨rfl,m,rfl⟩;rcases b5 with rfl|rfl|rfl
   .rw[EP]
    gi_wp2
    gi_region
    all_goals gi_wp2
    have a1:((W.alloc (.cells #[(p:Int),.nilIface] 251)).drewN (m+1)).heap[D]?=some (.deferred (some [])):=(Below.heap_alloc W _ D b8).trans hK;refine⟨by simp,.inl ⟨_,_,rfl,run_takeDeferred a1,?_⟩⟩;refine⟨_,results_tmp2 rfl _ _ _,?_,.inr ⟨by rw[Hp.out];omega,W.heap.size,rfl,?_,hB.size⟩⟩
    .exact(av (hB.alloc hB.size _) (m+1)).trans (belowK_b (w:=w) (Zb _) _ D _ _ b4 a1 rfl rfl)
    .rw[Hp.out] at a4 ⊢;rw[World.putObj_heap_other (by omega),a4.out];exact Zf W _
   .rw[yI]
    gi_wp2
    gi_region
    all_goals gi_wp2
    have a1:((W.alloc (.cells #[(p:Int),cQ aE] 251)).drewN (m+1)).heap[D]?=some (.deferred (some [])):=(Below.heap_alloc W _ D b8).trans hK;refine⟨by simp,.inl ⟨_,_,rfl,run_takeDeferred a1,?_⟩⟩;refine⟨_,results_tmp2 rfl _ _ _,?_,.inr ⟨by rw[Hp.out];omega,W.heap.size,rfl,?_,hB.size⟩⟩
    .exact(av (hB.alloc hB.size _) (m+1)).trans (belowK_b (w:=w) (Zb _) _ D _ _ b4 a1 rfl rfl)
    .rw[Hp.out] at a4 ⊢;rw[World.putObj_heap_other (by omega),a4.out];exact Zf W _
   .rw[yR]
    gi_wp2
    gi_region
    all_goals gi_wp2
    have a1:((W.alloc (.cells #[(p:Int),cQ aU] 251)).drewN (m+1)).heap[D]?=some (.deferred (some [])):=(Below.heap_alloc W _ D b8).trans hK;refine⟨by simp,.inl ⟨_,_,rfl,run_takeDeferred a1,?_⟩⟩;refine⟨_,results_tmp2 rfl _ _ _,?_,.inr ⟨by rw[Hp.out];omega,W.heap.size,rfl,?_,hB.size⟩⟩
    .exact(av (hB.alloc hB.size _) (m+1)).trans (belowK_b (w:=w) (Zb _) _ D _ _ b4 a1 rfl rfl)
    .rw[Hp.out] at a4 ⊢;rw[World.putObj_heap_other (by omega),a4.out];exact Zf W _
  .gi_wp2
   refine⟨by simp,.inl ⟨_,_,rfl,run_takeDeferred hK,?_⟩⟩;refine⟨_,results_tmp2 rfl _ _ _,hB.trans (belowK_b (w:=w) (Zb _) W D _ _ b4 hK rfl rfl),.inl ⟨by omega,rfl⟩⟩
 case stop=>
  rintro D c pre W hD _ h _;exact h.elim
theorem BV (hb:Bs w v xs)(hg:cG w aU aE) :
  Calls prog 107 #[v] w (AU xs aU aE w):=callsIn_wide.1 (E6 v xs w aU aE hb hg hb.1)
def BY (xs:Na)(aU aE:Addr)(w:Wd)(e:Ending)(w':Wd):Prop:=
 ge w w'/\((xs.length<=bX (eM xs)/\e =.returned .nilIface)\/
  (bX (eM xs)<xs.length/\∃g:Nat,e =.returned (.iface 249 (.pointer (some (nl g))))/\
   w'.heap[g]?=some (.cells #[(bX (eM xs):Int),oN (cQ aU) (cQ aE) (bK (xs.drop (bX (eM xs)).toNat)).2.2] 251 (0,0))/\w.heap.size<=g))
theorem Cp (hb:Bs w v xs)(hg:cG w aU aE) :
  Calls prog 81 #[v] w (BY xs aU aE w):=by
 have H:=Qa (BV hb hg);clear hb hg;go_in;go_wp2_with fail;refine Za H ?_;rintro e w' ⟨hb,⟨h1,rfl⟩|⟨h1,g,rfl,hg,hl⟩⟩
 .have H1:=Qa h1;clear h1;go_wp2;go_ret;exact⟨hb,.inl ⟨H1,rfl⟩⟩
 .have H1:=Qa h1;have Hg:=Qa hg;clear h1 hg;go_wp2;go_ret;exact⟨hb,.inr ⟨H1,g,rfl,Hg,hl⟩⟩
