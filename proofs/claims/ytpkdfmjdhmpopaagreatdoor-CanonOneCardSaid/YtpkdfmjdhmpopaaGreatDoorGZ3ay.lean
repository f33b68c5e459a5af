import Derived.Test.YtpkdfmjdhmpopaaGreatDoorGZ3ax
import Derived.Shelf.Lay
import Derived.Shelf.Strings.Trim
import Derived.Shelf.Strconv.Atoi
set_option linter.unusedVariables false
set_option linter.unusedSimpArgs false
set_option maxHeartbeats 64000000
namespace Go.Proofs.YtpkdfmjdhmpopaaGreatDoor
open Go.RowKit Go.Shelf
variable {l : List UInt8} {w : World}
def wY:Go.Shelf.Ren:=⟨fun | 161=>215 | 231=>228 | 227=>229 | 233=>230 | 235=>231 | 228=>239 | 197=>240 | 151=>241 | 260=>250 | 152=>251 | 137=>256 | 119=>257 | 224=>258 | 225=>259 | 217=>262 | 266=>263 | n=>n,fun | 9=>9 | 4=>4 | 3=>3 | 5=>5 | 117=>379 | 116=>378 | 0=>0 | 124=>382 | 105=>374 | 21=>21 | 119=>399 | 46=>199 | 139=>402 | 138=>401 | n=>n,fun | 3=>23 | 4=>24 | n=>n⟩
theorem FA:Go.Proofs.Lays.n161 Tryz.prog wY:={
 mixed:=by kernel_rfl
 f119:=Tryz.func257.trans (congrArg some (by kernel_rfl))
 f137:=Tryz.func256.trans (congrArg some (by kernel_rfl))
 f151:=Tryz.func241.trans (congrArg some (by kernel_rfl))
 f152:=Tryz.func251.trans (congrArg some (by kernel_rfl))
 f161:=Tryz.func215.trans (congrArg some (by kernel_rfl))
 f197:=Tryz.func240.trans (congrArg some (by kernel_rfl))
 f217:=Tryz.func262.trans (congrArg some (by kernel_rfl))
 f224:=Tryz.func258.trans (congrArg some (by kernel_rfl))
 f225:=Tryz.func259.trans (congrArg some (by kernel_rfl))
 f227:=Tryz.func229.trans (congrArg some (by kernel_rfl))
 f228:=Tryz.func239.trans (congrArg some (by kernel_rfl))
 f231:=Tryz.func228.trans (congrArg some (by kernel_rfl))
 f233:=Tryz.func230.trans (congrArg some (by kernel_rfl))
 f235:=Tryz.func231.trans (congrArg some (by kernel_rfl))
 f260:=Tryz.func250.trans (congrArg some (by kernel_rfl))
 f266:=Tryz.func263.trans (congrArg some (by kernel_rfl))
 t0:=Tryz.underlying0
 a0:=Tryz.isAgg0
 z0:=Tryz.sizeOf0
 v0:=Tryz.zeroValue0
 t3:=Tryz.underlying3
 a3:=Tryz.isAgg3
 z3:=Tryz.sizeOf3
 v3:=Tryz.zeroValue3
 t4:=Tryz.underlying4
 a4:=Tryz.isAgg4
 z4:=Tryz.sizeOf4
 v4:=Tryz.zeroValue4
 t5:=Tryz.underlying5
 a5:=Tryz.isAgg5
 z5:=Tryz.sizeOf5
 v5:=Tryz.zeroValue5
 t9:=Tryz.underlying9
 a9:=Tryz.isAgg9
 z9:=Tryz.sizeOf9
 v9:=Tryz.zeroValue9
 t21:=Tryz.underlying21
 a21:=Tryz.isAgg21
 z21:=Tryz.sizeOf21
 v21:=Tryz.zeroValue21
 t46:=Tryz.underlying199
 a46:=Tryz.isAgg199
 z46:=Tryz.sizeOf199
 v46:=Tryz.zeroValue199
 t105:=Tryz.underlying374
 a105:=Tryz.isAgg374
 z105:=Tryz.sizeOf374
 v105:=Tryz.zeroValue374
 t116:=Tryz.underlying378
 a116:=Tryz.isAgg378
 z116:=Tryz.sizeOf378
 t117:=Tryz.underlying379
 a117:=Tryz.isAgg379
 z117:=Tryz.sizeOf379
 v117:=Tryz.zeroValue379
 t119:=Tryz.underlying399
 a119:=Tryz.isAgg399
 z119:=Tryz.sizeOf399
 t124:=Tryz.underlying382
 a124:=Tryz.isAgg382
 z124:=Tryz.sizeOf382
 v124:=Tryz.zeroValue382
 t138:=Tryz.underlying401
 a138:=Tryz.isAgg401
 z138:=Tryz.sizeOf401
 v138:=Tryz.zeroValue401
 t139:=Tryz.underlying402
 a139:=Tryz.isAgg402
 z139:=Tryz.sizeOf402
 v139:=Tryz.zeroValue402
 g3:=by kernel_rfl
 g4:=by kernel_rfl
}
def xf:Go.Shelf.Ren:=⟨fun | 162=>216 | 232=>232 | 227=>229 | 234=>233 | 236=>234 | 228=>239 | 271=>242 | 151=>241 | 120=>252 | 197=>240 | 152=>251 | 260=>250 | 137=>256 | 119=>257 | 224=>258 | 225=>259 | 217=>262 | 266=>263 | n=>n,fun | 9=>9 | 4=>4 | 3=>3 | 5=>5 | 117=>379 | 116=>378 | 0=>0 | 124=>382 | 21=>21 | 105=>374 | 46=>199 | 119=>399 | 139=>402 | 138=>401 | n=>n,fun | 3=>23 | 4=>24 | n=>n⟩
theorem Fa:Go.Proofs.Lays.n162 Tryz.prog xf:={
 mixed:=by kernel_rfl
 f119:=Tryz.func257.trans (congrArg some (by kernel_rfl))
 f120:=Tryz.func252.trans (congrArg some (by kernel_rfl))
 f137:=Tryz.func256.trans (congrArg some (by kernel_rfl))
 f151:=Tryz.func241.trans (congrArg some (by kernel_rfl))
 f152:=Tryz.func251.trans (congrArg some (by kernel_rfl))
 f162:=Tryz.func216.trans (congrArg some (by kernel_rfl))
 f197:=Tryz.func240.trans (congrArg some (by kernel_rfl))
 f217:=Tryz.func262.trans (congrArg some (by kernel_rfl))
 f224:=Tryz.func258.trans (congrArg some (by kernel_rfl))
 f225:=Tryz.func259.trans (congrArg some (by kernel_rfl))
 f227:=Tryz.func229.trans (congrArg some (by kernel_rfl))
 f228:=Tryz.func239.trans (congrArg some (by kernel_rfl))
 f232:=Tryz.func232.trans (congrArg some (by kernel_rfl))
 f234:=Tryz.func233.trans (congrArg some (by kernel_rfl))
 f236:=Tryz.func234.trans (congrArg some (by kernel_rfl))
 f260:=Tryz.func250.trans (congrArg some (by kernel_rfl))
 f266:=Tryz.func263.trans (congrArg some (by kernel_rfl))
 f271:=Tryz.func242.trans (congrArg some (by kernel_rfl))
 t0:=Tryz.underlying0
 a0:=Tryz.isAgg0
 z0:=Tryz.sizeOf0
 v0:=Tryz.zeroValue0
 t3:=Tryz.underlying3
 a3:=Tryz.isAgg3
 z3:=Tryz.sizeOf3
 v3:=Tryz.zeroValue3
 t4:=Tryz.underlying4
 a4:=Tryz.isAgg4
 z4:=Tryz.sizeOf4
 v4:=Tryz.zeroValue4
 t5:=Tryz.underlying5
 a5:=Tryz.isAgg5
 z5:=Tryz.sizeOf5
 v5:=Tryz.zeroValue5
 t9:=Tryz.underlying9
 a9:=Tryz.isAgg9
 z9:=Tryz.sizeOf9
 v9:=Tryz.zeroValue9
 t21:=Tryz.underlying21
 a21:=Tryz.isAgg21
 z21:=Tryz.sizeOf21
 v21:=Tryz.zeroValue21
 t46:=Tryz.underlying199
 a46:=Tryz.isAgg199
 z46:=Tryz.sizeOf199
 v46:=Tryz.zeroValue199
 t105:=Tryz.underlying374
 a105:=Tryz.isAgg374
 z105:=Tryz.sizeOf374
 v105:=Tryz.zeroValue374
 t116:=Tryz.underlying378
 a116:=Tryz.isAgg378
 z116:=Tryz.sizeOf378
 t117:=Tryz.underlying379
 a117:=Tryz.isAgg379
 z117:=Tryz.sizeOf379
 v117:=Tryz.zeroValue379
 t119:=Tryz.underlying399
 a119:=Tryz.isAgg399
 z119:=Tryz.sizeOf399
 t124:=Tryz.underlying382
 a124:=Tryz.isAgg382
 z124:=Tryz.sizeOf382
 v124:=Tryz.zeroValue382
 t138:=Tryz.underlying401
 a138:=Tryz.isAgg401
 z138:=Tryz.sizeOf401
 v138:=Tryz.zeroValue401
 t139:=Tryz.underlying402
 a139:=Tryz.isAgg402
 z139:=Tryz.sizeOf402
 v139:=Tryz.zeroValue402
 g3:=by kernel_rfl
 g4:=by kernel_rfl
}
def rh:Go.Shelf.Ren:=⟨fun | 172=>217 | 244=>235 | 245=>236 | 247=>243 | 279=>244 | 280=>245 | 281=>246 | 282=>247 | 287=>253 | 316=>254 | 171=>73 | 205=>255 | 321=>260 | 322=>261 | 243=>100 | 246=>137 | 283=>173 | 284=>174 | 285=>175 | 286=>176 | 129=>134 | 317=>194 | 318=>195 | 319=>196 | 320=>197 | 337=>210 | 338=>211 | n=>n,fun | 9=>9 | 3=>3 | 75=>35 | 76=>44 | 4=>4 | 5=>5 | 167=>386 | 37=>22 | 0=>0 | 85=>387 | 2=>2 | 168=>389 | 53=>273 | 175=>394 | 46=>199 | 210=>398 | 127=>405 | 145=>408 | 143=>406 | 21=>21 | 171=>310 | 173=>312 | 212=>341 | 51=>271 | 20=>20 | 213=>342 | 232=>371 | 233=>372 | 80=>132 | n=>n,fun | 15=>21 | 16=>22 | 17=>11 | 18=>16 | 19=>17 | n=>n⟩
theorem Ag:Go.Proofs.Lays.n172 Tryz.prog rh:={
 mixed:=by kernel_rfl
 f129:=Tryz.func134.trans (congrArg some (by kernel_rfl))
 f171:=Tryz.func73.trans (congrArg some (by kernel_rfl))
 f172:=Tryz.func217.trans (congrArg some (by kernel_rfl))
 f205:=Tryz.func255.trans (congrArg some (by kernel_rfl))
 f243:=Tryz.func100.trans (congrArg some (by kernel_rfl))
 f244:=Tryz.func235.trans (congrArg some (by kernel_rfl))
 f245:=Tryz.func236.trans (congrArg some (by kernel_rfl))
 f246:=Tryz.func137.trans (congrArg some (by kernel_rfl))
 f247:=Tryz.func243.trans (congrArg some (by kernel_rfl))
 f279:=Tryz.func244.trans (congrArg some (by kernel_rfl))
 f280:=Tryz.func245.trans (congrArg some (by kernel_rfl))
 f281:=Tryz.func246.trans (congrArg some (by kernel_rfl))
 f282:=Tryz.func247.trans (congrArg some (by kernel_rfl))
 f283:=Tryz.func173.trans (congrArg some (by kernel_rfl))
 f284:=Tryz.func174.trans (congrArg some (by kernel_rfl))
 f285:=Tryz.func175.trans (congrArg some (by kernel_rfl))
 f286:=Tryz.func176.trans (congrArg some (by kernel_rfl))
 f287:=Tryz.func253.trans (congrArg some (by kernel_rfl))
 f316:=Tryz.func254.trans (congrArg some (by kernel_rfl))
 f317:=Tryz.func194.trans (congrArg some (by kernel_rfl))
 f318:=Tryz.func195.trans (congrArg some (by kernel_rfl))
 f319:=Tryz.func196.trans (congrArg some (by kernel_rfl))
 f320:=Tryz.func197.trans (congrArg some (by kernel_rfl))
 f321:=Tryz.func260.trans (congrArg some (by kernel_rfl))
 f322:=Tryz.func261.trans (congrArg some (by kernel_rfl))
 f337:=Tryz.func210.trans (congrArg some (by kernel_rfl))
 f338:=Tryz.func211.trans (congrArg some (by kernel_rfl))
 t0:=Tryz.underlying0
 a0:=Tryz.isAgg0
 z0:=Tryz.sizeOf0
 v0:=Tryz.zeroValue0
 t2:=Tryz.underlying2
 a2:=Tryz.isAgg2
 z2:=Tryz.sizeOf2
 v2:=Tryz.zeroValue2
 t3:=Tryz.underlying3
 a3:=Tryz.isAgg3
 z3:=Tryz.sizeOf3
 v3:=Tryz.zeroValue3
 t4:=Tryz.underlying4
 a4:=Tryz.isAgg4
 z4:=Tryz.sizeOf4
 v4:=Tryz.zeroValue4
 t5:=Tryz.underlying5
 a5:=Tryz.isAgg5
 z5:=Tryz.sizeOf5
 v5:=Tryz.zeroValue5
 t9:=Tryz.underlying9
 a9:=Tryz.isAgg9
 z9:=Tryz.sizeOf9
 v9:=Tryz.zeroValue9
 t20:=Tryz.underlying20
 a20:=Tryz.isAgg20
 z20:=Tryz.sizeOf20
 v20:=Tryz.zeroValue20
 t21:=Tryz.underlying21
 a21:=Tryz.isAgg21
 z21:=Tryz.sizeOf21
 v21:=Tryz.zeroValue21
 t37:=Tryz.underlying22
 a37:=Tryz.isAgg22
 z37:=Tryz.sizeOf22
 v37:=Tryz.zeroValue22
 t46:=Tryz.underlying199
 a46:=Tryz.isAgg199
 z46:=Tryz.sizeOf199
 v46:=Tryz.zeroValue199
 t51:=Tryz.underlying271
 a51:=Tryz.isAgg271
 z51:=Tryz.sizeOf271
 v51:=Tryz.zeroValue271
 t53:=Tryz.underlying273
 a53:=Tryz.isAgg273
 z53:=Tryz.sizeOf273
 v53:=Tryz.zeroValue273
 t75:=Tryz.underlying35
 a75:=Tryz.isAgg35
 z75:=Tryz.sizeOf35
 v75:=Tryz.zeroValue35
 t76:=Tryz.underlying44
 a76:=Tryz.isAgg44
 z76:=Tryz.sizeOf44
 v76:=Tryz.zeroValue44
 t85:=Tryz.underlying387
 a85:=Tryz.isAgg387
 z85:=Tryz.sizeOf387
 v85:=Tryz.zeroValue387
 t127:=Tryz.underlying405
 a127:=Tryz.isAgg405
 z127:=Tryz.sizeOf405
 v127:=Tryz.zeroValue405
 t143:=Tryz.underlying406
 a143:=Tryz.isAgg406
 z143:=Tryz.sizeOf406
 v143:=Tryz.zeroValue406
 t145:=Tryz.underlying408
 a145:=Tryz.isAgg408
 z145:=Tryz.sizeOf408
 v145:=Tryz.zeroValue408
 t167:=Tryz.underlying386
 a167:=Tryz.isAgg386
 z167:=Tryz.sizeOf386
 v167:=Tryz.zeroValue386
 t168:=Tryz.underlying389
 a168:=Tryz.isAgg389
 z168:=Tryz.sizeOf389
 v168:=Tryz.zeroValue389
 t171:=Tryz.underlying310
 a171:=Tryz.isAgg310
 z171:=Tryz.sizeOf310
 v171:=Tryz.zeroValue310
 t173:=Tryz.underlying312
 a173:=Tryz.isAgg312
 z173:=Tryz.sizeOf312
 v173:=Tryz.zeroValue312
 t175:=Tryz.underlying394
 a175:=Tryz.isAgg394
 z175:=Tryz.sizeOf394
 v175:=Tryz.zeroValue394
 t210:=Tryz.underlying398
 a210:=Tryz.isAgg398
 z210:=Tryz.sizeOf398
 v210:=Tryz.zeroValue398
 t212:=Tryz.underlying341
 a212:=Tryz.isAgg341
 z212:=Tryz.sizeOf341
 v212:=Tryz.zeroValue341
 t213:=Tryz.underlying342
 a213:=Tryz.isAgg342
 z213:=Tryz.sizeOf342
 t232:=Tryz.underlying371
 a232:=Tryz.isAgg371
 z232:=Tryz.sizeOf371
 v232:=Tryz.zeroValue371
 t233:=Tryz.underlying372
 a233:=Tryz.isAgg372
 z233:=Tryz.sizeOf372
 v233:=Tryz.zeroValue372
 g15:=by kernel_rfl
 g16:=by kernel_rfl
 g17:=by kernel_rfl
 g18:=by kernel_rfl
 g19:=by kernel_rfl
}
theorem kN (s:ByteArray)(w:World):Calls Tryz.prog 215 #[.string s, .string ⟨#[48]⟩] w fun e w'=>e = .returned (.string ⟨(dO s.data.toList).toArray⟩)/\w=w':=
 (Any.strings_TrimLeft_one FA s 48 (by decide) w).mono fun _ _ ⟨h1,h2⟩=>⟨h1,h2.symm⟩
theorem o4 (s:ByteArray)(hs:s.size<=9223372036854775807)(w:World):Calls Tryz.prog 216 #[.string s, .string ⟨#[48]⟩] w fun e w'=>e = .returned (.string ⟨(mY s.data.toList).toArray⟩)/\w=w':=
 (Any.strings_TrimRight_one Fa s 48 (by decide) w hs).mono fun _ _ ⟨h1,h2⟩=>⟨h1,h2.symm⟩
theorem rM:∀ (l:List UInt8) (a:Nat),(∀c∈l,eN c=true)->Lib.decFrom a l=some (l.foldl (fun a c=>a*10+ (c.toNat - 48)) a)
 | [],a,_=>rfl
 | c::l,a,h=>by
  have hd:=h c (by simp);have hv:Lib.digitVal c=some (c.toNat - 48):=by
   have:=rG (p:=fun c=> !eN c||(Lib.digitVal c==some (c.toNat - 48))) (by decide +kernel) c;simpa [hd] using this
  show(match Lib.digitVal c with | some d=>Lib.decFrom (a*10+d) l | none=>none)=_
  rw [hv];exact rM l _ (fun c hc=>h c (Zl _ hc))
theorem BW (h:∀c∈l,eN c=true)(hl:l.length<=12)(w:World):Calls Tryz.prog 217 #[.string ⟨(48::l).toArray⟩] w fun e w'=>e = .returned (.tuple #[.int .i64 (jB l:Nat), .nilIface])/\Below w.heap.size w w':=by
 have ha:Lib.atoi (⟨(48::l).toArray⟩:ByteArray).data.toList=some ((jB l:Nat):Int):=by
  show(Lib.decNat (48::l)).map _=_
  have:Lib.decNat (48::l)=some (jB l):=by
   show Lib.decFrom 0 (48::l)=_
   rw [rM (48::l) 0 (by intro c hc;rcases List.mem_cons.1 hc with rfl | hc;decide;exact h c hc)];rfl
  rw [this];rfl
 refine(Any.strconv_Atoi Ag ⟨(48::l).toArray⟩ _ (by show(48::l).length<=18;simp;omega) ha w).mono ?_;rintro e w' ⟨rfl,t,rfl⟩;exact⟨rfl,⟨rfl,rfl,rfl,by rw [Lib.bytesWorld_size];omega,fun k hk=>Lib.bytesWorld_at_old _ _ _ _ hk⟩⟩
theorem kd (h:∀c∈l,eN c=true):∀c∈dO l,eN c=true:=fun c hc=>h c ((List.dropWhile_sublist _).mem hc)
theorem ud:∀ (l:List UInt8),(∀c∈l,eN c=true)->jB l.reverse<10 ^ l.length
 | [],_=>by decide
 | c::l,h=>by
  have h1:=ud l (fun c hc=>h c (Zl _ hc));have h2:=h c (by simp);unfold eN at h2;simp at h2;rw [List.reverse_cons,pH,List.length_cons,Nat.pow_succ];omega
theorem xr (l:List UInt8)(h:∀c∈l,eN c=true):jB l<10 ^ l.length:=by
 have:=ud l.reverse (fun c hc=>h c (List.mem_reverse.1 hc))
 rwa [List.reverse_reverse,List.length_reverse] at this
theorem GN (l:List UInt8): (⟨#[48]⟩:ByteArray)++ ⟨l.toArray⟩= ⟨(48::l).toArray⟩:=by
 apply ByteArray.ext
 simp
theorem DB {t:NS}(hd:∀c∈t.exps,eN c=true): -1099511627776<=fR t/\fR t<=1099511627776:=by
 have h1:=xr _ (kd hd);unfold fR
 by_cases h: (dO t.exps).length<=12
 ·have h2:10 ^ (dO t.exps).length<=10 ^ 12:=Nat.pow_le_pow_right (by decide) h
  simp only [if_pos h]
  split <;> omega
 ·simp only [if_neg h]
  split <;> omega
theorem pi (t:NS)(vd ve:Value)(a4:Bs w ve t.exps)(hd:∀c∈t.exps,eN c=true)(hl:t.exps.length<=1000000000):Calls Tryz.prog 204 #[.agg #[.bool t.neg, .bool t.down,vd, .int .i64 t.part,ve, .int .i64 t.st, .int .i64 t.n]] w fun e w'=>e = .returned (.int .i64 (fR t))/\Below w.heap.size w w':=by
 obtain⟨neg,down,digs,part,exps,st,n⟩:=t
 dsimp only at *
 have hv:=xr _ (kd hd);have a9:=Qa (fun hl w=>BW (l:=dO exps) (kd hd) hl w);have hle: (dO exps).length<=exps.length:=(List.dropWhile_sublist _).length_le;have hb:=ac w (.cells #[.bool neg, .bool down,vd, .int .i64 part,ve, .int .i64 st, .int .i64 n] 346);have hc:=aF (a4.below hb);have Hb:=Qa hb;have a3:fR ⟨neg,down,digs,part,exps,st,n⟩= (if down then -(if(dO exps).length<=12 then((jB (dO exps):Nat):Int) else 1099511627776) else(if(dO exps).length<=12 then((jB (dO exps):Nat):Int) else 1099511627776)):=rfl;rw [a3];clear hb a4 hd a3;have e1: (⟨exps.toArray⟩:ByteArray).data.toList=exps:=rfl;have a7:=Qa (fun w=>kN ⟨exps.toArray⟩ w);rw [e1] at a7;clear e1;generalize dO exps=l at *;have b1: (⟨l.toArray⟩:ByteArray).size=l.length:=rfl;have a2:=GN l;obtain⟨s,hs⟩:∃s:ByteArray,⟨l.toArray⟩=s:=⟨_,rfl⟩;rw [hs] at b1 a2;have Hs:=Qa hs;have b0:=Qa a2;clear a2;obtain⟨z,hz⟩:∃z:Int,(if l.length<=12 then((jB l:Nat):Int) else 1099511627776)=z:=⟨_,rfl⟩;rw [hz];go_enter Tryz.func204,Tryz.ntmps204;go_wp2_with fail;refine(a7.out _).mono ?_;rintro e w1 ⟨rfl,rfl⟩;rw [Hs.out];clear hs hc
 by_cases h12:l.length<=12
 ·have a0: (s.size:Int)<=12:=by omega
  have b2:jB l<1000000000000:=Nat.lt_of_lt_of_le hv (Nat.pow_le_pow_right (by decide) h12);rw [if_pos h12] at hz;subst hz;go_wp2_with fail;rw [b0.out];refine(a9.out h12 _).mono ?_;rintro e w2 ⟨rfl,a1⟩;have a6:=bo Hb.out a1;have a5:=Qa a6;have c1:w2.cell? ⟨w.heap.size,1,none⟩=some (.bool down):=Zf a1 (aa (Ze w (.cells #[.bool neg, .bool down,vd, .int .i64 part,ve, .int .i64 st, .int .i64 n] 346)) (j:=1) rfl);clear a1 a6
  cases down with
  | true=>
   go_wp2_with fail;go_ret;exact⟨rfl,a5.out⟩
  | false=>
   go_wp2_with fail;go_ret;exact⟨rfl,a5.out⟩
 ·have a0:¬ (s.size:Int)<=12:=by omega
  rw [if_neg h12] at hz;subst hz
  cases down with
  | true=>
   go_wp2_with fail;go_ret;exact⟨rfl,Hb.out⟩
  | false=>
   go_wp2_with fail;go_ret;exact⟨rfl,Hb.out⟩
def GW:Option Dc->Value->Prop
 | some d,v=>v = .tuple #[.agg #[.bool d.neg, .string d.digits, .int .i64 d.exp], .bool true]
 | none,v=> ∃a b c,v = .tuple #[.agg #[.bool a, .string b, .int .i64 c], .bool false]
theorem eX: (Tryz.prog.info? 48).map (·.size)=some 3:=by kernel_rfl
theorem gp (a:Bool)(b:ByteArray)(c:Int): (#[.bool a, .string b, .int .i64 c]:Array Value).all (·.oneCell')=true:=by simp [Value.oneCell']
theorem ie {fn:Func}{p q:Tmp}(h:fn.results = #[.cell p 48, .tmp q])(tmps:Array Value)(w:World)(g:Nat)(t:TypeId)(d0 d1 d2:Value)(fr:Nat×Nat)
  (hp:tmps.getD p undef = .pointer (some ⟨g,0,none⟩)) (hg:w.heap[g]?=some (.cells #[d0,d1,d2] t fr)): (results fn tmps).run Tryz.prog w = .ok (.tuple #[.agg #[d0,d1,d2],tmps.getD q undef]) w:=by
 have a0:tmps[p]?.getD undef = .pointer (some ⟨g,0,none⟩):=by simpa using hp
 have hl:=run_loadVar_row (P:=Tryz.prog) w g t 48 #[d0,d1,d2] fr _ hg Tryz.underlying48 rfl eX;simp [results,h,a0,asAddr,hl]
theorem iO {fn:Func}{p q r:Tmp}(h:fn.results = #[.cell p 48, .tmp q, .tmp r])(tmps:Array Value)(w:World)(g:Nat)(t:TypeId)(d0 d1 d2:Value)(fr:Nat×Nat)
  (hp:tmps.getD p undef = .pointer (some ⟨g,0,none⟩)) (hg:w.heap[g]?=some (.cells #[d0,d1,d2] t fr)): (results fn tmps).run Tryz.prog w = .ok (.tuple #[.agg #[d0,d1,d2],tmps.getD q undef,tmps.getD r undef]) w:=by
 have a0:tmps[p]?.getD undef = .pointer (some ⟨g,0,none⟩):=by simpa using hp
 have hl:=run_loadVar_row (P:=Tryz.prog) w g t 48 #[d0,d1,d2] fr _ hg Tryz.underlying48 rfl eX;simp [results,h,a0,asAddr,hl]
def xX (neg:Bool)(l:List UInt8)(x m:Int)(w:World)(e:Ending)(w':World):Prop:= ∃v,e = .returned v/\GW (ix neg l x m) v/\Below w.heap.size w w'
theorem i1 (neg:Bool)(l:List UInt8)(x m:Int)(hl:l.length<=1000000000)(hx: -9223372036854775808<=x/\x<=9223372036854775807)(hm: -1000000000<=m/\m<=1000000000)(w:World):Calls Tryz.prog 203 #[.bool neg, .string ⟨l.toArray⟩, .int .i64 x, .int .i64 m] w (xX neg l x m w):=by
 have hle: (dO l).length<=l.length:=(List.dropWhile_sublist _).length_le;have a0:=Qa (fun w=>kN ⟨l.toArray⟩ w);have e1: (⟨l.toArray⟩:ByteArray).data.toList=l:=rfl;rw [e1] at a0;unfold xX ix
 dsimp only
 clear e1;generalize hd:dO l=d at *;have hb:=ac w (.cells #[.bool false, .string es, .int .i64 0] 48);have h0:=Ze w (.cells #[.bool false, .string es, .int .i64 0] 48);have Hb:=Qa hb;have H0:=Qa h0;clear hb h0 hd
 by_cases hde:d = []
 ·subst hde
  rw [if_pos rfl];go_enter Tryz.func203,Tryz.ntmps203;go_wp2_with fail;refine(a0.out _).mono ?_;rintro e w1 ⟨rfl,rfl⟩;have h4:=H0.out;go_wp2_with (refine wpList_store_rowTo rfl 48 (.tmp 8) (.tmp 15) rfl rfl w.heap.size #[.bool false, .string ⟨#[48]⟩, .int .i64 0] (by simp [Act.eval]) (by simp [Act.eval]) 48 _ h4 eX rfl (gp _ _ _) ?_);exact Zg (ie Tryz.results203 _ _ w.heap.size 48 _ _ _ (0,0) (by simp) (setRow_heap _ _ _ _ _ _ H0.out)) rfl ⟨_,rfl,rfl,Hb.out.grown (ah _ _ _) Hb.out.size (fun g e=>by cases e;exact Za _)⟩
 ·rw [if_neg hde]
  have hs:∃s:ByteArray,⟨d.toArray⟩=s/\s.toList.isEmpty=false/\s.size=d.length:=⟨_,rfl,by rw [ByteArray.toList_eq];simpa using hde,rfl⟩;obtain⟨s,a2,b1,a4⟩:=hs;have a1:=Qa (fun w=>o4 s (by omega) w);have e2:s.data.toList=d:=by rw [<- a2]
  rw [e2] at a1;have a9: (mY d).length<=d.length:=by
   unfold mY;have:=(List.dropWhile_sublist (l:=d.reverse) (p:=(· == 48))).length_le;simp only [dO,List.length_reverse] at this ⊢;exact this
  generalize mY d=r at *;have hr:∃q:ByteArray,⟨r.toArray⟩=q/\q.size=r.length:=⟨_,rfl,rfl⟩;obtain⟨q,a6,a3⟩:=hr;rw [a2] at a0;rw [a6] at a1 ⊢;clear a2 a6 e2;rw [<- a4,<- a3];have b3:q.size<=s.size:=by omega
  have b0:s.size<=1000000000:=by omega
  clear a4 a3 a9 hle;generalize hy:oa x=y at *;have b2: -2199023255552<=y/\y<=2199023255552:=by unfold oa at hy;omega
  have b4:max (-2199023255552) (min x 2199023255552)=y:=hy;clear hy;go_enter Tryz.func203,Tryz.ntmps203;go_wp2_with fail;refine(a0.out _).mono ?_;rintro e w1 ⟨rfl,rfl⟩;go_wp2_with fail;refine(a1.out _).mono ?_;rintro e w1 ⟨rfl,rfl⟩;have h4:=H0.out;have s1:IntKind.i64.wrap ((s.size:Int) - q.size)= (s.size:Int) - q.size:=IntWalk.i64_in _ (by omega);have s2:IntKind.i64.wrap (y+m+ ((s.size:Int) - q.size))=y+m+ ((s.size:Int) - q.size):=IntWalk.i64_in _ (by omega)
  by_cases a7: -1000000000<=y+m+ ((s.size:Int) - q.size)
  ·by_cases a5:y+m+ ((s.size:Int) - q.size)<=1000000000
   ·have Hz:=Qa (And.intro a7 a5)
    go_wp2_with (refine wpList_store_rowTo rfl 48 (.tmp 8) (.tmp 33) rfl rfl w.heap.size #[.bool neg, .string q, .int .i64 (y+m+ ((s.size:Int) - q.size))] (by simp [Act.eval]) (by simp [Act.eval]) 48 _ h4 eX rfl (gp _ _ _) ?_);exact Zg (ie Tryz.results203 _ _ w.heap.size 48 _ _ _ (0,0) (by simp) (setRow_heap _ _ _ _ _ _ H0.out)) rfl ⟨_,rfl,by first | rfl | (rw [if_pos Hz.out];rfl),Hb.out.grown (ah _ _ _) Hb.out.size (fun g e=>by cases e;exact Za _)⟩
   ·have Hz:=Qa (show ¬ (-1000000000<=y+m+ ((s.size:Int) - q.size)/\y+m+ ((s.size:Int) - q.size)<=1000000000) from fun h=>a5 h.2)
    go_wp2_with (refine wpList_store_rowTo rfl 48 (.tmp 8) (.tmp 33) rfl rfl w.heap.size #[.bool neg, .string q, .int .i64 (y+m+ ((s.size:Int) - q.size))] (by simp [Act.eval]) (by simp [Act.eval]) 48 _ h4 eX rfl (gp _ _ _) ?_);exact Zg (ie Tryz.results203 _ _ w.heap.size 48 _ _ _ (0,0) (by simp) (setRow_heap _ _ _ _ _ _ H0.out)) rfl ⟨_,rfl,by first | exact⟨_,_,_,rfl⟩ | (rw [if_neg Hz.out];exact⟨_,_,_,rfl⟩),Hb.out.grown (ah _ _ _) Hb.out.size (fun g e=>by cases e;exact Za _)⟩
  ·have Hz:=Qa (show ¬ (-1000000000<=y+m+ ((s.size:Int) - q.size)/\y+m+ ((s.size:Int) - q.size)<=1000000000) from fun h=>a7 h.1)
   go_wp2_with (refine wpList_store_rowTo rfl 48 (.tmp 8) (.tmp 33) rfl rfl w.heap.size #[.bool neg, .string q, .int .i64 (y+m+ ((s.size:Int) - q.size))] (by simp [Act.eval]) (by simp [Act.eval]) 48 _ h4 eX rfl (gp _ _ _) ?_);exact Zg (ie Tryz.results203 _ _ w.heap.size 48 _ _ _ (0,0) (by simp) (setRow_heap _ _ _ _ _ _ H0.out)) rfl ⟨_,rfl,by first | exact⟨_,_,_,rfl⟩ | (rw [if_neg Hz.out];exact⟨_,_,_,rfl⟩),Hb.out.grown (ah _ _ _) Hb.out.size (fun g e=>by cases e;exact Za _)⟩
