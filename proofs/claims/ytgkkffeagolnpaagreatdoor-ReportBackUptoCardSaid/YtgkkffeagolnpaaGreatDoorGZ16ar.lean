import Derived.Test.YtgkkffeagolnpaaGreatDoorGZ16aq
import Derived.Stop.Asserts
import Derived.Lib.ItoaLen
set_option linter.unusedVariables false
set_option linter.unusedSimpArgs false
set_option maxHeartbeats 64000000
set_option maxRecDepth 100000
namespace Go.Proofs.YtgkkffeagolnpaaGreatDoor
open Go.RowKit Go.Shelf
variable {aE aU:Addr}{d:Dc}{j:JV}{ns:List ByteArray}{ks:List JV}{xs ys:List UInt8}{us:List Value}{i:Nat}{P:Nat->Prop}{A:Option Addr}{ty:TypeId}{u v x:Value}{W w w':World}
def d7 (P:Nat->Prop)(w:World)(A:Option Addr)(us:List Value)(ks:List JV):Prop:=
 (A=none/\us = []/\ks = [])\/∃g R c,A=some ⟨g,0,none⟩/\w.heap[g]?=some (.cells #[.slice R us.length c] 273 (0,0))/\bO P w 80 1 R us.length c us/\us.length=ks.length
def jL (P:Nat->Prop)(w:World)(us:List Value)(ks:List JV):Prop:= ∀ (i:Nat) u k,us[i]?=some u->ks[i]?=some k->VW P w u k
theorem d7.len (h:d7 P w A us ks):us.length=ks.length:=by
 rcases h with ⟨-,rfl,rfl⟩|⟨_,_,_,_,_,_,h⟩
 ·rfl
 ·exact h
theorem d7.below (h:d7 P w A us ks)(hb:Below w.heap.size w w'):d7 P w' A us ks:=by
 rcases h with h|⟨g,R,c,e,hg,hr,hl⟩
 ·exact .inl h
 ·exact .inr ⟨g,R,c,e,ah hg hb,hr.stay fun g o hp hg _ _=>⟨hp,(hb.block g (ak hg)).trans hg⟩,hl⟩
theorem jL.below (h:jL P w us ks)(hb:Below w.heap.size w w'):jL P w' us ks:=fun i u k h1 h2=>(h i u k h1 h2).later hb
theorem VW.asList {t:Bool}{x:ByteArray}(h:VW P w v (.mk 5 t x d ns ks)):∃A us,v =.iface 104 (.pointer A)/\d7 P w A us ks/\jL P w us ks:=by
 cases h with
 |bare=>exact⟨none, [],rfl,.inl ⟨rfl,rfl,rfl⟩,fun i u k h _=>by simp at h⟩
 |list g A c us ks hp hg hr hl hk=>exact⟨_,us,rfl,.inr ⟨g,A,c,rfl,hg,hr,hl⟩,hk⟩
def eJ (P:Nat->Prop)(w:World)(A:Option Addr)(us:List Value)(ns:List ByteArray)(ks:List JV):Prop:=
 ∃g R c,A=some ⟨g,0,none⟩/\w.heap[g]?=some (.cells #[.slice R us.length c] 161 (0,0))/\bO P w 82 2 R us.length c (sU ns us)/\us.length=ks.length/\ns.length=ks.length
theorem eJ.below (h:eJ P w A us ns ks)(hb:Below w.heap.size w w'):eJ P w' A us ns ks:=by
 obtain⟨g,R,c,e,hg,hr,hl⟩:=h;exact⟨g,R,c,e,ah hg hb,hr.stay fun g o hp hg _ _=>⟨hp,(hb.block g (ak hg)).trans hg⟩,hl⟩
theorem VW.asObj {t:Bool}{x:ByteArray}(h:VW P w v (.mk 6 t x d ns ks)):∃A us,v =.iface 95 (.pointer A)/\eJ P w A us ns ks/\jL P w us ks:=by
 cases h with
 |obj g A c us ns ks hp hg hr hl hn hk=>exact⟨_,us,rfl,⟨g,A,c,rfl,hg,hr,hl,hn⟩,hk⟩
theorem im (h:d7 P w A us ks):Calls Tryz.prog 125 #[.pointer A] w fun e w'=>e =.returned (.int .i64 us.length)/\w=w':=by
 rcases h with ⟨rfl,rfl,rfl⟩|⟨g,R,c,rfl,hg,hr,hl⟩
 ·exact rn w
 ·exact kK hg
theorem fM (h:d7 P w A us ks)(hT:ek w)(i:Nat)(hu:us[i]?=some u):Calls Tryz.prog 126 #[.pointer A,.int .i64 i] w fun e w'=>e =.returned (.tuple #[.string ⟨(Lib.itoa i).toArray⟩,u])/\Below w.heap.size w w':=by
 have hi:=(List.getElem?_eq_some_iff.1 hu).1;rcases h with ⟨rfl,rfl,rfl⟩|⟨g,R,c,rfl,hg,hr,hl⟩
 ·simp at hi
 ·exact o6 hT hg hr i hi hu
theorem eF (h:eJ P w A us ns ks):Calls Tryz.prog 50 #[.pointer A] w fun e w'=>e =.returned (.int .i64 us.length)/\w=w':=by
 obtain⟨g,R,c,rfl,hg,hr,hl⟩:=h;exact mG hg
theorem oU (h:eJ P w A us ns ks)(i:Nat){n:ByteArray}(hu:us[i]?=some u)(hn:ns[i]?=some n):Calls Tryz.prog 127 #[.pointer A,.int .i64 i] w fun e w'=>e =.returned (.tuple #[.string n,u])/\Below w.heap.size w w':=by
 have hi:=(List.getElem?_eq_some_iff.1 hu).1;obtain⟨g,R,c,rfl,hg,hr,hl⟩:=h;have hm:=iz ns us i n u hn hu;exact qN hg hr i hi hm.1 hm.2
inductive JB:JV->Prop
 |mk (k:Int) (t:Bool) (x:ByteArray) (d:Dc) (ns:List ByteArray) (ks:List JV):x.size<=9223372036854775807->Kb d->(∀n∈ns,n.size<=9223372036854775807)->(∀u∈ks,JB u)->JB (.mk k t x d ns ks)
theorem eJ.len (h:eJ P w A us ns ks):us.length=ks.length:=by
 obtain⟨_,_,_,_,_,_,h,_⟩:=h;exact h
theorem eJ.names (h:eJ P w A us ns ks):ns.length=ks.length:=by
 obtain⟨_,_,_,_,_,_,_,h⟩:=h;exact h
theorem qr (x:Value)(W:World):(Instr.typeAssert (.iface 343 x) 80 78 true).run Tryz.prog W =.ok (.tuple #[.string ⟨#[]⟩,.bool false]) W:=by kernel_rfl
theorem rp (x:Value)(W:World):(Instr.typeAssert (.iface 343 x) 80 168 true).run Tryz.prog W =.ok (.tuple #[.nilIface,.bool false]) W:=run_typeAssert_lacksB Tryz.underlying168 (by kernel_rfl) (by kernel_rfl) x _ W
theorem pD (x:Value)(W:World):(Instr.typeAssert (.iface 341 x) 80 78 true).run Tryz.prog W =.ok (.tuple #[.string ⟨#[]⟩,.bool false]) W:=by kernel_rfl
theorem tA (x:Value)(W:World):(Instr.typeAssert (.iface 341 x) 80 168 true).run Tryz.prog W =.ok (.tuple #[.nilIface,.bool false]) W:=run_typeAssert_lacksB Tryz.underlying168 (by kernel_rfl) (by kernel_rfl) x _ W
theorem r9 (x:Value)(W:World):(Instr.typeAssert (.iface 313 x) 80 78 true).run Tryz.prog W =.ok (.tuple #[.string ⟨#[]⟩,.bool false]) W:=by kernel_rfl
theorem uo (x:Value)(W:World):(Instr.typeAssert (.iface 313 x) 80 168 true).run Tryz.prog W =.ok (.tuple #[.nilIface,.bool false]) W:=run_typeAssert_lacksB Tryz.underlying168 (by kernel_rfl) (by kernel_rfl) x _ W
theorem EH (x:Value)(W:World):(Instr.typeAssert (.iface 78 x) 80 78 true).run Tryz.prog W =.ok (.tuple #[x,.bool true]) W:=by kernel_rfl
theorem sQ (x:Value)(W:World):(Instr.typeAssert (.iface 78 x) 80 168 true).run Tryz.prog W =.ok (.tuple #[.nilIface,.bool false]) W:=run_typeAssert_lacksB Tryz.underlying168 (by kernel_rfl) (by kernel_rfl) x _ W
theorem qo (x:Value)(W:World):(Instr.typeAssert (.iface 104 x) 80 78 true).run Tryz.prog W =.ok (.tuple #[.string ⟨#[]⟩,.bool false]) W:=by kernel_rfl
theorem sT (x:Value)(W:World):(Instr.typeAssert (.iface 104 x) 80 168 true).run Tryz.prog W =.ok (.tuple #[.iface 104 x,.bool true]) W:=run_typeAssert_hasB Tryz.underlying168 (by kernel_rfl) x _ W
theorem sX (x:Value)(W:World):(Instr.typeAssert (.iface 95 x) 80 78 true).run Tryz.prog W =.ok (.tuple #[.string ⟨#[]⟩,.bool false]) W:=by kernel_rfl
theorem un (x:Value)(W:World):(Instr.typeAssert (.iface 95 x) 80 168 true).run Tryz.prog W =.ok (.tuple #[.iface 95 x,.bool true]) W:=run_typeAssert_hasB Tryz.underlying168 (by kernel_rfl) x _ W
theorem zD {t:TypeId}{d:Nat}{op:Op}{pos:String}{af:Array Edge}{gu:Option (Nat×Bool)}{a:Act}{K:Act->World->Prop}{Q':Exit->Act->World->Prop}(h:VW P w v j)(hv:v =.iface t x)(k:∀w',Below w.heap.size w w'->K (a.put (some d) (.int .i64 j.kindOf)) w'):Oper.upon Tryz.prog {dst:=some d,op:=op,type:=ty,pos:=pos,after:=af,guard:=gu} a K Q' ((Sem.run Tryz.prog (method 525 t x "Kind") w).andThen fun a w'=>Sem.run Tryz.prog (callFunc a.fst #[a.snd]) w'):=by
 cases h <;> (injection hv with e1 e2;subst e1 e2)
 all_goals
  go_wp2_with fail;(with_reducible first|refine oP.mono ?_|refine oF.mono ?_|refine qG.mono ?_|refine oe.mono ?_|refine nH.mono ?_|refine su.mono ?_);rintro e w1 ⟨rfl,a0⟩;exact k w1 a0
def kI (l:List UInt8):ByteArray:=⟨l.toArray⟩
theorem nz:Calls Tryz.prog 329 #[.agg #[]] w fun e w'=>e =.returned (.string (kI [110,117,108,108]))/\Below w.heap.size w w':=by
 go_enter Tryz.func329,Tryz.ntmps329;go_wp2_with fail;go_ret;exact⟨rfl,aa w _⟩
theorem yU (b:Bool):Calls Tryz.prog 328 #[.bool b] w fun e w'=>e =.returned (.string (kI (if b then [116,114,117,101] else [102,97,108,115,101])))/\w=w':=by
 cases b
 all_goals
  go_enter Tryz.func328,Tryz.ntmps328;go_wp2_with fail;go_ret;exact⟨rfl,rfl⟩
theorem AQ (b:Bool):Calls Tryz.prog 327 #[.bool b] w fun e w'=>e =.returned (.string (kI (if b then [116,114,117,101] else [102,97,108,115,101])))/\w=w':=by
 have H:=Qa (yU (w:=w) b);generalize kI (if b then [116,114,117,101] else [102,97,108,115,101])=s at *;go_enter Tryz.func327,Tryz.ntmps327;go_wp2_with fail;refine Za H ?_;rintro e w1 ⟨rfl,rfl⟩;go_wp2_with fail;go_ret;exact⟨rfl,rfl⟩
theorem nF (b:Bool):Calls Tryz.prog 325 #[.bool b] w fun e w'=>e =.returned (.string (kI (if b then [116,114,117,101] else [102,97,108,115,101])))/\Below w.heap.size w w':=by
 have H:=Qa (AQ (w:=w) b);generalize kI (if b then [116,114,117,101] else [102,97,108,115,101])=s at *;go_enter Tryz.func325,Tryz.ntmps325;go_wp2_with fail;refine Za H ?_;rintro e w1 ⟨rfl,rfl⟩;go_wp2_with fail;go_ret;exact⟨rfl,Ze _ _⟩
theorem yo (n:Int)(h0: -1000000000<=n)(h1:n<=1000000000)(hT:ek w):Calls Tryz.prog 161 #[.int .i64 n] w fun e w'=>e =.returned (.string ⟨(Lib.itoa n).toArray⟩)/\Below w.heap.size w w':=by
 refine(Any.strconv_Itoa qD n (by omega) (by omega) w hT).mono ?_;rintro e w' ⟨rfl,k,os,rfl⟩;exact⟨rfl,Lib.below_grow _ w (Zb _) k os⟩
theorem ph (hT:ek w)(hs:d.digits.size<=1000000000000)(h0: -1000000000<=d.exp)(h1:d.exp<=1000000000):Calls Tryz.prog 319 #[.agg #[.bool d.neg,.string d.digits,.int .i64 d.exp]] w fun e w'=>e =.returned (.string (kI (eb d)))/\Below w.heap.size w w':=by
 obtain⟨ng,dg,x⟩:=d
 dsimp only at hs h0 h1 ⊢
 have hb:=aa w (.cells #[.bool ng,.string dg,.int .i64 x] 311);have Ha:=Qa hb;have hz:(⟨(Lib.itoa x).toArray⟩:ByteArray).size<=21:=by
  show(Lib.itoa x).toArray.size<=21
  rw[List.size_toArray];exact Lib.itoa_length_le x (by omega) (by omega)
 have HI:=Qa (yo x h0 h1 (hT.below hb));have a2:(⟨#[101]⟩++ (⟨(Lib.itoa x).toArray⟩:ByteArray):ByteArray).size<=22:=by
  rw[ByteArray.size_append];have:(⟨#[101]⟩:ByteArray).size=1:=rfl;omega
 have a3:(⟨#[45]⟩++dg:ByteArray).size<=1000000000001:=by
  rw[ByteArray.size_append];have:(⟨#[45]⟩:ByteArray).size=1:=rfl;omega
 have e0:(⟨#[45]⟩:ByteArray).size=1:=rfl;have e1:(⟨#[101]⟩:ByteArray).size=1:=rfl;clear hb hT h0 h1
 cases ng <;> by_cases he:x=0
 ·subst he;have hc:=Qa (show dg=kI (eb ⟨false,dg,0⟩) by cases dg with|mk a=>cases a with|mk l=>simp[eb,gj,kI]);clear hz a2 HI;go_enter Tryz.func319,Tryz.ntmps319;go_wp2_with fail;go_ret;rw[<-hc.out];exact⟨rfl,Ha.out⟩
 ·have hc:=Qa (show dg++ (⟨#[101]⟩++ ⟨(Lib.itoa x).toArray⟩:ByteArray)=kI (eb ⟨false,dg,x⟩) by cases dg with|mk a=>cases a with|mk l=>simp only[eb,gj,kI,if_neg he];rfl);have hxb:(x==0)=false:=by simpa using he
  clear he;generalize (⟨(Lib.itoa x).toArray⟩:ByteArray)=z at *;go_enter Tryz.func319,Tryz.ntmps319;go_wp2_with fail;refine Za HI ?_;rintro e w1 ⟨rfl,a0⟩;have a1:=Qa (Ha.out.trans (a0.mono Ha.out.size));clear a0;go_wp2_with fail;go_ret;rw[<-hc.out];exact⟨rfl,a1.out⟩
 ·subst he;have hc:=Qa (show(⟨#[45]⟩++dg:ByteArray)=kI (eb ⟨true,dg,0⟩) by cases dg with|mk a=>cases a with|mk l=>simp only[eb,gj,kI,if_true,List.append_nil];rfl);clear hz a2 HI;go_enter Tryz.func319,Tryz.ntmps319;go_wp2_with fail;go_ret;rw[<-hc.out];exact⟨rfl,Ha.out⟩
 ·have hc:=Qa (show(⟨#[45]⟩++dg)++ (⟨#[101]⟩++ ⟨(Lib.itoa x).toArray⟩:ByteArray)=kI (eb ⟨true,dg,x⟩) by cases dg with|mk a=>cases a with|mk l=>simp only[eb,gj,kI,if_neg he,if_true];rfl);have hxb:(x==0)=false:=by simpa using he
  clear he;generalize (⟨(Lib.itoa x).toArray⟩:ByteArray)=z at *;go_enter Tryz.func319,Tryz.ntmps319;go_wp2_with fail;refine Za HI ?_;rintro e w1 ⟨rfl,a0⟩;have a1:=Qa (Ha.out.trans (a0.mono Ha.out.size));clear a0;go_wp2_with fail;go_ret;rw[<-hc.out];exact⟨rfl,a1.out⟩
theorem mx {s:ByteArray}(hs:bi s)(hG:cD w aU aE)(hl:s.size<=1000000000):Calls Tryz.prog 124 #[.string s] w fun e w'=> ∃v,e =.returned v/\aq w' w.heap.size v (bW s)/\Below w.heap.size w w':=by
 have H:=Qa (oH hs hG hl);clear hs hG hl;go_enter Tryz.func124,Tryz.ntmps124;go_wp2_with fail;refine Za H ?_;rintro e w1 ⟨v,rfl,ho,hb⟩;have Hb:=Qa hb;have Ho:=Qa ho;obtain⟨A,q,rfl,-⟩:=ag ho;clear hb ho;go_wp2_with fail;go_ret;exact⟨_,rfl,Ho.out,Hb.out⟩
def jY (W:World)(l:List UInt8)(e:Ending)(w':World):Prop:= ∃v,e =.returned v/\aq w' W.heap.size v l/\Below W.heap.size W w'
theorem zh {s:ByteArray}(hs:bi s)(hG:cD W aU aE)(hl:s.size<=1000000000)(hb:Below W.heap.size W w)(ho:aq w W.heap.size u xs)(hx:xs.length+ (bW s).length<=140737488355328):Calls Tryz.prog 99 #[u,.iface 78 (.string s)] w (jY W (xs++bW s)):=by
 have k1:=EH;have H:=Qa (mx (w:=w) hs (hG.below hb) hl);have Hb:=Qa hb;have Ho:=Qa ho;have Hx:=Qa hx;obtain⟨A,q,rfl,-⟩:=ag ho;clear hs hG hb ho hx;generalize bW s=qs at *;go_enter Tryz.func99,Tryz.ntmps99;go_wp2_with fail;refine Za H ?_;rintro e w1 ⟨v,rfl,a2,a0⟩;have a1:=Qa (Hb.out.trans (a0.mono Hb.out.size));have a3:=Qa (Ho.out.below a0 (Zb _));have a4:=Qa (aq.bs a2);obtain⟨A2,q2,rfl,-⟩:=ag a2;clear a2 a0;go_wp2_with (at_builtin;refine tF a3.out a4.out Hx.out a1.out.size ?_;intro v' w3 h1 h2 h3;have HK:=Qa h1;have a5:=Qa h2;clear h1 h2 h3);obtain⟨A3,q3,rfl,-⟩:=ag HK.out;go_ret;exact⟨_,rfl,HK.out,a1.out.grown a5.out a1.out.size (fun g e=>(aq.blk a3.out e).1)⟩
def rI:List UInt8:= [110,117,108,108]
def rc (b:Bool):List UInt8:=if b then [116,114,117,101] else [102,97,108,115,101]
theorem mY (l:List UInt8):(kI l).size=l.length:=by show l.toArray.size=_;simp
theorem zp {P:Program}{f:FuncId}{x y:Array Value}{K:Ending->World->Prop}(h:x=y)(hc:Calls P f #[.agg y] w K):Calls P f #[.agg x] w K:=h▸hc
theorem FD (x:Value)(W:World):(Instr.typeAssert (.iface 343 x) 80 220 true).run Tryz.prog W =.ok (.tuple #[.iface 343 x,.bool true]) W:=run_typeAssert_hasB Tryz.underlying220 (by kernel_rfl) x _ W
theorem yF (hb:Below W.heap.size W w)(ho:aq w W.heap.size u xs)(hx:xs.length+rI.length<=140737488355328):Calls Tryz.prog 99 #[u,.iface 343 (.agg #[])] w (jY W (xs++rI)):=by
 have k1:=qr;have k2:=FD;have H:=Qa (show Calls Tryz.prog 329 #[.agg #[]] w fun e w'=>e =.returned (.string (kI rI))/\Below w.heap.size w w' from nz);have Hb:=Qa hb;have Ho:=Qa ho;have Hx:=Qa hx;obtain⟨A,q,rfl,-⟩:=ag ho;clear hb ho hx;generalize rI=qs at *;have a2:(kI qs).data.toList=qs:=rfl;have Hq:=Qa a2;have Hz:=Qa (show xs.length+ (kI qs).size<=140737488355328 by have:=Hx.out;rw[mY];exact this);generalize kI qs=ts at *;clear a2;go_enter Tryz.func99,Tryz.ntmps99;go_wp2_with fail;refine Za H ?_;rintro e w1 ⟨rfl,a0⟩;have a1:=Qa (Hb.out.trans (a0.mono Hb.out.size));have a3:=Qa (Ho.out.below a0 (Zb _));clear a0;go_wp2_with (at_builtin;refine bX rfl (.tmp 26) (.tmp 28) rfl W.heap.size (.slice A xs.length q) xs ts (by simp[Act.eval]) a3.out (by simp[Act.eval]) Hz.out a1.out.size ?_;intro v' w3 h1 h2;have HK:=Qa h1;have a4:=Qa h2;clear h1 h2);rw[Hq.out] at HK;obtain⟨A3,q3,rfl,-⟩:=ag HK.out;go_ret;exact⟨_,rfl,HK.out,a1.out.grown a4.out a1.out.size (fun g e=>(aq.blk a3.out e).1)⟩
theorem Eh (x:Value)(W:World):(Instr.typeAssert (.iface 341 x) 80 220 true).run Tryz.prog W =.ok (.tuple #[.iface 341 x,.bool true]) W:=run_typeAssert_hasB Tryz.underlying220 (by kernel_rfl) x _ W
theorem yJ {b:Bool}(hb:Below W.heap.size W w)(ho:aq w W.heap.size u xs)(hx:xs.length+ (rc b).length<=140737488355328):Calls Tryz.prog 99 #[u,.iface 341 (.bool b)] w fun e w'=>jY W (xs++ (rc b)) e w':=by
 have k1:=pD;have k2:=Eh;have H:=Qa (show Calls Tryz.prog 325 #[.bool b] w fun e w'=>e =.returned (.string (kI (rc b)))/\Below w.heap.size w w' from nF b);have Hb:=Qa hb;have Ho:=Qa ho;have Hx:=Qa hx;obtain⟨A,q,rfl,-⟩:=ag ho;clear hb ho hx;generalize (rc b)=qs at *;have a2:(kI qs).data.toList=qs:=rfl;have Hq:=Qa a2;have Hz:=Qa (show xs.length+ (kI qs).size<=140737488355328 by have:=Hx.out;rw[mY];exact this);generalize kI qs=ts at *;clear a2;go_enter Tryz.func99,Tryz.ntmps99;go_wp2_with fail;refine Za H ?_;rintro e w1 ⟨rfl,a0⟩;have a1:=Qa (Hb.out.trans (a0.mono Hb.out.size));have a3:=Qa (Ho.out.below a0 (Zb _));clear a0;go_wp2_with (at_builtin;refine bX rfl (.tmp 26) (.tmp 28) rfl W.heap.size (.slice A xs.length q) xs ts (by simp[Act.eval]) a3.out (by simp[Act.eval]) Hz.out a1.out.size ?_;intro v' w3 h1 h2;have HK:=Qa h1;have a4:=Qa h2;clear h1 h2);rw[Hq.out] at HK;obtain⟨A3,q3,rfl,-⟩:=ag HK.out;go_ret;exact⟨_,rfl,HK.out,a1.out.grown a4.out a1.out.size (fun g e=>(aq.blk a3.out e).1)⟩
theorem Gv (x:Value)(W:World):(Instr.typeAssert (.iface 313 x) 80 220 true).run Tryz.prog W =.ok (.tuple #[.iface 313 x,.bool true]) W:=run_typeAssert_hasB Tryz.underlying220 (by kernel_rfl) x _ W
theorem z6 (hT:ek W)(a4:d.digits.size<=1000000000000)(h0: -1000000000<=d.exp)(h1:d.exp<=1000000000)(hb:Below W.heap.size W w)(ho:aq w W.heap.size u xs)(hx:xs.length+ (eb d).length<=140737488355328):Calls Tryz.prog 99 #[u,.iface 313 (.agg #[.bool d.neg,.string d.digits,.int .i64 d.exp])] w fun e w'=>jY W (xs++ (eb d)) e w':=by
 have k1:=r9;have k2:=Gv;have H:=Qa (ph (w:=w) (hT.below hb) a4 h0 h1);have Hb:=Qa hb;have Ho:=Qa ho;have Hx:=Qa hx;obtain⟨A,q,rfl,-⟩:=ag ho;clear hb ho hx hT a4 h0 h1;generalize (eb d)=qs at *;have a2:(kI qs).data.toList=qs:=rfl;have Hq:=Qa a2;have Hz:=Qa (show xs.length+ (kI qs).size<=140737488355328 by have:=Hx.out;rw[mY];exact this);generalize kI qs=ts at *;clear a2;go_enter Tryz.func99,Tryz.ntmps99;go_wp2_with fail;(with_reducible refine zp (y:= #[.bool d.neg,.string d.digits,.int .i64 d.exp]) (by kernel_rfl) (H.out.mono ?_));rintro e w1 ⟨rfl,a0⟩;have a1:=Qa (Hb.out.trans (a0.mono Hb.out.size));have a3:=Qa (Ho.out.below a0 (Zb _));clear a0;go_wp2_with (at_builtin;refine bX rfl (.tmp 26) (.tmp 28) rfl W.heap.size (.slice A xs.length q) xs ts (by simp[Act.eval]) a3.out (by simp[Act.eval]) Hz.out a1.out.size ?_;intro v' w3 h1 h2;have HK:=Qa h1;have a5:=Qa h2;clear h1 h2);rw[Hq.out] at HK;obtain⟨A3,q3,rfl,-⟩:=ag HK.out;go_ret;exact⟨_,rfl,HK.out,a1.out.grown a5.out a1.out.size (fun g e=>(aq.blk a3.out e).1)⟩
theorem d7.bd (h:d7 P w A us ks):us.length<=maxLen:=by
 rcases h with ⟨-,rfl,rfl⟩|⟨g,R,c,e,hg,hr,hl⟩
 ·exact Zj _
 ·exact Zc hr.2.1 hr.2.2.1
theorem eJ.bd (h:eJ P w A us ns ks):us.length<=maxLen:=by
 obtain⟨g,R,c,e,hg,hr,hl⟩:=h;exact Zc hr.2.1 hr.2.2.1
theorem JB.kids {k:Int}{t:Bool}{x:ByteArray}(h:JB (.mk k t x d ns ks)):x.size<=9223372036854775807/\Kb d/\(∀n∈ns,n.size<=9223372036854775807)/\∀u∈ks,JB u:=by
 cases h with
 |mk _ _ _ _ _ _ h1 h2 h3 h4=>exact⟨h1,h2,h3,h4⟩
theorem pI (x:Value)(W:World):(Instr.typeAssert (.iface 104 x) 80 220 true).run Tryz.prog W =.ok (.tuple #[.nilIface,.bool false]) W:=run_typeAssert_lacksB Tryz.underlying220 (by kernel_rfl) (by kernel_rfl) x _ W
theorem pU (x:Value)(W:World):(Instr.typeAssert (.iface 104 x) 80 104 true).run Tryz.prog W =.ok (.tuple #[x,.bool true]) W:=by kernel_rfl
def dt (o:Bool)(full:List UInt8)(tail:UInt8)(ns:List ByteArray)(ks:List JV)(i:Nat)(ys:List UInt8):Prop:=ys++ (JV.txts o (decide (i=0)) (ns.drop i) (ks.drop i) ++ [tail])=full
theorem dt.next {full:List UInt8}{tail:UInt8}{k:JV}(h:dt false full tail [] ks i ys)(hk:ks[i]?=some k):dt false full tail [] ks (i+1) (ys++ ((if i=0 then [] else [44])++JV.txt k)):=by
 unfold dt at h ⊢;obtain⟨h1,h2⟩:=List.getElem?_eq_some_iff.1 hk;rw[List.drop_eq_getElem_cons h1,h2] at h;rw[<-h]
 conv=>rhs;unfold JV.txts
 by_cases e:i=0 <;> simp[e]
theorem dt.stop {o:Bool}{full:List UInt8}{tail:UInt8}(h:dt o full tail ns ks ks.length ys):ys ++ [tail]=full:=by
 unfold dt at h;rw[List.drop_length] at h;unfold JV.txts at h;exact h
theorem dt.le {o:Bool}{full:List UInt8}{tail:UInt8}(h:dt o full tail ns ks i ys):ys.length+1<=full.length:=by
 unfold dt at h;rw[<-h];simp
def xl (W:World)(o:Bool)(full:List UInt8)(tail:UInt8)(ns:List ByteArray)(ks:List JV)(s0 s38:Value)(wr:World):Prop:= ∃ (i:Nat) (ys:List UInt8),s38 =.int .i64 i/\i<=ks.length/\aq wr W.heap.size s0 ys/\Below W.heap.size W wr/\dt o full tail ns ks i ys
theorem aq.lit (c:UInt8)(h:aq w W.heap.size u xs)(hb:Below W.heap.size W w):aq (w.alloc (.cells #[.int .u8 c.toNat] 5)) W.heap.size u xs/\Bs (w.alloc (.cells #[.int .u8 c.toNat] 5)) (.slice (some ⟨w.heap.size,0,none⟩) 1 1) [c]/\Below W.heap.size W (w.alloc (.cells #[.int .u8 c.toNat] 5)):=
 ⟨h.below (aa w _) (Zb _),kf w [c] (by simp),hb.trans ((aa w _).mono hb.size)⟩
theorem oR (h:d7 P W A us ks)(hT:ek W)(hb:Below W.heap.size W w)(ho:aq w W.heap.size u xs)(hx:xs.length+ (91:: (JV.txts false true [] ks ++ [93])).length<=140737488355328)
  (H:∀ (i:Nat) v k,us[i]?=some v->ks[i]?=some k->∀w1 u1 xs1,Below W.heap.size W w1->aq w1 W.heap.size u1 xs1->xs1.length+ (JV.txt k).length<=140737488355328->Calls Tryz.prog 99 #[u1,v] w1 (jY W (xs1++JV.txt k))) :
  Calls Tryz.prog 99 #[u,.iface 104 (.pointer A)] w fun e w'=>jY W (xs++ (91:: (JV.txts false true [] ks ++ [93]))) e w':=by
 have k1:=qo;have k2:=pI;have k3:=pU;have hl:=h.len;have e1:=h.bd;unfold maxLen at e1;obtain⟨q1,q2,q3⟩:=ho.lit 91 hb;have c1:=Qa q1;have d0:=Qa q2;have b4:=Qa q3;have HH:=Qa H;have Hh:=Qa h;have HT:=Qa hT;obtain⟨A0,q0,rfl,-⟩:=ag ho;have Hx:=Qa hx;have d4:=Qa (show xs.length+ ([91]:List UInt8).length<=140737488355328 by simp at hx ⊢;omega);obtain⟨full,a0⟩:∃full,xs++ (91:: (JV.txts false true [] ks ++ [93]))=full:=⟨_,rfl⟩;have Hf:Hid (dt false full 93 [] ks 0 (xs ++ [91])):=Qa (by unfold dt;rw[<-a0];simp);have d3:=Qa (show full.length<=140737488355328 by rw[<-a0,List.length_append];exact hx);rw[a0];have b2:=Qa hl;have e2:=Qa (fun w1 (hw:Below W.heap.size W w1)=>im (h.below hw));clear q1 q2 q3 ho hb h hT H hx a0 hl;generalize hn:us.length=n at *;have Hn:=Qa hn;clear hn;go_enter Tryz.func99,Tryz.ntmps99;go_wp2_with (at_builtin;refine tF c1.out d0.out d4.out b4.out.size ?_;intro v' w3 h1 h2 h3;have HK:=Qa h1;have a4:=Qa h2;clear h1 h2 h3);generalize hz:xs ++ [91]=zs at *;clear hz;have Hb3:=Qa (b4.out.grown a4.out b4.out.size (fun g e=>(aq.blk c1.out e).1));have Ho3:=Qa HK.out;obtain⟨A3,q3,rfl,-⟩:=ag HK.out;have c9:=Qa (e2.out w3 Hb3.out);clear HK a4 c1 d0 b4 Hx d4;go_wp2_with fail;refine Za c9 ?_;rintro e w4 ⟨rfl,rfl⟩;go_wp2_with fail;clear c9
 go_loopw [0,38] (fun s0 s38 wr=>xl W false full 93 [] ks s0 s38 wr) (fun _ s38 _=>n - (intOf s38).toNat)
 case atStart=>exact⟨0,_,rfl,Zj _,Ho3.out,Hb3.out,Hf.out⟩
 case round=>
  clear Hf Ho3 Hb3;obtain⟨i,ys,rfl,hi,ho,hb,hf⟩:=hrel;have Ho:=Qa ho;have Hb:=Qa hb;have Hf:=Qa hf;have Hi:=Qa hi;obtain⟨A4,q4,rfl,-⟩:=ag ho;have c8:ys.length+1<=140737488355328:=by have:=hf.le;have:=d3.out;omega
  have d1:=Qa c8;clear ho hb hf hi c8
  by_cases hin:i<n
  ·have d6:i<us.length:=by have:=Hn.out;omega
   have c0:i<ks.length:=by have:=b2.out;omega
   obtain⟨v,hv⟩:∃u,us[i]?=some u:=⟨_,Zd d6⟩;obtain⟨k,hk⟩:∃u,ks[i]?=some u:=⟨_,Zd c0⟩;have c3:=Hf.out.next hk;have b5:=Qa c3;have hle:=c3.le;have Hp:=Qa (fun w5 (hw:Below W.heap.size W w5)=>fM (Hh.out.below hw) (HT.out.below hw) i hv);have Hc:=Qa (HH.out i v k hv hk);have hkl:(ys++if i=0 then [] else [44]).length+ (JV.txt k).length<=140737488355328:=by
    have h1:=d3.out;rw[List.length_append,List.length_append] at hle;rw[List.length_append];omega
   have b3:=Qa hkl;have d5:=Qa c0;have h':(i:Int)<n:=by omega
   have w1:IntKind.i64.wrap ((i:Int)+1)= (i:Int)+1:=IntWalk.i64_in _ (by omega);clear c3 hle hkl d6 c0 hv hk Hf
   by_cases hi0:i=0
   ·subst hi0;rw[if_pos rfl,List.append_nil] at b3;rw[if_pos rfl,List.nil_append] at b5;go_wp2_with fail;have c7:=Qa (show Calls Tryz.prog 126 #[.pointer A,.int .i64 0] wr (fun e w'=>e =.returned (.tuple #[.string ⟨(Lib.itoa (0:Nat)).toArray⟩,v])/\Below wr.heap.size wr w') from Hp.out wr Hb.out);refine Za c7 ?_;rintro e w6 ⟨rfl,a3⟩;have c6:=Qa (Hb.out.trans (a3.mono Hb.out.size));have c4:=Qa (Hc.out w6 _ _ c6.out (Ho.out.below a3 (Zb _)) b3.out);clear a3;go_wp2_with fail;refine Za c4 ?_;rintro e w7 ⟨v7,rfl,a2,b0⟩;have b9:=Qa a2;have c5:=Qa b0;generalize hr:ys++JV.txt k=rs at *;clear hr;obtain⟨A7,q7,rfl,-⟩:=ag a2;clear a2 b0;go_wp2_with fail;refine⟨⟨1,_,rfl,d5.out,b9.out,c5.out,b5.out⟩,?_⟩
    show n - ((0:Int)+1).toNat<n - ((0:Int)).toNat
    omega
   ·have e0:(0:Int)<i:=by omega
    rw[if_neg hi0] at b3 b5;clear hi0;obtain⟨r1,r2,r3⟩:=Ho.out.lit 44 Hb.out;have a9:=Qa r1;have b8:=Qa r2;have a1:=Qa r3;have a5:=Qa (show ys.length+ ([44]:List UInt8).length<=140737488355328 from d1.out);clear r1 r2 r3;go_wp2_with (at_builtin;refine tF a9.out b8.out a5.out a1.out.size ?_;intro v' w5 h1 h2 h3;have HK:=Qa h1;have a4:=Qa h2;clear h1 h2 h3);generalize hz:ys ++ [44]=zs at *;have Hz:=Qa hz;clear hz;have b1:=Qa (a1.out.grown a4.out a1.out.size (fun g e=>(aq.blk a9.out e).1));have d9:=Qa HK.out;obtain⟨A5,q5,rfl,-⟩:=ag HK.out;have c7:=Qa (Hp.out w5 b1.out);clear HK a4;go_wp2_with fail;refine Za c7 ?_;rintro e w6 ⟨rfl,a3⟩;have c6:=Qa (b1.out.trans (a3.mono b1.out.size));have c4:=Qa (Hc.out w6 _ _ c6.out (d9.out.below a3 (Zb _)) b3.out);clear a3;go_wp2_with fail;refine Za c4 ?_;rintro e w7 ⟨v7,rfl,a2,b0⟩;have b9:=Qa a2;have c5:=Qa b0;generalize hr:zs++JV.txt k=rs at *;have Hr:=Qa hr;clear hr;obtain⟨A7,q7,rfl,-⟩:=ag a2;clear a2 b0;go_wp2_with fail;refine⟨⟨i+1,_,rfl,d5.out,b9.out,c5.out,by rw[<-Hr.out,<-Hz.out,List.append_assoc];exact b5.out⟩,?_⟩
    show n - ((i:Int)+1).toNat<n - ((i:Int)).toNat
    omega
  ·have h':¬ (i:Int)<n:=by omega
   have d2:i=ks.length:=by have:=Hi.out;have:=b2.out;omega
   have c2:=Qa (show ys ++ [93]=full by have:=Hf.out;rw[d2] at this;exact this.stop);clear d2 Hf;obtain⟨r1,r2,r3⟩:=Ho.out.lit 93 Hb.out;have a9:=Qa r1;have b8:=Qa r2;have a1:=Qa r3;have a5:=Qa (show ys.length+ ([93]:List UInt8).length<=140737488355328 from d1.out);clear r1 r2 r3;go_wp2_with (at_builtin;refine tF a9.out b8.out a5.out a1.out.size ?_;intro v' w5 h1 h2 h3;have HK:=Qa h1;have a4:=Qa h2;clear h1 h2 h3);have b1:=Qa (a1.out.grown a4.out a1.out.size (fun g e=>(aq.blk a9.out e).1));rw[c2.out] at HK;obtain⟨A5,q5,rfl,-⟩:=ag HK.out;go_ret;exact⟨_,rfl,HK.out,b1.out⟩
