import Derived.Test.YtehpfidnpfcniaaGreatDoorGZ14aq
import Derived.Stop.Asserts
import Derived.Lib.ItoaLen
import Derived.Test.YtehpfidnpfcniaaGreatDoorGZ14af
set_option linter.unusedVariables false
set_option linter.unusedSimpArgs false
set_option maxHeartbeats 64000000
set_option maxRecDepth 100000
namespace Go.Proofs.YtehpfidnpfcniaaGreatDoor
open Go.RowKit Go.Shelf
variable {aE aU:Addr}{d:Dc}{ns:List ByteArray}{ks:List JV}{xs ys:List UInt8}{us:List Value}{i:Nat}{P:Nat->Prop}{A:Option Addr}{u v:Value}{W w w':World}
def dF (P:Nat->Prop)(w:World)(A:Option Addr)(us:List Value)(ks:List JV):Prop:=
 (A=none/\us = []/\ks = [])\/∃g R c,A=some ⟨g,0,none⟩/\w.heap[g]?=some (.cells #[.slice R us.length c] 273 (0,0))/\bG P w 85 1 R us.length c us/\us.length=ks.length
def rS (P:Nat->Prop)(w:World)(us:List Value)(ks:List JV):Prop:= ∀ (i:Nat) u k,us[i]?=some u->ks[i]?=some k->VW P w u k
theorem dF.len (h:dF P w A us ks):us.length=ks.length:=by
 rcases h with ⟨-,rfl,rfl⟩|⟨_,_,_,_,_,_,h⟩
 ·rfl
 ·exact h
theorem dF.below (h:dF P w A us ks)(hb:Below w.heap.size w w'):dF P w' A us ks:=by
 rcases h with h|⟨g,R,c,e,hg,hr,hl⟩
 ·exact .inl h
 ·exact .inr ⟨g,R,c,e,ai hg hb,hr.stay fun g o hp hg _ _=>⟨hp,(hb.block g (ah hg)).trans hg⟩,hl⟩
theorem rS.below (h:rS P w us ks)(hb:Below w.heap.size w w'):rS P w' us ks:=fun i u k h1 h2=>(h i u k h1 h2).later hb
theorem VW.asList {t:Bool}{x:ByteArray}(h:VW P w v (.mk 5 t x d ns ks)):∃A us,v =.iface 112 (.pointer A)/\dF P w A us ks/\rS P w us ks:=by
 cases h with
 |bare=>exact⟨none, [],rfl,.inl ⟨rfl,rfl,rfl⟩,fun i u k h _=>by simp at h⟩
 |list g A c us ks hp hg hr hl hk=>exact⟨_,us,rfl,.inr ⟨g,A,c,rfl,hg,hr,hl⟩,hk⟩
def eG (P:Nat->Prop)(w:World)(A:Option Addr)(us:List Value)(ns:List ByteArray)(ks:List JV):Prop:=
 ∃g R c,A=some ⟨g,0,none⟩/\w.heap[g]?=some (.cells #[.slice R us.length c] 168 (0,0))/\bG P w 87 2 R us.length c (tY ns us)/\us.length=ks.length/\ns.length=ks.length
theorem eG.below (h:eG P w A us ns ks)(hb:Below w.heap.size w w'):eG P w' A us ns ks:=by
 obtain⟨g,R,c,e,hg,hr,hl⟩:=h;exact⟨g,R,c,e,ai hg hb,hr.stay fun g o hp hg _ _=>⟨hp,(hb.block g (ah hg)).trans hg⟩,hl⟩
theorem VW.asObj {t:Bool}{x:ByteArray}(h:VW P w v (.mk 6 t x d ns ks)):∃A us,v =.iface 103 (.pointer A)/\eG P w A us ns ks/\rS P w us ks:=by
 cases h with
 |obj g A c us ns ks hp hg hr hl hn hk=>exact⟨_,us,rfl,⟨g,A,c,rfl,hg,hr,hl,hn⟩,hk⟩
theorem jj (h:dF P w A us ks):Calls Tryz.prog 129 #[.pointer A] w fun e w'=>e =.returned (.int .i64 us.length)/\w=w':=by
 rcases h with ⟨rfl,rfl,rfl⟩|⟨g,R,c,rfl,hg,hr,hl⟩
 ·exact qu w
 ·exact j3 hg
theorem il (h:dF P w A us ks)(hT:dI w)(i:Nat)(hu:us[i]?=some u):Calls Tryz.prog 130 #[.pointer A,.int .i64 i] w fun e w'=>e =.returned (.tuple #[.string ⟨(Lib.itoa i).toArray⟩,u])/\Below w.heap.size w w':=by
 have hi:=(List.getElem?_eq_some_iff.1 hu).1;rcases h with ⟨rfl,rfl,rfl⟩|⟨g,R,c,rfl,hg,hr,hl⟩
 ·simp at hi
 ·exact nP hT hg hr i hi hu
theorem iE (h:eG P w A us ns ks):Calls Tryz.prog 54 #[.pointer A] w fun e w'=>e =.returned (.int .i64 us.length)/\w=w':=by
 obtain⟨g,R,c,rfl,hg,hr,hl⟩:=h;exact kT hg
theorem nI (h:eG P w A us ns ks)(i:Nat){n:ByteArray}(hu:us[i]?=some u)(hn:ns[i]?=some n):Calls Tryz.prog 131 #[.pointer A,.int .i64 i] w fun e w'=>e =.returned (.tuple #[.string n,u])/\Below w.heap.size w w':=by
 have hi:=(List.getElem?_eq_some_iff.1 hu).1;obtain⟨g,R,c,rfl,hg,hr,hl⟩:=h;have hm:=kD ns us i n u hn hu;exact qI hg hr i hi hm.1 hm.2
inductive JB:JV->Prop
 |mk (k:Int) (t:Bool) (x:ByteArray) (d:Dc) (ns:List ByteArray) (ks:List JV):x.size<=9223372036854775807->GH d->(∀n∈ns,n.size<=9223372036854775807)->(∀u∈ks,JB u)->JB (.mk k t x d ns ks)
theorem eG.len (h:eG P w A us ns ks):us.length=ks.length:=by
 obtain⟨_,_,_,_,_,_,h,_⟩:=h;exact h
theorem eG.names (h:eG P w A us ns ks):ns.length=ks.length:=by
 obtain⟨_,_,_,_,_,_,_,h⟩:=h;exact h
theorem om (x:Value)(W:World):(Instr.typeAssert (.iface 344 x) 85 83 true).run Tryz.prog W =.ok (.tuple #[.string ⟨#[]⟩,.bool false]) W:=by kernel_rfl
theorem rl (x:Value)(W:World):(Instr.typeAssert (.iface 344 x) 85 175 true).run Tryz.prog W =.ok (.tuple #[.nilIface,.bool false]) W:=run_typeAssert_lacksB Tryz.underlying175 (by kernel_rfl) (by kernel_rfl) x _ W
theorem oe (x:Value)(W:World):(Instr.typeAssert (.iface 342 x) 85 83 true).run Tryz.prog W =.ok (.tuple #[.string ⟨#[]⟩,.bool false]) W:=by kernel_rfl
theorem pQ (x:Value)(W:World):(Instr.typeAssert (.iface 342 x) 85 175 true).run Tryz.prog W =.ok (.tuple #[.nilIface,.bool false]) W:=run_typeAssert_lacksB Tryz.underlying175 (by kernel_rfl) (by kernel_rfl) x _ W
theorem rK (x:Value)(W:World):(Instr.typeAssert (.iface 322 x) 85 83 true).run Tryz.prog W =.ok (.tuple #[.string ⟨#[]⟩,.bool false]) W:=by kernel_rfl
theorem tf (x:Value)(W:World):(Instr.typeAssert (.iface 322 x) 85 175 true).run Tryz.prog W =.ok (.tuple #[.nilIface,.bool false]) W:=run_typeAssert_lacksB Tryz.underlying175 (by kernel_rfl) (by kernel_rfl) x _ W
theorem CN (x:Value)(W:World):(Instr.typeAssert (.iface 83 x) 85 83 true).run Tryz.prog W =.ok (.tuple #[x,.bool true]) W:=by kernel_rfl
theorem qW (x:Value)(W:World):(Instr.typeAssert (.iface 83 x) 85 175 true).run Tryz.prog W =.ok (.tuple #[.nilIface,.bool false]) W:=run_typeAssert_lacksB Tryz.underlying175 (by kernel_rfl) (by kernel_rfl) x _ W
theorem nN (x:Value)(W:World):(Instr.typeAssert (.iface 112 x) 85 83 true).run Tryz.prog W =.ok (.tuple #[.string ⟨#[]⟩,.bool false]) W:=by kernel_rfl
theorem pT (x:Value)(W:World):(Instr.typeAssert (.iface 112 x) 85 175 true).run Tryz.prog W =.ok (.tuple #[.iface 112 x,.bool true]) W:=run_typeAssert_hasB Tryz.underlying175 (by kernel_rfl) x _ W
theorem p5 (x:Value)(W:World):(Instr.typeAssert (.iface 103 x) 85 83 true).run Tryz.prog W =.ok (.tuple #[.string ⟨#[]⟩,.bool false]) W:=by kernel_rfl
theorem uo (x:Value)(W:World):(Instr.typeAssert (.iface 103 x) 85 175 true).run Tryz.prog W =.ok (.tuple #[.iface 103 x,.bool true]) W:=run_typeAssert_hasB Tryz.underlying175 (by kernel_rfl) x _ W
def jJ (l:List UInt8):ByteArray:=⟨l.toArray⟩
theorem mu:Calls Tryz.prog 326 #[.agg #[]] w fun e w'=>e =.returned (.string (jJ [110,117,108,108]))/\Below w.heap.size w w':=by
 go_enter Tryz.func326,Tryz.ntmps326;go_wp2_with fail;go_ret;exact⟨rfl,ac w _⟩
theorem wG (b:Bool):Calls Tryz.prog 325 #[.bool b] w fun e w'=>e =.returned (.string (jJ (if b then [116,114,117,101] else [102,97,108,115,101])))/\w=w':=by
 cases b
 all_goals
  go_enter Tryz.func325,Tryz.ntmps325;go_wp2_with fail;go_ret;exact⟨rfl,rfl⟩
theorem BN (b:Bool):Calls Tryz.prog 324 #[.bool b] w fun e w'=>e =.returned (.string (jJ (if b then [116,114,117,101] else [102,97,108,115,101])))/\w=w':=by
 have H:=H8 (wG (w:=w) b);generalize jJ (if b then [116,114,117,101] else [102,97,108,115,101])=s at *;go_enter Tryz.func324,Tryz.ntmps324;go_wp2_with fail;refine Za H ?_;rintro e w1 ⟨rfl,rfl⟩;go_wp2_with fail;go_ret;exact⟨rfl,rfl⟩
theorem mw (b:Bool):Calls Tryz.prog 322 #[.bool b] w fun e w'=>e =.returned (.string (jJ (if b then [116,114,117,101] else [102,97,108,115,101])))/\Below w.heap.size w w':=by
 have H:=H8 (BN (w:=w) b);generalize jJ (if b then [116,114,117,101] else [102,97,108,115,101])=s at *;go_enter Tryz.func322,Tryz.ntmps322;go_wp2_with fail;refine Za H ?_;rintro e w1 ⟨rfl,rfl⟩;go_wp2_with fail;go_ret;exact⟨rfl,Ze _ _⟩
theorem wU (n:Int)(h0: -1000000000<=n)(h1:n<=1000000000)(hT:dI w):Calls Tryz.prog 164 #[.int .i64 n] w fun e w'=>e =.returned (.string ⟨(Lib.itoa n).toArray⟩)/\Below w.heap.size w w':=by
 refine(Any.strconv_Itoa ru n (by omega) (by omega) w hT).mono ?_;rintro e w' ⟨rfl,k,os,rfl⟩;exact⟨rfl,Lib.below_grow _ w (Zb _) k os⟩
theorem o6 (hT:dI w)(hs:d.digits.size<=1000000000000)(h0: -1000000000<=d.exp)(h1:d.exp<=1000000000):Calls Tryz.prog 316 #[.agg #[.bool d.neg,.string d.digits,.int .i64 d.exp]] w fun e w'=>e =.returned (.string (jJ (dN d)))/\Below w.heap.size w w':=by
 obtain⟨ng,dg,x⟩:=d
 dsimp only at hs h0 h1 ⊢
 have hb:=ac w (.cells #[.bool ng,.string dg,.int .i64 x] 320);have Ha:=H8 hb;have hz:(⟨(Lib.itoa x).toArray⟩:ByteArray).size<=21:=by
  show(Lib.itoa x).toArray.size<=21
  rw[List.size_toArray];exact Lib.itoa_length_le x (by omega) (by omega)
 have HI:=H8 (wU x h0 h1 (hT.below hb));have a2:(⟨#[101]⟩++ (⟨(Lib.itoa x).toArray⟩:ByteArray):ByteArray).size<=22:=by
  rw[ByteArray.size_append];have:(⟨#[101]⟩:ByteArray).size=1:=rfl;omega
 have a3:(⟨#[45]⟩++dg:ByteArray).size<=1000000000001:=by
  rw[ByteArray.size_append];have:(⟨#[45]⟩:ByteArray).size=1:=rfl;omega
 have e0:(⟨#[45]⟩:ByteArray).size=1:=rfl;have e1:(⟨#[101]⟩:ByteArray).size=1:=rfl;clear hb hT h0 h1
 cases ng <;> by_cases he:x=0
 ·subst he;have hc:=H8 (show dg=jJ (dN ⟨false,dg,0⟩) by cases dg with|mk a=>cases a with|mk l=>simp[dN,fu,jJ]);clear hz a2 HI;go_enter Tryz.func316,Tryz.ntmps316;go_wp2_with fail;go_ret;rw[<-hc.out];exact⟨rfl,Ha.out⟩
 ·have hc:=H8 (show dg++ (⟨#[101]⟩++ ⟨(Lib.itoa x).toArray⟩:ByteArray)=jJ (dN ⟨false,dg,x⟩) by cases dg with|mk a=>cases a with|mk l=>simp only[dN,fu,jJ,if_neg he];rfl);have hxb:(x==0)=false:=by simpa using he
  clear he;generalize (⟨(Lib.itoa x).toArray⟩:ByteArray)=z at *;go_enter Tryz.func316,Tryz.ntmps316;go_wp2_with fail;refine Za HI ?_;rintro e w1 ⟨rfl,a0⟩;have a1:=H8 (Ha.out.trans (a0.mono Ha.out.size));clear a0;go_wp2_with fail;go_ret;rw[<-hc.out];exact⟨rfl,a1.out⟩
 ·subst he;have hc:=H8 (show(⟨#[45]⟩++dg:ByteArray)=jJ (dN ⟨true,dg,0⟩) by cases dg with|mk a=>cases a with|mk l=>simp only[dN,fu,jJ,if_true,List.append_nil];rfl);clear hz a2 HI;go_enter Tryz.func316,Tryz.ntmps316;go_wp2_with fail;go_ret;rw[<-hc.out];exact⟨rfl,Ha.out⟩
 ·have hc:=H8 (show(⟨#[45]⟩++dg)++ (⟨#[101]⟩++ ⟨(Lib.itoa x).toArray⟩:ByteArray)=jJ (dN ⟨true,dg,x⟩) by cases dg with|mk a=>cases a with|mk l=>simp only[dN,fu,jJ,if_neg he,if_true];rfl);have hxb:(x==0)=false:=by simpa using he
  clear he;generalize (⟨(Lib.itoa x).toArray⟩:ByteArray)=z at *;go_enter Tryz.func316,Tryz.ntmps316;go_wp2_with fail;refine Za HI ?_;rintro e w1 ⟨rfl,a0⟩;have a1:=H8 (Ha.out.trans (a0.mono Ha.out.size));clear a0;go_wp2_with fail;go_ret;rw[<-hc.out];exact⟨rfl,a1.out⟩
theorem kO {s:ByteArray}(hs:bf s)(hG:cd w aU aE)(hl:s.size<=1000000000):Calls Tryz.prog 128 #[.string s] w fun e w'=> ∃v,e =.returned v/\ao w' w.heap.size v (cY s)/\Below w.heap.size w w':=by
 have H:=H8 (m8 hs hG hl);clear hs hG hl;go_enter Tryz.func128,Tryz.ntmps128;go_wp2_with fail;refine Za H ?_;rintro e w1 ⟨v,rfl,ho,hb⟩;have Hb:=H8 hb;have Ho:=H8 ho;obtain⟨A,q,rfl,-⟩:=af ho;clear hb ho;go_wp2_with fail;go_ret;exact⟨_,rfl,Ho.out,Hb.out⟩
def iN (W:World)(l:List UInt8)(e:Ending)(w':World):Prop:= ∃v,e =.returned v/\ao w' W.heap.size v l/\Below W.heap.size W w'
theorem yq {s:ByteArray}(hs:bf s)(hG:cd W aU aE)(hl:s.size<=1000000000)(hb:Below W.heap.size W w)(ho:ao w W.heap.size u xs)(hx:xs.length+ (cY s).length<=140737488355328):Calls Tryz.prog 102 #[u,.iface 83 (.string s)] w (iN W (xs++cY s)):=by
 have k1:=CN;have H:=H8 (kO (w:=w) hs (hG.below hb) hl);have Hb:=H8 hb;have Ho:=H8 ho;have Hx:=H8 hx;obtain⟨A,q,rfl,-⟩:=af ho;clear hs hG hb ho hx;generalize cY s=qs at *;go_enter Tryz.func102,Tryz.ntmps102;go_wp2_with fail;refine Za H ?_;rintro e w1 ⟨v,rfl,a0,a2⟩;have a1:=H8 (Hb.out.trans (a2.mono Hb.out.size));have a3:=H8 (Ho.out.below a2 (Zb _));have a5:=H8 (ao.bs a0);obtain⟨A2,q2,rfl,-⟩:=af a0;clear a0 a2;go_wp2_with (at_builtin;refine p9 a3.out a5.out Hx.out a1.out.size ?_;intro v' w3 h1 h2 h3;have HK:=H8 h1;have a4:=H8 h2;clear h1 h2 h3);obtain⟨A3,q3,rfl,-⟩:=af HK.out;go_ret;exact⟨_,rfl,HK.out,a1.out.grown a4.out a1.out.size (fun g e=>(ao.blk a3.out e).1)⟩
def pA:List UInt8:= [110,117,108,108]
def qt (b:Bool):List UInt8:=if b then [116,114,117,101] else [102,97,108,115,101]
theorem kZ (l:List UInt8):(jJ l).size=l.length:=by show l.toArray.size=_;simp
theorem xC {P:Program}{f:FuncId}{x y:Array Value}{K:Ending->World->Prop}(h:x=y)(hc:Calls P f #[.agg y] w K):Calls P f #[.agg x] w K:=h▸hc
theorem BX (x:Value)(W:World):(Instr.typeAssert (.iface 344 x) 85 227 true).run Tryz.prog W =.ok (.tuple #[.iface 344 x,.bool true]) W:=run_typeAssert_hasB Tryz.underlying227 (by kernel_rfl) x _ W
theorem wv (hb:Below W.heap.size W w)(ho:ao w W.heap.size u xs)(hx:xs.length+pA.length<=140737488355328):Calls Tryz.prog 102 #[u,.iface 344 (.agg #[])] w (iN W (xs++pA)):=by
 have k1:=om;have k2:=BX;have H:=H8 (show Calls Tryz.prog 326 #[.agg #[]] w fun e w'=>e =.returned (.string (jJ pA))/\Below w.heap.size w w' from mu);have Hb:=H8 hb;have Ho:=H8 ho;have Hx:=H8 hx;obtain⟨A,q,rfl,-⟩:=af ho;clear hb ho hx;generalize pA=qs at *;have a3:(jJ qs).data.toList=qs:=rfl;have Hq:=H8 a3;have Hz:=H8 (show xs.length+ (jJ qs).size<=140737488355328 by have:=Hx.out;rw[kZ];exact this);generalize jJ qs=ts at *;clear a3;go_enter Tryz.func102,Tryz.ntmps102;go_wp2_with fail;refine Za H ?_;rintro e w1 ⟨rfl,a1⟩;have a0:=H8 (Hb.out.trans (a1.mono Hb.out.size));have a2:=H8 (Ho.out.below a1 (Zb _));clear a1;go_wp2_with (at_builtin;refine bM rfl (.tmp 26) (.tmp 28) rfl W.heap.size (.slice A xs.length q) xs ts (by simp[Act.eval]) a2.out (by simp[Act.eval]) Hz.out a0.out.size ?_;intro v' w3 h1 h2;have HK:=H8 h1;have a4:=H8 h2;clear h1 h2);rw[Hq.out] at HK;obtain⟨A3,q3,rfl,-⟩:=af HK.out;go_ret;exact⟨_,rfl,HK.out,a0.out.grown a4.out a0.out.size (fun g e=>(ao.blk a2.out e).1)⟩
theorem Dm (x:Value)(W:World):(Instr.typeAssert (.iface 342 x) 85 227 true).run Tryz.prog W =.ok (.tuple #[.iface 342 x,.bool true]) W:=run_typeAssert_hasB Tryz.underlying227 (by kernel_rfl) x _ W
theorem xP {b:Bool}(hb:Below W.heap.size W w)(ho:ao w W.heap.size u xs)(hx:xs.length+ (qt b).length<=140737488355328):Calls Tryz.prog 102 #[u,.iface 342 (.bool b)] w fun e w'=>iN W (xs++ (qt b)) e w':=by
 have k1:=oe;have k2:=Dm;have H:=H8 (show Calls Tryz.prog 322 #[.bool b] w fun e w'=>e =.returned (.string (jJ (qt b)))/\Below w.heap.size w w' from mw b);have Hb:=H8 hb;have Ho:=H8 ho;have Hx:=H8 hx;obtain⟨A,q,rfl,-⟩:=af ho;clear hb ho hx;generalize (qt b)=qs at *;have a3:(jJ qs).data.toList=qs:=rfl;have Hq:=H8 a3;have Hz:=H8 (show xs.length+ (jJ qs).size<=140737488355328 by have:=Hx.out;rw[kZ];exact this);generalize jJ qs=ts at *;clear a3;go_enter Tryz.func102,Tryz.ntmps102;go_wp2_with fail;refine Za H ?_;rintro e w1 ⟨rfl,a1⟩;have a0:=H8 (Hb.out.trans (a1.mono Hb.out.size));have a2:=H8 (Ho.out.below a1 (Zb _));clear a1;go_wp2_with (at_builtin;refine bM rfl (.tmp 26) (.tmp 28) rfl W.heap.size (.slice A xs.length q) xs ts (by simp[Act.eval]) a2.out (by simp[Act.eval]) Hz.out a0.out.size ?_;intro v' w3 h1 h2;have HK:=H8 h1;have a4:=H8 h2;clear h1 h2);rw[Hq.out] at HK;obtain⟨A3,q3,rfl,-⟩:=af HK.out;go_ret;exact⟨_,rfl,HK.out,a0.out.grown a4.out a0.out.size (fun g e=>(ao.blk a2.out e).1)⟩
theorem EX (x:Value)(W:World):(Instr.typeAssert (.iface 322 x) 85 227 true).run Tryz.prog W =.ok (.tuple #[.iface 322 x,.bool true]) W:=run_typeAssert_hasB Tryz.underlying227 (by kernel_rfl) x _ W
theorem AU (hT:dI W)(a2:d.digits.size<=1000000000000)(h0: -1000000000<=d.exp)(h1:d.exp<=1000000000)(hb:Below W.heap.size W w)(ho:ao w W.heap.size u xs)(hx:xs.length+ (dN d).length<=140737488355328):Calls Tryz.prog 102 #[u,.iface 322 (.agg #[.bool d.neg,.string d.digits,.int .i64 d.exp])] w fun e w'=>iN W (xs++ (dN d)) e w':=by
 have k1:=rK;have k2:=EX;have H:=H8 (o6 (w:=w) (hT.below hb) a2 h0 h1);have Hb:=H8 hb;have Ho:=H8 ho;have Hx:=H8 hx;obtain⟨A,q,rfl,-⟩:=af ho;clear hb ho hx hT a2 h0 h1;generalize (dN d)=qs at *;have a4:(jJ qs).data.toList=qs:=rfl;have Hq:=H8 a4;have Hz:=H8 (show xs.length+ (jJ qs).size<=140737488355328 by have:=Hx.out;rw[kZ];exact this);generalize jJ qs=ts at *;clear a4;go_enter Tryz.func102,Tryz.ntmps102;go_wp2_with fail;(with_reducible refine xC (y:= #[.bool d.neg,.string d.digits,.int .i64 d.exp]) (by kernel_rfl) (H.out.mono ?_));rintro e w1 ⟨rfl,a1⟩;have a0:=H8 (Hb.out.trans (a1.mono Hb.out.size));have a3:=H8 (Ho.out.below a1 (Zb _));clear a1;go_wp2_with (at_builtin;refine bM rfl (.tmp 26) (.tmp 28) rfl W.heap.size (.slice A xs.length q) xs ts (by simp[Act.eval]) a3.out (by simp[Act.eval]) Hz.out a0.out.size ?_;intro v' w3 h1 h2;have HK:=H8 h1;have a5:=H8 h2;clear h1 h2);rw[Hq.out] at HK;obtain⟨A3,q3,rfl,-⟩:=af HK.out;go_ret;exact⟨_,rfl,HK.out,a0.out.grown a5.out a0.out.size (fun g e=>(ao.blk a3.out e).1)⟩
theorem dF.bd (h:dF P w A us ks):us.length<=maxLen:=by
 rcases h with ⟨-,rfl,rfl⟩|⟨g,R,c,e,hg,hr,hl⟩
 ·exact Zj _
 ·exact Zc hr.2.1 hr.2.2.1
theorem eG.bd (h:eG P w A us ns ks):us.length<=maxLen:=by
 obtain⟨g,R,c,e,hg,hr,hl⟩:=h;exact Zc hr.2.1 hr.2.2.1
theorem JB.kids {k:Int}{t:Bool}{x:ByteArray}(h:JB (.mk k t x d ns ks)):x.size<=9223372036854775807/\GH d/\(∀n∈ns,n.size<=9223372036854775807)/\∀u∈ks,JB u:=by
 cases h with
 |mk _ _ _ _ _ _ h1 h2 h3 h4=>exact⟨h1,h2,h3,h4⟩
theorem n8 (x:Value)(W:World):(Instr.typeAssert (.iface 112 x) 85 227 true).run Tryz.prog W =.ok (.tuple #[.nilIface,.bool false]) W:=run_typeAssert_lacksB Tryz.underlying227 (by kernel_rfl) (by kernel_rfl) x _ W
theorem nX (x:Value)(W:World):(Instr.typeAssert (.iface 112 x) 85 112 true).run Tryz.prog W =.ok (.tuple #[x,.bool true]) W:=by kernel_rfl
def dc (o:Bool)(full:List UInt8)(tail:UInt8)(ns:List ByteArray)(ks:List JV)(i:Nat)(ys:List UInt8):Prop:=ys++ (JV.txts o (decide (i=0)) (ns.drop i) (ks.drop i) ++ [tail])=full
theorem dc.next {full:List UInt8}{tail:UInt8}{k:JV}(h:dc false full tail [] ks i ys)(hk:ks[i]?=some k):dc false full tail [] ks (i+1) (ys++ ((if i=0 then [] else [44])++JV.txt k)):=by
 unfold dc at h ⊢;obtain⟨h1,h2⟩:=List.getElem?_eq_some_iff.1 hk;rw[List.drop_eq_getElem_cons h1,h2] at h;rw[<-h]
 conv=>rhs;unfold JV.txts
 by_cases e:i=0 <;> simp[e]
theorem dc.stop {o:Bool}{full:List UInt8}{tail:UInt8}(h:dc o full tail ns ks ks.length ys):ys ++ [tail]=full:=by
 unfold dc at h;rw[List.drop_length] at h;unfold JV.txts at h;exact h
theorem dc.le {o:Bool}{full:List UInt8}{tail:UInt8}(h:dc o full tail ns ks i ys):ys.length+1<=full.length:=by
 unfold dc at h;rw[<-h];simp
def vY (W:World)(o:Bool)(full:List UInt8)(tail:UInt8)(ns:List ByteArray)(ks:List JV)(s0 s38:Value)(wr:World):Prop:= ∃ (i:Nat) (ys:List UInt8),s38 =.int .i64 i/\i<=ks.length/\ao wr W.heap.size s0 ys/\Below W.heap.size W wr/\dc o full tail ns ks i ys
theorem ao.lit (c:UInt8)(h:ao w W.heap.size u xs)(hb:Below W.heap.size W w):ao (w.alloc (.cells #[.int .u8 c.toNat] 5)) W.heap.size u xs/\Bs (w.alloc (.cells #[.int .u8 c.toNat] 5)) (.slice (some ⟨w.heap.size,0,none⟩) 1 1) [c]/\Below W.heap.size W (w.alloc (.cells #[.int .u8 c.toNat] 5)):=
 ⟨h.below (ac w _) (Zb _),jL w [c] (by simp),hb.trans ((ac w _).mono hb.size)⟩
theorem m6 (h:dF P W A us ks)(hT:dI W)(hb:Below W.heap.size W w)(ho:ao w W.heap.size u xs)(hx:xs.length+ (91:: (JV.txts false true [] ks ++ [93])).length<=140737488355328)
  (H:∀ (i:Nat) v k,us[i]?=some v->ks[i]?=some k->∀w1 u1 xs1,Below W.heap.size W w1->ao w1 W.heap.size u1 xs1->xs1.length+ (JV.txt k).length<=140737488355328->Calls Tryz.prog 102 #[u1,v] w1 (iN W (xs1++JV.txt k))) :
  Calls Tryz.prog 102 #[u,.iface 112 (.pointer A)] w fun e w'=>iN W (xs++ (91:: (JV.txts false true [] ks ++ [93]))) e w':=by
 have k1:=nN;have k2:=n8;have k3:=nX;have hl:=h.len;have d9:=h.bd;unfold maxLen at d9;obtain⟨q1,q2,q3⟩:=ho.lit 91 hb;have b9:=H8 q1;have d1:=H8 q2;have b5:=H8 q3;have HH:=H8 H;have Hh:=H8 h;have HT:=H8 hT;obtain⟨A0,q0,rfl,-⟩:=af ho;have Hx:=H8 hx;have d4:=H8 (show xs.length+ ([91]:List UInt8).length<=140737488355328 by simp at hx ⊢;omega);obtain⟨full,a0⟩:∃full,xs++ (91:: (JV.txts false true [] ks ++ [93]))=full:=⟨_,rfl⟩;have Hf:Hid (dc false full 93 [] ks 0 (xs ++ [91])):=H8 (by unfold dc;rw[<-a0];simp);have c9:=H8 (show full.length<=140737488355328 by rw[<-a0,List.length_append];exact hx);rw[a0];have a9:=H8 hl;have e0:=H8 (fun w1 (hw:Below W.heap.size W w1)=>jj (h.below hw));clear q1 q2 q3 ho hb h hT H hx a0 hl;generalize hn:us.length=n at *;have Hn:=H8 hn;clear hn;go_enter Tryz.func102,Tryz.ntmps102;go_wp2_with (at_builtin;refine p9 b9.out d1.out d4.out b5.out.size ?_;intro v' w3 h1 h2 h3;have HK:=H8 h1;have a5:=H8 h2;clear h1 h2 h3);generalize hz:xs ++ [91]=zs at *;clear hz;have Hb3:=H8 (b5.out.grown a5.out b5.out.size (fun g e=>(ao.blk b9.out e).1));have Ho3:=H8 HK.out;obtain⟨A3,q3,rfl,-⟩:=af HK.out;have d6:=H8 (e0.out w3 Hb3.out);clear HK a5 b9 d1 b5 Hx d4;go_wp2_with fail;refine Za d6 ?_;rintro e w4 ⟨rfl,rfl⟩;go_wp2_with fail;clear d6
 go_loopw [0,38] (fun s0 s38 wr=>vY W false full 93 [] ks s0 s38 wr) (fun _ s38 _=>n - (intOf s38).toNat)
 case atStart=>exact⟨0,_,rfl,Zj _,Ho3.out,Hb3.out,Hf.out⟩
 case round=>
  clear Hf Ho3 Hb3;obtain⟨i,ys,rfl,hi,ho,hb,hf⟩:=hrel;have Ho:=H8 ho;have Hb:=H8 hb;have Hf:=H8 hf;have Hi:=H8 hi;obtain⟨A4,q4,rfl,-⟩:=af ho;have d0:ys.length+1<=140737488355328:=by have:=hf.le;have:=c9.out;omega
  have d3:=H8 d0;clear ho hb hf hi d0
  by_cases hin:i<n
  ·have c8:i<us.length:=by have:=Hn.out;omega
   have c3:i<ks.length:=by have:=a9.out;omega
   obtain⟨v,hv⟩:∃u,us[i]?=some u:=⟨_,Zd c8⟩;obtain⟨k,hk⟩:∃u,ks[i]?=some u:=⟨_,Zd c3⟩;have c6:=Hf.out.next hk;have b3:=H8 c6;have hle:=c6.le;have Hp:=H8 (fun w5 (hw:Below W.heap.size W w5)=>il (Hh.out.below hw) (HT.out.below hw) i hv);have Hc:=H8 (HH.out i v k hv hk);have hkl:(ys++if i=0 then [] else [44]).length+ (JV.txt k).length<=140737488355328:=by
    have h1:=c9.out;rw[List.length_append,List.length_append] at hle;rw[List.length_append];omega
   have b4:=H8 hkl;have d2:=H8 c3;have h':(i:Int)<n:=by omega
   have w1:IntKind.i64.wrap ((i:Int)+1)= (i:Int)+1:=IntWalk.i64_in _ (by omega);clear c6 hle hkl c8 c3 hv hk Hf
   by_cases hi0:i=0
   ·subst hi0;rw[if_pos rfl,List.append_nil] at b4;rw[if_pos rfl,List.nil_append] at b3;go_wp2_with fail;have c7:=H8 (show Calls Tryz.prog 130 #[.pointer A,.int .i64 0] wr (fun e w'=>e =.returned (.tuple #[.string ⟨(Lib.itoa (0:Nat)).toArray⟩,v])/\Below wr.heap.size wr w') from Hp.out wr Hb.out);refine Za c7 ?_;rintro e w6 ⟨rfl,a3⟩;have b8:=H8 (Hb.out.trans (a3.mono Hb.out.size));have c2:=H8 (Hc.out w6 _ _ b8.out (Ho.out.below a3 (Zb _)) b4.out);clear a3;go_wp2_with fail;refine Za c2 ?_;rintro e w7 ⟨v7,rfl,a4,b0⟩;have c0:=H8 a4;have c5:=H8 b0;generalize hr:ys++JV.txt k=rs at *;clear hr;obtain⟨A7,q7,rfl,-⟩:=af a4;clear a4 b0;go_wp2_with fail;refine⟨⟨1,_,rfl,d2.out,c0.out,c5.out,b3.out⟩,?_⟩
    show n - ((0:Int)+1).toNat<n - ((0:Int)).toNat
    omega
   ·have e1:(0:Int)<i:=by omega
    rw[if_neg hi0] at b4 b3;clear hi0;obtain⟨r1,r2,r3⟩:=Ho.out.lit 44 Hb.out;have b2:=H8 r1;have c4:=H8 r2;have a1:=H8 r3;have a2:=H8 (show ys.length+ ([44]:List UInt8).length<=140737488355328 from d3.out);clear r1 r2 r3;go_wp2_with (at_builtin;refine p9 b2.out c4.out a2.out a1.out.size ?_;intro v' w5 h1 h2 h3;have HK:=H8 h1;have a5:=H8 h2;clear h1 h2 h3);generalize hz:ys ++ [44]=zs at *;have Hz:=H8 hz;clear hz;have b1:=H8 (a1.out.grown a5.out a1.out.size (fun g e=>(ao.blk b2.out e).1));have e2:=H8 HK.out;obtain⟨A5,q5,rfl,-⟩:=af HK.out;have c7:=H8 (Hp.out w5 b1.out);clear HK a5;go_wp2_with fail;refine Za c7 ?_;rintro e w6 ⟨rfl,a3⟩;have b8:=H8 (b1.out.trans (a3.mono b1.out.size));have c2:=H8 (Hc.out w6 _ _ b8.out (e2.out.below a3 (Zb _)) b4.out);clear a3;go_wp2_with fail;refine Za c2 ?_;rintro e w7 ⟨v7,rfl,a4,b0⟩;have c0:=H8 a4;have c5:=H8 b0;generalize hr:zs++JV.txt k=rs at *;have Hr:=H8 hr;clear hr;obtain⟨A7,q7,rfl,-⟩:=af a4;clear a4 b0;go_wp2_with fail;refine⟨⟨i+1,_,rfl,d2.out,c0.out,c5.out,by rw[<-Hr.out,<-Hz.out,List.append_assoc];exact b3.out⟩,?_⟩
    show n - ((i:Int)+1).toNat<n - ((i:Int)).toNat
    omega
  ·have h':¬ (i:Int)<n:=by omega
   have d5:i=ks.length:=by have:=Hi.out;have:=a9.out;omega
   have c1:=H8 (show ys ++ [93]=full by have:=Hf.out;rw[d5] at this;exact this.stop);clear d5 Hf;obtain⟨r1,r2,r3⟩:=Ho.out.lit 93 Hb.out;have b2:=H8 r1;have c4:=H8 r2;have a1:=H8 r3;have a2:=H8 (show ys.length+ ([93]:List UInt8).length<=140737488355328 from d3.out);clear r1 r2 r3;go_wp2_with (at_builtin;refine p9 b2.out c4.out a2.out a1.out.size ?_;intro v' w5 h1 h2 h3;have HK:=H8 h1;have a5:=H8 h2;clear h1 h2 h3);have b1:=H8 (a1.out.grown a5.out a1.out.size (fun g e=>(ao.blk b2.out e).1));rw[c1.out] at HK;obtain⟨A5,q5,rfl,-⟩:=af HK.out;go_ret;exact⟨_,rfl,HK.out,b1.out⟩
