import Derived.Test.YtafobflehfecpaaGreatDoorGZ15aq
import Derived.Stop.Asserts
import Derived.Lib.ItoaLen
import Derived.Test.YtafobflehfecpaaGreatDoorGZ15af
set_option linter.unusedVariables false
set_option linter.unusedSimpArgs false
set_option maxHeartbeats 64000000
set_option maxRecDepth 100000
namespace Go.Proofs.YtafobflehfecpaaGreatDoor
open Go.RowKit Go.Shelf
variable {aE aU:Addr}{d:Dc}{ns:List ByteArray}{ks:List JV}{xs ys:List UInt8}{us:List Value}{i:Nat}{P:Nat->Prop}{A:Option Addr}{u v:Value}{W w w':World}
def dF (P:Nat->Prop)(w:World)(A:Option Addr)(us:List Value)(ks:List JV):Prop:=
 (A=none/\us = []/\ks = [])\/∃g R c,A=some ⟨g,0,none⟩/\w.heap[g]?=some (.cells #[.slice R us.length c] 241 (0,0))/\bF P w 64 1 R us.length c us/\us.length=ks.length
def si (P:Nat->Prop)(w:World)(us:List Value)(ks:List JV):Prop:= ∀ (i:Nat) u k,us[i]?=some u->ks[i]?=some k->VW P w u k
theorem dF.len (h:dF P w A us ks):us.length=ks.length:=by
 rcases h with ⟨-,rfl,rfl⟩|⟨_,_,_,_,_,_,h⟩
 ·rfl
 ·exact h
theorem dF.below (h:dF P w A us ks)(hb:Below w.heap.size w w'):dF P w' A us ks:=by
 rcases h with h|⟨g,R,c,e,hg,hr,hl⟩
 ·exact .inl h
 ·exact .inr ⟨g,R,c,e,ah hg hb,hr.stay fun g o hp hg _ _=>⟨hp,(hb.block g (ag hg)).trans hg⟩,hl⟩
theorem si.below (h:si P w us ks)(hb:Below w.heap.size w w'):si P w' us ks:=fun i u k h1 h2=>(h i u k h1 h2).later hb
theorem VW.asList {t:Bool}{x:ByteArray}(h:VW P w v (.mk 5 t x d ns ks)):∃A us,v =.iface 106 (.pointer A)/\dF P w A us ks/\si P w us ks:=by
 cases h with
 |bare=>exact⟨none, [],rfl,.inl ⟨rfl,rfl,rfl⟩,fun i u k h _=>by simp at h⟩
 |list g A c us ks hp hg hr hl hk=>exact⟨_,us,rfl,.inr ⟨g,A,c,rfl,hg,hr,hl⟩,hk⟩
def eI (P:Nat->Prop)(w:World)(A:Option Addr)(us:List Value)(ns:List ByteArray)(ks:List JV):Prop:=
 ∃g R c,A=some ⟨g,0,none⟩/\w.heap[g]?=some (.cells #[.slice R us.length c] 167 (0,0))/\bF P w 88 2 R us.length c (sO ns us)/\us.length=ks.length/\ns.length=ks.length
theorem eI.below (h:eI P w A us ns ks)(hb:Below w.heap.size w w'):eI P w' A us ns ks:=by
 obtain⟨g,R,c,e,hg,hr,hl⟩:=h;exact⟨g,R,c,e,ah hg hb,hr.stay fun g o hp hg _ _=>⟨hp,(hb.block g (ag hg)).trans hg⟩,hl⟩
theorem VW.asObj {t:Bool}{x:ByteArray}(h:VW P w v (.mk 6 t x d ns ks)):∃A us,v =.iface 97 (.pointer A)/\eI P w A us ns ks/\si P w us ks:=by
 cases h with
 |obj g A c us ns ks hp hg hr hl hn hk=>exact⟨_,us,rfl,⟨g,A,c,rfl,hg,hr,hl,hn⟩,hk⟩
theorem jU (h:dF P w A us ks):Calls Tryz.prog 101 #[.pointer A] w fun e w'=>e =.returned (.int .i64 us.length)/\w=w':=by
 rcases h with ⟨rfl,rfl,rfl⟩|⟨g,R,c,rfl,hg,hr,hl⟩
 ·exact qS w
 ·exact kk hg
theorem iy (h:dF P w A us ks)(hT:dE w)(i:Nat)(hu:us[i]?=some u):Calls Tryz.prog 102 #[.pointer A,.int .i64 i] w fun e w'=>e =.returned (.tuple #[.string ⟨(Lib.itoa i).toArray⟩,u])/\Below w.heap.size w w':=by
 have hi:=(List.getElem?_eq_some_iff.1 hu).1;rcases h with ⟨rfl,rfl,rfl⟩|⟨g,R,c,rfl,hg,hr,hl⟩
 ·simp at hi
 ·exact oU hT hg hr i hi hu
theorem jg (h:eI P w A us ns ks):Calls Tryz.prog 54 #[.pointer A] w fun e w'=>e =.returned (.int .i64 us.length)/\w=w':=by
 obtain⟨g,R,c,rfl,hg,hr,hl⟩:=h;exact kR hg
theorem nw (h:eI P w A us ns ks)(i:Nat){n:ByteArray}(hu:us[i]?=some u)(hn:ns[i]?=some n):Calls Tryz.prog 103 #[.pointer A,.int .i64 i] w fun e w'=>e =.returned (.tuple #[.string n,u])/\Below w.heap.size w w':=by
 have hi:=(List.getElem?_eq_some_iff.1 hu).1;obtain⟨g,R,c,rfl,hg,hr,hl⟩:=h;have hm:=kF ns us i n u hn hu;exact ri hg hr i hi hm.1 hm.2
inductive JB:JV->Prop
 |mk (k:Int) (t:Bool) (x:ByteArray) (d:Dc) (ns:List ByteArray) (ks:List JV):x.size<=9223372036854775807->GQ d->(∀n∈ns,n.size<=9223372036854775807)->(∀u∈ks,JB u)->JB (.mk k t x d ns ks)
theorem eI.len (h:eI P w A us ns ks):us.length=ks.length:=by
 obtain⟨_,_,_,_,_,_,h,_⟩:=h;exact h
theorem eI.names (h:eI P w A us ns ks):ns.length=ks.length:=by
 obtain⟨_,_,_,_,_,_,_,h⟩:=h;exact h
theorem oG (x:Value)(W:World):(Instr.typeAssert (.iface 335 x) 64 86 true).run Tryz.prog W =.ok (.tuple #[.string ⟨#[]⟩,.bool false]) W:=by kernel_rfl
theorem ss (x:Value)(W:World):(Instr.typeAssert (.iface 335 x) 64 174 true).run Tryz.prog W =.ok (.tuple #[.nilIface,.bool false]) W:=run_typeAssert_lacksB Tryz.underlying174 (by kernel_rfl) (by kernel_rfl) x _ W
theorem oM (x:Value)(W:World):(Instr.typeAssert (.iface 333 x) 64 86 true).run Tryz.prog W =.ok (.tuple #[.string ⟨#[]⟩,.bool false]) W:=by kernel_rfl
theorem r8 (x:Value)(W:World):(Instr.typeAssert (.iface 333 x) 64 174 true).run Tryz.prog W =.ok (.tuple #[.nilIface,.bool false]) W:=run_typeAssert_lacksB Tryz.underlying174 (by kernel_rfl) (by kernel_rfl) x _ W
theorem pJ (x:Value)(W:World):(Instr.typeAssert (.iface 310 x) 64 86 true).run Tryz.prog W =.ok (.tuple #[.string ⟨#[]⟩,.bool false]) W:=by kernel_rfl
theorem uL (x:Value)(W:World):(Instr.typeAssert (.iface 310 x) 64 174 true).run Tryz.prog W =.ok (.tuple #[.nilIface,.bool false]) W:=run_typeAssert_lacksB Tryz.underlying174 (by kernel_rfl) (by kernel_rfl) x _ W
theorem DF (x:Value)(W:World):(Instr.typeAssert (.iface 86 x) 64 86 true).run Tryz.prog W =.ok (.tuple #[x,.bool true]) W:=by kernel_rfl
theorem qn (x:Value)(W:World):(Instr.typeAssert (.iface 86 x) 64 174 true).run Tryz.prog W =.ok (.tuple #[.nilIface,.bool false]) W:=run_typeAssert_lacksB Tryz.underlying174 (by kernel_rfl) (by kernel_rfl) x _ W
theorem oA (x:Value)(W:World):(Instr.typeAssert (.iface 106 x) 64 86 true).run Tryz.prog W =.ok (.tuple #[.string ⟨#[]⟩,.bool false]) W:=by kernel_rfl
theorem qM (x:Value)(W:World):(Instr.typeAssert (.iface 106 x) 64 174 true).run Tryz.prog W =.ok (.tuple #[.iface 106 x,.bool true]) W:=run_typeAssert_hasB Tryz.underlying174 (by kernel_rfl) x _ W
theorem qf (x:Value)(W:World):(Instr.typeAssert (.iface 97 x) 64 86 true).run Tryz.prog W =.ok (.tuple #[.string ⟨#[]⟩,.bool false]) W:=by kernel_rfl
theorem sM (x:Value)(W:World):(Instr.typeAssert (.iface 97 x) 64 174 true).run Tryz.prog W =.ok (.tuple #[.iface 97 x,.bool true]) W:=run_typeAssert_hasB Tryz.underlying174 (by kernel_rfl) x _ W
def jK (l:List UInt8):ByteArray:=⟨l.toArray⟩
theorem mn:Calls Tryz.prog 331 #[.agg #[]] w fun e w'=>e =.returned (.string (jK [110,117,108,108]))/\Below w.heap.size w w':=by
 go_enter Tryz.func331,Tryz.ntmps331;go_wp2_with fail;go_ret;exact⟨rfl,ac w _⟩
theorem wH (b:Bool):Calls Tryz.prog 330 #[.bool b] w fun e w'=>e =.returned (.string (jK (if b then [116,114,117,101] else [102,97,108,115,101])))/\w=w':=by
 cases b
 all_goals
  go_enter Tryz.func330,Tryz.ntmps330;go_wp2_with fail;go_ret;exact⟨rfl,rfl⟩
theorem z8 (b:Bool):Calls Tryz.prog 329 #[.bool b] w fun e w'=>e =.returned (.string (jK (if b then [116,114,117,101] else [102,97,108,115,101])))/\w=w':=by
 have H:=Qa (wH (w:=w) b);generalize jK (if b then [116,114,117,101] else [102,97,108,115,101])=s at *;go_enter Tryz.func329,Tryz.ntmps329;go_wp2_with fail;refine Za H ?_;rintro e w1 ⟨rfl,rfl⟩;go_wp2_with fail;go_ret;exact⟨rfl,rfl⟩
theorem mp (b:Bool):Calls Tryz.prog 327 #[.bool b] w fun e w'=>e =.returned (.string (jK (if b then [116,114,117,101] else [102,97,108,115,101])))/\Below w.heap.size w w':=by
 have H:=Qa (z8 (w:=w) b);generalize jK (if b then [116,114,117,101] else [102,97,108,115,101])=s at *;go_enter Tryz.func327,Tryz.ntmps327;go_wp2_with fail;refine Za H ?_;rintro e w1 ⟨rfl,rfl⟩;go_wp2_with fail;go_ret;exact⟨rfl,Ze _ _⟩
theorem wN (n:Int)(h0: -1000000000<=n)(h1:n<=1000000000)(hT:dE w):Calls Tryz.prog 136 #[.int .i64 n] w fun e w'=>e =.returned (.string ⟨(Lib.itoa n).toArray⟩)/\Below w.heap.size w w':=by
 refine(Any.strconv_Itoa ql n (by omega) (by omega) w hT).mono ?_;rintro e w' ⟨rfl,k,os,rfl⟩;exact⟨rfl,Lib.below_grow _ w (Zb _) k os⟩
theorem o7 (hT:dE w)(hs:d.digits.size<=1000000000000)(h0: -1000000000<=d.exp)(h1:d.exp<=1000000000):Calls Tryz.prog 321 #[.agg #[.bool d.neg,.string d.digits,.int .i64 d.exp]] w fun e w'=>e =.returned (.string (jK (dM d)))/\Below w.heap.size w w':=by
 obtain⟨ng,dg,x⟩:=d
 dsimp only at hs h0 h1 ⊢
 have hb:=ac w (.cells #[.bool ng,.string dg,.int .i64 x] 308);have Ha:=Qa hb;have hz:(⟨(Lib.itoa x).toArray⟩:ByteArray).size<=21:=by
  show(Lib.itoa x).toArray.size<=21
  rw[List.size_toArray];exact Lib.itoa_length_le x (by omega) (by omega)
 have HI:=Qa (wN x h0 h1 (hT.below hb));have a2:(⟨#[101]⟩++ (⟨(Lib.itoa x).toArray⟩:ByteArray):ByteArray).size<=22:=by
  rw[ByteArray.size_append];have:(⟨#[101]⟩:ByteArray).size=1:=rfl;omega
 have a3:(⟨#[45]⟩++dg:ByteArray).size<=1000000000001:=by
  rw[ByteArray.size_append];have:(⟨#[45]⟩:ByteArray).size=1:=rfl;omega
 have e0:(⟨#[45]⟩:ByteArray).size=1:=rfl;have e1:(⟨#[101]⟩:ByteArray).size=1:=rfl;clear hb hT h0 h1
 cases ng <;> by_cases he:x=0
 ·subst he;have hc:=Qa (show dg=jK (dM ⟨false,dg,0⟩) by cases dg with|mk a=>cases a with|mk l=>simp[dM,fw,jK]);clear hz a2 HI;go_enter Tryz.func321,Tryz.ntmps321;go_wp2_with fail;go_ret;rw[<-hc.out];exact⟨rfl,Ha.out⟩
 ·have hc:=Qa (show dg++ (⟨#[101]⟩++ ⟨(Lib.itoa x).toArray⟩:ByteArray)=jK (dM ⟨false,dg,x⟩) by cases dg with|mk a=>cases a with|mk l=>simp only[dM,fw,jK,if_neg he];rfl);have hxb:(x==0)=false:=by simpa using he
  clear he;generalize (⟨(Lib.itoa x).toArray⟩:ByteArray)=z at *;go_enter Tryz.func321,Tryz.ntmps321;go_wp2_with fail;refine Za HI ?_;rintro e w1 ⟨rfl,a0⟩;have a1:=Qa (Ha.out.trans (a0.mono Ha.out.size));clear a0;go_wp2_with fail;go_ret;rw[<-hc.out];exact⟨rfl,a1.out⟩
 ·subst he;have hc:=Qa (show(⟨#[45]⟩++dg:ByteArray)=jK (dM ⟨true,dg,0⟩) by cases dg with|mk a=>cases a with|mk l=>simp only[dM,fw,jK,if_true,List.append_nil];rfl);clear hz a2 HI;go_enter Tryz.func321,Tryz.ntmps321;go_wp2_with fail;go_ret;rw[<-hc.out];exact⟨rfl,Ha.out⟩
 ·have hc:=Qa (show(⟨#[45]⟩++dg)++ (⟨#[101]⟩++ ⟨(Lib.itoa x).toArray⟩:ByteArray)=jK (dM ⟨true,dg,x⟩) by cases dg with|mk a=>cases a with|mk l=>simp only[dM,fw,jK,if_neg he,if_true];rfl);have hxb:(x==0)=false:=by simpa using he
  clear he;generalize (⟨(Lib.itoa x).toArray⟩:ByteArray)=z at *;go_enter Tryz.func321,Tryz.ntmps321;go_wp2_with fail;refine Za HI ?_;rintro e w1 ⟨rfl,a0⟩;have a1:=Qa (Ha.out.trans (a0.mono Ha.out.size));clear a0;go_wp2_with fail;go_ret;rw[<-hc.out];exact⟨rfl,a1.out⟩
theorem lg {s:ByteArray}(hs:bf s)(hG:cf w aU aE)(hl:s.size<=1000000000):Calls Tryz.prog 100 #[.string s] w fun e w'=> ∃v,e =.returned v/\ao w' w.heap.size v (cY s)/\Below w.heap.size w w':=by
 have H:=Qa (nI hs hG hl);clear hs hG hl;go_enter Tryz.func100,Tryz.ntmps100;go_wp2_with fail;refine Za H ?_;rintro e w1 ⟨v,rfl,ho,hb⟩;have Hb:=Qa hb;have Ho:=Qa ho;obtain⟨A,q,rfl,-⟩:=af ho;clear hb ho;go_wp2_with fail;go_ret;exact⟨_,rfl,Ho.out,Hb.out⟩
def iT (W:World)(l:List UInt8)(e:Ending)(w':World):Prop:= ∃v,e =.returned v/\ao w' W.heap.size v l/\Below W.heap.size W w'
theorem yq {s:ByteArray}(hs:bf s)(hG:cf W aU aE)(hl:s.size<=1000000000)(hb:Below W.heap.size W w)(ho:ao w W.heap.size u xs)(hx:xs.length+ (cY s).length<=140737488355328):Calls Tryz.prog 65 #[u,.iface 86 (.string s)] w (iT W (xs++cY s)):=by
 have k1:=DF;have H:=Qa (lg (w:=w) hs (hG.below hb) hl);have Hb:=Qa hb;have Ho:=Qa ho;have Hx:=Qa hx;obtain⟨A,q,rfl,-⟩:=af ho;clear hs hG hb ho hx;generalize cY s=qs at *;go_enter Tryz.func65,Tryz.ntmps65;go_wp2_with fail;refine Za H ?_;rintro e w1 ⟨v,rfl,a0,a1⟩;have a2:=Qa (Hb.out.trans (a1.mono Hb.out.size));have a3:=Qa (Ho.out.below a1 (Zb _));have a4:=Qa (ao.bs a0);obtain⟨A2,q2,rfl,-⟩:=af a0;clear a0 a1;go_wp2_with (at_builtin;refine qh a3.out a4.out Hx.out a2.out.size ?_;intro v' w3 h1 h2 h3;have HK:=Qa h1;have a5:=Qa h2;clear h1 h2 h3);obtain⟨A3,q3,rfl,-⟩:=af HK.out;go_ret;exact⟨_,rfl,HK.out,a2.out.grown a5.out a2.out.size (fun g e=>(ao.blk a3.out e).1)⟩
def rM:List UInt8:= [110,117,108,108]
def rl (b:Bool):List UInt8:=if b then [116,114,117,101] else [102,97,108,115,101]
theorem lL (l:List UInt8):(jK l).size=l.length:=by show l.toArray.size=_;simp
theorem xj {P:Program}{f:FuncId}{x y:Array Value}{K:Ending->World->Prop}(h:x=y)(hc:Calls P f #[.agg y] w K):Calls P f #[.agg x] w K:=h▸hc
theorem Dn (x:Value)(W:World):(Instr.typeAssert (.iface 335 x) 64 187 true).run Tryz.prog W =.ok (.tuple #[.iface 335 x,.bool true]) W:=run_typeAssert_hasB Tryz.underlying187 (by kernel_rfl) x _ W
theorem yh (hb:Below W.heap.size W w)(ho:ao w W.heap.size u xs)(hx:xs.length+rM.length<=140737488355328):Calls Tryz.prog 65 #[u,.iface 335 (.agg #[])] w (iT W (xs++rM)):=by
 have k1:=oG;have k2:=Dn;have H:=Qa (show Calls Tryz.prog 331 #[.agg #[]] w fun e w'=>e =.returned (.string (jK rM))/\Below w.heap.size w w' from mn);have Hb:=Qa hb;have Ho:=Qa ho;have Hx:=Qa hx;obtain⟨A,q,rfl,-⟩:=af ho;clear hb ho hx;generalize rM=qs at *;have a3:(jK qs).data.toList=qs:=rfl;have Hq:=Qa a3;have Hz:=Qa (show xs.length+ (jK qs).size<=140737488355328 by have:=Hx.out;rw[lL];exact this);generalize jK qs=ts at *;clear a3;go_enter Tryz.func65,Tryz.ntmps65;go_wp2_with fail;refine Za H ?_;rintro e w1 ⟨rfl,a0⟩;have a1:=Qa (Hb.out.trans (a0.mono Hb.out.size));have a2:=Qa (Ho.out.below a0 (Zb _));clear a0;go_wp2_with (at_builtin;refine bK rfl (.tmp 26) (.tmp 28) rfl W.heap.size (.slice A xs.length q) xs ts (by simp[Act.eval]) a2.out (by simp[Act.eval]) Hz.out a1.out.size ?_;intro v' w3 h1 h2;have HK:=Qa h1;have a4:=Qa h2;clear h1 h2);rw[Hq.out] at HK;obtain⟨A3,q3,rfl,-⟩:=af HK.out;go_ret;exact⟨_,rfl,HK.out,a1.out.grown a4.out a1.out.size (fun g e=>(ao.blk a2.out e).1)⟩
theorem Cr (x:Value)(W:World):(Instr.typeAssert (.iface 333 x) 64 187 true).run Tryz.prog W =.ok (.tuple #[.iface 333 x,.bool true]) W:=run_typeAssert_hasB Tryz.underlying187 (by kernel_rfl) x _ W
theorem yn {b:Bool}(hb:Below W.heap.size W w)(ho:ao w W.heap.size u xs)(hx:xs.length+ (rl b).length<=140737488355328):Calls Tryz.prog 65 #[u,.iface 333 (.bool b)] w fun e w'=>iT W (xs++ (rl b)) e w':=by
 have k1:=oM;have k2:=Cr;have H:=Qa (show Calls Tryz.prog 327 #[.bool b] w fun e w'=>e =.returned (.string (jK (rl b)))/\Below w.heap.size w w' from mp b);have Hb:=Qa hb;have Ho:=Qa ho;have Hx:=Qa hx;obtain⟨A,q,rfl,-⟩:=af ho;clear hb ho hx;generalize (rl b)=qs at *;have a3:(jK qs).data.toList=qs:=rfl;have Hq:=Qa a3;have Hz:=Qa (show xs.length+ (jK qs).size<=140737488355328 by have:=Hx.out;rw[lL];exact this);generalize jK qs=ts at *;clear a3;go_enter Tryz.func65,Tryz.ntmps65;go_wp2_with fail;refine Za H ?_;rintro e w1 ⟨rfl,a0⟩;have a1:=Qa (Hb.out.trans (a0.mono Hb.out.size));have a2:=Qa (Ho.out.below a0 (Zb _));clear a0;go_wp2_with (at_builtin;refine bK rfl (.tmp 26) (.tmp 28) rfl W.heap.size (.slice A xs.length q) xs ts (by simp[Act.eval]) a2.out (by simp[Act.eval]) Hz.out a1.out.size ?_;intro v' w3 h1 h2;have HK:=Qa h1;have a4:=Qa h2;clear h1 h2);rw[Hq.out] at HK;obtain⟨A3,q3,rfl,-⟩:=af HK.out;go_ret;exact⟨_,rfl,HK.out,a1.out.grown a4.out a1.out.size (fun g e=>(ao.blk a2.out e).1)⟩
theorem EI (x:Value)(W:World):(Instr.typeAssert (.iface 310 x) 64 187 true).run Tryz.prog W =.ok (.tuple #[.iface 310 x,.bool true]) W:=run_typeAssert_hasB Tryz.underlying187 (by kernel_rfl) x _ W
theorem B6 (hT:dE W)(a2:d.digits.size<=1000000000000)(h0: -1000000000<=d.exp)(h1:d.exp<=1000000000)(hb:Below W.heap.size W w)(ho:ao w W.heap.size u xs)(hx:xs.length+ (dM d).length<=140737488355328):Calls Tryz.prog 65 #[u,.iface 310 (.agg #[.bool d.neg,.string d.digits,.int .i64 d.exp])] w fun e w'=>iT W (xs++ (dM d)) e w':=by
 have k1:=pJ;have k2:=EI;have H:=Qa (o7 (w:=w) (hT.below hb) a2 h0 h1);have Hb:=Qa hb;have Ho:=Qa ho;have Hx:=Qa hx;obtain⟨A,q,rfl,-⟩:=af ho;clear hb ho hx hT a2 h0 h1;generalize (dM d)=qs at *;have a4:(jK qs).data.toList=qs:=rfl;have Hq:=Qa a4;have Hz:=Qa (show xs.length+ (jK qs).size<=140737488355328 by have:=Hx.out;rw[lL];exact this);generalize jK qs=ts at *;clear a4;go_enter Tryz.func65,Tryz.ntmps65;go_wp2_with fail;(with_reducible refine xj (y:= #[.bool d.neg,.string d.digits,.int .i64 d.exp]) (by kernel_rfl) (H.out.mono ?_));rintro e w1 ⟨rfl,a0⟩;have a1:=Qa (Hb.out.trans (a0.mono Hb.out.size));have a3:=Qa (Ho.out.below a0 (Zb _));clear a0;go_wp2_with (at_builtin;refine bK rfl (.tmp 26) (.tmp 28) rfl W.heap.size (.slice A xs.length q) xs ts (by simp[Act.eval]) a3.out (by simp[Act.eval]) Hz.out a1.out.size ?_;intro v' w3 h1 h2;have HK:=Qa h1;have a5:=Qa h2;clear h1 h2);rw[Hq.out] at HK;obtain⟨A3,q3,rfl,-⟩:=af HK.out;go_ret;exact⟨_,rfl,HK.out,a1.out.grown a5.out a1.out.size (fun g e=>(ao.blk a3.out e).1)⟩
theorem dF.bd (h:dF P w A us ks):us.length<=maxLen:=by
 rcases h with ⟨-,rfl,rfl⟩|⟨g,R,c,e,hg,hr,hl⟩
 ·exact Zj _
 ·exact Zc hr.2.1 hr.2.2.1
theorem eI.bd (h:eI P w A us ns ks):us.length<=maxLen:=by
 obtain⟨g,R,c,e,hg,hr,hl⟩:=h;exact Zc hr.2.1 hr.2.2.1
theorem JB.kids {k:Int}{t:Bool}{x:ByteArray}(h:JB (.mk k t x d ns ks)):x.size<=9223372036854775807/\GQ d/\(∀n∈ns,n.size<=9223372036854775807)/\∀u∈ks,JB u:=by
 cases h with
 |mk _ _ _ _ _ _ h1 h2 h3 h4=>exact⟨h1,h2,h3,h4⟩
theorem ox (x:Value)(W:World):(Instr.typeAssert (.iface 106 x) 64 187 true).run Tryz.prog W =.ok (.tuple #[.nilIface,.bool false]) W:=run_typeAssert_lacksB Tryz.underlying187 (by kernel_rfl) (by kernel_rfl) x _ W
theorem ol (x:Value)(W:World):(Instr.typeAssert (.iface 106 x) 64 106 true).run Tryz.prog W =.ok (.tuple #[x,.bool true]) W:=by kernel_rfl
def dd (o:Bool)(full:List UInt8)(tail:UInt8)(ns:List ByteArray)(ks:List JV)(i:Nat)(ys:List UInt8):Prop:=ys++ (JV.txts o (decide (i=0)) (ns.drop i) (ks.drop i) ++ [tail])=full
theorem dd.next {full:List UInt8}{tail:UInt8}{k:JV}(h:dd false full tail [] ks i ys)(hk:ks[i]?=some k):dd false full tail [] ks (i+1) (ys++ ((if i=0 then [] else [44])++JV.txt k)):=by
 unfold dd at h ⊢;obtain⟨h1,h2⟩:=List.getElem?_eq_some_iff.1 hk;rw[List.drop_eq_getElem_cons h1,h2] at h;rw[<-h]
 conv=>rhs;unfold JV.txts
 by_cases e:i=0 <;> simp[e]
theorem dd.stop {o:Bool}{full:List UInt8}{tail:UInt8}(h:dd o full tail ns ks ks.length ys):ys ++ [tail]=full:=by
 unfold dd at h;rw[List.drop_length] at h;unfold JV.txts at h;exact h
theorem dd.le {o:Bool}{full:List UInt8}{tail:UInt8}(h:dd o full tail ns ks i ys):ys.length+1<=full.length:=by
 unfold dd at h;rw[<-h];simp
def vH (W:World)(o:Bool)(full:List UInt8)(tail:UInt8)(ns:List ByteArray)(ks:List JV)(s0 s38:Value)(wr:World):Prop:= ∃ (i:Nat) (ys:List UInt8),s38 =.int .i64 i/\i<=ks.length/\ao wr W.heap.size s0 ys/\Below W.heap.size W wr/\dd o full tail ns ks i ys
theorem ao.lit (c:UInt8)(h:ao w W.heap.size u xs)(hb:Below W.heap.size W w):ao (w.alloc (.cells #[.int .u8 c.toNat] 5)) W.heap.size u xs/\Bs (w.alloc (.cells #[.int .u8 c.toNat] 5)) (.slice (some ⟨w.heap.size,0,none⟩) 1 1) [c]/\Below W.heap.size W (w.alloc (.cells #[.int .u8 c.toNat] 5)):=
 ⟨h.below (ac w _) (Zb _),jG w [c] (by simp),hb.trans ((ac w _).mono hb.size)⟩
theorem np (h:dF P W A us ks)(hT:dE W)(hb:Below W.heap.size W w)(ho:ao w W.heap.size u xs)(hx:xs.length+ (91:: (JV.txts false true [] ks ++ [93])).length<=140737488355328)
  (H:∀ (i:Nat) v k,us[i]?=some v->ks[i]?=some k->∀w1 u1 xs1,Below W.heap.size W w1->ao w1 W.heap.size u1 xs1->xs1.length+ (JV.txt k).length<=140737488355328->Calls Tryz.prog 65 #[u1,v] w1 (iT W (xs1++JV.txt k))) :
  Calls Tryz.prog 65 #[u,.iface 106 (.pointer A)] w fun e w'=>iT W (xs++ (91:: (JV.txts false true [] ks ++ [93]))) e w':=by
 have k1:=oA;have k2:=ox;have k3:=ol;have hl:=h.len;have e2:=h.bd;unfold maxLen at e2;obtain⟨q1,q2,q3⟩:=ho.lit 91 hb;have c2:=Qa q1;have c9:=Qa q2;have b5:=Qa q3;have HH:=Qa H;have Hh:=Qa h;have HT:=Qa hT;obtain⟨A0,q0,rfl,-⟩:=af ho;have Hx:=Qa hx;have d6:=Qa (show xs.length+ ([91]:List UInt8).length<=140737488355328 by simp at hx ⊢;omega);obtain⟨full,a0⟩:∃full,xs++ (91:: (JV.txts false true [] ks ++ [93]))=full:=⟨_,rfl⟩;have Hf:Hid (dd false full 93 [] ks 0 (xs ++ [91])):=Qa (by unfold dd;rw[<-a0];simp);have c8:=Qa (show full.length<=140737488355328 by rw[<-a0,List.length_append];exact hx);rw[a0];have b2:=Qa hl;have e0:=Qa (fun w1 (hw:Below W.heap.size W w1)=>jU (h.below hw));clear q1 q2 q3 ho hb h hT H hx a0 hl;generalize hn:us.length=n at *;have Hn:=Qa hn;clear hn;go_enter Tryz.func65,Tryz.ntmps65;go_wp2_with (at_builtin;refine qh c2.out c9.out d6.out b5.out.size ?_;intro v' w3 h1 h2 h3;have HK:=Qa h1;have a3:=Qa h2;clear h1 h2 h3);generalize hz:xs ++ [91]=zs at *;clear hz;have Hb3:=Qa (b5.out.grown a3.out b5.out.size (fun g e=>(ao.blk c2.out e).1));have Ho3:=Qa HK.out;obtain⟨A3,q3,rfl,-⟩:=af HK.out;have d2:=Qa (e0.out w3 Hb3.out);clear HK a3 c2 c9 b5 Hx d6;go_wp2_with fail;refine Za d2 ?_;rintro e w4 ⟨rfl,rfl⟩;go_wp2_with fail;clear d2
 go_loopw [0,38] (fun s0 s38 wr=>vH W false full 93 [] ks s0 s38 wr) (fun _ s38 _=>n - (intOf s38).toNat)
 case atStart=>exact⟨0,_,rfl,Zj _,Ho3.out,Hb3.out,Hf.out⟩
 case round=>
  clear Hf Ho3 Hb3;obtain⟨i,ys,rfl,hi,ho,hb,hf⟩:=hrel;have Ho:=Qa ho;have Hb:=Qa hb;have Hf:=Qa hf;have Hi:=Qa hi;obtain⟨A4,q4,rfl,-⟩:=af ho;have d3:ys.length+1<=140737488355328:=by have:=hf.le;have:=c8.out;omega
  have d5:=Qa d3;clear ho hb hf hi d3
  by_cases hin:i<n
  ·have d0:i<us.length:=by have:=Hn.out;omega
   have c0:i<ks.length:=by have:=b2.out;omega
   obtain⟨v,hv⟩:∃u,us[i]?=some u:=⟨_,Zd d0⟩;obtain⟨k,hk⟩:∃u,ks[i]?=some u:=⟨_,Zd c0⟩;have b9:=Hf.out.next hk;have b4:=Qa b9;have hle:=b9.le;have Hp:=Qa (fun w5 (hw:Below W.heap.size W w5)=>iy (Hh.out.below hw) (HT.out.below hw) i hv);have Hc:=Qa (HH.out i v k hv hk);have hkl:(ys++if i=0 then [] else [44]).length+ (JV.txt k).length<=140737488355328:=by
    have h1:=c8.out;rw[List.length_append,List.length_append] at hle;rw[List.length_append];omega
   have b3:=Qa hkl;have d1:=Qa c0;have h':(i:Int)<n:=by omega
   have w1:IntKind.i64.wrap ((i:Int)+1)= (i:Int)+1:=IntWalk.i64_in _ (by omega);clear b9 hle hkl d0 c0 hv hk Hf
   by_cases hi0:i=0
   ·subst hi0;rw[if_pos rfl,List.append_nil] at b3;rw[if_pos rfl,List.nil_append] at b4;go_wp2_with fail;have c3:=Qa (show Calls Tryz.prog 102 #[.pointer A,.int .i64 0] wr (fun e w'=>e =.returned (.tuple #[.string ⟨(Lib.itoa (0:Nat)).toArray⟩,v])/\Below wr.heap.size wr w') from Hp.out wr Hb.out);refine Za c3 ?_;rintro e w6 ⟨rfl,a4⟩;have c5:=Qa (Hb.out.trans (a4.mono Hb.out.size));have c7:=Qa (Hc.out w6 _ _ c5.out (Ho.out.below a4 (Zb _)) b3.out);clear a4;go_wp2_with fail;refine Za c7 ?_;rintro e w7 ⟨v7,rfl,a5,a9⟩;have b8:=Qa a5;have c6:=Qa a9;generalize hr:ys++JV.txt k=rs at *;clear hr;obtain⟨A7,q7,rfl,-⟩:=af a5;clear a5 a9;go_wp2_with fail;refine⟨⟨1,_,rfl,d1.out,b8.out,c6.out,b4.out⟩,?_⟩
    show n - ((0:Int)+1).toNat<n - ((0:Int)).toNat
    omega
   ·have e1:(0:Int)<i:=by omega
    rw[if_neg hi0] at b3 b4;clear hi0;obtain⟨r1,r2,r3⟩:=Ho.out.lit 44 Hb.out;have b1:=Qa r1;have c4:=Qa r2;have a1:=Qa r3;have a2:=Qa (show ys.length+ ([44]:List UInt8).length<=140737488355328 from d5.out);clear r1 r2 r3;go_wp2_with (at_builtin;refine qh b1.out c4.out a2.out a1.out.size ?_;intro v' w5 h1 h2 h3;have HK:=Qa h1;have a3:=Qa h2;clear h1 h2 h3);generalize hz:ys ++ [44]=zs at *;have Hz:=Qa hz;clear hz;have b0:=Qa (a1.out.grown a3.out a1.out.size (fun g e=>(ao.blk b1.out e).1));have d9:=Qa HK.out;obtain⟨A5,q5,rfl,-⟩:=af HK.out;have c3:=Qa (Hp.out w5 b0.out);clear HK a3;go_wp2_with fail;refine Za c3 ?_;rintro e w6 ⟨rfl,a4⟩;have c5:=Qa (b0.out.trans (a4.mono b0.out.size));have c7:=Qa (Hc.out w6 _ _ c5.out (d9.out.below a4 (Zb _)) b3.out);clear a4;go_wp2_with fail;refine Za c7 ?_;rintro e w7 ⟨v7,rfl,a5,a9⟩;have b8:=Qa a5;have c6:=Qa a9;generalize hr:zs++JV.txt k=rs at *;have Hr:=Qa hr;clear hr;obtain⟨A7,q7,rfl,-⟩:=af a5;clear a5 a9;go_wp2_with fail;refine⟨⟨i+1,_,rfl,d1.out,b8.out,c6.out,by rw[<-Hr.out,<-Hz.out,List.append_assoc];exact b4.out⟩,?_⟩
    show n - ((i:Int)+1).toNat<n - ((i:Int)).toNat
    omega
  ·have h':¬ (i:Int)<n:=by omega
   have d4:i=ks.length:=by have:=Hi.out;have:=b2.out;omega
   have c1:=Qa (show ys ++ [93]=full by have:=Hf.out;rw[d4] at this;exact this.stop);clear d4 Hf;obtain⟨r1,r2,r3⟩:=Ho.out.lit 93 Hb.out;have b1:=Qa r1;have c4:=Qa r2;have a1:=Qa r3;have a2:=Qa (show ys.length+ ([93]:List UInt8).length<=140737488355328 from d5.out);clear r1 r2 r3;go_wp2_with (at_builtin;refine qh b1.out c4.out a2.out a1.out.size ?_;intro v' w5 h1 h2 h3;have HK:=Qa h1;have a3:=Qa h2;clear h1 h2 h3);have b0:=Qa (a1.out.grown a3.out a1.out.size (fun g e=>(ao.blk b1.out e).1));rw[c1.out] at HK;obtain⟨A5,q5,rfl,-⟩:=af HK.out;go_ret;exact⟨_,rfl,HK.out,b0.out⟩
