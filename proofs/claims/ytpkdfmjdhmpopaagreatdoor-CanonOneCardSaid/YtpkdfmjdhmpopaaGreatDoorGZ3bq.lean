import Derived.Test.YtpkdfmjdhmpopaaGreatDoorGZ3bp
import Derived.Lib.ItoaLen
set_option linter.unusedVariables false
set_option linter.unusedSimpArgs false
set_option maxHeartbeats 64000000
set_option maxRecDepth 100000
namespace Go.Proofs.YtpkdfmjdhmpopaaGreatDoor
open Go.RowKit Go.Shelf
variable {aE aU : Addr} {o t' : Bool} {s x' : ByteArray} {d n' : Dc} {ns ns' : List ByteArray} {ks ks' : List JV} {full xs ys : List UInt8} {us us' : List Value} {i : Nat} {P Q : Nat -> Prop} {A : Option Addr} {u v v' : Value} {W w w1 : World}
def lA (l:List UInt8):ByteArray:=⟨l.toArray⟩
theorem oZ:Calls Tryz.prog 285 #[.agg #[]] w fun e w'=>e = .returned (.string (lA [110,117,108,108]))/\Below w.heap.size w w':=by
 go_enter Tryz.func285,Tryz.ntmps285;go_wp2_with fail;go_ret;exact⟨rfl,ac w _⟩
theorem zf (b:Bool):Calls Tryz.prog 290 #[.bool b] w fun e w'=>e = .returned (.string (lA (if b then [116,114,117,101] else [102,97,108,115,101])))/\w=w':=by
 cases b
 all_goals
  go_enter Tryz.func290,Tryz.ntmps290;go_wp2_with fail;go_ret;exact⟨rfl,rfl⟩
theorem AP (b:Bool):Calls Tryz.prog 289 #[.bool b] w fun e w'=>e = .returned (.string (lA (if b then [116,114,117,101] else [102,97,108,115,101])))/\w=w':=by
 have H:=Qa (zf (w:=w) b);generalize lA (if b then [116,114,117,101] else [102,97,108,115,101])=s at *;go_enter Tryz.func289,Tryz.ntmps289;go_wp2_with fail;(with_reducible refine H.out.mono ?_);rintro e w1 ⟨rfl,rfl⟩;go_wp2_with fail;go_ret;exact⟨rfl,rfl⟩
theorem oH (b:Bool):Calls Tryz.prog 287 #[.bool b] w fun e w'=>e = .returned (.string (lA (if b then [116,114,117,101] else [102,97,108,115,101])))/\Below w.heap.size w w':=by
 have H:=Qa (AP (w:=w) b);generalize lA (if b then [116,114,117,101] else [102,97,108,115,101])=s at *;go_enter Tryz.func287,Tryz.ntmps287;go_wp2_with fail;(with_reducible refine H.out.mono ?_);rintro e w1 ⟨rfl,rfl⟩;go_wp2_with fail;go_ret;exact⟨rfl,Zd _ _⟩
theorem zh (n:Int)(h0: -1000000000<=n)(h1:n<=1000000000)(hT:dt w):Calls Tryz.prog 73 #[.int .i64 n] w fun e w'=>e = .returned (.string ⟨(Lib.itoa n).toArray⟩)/\Below w.heap.size w w':=by
 refine(Any.strconv_Itoa uB n (by omega) (by omega) w hT).mono ?_;rintro e w' ⟨rfl,k,os,rfl⟩;exact⟨rfl,Lib.below_grow _ w (Za _) k os⟩
theorem qL (hT:dt w)(hs:d.digits.size<=1000000000000)(h0: -1000000000<=d.exp)(h1:d.exp<=1000000000):Calls Tryz.prog 281 #[.agg #[.bool d.neg, .string d.digits, .int .i64 d.exp]] w fun e w'=>e = .returned (.string (lA (eR d)))/\Below w.heap.size w w':=by
 obtain⟨ng,dg,x⟩:=d
 dsimp only at hs h0 h1 ⊢
 have hb:=ac w (.cells #[.bool ng, .string dg, .int .i64 x] 48);have Ha:=Qa hb;have hz: (⟨(Lib.itoa x).toArray⟩:ByteArray).size<=21:=by
  show(Lib.itoa x).toArray.size<=21
  rw [List.size_toArray];exact Lib.itoa_length_le x (by omega) (by omega)
 have HI:=Qa (zh x h0 h1 (hT.below hb));have a2: (⟨#[101]⟩++ (⟨(Lib.itoa x).toArray⟩:ByteArray):ByteArray).size<=22:=by
  rw [ByteArray.size_append];have: (⟨#[101]⟩:ByteArray).size=1:=rfl;omega
 have a4: (⟨#[45]⟩++dg:ByteArray).size<=1000000000001:=by
  rw [ByteArray.size_append];have: (⟨#[45]⟩:ByteArray).size=1:=rfl;omega
 have e0: (⟨#[45]⟩:ByteArray).size=1:=rfl;have e1: (⟨#[101]⟩:ByteArray).size=1:=rfl;clear hb hT h0 h1
 cases ng <;> by_cases he:x=0
 ·subst he
  have hc:=Qa (show dg=lA (eR ⟨false,dg,0⟩) by cases dg with | mk a=>cases a with | mk l=>simp [eR,fQ,lA]);clear hz a2 HI;go_enter Tryz.func281,Tryz.ntmps281;go_wp2_with fail;go_ret;rw [<- hc.out];exact⟨rfl,Ha.out⟩
 ·have hc:=Qa (show dg++ (⟨#[101]⟩++ ⟨(Lib.itoa x).toArray⟩:ByteArray)=lA (eR ⟨false,dg,x⟩) by cases dg with | mk a=>cases a with | mk l=>simp only [eR,fQ,lA,if_neg he];rfl)
  have a3: (x==0)=false:=by simpa using he
  clear he;generalize (⟨(Lib.itoa x).toArray⟩:ByteArray)=z at *;go_enter Tryz.func281,Tryz.ntmps281;go_wp2_with fail;(with_reducible refine HI.out.mono ?_);rintro e w1 ⟨rfl,a0⟩;have a1:=Qa (Ha.out.trans (a0.mono Ha.out.size));clear a0;go_wp2_with fail;go_ret;rw [<- hc.out];exact⟨rfl,a1.out⟩
 ·subst he
  have hc:=Qa (show(⟨#[45]⟩++dg:ByteArray)=lA (eR ⟨true,dg,0⟩) by cases dg with | mk a=>cases a with | mk l=>simp only [eR,fQ,lA,if_true,List.append_nil];rfl);clear hz a2 HI;go_enter Tryz.func281,Tryz.ntmps281;go_wp2_with fail;go_ret;rw [<- hc.out];exact⟨rfl,Ha.out⟩
 ·have hc:=Qa (show(⟨#[45]⟩++dg)++ (⟨#[101]⟩++ ⟨(Lib.itoa x).toArray⟩:ByteArray)=lA (eR ⟨true,dg,x⟩) by cases dg with | mk a=>cases a with | mk l=>simp only [eR,fQ,lA,if_neg he,if_true];rfl)
  have a3: (x==0)=false:=by simpa using he
  clear he;generalize (⟨(Lib.itoa x).toArray⟩:ByteArray)=z at *;go_enter Tryz.func281,Tryz.ntmps281;go_wp2_with fail;(with_reducible refine HI.out.mono ?_);rintro e w1 ⟨rfl,a0⟩;have a1:=Qa (Ha.out.trans (a0.mono Ha.out.size));clear a0;go_wp2_with fail;go_ret;rw [<- hc.out];exact⟨rfl,a1.out⟩
theorem mP (hs:dy s)(hG:cG w aU aE)(hl:s.size<=1000000000):Calls Tryz.prog 46 #[.string s] w fun e w'=> ∃v,e = .returned v/\au w' w.heap.size v (dD s)/\Below w.heap.size w w':=by
 have H:=Qa (o9 hs hG hl);clear hs hG hl;go_enter Tryz.func46,Tryz.ntmps46;go_wp2_with fail;(with_reducible refine H.out.mono ?_);rintro e w1 ⟨v,rfl,ho,hb⟩;have Hb:=Qa hb;have Ho:=Qa ho;obtain⟨A,q,rfl, -⟩:=ag ho;clear hb ho;go_wp2_with fail;go_ret;exact⟨_,rfl,Ho.out,Hb.out⟩
def kO (W:World)(l:List UInt8)(e:Ending)(w':World):Prop:= ∃v,e = .returned v/\au w' W.heap.size v l/\Below W.heap.size W w'
theorem zg (hs:dy s)(hG:cG W aU aE)(hl:s.size<=1000000000)(hb:Below W.heap.size W w)(ho:au w W.heap.size u xs)(hx:xs.length+ (dD s).length<=140737488355328):Calls Tryz.prog 28 #[u, .iface 60 (.string s)] w (kO W (xs++dD s)):=by
 have k1:=xw;have H:=Qa (mP (w:=w) hs (hG.below hb) hl);have Hb:=Qa hb;have Ho:=Qa ho;have Hx:=Qa hx;obtain⟨A,q,rfl, -⟩:=ag ho;clear hs hG hb ho hx;generalize dD s=qs at *;go_enter Tryz.func28,Tryz.ntmps28;go_wp2_with fail;(with_reducible refine H.out.mono ?_);rintro e w1 ⟨v,rfl,a2,a0⟩;have a1:=Qa (Hb.out.trans (a0.mono Hb.out.size));have a3:=Qa (Ho.out.below a0 (Za _));have a4:=Qa (au.bs a2);obtain⟨A2,q2,rfl, -⟩:=ag a2;clear a2 a0;go_wp2_with (at_builtin;refine aA rfl (.tmp 19) (.tmp 21) rfl W.heap.size (.slice A xs.length q) (.slice A2 qs.length q2) xs qs (by simp [Act.eval]) a3.out (by simp [Act.eval]) a4.out Hx.out a1.out.size ?_;intro v' w3 h1 h2 h3;have HK:=Qa h1;have a5:=Qa h2;clear h1 h2 h3);obtain⟨A3,q3,rfl, -⟩:=ag HK.out;go_ret;exact⟨_,rfl,HK.out,a1.out.grown a5.out a1.out.size (fun g e=>(au.blk a3.out e).1)⟩
def uu:List UInt8:= [110,117,108,108]
def ur (b:Bool):List UInt8:=if b then [116,114,117,101] else [102,97,108,115,101]
theorem oe (l:List UInt8): (lA l).size=l.length:=by show l.toArray.size=_;simp
theorem yU {P:Program}{f:FuncId}{x y:Array Value}{K:Ending->World->Prop}(h:x=y)(hc:Calls P f #[.agg y] w K):Calls P f #[.agg x] w K:=h▸hc
theorem CE (x:Value)(W:World): (Instr.typeAssert (.iface 58 x) 32 131 true).run Tryz.prog W = .ok (.tuple #[.iface 58 x, .bool true]) W:=run_typeAssert_hasB Tryz.underlying131 (by kernel_rfl) x _ W
theorem yL (hb:Below W.heap.size W w)(ho:au w W.heap.size u xs)(hx:xs.length+uu.length<=140737488355328):Calls Tryz.prog 28 #[u, .iface 58 (.agg #[])] w (kO W (xs++uu)):=by
 have k1:=ku;have k2:=CE;have H:=Qa (show Calls Tryz.prog 285 #[.agg #[]] w fun e w'=>e = .returned (.string (lA uu))/\Below w.heap.size w w' from oZ);have Hb:=Qa hb;have Ho:=Qa ho;have Hx:=Qa hx;obtain⟨A,q,rfl, -⟩:=ag ho;clear hb ho hx;generalize uu=qs at *;have a2: (lA qs).data.toList=qs:=rfl;have Hq:=Qa a2;have Hz:=Qa (show xs.length+ (lA qs).size<=140737488355328 by have:=Hx.out;rw [oe];exact this);generalize lA qs=ts at *;clear a2;go_enter Tryz.func28,Tryz.ntmps28;go_wp2_with fail;(with_reducible refine H.out.mono ?_);rintro e w1 ⟨rfl,a0⟩;have a1:=Qa (Hb.out.trans (a0.mono Hb.out.size));have a3:=Qa (Ho.out.below a0 (Za _));clear a0;go_wp2_with (at_builtin;refine cj rfl (.tmp 26) (.tmp 28) rfl W.heap.size (.slice A xs.length q) xs ts (by simp [Act.eval]) a3.out (by simp [Act.eval]) Hz.out a1.out.size ?_;intro v' w3 h1 h2;have HK:=Qa h1;have a4:=Qa h2;clear h1 h2);rw [Hq.out] at HK;obtain⟨A3,q3,rfl, -⟩:=ag HK.out;go_ret;exact⟨_,rfl,HK.out,a1.out.grown a4.out a1.out.size (fun g e=>(au.blk a3.out e).1)⟩
theorem CN (x:Value)(W:World): (Instr.typeAssert (.iface 59 x) 32 131 true).run Tryz.prog W = .ok (.tuple #[.iface 59 x, .bool true]) W:=run_typeAssert_hasB Tryz.underlying131 (by kernel_rfl) x _ W
theorem zn {b:Bool}(hb:Below W.heap.size W w)(ho:au w W.heap.size u xs)(hx:xs.length+ (ur b).length<=140737488355328):Calls Tryz.prog 28 #[u, .iface 59 (.bool b)] w fun e w'=>kO W (xs++ (ur b)) e w':=by
 have k1:=pW;have k2:=CN;have H:=Qa (show Calls Tryz.prog 287 #[.bool b] w fun e w'=>e = .returned (.string (lA (ur b)))/\Below w.heap.size w w' from oH b);have Hb:=Qa hb;have Ho:=Qa ho;have Hx:=Qa hx;obtain⟨A,q,rfl, -⟩:=ag ho;clear hb ho hx;generalize (ur b)=qs at *;have a2: (lA qs).data.toList=qs:=rfl;have Hq:=Qa a2;have Hz:=Qa (show xs.length+ (lA qs).size<=140737488355328 by have:=Hx.out;rw [oe];exact this);generalize lA qs=ts at *;clear a2;go_enter Tryz.func28,Tryz.ntmps28;go_wp2_with fail;(with_reducible refine H.out.mono ?_);rintro e w1 ⟨rfl,a0⟩;have a1:=Qa (Hb.out.trans (a0.mono Hb.out.size));have a3:=Qa (Ho.out.below a0 (Za _));clear a0;go_wp2_with (at_builtin;refine cj rfl (.tmp 26) (.tmp 28) rfl W.heap.size (.slice A xs.length q) xs ts (by simp [Act.eval]) a3.out (by simp [Act.eval]) Hz.out a1.out.size ?_;intro v' w3 h1 h2;have HK:=Qa h1;have a4:=Qa h2;clear h1 h2);rw [Hq.out] at HK;obtain⟨A3,q3,rfl, -⟩:=ag HK.out;go_ret;exact⟨_,rfl,HK.out,a1.out.grown a4.out a1.out.size (fun g e=>(au.blk a3.out e).1)⟩
theorem E9 (x:Value)(W:World): (Instr.typeAssert (.iface 50 x) 32 131 true).run Tryz.prog W = .ok (.tuple #[.iface 50 x, .bool true]) W:=run_typeAssert_hasB Tryz.underlying131 (by kernel_rfl) x _ W
theorem Bh (hT:dt W)(a4:d.digits.size<=1000000000000)(h0: -1000000000<=d.exp)(h1:d.exp<=1000000000)(hb:Below W.heap.size W w)(ho:au w W.heap.size u xs)(hx:xs.length+ (eR d).length<=140737488355328):Calls Tryz.prog 28 #[u, .iface 50 (.agg #[.bool d.neg, .string d.digits, .int .i64 d.exp])] w fun e w'=>kO W (xs++ (eR d)) e w':=by
 have k1:=tL;have k2:=E9;have H:=Qa (qL (w:=w) (hT.below hb) a4 h0 h1);have Hb:=Qa hb;have Ho:=Qa ho;have Hx:=Qa hx;obtain⟨A,q,rfl, -⟩:=ag ho;clear hb ho hx hT a4 h0 h1;generalize (eR d)=qs at *;have a2: (lA qs).data.toList=qs:=rfl;have Hq:=Qa a2;have Hz:=Qa (show xs.length+ (lA qs).size<=140737488355328 by have:=Hx.out;rw [oe];exact this);generalize lA qs=ts at *;clear a2;go_enter Tryz.func28,Tryz.ntmps28;go_wp2_with fail;(with_reducible refine yU (y:= #[.bool d.neg, .string d.digits, .int .i64 d.exp]) (by kernel_rfl) (H.out.mono ?_));rintro e w1 ⟨rfl,a0⟩;have a1:=Qa (Hb.out.trans (a0.mono Hb.out.size));have a3:=Qa (Ho.out.below a0 (Za _));clear a0;go_wp2_with (at_builtin;refine cj rfl (.tmp 26) (.tmp 28) rfl W.heap.size (.slice A xs.length q) xs ts (by simp [Act.eval]) a3.out (by simp [Act.eval]) Hz.out a1.out.size ?_;intro v' w3 h1 h2;have HK:=Qa h1;have a5:=Qa h2;clear h1 h2);rw [Hq.out] at HK;obtain⟨A3,q3,rfl, -⟩:=ag HK.out;go_ret;exact⟨_,rfl,HK.out,a1.out.grown a5.out a1.out.size (fun g e=>(au.blk a3.out e).1)⟩
def iB (c:Int)(w:World)(e:Ending)(w':World):Prop:=e = .returned (.int .i64 c)/\Below w.heap.size w w'
theorem eJ {a b:JV}(ha:VW P w v a)(hb:VW Q w v' b)(hd:a.kindOf≠b.kindOf):Calls Tryz.prog 30 #[v,v'] w (iB (ee a b) w):=by
 have Hv:=Qa (show ee a b=sg a.kindOf b.kindOf/\sg a.kindOf b.kindOf≠0 by
  obtain⟨k,t,x,n,ns,ks⟩:=a;obtain⟨k',t',x',n',ns',ks'⟩:=b;simp only [JV.kindOf] at hd;rw [yZ hd];unfold sg;simp only [JV.kindOf]
  (repeat' split) <;> constructor <;> first | rfl | omega)
 have H1:=Qa (eh ha);have H2:=Qa (fun w1 (h:Below w.heap.size w w1)=>eh (hb.later h));obtain⟨t1,x1,rfl⟩:=ha.iface;obtain⟨t2,x2,rfl⟩:=hb.iface;clear ha hb hd;generalize a.kindOf=ka at *;generalize b.kindOf=kb at *;have hne: (sg ka kb==0)=false:=by simpa using Hv.out.2
 go_enter Tryz.func30,Tryz.ntmps30;go_wp2_with fail;(with_reducible refine H1.out.mono ?_);rintro e w1 ⟨rfl,a0⟩;have a2:=Qa a0;have H3:=Qa (H2.out w1 a0);clear a0;go_wp2_with fail;(with_reducible refine H3.out.mono ?_);rintro e w2 ⟨rfl,a1⟩;have a3:=Qa (a2.out.trans (a1.mono a2.out.size));clear a1;go_wp2_with fail;(with_reducible refine bh.mono ?_);rintro e w3 ⟨rfl,rfl⟩;go_wp2_with fail;go_ret;rw [Hv.out.1];exact⟨rfl,a3.out⟩
theorem Cz (w:World):Calls Tryz.prog 53 #[.iface 58 (.agg #[])] w fun e w'=>e = .returned (.int .i64 1)/\Below w.heap.size w w':=eh (P:=fun _=>True) .null
theorem C6 (w:World):Calls Tryz.prog 53 #[.iface 54 (.agg #[])] w fun e w'=>e = .returned (.int .i64 7)/\Below w.heap.size w w':=eh (P:=fun _=>True) .hole
theorem xE (b:Bool)(w:World):Calls Tryz.prog 53 #[.iface 59 (.bool b)] w fun e w'=>e = .returned (.int .i64 2)/\Below w.heap.size w w':=eh (P:=fun _=>True) (.bool b)
theorem Bg (d:Dc)(w:World):Calls Tryz.prog 53 #[.iface 50 (.agg #[.bool d.neg, .string d.digits, .int .i64 d.exp])] w fun e w'=>e = .returned (.int .i64 3)/\Below w.heap.size w w':=eh (P:=fun _=>True) (.num d)
theorem x7 (s:ByteArray)(w:World):Calls Tryz.prog 53 #[.iface 60 (.string s)] w fun e w'=>e = .returned (.int .i64 4)/\Below w.heap.size w w':=eh (P:=fun _=>True) (.text s)
theorem xN (A:Option Addr)(w:World):Calls Tryz.prog 53 #[.iface 57 (.pointer A)] w fun e w'=>e = .returned (.int .i64 5)/\Below w.heap.size w w':=by
 go_enter Tryz.func53,Tryz.ntmps53;go_wp2_with fail;(with_reducible refine ep.mono ?_);rintro e w1 ⟨rfl,hb⟩;go_wp2_with fail;go_ret;exact⟨rfl,hb⟩
theorem Bj (A:Option Addr)(w:World):Calls Tryz.prog 53 #[.iface 119 (.pointer A)] w fun e w'=>e = .returned (.int .i64 6)/\Below w.heap.size w w':=by
 go_enter Tryz.func53,Tryz.ntmps53;go_wp2_with fail;(with_reducible refine gJ.mono ?_);rintro e w1 ⟨rfl,hb⟩;go_wp2_with fail;go_ret;exact⟨rfl,hb⟩
theorem zY:Calls Tryz.prog 30 #[.iface 58 (.agg #[]), .iface 58 (.agg #[])] w (iB 0 w):=by
 have H1:=Qa Cz;have k1:=qN;have k2:=rT;have k3:=ku;have k4:=iG;go_enter Tryz.func30,Tryz.ntmps30;go_wp2_with fail;(with_reducible refine(H1.out _).mono ?_);rintro e w1 ⟨rfl,a2⟩;have a1:=Qa a2;clear a2;go_wp2_with fail;(with_reducible refine(H1.out _).mono ?_);rintro e w2 ⟨rfl,a0⟩;have a3:=Qa (a1.out.trans (a0.mono a1.out.size));clear a0;go_wp2_with fail;(with_reducible refine bh.mono ?_);rintro e w3 ⟨rfl,rfl⟩;rw [show sg 1 1=0 from rfl];go_wp2_with fail;go_ret;exact⟨rfl,a3.out⟩
theorem Cl:Calls Tryz.prog 30 #[.iface 54 (.agg #[]), .iface 54 (.agg #[])] w (iB 0 w):=by
 have H1:=Qa C6;have k1:=qH;have k2:=um;have k3:=pS;have k4:=lF;go_enter Tryz.func30,Tryz.ntmps30;go_wp2_with fail;(with_reducible refine(H1.out _).mono ?_);rintro e w1 ⟨rfl,a2⟩;have a1:=Qa a2;clear a2;go_wp2_with fail;(with_reducible refine(H1.out _).mono ?_);rintro e w2 ⟨rfl,a0⟩;have a3:=Qa (a1.out.trans (a0.mono a1.out.size));clear a0;go_wp2_with fail;(with_reducible refine bh.mono ?_);rintro e w3 ⟨rfl,rfl⟩;rw [show sg 7 7=0 from rfl];go_wp2_with fail;go_ret;exact⟨rfl,a3.out⟩
theorem Cu (a b:Bool):Calls Tryz.prog 30 #[.iface 59 (.bool a), .iface 59 (.bool b)] w fun e w'=>iB (if a=b then 0 else if a then 1 else -1) w e w':=by
 have H1:=Qa (xE a);have H2:=Qa (xE b);have k1:=Dl;have k2:=Du;go_enter Tryz.func30,Tryz.ntmps30;go_wp2_with fail;(with_reducible refine(H1.out _).mono ?_);rintro e w1 ⟨rfl,a2⟩;have a1:=Qa a2;clear a2;go_wp2_with fail;(with_reducible refine(H2.out _).mono ?_);rintro e w2 ⟨rfl,a0⟩;have a3:=Qa (a1.out.trans (a0.mono a1.out.size));clear a0;go_wp2_with fail;(with_reducible refine bh.mono ?_);rintro e w3 ⟨rfl,rfl⟩;rw [show sg 2 2=0 from rfl]
 cases a <;> cases b
 all_goals
  go_wp2_with fail;go_ret;exact⟨rfl,a3.out⟩
theorem BK {a b:ByteArray}(ha:a.size<=9223372036854775807)(hb:b.size<=9223372036854775807)(hG:cG w aU aE):Calls Tryz.prog 30 #[.iface 60 (.string a), .iface 60 (.string b)] w fun e w'=>iB (aG (nm a) (nm b)) w e w':=by
 have H1:=Qa (x7 a);have H2:=Qa (x7 b);have k1:=rc;have k2:=sP;have k3:=xw;have k4:=Ei;have HL:=Qa (fun w1 (h:Below w.heap.size w w1)=>iE ha hb (hG.below h));clear hG ha hb;go_enter Tryz.func30,Tryz.ntmps30;go_wp2_with fail;(with_reducible refine(H1.out _).mono ?_);rintro e w1 ⟨rfl,a2⟩;have a4:=Qa a2;clear a2;go_wp2_with fail;(with_reducible refine(H2.out _).mono ?_);rintro e w2 ⟨rfl,a3⟩;have a0:=Qa (a4.out.trans (a3.mono a4.out.size));clear a3;go_wp2_with fail;(with_reducible refine bh.mono ?_);rintro e w3 ⟨rfl,rfl⟩;rw [show sg 4 4=0 from rfl];go_wp2_with fail;(with_reducible refine(HL.out w2 a0.out).mono ?_);rintro e w4 ⟨rfl,a1⟩;have a5:=Qa (a0.out.trans (a1.mono a0.out.size));clear a1;go_wp2_with fail;go_ret;exact⟨rfl,a5.out⟩
theorem D1 {a b:Dc}(ha:zX a)(hb:zX b):Calls Tryz.prog 30 #[.iface 50 (.agg #[.bool a.neg, .string a.digits, .int .i64 a.exp]), .iface 50 (.agg #[.bool b.neg, .string b.digits, .int .i64 b.exp])] w fun e w'=>iB (aG (fO a) (fO b)) w e w':=by
 have H1:=Qa (Bg a);have H2:=Qa (Bg b);have k1:=t7;have k2:=EK;have k3:=Fh;have HN:=Qa (fun w1=>sJ (w:=w1) ha hb);clear ha hb;go_enter Tryz.func30,Tryz.ntmps30;go_wp2_with fail;(with_reducible refine(H1.out _).mono ?_);rintro e w1 ⟨rfl,a3⟩;have a7:=Qa a3;clear a3;go_wp2_with fail;(with_reducible refine(H2.out _).mono ?_);rintro e w2 ⟨rfl,a5⟩;have a4:=Qa (a7.out.trans (a5.mono a7.out.size));clear a5;go_wp2_with fail;(with_reducible refine bh.mono ?_);rintro e w3 ⟨rfl,rfl⟩;rw [show sg 3 3=0 from rfl];go_wp2_with fail;have Ha:=Qa (ac w2 (.cells #[.bool a.neg, .string a.digits, .int .i64 a.exp] 50));have h0:=Ze w2 (.cells #[.bool a.neg, .string a.digits, .int .i64 a.exp] 50);have hs:=aa h0 (j:=0) (u:= .bool a.neg) rfl;have ht:=aa h0 (j:=1) (u:= .string a.digits) rfl;have hu:=aa h0 (j:=2) (u:= .int .i64 a.exp) rfl;obtain⟨w4,a6⟩:∃w4:World,w4=w2.alloc (.cells #[.bool a.neg, .string a.digits, .int .i64 a.exp] 50):=⟨_,rfl⟩;have a2:=Qa (a4.out.trans (Ha.out.mono a4.out.size));clear Ha;rw [<- a6] at a2 hs ht hu ⊢;generalize w2.heap.size=g at *;clear h0 a6;refine aW (fun w'=>w'.cell? ⟨g,0,none⟩=some (.bool a.neg)/\w'.cell? ⟨g,1,none⟩=some (.string a.digits)/\w'.cell? ⟨g,2,none⟩=some (.int .i64 a.exp)) (⟨hs,ht,hu⟩) fun a0=> ?_
 refine tH 0 a0 ?_;refine tH 1 a0 ?_;refine tH 2 a0 ?_
 try simp only [Act.put,jP,jQ,jR]
 refine rH 3 fun K hK=> ?_
 go_simp;(with_reducible refine(HN.out _).mono ?_);rintro e w5 ⟨rfl,a1⟩;refine hK.out _ _ (⟨Zf a1 a0.1,Zf a1 a0.2.1,Zf a1 a0.2.2⟩) (fun a0=> ?_);clear hK K
 try simp only [Act.put,jP,jQ,jR]
 refine tH 4 a0 ?_
 try simp only [Act.put,jP,jQ,jR]
 refine wpAnyH_done (by kernel_rfl) (NoPanic.normal ?_) _;have a9:=Qa ((a2.out.drew).trans (a1.mono (show w.heap.size<=w4.drew.heap.size from a2.out.size)));go_wp2_with fail;go_ret;exact⟨rfl,a9.out⟩
theorem Am {B:Option Addr}{c:Int}(HP:∀w1,Below w.heap.size w w1->Calls Tryz.prog 56 #[.iface 57 (.pointer A), .iface 57 (.pointer B), .bool false] w1 fun e w'=>e = .returned (.int .i64 c)/\Below w1.heap.size w1 w'):Calls Tryz.prog 30 #[.iface 57 (.pointer A), .iface 57 (.pointer B)] w (iB c w):=by
 have H1:=Qa (xN A);have H2:=Qa (xN B);have k1:=ru;have k2:=sf;have k3:=kx;have k4:=iR;have k5:=lR;have HL:=Qa HP;clear HP;go_enter Tryz.func30,Tryz.ntmps30;go_wp2_with fail;(with_reducible refine(H1.out _).mono ?_);rintro e w1 ⟨rfl,a1⟩;have a2:=Qa a1;clear a1;go_wp2_with fail;(with_reducible refine(H2.out _).mono ?_);rintro e w2 ⟨rfl,a3⟩;have a6:=Qa (a2.out.trans (a3.mono a2.out.size));clear a3;go_wp2_with fail;(with_reducible refine bh.mono ?_);rintro e w3 ⟨rfl,rfl⟩;rw [show sg 5 5=0 from rfl];go_wp2_with fail;refine aW (fun w'=>Below w.heap.size w w') (a6.out.drew) fun a0=> ?_
 refine tH 0 a0 ?_;refine tH 1 a0 ?_;refine tH 2 a0 ?_;refine tH 3 a0 ?_
 try simp only [Act.put,jP,jQ,jR]
 refine rH 4 fun K hK=> ?_
 go_simp;(with_reducible refine(H1.out _).mono ?_);rintro e w4 ⟨rfl,a4⟩;refine hK.out _ _ (a0.trans (a4.mono a0.size)) (fun a0=> ?_);clear hK K
 try simp only [Act.put,jP,jQ,jR]
 refine tH 5 a0 ?_
 try simp only [Act.put,jP,jQ,jR]
 refine rH 6 fun K hK=> ?_
 go_simp;(with_reducible refine(HL.out _ a0).mono ?_);rintro e w5 ⟨rfl,a5⟩;refine hK.out _ _ (a0.trans (a5.mono a0.size)) (fun a0=> ?_);clear hK K
 try simp only [Act.put,jP,jQ,jR]
 refine tH 7 a0 ?_
 try simp only [Act.put,jP,jQ,jR]
 refine wpAnyH_done (by kernel_rfl) (NoPanic.normal ?_) _;have a7:=Qa a0;go_wp2_with fail;go_ret;exact⟨rfl,a7.out⟩
theorem Ea {B:Option Addr}{c:Int}(HP:∀w1,Below w.heap.size w w1->Calls Tryz.prog 56 #[.iface 119 (.pointer A), .iface 119 (.pointer B), .bool true] w1 fun e w'=>e = .returned (.int .i64 c)/\Below w1.heap.size w1 w'):Calls Tryz.prog 30 #[.iface 119 (.pointer A), .iface 119 (.pointer B)] w (iB c w):=by
 have H1:=Qa (Bj A);have H2:=Qa (Bj B);have k1:=uE;have k2:=xc;have k3:=lD;have k4:=jX;have k5:=nG;have HL:=Qa HP;clear HP;go_enter Tryz.func30,Tryz.ntmps30;go_wp2_with fail;(with_reducible refine(H1.out _).mono ?_);rintro e w1 ⟨rfl,a1⟩;have a2:=Qa a1;clear a1;go_wp2_with fail;(with_reducible refine(H2.out _).mono ?_);rintro e w2 ⟨rfl,a3⟩;have a6:=Qa (a2.out.trans (a3.mono a2.out.size));clear a3;go_wp2_with fail;(with_reducible refine bh.mono ?_);rintro e w3 ⟨rfl,rfl⟩;rw [show sg 6 6=0 from rfl];go_wp2_with fail;refine aW (fun w'=>Below w.heap.size w w') (a6.out.drew) fun a0=> ?_
 refine tH 0 a0 ?_;refine tH 1 a0 ?_;refine tH 2 a0 ?_;refine tH 3 a0 ?_
 try simp only [Act.put,jP,jQ,jR]
 refine rH 4 fun K hK=> ?_
 go_simp;(with_reducible refine(H1.out _).mono ?_);rintro e w4 ⟨rfl,a4⟩;refine hK.out _ _ (a0.trans (a4.mono a0.size)) (fun a0=> ?_);clear hK K
 try simp only [Act.put,jP,jQ,jR]
 refine tH 5 a0 ?_
 try simp only [Act.put,jP,jQ,jR]
 refine rH 6 fun K hK=> ?_
 go_simp;(with_reducible refine(HL.out _ a0).mono ?_);rintro e w5 ⟨rfl,a5⟩;refine hK.out _ _ (a0.trans (a5.mono a0.size)) (fun a0=> ?_);clear hK K
 try simp only [Act.put,jP,jQ,jR]
 refine tH 7 a0 ?_
 try simp only [Act.put,jP,jQ,jR]
 refine wpAnyH_done (by kernel_rfl) (NoPanic.normal ?_) _;have a7:=Qa a0;go_wp2_with fail;go_ret;exact⟨rfl,a7.out⟩
theorem dk.bd (h:dk P w A us ks):us.length<=maxLen:=by
 rcases h with ⟨-,rfl,rfl⟩ | ⟨g,R,c,e,hg,hr,hl⟩
 ·exact Zj _
 ·exact Zb hr.2.1 hr.2.2.1
theorem eS.bd (h:eS P w A us ns ks):us.length<=maxLen:=by
 obtain⟨g,R,c,e,hg,hr,hl⟩:=h;exact Zb hr.2.1 hr.2.2.1
theorem pw {B:Option Addr}{t:Bool}{x:ByteArray}{n:Dc}(ha:dk P w A us ks)(hb:dk Q w B us' ks')(hT:dt w)(h1:Below w.heap.size w w1)
  (H:∀ (i:Nat) u u' k k',us[i]?=some u->ks[i]?=some k->us'[i]?=some u'->ks'[i]?=some k'->∀w1,Below w.heap.size w w1->Calls Tryz.prog 30 #[u,u'] w1 (iB (ee k k') w1)) :
  Calls Tryz.prog 30 #[.iface 57 (.pointer A), .iface 57 (.pointer B)] w1 fun e w'=>iB (ee (.mk 5 t x n [] ks) (.mk 5 t' x' n' [] ks')) w1 e w':=by
 rw [nC (by decide) (by decide) (by decide)];refine Am fun w2 h2=> ?_
 have h3:=h1.trans (h2.mono h1.size);refine wL (ha.below h3) (hb.below h3) (hT.below h3) ha.bd hb.bd fun i u u' k k' e1 e2 e3 e4 w4 h4=> ?_
 exact H i u u' k k' e1 e2 e3 e4 w4 (h3.trans (h4.mono h3.size))
theorem Aj {B:Option Addr}{t:Bool}{x:ByteArray}{n:Dc}(ha:eS P w A us ns ks)(hb:eS Q w B us' ns' ks')(hT:cG w aU aE)(hz:∀n∈ns,n.size<=9223372036854775807)(a0:∀n∈ns',n.size<=9223372036854775807)(h1:Below w.heap.size w w1)
  (H:∀ (i:Nat) u u' k k',us[i]?=some u->ks[i]?=some k->us'[i]?=some u'->ks'[i]?=some k'->∀w1,Below w.heap.size w w1->Calls Tryz.prog 30 #[u,u'] w1 (iB (ee k k') w1)) :
  Calls Tryz.prog 30 #[.iface 119 (.pointer A), .iface 119 (.pointer B)] w1 fun e w'=>iB (ee (.mk 6 t x n ns ks) (.mk 6 t' x' n' ns' ks')) w1 e w':=by
 rw [nC (by decide) (by decide) (by decide)];refine Ea fun w2 h2=> ?_
 have h3:=h1.trans (h2.mono h1.size);refine zk (ha.below h3) (hb.below h3) (hT.below h3) hz a0 ha.bd hb.bd fun i u u' k k' e1 e2 e3 e4 w4 h4=> ?_
 exact H i u u' k k' e1 e2 e3 e4 w4 (h3.trans (h4.mono h3.size))
theorem JB.kids {k:Int}{t:Bool}{x:ByteArray}(h:JB (.mk k t x d ns ks)):x.size<=9223372036854775807/\zX d/\(∀n∈ns,n.size<=9223372036854775807)/\∀u∈ks,JB u:=by
 cases h with
 | mk _ _ _ _ _ _ h1 h2 h3 h4=>exact⟨h1,h2,h3,h4⟩
theorem rN {a:JV}(ha:VW P w v a)(hT:dt w)(hG:cG w aU aE)(ja:JB a):∀ {Q:Nat->Prop} {v':Value} {b:JV},VW Q w v' b->JB b->∀w1,Below w.heap.size w w1->Calls Tryz.prog 30 #[v,v'] w1 (iB (ee a b) w1):=by
 induction ha with
 | null=>
  intro Q v' b hb jb w1 h1
  by_cases hk:b.kindOf=1
  ·cases hb with
   | null=>exact zY
   | bool | num | text | hole | bare | list | obj=>simp [JV.kindOf] at hk
  ·exact eJ (P:=P) (Q:=Q) .null (hb.later h1) (fun e=>hk e.symm)
 | hole=>
  intro Q v' b hb jb w1 h1
  by_cases hk:b.kindOf=7
  ·cases hb with
   | hole=>exact Cl
   | bool | num | text | null | bare | list | obj=>simp [JV.kindOf] at hk
  ·exact eJ (P:=P) (Q:=Q) .hole (hb.later h1) (fun e=>hk e.symm)
 | bool x=>
  intro Q v' b hb jb w1 h1
  by_cases hk:b.kindOf=2
  ·cases hb with
   | bool y=>rw [yt];exact Cu x y
   | hole | num | text | null | bare | list | obj=>simp [JV.kindOf] at hk
  ·exact eJ (P:=P) (Q:=Q) (.bool x) (hb.later h1) (fun e=>hk e.symm)
 | num d=>
  intro Q v' b hb jb w1 h1
  by_cases hk:b.kindOf=3
  ·cases hb with
   | num y=>rw [AM];exact D1 ja.kids.2.1 jb.kids.2.1
   | hole | bool | text | null | bare | list | obj=>simp [JV.kindOf] at hk
  ·exact eJ (P:=P) (Q:=Q) (.num d) (hb.later h1) (fun e=>hk e.symm)
 | text s=>
  intro Q v' b hb jb w1 h1
  by_cases hk:b.kindOf=4
  ·cases hb with
   | text y=>rw [zz];exact BK ja.kids.1 jb.kids.1 (hG.below h1)
   | hole | bool | num | null | bare | list | obj=>simp [JV.kindOf] at hk
  ·exact eJ (P:=P) (Q:=Q) (.text s) (hb.later h1) (fun e=>hk e.symm)
 | bare=>
  intro Q v' b hb jb w1 h1
  by_cases hk:b.kindOf=5
  ·obtain⟨k',t',x',n',ns',ks'⟩:=b
   simp only [JV.kindOf] at hk;subst hk;obtain rfl:ns' = []:=by cases hb <;> rfl
   obtain⟨B,us',rfl,hL,hK⟩:=hb.asList;refine pw (P:=P) (us:= []) (.inl ⟨rfl,rfl,rfl⟩) hL hT h1 fun i u u' k k' e1=> ?_
   simp at e1
  ·exact eJ (P:=P) (Q:=Q) .bare (hb.later h1) (fun e=>hk e.symm)
 | list g A c us ks hp hg hr hl hks ih=>
  intro Q v' b hb jb w1 h1
  by_cases hk:b.kindOf=5
  ·obtain⟨k',t',x',n',ns',ks'⟩:=b
   simp only [JV.kindOf] at hk;subst hk;obtain rfl:ns' = []:=by cases hb <;> rfl
   obtain⟨B,us',rfl,hL,hK⟩:=hb.asList;refine pw (P:=P) (.inr ⟨g,A,c,rfl,hg,hr,hl⟩) hL hT h1 fun i u u' k k' e1 e2 e3 e4 w2 h2=> ?_
   exact ih i u k e1 e2 (ja.kids.2.2.2 k (Zk e2)) (hK i u' k' e3 e4) (jb.kids.2.2.2 k' (Zk e4)) w2 h2
  ·exact eJ (P:=P) (Q:=Q) ((VW.list g A c us ks hp hg hr hl hks).later h1) (hb.later h1) (fun e=>hk e.symm)
 | obj g A c us ns ks hp hg hr hl hn hks ih=>
  intro Q v' b hb jb w1 h1
  by_cases hk:b.kindOf=6
  ·obtain⟨k',t',x',n',ns',ks'⟩:=b
   simp only [JV.kindOf] at hk;subst hk;obtain⟨B,us',rfl,hL,hK⟩:=hb.asObj;refine Aj (P:=P) ⟨g,A,c,rfl,hg,hr,hl,hn⟩ hL hG ja.kids.2.2.1 jb.kids.2.2.1 h1 fun i u u' k k' e1 e2 e3 e4 w2 h2=> ?_
   exact ih i u k e1 e2 (ja.kids.2.2.2 k (Zk e2)) (hK i u' k' e3 e4) (jb.kids.2.2.2 k' (Zk e4)) w2 h2
  ·exact eJ (P:=P) (Q:=Q) ((VW.obj g A c us ns ks hp hg hr hl hn hks).later h1) (hb.later h1) (fun e=>hk e.symm)
theorem rq (x:Value)(W:World): (Instr.typeAssert (.iface 57 x) 32 131 true).run Tryz.prog W = .ok (.tuple #[.nilIface, .bool false]) W:=run_typeAssert_lacksB Tryz.underlying131 (by kernel_rfl) (by kernel_rfl) x _ W
theorem p7 (x:Value)(W:World): (Instr.typeAssert (.iface 57 x) 32 57 true).run Tryz.prog W = .ok (.tuple #[x, .bool true]) W:=by kernel_rfl
def ef (o:Bool)(full:List UInt8)(tail:UInt8)(ns:List ByteArray)(ks:List JV)(i:Nat)(ys:List UInt8):Prop:=ys++ (JV.txts o (decide (i=0)) (ns.drop i) (ks.drop i) ++ [tail])=full
theorem ef.next {tail:UInt8}{k:JV}(h:ef false full tail [] ks i ys)(hk:ks[i]?=some k):ef false full tail [] ks (i+1) (ys++ ((if i=0 then [] else [44])++JV.txt k)):=by
 unfold ef at h ⊢;obtain⟨h1,h2⟩:=List.getElem?_eq_some_iff.1 hk;rw [List.drop_eq_getElem_cons h1,h2] at h;rw [<- h]
 conv=>rhs;unfold JV.txts
 by_cases e:i=0 <;> simp [e]
theorem ef.stop {tail:UInt8}(h:ef o full tail ns ks ks.length ys):ys ++ [tail]=full:=by
 unfold ef at h;rw [List.drop_length] at h;unfold JV.txts at h;exact h
theorem ef.le {tail:UInt8}(h:ef o full tail ns ks i ys):ys.length+1<=full.length:=by
 unfold ef at h;rw [<- h];simp
def xM (W:World)(o:Bool)(full:List UInt8)(tail:UInt8)(ns:List ByteArray)(ks:List JV)(s0 s38:Value)(wr:World):Prop:= ∃ (i:Nat) (ys:List UInt8),s38 = .int .i64 i/\i<=ks.length/\au wr W.heap.size s0 ys/\Below W.heap.size W wr/\ef o full tail ns ks i ys
theorem au.lit (c:UInt8)(h:au w W.heap.size u xs)(hb:Below W.heap.size W w):au (w.alloc (.cells #[.int .u8 c.toNat] 5)) W.heap.size u xs/\Bs (w.alloc (.cells #[.int .u8 c.toNat] 5)) (.slice (some ⟨w.heap.size,0,none⟩) 1 1) [c]/\Below W.heap.size W (w.alloc (.cells #[.int .u8 c.toNat] 5)):=
 ⟨h.below (ac w _) (Za _),ls w [c] (by simp),hb.trans ((ac w _).mono hb.size)⟩
theorem pC (h:dk P W A us ks)(hT:dt W)(hb:Below W.heap.size W w)(ho:au w W.heap.size u xs)(hx:xs.length+ (91:: (JV.txts false true [] ks ++ [93])).length<=140737488355328)
  (H:∀ (i:Nat) v k,us[i]?=some v->ks[i]?=some k->∀w1 u1 xs1,Below W.heap.size W w1->au w1 W.heap.size u1 xs1->xs1.length+ (JV.txt k).length<=140737488355328->Calls Tryz.prog 28 #[u1,v] w1 (kO W (xs1++JV.txt k))) :
  Calls Tryz.prog 28 #[u, .iface 57 (.pointer A)] w fun e w'=>kO W (xs++ (91:: (JV.txts false true [] ks ++ [93]))) e w':=by
 have k1:=kx;have k2:=rq;have k3:=p7;have hl:=h.len;have d3:=h.bd;unfold maxLen at d3;obtain⟨q1,q2,q3⟩:=ho.lit 91 hb;have b7:=Qa q1;have c5:=Qa q2;have b1:=Qa q3;have HH:=Qa H;have Hh:=Qa h;have HT:=Qa hT;obtain⟨A0,q0,rfl, -⟩:=ag ho;have Hx:=Qa hx;have d1:=Qa (show xs.length+ ([91]:List UInt8).length<=140737488355328 by simp at hx ⊢;omega);obtain⟨full,a0⟩:∃full,xs++ (91:: (JV.txts false true [] ks ++ [93]))=full:=⟨_,rfl⟩;have Hf:Hid (ef false full 93 [] ks 0 (xs ++ [91])):=Qa (by unfold ef;rw [<- a0];simp);have c4:=Qa (show full.length<=140737488355328 by rw [<- a0,List.length_append];exact hx);rw [a0];have a7:=Qa hl;have d5:=Qa (fun w1 (hw:Below W.heap.size W w1)=>dU (h.below hw));clear q1 q2 q3 ho hb h hT H hx a0 hl;generalize hn:us.length=n at *;have Hn:=Qa hn;clear hn;go_enter Tryz.func28,Tryz.ntmps28;go_wp2_with (at_builtin;refine aA rfl (.tmp 33) (.tmp 34) rfl W.heap.size (.slice A0 xs.length q0) (.slice (some ⟨w.heap.size,0,none⟩) 1 1) xs [91] (by simp [Act.eval]) b7.out (by simp [Act.eval]) c5.out d1.out b1.out.size ?_;intro v' w3 h1 h2 h3;have HK:=Qa h1;have a4:=Qa h2;clear h1 h2 h3);generalize hz:xs ++ [91]=zs at *;clear hz;have Hb3:=Qa (b1.out.grown a4.out b1.out.size (fun g e=>(au.blk b7.out e).1));have Ho3:=Qa HK.out;obtain⟨A3,q3,rfl, -⟩:=ag HK.out;have c8:=Qa (d5.out w3 Hb3.out);clear HK a4 b7 c5 b1 Hx d1;go_wp2_with fail;(with_reducible refine c8.out.mono ?_);rintro e w4 ⟨rfl,rfl⟩;go_wp2_with fail;clear c8
 go_loopw [0,38] (fun s0 s38 wr=>xM W false full 93 [] ks s0 s38 wr) (fun _ s38 _=>n - (intOf s38).toNat)
 case atStart=>exact⟨0,_,rfl,Zj _,Ho3.out,Hb3.out,Hf.out⟩
 case round=>
  clear Hf Ho3 Hb3;obtain⟨i,ys,rfl,hi,ho,hb,hf⟩:=hrel;have Ho:=Qa ho;have Hb:=Qa hb;have Hf:=Qa hf;have Hi:=Qa hi;obtain⟨A4,q4,rfl, -⟩:=ag ho;have c6:ys.length+1<=140737488355328:=by have:=hf.le;have:=c4.out;omega
  have c7:=Qa c6;clear ho hb hf hi c6
  by_cases hin:i<n
  ·have d2:i<us.length:=by have:=Hn.out;omega
   have c2:i<ks.length:=by have:=a7.out;omega
   obtain⟨v,hv⟩:∃u,us[i]?=some u:=⟨_,Zc d2⟩;obtain⟨k,hk⟩:∃u,ks[i]?=some u:=⟨_,Zc c2⟩;have b4:=Hf.out.next hk;have b2:=Qa b4;have hle:=b4.le;have Hp:=Qa (fun w5 (hw:Below W.heap.size W w5)=>en (Hh.out.below hw) (HT.out.below hw) i hv);have Hc:=Qa (HH.out i v k hv hk);have hkl: (ys++if i=0 then [] else [44]).length+ (JV.txt k).length<=140737488355328:=by
    have h1:=c4.out;rw [List.length_append,List.length_append] at hle;rw [List.length_append];omega
   have b3:=Qa hkl;have d0:=Qa c2;have h': (i:Int)<n:=by omega
   have w1:IntKind.i64.wrap ((i:Int)+1)= (i:Int)+1:=IntWalk.i64_in _ (by omega);clear b4 hle hkl d2 c2 hv hk Hf
   by_cases hi0:i=0
   ·subst hi0
    rw [if_pos rfl,List.append_nil] at b3;rw [if_pos rfl,List.nil_append] at b2;go_wp2_with fail;have c3:=Qa (show Calls Tryz.prog 48 #[.pointer A, .int .i64 0] wr (fun e w'=>e = .returned (.tuple #[.string ⟨(Lib.itoa (0:Nat)).toArray⟩,v])/\Below wr.heap.size wr w') from Hp.out wr Hb.out);(with_reducible refine c3.out.mono ?_);rintro e w6 ⟨rfl,a1⟩;have b8:=Qa (Hb.out.trans (a1.mono Hb.out.size));have c1:=Qa (Hc.out w6 _ _ b8.out (Ho.out.below a1 (Za _)) b3.out);clear a1;go_wp2_with fail;(with_reducible refine c1.out.mono ?_);rintro e w7 ⟨v7,rfl,a5,b0⟩;have b9:=Qa a5;have c0:=Qa b0;generalize hr:ys++JV.txt k=rs at *;clear hr;obtain⟨A7,q7,rfl, -⟩:=ag a5;clear a5 b0;go_wp2_with fail;refine⟨⟨1,_,rfl,d0.out,b9.out,c0.out,b2.out⟩, ?_⟩
    show n - ((0:Int)+1).toNat<n - ((0:Int)).toNat
    omega
   ·have d6: (0:Int)<i:=by omega
    rw [if_neg hi0] at b3 b2;clear hi0;obtain⟨r1,r2,r3⟩:=Ho.out.lit 44 Hb.out;have a9:=Qa r1;have b5:=Qa r2;have a3:=Qa r3;have a2:=Qa (show ys.length+ ([44]:List UInt8).length<=140737488355328 from c7.out);clear r1 r2 r3;go_wp2_with (at_builtin;refine aA rfl (.tmp 43) (.tmp 44) rfl W.heap.size (.slice A4 ys.length q4) (.slice (some ⟨wr.heap.size,0,none⟩) 1 1) ys [44] (by simp [Act.eval]) a9.out (by simp [Act.eval]) b5.out a2.out a3.out.size ?_;intro v' w5 h1 h2 h3;have HK:=Qa h1;have a4:=Qa h2;clear h1 h2 h3);generalize hz:ys ++ [44]=zs at *;have Hz:=Qa hz;clear hz;have a6:=Qa (a3.out.grown a4.out a3.out.size (fun g e=>(au.blk a9.out e).1));have d4:=Qa HK.out;obtain⟨A5,q5,rfl, -⟩:=ag HK.out;have c3:=Qa (Hp.out w5 a6.out);clear HK a4;go_wp2_with fail;(with_reducible refine c3.out.mono ?_);rintro e w6 ⟨rfl,a1⟩;have b8:=Qa (a6.out.trans (a1.mono a6.out.size));have c1:=Qa (Hc.out w6 _ _ b8.out (d4.out.below a1 (Za _)) b3.out);clear a1;go_wp2_with fail;(with_reducible refine c1.out.mono ?_);rintro e w7 ⟨v7,rfl,a5,b0⟩;have b9:=Qa a5;have c0:=Qa b0;generalize hr:zs++JV.txt k=rs at *;have Hr:=Qa hr;clear hr;obtain⟨A7,q7,rfl, -⟩:=ag a5;clear a5 b0;go_wp2_with fail;refine⟨⟨i+1,_,rfl,d0.out,b9.out,c0.out,by rw [<- Hr.out,<- Hz.out,List.append_assoc];exact b2.out⟩, ?_⟩
    show n - ((i:Int)+1).toNat<n - ((i:Int)).toNat
    omega
  ·have h':¬ (i:Int)<n:=by omega
   have c9:i=ks.length:=by have:=Hi.out;have:=a7.out;omega
   have b6:=Qa (show ys ++ [93]=full by have:=Hf.out;rw [c9] at this;exact this.stop);clear c9 Hf;obtain⟨r1,r2,r3⟩:=Ho.out.lit 93 Hb.out;have a9:=Qa r1;have b5:=Qa r2;have a3:=Qa r3;have a2:=Qa (show ys.length+ ([93]:List UInt8).length<=140737488355328 from c7.out);clear r1 r2 r3;go_wp2_with (at_builtin;refine aA rfl (.tmp 56) (.tmp 57) rfl W.heap.size (.slice A4 ys.length q4) (.slice (some ⟨wr.heap.size,0,none⟩) 1 1) ys [93] (by simp [Act.eval]) a9.out (by simp [Act.eval]) b5.out a2.out a3.out.size ?_;intro v' w5 h1 h2 h3;have HK:=Qa h1;have a4:=Qa h2;clear h1 h2 h3);have a6:=Qa (a3.out.grown a4.out a3.out.size (fun g e=>(au.blk a9.out e).1));rw [b6.out] at HK;obtain⟨A5,q5,rfl, -⟩:=ag HK.out;go_ret;exact⟨_,rfl,HK.out,a6.out⟩
