import Derived.Test.YtibmppoeeppnoaaGreatDoorGZ4bn
import Derived.Lib.ItoaLen
set_option linter.unusedVariables false
set_option linter.unusedSimpArgs false
set_option maxHeartbeats 64000000
set_option maxRecDepth 100000
namespace Go.Proofs.YtibmppoeeppnoaaGreatDoor
open Go.RowKit Go.Shelf
variable {aE aU:Addr}{t':Bool}{s x':ByteArray}{d n':Dc}{j:JV}{ns ns':List ByteArray}{ks ks':List JV}{xs:List UInt8}{us us':List Value}{P Q:Nat->Prop}{A:Option Addr}{t ty:TypeId}{u v v' x:Value}{W w w1:World}
theorem iq {P:Program}{asserted:TypeId}{want:Array (String×TypeId)}(hu:P.underlying asserted=some (.interface want))(h:(P.info? t).map (fun i=>(lacking want i.methods).isEmpty)=some true)(v:Value)(xT:TypeId)(w:World):(Instr.typeAssert (.iface t v) xT asserted false).run P w =.ok (.iface t v) w:=by
 obtain⟨i,hi,hl⟩:=Option.map_eq_some_iff.1 h;simp[Instr.typeAssert,run_underlying hu,typeInfo,hi,missingMethod_none (List.isEmpty_iff.1 hl)]
theorem qL (x:Value)(W:World):(Instr.typeAssert (.iface 45 x) 41 54 true).run Tryz.prog W =.ok (.tuple #[.bool false,.bool false]) W:=by kernel_rfl
theorem sU (x:Value)(W:World):(Instr.typeAssert (.iface 45 x) 41 128 true).run Tryz.prog W =.ok (.tuple #[.agg #[.bool false,.string ⟨#[]⟩,.int .i64 0],.bool false]) W:=by kernel_rfl
theorem kz (x:Value)(W:World):(Instr.typeAssert (.iface 45 x) 41 55 true).run Tryz.prog W =.ok (.tuple #[.string ⟨#[]⟩,.bool false]) W:=by kernel_rfl
theorem iN (x:Value)(W:World):(Instr.typeAssert (.iface 45 x) 41 113 true).run Tryz.prog W =.ok (.tuple #[.nilIface,.bool false]) W:=run_typeAssert_lacksB Tryz.underlying113 (by kernel_rfl) (by kernel_rfl) x _ W
theorem DT (x:Value)(W:World):(Instr.typeAssert (.iface 54 x) 41 54 true).run Tryz.prog W =.ok (.tuple #[x,.bool true]) W:=by kernel_rfl
theorem Ep (x:Value)(W:World):(Instr.typeAssert (.iface 54 x) 41 54 false).run Tryz.prog W =.ok x W:=by kernel_rfl
theorem rz (x:Value)(W:World):(Instr.typeAssert (.iface 54 x) 41 55 true).run Tryz.prog W =.ok (.tuple #[.string ⟨#[]⟩,.bool false]) W:=by kernel_rfl
theorem mg (x:Value)(W:World):(Instr.typeAssert (.iface 54 x) 41 113 true).run Tryz.prog W =.ok (.tuple #[.nilIface,.bool false]) W:=run_typeAssert_lacksB Tryz.underlying113 (by kernel_rfl) (by kernel_rfl) x _ W
theorem ue (x:Value)(W:World):(Instr.typeAssert (.iface 128 x) 41 54 true).run Tryz.prog W =.ok (.tuple #[.bool false,.bool false]) W:=by kernel_rfl
theorem Fe (x:Value)(W:World):(Instr.typeAssert (.iface 128 x) 41 128 true).run Tryz.prog W =.ok (.tuple #[x,.bool true]) W:=by kernel_rfl
theorem FZ (x:Value)(W:World):(Instr.typeAssert (.iface 128 x) 41 128 false).run Tryz.prog W =.ok x W:=by kernel_rfl
theorem uJ (x:Value)(W:World):(Instr.typeAssert (.iface 128 x) 41 55 true).run Tryz.prog W =.ok (.tuple #[.string ⟨#[]⟩,.bool false]) W:=by kernel_rfl
theorem mT (x:Value)(W:World):(Instr.typeAssert (.iface 128 x) 41 113 true).run Tryz.prog W =.ok (.tuple #[.nilIface,.bool false]) W:=run_typeAssert_lacksB Tryz.underlying113 (by kernel_rfl) (by kernel_rfl) x _ W
theorem qH (x:Value)(W:World):(Instr.typeAssert (.iface 55 x) 41 54 true).run Tryz.prog W =.ok (.tuple #[.bool false,.bool false]) W:=by kernel_rfl
theorem uB (x:Value)(W:World):(Instr.typeAssert (.iface 55 x) 41 128 true).run Tryz.prog W =.ok (.tuple #[.agg #[.bool false,.string ⟨#[]⟩,.int .i64 0],.bool false]) W:=by kernel_rfl
theorem ym (x:Value)(W:World):(Instr.typeAssert (.iface 55 x) 41 55 true).run Tryz.prog W =.ok (.tuple #[x,.bool true]) W:=by kernel_rfl
theorem Eo (x:Value)(W:World):(Instr.typeAssert (.iface 55 x) 41 55 false).run Tryz.prog W =.ok x W:=by kernel_rfl
theorem lS (x:Value)(W:World):(Instr.typeAssert (.iface 55 x) 41 113 true).run Tryz.prog W =.ok (.tuple #[.nilIface,.bool false]) W:=run_typeAssert_lacksB Tryz.underlying113 (by kernel_rfl) (by kernel_rfl) x _ W
theorem qO (x:Value)(W:World):(Instr.typeAssert (.iface 49 x) 41 54 true).run Tryz.prog W =.ok (.tuple #[.bool false,.bool false]) W:=by kernel_rfl
theorem uH (x:Value)(W:World):(Instr.typeAssert (.iface 49 x) 41 128 true).run Tryz.prog W =.ok (.tuple #[.agg #[.bool false,.string ⟨#[]⟩,.int .i64 0],.bool false]) W:=by kernel_rfl
theorem qC (x:Value)(W:World):(Instr.typeAssert (.iface 49 x) 41 55 true).run Tryz.prog W =.ok (.tuple #[.string ⟨#[]⟩,.bool false]) W:=by kernel_rfl
theorem me (x:Value)(W:World):(Instr.typeAssert (.iface 49 x) 41 113 true).run Tryz.prog W =.ok (.tuple #[.nilIface,.bool false]) W:=run_typeAssert_lacksB Tryz.underlying113 (by kernel_rfl) (by kernel_rfl) x _ W
theorem qr (x:Value)(W:World):(Instr.typeAssert (.iface 52 x) 41 54 true).run Tryz.prog W =.ok (.tuple #[.bool false,.bool false]) W:=by kernel_rfl
theorem uX (x:Value)(W:World):(Instr.typeAssert (.iface 52 x) 41 128 true).run Tryz.prog W =.ok (.tuple #[.agg #[.bool false,.string ⟨#[]⟩,.int .i64 0],.bool false]) W:=by kernel_rfl
theorem kh (x:Value)(W:World):(Instr.typeAssert (.iface 52 x) 41 55 true).run Tryz.prog W =.ok (.tuple #[.string ⟨#[]⟩,.bool false]) W:=by kernel_rfl
theorem iF (x:Value)(W:World):(Instr.typeAssert (.iface 52 x) 41 113 true).run Tryz.prog W =.ok (.tuple #[.iface 52 x,.bool true]) W:=run_typeAssert_hasB Tryz.underlying113 (by kernel_rfl) x _ W
theorem lF (x:Value)(W:World):(Instr.typeAssert (.iface 52 x) 41 113 false).run Tryz.prog W =.ok (.iface 52 x) W:=iq Tryz.underlying113 (by kernel_rfl) x _ W
theorem uy (x:Value)(W:World):(Instr.typeAssert (.iface 124 x) 41 54 true).run Tryz.prog W =.ok (.tuple #[.bool false,.bool false]) W:=by kernel_rfl
theorem xQ (x:Value)(W:World):(Instr.typeAssert (.iface 124 x) 41 128 true).run Tryz.prog W =.ok (.tuple #[.agg #[.bool false,.string ⟨#[]⟩,.int .i64 0],.bool false]) W:=by kernel_rfl
theorem lX (x:Value)(W:World):(Instr.typeAssert (.iface 124 x) 41 55 true).run Tryz.prog W =.ok (.tuple #[.string ⟨#[]⟩,.bool false]) W:=by kernel_rfl
theorem jM (x:Value)(W:World):(Instr.typeAssert (.iface 124 x) 41 113 true).run Tryz.prog W =.ok (.tuple #[.iface 124 x,.bool true]) W:=run_typeAssert_hasB Tryz.underlying113 (by kernel_rfl) x _ W
theorem ox (x:Value)(W:World):(Instr.typeAssert (.iface 124 x) 41 113 false).run Tryz.prog W =.ok (.iface 124 x) W:=iq Tryz.underlying113 (by kernel_rfl) x _ W
theorem pF {d:Nat}{op:Op}{pos:String}{af:Array Edge}{gu:Option (Nat×Bool)}{a:Act}{K:Act->World->Prop}{Q':Exit->Act->World->Prop}(h:VW P w v j)(hv:v =.iface t x)(k:∀w',Below w.heap.size w w'->K (a.put (some d) (.int .i64 j.kindOf)) w'):Oper.upon Tryz.prog {dst:=some d,op:=op,type:=ty,pos:=pos,after:=af,guard:=gu} a K Q' ((Sem.run Tryz.prog (method 524 t x "Kind") w).andThen fun a w'=>Sem.run Tryz.prog (callFunc a.fst #[a.snd]) w'):=by
 cases h <;> (injection hv with e1 e2;subst e1 e2)
 all_goals
  go_wp2_with fail;(with_reducible first|refine gI.mono ?_|refine gQ.mono ?_|refine iZ.mono ?_|refine gw.mono ?_|refine gv.mono ?_|refine em.mono ?_|refine gG.mono ?_);rintro e w1 ⟨rfl,a0⟩;exact k w1 a0
theorem fS {a b:JV}(ha:VW P w v a)(hb:VW Q w v' b)(hd:a.kindOf≠b.kindOf):Calls Tryz.prog 52 #[v,v'] w fun e w'=>e =.returned (.bool false)/\Below w.heap.size w w':=by
 obtain⟨t1,x1,rfl⟩:=ha.iface;obtain⟨t2,x2,rfl⟩:=hb.iface;have Ha:=Qa ha;have Hb:=Qa (fun w1 (h:Below w.heap.size w w1)=>hb.later h);have a4:(a.kindOf==b.kindOf)=false:=by simpa using hd
 clear ha hb hd;go_enter Tryz.func52,Tryz.ntmps52;go_wp2_with fail;refine pF Ha.out rfl fun w1 a2=>?_
 have a0:=Qa a2;clear a2;go_wp2_with fail;refine pF (Hb.out w1 a0.out) rfl fun w2 a1=>?_
 have a3:=Qa (a0.out.trans (a1.mono a0.out.size));clear a1;go_wp2_with fail;go_ret;exact⟨rfl,a3.out⟩
def ld (l:List UInt8):ByteArray:=⟨l.toArray⟩
theorem o9:Calls Tryz.prog 280 #[.agg #[]] w fun e w'=>e =.returned (.string (ld [110,117,108,108]))/\Below w.heap.size w w':=by
 go_enter Tryz.func280,Tryz.ntmps280;go_wp2_with fail;go_ret;exact⟨rfl,ac w _⟩
theorem zw (b:Bool):Calls Tryz.prog 287 #[.bool b] w fun e w'=>e =.returned (.string (ld (if b then [116,114,117,101] else [102,97,108,115,101])))/\w=w':=by
 cases b
 all_goals
  go_enter Tryz.func287,Tryz.ntmps287;go_wp2_with fail;go_ret;exact⟨rfl,rfl⟩
theorem Bv (b:Bool):Calls Tryz.prog 286 #[.bool b] w fun e w'=>e =.returned (.string (ld (if b then [116,114,117,101] else [102,97,108,115,101])))/\w=w':=by
 have H:=Qa (zw (w:=w) b);generalize ld (if b then [116,114,117,101] else [102,97,108,115,101])=s at *;go_enter Tryz.func286,Tryz.ntmps286;go_wp2_with fail;(with_reducible refine H.out.mono ?_);rintro e w1 ⟨rfl,rfl⟩;go_wp2_with fail;go_ret;exact⟨rfl,rfl⟩
theorem oT (b:Bool):Calls Tryz.prog 284 #[.bool b] w fun e w'=>e =.returned (.string (ld (if b then [116,114,117,101] else [102,97,108,115,101])))/\Below w.heap.size w w':=by
 have H:=Qa (Bv (w:=w) b);generalize ld (if b then [116,114,117,101] else [102,97,108,115,101])=s at *;go_enter Tryz.func284,Tryz.ntmps284;go_wp2_with fail;(with_reducible refine H.out.mono ?_);rintro e w1 ⟨rfl,rfl⟩;go_wp2_with fail;go_ret;exact⟨rfl,Zd _ _⟩
theorem Aw (n:Int)(h0: -1000000000<=n)(h1:n<=1000000000)(hT:cW w):Calls Tryz.prog 65 #[.int .i64 n] w fun e w'=>e =.returned (.string ⟨(Lib.itoa n).toArray⟩)/\Below w.heap.size w w':=by
 refine(Any.strconv_Itoa t8 n (by omega) (by omega) w hT).mono ?_;rintro e w' ⟨rfl,k,os,rfl⟩;exact⟨rfl,Lib.below_grow _ w (Za _) k os⟩
theorem qy (hT:cW w)(hs:d.digits.size<=1000000000000)(h0: -1000000000<=d.exp)(h1:d.exp<=1000000000):Calls Tryz.prog 297 #[.agg #[.bool d.neg,.string d.digits,.int .i64 d.exp]] w fun e w'=>e =.returned (.string (ld (eN d)))/\Below w.heap.size w w':=by
 obtain⟨ng,dg,x⟩:=d
 dsimp only at hs h0 h1 ⊢
 have hb:=ac w (.cells #[.bool ng,.string dg,.int .i64 x] 125);have Ha:=Qa hb;have hz:(⟨(Lib.itoa x).toArray⟩:ByteArray).size<=21:=by
  show(Lib.itoa x).toArray.size<=21
  rw[List.size_toArray];exact Lib.itoa_length_le x (by omega) (by omega)
 have HI:=Qa (Aw x h0 h1 (hT.below hb));have a2:(⟨#[101]⟩++ (⟨(Lib.itoa x).toArray⟩:ByteArray):ByteArray).size<=22:=by
  rw[ByteArray.size_append];have:(⟨#[101]⟩:ByteArray).size=1:=rfl;omega
 have a4:(⟨#[45]⟩++dg:ByteArray).size<=1000000000001:=by
  rw[ByteArray.size_append];have:(⟨#[45]⟩:ByteArray).size=1:=rfl;omega
 have e0:(⟨#[45]⟩:ByteArray).size=1:=rfl;have e1:(⟨#[101]⟩:ByteArray).size=1:=rfl;clear hb hT h0 h1
 cases ng <;> by_cases he:x=0
 ·subst he;have hc:=Qa (show dg=ld (eN ⟨false,dg,0⟩) by cases dg with|mk a=>cases a with|mk l=>simp[eN,fN,ld]);clear hz a2 HI;go_enter Tryz.func297,Tryz.ntmps297;go_wp2_with fail;go_ret;rw[<-hc.out];exact⟨rfl,Ha.out⟩
 ·have hc:=Qa (show dg++ (⟨#[101]⟩++ ⟨(Lib.itoa x).toArray⟩:ByteArray)=ld (eN ⟨false,dg,x⟩) by cases dg with|mk a=>cases a with|mk l=>simp only[eN,fN,ld,if_neg he];rfl);have a3:(x==0)=false:=by simpa using he
  clear he;generalize (⟨(Lib.itoa x).toArray⟩:ByteArray)=z at *;go_enter Tryz.func297,Tryz.ntmps297;go_wp2_with fail;(with_reducible refine HI.out.mono ?_);rintro e w1 ⟨rfl,a0⟩;have a1:=Qa (Ha.out.trans (a0.mono Ha.out.size));clear a0;go_wp2_with fail;go_ret;rw[<-hc.out];exact⟨rfl,a1.out⟩
 ·subst he;have hc:=Qa (show(⟨#[45]⟩++dg:ByteArray)=ld (eN ⟨true,dg,0⟩) by cases dg with|mk a=>cases a with|mk l=>simp only[eN,fN,ld,if_true,List.append_nil];rfl);clear hz a2 HI;go_enter Tryz.func297,Tryz.ntmps297;go_wp2_with fail;go_ret;rw[<-hc.out];exact⟨rfl,Ha.out⟩
 ·have hc:=Qa (show(⟨#[45]⟩++dg)++ (⟨#[101]⟩++ ⟨(Lib.itoa x).toArray⟩:ByteArray)=ld (eN ⟨true,dg,x⟩) by cases dg with|mk a=>cases a with|mk l=>simp only[eN,fN,ld,if_neg he,if_true];rfl);have a3:(x==0)=false:=by simpa using he
  clear he;generalize (⟨(Lib.itoa x).toArray⟩:ByteArray)=z at *;go_enter Tryz.func297,Tryz.ntmps297;go_wp2_with fail;(with_reducible refine HI.out.mono ?_);rintro e w1 ⟨rfl,a0⟩;have a1:=Qa (Ha.out.trans (a0.mono Ha.out.size));clear a0;go_wp2_with fail;go_ret;rw[<-hc.out];exact⟨rfl,a1.out⟩
theorem nF (hs:dq s)(hG:co w aU aE)(hl:s.size<=1000000000):Calls Tryz.prog 42 #[.string s] w fun e w'=> ∃v,e =.returned v/\aq w' w.heap.size v (dJ s)/\Below w.heap.size w w':=by
 have H:=Qa (pf hs hG hl);clear hs hG hl;go_enter Tryz.func42,Tryz.ntmps42;go_wp2_with fail;(with_reducible refine H.out.mono ?_);rintro e w1 ⟨v,rfl,ho,hb⟩;have Hb:=Qa hb;have Ho:=Qa ho;obtain⟨A,q,rfl,-⟩:=ag ho;clear hb ho;go_wp2_with fail;go_ret;exact⟨_,rfl,Ho.out,Hb.out⟩
def kt (W:World)(l:List UInt8)(e:Ending)(w':World):Prop:= ∃v,e =.returned v/\aq w' W.heap.size v l/\Below W.heap.size W w'
theorem zc (hs:dq s)(hG:co W aU aE)(hl:s.size<=1000000000)(hb:Below W.heap.size W w)(ho:aq w W.heap.size u xs)(hx:xs.length+ (dJ s).length<=140737488355328):Calls Tryz.prog 26 #[u,.iface 55 (.string s)] w (kt W (xs++dJ s)):=by
 have k1:=ym;have H:=Qa (nF (w:=w) hs (hG.below hb) hl);have Hb:=Qa hb;have Ho:=Qa ho;have Hx:=Qa hx;obtain⟨A,q,rfl,-⟩:=ag ho;clear hs hG hb ho hx;generalize dJ s=qs at *;go_enter Tryz.func26,Tryz.ntmps26;go_wp2_with fail;(with_reducible refine H.out.mono ?_);rintro e w1 ⟨v,rfl,a0,a2⟩;have a1:=Qa (Hb.out.trans (a2.mono Hb.out.size));have a3:=Qa (Ho.out.below a2 (Za _));have a5:=Qa (aq.bs a0);obtain⟨A2,q2,rfl,-⟩:=ag a0;clear a0 a2;go_wp2_with (at_builtin;refine pP a3.out a5.out Hx.out a1.out.size ?_;intro v' w3 h1 h2 h3;have HK:=Qa h1;have a4:=Qa h2;clear h1 h2 h3);obtain⟨A3,q3,rfl,-⟩:=ag HK.out;go_ret;exact⟨_,rfl,HK.out,a1.out.grown a4.out a1.out.size (fun g e=>(aq.blk a3.out e).1)⟩
def sP:List UInt8:= [110,117,108,108]
def tD (b:Bool):List UInt8:=if b then [116,114,117,101] else [102,97,108,115,101]
theorem nR (l:List UInt8):(ld l).size=l.length:=by show l.toArray.size=_;simp
theorem zm {P:Program}{f:FuncId}{x y:Array Value}{K:Ending->World->Prop}(h:x=y)(hc:Calls P f #[.agg y] w K):Calls P f #[.agg x] w K:=h▸hc
theorem EB (x:Value)(W:World):(Instr.typeAssert (.iface 45 x) 41 120 true).run Tryz.prog W =.ok (.tuple #[.iface 45 x,.bool true]) W:=run_typeAssert_hasB Tryz.underlying120 (by kernel_rfl) x _ W
theorem zp (hb:Below W.heap.size W w)(ho:aq w W.heap.size u xs)(hx:xs.length+sP.length<=140737488355328):Calls Tryz.prog 26 #[u,.iface 45 (.agg #[])] w (kt W (xs++sP)):=by
 have k1:=kz;have k2:=EB;have H:=Qa (show Calls Tryz.prog 280 #[.agg #[]] w fun e w'=>e =.returned (.string (ld sP))/\Below w.heap.size w w' from o9);have Hb:=Qa hb;have Ho:=Qa ho;have Hx:=Qa hx;obtain⟨A,q,rfl,-⟩:=ag ho;clear hb ho hx;generalize sP=qs at *;have a2:(ld qs).data.toList=qs:=rfl;have Hq:=Qa a2;have Hz:=Qa (show xs.length+ (ld qs).size<=140737488355328 by have:=Hx.out;rw[nR];exact this);generalize ld qs=ts at *;clear a2;go_enter Tryz.func26,Tryz.ntmps26;go_wp2_with fail;(with_reducible refine H.out.mono ?_);rintro e w1 ⟨rfl,a1⟩;have a0:=Qa (Hb.out.trans (a1.mono Hb.out.size));have a3:=Qa (Ho.out.below a1 (Za _));clear a1;go_wp2_with (at_builtin;refine cf rfl (.tmp 26) (.tmp 28) rfl W.heap.size (.slice A xs.length q) xs ts (by simp[Act.eval]) a3.out (by simp[Act.eval]) Hz.out a0.out.size ?_;intro v' w3 h1 h2;have HK:=Qa h1;have a4:=Qa h2;clear h1 h2);rw[Hq.out] at HK;obtain⟨A3,q3,rfl,-⟩:=ag HK.out;go_ret;exact⟨_,rfl,HK.out,a0.out.grown a4.out a0.out.size (fun g e=>(aq.blk a3.out e).1)⟩
theorem Ec (x:Value)(W:World):(Instr.typeAssert (.iface 54 x) 41 120 true).run Tryz.prog W =.ok (.tuple #[.iface 54 x,.bool true]) W:=run_typeAssert_hasB Tryz.underlying120 (by kernel_rfl) x _ W
theorem Ap {b:Bool}(hb:Below W.heap.size W w)(ho:aq w W.heap.size u xs)(hx:xs.length+ (tD b).length<=140737488355328):Calls Tryz.prog 26 #[u,.iface 54 (.bool b)] w fun e w'=>kt W (xs++ (tD b)) e w':=by
 have k1:=rz;have k2:=Ec;have H:=Qa (show Calls Tryz.prog 284 #[.bool b] w fun e w'=>e =.returned (.string (ld (tD b)))/\Below w.heap.size w w' from oT b);have Hb:=Qa hb;have Ho:=Qa ho;have Hx:=Qa hx;obtain⟨A,q,rfl,-⟩:=ag ho;clear hb ho hx;generalize (tD b)=qs at *;have a2:(ld qs).data.toList=qs:=rfl;have Hq:=Qa a2;have Hz:=Qa (show xs.length+ (ld qs).size<=140737488355328 by have:=Hx.out;rw[nR];exact this);generalize ld qs=ts at *;clear a2;go_enter Tryz.func26,Tryz.ntmps26;go_wp2_with fail;(with_reducible refine H.out.mono ?_);rintro e w1 ⟨rfl,a1⟩;have a0:=Qa (Hb.out.trans (a1.mono Hb.out.size));have a3:=Qa (Ho.out.below a1 (Za _));clear a1;go_wp2_with (at_builtin;refine cf rfl (.tmp 26) (.tmp 28) rfl W.heap.size (.slice A xs.length q) xs ts (by simp[Act.eval]) a3.out (by simp[Act.eval]) Hz.out a0.out.size ?_;intro v' w3 h1 h2;have HK:=Qa h1;have a4:=Qa h2;clear h1 h2);rw[Hq.out] at HK;obtain⟨A3,q3,rfl,-⟩:=ag HK.out;go_ret;exact⟨_,rfl,HK.out,a0.out.grown a4.out a0.out.size (fun g e=>(aq.blk a3.out e).1)⟩
theorem FI (x:Value)(W:World):(Instr.typeAssert (.iface 128 x) 41 120 true).run Tryz.prog W =.ok (.tuple #[.iface 128 x,.bool true]) W:=run_typeAssert_hasB Tryz.underlying120 (by kernel_rfl) x _ W
theorem BG (hT:cW W)(a2:d.digits.size<=1000000000000)(h0: -1000000000<=d.exp)(h1:d.exp<=1000000000)(hb:Below W.heap.size W w)(ho:aq w W.heap.size u xs)(hx:xs.length+ (eN d).length<=140737488355328):Calls Tryz.prog 26 #[u,.iface 128 (.agg #[.bool d.neg,.string d.digits,.int .i64 d.exp])] w fun e w'=>kt W (xs++ (eN d)) e w':=by
 have k1:=uJ;have k2:=FI;have H:=Qa (qy (w:=w) (hT.below hb) a2 h0 h1);have Hb:=Qa hb;have Ho:=Qa ho;have Hx:=Qa hx;obtain⟨A,q,rfl,-⟩:=ag ho;clear hb ho hx hT a2 h0 h1;generalize (eN d)=qs at *;have a3:(ld qs).data.toList=qs:=rfl;have Hq:=Qa a3;have Hz:=Qa (show xs.length+ (ld qs).size<=140737488355328 by have:=Hx.out;rw[nR];exact this);generalize ld qs=ts at *;clear a3;go_enter Tryz.func26,Tryz.ntmps26;go_wp2_with fail;(with_reducible refine zm (y:= #[.bool d.neg,.string d.digits,.int .i64 d.exp]) (by kernel_rfl) (H.out.mono ?_));rintro e w1 ⟨rfl,a1⟩;have a0:=Qa (Hb.out.trans (a1.mono Hb.out.size));have a4:=Qa (Ho.out.below a1 (Za _));clear a1;go_wp2_with (at_builtin;refine cf rfl (.tmp 26) (.tmp 28) rfl W.heap.size (.slice A xs.length q) xs ts (by simp[Act.eval]) a4.out (by simp[Act.eval]) Hz.out a0.out.size ?_;intro v' w3 h1 h2;have HK:=Qa h1;have a5:=Qa h2;clear h1 h2);rw[Hq.out] at HK;obtain⟨A3,q3,rfl,-⟩:=ag HK.out;go_ret;exact⟨_,rfl,HK.out,a0.out.grown a5.out a0.out.size (fun g e=>(aq.blk a4.out e).1)⟩
def iw (c:Int)(w:World)(e:Ending)(w':World):Prop:=e =.returned (.int .i64 c)/\Below w.heap.size w w'
theorem eP {a b:JV}(ha:VW P w v a)(hb:VW Q w v' b)(hd:a.kindOf≠b.kindOf):Calls Tryz.prog 32 #[v,v'] w (iw (d8 a b) w):=by
 have Hv:=Qa (show d8 a b=sg a.kindOf b.kindOf/\sg a.kindOf b.kindOf≠0 by
  obtain⟨k,t,x,n,ns,ks⟩:=a;obtain⟨k',t',x',n',ns',ks'⟩:=b;simp only[JV.kindOf] at hd;rw[zB hd];unfold sg;simp only[JV.kindOf]
  (repeat' split) <;> constructor <;> first|rfl|omega)
 have H1:=Qa (dY ha);have H2:=Qa (fun w1 (h:Below w.heap.size w w1)=>dY (hb.later h));obtain⟨t1,x1,rfl⟩:=ha.iface;obtain⟨t2,x2,rfl⟩:=hb.iface;clear ha hb hd;generalize a.kindOf=ka at *;generalize b.kindOf=kb at *;have hne:(sg ka kb==0)=false:=by simpa using Hv.out.2
 go_enter Tryz.func32,Tryz.ntmps32;go_wp2_with fail;(with_reducible refine H1.out.mono ?_);rintro e w1 ⟨rfl,a0⟩;have a2:=Qa a0;have H3:=Qa (H2.out w1 a0);clear a0;go_wp2_with fail;(with_reducible refine H3.out.mono ?_);rintro e w2 ⟨rfl,a1⟩;have a3:=Qa (a2.out.trans (a1.mono a2.out.size));clear a1;go_wp2_with fail;(with_reducible refine aY.mono ?_);rintro e w3 ⟨rfl,rfl⟩;go_wp2_with fail;go_ret;rw[Hv.out.1];exact⟨rfl,a3.out⟩
theorem D5 (w:World):Calls Tryz.prog 54 #[.iface 45 (.agg #[])] w fun e w'=>e =.returned (.int .i64 1)/\Below w.heap.size w w':=dY (P:=fun _=>True) .null
theorem DE (w:World):Calls Tryz.prog 54 #[.iface 49 (.agg #[])] w fun e w'=>e =.returned (.int .i64 7)/\Below w.heap.size w w':=dY (P:=fun _=>True) .hole
theorem yD (b:Bool)(w:World):Calls Tryz.prog 54 #[.iface 54 (.bool b)] w fun e w'=>e =.returned (.int .i64 2)/\Below w.heap.size w w':=dY (P:=fun _=>True) (.bool b)
theorem CI (d:Dc)(w:World):Calls Tryz.prog 54 #[.iface 128 (.agg #[.bool d.neg,.string d.digits,.int .i64 d.exp])] w fun e w'=>e =.returned (.int .i64 3)/\Below w.heap.size w w':=dY (P:=fun _=>True) (.num d)
theorem yp (s:ByteArray)(w:World):Calls Tryz.prog 54 #[.iface 55 (.string s)] w fun e w'=>e =.returned (.int .i64 4)/\Below w.heap.size w w':=dY (P:=fun _=>True) (.text s)
theorem yk (A:Option Addr)(w:World):Calls Tryz.prog 54 #[.iface 52 (.pointer A)] w fun e w'=>e =.returned (.int .i64 5)/\Below w.heap.size w w':=by
 go_enter Tryz.func54,Tryz.ntmps54;go_wp2_with fail;(with_reducible refine em.mono ?_);rintro e w1 ⟨rfl,hb⟩;go_wp2_with fail;go_ret;exact⟨rfl,hb⟩
theorem AW (A:Option Addr)(w:World):Calls Tryz.prog 54 #[.iface 124 (.pointer A)] w fun e w'=>e =.returned (.int .i64 6)/\Below w.heap.size w w':=by
 go_enter Tryz.func54,Tryz.ntmps54;go_wp2_with fail;(with_reducible refine gG.mono ?_);rintro e w1 ⟨rfl,hb⟩;go_wp2_with fail;go_ret;exact⟨rfl,hb⟩
theorem Ba:Calls Tryz.prog 32 #[.iface 45 (.agg #[]),.iface 45 (.agg #[])] w (iw 0 w):=by
 have H1:=Qa D5;have k1:=qL;have k2:=sU;have k3:=kz;have k4:=iN;go_enter Tryz.func32,Tryz.ntmps32;go_wp2_with fail;(with_reducible refine(H1.out _).mono ?_);rintro e w1 ⟨rfl,a0⟩;have a2:=Qa a0;clear a0;go_wp2_with fail;(with_reducible refine(H1.out _).mono ?_);rintro e w2 ⟨rfl,a1⟩;have a3:=Qa (a2.out.trans (a1.mono a2.out.size));clear a1;go_wp2_with fail;(with_reducible refine aY.mono ?_);rintro e w3 ⟨rfl,rfl⟩;rw[show sg 1 1=0 from rfl];go_wp2_with fail;go_ret;exact⟨rfl,a3.out⟩
theorem BT:Calls Tryz.prog 32 #[.iface 49 (.agg #[]),.iface 49 (.agg #[])] w (iw 0 w):=by
 have H1:=Qa DE;have k1:=qO;have k2:=uH;have k3:=qC;have k4:=me;go_enter Tryz.func32,Tryz.ntmps32;go_wp2_with fail;(with_reducible refine(H1.out _).mono ?_);rintro e w1 ⟨rfl,a0⟩;have a2:=Qa a0;clear a0;go_wp2_with fail;(with_reducible refine(H1.out _).mono ?_);rintro e w2 ⟨rfl,a1⟩;have a3:=Qa (a2.out.trans (a1.mono a2.out.size));clear a1;go_wp2_with fail;(with_reducible refine aY.mono ?_);rintro e w3 ⟨rfl,rfl⟩;rw[show sg 7 7=0 from rfl];go_wp2_with fail;go_ret;exact⟨rfl,a3.out⟩
theorem Bl (a b:Bool):Calls Tryz.prog 32 #[.iface 54 (.bool a),.iface 54 (.bool b)] w fun e w'=>iw (if a=b then 0 else if a then 1 else -1) w e w':=by
 have H1:=Qa (yD a);have H2:=Qa (yD b);have k1:=DT;have k2:=Ep;go_enter Tryz.func32,Tryz.ntmps32;go_wp2_with fail;(with_reducible refine(H1.out _).mono ?_);rintro e w1 ⟨rfl,a0⟩;have a2:=Qa a0;clear a0;go_wp2_with fail;(with_reducible refine(H2.out _).mono ?_);rintro e w2 ⟨rfl,a1⟩;have a3:=Qa (a2.out.trans (a1.mono a2.out.size));clear a1;go_wp2_with fail;(with_reducible refine aY.mono ?_);rintro e w3 ⟨rfl,rfl⟩;rw[show sg 2 2=0 from rfl]
 cases a <;> cases b
 all_goals
  go_wp2_with fail;go_ret;exact⟨rfl,a3.out⟩
theorem Ca {a b:ByteArray}(ha:a.size<=9223372036854775807)(hb:b.size<=9223372036854775807)(hG:co w aU aE):Calls Tryz.prog 32 #[.iface 55 (.string a),.iface 55 (.string b)] w fun e w'=>iw (aw (nm a) (nm b)) w e w':=by
 have H1:=Qa (yp a);have H2:=Qa (yp b);have k1:=qH;have k2:=uB;have k3:=ym;have k4:=Eo;have HL:=Qa (fun w1 (h:Below w.heap.size w w1)=>iM ha hb (hG.below h));clear hG ha hb;go_enter Tryz.func32,Tryz.ntmps32;go_wp2_with fail;(with_reducible refine(H1.out _).mono ?_);rintro e w1 ⟨rfl,a4⟩;have a2:=Qa a4;clear a4;go_wp2_with fail;(with_reducible refine(H2.out _).mono ?_);rintro e w2 ⟨rfl,a1⟩;have a0:=Qa (a2.out.trans (a1.mono a2.out.size));clear a1;go_wp2_with fail;(with_reducible refine aY.mono ?_);rintro e w3 ⟨rfl,rfl⟩;rw[show sg 4 4=0 from rfl];go_wp2_with fail;(with_reducible refine(HL.out w2 a0.out).mono ?_);rintro e w4 ⟨rfl,a3⟩;have a5:=Qa (a0.out.trans (a3.mono a0.out.size));clear a3;go_wp2_with fail;go_ret;exact⟨rfl,a5.out⟩
theorem Dx {a b:Dc}(ha:BJ a)(hb:BJ b):Calls Tryz.prog 32 #[.iface 128 (.agg #[.bool a.neg,.string a.digits,.int .i64 a.exp]),.iface 128 (.agg #[.bool b.neg,.string b.digits,.int .i64 b.exp])] w fun e w'=>iw (aw (fM a) (fM b)) w e w':=by
 have H1:=Qa (CI a);have H2:=Qa (CI b);have k1:=ue;have k2:=Fe;have k3:=FZ;have HN:=Qa (fun w1=>tJ (w:=w1) ha hb);clear ha hb;go_enter Tryz.func32,Tryz.ntmps32;go_wp2_with fail;(with_reducible refine(H1.out _).mono ?_);rintro e w1 ⟨rfl,a7⟩;have a5:=Qa a7;clear a7;go_wp2_with fail;(with_reducible refine(H2.out _).mono ?_);rintro e w2 ⟨rfl,a4⟩;have a3:=Qa (a5.out.trans (a4.mono a5.out.size));clear a4;go_wp2_with fail;(with_reducible refine aY.mono ?_);rintro e w3 ⟨rfl,rfl⟩;rw[show sg 3 3=0 from rfl];go_wp2_with fail;have Ha:=Qa (ac w2 (.cells #[.bool a.neg,.string a.digits,.int .i64 a.exp] 128));have h0:=Ze w2 (.cells #[.bool a.neg,.string a.digits,.int .i64 a.exp] 128);have hs:=aa h0 (j:=0) (u:=.bool a.neg) rfl;have ht:=aa h0 (j:=1) (u:=.string a.digits) rfl;have hu:=aa h0 (j:=2) (u:=.int .i64 a.exp) rfl;obtain⟨w4,a6⟩:∃w4:World,w4=w2.alloc (.cells #[.bool a.neg,.string a.digits,.int .i64 a.exp] 128):=⟨_,rfl⟩;have a2:=Qa (a3.out.trans (Ha.out.mono a3.out.size));clear Ha;rw[<-a6] at a2 hs ht hu ⊢;generalize w2.heap.size=g at *;clear h0 a6;refine aO (fun w'=>w'.cell? ⟨g,0,none⟩=some (.bool a.neg)/\w'.cell? ⟨g,1,none⟩=some (.string a.digits)/\w'.cell? ⟨g,2,none⟩=some (.int .i64 a.exp)) (⟨hs,ht,hu⟩) fun a0=>?_
 refine tH 0 a0 ?_;refine tH 1 a0 ?_;refine tH 2 a0 ?_
 try simp only[Act.put,jP,jQ,jR]
 refine rH 3 fun K hK=>?_
 go_simp;(with_reducible refine(HN.out _).mono ?_);rintro e w5 ⟨rfl,a1⟩;refine hK.out _ _ (⟨Zf a1 a0.1,Zf a1 a0.2.1,Zf a1 a0.2.2⟩) (fun a0=>?_);clear hK K
 try simp only[Act.put,jP,jQ,jR]
 refine tH 4 a0 ?_
 try simp only[Act.put,jP,jQ,jR]
 refine wpAnyH_done (by kernel_rfl) (NoPanic.normal ?_) _;have a9:=Qa ((a2.out.drew).trans (a1.mono (show w.heap.size<=w4.drew.heap.size from a2.out.size)));go_wp2_with fail;go_ret;exact⟨rfl,a9.out⟩
theorem B9 {B:Option Addr}{c:Int}(HP:∀w1,Below w.heap.size w w1->Calls Tryz.prog 57 #[.iface 52 (.pointer A),.iface 52 (.pointer B),.bool false] w1 fun e w'=>e =.returned (.int .i64 c)/\Below w1.heap.size w1 w'):Calls Tryz.prog 32 #[.iface 52 (.pointer A),.iface 52 (.pointer B)] w (iw c w):=by
 have H1:=Qa (yk A);have H2:=Qa (yk B);have k1:=qr;have k2:=uX;have k3:=kh;have k4:=iF;have k5:=lF;have HL:=Qa HP;clear HP;go_enter Tryz.func32,Tryz.ntmps32;go_wp2_with fail;(with_reducible refine(H1.out _).mono ?_);rintro e w1 ⟨rfl,a3⟩;have a2:=Qa a3;clear a3;go_wp2_with fail;(with_reducible refine(H2.out _).mono ?_);rintro e w2 ⟨rfl,a1⟩;have a4:=Qa (a2.out.trans (a1.mono a2.out.size));clear a1;go_wp2_with fail;(with_reducible refine aY.mono ?_);rintro e w3 ⟨rfl,rfl⟩;rw[show sg 5 5=0 from rfl];go_wp2_with fail;refine aO (fun w'=>Below w.heap.size w w') (a4.out.drew) fun a0=>?_
 refine tH 0 a0 ?_;refine tH 1 a0 ?_;refine tH 2 a0 ?_;refine tH 3 a0 ?_
 try simp only[Act.put,jP,jQ,jR]
 refine rH 4 fun K hK=>?_
 go_simp;(with_reducible refine(H1.out _).mono ?_);rintro e w4 ⟨rfl,a6⟩;refine hK.out _ _ (a0.trans (a6.mono a0.size)) (fun a0=>?_);clear hK K
 try simp only[Act.put,jP,jQ,jR]
 refine tH 5 a0 ?_
 try simp only[Act.put,jP,jQ,jR]
 refine rH 6 fun K hK=>?_
 go_simp;(with_reducible refine(HL.out _ a0).mono ?_);rintro e w5 ⟨rfl,a5⟩;refine hK.out _ _ (a0.trans (a5.mono a0.size)) (fun a0=>?_);clear hK K
 try simp only[Act.put,jP,jQ,jR]
 refine tH 7 a0 ?_
 try simp only[Act.put,jP,jQ,jR]
 refine wpAnyH_done (by kernel_rfl) (NoPanic.normal ?_) _;have a7:=Qa a0;go_wp2_with fail;go_ret;exact⟨rfl,a7.out⟩
theorem Et {B:Option Addr}{c:Int}(HP:∀w1,Below w.heap.size w w1->Calls Tryz.prog 57 #[.iface 124 (.pointer A),.iface 124 (.pointer B),.bool true] w1 fun e w'=>e =.returned (.int .i64 c)/\Below w1.heap.size w1 w'):Calls Tryz.prog 32 #[.iface 124 (.pointer A),.iface 124 (.pointer B)] w (iw c w):=by
 have H1:=Qa (AW A);have H2:=Qa (AW B);have k1:=uy;have k2:=xQ;have k3:=lX;have k4:=jM;have k5:=ox;have HL:=Qa HP;clear HP;go_enter Tryz.func32,Tryz.ntmps32;go_wp2_with fail;(with_reducible refine(H1.out _).mono ?_);rintro e w1 ⟨rfl,a3⟩;have a2:=Qa a3;clear a3;go_wp2_with fail;(with_reducible refine(H2.out _).mono ?_);rintro e w2 ⟨rfl,a1⟩;have a4:=Qa (a2.out.trans (a1.mono a2.out.size));clear a1;go_wp2_with fail;(with_reducible refine aY.mono ?_);rintro e w3 ⟨rfl,rfl⟩;rw[show sg 6 6=0 from rfl];go_wp2_with fail;refine aO (fun w'=>Below w.heap.size w w') (a4.out.drew) fun a0=>?_
 refine tH 0 a0 ?_;refine tH 1 a0 ?_;refine tH 2 a0 ?_;refine tH 3 a0 ?_
 try simp only[Act.put,jP,jQ,jR]
 refine rH 4 fun K hK=>?_
 go_simp;(with_reducible refine(H1.out _).mono ?_);rintro e w4 ⟨rfl,a6⟩;refine hK.out _ _ (a0.trans (a6.mono a0.size)) (fun a0=>?_);clear hK K
 try simp only[Act.put,jP,jQ,jR]
 refine tH 5 a0 ?_
 try simp only[Act.put,jP,jQ,jR]
 refine rH 6 fun K hK=>?_
 go_simp;(with_reducible refine(HL.out _ a0).mono ?_);rintro e w5 ⟨rfl,a5⟩;refine hK.out _ _ (a0.trans (a5.mono a0.size)) (fun a0=>?_);clear hK K
 try simp only[Act.put,jP,jQ,jR]
 refine tH 7 a0 ?_
 try simp only[Act.put,jP,jQ,jR]
 refine wpAnyH_done (by kernel_rfl) (NoPanic.normal ?_) _;have a7:=Qa a0;go_wp2_with fail;go_ret;exact⟨rfl,a7.out⟩
theorem da.bd (h:da P w A us ks):us.length<=maxLen:=by
 rcases h with ⟨-,rfl,rfl⟩|⟨g,R,c,e,hg,hr,hl⟩
 ·exact Zj _
 ·exact Zb hr.2.1 hr.2.2.1
theorem eD.bd (h:eD P w A us ns ks):us.length<=maxLen:=by
 obtain⟨g,R,c,e,hg,hr,hl⟩:=h;exact Zb hr.2.1 hr.2.2.1
theorem pt {B:Option Addr}{t:Bool}{x:ByteArray}{n:Dc}(ha:da P w A us ks)(hb:da Q w B us' ks')(hT:cW w)(h1:Below w.heap.size w w1)
  (H:∀ (i:Nat) u u' k k',us[i]?=some u->ks[i]?=some k->us'[i]?=some u'->ks'[i]?=some k'->∀w1,Below w.heap.size w w1->Calls Tryz.prog 32 #[u,u'] w1 (iw (d8 k k') w1)) :
  Calls Tryz.prog 32 #[.iface 52 (.pointer A),.iface 52 (.pointer B)] w1 fun e w'=>iw (d8 (.mk 5 t x n [] ks) (.mk 5 t' x' n' [] ks')) w1 e w':=by
 rw[nN (by decide) (by decide) (by decide)];refine B9 fun w2 h2=>?_
 have h3:=h1.trans (h2.mono h1.size);refine vH (ha.below h3) (hb.below h3) (hT.below h3) ha.bd hb.bd fun i u u' k k' e1 e2 e3 e4 w4 h4=>?_
 exact H i u u' k k' e1 e2 e3 e4 w4 (h3.trans (h4.mono h3.size))
theorem BU {B:Option Addr}{t:Bool}{x:ByteArray}{n:Dc}(ha:eD P w A us ns ks)(hb:eD Q w B us' ns' ks')(hT:co w aU aE)(hz:∀n∈ns,n.size<=9223372036854775807)(a0:∀n∈ns',n.size<=9223372036854775807)(h1:Below w.heap.size w w1)
  (H:∀ (i:Nat) u u' k k',us[i]?=some u->ks[i]?=some k->us'[i]?=some u'->ks'[i]?=some k'->∀w1,Below w.heap.size w w1->Calls Tryz.prog 32 #[u,u'] w1 (iw (d8 k k') w1)) :
  Calls Tryz.prog 32 #[.iface 124 (.pointer A),.iface 124 (.pointer B)] w1 fun e w'=>iw (d8 (.mk 6 t x n ns ks) (.mk 6 t' x' n' ns' ks')) w1 e w':=by
 rw[nN (by decide) (by decide) (by decide)];refine Et fun w2 h2=>?_
 have h3:=h1.trans (h2.mono h1.size);refine yQ (ha.below h3) (hb.below h3) (hT.below h3) hz a0 ha.bd hb.bd fun i u u' k k' e1 e2 e3 e4 w4 h4=>?_
 exact H i u u' k k' e1 e2 e3 e4 w4 (h3.trans (h4.mono h3.size))
theorem JB.kids {k:Int}{t:Bool}{x:ByteArray}(h:JB (.mk k t x d ns ks)):x.size<=9223372036854775807/\BJ d/\(∀n∈ns,n.size<=9223372036854775807)/\∀u∈ks,JB u:=by
 cases h with
 |mk _ _ _ _ _ _ h1 h2 h3 h4=>exact⟨h1,h2,h3,h4⟩
theorem tV {a:JV}(ha:VW P w v a)(hT:cW w)(hG:co w aU aE)(ja:JB a):∀ {Q:Nat->Prop} {v':Value} {b:JV},VW Q w v' b->JB b->∀w1,Below w.heap.size w w1->Calls Tryz.prog 32 #[v,v'] w1 (iw (d8 a b) w1):=by
 induction ha with
 |null=>
  intro Q v' b hb jb w1 h1
  by_cases hk:b.kindOf=1
  ·cases hb with
   |null=>exact Ba
   |bool|num|text|hole|bare|list|obj=>simp[JV.kindOf] at hk
  ·exact eP (P:=P) (Q:=Q) .null (hb.later h1) (fun e=>hk e.symm)
 |hole=>
  intro Q v' b hb jb w1 h1
  by_cases hk:b.kindOf=7
  ·cases hb with
   |hole=>exact BT
   |bool|num|text|null|bare|list|obj=>simp[JV.kindOf] at hk
  ·exact eP (P:=P) (Q:=Q) .hole (hb.later h1) (fun e=>hk e.symm)
 |bool x=>
  intro Q v' b hb jb w1 h1
  by_cases hk:b.kindOf=2
  ·cases hb with
   |bool y=>rw[zf];exact Bl x y
   |hole|num|text|null|bare|list|obj=>simp[JV.kindOf] at hk
  ·exact eP (P:=P) (Q:=Q) (.bool x) (hb.later h1) (fun e=>hk e.symm)
 |num d=>
  intro Q v' b hb jb w1 h1
  by_cases hk:b.kindOf=3
  ·cases hb with
   |num y=>rw[AC];exact Dx ja.kids.2.1 jb.kids.2.1
   |hole|bool|text|null|bare|list|obj=>simp[JV.kindOf] at hk
  ·exact eP (P:=P) (Q:=Q) (.num d) (hb.later h1) (fun e=>hk e.symm)
 |text s=>
  intro Q v' b hb jb w1 h1
  by_cases hk:b.kindOf=4
  ·cases hb with
   |text y=>rw[Am];exact Ca ja.kids.1 jb.kids.1 (hG.below h1)
   |hole|bool|num|null|bare|list|obj=>simp[JV.kindOf] at hk
  ·exact eP (P:=P) (Q:=Q) (.text s) (hb.later h1) (fun e=>hk e.symm)
 |bare=>
  intro Q v' b hb jb w1 h1
  by_cases hk:b.kindOf=5
  ·obtain⟨k',t',x',n',ns',ks'⟩:=b;simp only[JV.kindOf] at hk;subst hk;obtain rfl:ns' = []:=by cases hb <;> rfl
   obtain⟨B,us',rfl,hL,hK⟩:=hb.asList;refine pt (P:=P) (us:= []) (.inl ⟨rfl,rfl,rfl⟩) hL hT h1 fun i u u' k k' e1=>?_
   simp at e1
  ·exact eP (P:=P) (Q:=Q) .bare (hb.later h1) (fun e=>hk e.symm)
 |list g A c us ks hp hg hr hl hks ih=>
  intro Q v' b hb jb w1 h1
  by_cases hk:b.kindOf=5
  ·obtain⟨k',t',x',n',ns',ks'⟩:=b;simp only[JV.kindOf] at hk;subst hk;obtain rfl:ns' = []:=by cases hb <;> rfl
   obtain⟨B,us',rfl,hL,hK⟩:=hb.asList;refine pt (P:=P) (.inr ⟨g,A,c,rfl,hg,hr,hl⟩) hL hT h1 fun i u u' k k' e1 e2 e3 e4 w2 h2=>?_
   exact ih i u k e1 e2 (ja.kids.2.2.2 k (Zk e2)) (hK i u' k' e3 e4) (jb.kids.2.2.2 k' (Zk e4)) w2 h2
  ·exact eP (P:=P) (Q:=Q) ((VW.list g A c us ks hp hg hr hl hks).later h1) (hb.later h1) (fun e=>hk e.symm)
 |obj g A c us ns ks hp hg hr hl hn hks ih=>
  intro Q v' b hb jb w1 h1
  by_cases hk:b.kindOf=6
  ·obtain⟨k',t',x',n',ns',ks'⟩:=b;simp only[JV.kindOf] at hk;subst hk;obtain⟨B,us',rfl,hL,hK⟩:=hb.asObj;refine BU (P:=P) ⟨g,A,c,rfl,hg,hr,hl,hn⟩ hL hG ja.kids.2.2.1 jb.kids.2.2.1 h1 fun i u u' k k' e1 e2 e3 e4 w2 h2=>?_
   exact ih i u k e1 e2 (ja.kids.2.2.2 k (Zk e2)) (hK i u' k' e3 e4) (jb.kids.2.2.2 k' (Zk e4)) w2 h2
  ·exact eP (P:=P) (Q:=Q) ((VW.obj g A c us ns ks hp hg hr hl hn hks).later h1) (hb.later h1) (fun e=>hk e.symm)
