import Derived.Test.YtohibglohlfjfaaGreatDoorGZ6bf
import Derived.Stop.Asserts
import Derived.Lib.ItoaLen
set_option linter.unusedVariables false
set_option linter.unusedSimpArgs false
set_option maxHeartbeats 64000000
set_option maxRecDepth 100000
namespace Go.Proofs.YtohibglohlfjfaaGreatDoor
open Go.RowKit Go.Shelf
variable {aE aU:Addr}{d:Dc}{j:JV}{ns ns':List ByteArray}{ks ks':List JV}{xs:List UInt8}{us us':List Value}{P Q:Nat->Prop}{A:Option Addr}{ty:TypeId}{u v v' x:Value}{W w:World}
theorem eD.len (h:eD P w A us ns ks):us.length=ks.length:=by
 obtain⟨_,_,_,_,_,_,h,_⟩:=h;exact h
theorem eD.names (h:eD P w A us ns ks):ns.length=ks.length:=by
 obtain⟨_,_,_,_,_,_,_,h⟩:=h;exact h
theorem zL {B:Option Addr}(ha:eD P w A us ns ks)(hb:eD Q w B us' ns' ks')(hT:ce w aU aE)(hz:∀n∈ns,n.size<=9223372036854775807)(d2:∀n∈ns',n.size<=9223372036854775807)
  (hl:us.length<=maxLen) (d6:us'.length<=maxLen)
  (H:∀ (i:Nat) u u' k k',us[i]?=some u->ks[i]?=some k->us'[i]?=some u'->ks'[i]?=some k'->∀w1,Below w.heap.size w w1->Calls Tryz.prog 24 #[u,u'] w1 fun e w'=>e =.returned (.int .i64 (dX k k'))/\Below w1.heap.size w1 w') :
  Calls Tryz.prog 48 #[.iface 116 (.pointer A),.iface 116 (.pointer B),.bool true] w fun e w'=>e =.returned (.int .i64 (aw (JV.keys true ns ks) (JV.keys true ns' ks')))/\Below w.heap.size w w':=by
 have la:=ha.len;have lb:=hb.len;have ma:=ha.names;have mb:=hb.names;have Hz:=Qa hz;have d4:=Qa d2;unfold maxLen at hl d6;have Ha:=Qa ha;have Hb:=Qa hb;have HT:=Qa hT;have HH:=Qa H;clear ha hb hT H hz d2;have Hl:=Qa (eN Ha.out);have b3:=Qa (eN Hb.out);have d5:=Qa ma;have d9:=Qa mb;have d1:=Qa la;have d3:=Qa lb;generalize hn:us.length=n at *;generalize hn':us'.length=n' at *;have Hn:=Qa hn;have c4:=Qa hn';clear hn hn' la lb ma mb;go_enter Tryz.func48,Tryz.ntmps48;go_wp2_with fail;refine Za Hl ?_;rintro e w3 ⟨rfl,rfl⟩;go_wp2_with fail;refine Za b3 ?_;rintro e w3 ⟨rfl,rfl⟩;go_wp2_with fail;obtain⟨m,hm,a9⟩:∃m:Nat,(min (n:Int) n')=m/\m=min n n':=⟨min n n',by omega,rfl⟩;rw[hm];have Hm:=Qa a9;have e3:m<=9223372036854775807:=by omega
 clear hm a9 Hl b3
 go_loopw [19] (fun s19 wr=>zi w true ns ns' ks ks' s19 wr) (fun s19 _=>m - (intOf s19).toNat)
 case atStart=>exact⟨0,rfl,Zk _,Zk _,rfl,Ze _ _⟩
 case round=>
  obtain⟨i,rfl,d0,c9,he,a4⟩:=hrel;have a2:=Qa a4;have He:=Qa he;have Hi:=Qa (And.intro d0 c9);clear he d0 c9;have c5:=Qa (Ha.out.below a4);have c6:=Qa (Hb.out.below a4);have e0:=Qa (HT.out.below a4);clear a4
  by_cases h:i<m
  ·have c8:i<us.length:=by have:=Hm.out;have:=Hn.out;omega
   have c7:i<us'.length:=by have:=Hm.out;have:=c4.out;omega
   have b6:i<ks.length:=by have:=d1.out;have:=Hn.out;omega
   have b5:i<ks'.length:=by have:=d3.out;have:=c4.out;omega
   obtain⟨u,hu⟩:∃u,us[i]?=some u:=⟨_,Zd c8⟩;obtain⟨u',c2⟩:∃u,us'[i]?=some u:=⟨_,Zd c7⟩;obtain⟨k,hk⟩:∃u,ks[i]?=some u:=⟨_,Zd b6⟩;obtain⟨k',c0⟩:∃u,ks'[i]?=some u:=⟨_,Zd b5⟩;have b8:i<ns.length:=by have:=d5.out;omega
   have a9:i<ns'.length:=by have:=d9.out;omega
   obtain⟨s,hs⟩:∃u,ns[i]?=some u:=⟨_,Zd b8⟩;obtain⟨s',b7⟩:∃u,ns'[i]?=some u:=⟨_,Zd a9⟩;have Hp:=Qa (fe c5.out i hu hs);have Hq:=Qa (fun w5 (h:Below wr.heap.size wr w5)=>fe (c6.out.below h) i c2 b7);have c3:=Qa (fun w5 (h:Below wr.heap.size wr w5)=>iZ (Hz.out s (Zl hs)) (d4.out s' (Zl b7)) (e0.out.below h));have Hc:=Qa (HH.out i u u' k k' hu hk c2 c0);have Hs:=Qa (show aw (JV.keys true ns ks) (JV.keys true ns' ks')=if aw (nm s) (nm s')=0 then(if dX k k'=0 then aw (JV.keys true (ns.drop (i+1)) (ks.drop (i+1))) (JV.keys true (ns'.drop (i+1)) (ks'.drop (i+1))) else dX k k') else aw (nm s) (nm s') by
    rw[He.out,List.drop_eq_getElem_cons b6,List.drop_eq_getElem_cons b5,List.drop_eq_getElem_cons b8,List.drop_eq_getElem_cons a9,BM];rw[(List.getElem?_eq_some_iff.1 hk).2,(List.getElem?_eq_some_iff.1 c0).2,(List.getElem?_eq_some_iff.1 hs).2,(List.getElem?_eq_some_iff.1 b7).2])
   have Hk:=Qa (And.intro b6 b5);have h':(i:Int)<m:=by omega
   have w1:IntKind.i64.wrap ((i:Int)+1)= (i:Int)+1:=IntWalk.i64_in _ (by omega);clear c8 c7 b6 b5 hu c2 hk c0 hs b7 b8 a9 He;generalize aw (nm s) (nm s')=nc at *;generalize dX k k'=cc at *
   by_cases hn0:nc=0
   ·subst hn0;rw[if_pos rfl] at Hs
    by_cases hc0:cc=0
    ·subst hc0;have b2:=Qa (Hs.out.trans (if_pos rfl));clear Hs;go_wp2_with fail;refine Za Hp ?_;rintro e w3 ⟨rfl,a3⟩;have a7:=Qa a3;have b0:=Qa (Hq.out w3 a3);clear a3;go_wp2_with fail;refine Za b0 ?_;rintro e w4' ⟨rfl,a1⟩;have a0:=Qa (a7.out.trans (a1.mono a7.out.size));have b1:=Qa (c3.out w4' a0.out);clear a1;go_wp2_with fail;refine Za b1 ?_;rintro e w4 ⟨rfl,a6⟩;have a5:=Qa (a2.out.trans ((a0.out.trans (a6.mono a0.out.size)).mono a2.out.size));have c1:=Qa (Hc.out w4 a5.out);clear a6;go_wp2_with fail;refine Za c1 ?_;rintro e w5 ⟨rfl,b4⟩;have b9:=Qa (a5.out.trans (b4.mono a5.out.size));clear b4;go_wp2_with fail;refine⟨⟨i+1,rfl,Hk.out.1,Hk.out.2,b2.out,b9.out⟩,?_⟩
     show m - ((i:Int)+1).toNat<m - ((i:Int)).toNat
     omega
    ·have e2:(cc==0)=false:=by simpa using hc0
     have b2:=Qa (Hs.out.trans (if_neg hc0));clear Hs hc0;go_wp2_with fail;refine Za Hp ?_;rintro e w3 ⟨rfl,a3⟩;have a7:=Qa a3;have b0:=Qa (Hq.out w3 a3);clear a3;go_wp2_with fail;refine Za b0 ?_;rintro e w4' ⟨rfl,a1⟩;have a0:=Qa (a7.out.trans (a1.mono a7.out.size));have b1:=Qa (c3.out w4' a0.out);clear a1;go_wp2_with fail;refine Za b1 ?_;rintro e w4 ⟨rfl,a6⟩;have a5:=Qa (a2.out.trans ((a0.out.trans (a6.mono a0.out.size)).mono a2.out.size));have c1:=Qa (Hc.out w4 a5.out);clear a6;go_wp2_with fail;refine Za c1 ?_;rintro e w5 ⟨rfl,b4⟩;have b9:=Qa (a5.out.trans (b4.mono a5.out.size));clear b4;go_wp2_with fail;go_ret;rw[b2.out];exact⟨rfl,b9.out⟩
   ·have e1:(nc==0)=false:=by simpa using hn0
    have b2:=Qa (Hs.out.trans (if_neg hn0));clear Hs hn0;go_wp2_with fail;refine Za Hp ?_;rintro e w3 ⟨rfl,a3⟩;have a7:=Qa a3;have b0:=Qa (Hq.out w3 a3);clear a3;go_wp2_with fail;refine Za b0 ?_;rintro e w4' ⟨rfl,a1⟩;have a0:=Qa (a7.out.trans (a1.mono a7.out.size));have b1:=Qa (c3.out w4' a0.out);clear a1;go_wp2_with fail;refine Za b1 ?_;rintro e w4 ⟨rfl,a6⟩;have a5:=Qa (a2.out.trans ((a0.out.trans (a6.mono a0.out.size)).mono a2.out.size));clear a6;go_wp2_with fail;go_ret;rw[b2.out];exact⟨rfl,a5.out⟩
  ·have h':¬ (i:Int)<m:=by omega
   have Hl:=Qa (eN c5.out);have b3:=Qa (eN c6.out);rw[Hn.out] at Hl;rw[c4.out] at b3;have Hz:=Qa (show aw (JV.keys true ns ks) (JV.keys true ns' ks')=sg n n' by
    have h1:=Hm.out;have h2:=d1.out;have h3:=d3.out;have h4:=Hi.out;rw[He.out,uq]
    ·unfold sg;rw[List.length_drop,List.length_drop]
     (repeat' split) <;> first|rfl|omega
    ·rcases(by omega:ks.length<=i\/ks'.length<=i) with h|h
     ·exact .inl (List.drop_eq_nil_of_le h)
     ·exact .inr (List.drop_eq_nil_of_le h))
   clear He;go_wp2_with fail;refine Za Hl ?_;rintro e w3 ⟨rfl,rfl⟩;go_wp2_with fail;refine Za b3 ?_;rintro e w3 ⟨rfl,rfl⟩;go_wp2_with fail;refine a8.mono ?_;rintro e w3 ⟨rfl,rfl⟩;go_wp2_with fail;go_ret;rw[Hz.out];exact⟨rfl,a2.out⟩
theorem ix {P:Program}{asserted t:TypeId}{want:Array (String×TypeId)}(hu:P.underlying asserted=some (.interface want))(h:(P.info? t).map (fun i=>(lacking want i.methods).isEmpty)=some true)(v:Value)(xT:TypeId)(w:World):(Instr.typeAssert (.iface t v) xT asserted false).run P w =.ok (.iface t v) w:=by
 obtain⟨i,hi,hl⟩:=Option.map_eq_some_iff.1 h;simp[Instr.typeAssert,run_underlying hu,typeInfo,hi,missingMethod_none (List.isEmpty_iff.1 hl)]
theorem rL (x:Value)(W:World):(Instr.typeAssert (.iface 49 x) 32 50 true).run Tryz.prog W =.ok (.tuple #[.bool false,.bool false]) W:=by kernel_rfl
theorem vr (x:Value)(W:World):(Instr.typeAssert (.iface 49 x) 32 113 true).run Tryz.prog W =.ok (.tuple #[.agg #[.bool false,.string ⟨#[]⟩,.int .i64 0],.bool false]) W:=by kernel_rfl
theorem kU (x:Value)(W:World):(Instr.typeAssert (.iface 49 x) 32 51 true).run Tryz.prog W =.ok (.tuple #[.string ⟨#[]⟩,.bool false]) W:=by kernel_rfl
theorem iE (x:Value)(W:World):(Instr.typeAssert (.iface 49 x) 32 124 true).run Tryz.prog W =.ok (.tuple #[.nilIface,.bool false]) W:=run_typeAssert_lacksB Tryz.underlying124 (by kernel_rfl) (by kernel_rfl) x _ W
theorem Ew (x:Value)(W:World):(Instr.typeAssert (.iface 50 x) 32 50 true).run Tryz.prog W =.ok (.tuple #[x,.bool true]) W:=by kernel_rfl
theorem EF (x:Value)(W:World):(Instr.typeAssert (.iface 50 x) 32 50 false).run Tryz.prog W =.ok x W:=by kernel_rfl
theorem qI (x:Value)(W:World):(Instr.typeAssert (.iface 50 x) 32 51 true).run Tryz.prog W =.ok (.tuple #[.string ⟨#[]⟩,.bool false]) W:=by kernel_rfl
theorem mj (x:Value)(W:World):(Instr.typeAssert (.iface 50 x) 32 124 true).run Tryz.prog W =.ok (.tuple #[.nilIface,.bool false]) W:=run_typeAssert_lacksB Tryz.underlying124 (by kernel_rfl) (by kernel_rfl) x _ W
theorem uS (x:Value)(W:World):(Instr.typeAssert (.iface 113 x) 32 50 true).run Tryz.prog W =.ok (.tuple #[.bool false,.bool false]) W:=by kernel_rfl
theorem Gq (x:Value)(W:World):(Instr.typeAssert (.iface 113 x) 32 113 true).run Tryz.prog W =.ok (.tuple #[x,.bool true]) W:=by kernel_rfl
theorem GS (x:Value)(W:World):(Instr.typeAssert (.iface 113 x) 32 113 false).run Tryz.prog W =.ok x W:=by kernel_rfl
theorem tf (x:Value)(W:World):(Instr.typeAssert (.iface 113 x) 32 51 true).run Tryz.prog W =.ok (.tuple #[.string ⟨#[]⟩,.bool false]) W:=by kernel_rfl
theorem mZ (x:Value)(W:World):(Instr.typeAssert (.iface 113 x) 32 124 true).run Tryz.prog W =.ok (.tuple #[.nilIface,.bool false]) W:=run_typeAssert_lacksB Tryz.underlying124 (by kernel_rfl) (by kernel_rfl) x _ W
theorem rJ (x:Value)(W:World):(Instr.typeAssert (.iface 51 x) 32 50 true).run Tryz.prog W =.ok (.tuple #[.bool false,.bool false]) W:=by kernel_rfl
theorem uK (x:Value)(W:World):(Instr.typeAssert (.iface 51 x) 32 113 true).run Tryz.prog W =.ok (.tuple #[.agg #[.bool false,.string ⟨#[]⟩,.int .i64 0],.bool false]) W:=by kernel_rfl
theorem yV (x:Value)(W:World):(Instr.typeAssert (.iface 51 x) 32 51 true).run Tryz.prog W =.ok (.tuple #[x,.bool true]) W:=by kernel_rfl
theorem EV (x:Value)(W:World):(Instr.typeAssert (.iface 51 x) 32 51 false).run Tryz.prog W =.ok x W:=by kernel_rfl
theorem lM (x:Value)(W:World):(Instr.typeAssert (.iface 51 x) 32 124 true).run Tryz.prog W =.ok (.tuple #[.nilIface,.bool false]) W:=run_typeAssert_lacksB Tryz.underlying124 (by kernel_rfl) (by kernel_rfl) x _ W
theorem qL (x:Value)(W:World):(Instr.typeAssert (.iface 45 x) 32 50 true).run Tryz.prog W =.ok (.tuple #[.bool false,.bool false]) W:=by kernel_rfl
theorem tT (x:Value)(W:World):(Instr.typeAssert (.iface 45 x) 32 113 true).run Tryz.prog W =.ok (.tuple #[.agg #[.bool false,.string ⟨#[]⟩,.int .i64 0],.bool false]) W:=by kernel_rfl
theorem qR (x:Value)(W:World):(Instr.typeAssert (.iface 45 x) 32 51 true).run Tryz.prog W =.ok (.tuple #[.string ⟨#[]⟩,.bool false]) W:=by kernel_rfl
theorem lJ (x:Value)(W:World):(Instr.typeAssert (.iface 45 x) 32 124 true).run Tryz.prog W =.ok (.tuple #[.nilIface,.bool false]) W:=run_typeAssert_lacksB Tryz.underlying124 (by kernel_rfl) (by kernel_rfl) x _ W
theorem rE (x:Value)(W:World):(Instr.typeAssert (.iface 48 x) 32 50 true).run Tryz.prog W =.ok (.tuple #[.bool false,.bool false]) W:=by kernel_rfl
theorem tB (x:Value)(W:World):(Instr.typeAssert (.iface 48 x) 32 113 true).run Tryz.prog W =.ok (.tuple #[.agg #[.bool false,.string ⟨#[]⟩,.int .i64 0],.bool false]) W:=by kernel_rfl
theorem kC (x:Value)(W:World):(Instr.typeAssert (.iface 48 x) 32 51 true).run Tryz.prog W =.ok (.tuple #[.string ⟨#[]⟩,.bool false]) W:=by kernel_rfl
theorem iL (x:Value)(W:World):(Instr.typeAssert (.iface 48 x) 32 124 true).run Tryz.prog W =.ok (.tuple #[.iface 48 x,.bool true]) W:=run_typeAssert_hasB Tryz.underlying124 (by kernel_rfl) x _ W
theorem l8 (x:Value)(W:World):(Instr.typeAssert (.iface 48 x) 32 124 false).run Tryz.prog W =.ok (.iface 48 x) W:=ix Tryz.underlying124 (by kernel_rfl) x _ W
theorem uN (x:Value)(W:World):(Instr.typeAssert (.iface 116 x) 32 50 true).run Tryz.prog W =.ok (.tuple #[.bool false,.bool false]) W:=by kernel_rfl
theorem vF (x:Value)(W:World):(Instr.typeAssert (.iface 116 x) 32 113 true).run Tryz.prog W =.ok (.tuple #[.agg #[.bool false,.string ⟨#[]⟩,.int .i64 0],.bool false]) W:=by kernel_rfl
theorem lY (x:Value)(W:World):(Instr.typeAssert (.iface 116 x) 32 51 true).run Tryz.prog W =.ok (.tuple #[.string ⟨#[]⟩,.bool false]) W:=by kernel_rfl
theorem kc (x:Value)(W:World):(Instr.typeAssert (.iface 116 x) 32 124 true).run Tryz.prog W =.ok (.tuple #[.iface 116 x,.bool true]) W:=run_typeAssert_hasB Tryz.underlying124 (by kernel_rfl) x _ W
theorem nz (x:Value)(W:World):(Instr.typeAssert (.iface 116 x) 32 124 false).run Tryz.prog W =.ok (.iface 116 x) W:=ix Tryz.underlying124 (by kernel_rfl) x _ W
theorem pJ {t:TypeId}{d:Nat}{op:Op}{pos:String}{af:Array Edge}{gu:Option (Nat×Bool)}{a:Act}{K:Act->World->Prop}{Q':Exit->Act->World->Prop}(h:VW P w v j)(hv:v =.iface t x)(k:∀w',Below w.heap.size w w'->K (a.put (some d) (.int .i64 j.kindOf)) w'):Oper.upon Tryz.prog {dst:=some d,op:=op,type:=ty,pos:=pos,after:=af,guard:=gu} a K Q' ((Sem.run Tryz.prog (method 527 t x "Kind") w).andThen fun a w'=>Sem.run Tryz.prog (callFunc a.fst #[a.snd]) w'):=by
 cases h <;> (injection hv with e1 e2;subst e1 e2)
 all_goals
  go_wp2_with fail;(with_reducible first|refine gP.mono ?_|refine gD.mono ?_|refine iP.mono ?_|refine gT.mono ?_|refine gV.mono ?_|refine et.mono ?_|refine gE.mono ?_);rintro e w1 ⟨rfl,a0⟩;exact k w1 a0
theorem fO {a b:JV}(ha:VW P w v a)(hb:VW Q w v' b)(hd:a.kindOf≠b.kindOf):Calls Tryz.prog 25 #[v,v'] w fun e w'=>e =.returned (.bool false)/\Below w.heap.size w w':=by
 obtain⟨t1,x1,rfl⟩:=ha.iface;obtain⟨t2,x2,rfl⟩:=hb.iface;have Ha:=Qa ha;have Hb:=Qa (fun w1 (h:Below w.heap.size w w1)=>hb.later h);have a4:(a.kindOf==b.kindOf)=false:=by simpa using hd
 clear ha hb hd;go_enter Tryz.func25,Tryz.ntmps25;go_wp2_with fail;refine pJ Ha.out rfl fun w1 a1=>?_
 have a0:=Qa a1;clear a1;go_wp2_with fail;refine pJ (Hb.out w1 a0.out) rfl fun w2 a2=>?_
 have a3:=Qa (a0.out.trans (a2.mono a0.out.size));clear a2;go_wp2_with fail;go_ret;exact⟨rfl,a3.out⟩
def lH (l:List UInt8):ByteArray:=⟨l.toArray⟩
theorem oR:Calls Tryz.prog 287 #[.agg #[]] w fun e w'=>e =.returned (.string (lH [110,117,108,108]))/\Below w.heap.size w w':=by
 go_enter Tryz.func287,Tryz.ntmps287;go_wp2_with fail;go_ret;exact⟨rfl,ac w _⟩
theorem AU (b:Bool):Calls Tryz.prog 292 #[.bool b] w fun e w'=>e =.returned (.string (lH (if b then [116,114,117,101] else [102,97,108,115,101])))/\w=w':=by
 cases b
 all_goals
  go_enter Tryz.func292,Tryz.ntmps292;go_wp2_with fail;go_ret;exact⟨rfl,rfl⟩
theorem CS (b:Bool):Calls Tryz.prog 291 #[.bool b] w fun e w'=>e =.returned (.string (lH (if b then [116,114,117,101] else [102,97,108,115,101])))/\w=w':=by
 have H:=Qa (AU (w:=w) b);generalize lH (if b then [116,114,117,101] else [102,97,108,115,101])=s at *;go_enter Tryz.func291,Tryz.ntmps291;go_wp2_with fail;refine Za H ?_;rintro e w1 ⟨rfl,rfl⟩;go_wp2_with fail;go_ret;exact⟨rfl,rfl⟩
theorem oP (b:Bool):Calls Tryz.prog 289 #[.bool b] w fun e w'=>e =.returned (.string (lH (if b then [116,114,117,101] else [102,97,108,115,101])))/\Below w.heap.size w w':=by
 have H:=Qa (CS (w:=w) b);generalize lH (if b then [116,114,117,101] else [102,97,108,115,101])=s at *;go_enter Tryz.func289,Tryz.ntmps289;go_wp2_with fail;refine Za H ?_;rintro e w1 ⟨rfl,rfl⟩;go_wp2_with fail;go_ret;exact⟨rfl,Ze _ _⟩
theorem AA (n:Int)(h0: -1000000000<=n)(h1:n<=1000000000)(hT:cG w):Calls Tryz.prog 78 #[.int .i64 n] w fun e w'=>e =.returned (.string ⟨(Lib.itoa n).toArray⟩)/\Below w.heap.size w w':=by
 refine(Any.strconv_Itoa sC n (by omega) (by omega) w hT).mono ?_;rintro e w' ⟨rfl,k,os,rfl⟩;exact⟨rfl,Lib.below_grow _ w (Zb _) k os⟩
theorem qf (hT:cG w)(hs:d.digits.size<=1000000000000)(h0: -1000000000<=d.exp)(h1:d.exp<=1000000000):Calls Tryz.prog 301 #[.agg #[.bool d.neg,.string d.digits,.int .i64 d.exp]] w fun e w'=>e =.returned (.string (lH (eT d)))/\Below w.heap.size w w':=by
 obtain⟨ng,dg,x⟩:=d
 dsimp only at hs h0 h1 ⊢
 have hb:=ac w (.cells #[.bool ng,.string dg,.int .i64 x] 110);have Ha:=Qa hb;have hz:(⟨(Lib.itoa x).toArray⟩:ByteArray).size<=21:=by
  show(Lib.itoa x).toArray.size<=21
  rw[List.size_toArray];exact Lib.itoa_length_le x (by omega) (by omega)
 have HI:=Qa (AA x h0 h1 (hT.below hb));have a2:(⟨#[101]⟩++ (⟨(Lib.itoa x).toArray⟩:ByteArray):ByteArray).size<=22:=by
  rw[ByteArray.size_append];have:(⟨#[101]⟩:ByteArray).size=1:=rfl;omega
 have a4:(⟨#[45]⟩++dg:ByteArray).size<=1000000000001:=by
  rw[ByteArray.size_append];have:(⟨#[45]⟩:ByteArray).size=1:=rfl;omega
 have e0:(⟨#[45]⟩:ByteArray).size=1:=rfl;have e1:(⟨#[101]⟩:ByteArray).size=1:=rfl;clear hb hT h0 h1
 cases ng <;> by_cases he:x=0
 ·subst he;have hc:=Qa (show dg=lH (eT ⟨false,dg,0⟩) by cases dg with|mk a=>cases a with|mk l=>simp[eT,fJ,lH]);clear hz a2 HI;go_enter Tryz.func301,Tryz.ntmps301;go_wp2_with fail;go_ret;rw[<-hc.out];exact⟨rfl,Ha.out⟩
 ·have hc:=Qa (show dg++ (⟨#[101]⟩++ ⟨(Lib.itoa x).toArray⟩:ByteArray)=lH (eT ⟨false,dg,x⟩) by cases dg with|mk a=>cases a with|mk l=>simp only[eT,fJ,lH,if_neg he];rfl);have a3:(x==0)=false:=by simpa using he
  clear he;generalize (⟨(Lib.itoa x).toArray⟩:ByteArray)=z at *;go_enter Tryz.func301,Tryz.ntmps301;go_wp2_with fail;refine Za HI ?_;rintro e w1 ⟨rfl,a0⟩;have a1:=Qa (Ha.out.trans (a0.mono Ha.out.size));clear a0;go_wp2_with fail;go_ret;rw[<-hc.out];exact⟨rfl,a1.out⟩
 ·subst he;have hc:=Qa (show(⟨#[45]⟩++dg:ByteArray)=lH (eT ⟨true,dg,0⟩) by cases dg with|mk a=>cases a with|mk l=>simp only[eT,fJ,lH,if_true,List.append_nil];rfl);clear hz a2 HI;go_enter Tryz.func301,Tryz.ntmps301;go_wp2_with fail;go_ret;rw[<-hc.out];exact⟨rfl,Ha.out⟩
 ·have hc:=Qa (show(⟨#[45]⟩++dg)++ (⟨#[101]⟩++ ⟨(Lib.itoa x).toArray⟩:ByteArray)=lH (eT ⟨true,dg,x⟩) by cases dg with|mk a=>cases a with|mk l=>simp only[eT,fJ,lH,if_neg he,if_true];rfl);have a3:(x==0)=false:=by simpa using he
  clear he;generalize (⟨(Lib.itoa x).toArray⟩:ByteArray)=z at *;go_enter Tryz.func301,Tryz.ntmps301;go_wp2_with fail;refine Za HI ?_;rintro e w1 ⟨rfl,a0⟩;have a1:=Qa (Ha.out.trans (a0.mono Ha.out.size));clear a0;go_wp2_with fail;go_ret;rw[<-hc.out];exact⟨rfl,a1.out⟩
theorem nS {s:ByteArray}(hs:du s)(hG:ce w aU aE)(hl:s.size<=1000000000):Calls Tryz.prog 54 #[.string s] w fun e w'=> ∃v,e =.returned v/\aq w' w.heap.size v (ea s)/\Below w.heap.size w w':=by
 have H:=Qa (p6 hs hG hl);clear hs hG hl;go_enter Tryz.func54,Tryz.ntmps54;go_wp2_with fail;refine Za H ?_;rintro e w1 ⟨v,rfl,ho,hb⟩;have Hb:=Qa hb;have Ho:=Qa ho;obtain⟨A,q,rfl,-⟩:=ag ho;clear hb ho;go_wp2_with fail;go_ret;exact⟨_,rfl,Ho.out,Hb.out⟩
def kR (W:World)(l:List UInt8)(e:Ending)(w':World):Prop:= ∃v,e =.returned v/\aq w' W.heap.size v l/\Below W.heap.size W w'
theorem Be {s:ByteArray}(hs:du s)(hG:ce W aU aE)(hl:s.size<=1000000000)(hb:Below W.heap.size W w)(ho:aq w W.heap.size u xs)(hx:xs.length+ (ea s).length<=140737488355328):Calls Tryz.prog 32 #[u,.iface 51 (.string s)] w (kR W (xs++ea s)):=by
 have k1:=yV;have H:=Qa (nS (w:=w) hs (hG.below hb) hl);have Hb:=Qa hb;have Ho:=Qa ho;have Hx:=Qa hx;obtain⟨A,q,rfl,-⟩:=ag ho;clear hs hG hb ho hx;generalize ea s=qs at *;go_enter Tryz.func32,Tryz.ntmps32;go_wp2_with fail;refine Za H ?_;rintro e w1 ⟨v,rfl,a2,a1⟩;have a0:=Qa (Hb.out.trans (a1.mono Hb.out.size));have a3:=Qa (Ho.out.below a1 (Zb _));have a4:=Qa (aq.bs a2);obtain⟨A2,q2,rfl,-⟩:=ag a2;clear a2 a1;go_wp2_with (at_builtin;refine pR a3.out a4.out Hx.out a0.out.size ?_;intro v' w3 h1 h2 h3;have HK:=Qa h1;have a5:=Qa h2;clear h1 h2 h3);obtain⟨A3,q3,rfl,-⟩:=ag HK.out;go_ret;exact⟨_,rfl,HK.out,a0.out.grown a5.out a0.out.size (fun g e=>(aq.blk a3.out e).1)⟩
def uF:List UInt8:= [110,117,108,108]
def uz (b:Bool):List UInt8:=if b then [116,114,117,101] else [102,97,108,115,101]
theorem ny (l:List UInt8):(lH l).size=l.length:=by show l.toArray.size=_;simp
theorem AY {P:Program}{f:FuncId}{x y:Array Value}{K:Ending->World->Prop}(h:x=y)(hc:Calls P f #[.agg y] w K):Calls P f #[.agg x] w K:=h▸hc
theorem EJ (x:Value)(W:World):(Instr.typeAssert (.iface 49 x) 32 137 true).run Tryz.prog W =.ok (.tuple #[.iface 49 x,.bool true]) W:=run_typeAssert_hasB Tryz.underlying137 (by kernel_rfl) x _ W
theorem zX (hb:Below W.heap.size W w)(ho:aq w W.heap.size u xs)(hx:xs.length+uF.length<=140737488355328):Calls Tryz.prog 32 #[u,.iface 49 (.agg #[])] w (kR W (xs++uF)):=by
 have k1:=kU;have k2:=EJ;have H:=Qa (show Calls Tryz.prog 287 #[.agg #[]] w fun e w'=>e =.returned (.string (lH uF))/\Below w.heap.size w w' from oR);have Hb:=Qa hb;have Ho:=Qa ho;have Hx:=Qa hx;obtain⟨A,q,rfl,-⟩:=ag ho;clear hb ho hx;generalize uF=qs at *;have a3:(lH qs).data.toList=qs:=rfl;have Hq:=Qa a3;have Hz:=Qa (show xs.length+ (lH qs).size<=140737488355328 by have:=Hx.out;rw[ny];exact this);generalize lH qs=ts at *;clear a3;go_enter Tryz.func32,Tryz.ntmps32;go_wp2_with fail;refine Za H ?_;rintro e w1 ⟨rfl,a1⟩;have a0:=Qa (Hb.out.trans (a1.mono Hb.out.size));have a2:=Qa (Ho.out.below a1 (Zb _));clear a1;go_wp2_with (at_builtin;refine cm rfl (.tmp 26) (.tmp 28) rfl W.heap.size (.slice A xs.length q) xs ts (by simp[Act.eval]) a2.out (by simp[Act.eval]) Hz.out a0.out.size ?_;intro v' w3 h1 h2;have HK:=Qa h1;have a4:=Qa h2;clear h1 h2);rw[Hq.out] at HK;obtain⟨A3,q3,rfl,-⟩:=ag HK.out;go_ret;exact⟨_,rfl,HK.out,a0.out.grown a4.out a0.out.size (fun g e=>(aq.blk a2.out e).1)⟩
theorem FB (x:Value)(W:World):(Instr.typeAssert (.iface 50 x) 32 137 true).run Tryz.prog W =.ok (.tuple #[.iface 50 x,.bool true]) W:=run_typeAssert_hasB Tryz.underlying137 (by kernel_rfl) x _ W
theorem AI {b:Bool}(hb:Below W.heap.size W w)(ho:aq w W.heap.size u xs)(hx:xs.length+ (uz b).length<=140737488355328):Calls Tryz.prog 32 #[u,.iface 50 (.bool b)] w fun e w'=>kR W (xs++ (uz b)) e w':=by
 have k1:=qI;have k2:=FB;have H:=Qa (show Calls Tryz.prog 289 #[.bool b] w fun e w'=>e =.returned (.string (lH (uz b)))/\Below w.heap.size w w' from oP b);have Hb:=Qa hb;have Ho:=Qa ho;have Hx:=Qa hx;obtain⟨A,q,rfl,-⟩:=ag ho;clear hb ho hx;generalize (uz b)=qs at *;have a3:(lH qs).data.toList=qs:=rfl;have Hq:=Qa a3;have Hz:=Qa (show xs.length+ (lH qs).size<=140737488355328 by have:=Hx.out;rw[ny];exact this);generalize lH qs=ts at *;clear a3;go_enter Tryz.func32,Tryz.ntmps32;go_wp2_with fail;refine Za H ?_;rintro e w1 ⟨rfl,a1⟩;have a0:=Qa (Hb.out.trans (a1.mono Hb.out.size));have a2:=Qa (Ho.out.below a1 (Zb _));clear a1;go_wp2_with (at_builtin;refine cm rfl (.tmp 26) (.tmp 28) rfl W.heap.size (.slice A xs.length q) xs ts (by simp[Act.eval]) a2.out (by simp[Act.eval]) Hz.out a0.out.size ?_;intro v' w3 h1 h2;have HK:=Qa h1;have a4:=Qa h2;clear h1 h2);rw[Hq.out] at HK;obtain⟨A3,q3,rfl,-⟩:=ag HK.out;go_ret;exact⟨_,rfl,HK.out,a0.out.grown a4.out a0.out.size (fun g e=>(aq.blk a2.out e).1)⟩
theorem GX (x:Value)(W:World):(Instr.typeAssert (.iface 113 x) 32 137 true).run Tryz.prog W =.ok (.tuple #[.iface 113 x,.bool true]) W:=run_typeAssert_hasB Tryz.underlying137 (by kernel_rfl) x _ W
theorem DV (hT:cG W)(hsz:d.digits.size<=1000000000000)(h0: -1000000000<=d.exp)(h1:d.exp<=1000000000)(hb:Below W.heap.size W w)(ho:aq w W.heap.size u xs)(hx:xs.length+ (eT d).length<=140737488355328):Calls Tryz.prog 32 #[u,.iface 113 (.agg #[.bool d.neg,.string d.digits,.int .i64 d.exp])] w fun e w'=>kR W (xs++ (eT d)) e w':=by
 have k1:=tf;have k2:=GX;have H:=Qa (qf (w:=w) (hT.below hb) hsz h0 h1);have Hb:=Qa hb;have Ho:=Qa ho;have Hx:=Qa hx;obtain⟨A,q,rfl,-⟩:=ag ho;clear hb ho hx hT hsz h0 h1;generalize (eT d)=qs at *;have a3:(lH qs).data.toList=qs:=rfl;have Hq:=Qa a3;have Hz:=Qa (show xs.length+ (lH qs).size<=140737488355328 by have:=Hx.out;rw[ny];exact this);generalize lH qs=ts at *;clear a3;go_enter Tryz.func32,Tryz.ntmps32;go_wp2_with fail;(with_reducible refine AY (y:= #[.bool d.neg,.string d.digits,.int .i64 d.exp]) (by kernel_rfl) (H.out.mono ?_));rintro e w1 ⟨rfl,a1⟩;have a0:=Qa (Hb.out.trans (a1.mono Hb.out.size));have a2:=Qa (Ho.out.below a1 (Zb _));clear a1;go_wp2_with (at_builtin;refine cm rfl (.tmp 26) (.tmp 28) rfl W.heap.size (.slice A xs.length q) xs ts (by simp[Act.eval]) a2.out (by simp[Act.eval]) Hz.out a0.out.size ?_;intro v' w3 h1 h2;have HK:=Qa h1;have a4:=Qa h2;clear h1 h2);rw[Hq.out] at HK;obtain⟨A3,q3,rfl,-⟩:=ag HK.out;go_ret;exact⟨_,rfl,HK.out,a0.out.grown a4.out a0.out.size (fun g e=>(aq.blk a2.out e).1)⟩
