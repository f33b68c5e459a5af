import Derived.Test.YthknekoamnnhhaaGreatDoorGZ5ap
import Derived.Stop.Asserts
import Derived.Lib.ItoaLen
set_option linter.unusedVariables false
set_option linter.unusedSimpArgs false
set_option maxHeartbeats 64000000
set_option maxRecDepth 100000
namespace Go.Proofs.YthknekoamnnhhaaGreatDoor
open Go.RowKit Go.Shelf
variable {aE aU:Addr}{o t':Bool}{x':ByteArray}{d n':Dc}{j:JV}{ns ns':List ByteArray}{ks ks':List JV}{full xs ys:List UInt8}{us us':List Value}{i:Nat}{P Q:Nat->Prop}{A:Option Addr}{ty:TypeId}{u v v' x:Value}{W w w1:World}
def nf (W:World)(o:Bool)(ns ns':List ByteArray)(ks ks':List JV)(s19:Value)(wr:World):Prop:= ∃i:Nat,s19 =.int .i64 i/\i<=ks.length/\i<=ks'.length/\ay (JV.keys o ns ks) (JV.keys o ns' ks')=ay (JV.keys o (ns.drop i) (ks.drop i)) (JV.keys o (ns'.drop i) (ks'.drop i))/\Below W.heap.size W wr
theorem wW {B:Option Addr}(ha:dl P w A us ks)(hb:dl Q w B us' ks')(hT:du w)
  (hl:us.length<=maxLen) (c8:us'.length<=maxLen)
  (H:∀ (i:Nat) u u' k k',us[i]?=some u->ks[i]?=some k->us'[i]?=some u'->ks'[i]?=some k'->∀w1,Below w.heap.size w w1->Calls Tryz.prog 32 #[u,u'] w1 fun e w'=>e =.returned (.int .i64 (cX k k'))/\Below w1.heap.size w1 w') :
  Calls Tryz.prog 62 #[.iface 57 (.pointer A),.iface 57 (.pointer B),.bool false] w fun e w'=>e =.returned (.int .i64 (ay (JV.keys false [] ks) (JV.keys false [] ks')))/\Below w.heap.size w w':=by
 have la:=ha.len;have lb:=hb.len;unfold maxLen at hl c8;have Ha:=Qa ha;have Hb:=Qa hb;have HT:=Qa hT;have HH:=Qa H;clear ha hb hT H;have Hl:=Qa (d8 Ha.out);have a5:=Qa (d8 Hb.out);have c6:=Qa la;have c4:=Qa lb;generalize hn:us.length=n at *;generalize hn':us'.length=n' at *;have Hn:=Qa hn;have b2:=Qa hn';clear hn hn' la lb;go_enter Tryz.func62,Tryz.ntmps62;go_wp2_with fail;(with_reducible refine Hl.out.mono ?_);rintro e w3 ⟨rfl,rfl⟩;go_wp2_with fail;(with_reducible refine a5.out.mono ?_);rintro e w3 ⟨rfl,rfl⟩;go_wp2_with fail;obtain⟨m,hm,b9⟩:∃m:Nat,(min (n:Int) n')=m/\m=min n n':=⟨min n n',by omega,rfl⟩;rw[hm];have Hm:=Qa b9;have c9:m<=9223372036854775807:=by omega
 clear hm b9 Hl a5
 go_loopw [19] (fun s19 wr=>nf w false [] [] ks ks' s19 wr) (fun s19 _=>m - (intOf s19).toNat)
 case atStart=>exact⟨0,rfl,Zj _,Zj _,rfl,Zd _ _⟩
 case round=>
  obtain⟨i,rfl,c2,c1,he,a1⟩:=hrel;have a0:=Qa a1;have He:=Qa he;have Hi:=Qa (And.intro c2 c1);clear he c2 c1;have c7:=Qa (Ha.out.below a1);have c5:=Qa (Hb.out.below a1);have c3:=Qa (HT.out.below a1);clear a1
  by_cases h:i<m
  ·have b8:i<us.length:=by have:=Hm.out;have:=Hn.out;omega
   have c0:i<us'.length:=by have:=Hm.out;have:=b2.out;omega
   have b0:i<ks.length:=by have:=c6.out;have:=Hn.out;omega
   have a9:i<ks'.length:=by have:=c4.out;have:=b2.out;omega
   obtain⟨u,hu⟩:∃u,us[i]?=some u:=⟨_,Zc b8⟩;obtain⟨u',b7⟩:∃u,us'[i]?=some u:=⟨_,Zc c0⟩;obtain⟨k,hk⟩:∃u,ks[i]?=some u:=⟨_,Zc b0⟩;obtain⟨k',b4⟩:∃u,ks'[i]?=some u:=⟨_,Zc a9⟩;have Hp:=Qa (eN c7.out c3.out i hu);have Hq:=Qa (fun w5 (h:Below wr.heap.size wr w5)=>eN (c5.out.below h) (c3.out.below h) i b7);have Hc:=Qa (HH.out i u u' k k' hu hk b7 b4);have Hs:=Qa (show ay (JV.keys false [] ks) (JV.keys false [] ks')=if cX k k'=0 then ay (JV.keys false [] (ks.drop (i+1))) (JV.keys false [] (ks'.drop (i+1))) else cX k k' by
    rw[He.out,List.drop_eq_getElem_cons b0,List.drop_eq_getElem_cons a9,pQ];rw[(List.getElem?_eq_some_iff.1 hk).2,(List.getElem?_eq_some_iff.1 b4).2];simp)
   have Hk:=Qa (And.intro b0 a9);have h':(i:Int)<m:=by omega
   have w1:IntKind.i64.wrap ((i:Int)+1)= (i:Int)+1:=IntWalk.i64_in _ (by omega);clear b8 c0 b0 a9 hu b7 hk b4 He;generalize cX k k'=cc at *
   by_cases hc0:cc=0
   ·subst hc0;have b6:=Qa (Hs.out.trans (if_pos rfl));clear Hs;go_wp2_with fail;(with_reducible refine Hp.out.mono ?_);rintro e w3 ⟨rfl,a2⟩;have a7:=Qa a2;have b1:=Qa (Hq.out w3 a2);clear a2;go_wp2_with fail;(with_reducible refine b1.out.mono ?_);rintro e w4 ⟨rfl,a6⟩;have a3:=Qa (a0.out.trans ((a7.out.trans (a6.mono a7.out.size)).mono a0.out.size));have b3:=Qa (Hc.out w4 a3.out);clear a6;go_wp2_with fail;(with_reducible refine b3.out.mono ?_);rintro e w5 ⟨rfl,a4⟩;have b5:=Qa (a3.out.trans (a4.mono a3.out.size));clear a4;go_wp2_with fail;refine⟨⟨i+1,rfl,Hk.out.1,Hk.out.2,b6.out,b5.out⟩,?_⟩
    show m - ((i:Int)+1).toNat<m - ((i:Int)).toNat
    omega
   ·have d0:(cc==0)=false:=by simpa using hc0
    have b6:=Qa (Hs.out.trans (if_neg hc0));clear Hs hc0;go_wp2_with fail;(with_reducible refine Hp.out.mono ?_);rintro e w3 ⟨rfl,a2⟩;have a7:=Qa a2;have b1:=Qa (Hq.out w3 a2);clear a2;go_wp2_with fail;(with_reducible refine b1.out.mono ?_);rintro e w4 ⟨rfl,a6⟩;have a3:=Qa (a0.out.trans ((a7.out.trans (a6.mono a7.out.size)).mono a0.out.size));have b3:=Qa (Hc.out w4 a3.out);clear a6;go_wp2_with fail;(with_reducible refine b3.out.mono ?_);rintro e w5 ⟨rfl,a4⟩;have b5:=Qa (a3.out.trans (a4.mono a3.out.size));clear a4;go_wp2_with fail;go_ret;rw[b6.out];exact⟨rfl,b5.out⟩
  ·have h':¬ (i:Int)<m:=by omega
   have Hl:=Qa (d8 c7.out);have a5:=Qa (d8 c5.out);rw[Hn.out] at Hl;rw[b2.out] at a5;have Hz:=Qa (show ay (JV.keys false [] ks) (JV.keys false [] ks')=sg n n' by
    have h1:=Hm.out;have h2:=c6.out;have h3:=c4.out;have h4:=Hi.out;rw[He.out,ig]
    ·unfold sg;rw[List.length_drop,List.length_drop]
     (repeat' split) <;> first|rfl|omega
    ·rcases(by omega:ks.length<=i\/ks'.length<=i) with h|h
     ·exact .inl (List.drop_eq_nil_of_le h)
     ·exact .inr (List.drop_eq_nil_of_le h))
   clear He;go_wp2_with fail;(with_reducible refine Hl.out.mono ?_);rintro e w3 ⟨rfl,rfl⟩;go_wp2_with fail;(with_reducible refine a5.out.mono ?_);rintro e w3 ⟨rfl,rfl⟩;go_wp2_with fail;(with_reducible refine bj.mono ?_);rintro e w3 ⟨rfl,rfl⟩;go_wp2_with fail;go_ret;rw[Hz.out];exact⟨rfl,a0.out⟩
theorem fa.len (h:fa P w A us ns ks):us.length=ks.length:=by
 obtain⟨_,_,_,_,_,_,h,_⟩:=h;exact h
theorem fa.names (h:fa P w A us ns ks):ns.length=ks.length:=by
 obtain⟨_,_,_,_,_,_,_,h⟩:=h;exact h
theorem AE {B:Option Addr}(ha:fa P w A us ns ks)(hb:fa Q w B us' ns' ks')(hT:cR w aU aE)(hz:∀n∈ns,n.size<=9223372036854775807)(c6:∀n∈ns',n.size<=9223372036854775807)
  (hl:us.length<=maxLen) (d6:us'.length<=maxLen)
  (H:∀ (i:Nat) u u' k k',us[i]?=some u->ks[i]?=some k->us'[i]?=some u'->ks'[i]?=some k'->∀w1,Below w.heap.size w w1->Calls Tryz.prog 32 #[u,u'] w1 fun e w'=>e =.returned (.int .i64 (cX k k'))/\Below w1.heap.size w1 w') :
  Calls Tryz.prog 62 #[.iface 130 (.pointer A),.iface 130 (.pointer B),.bool true] w fun e w'=>e =.returned (.int .i64 (ay (JV.keys true ns ks) (JV.keys true ns' ks')))/\Below w.heap.size w w':=by
 have la:=ha.len;have lb:=hb.len;have ma:=ha.names;have mb:=hb.names;have Hz:=Qa hz;have d5:=Qa c6;unfold maxLen at hl d6;have Ha:=Qa ha;have Hb:=Qa hb;have HT:=Qa hT;have HH:=Qa H;clear ha hb hT H hz c6;have Hl:=Qa (eX Ha.out);have b3:=Qa (eX Hb.out);have d4:=Qa ma;have d3:=Qa mb;have d1:=Qa la;have d0:=Qa lb;generalize hn:us.length=n at *;generalize hn':us'.length=n' at *;have Hn:=Qa hn;have b9:=Qa hn';clear hn hn' la lb ma mb;go_enter Tryz.func62,Tryz.ntmps62;go_wp2_with fail;(with_reducible refine Hl.out.mono ?_);rintro e w3 ⟨rfl,rfl⟩;go_wp2_with fail;(with_reducible refine b3.out.mono ?_);rintro e w3 ⟨rfl,rfl⟩;go_wp2_with fail;obtain⟨m,hm,a9⟩:∃m:Nat,(min (n:Int) n')=m/\m=min n n':=⟨min n n',by omega,rfl⟩;rw[hm];have Hm:=Qa a9;have e0:m<=9223372036854775807:=by omega
 clear hm a9 Hl b3
 go_loopw [19] (fun s19 wr=>nf w true ns ns' ks ks' s19 wr) (fun s19 _=>m - (intOf s19).toNat)
 case atStart=>exact⟨0,rfl,Zj _,Zj _,rfl,Zd _ _⟩
 case round=>
  obtain⟨i,rfl,c9,c8,he,a4⟩:=hrel;have a2:=Qa a4;have He:=Qa he;have Hi:=Qa (And.intro c9 c8);clear he c9 c8;have c5:=Qa (Ha.out.below a4);have d2:=Qa (Hb.out.below a4);have d9:=Qa (HT.out.below a4);clear a4
  by_cases h:i<m
  ·have c4:i<us.length:=by have:=Hm.out;have:=Hn.out;omega
   have c7:i<us'.length:=by have:=Hm.out;have:=b9.out;omega
   have b6:i<ks.length:=by have:=d1.out;have:=Hn.out;omega
   have b5:i<ks'.length:=by have:=d0.out;have:=b9.out;omega
   obtain⟨u,hu⟩:∃u,us[i]?=some u:=⟨_,Zc c4⟩;obtain⟨u',c3⟩:∃u,us'[i]?=some u:=⟨_,Zc c7⟩;obtain⟨k,hk⟩:∃u,ks[i]?=some u:=⟨_,Zc b6⟩;obtain⟨k',c1⟩:∃u,ks'[i]?=some u:=⟨_,Zc b5⟩;have b7:i<ns.length:=by have:=d4.out;omega
   have a9:i<ns'.length:=by have:=d3.out;omega
   obtain⟨s,hs⟩:∃u,ns[i]?=some u:=⟨_,Zc b7⟩;obtain⟨s',hs'⟩:∃u,ns'[i]?=some u:=⟨_,Zc a9⟩;have Hp:=Qa (fE c5.out i hu hs);have Hq:=Qa (fun w5 (h:Below wr.heap.size wr w5)=>fE (d2.out.below h) i c3 hs');have b8:=Qa (fun w5 (h:Below wr.heap.size wr w5)=>jq (Hz.out s (Zk hs)) (d5.out s' (Zk hs')) (d9.out.below h));have Hc:=Qa (HH.out i u u' k k' hu hk c3 c1);have Hs:=Qa (show ay (JV.keys true ns ks) (JV.keys true ns' ks')=if ay (nm s) (nm s')=0 then(if cX k k'=0 then ay (JV.keys true (ns.drop (i+1)) (ks.drop (i+1))) (JV.keys true (ns'.drop (i+1)) (ks'.drop (i+1))) else cX k k') else ay (nm s) (nm s') by
    rw[He.out,List.drop_eq_getElem_cons b6,List.drop_eq_getElem_cons b5,List.drop_eq_getElem_cons b7,List.drop_eq_getElem_cons a9,ur];rw[(List.getElem?_eq_some_iff.1 hk).2,(List.getElem?_eq_some_iff.1 c1).2,(List.getElem?_eq_some_iff.1 hs).2,(List.getElem?_eq_some_iff.1 hs').2])
   have Hk:=Qa (And.intro b6 b5);have h':(i:Int)<m:=by omega
   have w1:IntKind.i64.wrap ((i:Int)+1)= (i:Int)+1:=IntWalk.i64_in _ (by omega);clear c4 c7 b6 b5 hu c3 hk c1 hs hs' b7 a9 He;generalize ay (nm s) (nm s')=nc at *;generalize cX k k'=cc at *
   by_cases hn0:nc=0
   ·subst hn0;rw[if_pos rfl] at Hs
    by_cases hc0:cc=0
    ·subst hc0;have b4:=Qa (Hs.out.trans (if_pos rfl));clear Hs;go_wp2_with fail;(with_reducible refine Hp.out.mono ?_);rintro e w3 ⟨rfl,a3⟩;have a7:=Qa a3;have b0:=Qa (Hq.out w3 a3);clear a3;go_wp2_with fail;(with_reducible refine b0.out.mono ?_);rintro e w4' ⟨rfl,a1⟩;have a0:=Qa (a7.out.trans (a1.mono a7.out.size));have b1:=Qa (b8.out w4' a0.out);clear a1;go_wp2_with fail;(with_reducible refine b1.out.mono ?_);rintro e w4 ⟨rfl,a6⟩;have a5:=Qa (a2.out.trans ((a0.out.trans (a6.mono a0.out.size)).mono a2.out.size));have c0:=Qa (Hc.out w4 a5.out);clear a6;go_wp2_with fail;(with_reducible refine c0.out.mono ?_);rintro e w5 ⟨rfl,b2⟩;have c2:=Qa (a5.out.trans (b2.mono a5.out.size));clear b2;go_wp2_with fail;refine⟨⟨i+1,rfl,Hk.out.1,Hk.out.2,b4.out,c2.out⟩,?_⟩
     show m - ((i:Int)+1).toNat<m - ((i:Int)).toNat
     omega
    ·have e2:(cc==0)=false:=by simpa using hc0
     have b4:=Qa (Hs.out.trans (if_neg hc0));clear Hs hc0;go_wp2_with fail;(with_reducible refine Hp.out.mono ?_);rintro e w3 ⟨rfl,a3⟩;have a7:=Qa a3;have b0:=Qa (Hq.out w3 a3);clear a3;go_wp2_with fail;(with_reducible refine b0.out.mono ?_);rintro e w4' ⟨rfl,a1⟩;have a0:=Qa (a7.out.trans (a1.mono a7.out.size));have b1:=Qa (b8.out w4' a0.out);clear a1;go_wp2_with fail;(with_reducible refine b1.out.mono ?_);rintro e w4 ⟨rfl,a6⟩;have a5:=Qa (a2.out.trans ((a0.out.trans (a6.mono a0.out.size)).mono a2.out.size));have c0:=Qa (Hc.out w4 a5.out);clear a6;go_wp2_with fail;(with_reducible refine c0.out.mono ?_);rintro e w5 ⟨rfl,b2⟩;have c2:=Qa (a5.out.trans (b2.mono a5.out.size));clear b2;go_wp2_with fail;go_ret;rw[b4.out];exact⟨rfl,c2.out⟩
   ·have e1:(nc==0)=false:=by simpa using hn0
    have b4:=Qa (Hs.out.trans (if_neg hn0));clear Hs hn0;go_wp2_with fail;(with_reducible refine Hp.out.mono ?_);rintro e w3 ⟨rfl,a3⟩;have a7:=Qa a3;have b0:=Qa (Hq.out w3 a3);clear a3;go_wp2_with fail;(with_reducible refine b0.out.mono ?_);rintro e w4' ⟨rfl,a1⟩;have a0:=Qa (a7.out.trans (a1.mono a7.out.size));have b1:=Qa (b8.out w4' a0.out);clear a1;go_wp2_with fail;(with_reducible refine b1.out.mono ?_);rintro e w4 ⟨rfl,a6⟩;have a5:=Qa (a2.out.trans ((a0.out.trans (a6.mono a0.out.size)).mono a2.out.size));clear a6;go_wp2_with fail;go_ret;rw[b4.out];exact⟨rfl,a5.out⟩
  ·have h':¬ (i:Int)<m:=by omega
   have Hl:=Qa (eX c5.out);have b3:=Qa (eX d2.out);rw[Hn.out] at Hl;rw[b9.out] at b3;have Hz:=Qa (show ay (JV.keys true ns ks) (JV.keys true ns' ks')=sg n n' by
    have h1:=Hm.out;have h2:=d1.out;have h3:=d0.out;have h4:=Hi.out;rw[He.out,ig]
    ·unfold sg;rw[List.length_drop,List.length_drop]
     (repeat' split) <;> first|rfl|omega
    ·rcases(by omega:ks.length<=i\/ks'.length<=i) with h|h
     ·exact .inl (List.drop_eq_nil_of_le h)
     ·exact .inr (List.drop_eq_nil_of_le h))
   clear He;go_wp2_with fail;(with_reducible refine Hl.out.mono ?_);rintro e w3 ⟨rfl,rfl⟩;go_wp2_with fail;(with_reducible refine b3.out.mono ?_);rintro e w3 ⟨rfl,rfl⟩;go_wp2_with fail;(with_reducible refine bj.mono ?_);rintro e w3 ⟨rfl,rfl⟩;go_wp2_with fail;go_ret;rw[Hz.out];exact⟨rfl,a2.out⟩
theorem iR {P:Program}{asserted t:TypeId}{want:Array (String×TypeId)}(hu:P.underlying asserted=some (.interface want))(h:(P.info? t).map (fun i=>(lacking want i.methods).isEmpty)=some true)(v:Value)(xT:TypeId)(w:World):(Instr.typeAssert (.iface t v) xT asserted false).run P w =.ok (.iface t v) w:=by
 obtain⟨i,hi,hl⟩:=Option.map_eq_some_iff.1 h;simp[Instr.typeAssert,run_underlying hu,typeInfo,hi,missingMethod_none (List.isEmpty_iff.1 hl)]
theorem rD (x:Value)(W:World):(Instr.typeAssert (.iface 58 x) 32 59 true).run Tryz.prog W =.ok (.tuple #[.bool false,.bool false]) W:=by kernel_rfl
theorem tM (x:Value)(W:World):(Instr.typeAssert (.iface 58 x) 32 127 true).run Tryz.prog W =.ok (.tuple #[.agg #[.bool false,.string ⟨#[]⟩,.int .i64 0],.bool false]) W:=by kernel_rfl
theorem kK (x:Value)(W:World):(Instr.typeAssert (.iface 58 x) 32 40 true).run Tryz.prog W =.ok (.tuple #[.string ⟨#[]⟩,.bool false]) W:=by kernel_rfl
theorem jd (x:Value)(W:World):(Instr.typeAssert (.iface 58 x) 32 138 true).run Tryz.prog W =.ok (.tuple #[.nilIface,.bool false]) W:=run_typeAssert_lacksB Tryz.underlying138 (by kernel_rfl) (by kernel_rfl) x _ W
theorem Fm (x:Value)(W:World):(Instr.typeAssert (.iface 59 x) 32 59 true).run Tryz.prog W =.ok (.tuple #[x,.bool true]) W:=by kernel_rfl
theorem Ft (x:Value)(W:World):(Instr.typeAssert (.iface 59 x) 32 59 false).run Tryz.prog W =.ok x W:=by kernel_rfl
theorem sF (x:Value)(W:World):(Instr.typeAssert (.iface 59 x) 32 40 true).run Tryz.prog W =.ok (.tuple #[.string ⟨#[]⟩,.bool false]) W:=by kernel_rfl
theorem my (x:Value)(W:World):(Instr.typeAssert (.iface 59 x) 32 138 true).run Tryz.prog W =.ok (.tuple #[.nilIface,.bool false]) W:=run_typeAssert_lacksB Tryz.underlying138 (by kernel_rfl) (by kernel_rfl) x _ W
theorem uo (x:Value)(W:World):(Instr.typeAssert (.iface 127 x) 32 59 true).run Tryz.prog W =.ok (.tuple #[.bool false,.bool false]) W:=by kernel_rfl
theorem Ib (x:Value)(W:World):(Instr.typeAssert (.iface 127 x) 32 127 true).run Tryz.prog W =.ok (.tuple #[x,.bool true]) W:=by kernel_rfl
theorem GP (x:Value)(W:World):(Instr.typeAssert (.iface 127 x) 32 127 false).run Tryz.prog W =.ok x W:=by kernel_rfl
theorem tq (x:Value)(W:World):(Instr.typeAssert (.iface 127 x) 32 40 true).run Tryz.prog W =.ok (.tuple #[.string ⟨#[]⟩,.bool false]) W:=by kernel_rfl
theorem od (x:Value)(W:World):(Instr.typeAssert (.iface 127 x) 32 138 true).run Tryz.prog W =.ok (.tuple #[.nilIface,.bool false]) W:=run_typeAssert_lacksB Tryz.underlying138 (by kernel_rfl) (by kernel_rfl) x _ W
theorem sJ (x:Value)(W:World):(Instr.typeAssert (.iface 40 x) 32 59 true).run Tryz.prog W =.ok (.tuple #[.bool false,.bool false]) W:=by kernel_rfl
theorem uG (x:Value)(W:World):(Instr.typeAssert (.iface 40 x) 32 127 true).run Tryz.prog W =.ok (.tuple #[.agg #[.bool false,.string ⟨#[]⟩,.int .i64 0],.bool false]) W:=by kernel_rfl
theorem zw (x:Value)(W:World):(Instr.typeAssert (.iface 40 x) 32 40 true).run Tryz.prog W =.ok (.tuple #[x,.bool true]) W:=by kernel_rfl
theorem Fh (x:Value)(W:World):(Instr.typeAssert (.iface 40 x) 32 40 false).run Tryz.prog W =.ok x W:=by kernel_rfl
theorem mc (x:Value)(W:World):(Instr.typeAssert (.iface 40 x) 32 138 true).run Tryz.prog W =.ok (.tuple #[.nilIface,.bool false]) W:=run_typeAssert_lacksB Tryz.underlying138 (by kernel_rfl) (by kernel_rfl) x _ W
theorem sh (x:Value)(W:World):(Instr.typeAssert (.iface 54 x) 32 59 true).run Tryz.prog W =.ok (.tuple #[.bool false,.bool false]) W:=by kernel_rfl
theorem tX (x:Value)(W:World):(Instr.typeAssert (.iface 54 x) 32 127 true).run Tryz.prog W =.ok (.tuple #[.agg #[.bool false,.string ⟨#[]⟩,.int .i64 0],.bool false]) W:=by kernel_rfl
theorem sx (x:Value)(W:World):(Instr.typeAssert (.iface 54 x) 32 40 true).run Tryz.prog W =.ok (.tuple #[.string ⟨#[]⟩,.bool false]) W:=by kernel_rfl
theorem l6 (x:Value)(W:World):(Instr.typeAssert (.iface 54 x) 32 138 true).run Tryz.prog W =.ok (.tuple #[.nilIface,.bool false]) W:=run_typeAssert_lacksB Tryz.underlying138 (by kernel_rfl) (by kernel_rfl) x _ W
theorem sv (x:Value)(W:World):(Instr.typeAssert (.iface 57 x) 32 59 true).run Tryz.prog W =.ok (.tuple #[.bool false,.bool false]) W:=by kernel_rfl
theorem um (x:Value)(W:World):(Instr.typeAssert (.iface 57 x) 32 127 true).run Tryz.prog W =.ok (.tuple #[.agg #[.bool false,.string ⟨#[]⟩,.int .i64 0],.bool false]) W:=by kernel_rfl
theorem kP (x:Value)(W:World):(Instr.typeAssert (.iface 57 x) 32 40 true).run Tryz.prog W =.ok (.tuple #[.string ⟨#[]⟩,.bool false]) W:=by kernel_rfl
theorem jl (x:Value)(W:World):(Instr.typeAssert (.iface 57 x) 32 138 true).run Tryz.prog W =.ok (.tuple #[.iface 57 x,.bool true]) W:=run_typeAssert_hasB Tryz.underlying138 (by kernel_rfl) x _ W
theorem ml (x:Value)(W:World):(Instr.typeAssert (.iface 57 x) 32 138 false).run Tryz.prog W =.ok (.iface 57 x) W:=iR Tryz.underlying138 (by kernel_rfl) x _ W
theorem vJ (x:Value)(W:World):(Instr.typeAssert (.iface 130 x) 32 59 true).run Tryz.prog W =.ok (.tuple #[.bool false,.bool false]) W:=by kernel_rfl
theorem wR (x:Value)(W:World):(Instr.typeAssert (.iface 130 x) 32 127 true).run Tryz.prog W =.ok (.tuple #[.agg #[.bool false,.string ⟨#[]⟩,.int .i64 0],.bool false]) W:=by kernel_rfl
theorem mD (x:Value)(W:World):(Instr.typeAssert (.iface 130 x) 32 40 true).run Tryz.prog W =.ok (.tuple #[.string ⟨#[]⟩,.bool false]) W:=by kernel_rfl
theorem ki (x:Value)(W:World):(Instr.typeAssert (.iface 130 x) 32 138 true).run Tryz.prog W =.ok (.tuple #[.iface 130 x,.bool true]) W:=run_typeAssert_hasB Tryz.underlying138 (by kernel_rfl) x _ W
theorem nG (x:Value)(W:World):(Instr.typeAssert (.iface 130 x) 32 138 false).run Tryz.prog W =.ok (.iface 130 x) W:=iR Tryz.underlying138 (by kernel_rfl) x _ W
theorem pT {t:TypeId}{d:Nat}{op:Op}{pos:String}{af:Array Edge}{gu:Option (Nat×Bool)}{a:Act}{K:Act->World->Prop}{Q':Exit->Act->World->Prop}(h:VW P w v j)(hv:v =.iface t x)(k:∀w',Below w.heap.size w w'->K (a.put (some d) (.int .i64 j.kindOf)) w'):Oper.upon Tryz.prog {dst:=some d,op:=op,type:=ty,pos:=pos,after:=af,guard:=gu} a K Q' ((Sem.run Tryz.prog (method 545 t x "Kind") w).andThen fun a w'=>Sem.run Tryz.prog (callFunc a.fst #[a.snd]) w'):=by
 cases h <;> (injection hv with e1 e2;subst e1 e2)
 all_goals
  go_wp2_with fail;(with_reducible first|refine gR.mono ?_|refine ik.mono ?_|refine i1.mono ?_|refine gQ.mono ?_|refine io.mono ?_|refine eB.mono ?_|refine gU.mono ?_);rintro e w1 ⟨rfl,a0⟩;exact k w1 a0
theorem gE {a b:JV}(ha:VW P w v a)(hb:VW Q w v' b)(hd:a.kindOf≠b.kindOf):Calls Tryz.prog 40 #[v,v'] w fun e w'=>e =.returned (.bool false)/\Below w.heap.size w w':=by
 obtain⟨t1,x1,rfl⟩:=ha.iface;obtain⟨t2,x2,rfl⟩:=hb.iface;have Ha:=Qa ha;have Hb:=Qa (fun w1 (h:Below w.heap.size w w1)=>hb.later h);have a4:(a.kindOf==b.kindOf)=false:=by simpa using hd
 clear ha hb hd;go_enter Tryz.func40,Tryz.ntmps40;go_wp2_with fail;refine pT Ha.out rfl fun w1 a1=>?_
 have a0:=Qa a1;clear a1;go_wp2_with fail;refine pT (Hb.out w1 a0.out) rfl fun w2 a2=>?_
 have a3:=Qa (a0.out.trans (a2.mono a0.out.size));clear a2;go_wp2_with fail;go_ret;exact⟨rfl,a3.out⟩
def lL (l:List UInt8):ByteArray:=⟨l.toArray⟩
theorem pi:Calls Tryz.prog 313 #[.agg #[]] w fun e w'=>e =.returned (.string (lL [110,117,108,108]))/\Below w.heap.size w w':=by
 go_enter Tryz.func313,Tryz.ntmps313;go_wp2_with fail;go_ret;exact⟨rfl,ac w _⟩
theorem Bt (b:Bool):Calls Tryz.prog 316 #[.bool b] w fun e w'=>e =.returned (.string (lL (if b then [116,114,117,101] else [102,97,108,115,101])))/\w=w':=by
 cases b
 all_goals
  go_enter Tryz.func316,Tryz.ntmps316;go_wp2_with fail;go_ret;exact⟨rfl,rfl⟩
theorem BP (b:Bool):Calls Tryz.prog 315 #[.bool b] w fun e w'=>e =.returned (.string (lL (if b then [116,114,117,101] else [102,97,108,115,101])))/\w=w':=by
 have H:=Qa (Bt (w:=w) b);generalize lL (if b then [116,114,117,101] else [102,97,108,115,101])=s at *;go_enter Tryz.func315,Tryz.ntmps315;go_wp2_with fail;(with_reducible refine H.out.mono ?_);rintro e w1 ⟨rfl,rfl⟩;go_wp2_with fail;go_ret;exact⟨rfl,rfl⟩
theorem ph (b:Bool):Calls Tryz.prog 314 #[.bool b] w fun e w'=>e =.returned (.string (lL (if b then [116,114,117,101] else [102,97,108,115,101])))/\Below w.heap.size w w':=by
 have H:=Qa (BP (w:=w) b);generalize lL (if b then [116,114,117,101] else [102,97,108,115,101])=s at *;go_enter Tryz.func314,Tryz.ntmps314;go_wp2_with fail;(with_reducible refine H.out.mono ?_);rintro e w1 ⟨rfl,rfl⟩;go_wp2_with fail;go_ret;exact⟨rfl,Zd _ _⟩
theorem Bm (n:Int)(h0: -1000000000<=n)(h1:n<=1000000000)(hT:du w):Calls Tryz.prog 111 #[.int .i64 n] w fun e w'=>e =.returned (.string ⟨(Lib.itoa n).toArray⟩)/\Below w.heap.size w w':=by
 refine(Any.strconv_Itoa vM n (by omega) (by omega) w hT).mono ?_;rintro e w' ⟨rfl,k,os,rfl⟩;exact⟨rfl,Lib.below_grow _ w (Za _) k os⟩
theorem rf (hT:du w)(hs:d.digits.size<=1000000000000)(h0: -1000000000<=d.exp)(h1:d.exp<=1000000000):Calls Tryz.prog 323 #[.agg #[.bool d.neg,.string d.digits,.int .i64 d.exp]] w fun e w'=>e =.returned (.string (lL (fo d)))/\Below w.heap.size w w':=by
 obtain⟨ng,dg,x⟩:=d
 dsimp only at hs h0 h1 ⊢
 have hb:=ac w (.cells #[.bool ng,.string dg,.int .i64 x] 124);have Ha:=Qa hb;have hz:(⟨(Lib.itoa x).toArray⟩:ByteArray).size<=21:=by
  show(Lib.itoa x).toArray.size<=21
  rw[List.size_toArray];exact Lib.itoa_length_le x (by omega) (by omega)
 have HI:=Qa (Bm x h0 h1 (hT.below hb));have a2:(⟨#[101]⟩++ (⟨(Lib.itoa x).toArray⟩:ByteArray):ByteArray).size<=22:=by
  rw[ByteArray.size_append];have:(⟨#[101]⟩:ByteArray).size=1:=rfl;omega
 have a4:(⟨#[45]⟩++dg:ByteArray).size<=1000000000001:=by
  rw[ByteArray.size_append];have:(⟨#[45]⟩:ByteArray).size=1:=rfl;omega
 have e0:(⟨#[45]⟩:ByteArray).size=1:=rfl;have e1:(⟨#[101]⟩:ByteArray).size=1:=rfl;clear hb hT h0 h1
 cases ng <;> by_cases he:x=0
 ·subst he;have hc:=Qa (show dg=lL (fo ⟨false,dg,0⟩) by cases dg with|mk a=>cases a with|mk l=>simp[fo,gc,lL]);clear hz a2 HI;go_enter Tryz.func323,Tryz.ntmps323;go_wp2_with fail;go_ret;rw[<-hc.out];exact⟨rfl,Ha.out⟩
 ·have hc:=Qa (show dg++ (⟨#[101]⟩++ ⟨(Lib.itoa x).toArray⟩:ByteArray)=lL (fo ⟨false,dg,x⟩) by cases dg with|mk a=>cases a with|mk l=>simp only[fo,gc,lL,if_neg he];rfl);have a3:(x==0)=false:=by simpa using he
  clear he;generalize (⟨(Lib.itoa x).toArray⟩:ByteArray)=z at *;go_enter Tryz.func323,Tryz.ntmps323;go_wp2_with fail;(with_reducible refine HI.out.mono ?_);rintro e w1 ⟨rfl,a0⟩;have a1:=Qa (Ha.out.trans (a0.mono Ha.out.size));clear a0;go_wp2_with fail;go_ret;rw[<-hc.out];exact⟨rfl,a1.out⟩
 ·subst he;have hc:=Qa (show(⟨#[45]⟩++dg:ByteArray)=lL (fo ⟨true,dg,0⟩) by cases dg with|mk a=>cases a with|mk l=>simp only[fo,gc,lL,if_true,List.append_nil];rfl);clear hz a2 HI;go_enter Tryz.func323,Tryz.ntmps323;go_wp2_with fail;go_ret;rw[<-hc.out];exact⟨rfl,Ha.out⟩
 ·have hc:=Qa (show(⟨#[45]⟩++dg)++ (⟨#[101]⟩++ ⟨(Lib.itoa x).toArray⟩:ByteArray)=lL (fo ⟨true,dg,x⟩) by cases dg with|mk a=>cases a with|mk l=>simp only[fo,gc,lL,if_neg he,if_true];rfl);have a3:(x==0)=false:=by simpa using he
  clear he;generalize (⟨(Lib.itoa x).toArray⟩:ByteArray)=z at *;go_enter Tryz.func323,Tryz.ntmps323;go_wp2_with fail;(with_reducible refine HI.out.mono ?_);rintro e w1 ⟨rfl,a0⟩;have a1:=Qa (Ha.out.trans (a0.mono Ha.out.size));clear a0;go_wp2_with fail;go_ret;rw[<-hc.out];exact⟨rfl,a1.out⟩
theorem oK {s:ByteArray}(hs:dB s)(hG:cR w aU aE)(hl:s.size<=1000000000):Calls Tryz.prog 81 #[.string s] w fun e w'=> ∃v,e =.returned v/\au w' w.heap.size v (el s)/\Below w.heap.size w w':=by
 have H:=Qa (ql hs hG hl);clear hs hG hl;go_enter Tryz.func81,Tryz.ntmps81;go_wp2_with fail;(with_reducible refine H.out.mono ?_);rintro e w1 ⟨v,rfl,ho,hb⟩;have Hb:=Qa hb;have Ho:=Qa ho;obtain⟨A,q,rfl,-⟩:=ah ho;clear hb ho;go_wp2_with fail;go_ret;exact⟨_,rfl,Ho.out,Hb.out⟩
def kO (W:World)(l:List UInt8)(e:Ending)(w':World):Prop:= ∃v,e =.returned v/\au w' W.heap.size v l/\Below W.heap.size W w'
theorem Ax {s:ByteArray}(hs:dB s)(hG:cR W aU aE)(hl:s.size<=1000000000)(hb:Below W.heap.size W w)(ho:au w W.heap.size u xs)(hx:xs.length+ (el s).length<=140737488355328):Calls Tryz.prog 44 #[u,.iface 40 (.string s)] w (kO W (xs++el s)):=by
 have k1:=zw;have H:=Qa (oK (w:=w) hs (hG.below hb) hl);have Hb:=Qa hb;have Ho:=Qa ho;have Hx:=Qa hx;obtain⟨A,q,rfl,-⟩:=ah ho;clear hs hG hb ho hx;generalize el s=qs at *;go_enter Tryz.func44,Tryz.ntmps44;go_wp2_with fail;(with_reducible refine H.out.mono ?_);rintro e w1 ⟨v,rfl,a1,a0⟩;have a2:=Qa (Hb.out.trans (a0.mono Hb.out.size));have a3:=Qa (Ho.out.below a0 (Za _));have a5:=Qa (au.bs a1);obtain⟨A2,q2,rfl,-⟩:=ah a1;clear a1 a0;go_wp2_with (at_builtin;refine pW a3.out a5.out Hx.out a2.out.size ?_;intro v' w3 h1 h2 h3;have HK:=Qa h1;have a4:=Qa h2;clear h1 h2 h3);obtain⟨A3,q3,rfl,-⟩:=ah HK.out;go_ret;exact⟨_,rfl,HK.out,a2.out.grown a4.out a2.out.size (fun g e=>(au.blk a3.out e).1)⟩
def vy:List UInt8:= [110,117,108,108]
def vr (b:Bool):List UInt8:=if b then [116,114,117,101] else [102,97,108,115,101]
theorem nz (l:List UInt8):(lL l).size=l.length:=by show l.toArray.size=_;simp
theorem Bg {P:Program}{f:FuncId}{x y:Array Value}{K:Ending->World->Prop}(h:x=y)(hc:Calls P f #[.agg y] w K):Calls P f #[.agg x] w K:=h▸hc
theorem Ex (x:Value)(W:World):(Instr.typeAssert (.iface 58 x) 32 158 true).run Tryz.prog W =.ok (.tuple #[.iface 58 x,.bool true]) W:=run_typeAssert_hasB Tryz.underlying158 (by kernel_rfl) x _ W
theorem Ba (hb:Below W.heap.size W w)(ho:au w W.heap.size u xs)(hx:xs.length+vy.length<=140737488355328):Calls Tryz.prog 44 #[u,.iface 58 (.agg #[])] w (kO W (xs++vy)):=by
 have k1:=kK;have k2:=Ex;have H:=Qa (show Calls Tryz.prog 313 #[.agg #[]] w fun e w'=>e =.returned (.string (lL vy))/\Below w.heap.size w w' from pi);have Hb:=Qa hb;have Ho:=Qa ho;have Hx:=Qa hx;obtain⟨A,q,rfl,-⟩:=ah ho;clear hb ho hx;generalize vy=qs at *;have a3:(lL qs).data.toList=qs:=rfl;have Hq:=Qa a3;have Hz:=Qa (show xs.length+ (lL qs).size<=140737488355328 by have:=Hx.out;rw[nz];exact this);generalize lL qs=ts at *;clear a3;go_enter Tryz.func44,Tryz.ntmps44;go_wp2_with fail;(with_reducible refine H.out.mono ?_);rintro e w1 ⟨rfl,a0⟩;have a1:=Qa (Hb.out.trans (a0.mono Hb.out.size));have a2:=Qa (Ho.out.below a0 (Za _));clear a0;go_wp2_with (at_builtin;refine cA rfl (.tmp 26) (.tmp 28) rfl W.heap.size (.slice A xs.length q) xs ts (by simp[Act.eval]) a2.out (by simp[Act.eval]) Hz.out a1.out.size ?_;intro v' w3 h1 h2;have HK:=Qa h1;have a4:=Qa h2;clear h1 h2);rw[Hq.out] at HK;obtain⟨A3,q3,rfl,-⟩:=ah HK.out;go_ret;exact⟨_,rfl,HK.out,a1.out.grown a4.out a1.out.size (fun g e=>(au.blk a2.out e).1)⟩
theorem FF (x:Value)(W:World):(Instr.typeAssert (.iface 59 x) 32 158 true).run Tryz.prog W =.ok (.tuple #[.iface 59 x,.bool true]) W:=run_typeAssert_hasB Tryz.underlying158 (by kernel_rfl) x _ W
theorem AW {b:Bool}(hb:Below W.heap.size W w)(ho:au w W.heap.size u xs)(hx:xs.length+ (vr b).length<=140737488355328):Calls Tryz.prog 44 #[u,.iface 59 (.bool b)] w fun e w'=>kO W (xs++ (vr b)) e w':=by
 have k1:=sF;have k2:=FF;have H:=Qa (show Calls Tryz.prog 314 #[.bool b] w fun e w'=>e =.returned (.string (lL (vr b)))/\Below w.heap.size w w' from ph b);have Hb:=Qa hb;have Ho:=Qa ho;have Hx:=Qa hx;obtain⟨A,q,rfl,-⟩:=ah ho;clear hb ho hx;generalize (vr b)=qs at *;have a3:(lL qs).data.toList=qs:=rfl;have Hq:=Qa a3;have Hz:=Qa (show xs.length+ (lL qs).size<=140737488355328 by have:=Hx.out;rw[nz];exact this);generalize lL qs=ts at *;clear a3;go_enter Tryz.func44,Tryz.ntmps44;go_wp2_with fail;(with_reducible refine H.out.mono ?_);rintro e w1 ⟨rfl,a0⟩;have a1:=Qa (Hb.out.trans (a0.mono Hb.out.size));have a2:=Qa (Ho.out.below a0 (Za _));clear a0;go_wp2_with (at_builtin;refine cA rfl (.tmp 26) (.tmp 28) rfl W.heap.size (.slice A xs.length q) xs ts (by simp[Act.eval]) a2.out (by simp[Act.eval]) Hz.out a1.out.size ?_;intro v' w3 h1 h2;have HK:=Qa h1;have a4:=Qa h2;clear h1 h2);rw[Hq.out] at HK;obtain⟨A3,q3,rfl,-⟩:=ah HK.out;go_ret;exact⟨_,rfl,HK.out,a1.out.grown a4.out a1.out.size (fun g e=>(au.blk a2.out e).1)⟩
theorem GD (x:Value)(W:World):(Instr.typeAssert (.iface 127 x) 32 158 true).run Tryz.prog W =.ok (.tuple #[.iface 127 x,.bool true]) W:=run_typeAssert_hasB Tryz.underlying158 (by kernel_rfl) x _ W
theorem Cj (hT:du W)(hsz:d.digits.size<=1000000000000)(h0: -1000000000<=d.exp)(h1:d.exp<=1000000000)(hb:Below W.heap.size W w)(ho:au w W.heap.size u xs)(hx:xs.length+ (fo d).length<=140737488355328):Calls Tryz.prog 44 #[u,.iface 127 (.agg #[.bool d.neg,.string d.digits,.int .i64 d.exp])] w fun e w'=>kO W (xs++ (fo d)) e w':=by
 have k1:=tq;have k2:=GD;have H:=Qa (rf (w:=w) (hT.below hb) hsz h0 h1);have Hb:=Qa hb;have Ho:=Qa ho;have Hx:=Qa hx;obtain⟨A,q,rfl,-⟩:=ah ho;clear hb ho hx hT hsz h0 h1;generalize (fo d)=qs at *;have a3:(lL qs).data.toList=qs:=rfl;have Hq:=Qa a3;have Hz:=Qa (show xs.length+ (lL qs).size<=140737488355328 by have:=Hx.out;rw[nz];exact this);generalize lL qs=ts at *;clear a3;go_enter Tryz.func44,Tryz.ntmps44;go_wp2_with fail;(with_reducible refine Bg (y:= #[.bool d.neg,.string d.digits,.int .i64 d.exp]) (by kernel_rfl) (H.out.mono ?_));rintro e w1 ⟨rfl,a0⟩;have a1:=Qa (Hb.out.trans (a0.mono Hb.out.size));have a2:=Qa (Ho.out.below a0 (Za _));clear a0;go_wp2_with (at_builtin;refine cA rfl (.tmp 26) (.tmp 28) rfl W.heap.size (.slice A xs.length q) xs ts (by simp[Act.eval]) a2.out (by simp[Act.eval]) Hz.out a1.out.size ?_;intro v' w3 h1 h2;have HK:=Qa h1;have a4:=Qa h2;clear h1 h2);rw[Hq.out] at HK;obtain⟨A3,q3,rfl,-⟩:=ah HK.out;go_ret;exact⟨_,rfl,HK.out,a1.out.grown a4.out a1.out.size (fun g e=>(au.blk a2.out e).1)⟩
def dL (c:Int)(w:World)(e:Ending)(w':World):Prop:=e =.returned (.int .i64 c)/\Below w.heap.size w w'
theorem eY {a b:JV}(ha:VW P w v a)(hb:VW Q w v' b)(hd:a.kindOf≠b.kindOf):Calls Tryz.prog 32 #[v,v'] w (dL (cX a b) w):=by
 have Hv:=Qa (show cX a b=sg a.kindOf b.kindOf/\sg a.kindOf b.kindOf≠0 by
  obtain⟨k,t,x,n,ns,ks⟩:=a;obtain⟨k',t',x',n',ns',ks'⟩:=b;simp only[JV.kindOf] at hd;rw[qh hd];unfold sg;simp only[JV.kindOf]
  (repeat' split) <;> constructor <;> first|rfl|omega)
 have H1:=Qa (et ha);have H2:=Qa (fun w1 (h:Below w.heap.size w w1)=>et (hb.later h));obtain⟨t1,x1,rfl⟩:=ha.iface;obtain⟨t2,x2,rfl⟩:=hb.iface;clear ha hb hd;generalize a.kindOf=ka at *;generalize b.kindOf=kb at *;have hne:(sg ka kb==0)=false:=by simpa using Hv.out.2
 go_enter Tryz.func32,Tryz.ntmps32;go_wp2_with fail;(with_reducible refine H1.out.mono ?_);rintro e w1 ⟨rfl,a0⟩;have a2:=Qa a0;have H3:=Qa (H2.out w1 a0);clear a0;go_wp2_with fail;(with_reducible refine H3.out.mono ?_);rintro e w2 ⟨rfl,a1⟩;have a3:=Qa (a2.out.trans (a1.mono a2.out.size));clear a1;go_wp2_with fail;(with_reducible refine bj.mono ?_);rintro e w3 ⟨rfl,rfl⟩;go_wp2_with fail;go_ret;rw[Hv.out.1];exact⟨rfl,a3.out⟩
theorem Eo (w:World):Calls Tryz.prog 59 #[.iface 58 (.agg #[])] w fun e w'=>e =.returned (.int .i64 1)/\Below w.heap.size w w':=et (P:=fun _=>True) .null
theorem Fj (w:World):Calls Tryz.prog 59 #[.iface 54 (.agg #[])] w fun e w'=>e =.returned (.int .i64 7)/\Below w.heap.size w w':=et (P:=fun _=>True) .hole
theorem zv (b:Bool)(w:World):Calls Tryz.prog 59 #[.iface 59 (.bool b)] w fun e w'=>e =.returned (.int .i64 2)/\Below w.heap.size w w':=et (P:=fun _=>True) (.bool b)
theorem BI (d:Dc)(w:World):Calls Tryz.prog 59 #[.iface 127 (.agg #[.bool d.neg,.string d.digits,.int .i64 d.exp])] w fun e w'=>e =.returned (.int .i64 3)/\Below w.heap.size w w':=et (P:=fun _=>True) (.num d)
theorem zg (s:ByteArray)(w:World):Calls Tryz.prog 59 #[.iface 40 (.string s)] w fun e w'=>e =.returned (.int .i64 4)/\Below w.heap.size w w':=et (P:=fun _=>True) (.text s)
theorem zt (A:Option Addr)(w:World):Calls Tryz.prog 59 #[.iface 57 (.pointer A)] w fun e w'=>e =.returned (.int .i64 5)/\Below w.heap.size w w':=by
 go_enter Tryz.func59,Tryz.ntmps59;go_wp2_with fail;(with_reducible refine eB.mono ?_);rintro e w1 ⟨rfl,hb⟩;go_wp2_with fail;go_ret;exact⟨rfl,hb⟩
theorem Dq (A:Option Addr)(w:World):Calls Tryz.prog 59 #[.iface 130 (.pointer A)] w fun e w'=>e =.returned (.int .i64 6)/\Below w.heap.size w w':=by
 go_enter Tryz.func59,Tryz.ntmps59;go_wp2_with fail;(with_reducible refine gU.mono ?_);rintro e w1 ⟨rfl,hb⟩;go_wp2_with fail;go_ret;exact⟨rfl,hb⟩
theorem Dl:Calls Tryz.prog 32 #[.iface 58 (.agg #[]),.iface 58 (.agg #[])] w (dL 0 w):=by
 have H1:=Qa Eo;have k1:=rD;have k2:=tM;have k3:=kK;have k4:=jd;go_enter Tryz.func32,Tryz.ntmps32;go_wp2_with fail;(with_reducible refine(H1.out _).mono ?_);rintro e w1 ⟨rfl,a0⟩;have a2:=Qa a0;clear a0;go_wp2_with fail;(with_reducible refine(H1.out _).mono ?_);rintro e w2 ⟨rfl,a1⟩;have a3:=Qa (a2.out.trans (a1.mono a2.out.size));clear a1;go_wp2_with fail;(with_reducible refine bj.mono ?_);rintro e w3 ⟨rfl,rfl⟩;rw[show sg 1 1=0 from rfl];go_wp2_with fail;go_ret;exact⟨rfl,a3.out⟩
theorem CM:Calls Tryz.prog 32 #[.iface 54 (.agg #[]),.iface 54 (.agg #[])] w (dL 0 w):=by
 have H1:=Qa Fj;have k1:=sh;have k2:=tX;have k3:=sx;have k4:=l6;go_enter Tryz.func32,Tryz.ntmps32;go_wp2_with fail;(with_reducible refine(H1.out _).mono ?_);rintro e w1 ⟨rfl,a0⟩;have a2:=Qa a0;clear a0;go_wp2_with fail;(with_reducible refine(H1.out _).mono ?_);rintro e w2 ⟨rfl,a1⟩;have a3:=Qa (a2.out.trans (a1.mono a2.out.size));clear a1;go_wp2_with fail;(with_reducible refine bj.mono ?_);rintro e w3 ⟨rfl,rfl⟩;rw[show sg 7 7=0 from rfl];go_wp2_with fail;go_ret;exact⟨rfl,a3.out⟩
theorem B8 (a b:Bool):Calls Tryz.prog 32 #[.iface 59 (.bool a),.iface 59 (.bool b)] w fun e w'=>dL (if a=b then 0 else if a then 1 else -1) w e w':=by
 have H1:=Qa (zv a);have H2:=Qa (zv b);have k1:=Fm;have k2:=Ft;go_enter Tryz.func32,Tryz.ntmps32;go_wp2_with fail;(with_reducible refine(H1.out _).mono ?_);rintro e w1 ⟨rfl,a0⟩;have a2:=Qa a0;clear a0;go_wp2_with fail;(with_reducible refine(H2.out _).mono ?_);rintro e w2 ⟨rfl,a1⟩;have a3:=Qa (a2.out.trans (a1.mono a2.out.size));clear a1;go_wp2_with fail;(with_reducible refine bj.mono ?_);rintro e w3 ⟨rfl,rfl⟩;rw[show sg 2 2=0 from rfl]
 cases a <;> cases b
 all_goals
  go_wp2_with fail;go_ret;exact⟨rfl,a3.out⟩
theorem DV {a b:ByteArray}(ha:a.size<=9223372036854775807)(hb:b.size<=9223372036854775807)(hG:cR w aU aE):Calls Tryz.prog 32 #[.iface 40 (.string a),.iface 40 (.string b)] w fun e w'=>dL (ay (nm a) (nm b)) w e w':=by
 have H1:=Qa (zg a);have H2:=Qa (zg b);have k1:=sJ;have k2:=uG;have k3:=zw;have k4:=Fh;have HL:=Qa (fun w1 (h:Below w.heap.size w w1)=>jq ha hb (hG.below h));clear hG ha hb;go_enter Tryz.func32,Tryz.ntmps32;go_wp2_with fail;(with_reducible refine(H1.out _).mono ?_);rintro e w1 ⟨rfl,a1⟩;have a4:=Qa a1;clear a1;go_wp2_with fail;(with_reducible refine(H2.out _).mono ?_);rintro e w2 ⟨rfl,a2⟩;have a0:=Qa (a4.out.trans (a2.mono a4.out.size));clear a2;go_wp2_with fail;(with_reducible refine bj.mono ?_);rintro e w3 ⟨rfl,rfl⟩;rw[show sg 4 4=0 from rfl];go_wp2_with fail;(with_reducible refine(HL.out w2 a0.out).mono ?_);rintro e w4 ⟨rfl,a3⟩;have a5:=Qa (a0.out.trans (a3.mono a0.out.size));clear a3;go_wp2_with fail;go_ret;exact⟨rfl,a5.out⟩
theorem Fi {a b:Dc}(ha:sZ a)(hb:sZ b):Calls Tryz.prog 32 #[.iface 127 (.agg #[.bool a.neg,.string a.digits,.int .i64 a.exp]),.iface 127 (.agg #[.bool b.neg,.string b.digits,.int .i64 b.exp])] w fun e w'=>dL (ay (ey a) (ey b)) w e w':=by
 have H1:=Qa (BI a);have H2:=Qa (BI b);have k1:=uo;have k2:=Ib;have k3:=GP;have HN:=Qa (fun w1=>vv (w:=w1) ha hb);clear ha hb;go_enter Tryz.func32,Tryz.ntmps32;go_wp2_with fail;(with_reducible refine(H1.out _).mono ?_);rintro e w1 ⟨rfl,a3⟩;have a7:=Qa a3;clear a3;go_wp2_with fail;(with_reducible refine(H2.out _).mono ?_);rintro e w2 ⟨rfl,a4⟩;have a5:=Qa (a7.out.trans (a4.mono a7.out.size));clear a4;go_wp2_with fail;(with_reducible refine bj.mono ?_);rintro e w3 ⟨rfl,rfl⟩;rw[show sg 3 3=0 from rfl];go_wp2_with fail;have Ha:=Qa (ac w2 (.cells #[.bool a.neg,.string a.digits,.int .i64 a.exp] 127));have h0:=Ze w2 (.cells #[.bool a.neg,.string a.digits,.int .i64 a.exp] 127);have hs:=aa h0 (j:=0) (u:=.bool a.neg) rfl;have ht:=aa h0 (j:=1) (u:=.string a.digits) rfl;have hu:=aa h0 (j:=2) (u:=.int .i64 a.exp) rfl;obtain⟨w4,a6⟩:∃w4:World,w4=w2.alloc (.cells #[.bool a.neg,.string a.digits,.int .i64 a.exp] 127):=⟨_,rfl⟩;have a2:=Qa (a5.out.trans (Ha.out.mono a5.out.size));clear Ha;rw[<-a6] at a2 hs ht hu ⊢;generalize w2.heap.size=g at *;clear h0 a6;refine aR (fun w'=>w'.cell? ⟨g,0,none⟩=some (.bool a.neg)/\w'.cell? ⟨g,1,none⟩=some (.string a.digits)/\w'.cell? ⟨g,2,none⟩=some (.int .i64 a.exp)) (⟨hs,ht,hu⟩) fun a0=>?_
 refine tH 0 a0 ?_;refine tH 1 a0 ?_;refine tH 2 a0 ?_
 try simp only[Act.put,jP,jQ,jR]
 refine rH 3 fun K hK=>?_
 go_simp;(with_reducible refine(HN.out _).mono ?_);rintro e w5 ⟨rfl,a1⟩;refine hK.out _ _ (⟨Zf a1 a0.1,Zf a1 a0.2.1,Zf a1 a0.2.2⟩) (fun a0=>?_);clear hK K
 try simp only[Act.put,jP,jQ,jR]
 refine tH 4 a0 ?_
 try simp only[Act.put,jP,jQ,jR]
 refine wpAnyH_done (by kernel_rfl) (NoPanic.normal ?_) _;have a9:=Qa ((a2.out.drew).trans (a1.mono (show w.heap.size<=w4.drew.heap.size from a2.out.size)));go_wp2_with fail;go_ret;exact⟨rfl,a9.out⟩
theorem CB {B:Option Addr}{c:Int}(HP:∀w1,Below w.heap.size w w1->Calls Tryz.prog 62 #[.iface 57 (.pointer A),.iface 57 (.pointer B),.bool false] w1 fun e w'=>e =.returned (.int .i64 c)/\Below w1.heap.size w1 w'):Calls Tryz.prog 32 #[.iface 57 (.pointer A),.iface 57 (.pointer B)] w (dL c w):=by
 have H1:=Qa (zt A);have H2:=Qa (zt B);have k1:=sv;have k2:=um;have k3:=kP;have k4:=jl;have k5:=ml;have HL:=Qa HP;clear HP;go_enter Tryz.func32,Tryz.ntmps32;go_wp2_with fail;(with_reducible refine(H1.out _).mono ?_);rintro e w1 ⟨rfl,a1⟩;have a3:=Qa a1;clear a1;go_wp2_with fail;(with_reducible refine(H2.out _).mono ?_);rintro e w2 ⟨rfl,a2⟩;have a5:=Qa (a3.out.trans (a2.mono a3.out.size));clear a2;go_wp2_with fail;(with_reducible refine bj.mono ?_);rintro e w3 ⟨rfl,rfl⟩;rw[show sg 5 5=0 from rfl];go_wp2_with fail;refine aR (fun w'=>Below w.heap.size w w') (a5.out.drew) fun a0=>?_
 refine tH 0 a0 ?_;refine tH 1 a0 ?_;refine tH 2 a0 ?_;refine tH 3 a0 ?_
 try simp only[Act.put,jP,jQ,jR]
 refine rH 4 fun K hK=>?_
 go_simp;(with_reducible refine(H1.out _).mono ?_);rintro e w4 ⟨rfl,a6⟩;refine hK.out _ _ (a0.trans (a6.mono a0.size)) (fun a0=>?_);clear hK K
 try simp only[Act.put,jP,jQ,jR]
 refine tH 5 a0 ?_
 try simp only[Act.put,jP,jQ,jR]
 refine rH 6 fun K hK=>?_
 go_simp;(with_reducible refine(HL.out _ a0).mono ?_);rintro e w5 ⟨rfl,a4⟩;refine hK.out _ _ (a0.trans (a4.mono a0.size)) (fun a0=>?_);clear hK K
 try simp only[Act.put,jP,jQ,jR]
 refine tH 7 a0 ?_
 try simp only[Act.put,jP,jQ,jR]
 refine wpAnyH_done (by kernel_rfl) (NoPanic.normal ?_) _;have a7:=Qa a0;go_wp2_with fail;go_ret;exact⟨rfl,a7.out⟩
theorem FD {B:Option Addr}{c:Int}(HP:∀w1,Below w.heap.size w w1->Calls Tryz.prog 62 #[.iface 130 (.pointer A),.iface 130 (.pointer B),.bool true] w1 fun e w'=>e =.returned (.int .i64 c)/\Below w1.heap.size w1 w'):Calls Tryz.prog 32 #[.iface 130 (.pointer A),.iface 130 (.pointer B)] w (dL c w):=by
 have H1:=Qa (Dq A);have H2:=Qa (Dq B);have k1:=vJ;have k2:=wR;have k3:=mD;have k4:=ki;have k5:=nG;have HL:=Qa HP;clear HP;go_enter Tryz.func32,Tryz.ntmps32;go_wp2_with fail;(with_reducible refine(H1.out _).mono ?_);rintro e w1 ⟨rfl,a1⟩;have a3:=Qa a1;clear a1;go_wp2_with fail;(with_reducible refine(H2.out _).mono ?_);rintro e w2 ⟨rfl,a2⟩;have a5:=Qa (a3.out.trans (a2.mono a3.out.size));clear a2;go_wp2_with fail;(with_reducible refine bj.mono ?_);rintro e w3 ⟨rfl,rfl⟩;rw[show sg 6 6=0 from rfl];go_wp2_with fail;refine aR (fun w'=>Below w.heap.size w w') (a5.out.drew) fun a0=>?_
 refine tH 0 a0 ?_;refine tH 1 a0 ?_;refine tH 2 a0 ?_;refine tH 3 a0 ?_
 try simp only[Act.put,jP,jQ,jR]
 refine rH 4 fun K hK=>?_
 go_simp;(with_reducible refine(H1.out _).mono ?_);rintro e w4 ⟨rfl,a6⟩;refine hK.out _ _ (a0.trans (a6.mono a0.size)) (fun a0=>?_);clear hK K
 try simp only[Act.put,jP,jQ,jR]
 refine tH 5 a0 ?_
 try simp only[Act.put,jP,jQ,jR]
 refine rH 6 fun K hK=>?_
 go_simp;(with_reducible refine(HL.out _ a0).mono ?_);rintro e w5 ⟨rfl,a4⟩;refine hK.out _ _ (a0.trans (a4.mono a0.size)) (fun a0=>?_);clear hK K
 try simp only[Act.put,jP,jQ,jR]
 refine tH 7 a0 ?_
 try simp only[Act.put,jP,jQ,jR]
 refine wpAnyH_done (by kernel_rfl) (NoPanic.normal ?_) _;have a7:=Qa a0;go_wp2_with fail;go_ret;exact⟨rfl,a7.out⟩
theorem dl.bd (h:dl P w A us ks):us.length<=maxLen:=by
 rcases h with ⟨-,rfl,rfl⟩|⟨g,R,c,e,hg,hr,hl⟩
 ·exact Zj _
 ·exact Zb hr.2.1 hr.2.2.1
theorem fa.bd (h:fa P w A us ns ks):us.length<=maxLen:=by
 obtain⟨g,R,c,e,hg,hr,hl⟩:=h;exact Zb hr.2.1 hr.2.2.1
theorem qc {B:Option Addr}{t:Bool}{x:ByteArray}{n:Dc}(ha:dl P w A us ks)(hb:dl Q w B us' ks')(hT:du w)(h1:Below w.heap.size w w1)
  (H:∀ (i:Nat) u u' k k',us[i]?=some u->ks[i]?=some k->us'[i]?=some u'->ks'[i]?=some k'->∀w1,Below w.heap.size w w1->Calls Tryz.prog 32 #[u,u'] w1 (dL (cX k k') w1)) :
  Calls Tryz.prog 32 #[.iface 57 (.pointer A),.iface 57 (.pointer B)] w1 fun e w'=>dL (cX (.mk 5 t x n [] ks) (.mk 5 t' x' n' [] ks')) w1 e w':=by
 rw[eH (by decide) (by decide) (by decide)];refine CB fun w2 h2=>?_
 have h3:=h1.trans (h2.mono h1.size);refine wW (ha.below h3) (hb.below h3) (hT.below h3) ha.bd hb.bd fun i u u' k k' e1 e2 e3 e4 w4 h4=>?_
 exact H i u u' k k' e1 e2 e3 e4 w4 (h3.trans (h4.mono h3.size))
theorem CT {B:Option Addr}{t:Bool}{x:ByteArray}{n:Dc}(ha:fa P w A us ns ks)(hb:fa Q w B us' ns' ks')(hT:cR w aU aE)(hz:∀n∈ns,n.size<=9223372036854775807)(a0:∀n∈ns',n.size<=9223372036854775807)(h1:Below w.heap.size w w1)
  (H:∀ (i:Nat) u u' k k',us[i]?=some u->ks[i]?=some k->us'[i]?=some u'->ks'[i]?=some k'->∀w1,Below w.heap.size w w1->Calls Tryz.prog 32 #[u,u'] w1 (dL (cX k k') w1)) :
  Calls Tryz.prog 32 #[.iface 130 (.pointer A),.iface 130 (.pointer B)] w1 fun e w'=>dL (cX (.mk 6 t x n ns ks) (.mk 6 t' x' n' ns' ks')) w1 e w':=by
 rw[eH (by decide) (by decide) (by decide)];refine FD fun w2 h2=>?_
 have h3:=h1.trans (h2.mono h1.size);refine AE (ha.below h3) (hb.below h3) (hT.below h3) hz a0 ha.bd hb.bd fun i u u' k k' e1 e2 e3 e4 w4 h4=>?_
 exact H i u u' k k' e1 e2 e3 e4 w4 (h3.trans (h4.mono h3.size))
theorem JB.kids {k:Int}{t:Bool}{x:ByteArray}(h:JB (.mk k t x d ns ks)):x.size<=9223372036854775807/\sZ d/\(∀n∈ns,n.size<=9223372036854775807)/\∀u∈ks,JB u:=by
 cases h with
 |mk _ _ _ _ _ _ h1 h2 h3 h4=>exact⟨h1,h2,h3,h4⟩
theorem wK {a:JV}(ha:VW P w v a)(hT:du w)(hG:cR w aU aE)(ja:JB a):∀ {Q:Nat->Prop} {v':Value} {b:JV},VW Q w v' b->JB b->∀w1,Below w.heap.size w w1->Calls Tryz.prog 32 #[v,v'] w1 (dL (cX a b) w1):=by
 induction ha with
 |null=>
  intro Q v' b hb jb w1 h1
  by_cases hk:b.kindOf=1
  ·cases hb with
   |null=>exact Dl
   |bool|num|text|hole|bare|list|obj=>simp[JV.kindOf] at hk
  ·exact eY (P:=P) (Q:=Q) .null (hb.later h1) (fun e=>hk e.symm)
 |hole=>
  intro Q v' b hb jb w1 h1
  by_cases hk:b.kindOf=7
  ·cases hb with
   |hole=>exact CM
   |bool|num|text|null|bare|list|obj=>simp[JV.kindOf] at hk
  ·exact eY (P:=P) (Q:=Q) .hole (hb.later h1) (fun e=>hk e.symm)
 |bool x=>
  intro Q v' b hb jb w1 h1
  by_cases hk:b.kindOf=2
  ·cases hb with
   |bool y=>rw[pO];exact B8 x y
   |hole|num|text|null|bare|list|obj=>simp[JV.kindOf] at hk
  ·exact eY (P:=P) (Q:=Q) (.bool x) (hb.later h1) (fun e=>hk e.symm)
 |num d=>
  intro Q v' b hb jb w1 h1
  by_cases hk:b.kindOf=3
  ·cases hb with
   |num y=>rw[uV];exact Fi ja.kids.2.1 jb.kids.2.1
   |hole|bool|text|null|bare|list|obj=>simp[JV.kindOf] at hk
  ·exact eY (P:=P) (Q:=Q) (.num d) (hb.later h1) (fun e=>hk e.symm)
 |text s=>
  intro Q v' b hb jb w1 h1
  by_cases hk:b.kindOf=4
  ·cases hb with
   |text y=>rw[qw];exact DV ja.kids.1 jb.kids.1 (hG.below h1)
   |hole|bool|num|null|bare|list|obj=>simp[JV.kindOf] at hk
  ·exact eY (P:=P) (Q:=Q) (.text s) (hb.later h1) (fun e=>hk e.symm)
 |bare=>
  intro Q v' b hb jb w1 h1
  by_cases hk:b.kindOf=5
  ·obtain⟨k',t',x',n',ns',ks'⟩:=b;simp only[JV.kindOf] at hk;subst hk;obtain rfl:ns' = []:=by cases hb <;> rfl
   obtain⟨B,us',rfl,hL,hK⟩:=hb.asList;refine qc (P:=P) (us:= []) (.inl ⟨rfl,rfl,rfl⟩) hL hT h1 fun i u u' k k' e1=>?_
   simp at e1
  ·exact eY (P:=P) (Q:=Q) .bare (hb.later h1) (fun e=>hk e.symm)
 |list g A c us ks hp hg hr hl hks ih=>
  intro Q v' b hb jb w1 h1
  by_cases hk:b.kindOf=5
  ·obtain⟨k',t',x',n',ns',ks'⟩:=b;simp only[JV.kindOf] at hk;subst hk;obtain rfl:ns' = []:=by cases hb <;> rfl
   obtain⟨B,us',rfl,hL,hK⟩:=hb.asList;refine qc (P:=P) (.inr ⟨g,A,c,rfl,hg,hr,hl⟩) hL hT h1 fun i u u' k k' e1 e2 e3 e4 w2 h2=>?_
   exact ih i u k e1 e2 (ja.kids.2.2.2 k (Zk e2)) (hK i u' k' e3 e4) (jb.kids.2.2.2 k' (Zk e4)) w2 h2
  ·exact eY (P:=P) (Q:=Q) ((VW.list g A c us ks hp hg hr hl hks).later h1) (hb.later h1) (fun e=>hk e.symm)
 |obj g A c us ns ks hp hg hr hl hn hks ih=>
  intro Q v' b hb jb w1 h1
  by_cases hk:b.kindOf=6
  ·obtain⟨k',t',x',n',ns',ks'⟩:=b;simp only[JV.kindOf] at hk;subst hk;obtain⟨B,us',rfl,hL,hK⟩:=hb.asObj;refine CT (P:=P) ⟨g,A,c,rfl,hg,hr,hl,hn⟩ hL hG ja.kids.2.2.1 jb.kids.2.2.1 h1 fun i u u' k k' e1 e2 e3 e4 w2 h2=>?_
   exact ih i u k e1 e2 (ja.kids.2.2.2 k (Zk e2)) (hK i u' k' e3 e4) (jb.kids.2.2.2 k' (Zk e4)) w2 h2
  ·exact eY (P:=P) (Q:=Q) ((VW.obj g A c us ns ks hp hg hr hl hn hks).later h1) (hb.later h1) (fun e=>hk e.symm)
theorem rA (x:Value)(W:World):(Instr.typeAssert (.iface 57 x) 32 158 true).run Tryz.prog W =.ok (.tuple #[.nilIface,.bool false]) W:=run_typeAssert_lacksB Tryz.underlying158 (by kernel_rfl) (by kernel_rfl) x _ W
theorem qM (x:Value)(W:World):(Instr.typeAssert (.iface 57 x) 32 57 true).run Tryz.prog W =.ok (.tuple #[x,.bool true]) W:=by kernel_rfl
def eh (o:Bool)(full:List UInt8)(tail:UInt8)(ns:List ByteArray)(ks:List JV)(i:Nat)(ys:List UInt8):Prop:=ys++ (JV.txts o (decide (i=0)) (ns.drop i) (ks.drop i) ++ [tail])=full
theorem eh.next {tail:UInt8}{k:JV}(h:eh false full tail [] ks i ys)(hk:ks[i]?=some k):eh false full tail [] ks (i+1) (ys++ ((if i=0 then [] else [44])++JV.txt k)):=by
 unfold eh at h ⊢;obtain⟨h1,h2⟩:=List.getElem?_eq_some_iff.1 hk;rw[List.drop_eq_getElem_cons h1,h2] at h;rw[<-h]
 conv=>rhs;unfold JV.txts
 by_cases e:i=0 <;> simp[e]
theorem eh.stop {tail:UInt8}(h:eh o full tail ns ks ks.length ys):ys ++ [tail]=full:=by
 unfold eh at h;rw[List.drop_length] at h;unfold JV.txts at h;exact h
theorem eh.le {tail:UInt8}(h:eh o full tail ns ks i ys):ys.length+1<=full.length:=by
 unfold eh at h;rw[<-h];simp
def zh (W:World)(o:Bool)(full:List UInt8)(tail:UInt8)(ns:List ByteArray)(ks:List JV)(s0 s38:Value)(wr:World):Prop:= ∃ (i:Nat) (ys:List UInt8),s38 =.int .i64 i/\i<=ks.length/\au wr W.heap.size s0 ys/\Below W.heap.size W wr/\eh o full tail ns ks i ys
theorem au.lit (c:UInt8)(h:au w W.heap.size u xs)(hb:Below W.heap.size W w):au (w.alloc (.cells #[.int .u8 c.toNat] 5)) W.heap.size u xs/\Bs (w.alloc (.cells #[.int .u8 c.toNat] 5)) (.slice (some ⟨w.heap.size,0,none⟩) 1 1) [c]/\Below W.heap.size W (w.alloc (.cells #[.int .u8 c.toNat] 5)):=
 ⟨h.below (ac w _) (Za _),lW w [c] (by simp),hb.trans ((ac w _).mono hb.size)⟩
theorem qg (h:dl P W A us ks)(hT:du W)(hb:Below W.heap.size W w)(ho:au w W.heap.size u xs)(hx:xs.length+ (91:: (JV.txts false true [] ks ++ [93])).length<=140737488355328)
  (H:∀ (i:Nat) v k,us[i]?=some v->ks[i]?=some k->∀w1 u1 xs1,Below W.heap.size W w1->au w1 W.heap.size u1 xs1->xs1.length+ (JV.txt k).length<=140737488355328->Calls Tryz.prog 44 #[u1,v] w1 (kO W (xs1++JV.txt k))) :
  Calls Tryz.prog 44 #[u,.iface 57 (.pointer A)] w fun e w'=>kO W (xs++ (91:: (JV.txts false true [] ks ++ [93]))) e w':=by
 have k1:=kP;have k2:=rA;have k3:=qM;have hl:=h.len;have d6:=h.bd;unfold maxLen at d6;obtain⟨q1,q2,q3⟩:=ho.lit 91 hb;have b8:=Qa q1;have c4:=Qa q2;have b1:=Qa q3;have HH:=Qa H;have Hh:=Qa h;have HT:=Qa hT;obtain⟨A0,q0,rfl,-⟩:=ah ho;have Hx:=Qa hx;have c8:=Qa (show xs.length+ ([91]:List UInt8).length<=140737488355328 by simp at hx ⊢;omega);obtain⟨full,a0⟩:∃full,xs++ (91:: (JV.txts false true [] ks ++ [93]))=full:=⟨_,rfl⟩;have Hf:Hid (eh false full 93 [] ks 0 (xs ++ [91])):=Qa (by unfold eh;rw[<-a0];simp);have c6:=Qa (show full.length<=140737488355328 by rw[<-a0,List.length_append];exact hx);rw[a0];have a7:=Qa hl;have d3:=Qa (fun w1 (hw:Below W.heap.size W w1)=>d8 (h.below hw));clear q1 q2 q3 ho hb h hT H hx a0 hl;generalize hn:us.length=n at *;have Hn:=Qa hn;clear hn;go_enter Tryz.func44,Tryz.ntmps44;go_wp2_with (at_builtin;refine pW b8.out c4.out c8.out b1.out.size ?_;intro v' w3 h1 h2 h3;have HK:=Qa h1;have a3:=Qa h2;clear h1 h2 h3);generalize hz:xs ++ [91]=zs at *;clear hz;have Hb3:=Qa (b1.out.grown a3.out b1.out.size (fun g e=>(au.blk b8.out e).1));have Ho3:=Qa HK.out;obtain⟨A3,q3,rfl,-⟩:=ah HK.out;have d2:=Qa (d3.out w3 Hb3.out);clear HK a3 b8 c4 b1 Hx c8;go_wp2_with fail;(with_reducible refine d2.out.mono ?_);rintro e w4 ⟨rfl,rfl⟩;go_wp2_with fail;clear d2
 go_loopw [0,38] (fun s0 s38 wr=>zh W false full 93 [] ks s0 s38 wr) (fun _ s38 _=>n - (intOf s38).toNat)
 case atStart=>exact⟨0,_,rfl,Zj _,Ho3.out,Hb3.out,Hf.out⟩
 case round=>
  clear Hf Ho3 Hb3;obtain⟨i,ys,rfl,hi,ho,hb,hf⟩:=hrel;have Ho:=Qa ho;have Hb:=Qa hb;have Hf:=Qa hf;have Hi:=Qa hi;obtain⟨A4,q4,rfl,-⟩:=ah ho;have d1:ys.length+1<=140737488355328:=by have:=hf.le;have:=c6.out;omega
  have d0:=Qa d1;clear ho hb hf hi d1
  by_cases hin:i<n
  ·have c5:i<us.length:=by have:=Hn.out;omega
   have c2:i<ks.length:=by have:=a7.out;omega
   obtain⟨v,hv⟩:∃u,us[i]?=some u:=⟨_,Zc c5⟩;obtain⟨k,hk⟩:∃u,ks[i]?=some u:=⟨_,Zc c2⟩;have b6:=Hf.out.next hk;have b2:=Qa b6;have hle:=b6.le;have Hp:=Qa (fun w5 (hw:Below W.heap.size W w5)=>eN (Hh.out.below hw) (HT.out.below hw) i hv);have Hc:=Qa (HH.out i v k hv hk);have hkl:(ys++if i=0 then [] else [44]).length+ (JV.txt k).length<=140737488355328:=by
    have h1:=c6.out;rw[List.length_append,List.length_append] at hle;rw[List.length_append];omega
   have b3:=Qa hkl;have c7:=Qa c2;have h':(i:Int)<n:=by omega
   have w1:IntKind.i64.wrap ((i:Int)+1)= (i:Int)+1:=IntWalk.i64_in _ (by omega);clear b6 hle hkl c5 c2 hv hk Hf
   by_cases hi0:i=0
   ·subst hi0;rw[if_pos rfl,List.append_nil] at b3;rw[if_pos rfl,List.nil_append] at b2;go_wp2_with fail;have c3:=Qa (show Calls Tryz.prog 83 #[.pointer A,.int .i64 0] wr (fun e w'=>e =.returned (.tuple #[.string ⟨(Lib.itoa (0:Nat)).toArray⟩,v])/\Below wr.heap.size wr w') from Hp.out wr Hb.out);(with_reducible refine c3.out.mono ?_);rintro e w6 ⟨rfl,a1⟩;have b4:=Qa (Hb.out.trans (a1.mono Hb.out.size));have b5:=Qa (Hc.out w6 _ _ b4.out (Ho.out.below a1 (Za _)) b3.out);clear a1;go_wp2_with fail;(with_reducible refine b5.out.mono ?_);rintro e w7 ⟨v7,rfl,a4,a6⟩;have c0:=Qa a4;have b9:=Qa a6;generalize hr:ys++JV.txt k=rs at *;clear hr;obtain⟨A7,q7,rfl,-⟩:=ah a4;clear a4 a6;go_wp2_with fail;refine⟨⟨1,_,rfl,c7.out,c0.out,b9.out,b2.out⟩,?_⟩
    show n - ((0:Int)+1).toNat<n - ((0:Int)).toNat
    omega
   ·have d5:(0:Int)<i:=by omega
    rw[if_neg hi0] at b3 b2;clear hi0;obtain⟨r1,r2,r3⟩:=Ho.out.lit 44 Hb.out;have a9:=Qa r1;have b7:=Qa r2;have a5:=Qa r3;have a2:=Qa (show ys.length+ ([44]:List UInt8).length<=140737488355328 from d0.out);clear r1 r2 r3;go_wp2_with (at_builtin;refine pW a9.out b7.out a2.out a5.out.size ?_;intro v' w5 h1 h2 h3;have HK:=Qa h1;have a3:=Qa h2;clear h1 h2 h3);generalize hz:ys ++ [44]=zs at *;have Hz:=Qa hz;clear hz;have b0:=Qa (a5.out.grown a3.out a5.out.size (fun g e=>(au.blk a9.out e).1));have d4:=Qa HK.out;obtain⟨A5,q5,rfl,-⟩:=ah HK.out;have c3:=Qa (Hp.out w5 b0.out);clear HK a3;go_wp2_with fail;(with_reducible refine c3.out.mono ?_);rintro e w6 ⟨rfl,a1⟩;have b4:=Qa (b0.out.trans (a1.mono b0.out.size));have b5:=Qa (Hc.out w6 _ _ b4.out (d4.out.below a1 (Za _)) b3.out);clear a1;go_wp2_with fail;(with_reducible refine b5.out.mono ?_);rintro e w7 ⟨v7,rfl,a4,a6⟩;have c0:=Qa a4;have b9:=Qa a6;generalize hr:zs++JV.txt k=rs at *;have Hr:=Qa hr;clear hr;obtain⟨A7,q7,rfl,-⟩:=ah a4;clear a4 a6;go_wp2_with fail;refine⟨⟨i+1,_,rfl,c7.out,c0.out,b9.out,by rw[<-Hr.out,<-Hz.out,List.append_assoc];exact b2.out⟩,?_⟩
    show n - ((i:Int)+1).toNat<n - ((i:Int)).toNat
    omega
  ·have h':¬ (i:Int)<n:=by omega
   have c9:i=ks.length:=by have:=Hi.out;have:=a7.out;omega
   have c1:=Qa (show ys ++ [93]=full by have:=Hf.out;rw[c9] at this;exact this.stop);clear c9 Hf;obtain⟨r1,r2,r3⟩:=Ho.out.lit 93 Hb.out;have a9:=Qa r1;have b7:=Qa r2;have a5:=Qa r3;have a2:=Qa (show ys.length+ ([93]:List UInt8).length<=140737488355328 from d0.out);clear r1 r2 r3;go_wp2_with (at_builtin;refine pW a9.out b7.out a2.out a5.out.size ?_;intro v' w5 h1 h2 h3;have HK:=Qa h1;have a3:=Qa h2;clear h1 h2 h3);have b0:=Qa (a5.out.grown a3.out a5.out.size (fun g e=>(au.blk a9.out e).1));rw[c1.out] at HK;obtain⟨A5,q5,rfl,-⟩:=ah HK.out;go_ret;exact⟨_,rfl,HK.out,b0.out⟩
