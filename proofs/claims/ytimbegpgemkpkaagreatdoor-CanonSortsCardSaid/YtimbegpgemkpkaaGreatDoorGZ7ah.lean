import Derived.Test.YtimbegpgemkpkaaGreatDoorGZ7ag
import Derived.Stop.Asserts
import Derived.Lib.ItoaLen
set_option linter.unusedVariables false
set_option linter.unusedSimpArgs false
set_option maxHeartbeats 64000000
set_option maxRecDepth 100000
namespace Go.Proofs.YtimbegpgemkpkaaGreatDoor
open Go.Proofs.Tryz
open Go.RowKit Go.Shelf
variable {aE aU:Addr}{cs:Array Value}{r t':Bool}{x':Nc}{d n':Dc}{j x0:JV}{ns ns':List Nc}{ks ks':List JV}{full xs ys:Na}{us us':Nb}{base c cap gt i m n p:Nat}{P Q:Nat->Prop}{A:OA}{t0 t1 ty:TypeId}{u v v' x x1:Value}{W X w w' w1 w2:Wd}
def oo (W:Wd)(o:Bool)(ns ns':List Nc)(ks ks':List JV)(s19:Value)(wr:Wd):Prop:= ∃i:Nat,s19 =(i:Int)/\i<=ks.length/\i<=ks'.length/\aA (JV.keys o ns ks) (JV.keys o ns' ks')=aA (JV.keys o (ns.drop i) (ks.drop i)) (JV.keys o (ns'.drop i) (ks'.drop i))/\ge W wr
theorem yp {B:OA}(ha:cY P w A us ks)(hb:cY Q w B us' ks')(hT:dh w)
  (hl:us.length<=maxLen) (c8:us'.length<=maxLen)
  (H:∀ (i:Nat) u u' k k',us[i]?=some u->ks[i]?=some k->us'[i]?=some u'->ks'[i]?=some k'->∀w1,ge w w1->Calls prog 28 #[u,u'] w1 (y4 (du k k':Int) w1)) :
  Calls prog 56 #[.iface 52 (.pointer A),.iface 52 (.pointer B),false] w (y4 (aA (JV.keys false [] ks) (JV.keys false [] ks'):Int) w):=by
 have la:=ha.len;have lb:=hb.len;unfold maxLen at hl c8;have Ha:=Qa ha;have Hb:=Qa hb;have HT:=Qa hT;have HH:=Qa H;clear ha hb hT H;have Hl:=Qa (dX Ha.out);have a5:=Qa (dX Hb.out);have c2:=Qa la;have c3:=Qa lb;generalize hn:us.length=n at *;generalize hn':us'.length=n' at *;have Hn:=Qa hn;have b6:=Qa hn';clear hn hn' la lb;go_in;go_wp2_with fail;refine Za Hl ?_;rintro e w3 ⟨rfl,rfl⟩;go_wp2_with fail;refine Za a5 ?_;rintro e w3 ⟨rfl,rfl⟩;go_wp2_with fail;obtain⟨m,hm,c1⟩:∃m:Nat,(min (n:Int) n')=m/\m=min n n':=⟨min n n',by omega,rfl⟩;rw[hm];have Hm:=Qa c1;have d0:m<=9223372036854775807:=by omega
 clear hm c1 Hl a5
 go_loopw [19] (fun s19 wr=>oo w false [] [] ks ks' s19 wr) (fun s19 _=>m - (intOf s19).toNat)
 case atStart=>exact⟨0,rfl,Zk _,Zk _,rfl,Ze _ _⟩
 case round=>
  obtain⟨i,rfl,c4,c5,he,a1⟩:=hrel;have a0:=Qa a1;have He:=Qa he;have Hi:=NA c4 c5;clear he c4 c5;have c6:=Qa (Ha.below a1);have b9:=Qa (Hb.below a1);have c0:=Qa (HT.below a1);clear a1
  by_cases h:i<m
  .have c7:i<us.length:=by have:=Hm.out;have:=Hn.out;omega
   have b8:i<us'.length:=by have:=Hm.out;have:=b6.out;omega
   have b0:i<ks.length:=by have:=c2.out;have:=Hn.out;omega
   have a9:i<ks'.length:=by have:=c3.out;have:=b6.out;omega
   obtain⟨u,hu⟩:∃u,us[i]?=some u:=⟨_,Zd c7⟩;obtain⟨u',b2⟩:∃u,us'[i]?=some u:=⟨_,Zd b8⟩;obtain⟨k,hk⟩:∃u,ks[i]?=some u:=⟨_,Zd b0⟩;obtain⟨k',b7⟩:∃u,ks'[i]?=some u:=⟨_,Zd a9⟩;have Hp:=Qa (e9 c6.out c0.out i hu);have Hq:=Qa (fun w5 (h:ge wr w5)=>e9 (b9.below h) (c0.below h) i b2);have Hc:=Qa (HH i u u' k k' hu hk b2 b7);have Hs:=Qa (show aA (JV.keys false [] ks) (JV.keys false [] ks')=if du k k'=0 then aA (JV.keys false [] (ks.drop (i+1))) (JV.keys false [] (ks'.drop (i+1))) else du k k' by
    rw[He.out,List.drop_eq_getElem_cons b0,List.drop_eq_getElem_cons a9,rQ];rw[(List.getElem?_eq_some_iff.1 hk).2,(List.getElem?_eq_some_iff.1 b7).2];simp)
   have Hk:=NA b0 a9;have h':(i:Int)<m:=by omega
   have w1:=y9 ((i:Int)+1);clear c7 b8 b0 a9 hu b2 hk b7 He;generalize du k k'=cc at *
   by_cases hc0:cc=0
   .subst hc0;have b3:=Qa (Hs.trans (if_pos rfl));clear Hs;go_wp2_with fail;refine Za Hp ?_;rintro e w3 ⟨rfl,a3⟩;have a7:=Qa a3;have b4:=Qa (Hq w3 a3);clear a3;go_wp2_with fail;refine Za b4 ?_;rintro e w4 ⟨rfl,a4⟩;have a2:=Qa (a0.trans ((a7.trans (a4.mono a7.size)).mono a0.size));have b1:=Qa (Hc w4 a2.out);clear a4;go_wp2_with fail;refine Za b1 ?_;rintro e w5 ⟨rfl,a6⟩;have b5:=Qa (a2.trans (a6.mono a2.size));clear a6;go_wp2_with fail;refine⟨⟨i+1,rfl,Hk.1,Hk.2,b3,b5⟩,?_⟩
    show m - ((i:Int)+1).toNat<m - ((i:Int)).toNat
    omega
   .have c9:(cc==0)=false:=by simpa using hc0
    have b3:=Qa (Hs.trans (if_neg hc0));clear Hs hc0;go_wp2_with fail;refine Za Hp ?_;rintro e w3 ⟨rfl,a3⟩;have a7:=Qa a3;have b4:=Qa (Hq w3 a3);clear a3;go_wp2_with fail;refine Za b4 ?_;rintro e w4 ⟨rfl,a4⟩;have a2:=Qa (a0.trans ((a7.trans (a4.mono a7.size)).mono a0.size));have b1:=Qa (Hc w4 a2.out);clear a4;go_wp2_with fail;refine Za b1 ?_;rintro e w5 ⟨rfl,a6⟩;have b5:=Qa (a2.trans (a6.mono a2.size));clear a6;go_wp2;go_ret;rw[b3.out];exact⟨rfl,b5⟩
  .have h':¬ (i:Int)<m:=by omega
   have Hl:=Qa (dX c6.out);have a5:=Qa (dX b9.out);rw[Hn.out] at Hl;rw[b6.out] at a5;have Hz:=Qa (show aA (JV.keys false [] ks) (JV.keys false [] ks')=sg n n' by
    have h1:=Hm.out;have h2:=c2.out;have h3:=c3.out;have h4:=Hi.out;rw[He.out,iR]
    .unfold sg;rw[List.length_drop,List.length_drop]
     (repeat' split) <;> first|rfl|omega
    .rcases(by omega:ks.length<=i\/ks'.length<=i) with h|h
     .exact .inl (List.drop_eq_nil_of_le h)
     .exact .inr (List.drop_eq_nil_of_le h))
   clear He;go_wp2_with fail;refine Za Hl ?_;rintro e w3 ⟨rfl,rfl⟩;go_wp2_with fail;refine Za a5 ?_;rintro e w3 ⟨rfl,rfl⟩;go_wp2_with fail;refine br.mono ?_;rintro e w3 ⟨rfl,rfl⟩;go_wp2;go_ret;rw[Hz.out];exact⟨rfl,a0⟩
theorem eQ.len (h:eQ P w A us ns ks):us.length=ks.length:=by
 obtain⟨_,_,_,_,_,_,h,_⟩:=h;exact h
theorem eQ.names (h:eQ P w A us ns ks):ns.length=ks.length:=by
 obtain⟨_,_,_,_,_,_,_,h⟩:=h;exact h
theorem C7 {B:OA}(ha:eQ P w A us ns ks)(hb:eQ Q w B us' ns' ks')(hT:cG w aU aE)(hz:∀n∈ns,n.size<=9223372036854775807)(d2:∀n∈ns',n.size<=9223372036854775807)
  (hl:us.length<=maxLen) (d6:us'.length<=maxLen)
  (H:∀ (i:Nat) u u' k k',us[i]?=some u->ks[i]?=some k->us'[i]?=some u'->ks'[i]?=some k'->∀w1,ge w w1->Calls prog 28 #[u,u'] w1 (y4 (du k k':Int) w1)) :
  Calls prog 56 #[.iface 126 (.pointer A),.iface 126 (.pointer B),true] w (y4 (aA (JV.keys true ns ks) (JV.keys true ns' ks'):Int) w):=by
 have la:=ha.len;have lb:=hb.len;have ma:=ha.names;have mb:=hb.names;have Hz:=Qa hz;have d4:=Qa d2;unfold maxLen at hl d6;have Ha:=Qa ha;have Hb:=Qa hb;have HT:=Qa hT;have HH:=Qa H;clear ha hb hT H hz d2;have Hl:=Qa (eP Ha.out);have b2:=Qa (eP Hb.out);have d5:=Qa ma;have d9:=Qa mb;have c7:=Qa la;have c8:=Qa lb;generalize hn:us.length=n at *;generalize hn':us'.length=n' at *;have Hn:=Qa hn;have c3:=Qa hn';clear hn hn' la lb ma mb;go_in;go_wp2_with fail;refine Za Hl ?_;rintro e w3 ⟨rfl,rfl⟩;go_wp2_with fail;refine Za b2 ?_;rintro e w3 ⟨rfl,rfl⟩;go_wp2_with fail;obtain⟨m,hm,a9⟩:∃m:Nat,(min (n:Int) n')=m/\m=min n n':=⟨min n n',by omega,rfl⟩;rw[hm];have Hm:=Qa a9;have e2:m<=9223372036854775807:=by omega
 clear hm a9 Hl b2
 go_loopw [19] (fun s19 wr=>oo w true ns ns' ks ks' s19 wr) (fun s19 _=>m - (intOf s19).toNat)
 case atStart=>exact⟨0,rfl,Zk _,Zk _,rfl,Ze _ _⟩
 case round=>
  obtain⟨i,rfl,c9,d0,he,a3⟩:=hrel;have a2:=Qa a3;have He:=Qa he;have Hi:=NA c9 d0;clear he c9 d0;have d1:=Qa (Ha.below a3);have c6:=Qa (Hb.below a3);have d7:=Qa (HT.below a3);clear a3
  by_cases h:i<m
  .have d3:i<us.length:=by have:=Hm.out;have:=Hn.out;omega
   have c5:i<us'.length:=by have:=Hm.out;have:=c3.out;omega
   have b6:i<ks.length:=by have:=c7.out;have:=Hn.out;omega
   have b5:i<ks'.length:=by have:=c8.out;have:=c3.out;omega
   obtain⟨u,hu⟩:∃u,us[i]?=some u:=⟨_,Zd d3⟩;obtain⟨u',b9⟩:∃u,us'[i]?=some u:=⟨_,Zd c5⟩;obtain⟨k,hk⟩:∃u,ks[i]?=some u:=⟨_,Zd b6⟩;obtain⟨k',c4⟩:∃u,ks'[i]?=some u:=⟨_,Zd b5⟩;have c2:i<ns.length:=by have:=d5.out;omega
   have a9:i<ns'.length:=by have:=d9.out;omega
   obtain⟨s,hs⟩:∃u,ns[i]?=some u:=⟨_,Zd c2⟩;obtain⟨s',b7⟩:∃u,ns'[i]?=some u:=⟨_,Zd a9⟩;have Hp:=Qa (eW d1.out i hu hs);have Hq:=Qa (fun w5 (h:ge wr w5)=>eW (c6.below h) i b9 b7);have c0:=Qa (fun w5 (h:ge wr w5)=>jY (Hz s (Zl hs)) (d4 s' (Zl b7)) (d7.below h));have Hc:=Qa (HH i u u' k k' hu hk b9 c4);have Hs:=Qa (show aA (JV.keys true ns ks) (JV.keys true ns' ks')=if aA (nm s) (nm s')=0 then(if du k k'=0 then aA (JV.keys true (ns.drop (i+1)) (ks.drop (i+1))) (JV.keys true (ns'.drop (i+1)) (ks'.drop (i+1))) else du k k') else aA (nm s) (nm s') by
    rw[He.out,List.drop_eq_getElem_cons b6,List.drop_eq_getElem_cons b5,List.drop_eq_getElem_cons c2,List.drop_eq_getElem_cons a9,vL];rw[(List.getElem?_eq_some_iff.1 hk).2,(List.getElem?_eq_some_iff.1 c4).2,(List.getElem?_eq_some_iff.1 hs).2,(List.getElem?_eq_some_iff.1 b7).2])
   have Hk:=NA b6 b5;have h':(i:Int)<m:=by omega
   have w1:=y9 ((i:Int)+1);clear d3 c5 b6 b5 hu b9 hk c4 hs b7 c2 a9 He;generalize aA (nm s) (nm s')=nc at *;generalize du k k'=cc at *
   by_cases hn0:nc=0
   .subst hn0;rw[if_pos rfl] at Hs
    by_cases hc0:cc=0
    .subst hc0;have b1:=Qa (Hs.trans (if_pos rfl));clear Hs;go_wp2_with fail;refine Za Hp ?_;rintro e w3 ⟨rfl,a4⟩;have a7:=Qa a4;have b3:=Qa (Hq w3 a4);clear a4;go_wp2_with fail;refine Za b3 ?_;rintro e w4' ⟨rfl,a1⟩;have a0:=Qa (a7.trans (a1.mono a7.size));have b0:=Qa (c0 w4' a0.out);clear a1;go_wp2_with fail;refine Za b0 ?_;rintro e w4 ⟨rfl,a6⟩;have a5:=Qa (a2.trans ((a0.trans (a6.mono a0.size)).mono a2.size));have b8:=Qa (Hc w4 a5.out);clear a6;go_wp2_with fail;refine Za b8 ?_;rintro e w5 ⟨rfl,b4⟩;have c1:=Qa (a5.trans (b4.mono a5.size));clear b4;go_wp2_with fail;refine⟨⟨i+1,rfl,Hk.1,Hk.2,b1,c1⟩,?_⟩
     show m - ((i:Int)+1).toNat<m - ((i:Int)).toNat
     omega
    .have e1:(cc==0)=false:=by simpa using hc0
     have b1:=Qa (Hs.trans (if_neg hc0));clear Hs hc0;go_wp2_with fail;refine Za Hp ?_;rintro e w3 ⟨rfl,a4⟩;have a7:=Qa a4;have b3:=Qa (Hq w3 a4);clear a4;go_wp2_with fail;refine Za b3 ?_;rintro e w4' ⟨rfl,a1⟩;have a0:=Qa (a7.trans (a1.mono a7.size));have b0:=Qa (c0 w4' a0.out);clear a1;go_wp2_with fail;refine Za b0 ?_;rintro e w4 ⟨rfl,a6⟩;have a5:=Qa (a2.trans ((a0.trans (a6.mono a0.size)).mono a2.size));have b8:=Qa (Hc w4 a5.out);clear a6;go_wp2_with fail;refine Za b8 ?_;rintro e w5 ⟨rfl,b4⟩;have c1:=Qa (a5.trans (b4.mono a5.size));clear b4;go_wp2;go_ret;rw[b1.out];exact⟨rfl,c1⟩
   .have e0:(nc==0)=false:=by simpa using hn0
    have b1:=Qa (Hs.trans (if_neg hn0));clear Hs hn0;go_wp2_with fail;refine Za Hp ?_;rintro e w3 ⟨rfl,a4⟩;have a7:=Qa a4;have b3:=Qa (Hq w3 a4);clear a4;go_wp2_with fail;refine Za b3 ?_;rintro e w4' ⟨rfl,a1⟩;have a0:=Qa (a7.trans (a1.mono a7.size));have b0:=Qa (c0 w4' a0.out);clear a1;go_wp2_with fail;refine Za b0 ?_;rintro e w4 ⟨rfl,a6⟩;have a5:=Qa (a2.trans ((a0.trans (a6.mono a0.size)).mono a2.size));clear a6;go_wp2;go_ret;rw[b1.out];exact⟨rfl,a5⟩
  .have h':¬ (i:Int)<m:=by omega
   have Hl:=Qa (eP d1.out);have b2:=Qa (eP c6.out);rw[Hn.out] at Hl;rw[c3.out] at b2;have Hz:=Qa (show aA (JV.keys true ns ks) (JV.keys true ns' ks')=sg n n' by
    have h1:=Hm.out;have h2:=c7.out;have h3:=c8.out;have h4:=Hi.out;rw[He.out,iR]
    .unfold sg;rw[List.length_drop,List.length_drop]
     (repeat' split) <;> first|rfl|omega
    .rcases(by omega:ks.length<=i\/ks'.length<=i) with h|h
     .exact .inl (List.drop_eq_nil_of_le h)
     .exact .inr (List.drop_eq_nil_of_le h))
   clear He;go_wp2_with fail;refine Za Hl ?_;rintro e w3 ⟨rfl,rfl⟩;go_wp2_with fail;refine Za b2 ?_;rintro e w3 ⟨rfl,rfl⟩;go_wp2_with fail;refine br.mono ?_;rintro e w3 ⟨rfl,rfl⟩;go_wp2;go_ret;rw[Hz.out];exact⟨rfl,a2⟩
theorem jw {P:Program}{asserted t:TypeId}{want:Array (String×TypeId)}(hu:P.underlying asserted=some (.interface want))(h:(P.info? t).map (fun i=>(lacking want i.methods).isEmpty)=some true)(v:Value)(xT:TypeId)(w:Wd):(Instr.typeAssert (.iface t v) xT asserted false).run P w =.ok (.iface t v) w:=by
 obtain⟨i,hi,hl⟩:=Option.map_eq_some_iff.1 h;simp[Instr.typeAssert,run_underlying hu,typeInfo,hi,missingMethod_none (List.isEmpty_iff.1 hl)]
theorem ui(x W):y6 54 x 35 55 false false W:=by show _=_;kernel_rfl
theorem xy(x W):y6 54 x 35 123 (.agg #[false,.string ⟨#[]⟩,(0:Int)]) false W:=by show _=_;kernel_rfl
theorem lC(x W):y6 54 x 35 37 (.string ⟨#[]⟩) false W:=by show _=_;kernel_rfl
theorem jC(x W):y6 54 x 35 135 (.nilIface) false W:=run_typeAssert_lacksB underlying135 (by kernel_rfl) (by kernel_rfl) x _ W
theorem Bb(x W):y6 55 x 35 55 x true W:=by show _=_;kernel_rfl
theorem IF (x:Value)(W:Wd):(Instr.typeAssert (.iface 55 x) 35 55 false).run prog W =.ok x W:=by kernel_rfl
theorem sF(x W):y6 55 x 35 37 (.string ⟨#[]⟩) false W:=by show _=_;kernel_rfl
theorem mU(x W):y6 55 x 35 135 (.nilIface) false W:=run_typeAssert_lacksB underlying135 (by kernel_rfl) (by kernel_rfl) x _ W
theorem nz(x W):y6 123 x 35 55 false false W:=by show _=_;kernel_rfl
theorem FI(x W):y6 123 x 35 123 x true W:=by show _=_;kernel_rfl
theorem Kq (x:Value)(W:Wd):(Instr.typeAssert (.iface 123 x) 35 123 false).run prog W =.ok x W:=by kernel_rfl
theorem xg(x W):y6 123 x 35 37 (.string ⟨#[]⟩) false W:=by show _=_;kernel_rfl
theorem oP(x W):y6 123 x 35 135 (.nilIface) false W:=run_typeAssert_lacksB underlying135 (by kernel_rfl) (by kernel_rfl) x _ W
theorem lR(x W):y6 37 x 35 55 false false W:=by show _=_;kernel_rfl
theorem nH(x W):y6 37 x 35 123 (.agg #[false,.string ⟨#[]⟩,(0:Int)]) false W:=by show _=_;kernel_rfl
theorem uf(x W):y6 37 x 35 37 x true W:=by show _=_;kernel_rfl
theorem Ib (x:Value)(W:Wd):(Instr.typeAssert (.iface 37 x) 35 37 false).run prog W =.ok x W:=by kernel_rfl
theorem nB(x W):y6 37 x 35 135 (.nilIface) false W:=run_typeAssert_lacksB underlying135 (by kernel_rfl) (by kernel_rfl) x _ W
theorem l8(x W):y6 49 x 35 55 false false W:=by show _=_;kernel_rfl
theorem mY(x W):y6 49 x 35 123 (.agg #[false,.string ⟨#[]⟩,(0:Int)]) false W:=by show _=_;kernel_rfl
theorem lH(x W):y6 49 x 35 37 (.string ⟨#[]⟩) false W:=by show _=_;kernel_rfl
theorem mX(x W):y6 49 x 35 135 (.nilIface) false W:=run_typeAssert_lacksB underlying135 (by kernel_rfl) (by kernel_rfl) x _ W
theorem lQ(x W):y6 52 x 35 55 false false W:=by show _=_;kernel_rfl
theorem m7(x W):y6 52 x 35 123 (.agg #[false,.string ⟨#[]⟩,(0:Int)]) false W:=by show _=_;kernel_rfl
theorem iU(x W):y6 52 x 35 37 (.string ⟨#[]⟩) false W:=by show _=_;kernel_rfl
theorem jH(x W):y6 52 x 35 135 (.iface 52 x) true W:=run_typeAssert_hasB underlying135 (by kernel_rfl) x _ W
theorem mW (x:Value)(W:Wd):(Instr.typeAssert (.iface 52 x) 35 135 false).run prog W =.ok (.iface 52 x) W:=jw underlying135 (by kernel_rfl) x _ W
theorem nu(x W):y6 126 x 35 55 false false W:=by show _=_;kernel_rfl
theorem oR(x W):y6 126 x 35 123 (.agg #[false,.string ⟨#[]⟩,(0:Int)]) false W:=by show _=_;kernel_rfl
theorem jB(x W):y6 126 x 35 37 (.string ⟨#[]⟩) false W:=by show _=_;kernel_rfl
theorem kW(x W):y6 126 x 35 135 (.iface 126 x) true W:=run_typeAssert_hasB underlying135 (by kernel_rfl) x _ W
theorem oO (x:Value)(W:Wd):(Instr.typeAssert (.iface 126 x) 35 135 false).run prog W =.ok (.iface 126 x) W:=jw underlying135 (by kernel_rfl) x _ W
theorem ss {t:TypeId}{d:Nat}{op:Op}{pos:String}{af:Array Edge}{gu:Option (Nat×Bool)}{a:Act}{K:Act->Wd->Prop}{Q':Exit->Act->Wd->Prop}(h:VW P w v j)(hv:v =.iface t x)(k:∀w',ge w w'->K (a.put (some d) (j.kindOf:Int)) w'):Oper.upon prog {dst:=some d,op:=op,type:=ty,pos:=pos,after:=af,guard:=gu} a K Q' ((Sem.run prog (method 543 t x "Kind") w).andThen fun a w'=>Sem.run prog (callFunc a.fst #[a.snd]) w'):=by
 cases h <;> (injection hv with e1 e2;subst e1 e2)
 all_goals
  go_wp2_with fail;(with_reducible first|refine gw.mono ?_|refine fZ.mono ?_|refine iF.mono ?_|refine gj.mono ?_|refine ga.mono ?_|refine ey.mono ?_|refine gO.mono ?_);rintro e w1 ⟨rfl,a0⟩;exact k w1 a0
theorem ib {a b:JV}(ha:VW P w v a)(hb:VW Q w v' b)(hd:a.kindOf≠b.kindOf):Calls prog 80 #[v,v'] w (y4 false w):=by
 obtain⟨t1,x1,rfl⟩:=ha.iface;obtain⟨t2,x2,rfl⟩:=hb.iface;have Ha:=Qa ha;have Hb:=Qa (fun w1 (h:ge w w1)=>hb.later h);have a4:(a.kindOf==b.kindOf)=false:=by simpa using hd
 clear ha hb hd;go_in;go_wp2_with fail;refine ss Ha.out rfl fun w1 a2=>?_
 have a0:=Qa a2;clear a2;go_wp2_with fail;refine ss (Hb w1 a0) rfl fun w2 a1=>?_
 have a3:=Qa (a0.trans (a1.mono a0.size));clear a1;go_wp2;go_ret;exact⟨rfl,a3⟩
def mG (l:Na):Nc:=⟨l.toArray⟩
theorem qJ:Calls prog 311 #[.agg #[]] w (y4 (.string (mG [110,117,108,108])) w):=by
 go_in;go_wp2;go_ret;exact⟨rfl,aa w _⟩
theorem CZ (b:Bool):Calls prog 314 #[.bool b] w fun e w'=>e =.returned (.string (mG (if b then [116,114,117,101] else [102,97,108,115,101])))/\w=w':=by
 cases b
 all_goals
  go_in;go_wp2;go_ret;exact⟨rfl,rfl⟩
theorem Eb (b:Bool):Calls prog 313 #[.bool b] w fun e w'=>e =.returned (.string (mG (if b then [116,114,117,101] else [102,97,108,115,101])))/\w=w':=by
 have H:=Qa (CZ (w:=w) b);generalize mG (if b then [116,114,117,101] else [102,97,108,115,101])=s at *;go_in;go_wp2_with fail;refine Za H ?_;rintro e w1 ⟨rfl,rfl⟩;go_wp2;go_ret;exact⟨rfl,rfl⟩
theorem re (b:Bool):Calls prog 312 #[.bool b] w fun e w'=>e =.returned (.string (mG (if b then [116,114,117,101] else [102,97,108,115,101])))/\ge w w':=by
 have H:=Qa (Eb (w:=w) b);generalize mG (if b then [116,114,117,101] else [102,97,108,115,101])=s at *;go_in;go_wp2_with fail;refine Za H ?_;rintro e w1 ⟨rfl,rfl⟩;go_wp2;go_ret;exact⟨rfl,Ze _ _⟩
theorem Cf (n:Int)(h0: -1000000000<=n)(h1:n<=1000000000)(hT:dh w):Calls prog 105 #[(n:Int)] w (y4 (.string ⟨(Lib.itoa n).toArray⟩) w):=by
 refine(Any.strconv_Itoa xw n (by omega) (by omega) w hT).mono ?_;rintro e w' ⟨rfl,k,os,rfl⟩;exact⟨rfl,Lib.below_grow _ w (Zb _) k os⟩
theorem tX (hT:dh w)(hs:d.digits.size<=1000000000000)(h0: -1000000000<=d.exp)(h1:d.exp<=1000000000):Calls prog 321 #[.agg #[.bool d.neg,d.digits,(d.exp:Int)]] w fun e w'=>e =.returned (.string (mG (fL d)))/\ge w w':=by
 obtain⟨ng,dg,x⟩:=d
 dsimp only at hs h0 h1 ⊢
 have hb:=aa w (.cells #[.bool ng,dg,(x:Int)] 120);have Ha:=Qa hb;have hz:(⟨(Lib.itoa x).toArray⟩:Nc).size<=21:=by
  show(Lib.itoa x).toArray.size<=21
  rw[List.size_toArray];exact Lib.itoa_length_le x (by omega) (by omega)
 have HI:=Qa (Cf x h0 h1 (hT.below hb));have a2:(⟨#[101]⟩++ (⟨(Lib.itoa x).toArray⟩:Nc):Nc).size<=22:=by
  rw[ByteArray.size_append];have:(⟨#[101]⟩:Nc).size=1:=rfl;omega
 have a4:(⟨#[45]⟩++dg:Nc).size<=1000000000001:=by
  rw[ByteArray.size_append];have:(⟨#[45]⟩:Nc).size=1:=rfl;omega
 have e0:(⟨#[45]⟩:Nc).size=1:=rfl;have e1:(⟨#[101]⟩:Nc).size=1:=rfl;clear hb hT h0 h1
 cases ng <;> by_cases he:x=0
 .subst he;have hc:=Qa (show dg=mG (fL ⟨false,dg,0⟩) by cases dg with|mk a=>cases a with|mk l=>simp[fL,gW,mG]);clear hz a2 HI;go_in;go_wp2;go_ret;rw[<-hc.out];exact⟨rfl,Ha⟩
 .have hc:=Qa (show dg++ (⟨#[101]⟩++ ⟨(Lib.itoa x).toArray⟩:Nc)=mG (fL ⟨false,dg,x⟩) by cases dg with|mk a=>cases a with|mk l=>simp only[fL,gW,mG,if_neg he];rfl);have a3:(x==0)=false:=by simpa using he
  clear he;generalize (⟨(Lib.itoa x).toArray⟩:Nc)=z at *;go_in;go_wp2_with fail;refine Za HI ?_;rintro e w1 ⟨rfl,a0⟩;have a1:=Qa (Ha.trans (a0.mono Ha.size));clear a0;go_wp2;go_ret;rw[<-hc.out];exact⟨rfl,a1⟩
 .subst he;have hc:=Qa (show(⟨#[45]⟩++dg:Nc)=mG (fL ⟨true,dg,0⟩) by cases dg with|mk a=>cases a with|mk l=>simp only[fL,gW,mG,if_true,List.append_nil];rfl);clear hz a2 HI;go_in;go_wp2;go_ret;rw[<-hc.out];exact⟨rfl,Ha⟩
 .have hc:=Qa (show(⟨#[45]⟩++dg)++ (⟨#[101]⟩++ ⟨(Lib.itoa x).toArray⟩:Nc)=mG (fL ⟨true,dg,x⟩) by cases dg with|mk a=>cases a with|mk l=>simp only[fL,gW,mG,if_neg he,if_true];rfl);have a3:(x==0)=false:=by simpa using he
  clear he;generalize (⟨(Lib.itoa x).toArray⟩:Nc)=z at *;go_in;go_wp2_with fail;refine Za HI ?_;rintro e w1 ⟨rfl,a0⟩;have a1:=Qa (Ha.trans (a0.mono Ha.size));clear a0;go_wp2;go_ret;rw[<-hc.out];exact⟨rfl,a1⟩
theorem oS {s:Nc}(hs:dS s)(hG:cG w aU aE)(hl:s.size<=1000000000):Calls prog 75 #[s] w fun e w'=> ∃v,e =.returned v/\aw w' w.heap.size v (eK s)/\ge w w':=by
 have H:=Qa (rl hs hG hl);clear hs hG hl;go_in;go_wp2_with fail;refine Za H ?_;rintro e w1 ⟨v,rfl,ho,hb⟩;have Hb:=Qa hb;have Ho:=Qa ho;obtain⟨A,q,rfl,-⟩:=ai ho;clear hb ho;go_wp2;go_ret;exact⟨_,rfl,Ho,Hb⟩
def lM (W:Wd)(l:Na)(e:Ending)(w':Wd):Prop:= ∃v,e =.returned v/\aw w' W.heap.size v l/\ge W w'
theorem Ca {s:Nc}(hs:dS s)(hG:cG W aU aE)(hl:s.size<=1000000000)(hb:ge W w)(ho:aw w W.heap.size u xs)(hx:xs.length+ (eK s).length<=140737488355328):Calls prog 38 #[u,.iface 37 s] w (lM W (xs++eK s)):=by
 have k1:=uf;have H:=Qa (oS (w:=w) hs (hG.below hb) hl);have Hb:=Qa hb;have Ho:=Qa ho;have Hx:=Qa hx;obtain⟨A,q,rfl,-⟩:=ai ho;clear hs hG hb ho hx;generalize eK s=qs at *;go_in;go_wp2_with fail;refine Za H ?_;rintro e w1 ⟨v,rfl,a0,a2⟩;have a1:=Qa (Hb.trans (a2.mono Hb.size));have a3:=Qa (Ho.below a2 (Zb _));have a4:=Qa (aw.bs a0);obtain⟨A2,q2,rfl,-⟩:=ai a0;clear a0 a2;go_wp2_with (at_builtin;refine su a3.out a4.out Hx.out a1.size ?_;intro v' w3 h1 h2 h3;have HK:=Qa h1;have a5:=Qa h2;clear h1 h2 h3);obtain⟨A3,q3,rfl,-⟩:=ai HK.out;go_ret;exact⟨_,rfl,HK,a1.grown a5 a1.size (fun g e=>(aw.blk a3 e).1)⟩
def wh:Na:= [110,117,108,108]
def wX (b:Bool):Na:=if b then [116,114,117,101] else [102,97,108,115,101]
theorem qD (l:Na):(mG l).size=l.length:=by show l.toArray.size=_;simp
theorem BM {P:Program}{f:FuncId}{x y:Array Value}{K:Ending->Wd->Prop}(h:x=y)(hc:Calls P f #[.agg y] w K):Calls P f #[.agg x] w K:=h▸hc
theorem Gy(x W):y6 54 x 35 154 (.iface 54 x) true W:=run_typeAssert_hasB underlying154 (by kernel_rfl) x _ W
theorem BX (hb:ge W w)(ho:aw w W.heap.size u xs)(hx:xs.length+wh.length<=140737488355328):Calls prog 38 #[u,.iface 54 (.agg #[])] w (lM W (xs++wh)):=by
 have k1:=lC;have k2:=Gy;have H:=Qa (show Calls prog 311 #[.agg #[]] w (y4 (.string (mG wh)) w) from qJ);have Hb:=Qa hb;have Ho:=Qa ho;have Hx:=Qa hx;obtain⟨A,q,rfl,-⟩:=ai ho;clear hb ho hx;generalize wh=qs at *;have a2:(mG qs).data.toList=qs:=rfl;have Hq:=Qa a2;have Hz:=Qa (show xs.length+ (mG qs).size<=140737488355328 by have:=Hx.out;rw[qD];exact this);generalize mG qs=ts at *;clear a2;go_in;go_wp2_with fail;refine Za H ?_;rintro e w1 ⟨rfl,a1⟩;have a0:=Qa (Hb.trans (a1.mono Hb.size));have a3:=Qa (Ho.below a1 (Zb _));clear a1;go_wp2_with (at_builtin;refine cR rfl (.tmp 26) (.tmp 28) rfl W.heap.size (.slice A xs.length q) xs ts (by simp[Act.eval]) a3.out (by simp[Act.eval]) Hz.out a0.size ?_;intro v' w3 h1 h2;have HK:=Qa h1;have a4:=Qa h2;clear h1 h2);rw[Hq.out] at HK;obtain⟨A3,q3,rfl,-⟩:=ai HK.out;go_ret;exact⟨_,rfl,HK,a0.grown a4 a0.size (fun g e=>(aw.blk a3 e).1)⟩
theorem Gt(x W):y6 55 x 35 154 (.iface 55 x) true W:=run_typeAssert_hasB underlying154 (by kernel_rfl) x _ W
theorem CE {b:Bool}(hb:ge W w)(ho:aw w W.heap.size u xs)(hx:xs.length+ (wX b).length<=140737488355328):Calls prog 38 #[u,.iface 55 (.bool b)] w fun e w'=>lM W (xs++ (wX b)) e w':=by
 have k1:=sF;have k2:=Gt;have H:=Qa (show Calls prog 312 #[.bool b] w fun e w'=>e =.returned (.string (mG (wX b)))/\ge w w' from re b);have Hb:=Qa hb;have Ho:=Qa ho;have Hx:=Qa hx;obtain⟨A,q,rfl,-⟩:=ai ho;clear hb ho hx;generalize (wX b)=qs at *;have a2:(mG qs).data.toList=qs:=rfl;have Hq:=Qa a2;have Hz:=Qa (show xs.length+ (mG qs).size<=140737488355328 by have:=Hx.out;rw[qD];exact this);generalize mG qs=ts at *;clear a2;go_in;go_wp2_with fail;refine Za H ?_;rintro e w1 ⟨rfl,a1⟩;have a0:=Qa (Hb.trans (a1.mono Hb.size));have a3:=Qa (Ho.below a1 (Zb _));clear a1;go_wp2_with (at_builtin;refine cR rfl (.tmp 26) (.tmp 28) rfl W.heap.size (.slice A xs.length q) xs ts (by simp[Act.eval]) a3.out (by simp[Act.eval]) Hz.out a0.size ?_;intro v' w3 h1 h2;have HK:=Qa h1;have a4:=Qa h2;clear h1 h2);rw[Hq.out] at HK;obtain⟨A3,q3,rfl,-⟩:=ai HK.out;go_ret;exact⟨_,rfl,HK,a0.grown a4 a0.size (fun g e=>(aw.blk a3 e).1)⟩
theorem JU(x W):y6 123 x 35 154 (.iface 123 x) true W:=run_typeAssert_hasB underlying154 (by kernel_rfl) x _ W
theorem Fc (hT:dh W)(hsz:d.digits.size<=1000000000000)(h0: -1000000000<=d.exp)(h1:d.exp<=1000000000)(hb:ge W w)(ho:aw w W.heap.size u xs)(hx:xs.length+ (fL d).length<=140737488355328):Calls prog 38 #[u,.iface 123 (.agg #[.bool d.neg,d.digits,(d.exp:Int)])] w fun e w'=>lM W (xs++ (fL d)) e w':=by
 have k1:=xg;have k2:=JU;have H:=Qa (tX (w:=w) (hT.below hb) hsz h0 h1);have Hb:=Qa hb;have Ho:=Qa ho;have Hx:=Qa hx;obtain⟨A,q,rfl,-⟩:=ai ho;clear hb ho hx hT hsz h0 h1;generalize (fL d)=qs at *;have a2:(mG qs).data.toList=qs:=rfl;have Hq:=Qa a2;have Hz:=Qa (show xs.length+ (mG qs).size<=140737488355328 by have:=Hx.out;rw[qD];exact this);generalize mG qs=ts at *;clear a2;go_in;go_wp2_with fail;(with_reducible refine BM (y:= #[.bool d.neg,.string d.digits,.int .i64 d.exp]) (by kernel_rfl) (H.out.mono ?_));rintro e w1 ⟨rfl,a1⟩;have a0:=Qa (Hb.trans (a1.mono Hb.size));have a3:=Qa (Ho.below a1 (Zb _));clear a1;go_wp2_with (at_builtin;refine cR rfl (.tmp 26) (.tmp 28) rfl W.heap.size (.slice A xs.length q) xs ts (by simp[Act.eval]) a3.out (by simp[Act.eval]) Hz.out a0.size ?_;intro v' w3 h1 h2;have HK:=Qa h1;have a4:=Qa h2;clear h1 h2);rw[Hq.out] at HK;obtain⟨A3,q3,rfl,-⟩:=ai HK.out;go_ret;exact⟨_,rfl,HK,a0.grown a4 a0.size (fun g e=>(aw.blk a3 e).1)⟩
def dR (c:Int)(w:Wd)(e:Ending)(w':Wd):Prop:=e = (c:Int)/\ge w w'
theorem fF {a b:JV}(ha:VW P w v a)(hb:VW Q w v' b)(hd:a.kindOf≠b.kindOf):Calls prog 28 #[v,v'] w (dR (du a b) w):=by
 have Hv:=Qa (show du a b=sg a.kindOf b.kindOf/\sg a.kindOf b.kindOf≠0 by
  obtain⟨k,t,x,n,ns,ks⟩:=a;obtain⟨k',t',x',n',ns',ks'⟩:=b;simp only[JV.kindOf] at hd;rw[rI hd];unfold sg;simp only[JV.kindOf]
  (repeat' split) <;> constructor <;> first|rfl|omega)
 have H1:=Qa (eO ha);have H2:=Qa (fun w1 (h:ge w w1)=>eO (hb.later h));obtain⟨t1,x1,rfl⟩:=ha.iface;obtain⟨t2,x2,rfl⟩:=hb.iface;clear ha hb hd;generalize a.kindOf=ka at *;generalize b.kindOf=kb at *;have hne:(sg ka kb==0)=false:=by simpa using Hv.2
 go_in;go_wp2_with fail;refine Za H1 ?_;rintro e w1 ⟨rfl,a0⟩;have a1:=Qa a0;have H3:=Qa (H2 w1 a0);clear a0;go_wp2_with fail;refine Za H3 ?_;rintro e w2 ⟨rfl,a2⟩;have a3:=Qa (a1.trans (a2.mono a1.size));clear a2;go_wp2_with fail;refine br.mono ?_;rintro e w3 ⟨rfl,rfl⟩;go_wp2;go_ret;rw[Hv.out.1];exact⟨rfl,a3⟩
theorem Ge (w:Wd):Calls prog 53 #[.iface 54 (.agg #[])] w (y4 (1:Int) w):=eO (P:=fun _=>True) .null
theorem Gb (w:Wd):Calls prog 53 #[.iface 49 (.agg #[])] w (y4 (7:Int) w):=eO (P:=fun _=>True) .hole
theorem AO (b:Bool)(w:Wd):Calls prog 53 #[.iface 55 (.bool b)] w (y4 (2:Int) w):=eO (P:=fun _=>True) (.bool b)
theorem D6 (d:Dc)(w:Wd):Calls prog 53 #[.iface 123 (.agg #[.bool d.neg,d.digits,(d.exp:Int)])] w (y4 (3:Int) w):=eO (P:=fun _=>True) (.num d)
theorem AX (s:Nc)(w:Wd):Calls prog 53 #[.iface 37 s] w (y4 (4:Int) w):=eO (P:=fun _=>True) (.text s)
theorem AK (A:OA)(w:Wd):Calls prog 53 #[.iface 52 (.pointer A)] w (y4 (5:Int) w):=by
 go_in;go_wp2_with fail;refine ey.mono ?_;rintro e w1 ⟨rfl,hb⟩;go_wp2;go_ret;exact⟨rfl,hb⟩
theorem EZ (A:OA)(w:Wd):Calls prog 53 #[.iface 126 (.pointer A)] w (y4 (6:Int) w):=by
 go_in;go_wp2_with fail;refine gO.mono ?_;rintro e w1 ⟨rfl,hb⟩;go_wp2;go_ret;exact⟨rfl,hb⟩
theorem EK:Calls prog 28 #[.iface 54 (.agg #[]),.iface 54 (.agg #[])] w (dR 0 w):=by
 have H1:=Qa Ge;have k1:=ui;have k2:=xy;have k3:=lC;have k4:=jC;go_in;go_wp2_with fail;refine(H1 _).mono ?_;rintro e w1 ⟨rfl,a2⟩;have a1:=Qa a2;clear a2;go_wp2_with fail;refine(H1 _).mono ?_;rintro e w2 ⟨rfl,a0⟩;have a3:=Qa (a1.trans (a0.mono a1.size));clear a0;go_wp2_with fail;refine br.mono ?_;rintro e w3 ⟨rfl,rfl⟩;rw[show sg 1 1=0 from rfl];go_wp2;go_ret;exact⟨rfl,a3⟩
theorem F7:Calls prog 28 #[.iface 49 (.agg #[]),.iface 49 (.agg #[])] w (dR 0 w):=by
 have H1:=Qa Gb;have k1:=l8;have k2:=mY;have k3:=lH;have k4:=mX;go_in;go_wp2_with fail;refine(H1 _).mono ?_;rintro e w1 ⟨rfl,a2⟩;have a1:=Qa a2;clear a2;go_wp2_with fail;refine(H1 _).mono ?_;rintro e w2 ⟨rfl,a0⟩;have a3:=Qa (a1.trans (a0.mono a1.size));clear a0;go_wp2_with fail;refine br.mono ?_;rintro e w3 ⟨rfl,rfl⟩;rw[show sg 7 7=0 from rfl];go_wp2;go_ret;exact⟨rfl,a3⟩
theorem Ew (a b:Bool):Calls prog 28 #[.iface 55 (.bool a),.iface 55 (.bool b)] w fun e w'=>dR (if a=b then 0 else if a then 1 else -1) w e w':=by
 have H1:=Qa (AO a);have H2:=Qa (AO b);have k1:=Bb;have k2:=IF;go_in;go_wp2_with fail;refine(H1 _).mono ?_;rintro e w1 ⟨rfl,a2⟩;have a1:=Qa a2;clear a2;go_wp2_with fail;refine(H2 _).mono ?_;rintro e w2 ⟨rfl,a0⟩;have a3:=Qa (a1.trans (a0.mono a1.size));clear a0;go_wp2_with fail;refine br.mono ?_;rintro e w3 ⟨rfl,rfl⟩;rw[show sg 2 2=0 from rfl]
 cases a <;> cases b
 all_goals
  go_wp2;go_ret;exact⟨rfl,a3⟩
theorem Dk {a b:Nc}(ha:a.size<=9223372036854775807)(hb:b.size<=9223372036854775807)(hG:cG w aU aE):Calls prog 28 #[.iface 37 a,.iface 37 b] w fun e w'=>dR (aA (nm a) (nm b)) w e w':=by
 have H1:=Qa (AX a);have H2:=Qa (AX b);have k1:=lR;have k2:=nH;have k3:=uf;have k4:=Ib;have HL:=Qa (fun w1 (h:ge w w1)=>jY ha hb (hG.below h));clear hG ha hb;go_in;go_wp2_with fail;refine(H1 _).mono ?_;rintro e w1 ⟨rfl,a4⟩;have a3:=Qa a4;clear a4;go_wp2_with fail;refine(H2 _).mono ?_;rintro e w2 ⟨rfl,a2⟩;have a0:=Qa (a3.trans (a2.mono a3.size));clear a2;go_wp2_with fail;refine br.mono ?_;rintro e w3 ⟨rfl,rfl⟩;rw[show sg 4 4=0 from rfl];go_wp2_with fail;refine(HL w2 a0).mono ?_;rintro e w4 ⟨rfl,a1⟩;have a5:=Qa (a0.trans (a1.mono a0.size));clear a1;go_wp2;go_ret;exact⟨rfl,a5⟩
theorem Iz {a b:Dc}(ha:uG a)(hb:uG b):Calls prog 28 #[.iface 123 (.agg #[.bool a.neg,a.digits,(a.exp:Int)]),.iface 123 (.agg #[.bool b.neg,b.digits,(b.exp:Int)])] w fun e w'=>dR (aA (eT a) (eT b)) w e w':=by
 have H1:=Qa (D6 a);have H2:=Qa (D6 b);have k1:=nz;have k2:=FI;have k3:=Kq;have HN:=Qa (fun w1=>xd (w:=w1) ha hb);clear ha hb;go_in;go_wp2_with fail;refine(H1 _).mono ?_;rintro e w1 ⟨rfl,a4⟩;have a3:=Qa a4;clear a4;go_wp2_with fail;refine(H2 _).mono ?_;rintro e w2 ⟨rfl,a6⟩;have a5:=Qa (a3.trans (a6.mono a3.size));clear a6;go_wp2_with fail;refine br.mono ?_;rintro e w3 ⟨rfl,rfl⟩;rw[show sg 3 3=0 from rfl];go_wp2_with fail;have Ha:=Qa (aa w2 (.cells #[.bool a.neg,a.digits,(a.exp:Int)] 123));have h0:=Zf w2 (.cells #[.bool a.neg,a.digits,(a.exp:Int)] 123);have hs:=ac h0 (j:=0) (u:=.bool a.neg) rfl;have ht:=ac h0 (j:=1) (u:=.string a.digits) rfl;have hu:=ac h0 (j:=2) (u:=(a.exp:Int)) rfl;obtain⟨w4,a7⟩:∃w4:Wd,w4=w2.alloc (.cells #[.bool a.neg,a.digits,(a.exp:Int)] 123):=⟨_,rfl⟩;have a2:=Qa (a5.trans (Ha.mono a5.size));clear Ha;rw[<-a7] at a2 hs ht hu ⊢;generalize w2.heap.size=g at *;clear h0 a7;refine aI (fun w'=>w'.cell? (nl g)=some (.bool a.neg)/\w'.cell? (no g 1)=some (.string a.digits)/\w'.cell? (no g 2)=some (.int .i64 a.exp)) (⟨hs,ht,hu⟩) fun a0=>?_
 refine bw 0 1 2 a0 ?_;refine rH 3 fun K hK=>?_
 go_simp;refine(HN _).mono ?_;rintro e w5 ⟨rfl,a1⟩;refine hK _ _ (⟨Zg a1 a0.1,Zg a1 a0.2.1,Zg a1 a0.2.2⟩) (fun a0=>?_);clear hK K
 try simp only[Act.put,jP,jQ,jR]
 refine tH 4 a0 ?_;refine y5 ?_;have a9:=Qa ((a2.drew).trans (a1.mono (show w.heap.size<=w4.drew.heap.size from a2.size)));go_wp2;go_ret;exact⟨rfl,a9⟩
theorem Fs {B:OA}{c:Int}(HP:∀w1,ge w w1->Calls prog 56 #[.iface 52 (.pointer A),.iface 52 (.pointer B),false] w1 (y4 (c:Int) w1)):Calls prog 28 #[.iface 52 (.pointer A),.iface 52 (.pointer B)] w (dR c w):=by
 have H1:=Qa (AK A);have H2:=Qa (AK B);have k1:=lQ;have k2:=m7;have k3:=iU;have k4:=jH;have k5:=mW;have HL:=Qa HP;clear HP;go_in;go_wp2_with fail;refine(H1 _).mono ?_;rintro e w1 ⟨rfl,a3⟩;have a2:=Qa a3;clear a3;go_wp2_with fail;refine(H2 _).mono ?_;rintro e w2 ⟨rfl,a1⟩;have a5:=Qa (a2.trans (a1.mono a2.size));clear a1;go_wp2_with fail;refine br.mono ?_;rintro e w3 ⟨rfl,rfl⟩;rw[show sg 5 5=0 from rfl];go_wp2_with fail;refine aI (fun w'=>ge w w') (a5.drew) fun a0=>?_
 refine bw 0 1 2 a0 ?_;refine tH 3 a0 ?_;refine rH 4 fun K hK=>?_
 go_simp;refine(H1 _).mono ?_;rintro e w4 ⟨rfl,a6⟩;refine hK _ _ (a0.trans (a6.mono a0.size)) (fun a0=>?_);clear hK K
 try simp only[Act.put,jP,jQ,jR]
 refine tH 5 a0 ?_;refine rH 6 fun K hK=>?_
 go_simp;refine(HL _ a0).mono ?_;rintro e w5 ⟨rfl,a7⟩;refine hK _ _ (a0.trans (a7.mono a0.size)) (fun a0=>?_);clear hK K
 try simp only[Act.put,jP,jQ,jR]
 refine tH 7 a0 ?_;refine y5 ?_;have a4:=Qa a0;go_wp2;go_ret;exact⟨rfl,a4⟩
theorem GP {B:OA}{c:Int}(HP:∀w1,ge w w1->Calls prog 56 #[.iface 126 (.pointer A),.iface 126 (.pointer B),true] w1 (y4 (c:Int) w1)):Calls prog 28 #[.iface 126 (.pointer A),.iface 126 (.pointer B)] w (dR c w):=by
 have H1:=Qa (EZ A);have H2:=Qa (EZ B);have k1:=nu;have k2:=oR;have k3:=jB;have k4:=kW;have k5:=oO;have HL:=Qa HP;clear HP;go_in;go_wp2_with fail;refine(H1 _).mono ?_;rintro e w1 ⟨rfl,a3⟩;have a2:=Qa a3;clear a3;go_wp2_with fail;refine(H2 _).mono ?_;rintro e w2 ⟨rfl,a1⟩;have a5:=Qa (a2.trans (a1.mono a2.size));clear a1;go_wp2_with fail;refine br.mono ?_;rintro e w3 ⟨rfl,rfl⟩;rw[show sg 6 6=0 from rfl];go_wp2_with fail;refine aI (fun w'=>ge w w') (a5.drew) fun a0=>?_
 refine bw 0 1 2 a0 ?_;refine tH 3 a0 ?_;refine rH 4 fun K hK=>?_
 go_simp;refine(H1 _).mono ?_;rintro e w4 ⟨rfl,a6⟩;refine hK _ _ (a0.trans (a6.mono a0.size)) (fun a0=>?_);clear hK K
 try simp only[Act.put,jP,jQ,jR]
 refine tH 5 a0 ?_;refine rH 6 fun K hK=>?_
 go_simp;refine(HL _ a0).mono ?_;rintro e w5 ⟨rfl,a7⟩;refine hK _ _ (a0.trans (a7.mono a0.size)) (fun a0=>?_);clear hK K
 try simp only[Act.put,jP,jQ,jR]
 refine tH 7 a0 ?_;refine y5 ?_;have a4:=Qa a0;go_wp2;go_ret;exact⟨rfl,a4⟩
theorem cY.bd (h:cY P w A us ks):us.length<=maxLen:=by
 rcases h with ⟨-,rfl,rfl⟩|⟨g,R,c,e,hg,hr,hl⟩
 .exact Zk _
 .exact Zc hr.2.1 hr.2.2.1
theorem eQ.bd (h:eQ P w A us ns ks):us.length<=maxLen:=by
 obtain⟨g,R,c,e,hg,hr,hl⟩:=h;exact Zc hr.2.1 hr.2.2.1
theorem rB {B:OA}{t:Bool}{x:Nc}{n:Dc}(ha:cY P w A us ks)(hb:cY Q w B us' ks')(hT:dh w)(h1:ge w w1)
  (H:∀ (i:Nat) u u' k k',us[i]?=some u->ks[i]?=some k->us'[i]?=some u'->ks'[i]?=some k'->∀w1,ge w w1->Calls prog 28 #[u,u'] w1 (dR (du k k') w1)) :
  Calls prog 28 #[.iface 52 (.pointer A),.iface 52 (.pointer B)] w1 fun e w'=>dR (du (.mk 5 t x n [] ks) (.mk 5 t' x' n' [] ks')) w1 e w':=by
 rw[eZ (by decide) (by decide) (by decide)];refine Fs fun w2 h2=>?_
 have h3:=h1.trans (h2.mono h1.size);refine yp (ha.below h3) (hb.below h3) (hT.below h3) ha.bd hb.bd fun i u u' k k' e1 e2 e3 e4 w4 h4=>?_
 exact H i u u' k k' e1 e2 e3 e4 w4 (h3.trans (h4.mono h3.size))
theorem Fo {B:OA}{t:Bool}{x:Nc}{n:Dc}(ha:eQ P w A us ns ks)(hb:eQ Q w B us' ns' ks')(hT:cG w aU aE)(hz:∀n∈ns,n.size<=9223372036854775807)(a0:∀n∈ns',n.size<=9223372036854775807)(h1:ge w w1)
  (H:∀ (i:Nat) u u' k k',us[i]?=some u->ks[i]?=some k->us'[i]?=some u'->ks'[i]?=some k'->∀w1,ge w w1->Calls prog 28 #[u,u'] w1 (dR (du k k') w1)) :
  Calls prog 28 #[.iface 126 (.pointer A),.iface 126 (.pointer B)] w1 fun e w'=>dR (du (.mk 6 t x n ns ks) (.mk 6 t' x' n' ns' ks')) w1 e w':=by
 rw[eZ (by decide) (by decide) (by decide)];refine GP fun w2 h2=>?_
 have h3:=h1.trans (h2.mono h1.size);refine C7 (ha.below h3) (hb.below h3) (hT.below h3) hz a0 ha.bd hb.bd fun i u u' k k' e1 e2 e3 e4 w4 h4=>?_
 exact H i u u' k k' e1 e2 e3 e4 w4 (h3.trans (h4.mono h3.size))
theorem JB.kids {k:Int}{t:Bool}{x:Nc}(h:JB (.mk k t x d ns ks)):x.size<=9223372036854775807/\uG d/\(∀n∈ns,n.size<=9223372036854775807)/\∀u∈ks,JB u:=by
 cases h with
 |mk _ _ _ _ _ _ h1 h2 h3 h4=>exact⟨h1,h2,h3,h4⟩
theorem xe {a:JV}(ha:VW P w v a)(hT:dh w)(hG:cG w aU aE)(ja:JB a):∀ {Q:Nat->Prop} {v':Value} {b:JV},VW Q w v' b->JB b->∀w1,ge w w1->Calls prog 28 #[v,v'] w1 (dR (du a b) w1):=by
 induction ha with
 |null=>
  intro Q v' b hb jb w1 h1
  by_cases hk:b.kindOf=1
  .cases hb with
   |null=>exact EK
   |bool|num|text|hole|bare|list|obj=>simp[JV.kindOf] at hk
  .exact fF (P:=P) (Q:=Q) .null (hb.later h1) (fun e=>hk e.symm)
 |hole=>
  intro Q v' b hb jb w1 h1
  by_cases hk:b.kindOf=7
  .cases hb with
   |hole=>exact F7
   |bool|num|text|null|bare|list|obj=>simp[JV.kindOf] at hk
  .exact fF (P:=P) (Q:=Q) .hole (hb.later h1) (fun e=>hk e.symm)
 |bool x=>
  intro Q v' b hb jb w1 h1
  by_cases hk:b.kindOf=2
  .cases hb with
   |bool y=>rw[rp];exact Ew x y
   |hole|num|text|null|bare|list|obj=>simp[JV.kindOf] at hk
  .exact fF (P:=P) (Q:=Q) (.bool x) (hb.later h1) (fun e=>hk e.symm)
 |num d=>
  intro Q v' b hb jb w1 h1
  by_cases hk:b.kindOf=3
  .cases hb with
   |num y=>rw[xW];exact Iz ja.kids.2.1 jb.kids.2.1
   |hole|bool|text|null|bare|list|obj=>simp[JV.kindOf] at hk
  .exact fF (P:=P) (Q:=Q) (.num d) (hb.later h1) (fun e=>hk e.symm)
 |text s=>
  intro Q v' b hb jb w1 h1
  by_cases hk:b.kindOf=4
  .cases hb with
   |text y=>rw[rK];exact Dk ja.kids.1 jb.kids.1 (hG.below h1)
   |hole|bool|num|null|bare|list|obj=>simp[JV.kindOf] at hk
  .exact fF (P:=P) (Q:=Q) (.text s) (hb.later h1) (fun e=>hk e.symm)
 |bare=>
  intro Q v' b hb jb w1 h1
  by_cases hk:b.kindOf=5
  .obtain⟨k',t',x',n',ns',ks'⟩:=b;simp only[JV.kindOf] at hk;subst hk;obtain rfl:ns' = []:=by cases hb <;> rfl
   obtain⟨B,us',rfl,hL,hK⟩:=hb.asList;refine rB (P:=P) (us:= []) (.inl ⟨rfl,rfl,rfl⟩) hL hT h1 fun i u u' k k' e1=>?_
   simp at e1
  .exact fF (P:=P) (Q:=Q) .bare (hb.later h1) (fun e=>hk e.symm)
 |list g A c us ks hp hg hr hl hks ih=>
  intro Q v' b hb jb w1 h1
  by_cases hk:b.kindOf=5
  .obtain⟨k',t',x',n',ns',ks'⟩:=b;simp only[JV.kindOf] at hk;subst hk;obtain rfl:ns' = []:=by cases hb <;> rfl
   obtain⟨B,us',rfl,hL,hK⟩:=hb.asList;refine rB (P:=P) (.inr ⟨g,A,c,rfl,hg,hr,hl⟩) hL hT h1 fun i u u' k k' e1 e2 e3 e4 w2 h2=>?_
   exact ih i u k e1 e2 (ja.kids.2.2.2 k (Zl e2)) (hK i u' k' e3 e4) (jb.kids.2.2.2 k' (Zl e4)) w2 h2
  .exact fF (P:=P) (Q:=Q) ((VW.list g A c us ks hp hg hr hl hks).later h1) (hb.later h1) (fun e=>hk e.symm)
 |obj g A c us ns ks hp hg hr hl hn hks ih=>
  intro Q v' b hb jb w1 h1
  by_cases hk:b.kindOf=6
  .obtain⟨k',t',x',n',ns',ks'⟩:=b;simp only[JV.kindOf] at hk;subst hk;obtain⟨B,us',rfl,hL,hK⟩:=hb.asObj;refine Fo (P:=P) ⟨g,A,c,rfl,hg,hr,hl,hn⟩ hL hG ja.kids.2.2.1 jb.kids.2.2.1 h1 fun i u u' k k' e1 e2 e3 e4 w2 h2=>?_
   exact ih i u k e1 e2 (ja.kids.2.2.2 k (Zl e2)) (hK i u' k' e3 e4) (jb.kids.2.2.2 k' (Zl e4)) w2 h2
  .exact fF (P:=P) (Q:=Q) ((VW.obj g A c us ns ks hp hg hr hl hn hks).later h1) (hb.later h1) (fun e=>hk e.symm)
theorem ud(x W):y6 52 x 35 154 (.nilIface) false W:=run_typeAssert_lacksB underlying154 (by kernel_rfl) (by kernel_rfl) x _ W
theorem lS(x W):y6 52 x 35 52 x true W:=by show _=_;kernel_rfl
def eI (o:Bool)(full:Na)(tail:UInt8)(ns:List Nc)(ks:List JV)(i:Nat)(ys:Na):Prop:=ys++ (JV.txts o (decide (i=0)) (ns.drop i) (ks.drop i) ++ [tail])=full
theorem eI.next {tail:UInt8}{k:JV}(h:eI false full tail [] ks i ys)(hk:ks[i]?=some k):eI false full tail [] ks (i+1) (ys++ ((if i=0 then [] else [44])++JV.txt k)):=by
 unfold eI at h ⊢;obtain⟨h1,h2⟩:=List.getElem?_eq_some_iff.1 hk;rw[List.drop_eq_getElem_cons h1,h2] at h;rw[<-h]
 conv=>rhs;unfold JV.txts
 by_cases e:i=0 <;> simp[e]
theorem eI.stop {o:Bool}{tail:UInt8}(h:eI o full tail ns ks ks.length ys):ys ++ [tail]=full:=by
 unfold eI at h;rw[List.drop_length] at h;unfold JV.txts at h;exact h
theorem eI.le {o:Bool}{tail:UInt8}(h:eI o full tail ns ks i ys):ys.length+1<=full.length:=by
 unfold eI at h;rw[<-h];simp
def Bp (W:Wd)(o:Bool)(full:Na)(tail:UInt8)(ns:List Nc)(ks:List JV)(s0 s38:Value)(wr:Wd):Prop:= ∃ (i:Nat) (ys:Na),s38 =(i:Int)/\i<=ks.length/\aw wr W.heap.size s0 ys/\ge W wr/\eI o full tail ns ks i ys
theorem aw.lit (c:UInt8)(h:aw w W.heap.size u xs)(hb:ge W w):aw (w.alloc (.cells #[.int .u8 c.toNat] 5)) W.heap.size u xs/\Bs (w.alloc (.cells #[.int .u8 c.toNat] 5)) (.slice (some (nl w.heap.size)) 1 1) [c]/\ge W (w.alloc (.cells #[.int .u8 c.toNat] 5)):=
 ⟨h.below (aa w _) (Zb _),mA w [c] (by simp),hb.trans ((aa w _).mono hb.size)⟩
theorem rv (h:cY P W A us ks)(hT:dh W)(hb:ge W w)(ho:aw w W.heap.size u xs)(hx:xs.length+ (91:: (JV.txts false true [] ks ++ [93])).length<=140737488355328)
  (H:∀ (i:Nat) v k,us[i]?=some v->ks[i]?=some k->∀w1 u1 xs1,ge W w1->aw w1 W.heap.size u1 xs1->xs1.length+ (JV.txt k).length<=140737488355328->Calls prog 38 #[u1,v] w1 (lM W (xs1++JV.txt k))) :
  Calls prog 38 #[u,.iface 52 (.pointer A)] w fun e w'=>lM W (xs++ (91:: (JV.txts false true [] ks ++ [93]))) e w':=by
 have k1:=iU;have k2:=ud;have k3:=lS;have hl:=h.len;have d5:=h.bd;unfold maxLen at d5;obtain⟨q1,q2,q3⟩:=ho.lit 91 hb;have c0:=Qa q1;have c8:=Qa q2;have b3:=Qa q3;have HH:=Qa H;have Hh:=Qa h;have HT:=Qa hT;obtain⟨A0,q0,rfl,-⟩:=ai ho;have Hx:=Qa hx;have c4:=Qa (show xs.length+ ([91]:Na).length<=140737488355328 by simp at hx ⊢;omega);obtain⟨full,a0⟩:=y7 (xs++ (91:: (JV.txts false true [] ks ++ [93])));have Hf:Hid (eI false full 93 [] ks 0 (xs ++ [91])):=Qa (by unfold eI;rw[<-a0];simp);have c7:=Qa (show full.length<=140737488355328 by rw[<-a0,List.length_append];exact hx);rw[a0];have a9:=Qa hl;have d4:=Qa (fun w1 (hw:ge W w1)=>dX (h.below hw));clear q1 q2 q3 ho hb h hT H hx a0 hl;generalize hn:us.length=n at *;have Hn:=Qa hn;clear hn;go_in;go_wp2_with (at_builtin;refine su c0.out c8.out c4.out b3.size ?_;intro v' w3 h1 h2 h3;have HK:=Qa h1;have a3:=Qa h2;clear h1 h2 h3);generalize hz:xs ++ [91]=zs at *;clear hz;have Hb3:=Qa (b3.grown a3.out b3.size (fun g e=>(aw.blk c0 e).1));have Ho3:=Qa HK.out;obtain⟨A3,q3,rfl,-⟩:=ai HK.out;have d1:=Qa (d4 w3 Hb3.out);clear HK a3 c0 c8 b3 Hx c4;go_wp2_with fail;refine Za d1 ?_;rintro e w4 ⟨rfl,rfl⟩;go_wp2_with fail;clear d1
 go_loopw [0,38] (fun s0 s38 wr=>Bp W false full 93 [] ks s0 s38 wr) (fun _ s38 _=>n - (intOf s38).toNat)
 case atStart=>exact⟨0,_,rfl,Zk _,Ho3,Hb3,Hf⟩
 case round=>
  clear Hf Ho3 Hb3;obtain⟨i,ys,rfl,hi,ho,hb,hf⟩:=hrel;have Ho:=Qa ho;have Hb:=Qa hb;have Hf:=Qa hf;have Hi:=Qa hi;obtain⟨A4,q4,rfl,-⟩:=ai ho;have c9:ys.length+1<=140737488355328:=by have:=hf.le;have:=c7.out;omega
  have c5:=Qa c9;clear ho hb hf hi c9
  by_cases hin:i<n
  .have d2:i<us.length:=by have:=Hn.out;omega
   have c2:i<ks.length:=by have:=a9.out;omega
   obtain⟨v,hv⟩:∃u,us[i]?=some u:=⟨_,Zd d2⟩;obtain⟨k,hk⟩:∃u,ks[i]?=some u:=⟨_,Zd c2⟩;have b5:=Hf.next hk;have b2:=Qa b5;have hle:=b5.le;have Hp:=Qa (fun w5 (hw:ge W w5)=>e9 (Hh.below hw) (HT.below hw) i hv);have Hc:=Qa (HH i v k hv hk);have hkl:(ys++if i=0 then [] else [44]).length+ (JV.txt k).length<=140737488355328:=by
    have h1:=c7.out;rw[List.length_append,List.length_append] at hle;rw[List.length_append];omega
   have b1:=Qa hkl;have d0:=Qa c2;have h':(i:Int)<n:=by omega
   have w1:=y9 ((i:Int)+1);clear b5 hle hkl d2 c2 hv hk Hf
   by_cases hi0:i=0
   .subst hi0;rw[if_pos rfl,List.append_nil] at b1;rw[if_pos rfl,List.nil_append] at b2;go_wp2_with fail;have b6:=Qa (show Calls prog 77 #[.pointer A,(0:Int)] wr (fun e w'=>e =.returned (.tuple #[.string ⟨(Lib.itoa (0:Nat)).toArray⟩,v])/\ge wr w') from Hp wr Hb.out);refine Za b6 ?_;rintro e w6 ⟨rfl,a4⟩;have b8:=Qa (Hb.trans (a4.mono Hb.size));have b9:=Qa (Hc w6 _ _ b8.out (Ho.below a4 (Zb _)) b1.out);clear a4;go_wp2_with fail;refine Za b9 ?_;rintro e w7 ⟨v7,rfl,a2,a6⟩;have c3:=Qa a2;have b7:=Qa a6;generalize hr:ys++JV.txt k=rs at *;clear hr;obtain⟨A7,q7,rfl,-⟩:=ai a2;clear a2 a6;go_wp2_with fail;refine⟨⟨1,_,rfl,d0,c3,b7,b2⟩,?_⟩
    show n - ((0:Int)+1).toNat<n - ((0:Int)).toNat
    omega
   .have hpos:(0:Int)<i:=by omega
    rw[if_neg hi0] at b1 b2;clear hi0;obtain⟨r1,r2,r3⟩:=Ho.lit 44 Hb.out;have b0:=Qa r1;have b4:=Qa r2;have a1:=Qa r3;have a5:=Qa (show ys.length+ ([44]:Na).length<=140737488355328 from c5.out);clear r1 r2 r3;go_wp2_with (at_builtin;refine su b0.out b4.out a5.out a1.size ?_;intro v' w5 h1 h2 h3;have HK:=Qa h1;have a3:=Qa h2;clear h1 h2 h3);generalize hz:ys ++ [44]=zs at *;have Hz:=Qa hz;clear hz;have a7:=Qa (a1.grown a3.out a1.size (fun g e=>(aw.blk b0 e).1));have d3:=Qa HK.out;obtain⟨A5,q5,rfl,-⟩:=ai HK.out;have b6:=Qa (Hp w5 a7.out);clear HK a3;go_wp2_with fail;refine Za b6 ?_;rintro e w6 ⟨rfl,a4⟩;have b8:=Qa (a7.trans (a4.mono a7.size));have b9:=Qa (Hc w6 _ _ b8.out (d3.below a4 (Zb _)) b1.out);clear a4;go_wp2_with fail;refine Za b9 ?_;rintro e w7 ⟨v7,rfl,a2,a6⟩;have c3:=Qa a2;have b7:=Qa a6;generalize hr:zs++JV.txt k=rs at *;have Hr:=Qa hr;clear hr;obtain⟨A7,q7,rfl,-⟩:=ai a2;clear a2 a6;go_wp2_with fail;refine⟨⟨i+1,_,rfl,d0,c3,b7,by rw[<-Hr.out,<-Hz.out,List.append_assoc];exact b2.out⟩,?_⟩
    show n - ((i:Int)+1).toNat<n - ((i:Int)).toNat
    omega
  .have h':¬ (i:Int)<n:=by omega
   have c6:i=ks.length:=by have:=Hi.out;have:=a9.out;omega
   have c1:=Qa (show ys ++ [93]=full by have:=Hf.out;rw[c6] at this;exact this.stop);clear c6 Hf;obtain⟨r1,r2,r3⟩:=Ho.lit 93 Hb.out;have b0:=Qa r1;have b4:=Qa r2;have a1:=Qa r3;have a5:=Qa (show ys.length+ ([93]:Na).length<=140737488355328 from c5.out);clear r1 r2 r3;go_wp2_with (at_builtin;refine su b0.out b4.out a5.out a1.size ?_;intro v' w5 h1 h2 h3;have HK:=Qa h1;have a3:=Qa h2;clear h1 h2 h3);have a7:=Qa (a1.grown a3.out a1.size (fun g e=>(aw.blk b0 e).1));rw[c1.out] at HK;obtain⟨A5,q5,rfl,-⟩:=ai HK.out;go_ret;exact⟨_,rfl,HK,a7⟩
theorem uO(x W):y6 126 x 35 154 (.nilIface) false W:=run_typeAssert_lacksB underlying154 (by kernel_rfl) (by kernel_rfl) x _ W
theorem nE(x W):y6 126 x 35 52 (.pointer none) false W:=by show _=_;kernel_rfl
theorem pw(x W):y6 126 x 35 126 x true W:=by show _=_;kernel_rfl
theorem eI.nextO {tail:UInt8}{k:JV}{s:Nc}(h:eI true full tail ns ks i ys)(hk:ks[i]?=some k)(hs:ns[i]?=some s):eI true full tail ns ks (i+1) (ys++ ((if i=0 then [] else [44])++ (eK s++ ([58]++JV.txt k)))):=by
 unfold eI at h ⊢;obtain⟨h1,h2⟩:=List.getElem?_eq_some_iff.1 hk;obtain⟨h3,h4⟩:=List.getElem?_eq_some_iff.1 hs;rw[List.drop_eq_getElem_cons h1,h2,List.drop_eq_getElem_cons h3,h4] at h;rw[<-h]
 conv=>rhs;unfold JV.txts
 by_cases e:i=0 <;> simp[e]
theorem Et (h:eQ P W A us ns ks)(hT:cG W aU aE)(hU:∀s∈ns,dS s/\s.size<=1000000000)(hb:ge W w)(ho:aw w W.heap.size u xs)(hx:xs.length+ (123:: (JV.txts true true ns ks ++ [125])).length<=140737488355328)
  (H:∀ (i:Nat) v k,us[i]?=some v->ks[i]?=some k->∀w1 u1 xs1,ge W w1->aw w1 W.heap.size u1 xs1->xs1.length+ (JV.txt k).length<=140737488355328->Calls prog 38 #[u1,v] w1 (lM W (xs1++JV.txt k))) :
  Calls prog 38 #[u,.iface 126 (.pointer A)] w fun e w'=>lM W (xs++ (123:: (JV.txts true true ns ks ++ [125]))) e w':=by
 have k1:=jB;have k2:=uO;have k3:=nE;have k4:=pw;have hl:=h.len;have g2:=h.bd;unfold maxLen at g2;obtain⟨q1,q2,q3⟩:=ho.lit 123 hb;have d0:=Qa q1;have f7:=Qa q2;have c4:=Qa q3;have HH:=Qa H;have Hh:=Qa h;have HT:=Qa hT;have HU:=Qa hU;have g0:=Qa h.names;obtain⟨A0,q0,rfl,-⟩:=ai ho;have Hx:=Qa hx;have e5:=Qa (show xs.length+ ([123]:Na).length<=140737488355328 by simp at hx ⊢;omega);obtain⟨full,a1⟩:=y7 (xs++ (123:: (JV.txts true true ns ks ++ [125])));have Hf:Hid (eI true full 125 ns ks 0 (xs ++ [123])):=Qa (by unfold eI;rw[<-a1];simp);have e7:=Qa (show full.length<=140737488355328 by rw[<-a1,List.length_append];exact hx);rw[a1];have c0:=Qa hl;have g1:=Qa (fun w1 (hw:ge W w1)=>eP (h.below hw));clear q1 q2 q3 ho hb h hT hU H hx a1 hl;generalize hn:us.length=n at *;have Hn:=Qa hn;clear hn;go_in;go_wp2_with (at_builtin;refine su d0.out f7.out e5.out c4.size ?_;intro v' w3 h1 h2 h3;have HK:=Qa h1;have b2:=Qa h2;clear h1 h2 h3);generalize hz:xs ++ [123]=zs at *;clear hz;have Hb3:=Qa (c4.grown b2.out c4.size (fun g e=>(aw.blk d0 e).1));have Ho3:=Qa HK.out;obtain⟨A3,q3,rfl,-⟩:=ai HK.out;have f2:=Qa (g1 w3 Hb3.out);clear HK b2 d0 f7 c4 Hx e5;go_wp2_with fail;refine Za f2 ?_;rintro e w4 ⟨rfl,rfl⟩;go_wp2_with fail;clear f2
 go_loopw [0,67] (fun s0 s38 wr=>Bp W true full 125 ns ks s0 s38 wr) (fun _ s38 _=>n - (intOf s38).toNat)
 case atStart=>exact⟨0,_,rfl,Zk _,Ho3,Hb3,Hf⟩
 case round=>
  clear Hf Ho3 Hb3;obtain⟨i,ys,rfl,hi,ho,hb,hf⟩:=hrel;have Ho:=Qa ho;have Hb:=Qa hb;have Hf:=Qa hf;have Hi:=Qa hi;obtain⟨A4,q4,rfl,-⟩:=ai ho;have e8:ys.length+1<=140737488355328:=by have:=hf.le;have:=e7.out;omega
  have e6:=Qa e8;clear ho hb hf hi e8
  by_cases hin:i<n
  .have f3:i<us.length:=by have:=Hn.out;omega
   have d1:i<ks.length:=by have:=c0.out;omega
   obtain⟨v,hv⟩:∃u,us[i]?=some u:=⟨_,Zd f3⟩;obtain⟨k,hk⟩:∃u,ks[i]?=some u:=⟨_,Zd d1⟩;have f8:i<ns.length:=by have:=g0.out;omega
   obtain⟨s,hs⟩:∃u,ns[i]?=some u:=⟨_,Zd f8⟩;have d4:=Hf.nextO hk hs;obtain⟨f6,f0⟩:=HU s (Zl hs);have f4:=Qa (fun w5 (hw:ge W w5)=>oS (w:=w5) f6 (HT.below hw) f0);have c3:=Qa d4;have hle:=d4.le;have Hp:=Qa (fun w5 (hw:ge W w5)=>eW (Hh.below hw) i hv hs);have Hc:=Qa (HH i v k hv hk);generalize eK s=qs at *;have hkl:(ys++if i=0 then [] else [44]).length+qs.length<=140737488355328/\(ys++if i=0 then [] else [44]).length+qs.length+1+ (JV.txt k).length<=140737488355328:=by
    have h1:=e7.out;rw[List.length_append,List.length_append,List.length_append,List.length_append] at hle;simp only[List.length_cons,List.length_nil] at hle;rw[List.length_append];omega
   have a3:=Qa hkl;have f1:=Qa d1;have h':(i:Int)<n:=by omega
   have w1:=y9 ((i:Int)+1);clear d4 hle hkl f3 d1 hv hk Hf hs f6 f0 f8
   by_cases hi0:i=0
   .subst hi0;rw[if_pos rfl,List.append_nil] at a3;rw[if_pos rfl,List.nil_append] at c3;go_wp2_with fail;have d7:=Qa (show Calls prog 79 #[.pointer A,(0:Int)] wr ((y4 (.tuple #[s,v]) wr)) from Hp wr Hb.out);refine Za d7 ?_;rintro e w6 ⟨rfl,b3⟩;have a9:=Qa (Hb.trans (b3.mono Hb.size));have c8:=Qa (Ho.below b3 (Zb _));have d9:=Qa (f4 w6 a9.out);clear b3;go_wp2_with fail;refine Za d9 ?_;rintro e wq ⟨vq,rfl,a7,a6⟩;have a4:=Qa (a9.trans (a6.mono a9.size));have c2:=Qa (c8.below a6 (Zb _));have d5:=Qa (aw.bs a7);obtain⟨Aq,qq,rfl,-⟩:=ai a7;clear a7 a6;go_wp2_with (first|(at_builtin;refine su c2.out d5.out a3.1 a4.size ?_;intro v' wa h1 h2 h3;have b7:=Qa h1;have d6:=Qa h2;clear h1 h2 h3;have c5:=Qa (a4.grown d6.out a4.size (fun g e=>(aw.blk c2 e).1));generalize hza:ys++qs=za at *;have b8:=Qa hza;obtain⟨Aa,qa,rfl,-⟩:=ai b7.out;obtain⟨ra1,ra2,ra3⟩:=b7.lit 58 c5.out;have a2:=Qa ra1;have a5:=Qa ra2;have a0:=Qa ra3;have e2:=Qa (show za.length+ ([58]:Na).length<=140737488355328 from by rw[<-hza,List.length_append];have:=a3.2;simp only[List.length_cons,List.length_nil];omega);clear ra1 ra2 ra3 hza)|(at_builtin;refine su a2.out a5.out e2.out a0.size ?_;intro v' wb h1 h2 h3;have b6:=Qa h1;have c9:=Qa h2;clear h1 h2 h3;have e3:=Qa (a0.grown c9.out a0.size (fun g e=>(aw.blk a2 e).1));generalize hzb:za ++ [58]=zb at *;have e4:=Qa hzb;obtain⟨Ab,qb,rfl,-⟩:=ai b6.out;have c7:=Qa (show zb.length+ (JV.txt k).length<=140737488355328 from by rw[<-hzb,<-b8.out,List.length_append,List.length_append];have:=a3.2;simp only[List.length_cons,List.length_nil];omega);have d2:=Qa (Hc wb _ _ e3.out b6.out c7.out);clear hzb));refine Za d2 ?_;rintro e w7 ⟨v7,rfl,b1,b5⟩;have e1:=Qa b1;have c6:=Qa b5;generalize hr:zb++JV.txt k=rs at *;have Hr:=Qa hr;clear hr;obtain⟨A7,q7,rfl,-⟩:=ai b1;clear b1 b5;go_wp2_with fail;refine⟨⟨1,_,rfl,f1,e1,c6,by rw[<-Hr.out,<-e4.out,<-b8.out];have:=c3.out;simp only[List.append_assoc] at this ⊢;exact this⟩,?_⟩
    show n - ((0:Int)+1).toNat<n - ((0:Int)).toNat
    omega
   .have hpos:(0:Int)<i:=by omega
    rw[if_neg hi0] at a3 c3;clear hi0;obtain⟨r1,r2,r3⟩:=Ho.lit 44 Hb.out;have c1:=Qa r1;have d3:=Qa r2;have b0:=Qa r3;have b4:=Qa (show ys.length+ ([44]:Na).length<=140737488355328 from e6.out);clear r1 r2 r3;go_wp2_with (at_builtin;refine su c1.out d3.out b4.out b0.size ?_;intro v' w5 h1 h2 h3;have HK:=Qa h1;have b2:=Qa h2;clear h1 h2 h3);generalize hz:ys ++ [44]=zs at *;have Hz:=Qa hz;clear hz;have b9:=Qa (b0.grown b2.out b0.size (fun g e=>(aw.blk c1 e).1));have f9:=Qa HK.out;obtain⟨A5,q5,rfl,-⟩:=ai HK.out;have d7:=Qa (Hp w5 b9.out);clear HK b2;go_wp2_with fail;refine Za d7 ?_;rintro e w6 ⟨rfl,b3⟩;have a9:=Qa (b9.trans (b3.mono b9.size));have c8:=Qa (f9.below b3 (Zb _));have d9:=Qa (f4 w6 a9.out);clear b3;go_wp2_with fail;refine Za d9 ?_;rintro e wq ⟨vq,rfl,a7,a6⟩;have a4:=Qa (a9.trans (a6.mono a9.size));have c2:=Qa (c8.below a6 (Zb _));have d5:=Qa (aw.bs a7);obtain⟨Aq,qq,rfl,-⟩:=ai a7;clear a7 a6;go_wp2_with (first|(at_builtin;refine su c2.out d5.out a3.1 a4.size ?_;intro v' wa h1 h2 h3;have b7:=Qa h1;have d6:=Qa h2;clear h1 h2 h3;have c5:=Qa (a4.grown d6.out a4.size (fun g e=>(aw.blk c2 e).1));generalize hza:zs++qs=za at *;have b8:=Qa hza;obtain⟨Aa,qa,rfl,-⟩:=ai b7.out;obtain⟨ra1,ra2,ra3⟩:=b7.lit 58 c5.out;have a2:=Qa ra1;have a5:=Qa ra2;have a0:=Qa ra3;have e2:=Qa (show za.length+ ([58]:Na).length<=140737488355328 from by rw[<-hza,List.length_append];have:=a3.2;simp only[List.length_cons,List.length_nil];omega);clear ra1 ra2 ra3 hza)|(at_builtin;refine su a2.out a5.out e2.out a0.size ?_;intro v' wb h1 h2 h3;have b6:=Qa h1;have c9:=Qa h2;clear h1 h2 h3;have e3:=Qa (a0.grown c9.out a0.size (fun g e=>(aw.blk a2 e).1));generalize hzb:za ++ [58]=zb at *;have e4:=Qa hzb;obtain⟨Ab,qb,rfl,-⟩:=ai b6.out;have c7:=Qa (show zb.length+ (JV.txt k).length<=140737488355328 from by rw[<-hzb,<-b8.out,List.length_append,List.length_append];have:=a3.2;simp only[List.length_cons,List.length_nil];omega);have d2:=Qa (Hc wb _ _ e3.out b6.out c7.out);clear hzb));refine Za d2 ?_;rintro e w7 ⟨v7,rfl,b1,b5⟩;have e1:=Qa b1;have c6:=Qa b5;generalize hr:zb++JV.txt k=rs at *;have Hr:=Qa hr;clear hr;obtain⟨A7,q7,rfl,-⟩:=ai b1;clear b1 b5;go_wp2_with fail;refine⟨⟨i+1,_,rfl,f1,e1,c6,by rw[<-Hr.out,<-e4.out,<-b8.out,<-Hz.out];have:=c3.out;simp only[List.append_assoc] at this ⊢;exact this⟩,?_⟩
    show n - ((i:Int)+1).toNat<n - ((i:Int)).toNat
    omega
  .have h':¬ (i:Int)<n:=by omega
   have f5:i=ks.length:=by have:=Hi.out;have:=c0.out;omega
   have e0:=Qa (show ys ++ [125]=full by have:=Hf.out;rw[f5] at this;exact this.stop);clear f5 Hf;obtain⟨r1,r2,r3⟩:=Ho.lit 125 Hb.out;have c1:=Qa r1;have d3:=Qa r2;have b0:=Qa r3;have b4:=Qa (show ys.length+ ([125]:Na).length<=140737488355328 from e6.out);clear r1 r2 r3;go_wp2_with (at_builtin;refine su c1.out d3.out b4.out b0.size ?_;intro v' w5 h1 h2 h3;have HK:=Qa h1;have b2:=Qa h2;clear h1 h2 h3);have b9:=Qa (b0.grown b2.out b0.size (fun g e=>(aw.blk c1 e).1));rw[e0.out] at HK;obtain⟨A5,q5,rfl,-⟩:=ai HK.out;go_ret;exact⟨_,rfl,HK,b9⟩
inductive Sz:JV->Prop
 |mk (k:Int) (t:Bool) (x:Nc) (d:Dc) (ns:List Nc) (ks:List JV):x.size<=1000000000->d.digits.size<=1000000000->(∀n∈ns,n.size<=1000000000)->(∀u∈ks,Sz u)->Sz (.mk k t x d ns ks)
theorem Sz.kids {k:Int}{t:Bool}{x:Nc}(h:Sz (.mk k t x d ns ks)):x.size<=1000000000/\d.digits.size<=1000000000/\(∀n∈ns,n.size<=1000000000)/\∀u∈ks,Sz u:=by
 cases h with
 |mk _ _ _ _ _ _ h1 h2 h3 h4=>exact⟨h1,h2,h3,h4⟩
theorem kA.exp (h:kA d): -1000000000<=d.exp/\d.exp<=1000000000:=by
 rcases h with rfl|⟨-,h⟩
 .exact⟨by decide,by decide⟩
 .exact h
theorem Tx.jb (h:Tx j)(hs:Sz j):JB j:=by
 induction h with
 |null=>exact .mk _ _ _ _ _ _ (by decide) ⟨by decide,by decide,by decide⟩ (fun n h=>by cases h) (fun u h=>by cases h)
 |bool b=>exact .mk _ _ _ _ _ _ (by decide) ⟨by decide,by decide,by decide⟩ (fun n h=>by cases h) (fun u h=>by cases h)
 |num d hd=>
  have h1:=hs.kids;have h2:=hd.exp;exact .mk _ _ _ _ _ _ (by decide) ⟨by have:=h1.2.1;omega,by omega,by omega⟩ (fun n h=>by cases h) (fun u h=>by cases h)
 |text s _=>
  have h1:=hs.kids;exact .mk _ _ _ _ _ _ (by have:=h1.1;omega) ⟨by decide,by decide,by decide⟩ (fun n h=>by cases h) (fun u h=>by cases h)
 |list ks _ ih=>
  have h1:=hs.kids;exact .mk _ _ _ _ _ _ (by decide) ⟨by decide,by decide,by decide⟩ (fun n h=>by cases h) (fun u h=>ih u h (h1.2.2.2 u h))
 |obj ns ks _ _ _ _ ih=>
  have h1:=hs.kids;exact .mk _ _ _ _ _ _ (by decide) ⟨by decide,by decide,by decide⟩ (fun n h=>by have:=h1.2.2.1 n h;omega) (fun u h=>ih u h (h1.2.2.2 u h))
theorem FE (h:VW P W v j)(hT:dh W)(hG:cG W aU aE):Tx j->Sz j->∀w u xs,ge W w->aw w W.heap.size u xs->xs.length+ (JV.txt j).length<=140737488355328->Calls prog 38 #[u,v] w (lM W (xs++JV.txt j)):=by
 induction h with
 |null=>
  intro tx sz w u xs hb ho hx;rw[show JV.txt (.mk 1 false es ⟨false,es,0⟩ [] [])=wh from rfl] at hx ⊢;exact BX hb ho hx
 |bool b=>
  intro tx sz w u xs hb ho hx;rw[show JV.txt (.mk 2 b es ⟨false,es,0⟩ [] [])=wX b from rfl] at hx ⊢;exact CE hb ho hx
 |num d=>
  intro tx sz w u xs hb ho hx;rw[show JV.txt (.mk 3 false es d [] [])=fL d from rfl] at hx ⊢;have hd:kA d:=by cases tx;assumption
  exact Fc hT (by have:=sz.kids.2.1;omega) hd.exp.1 hd.exp.2 hb ho hx
 |text s=>
  intro tx sz w u xs hb ho hx;rw[show JV.txt (.mk 4 false s ⟨false,es,0⟩ [] [])=eK s from rfl] at hx ⊢;have hd:dS s:=by cases tx;assumption
  exact Ca hd hG sz.kids.1 hb ho hx
 |hole=>intro tx;cases tx
 |bare=>
  intro tx sz w u xs hb ho hx;rw[show JV.txt (.mk 5 false es ⟨false,es,0⟩ [] [])=91:: (JV.txts false true [] [] ++ [93]) by simp[JV.txt]] at hx ⊢;refine rv (P:=P) (us:= []) (.inl ⟨rfl,rfl,rfl⟩) hT hb ho hx fun i v k e1=>?_
  simp at e1
 |list g A c us ks hp hg hr hl hks ih=>
  intro tx sz w u xs hb ho hx;have hk:∀u∈ks,Tx u:=by cases tx;assumption
  rw[show JV.txt (.mk 5 false es ⟨false,es,0⟩ [] ks)=91:: (JV.txts false true [] ks ++ [93]) by simp[JV.txt]] at hx ⊢;refine rv (P:=P) (.inr ⟨g,A,c,rfl,hg,hr,hl⟩) hT hb ho hx fun i v k e1 e2 w1 u1 xs1 a2 a1 a0=>?_
  exact ih i v k e1 e2 (hk k (Zl e2)) (sz.kids.2.2.2 k (Zl e2)) w1 u1 xs1 a2 a1 a0
 |obj g A c us ns ks hp hg hr hl hn hks ih=>
  intro tx sz w u xs hb ho hx;have hk:(∀s∈ns,dS s)/\∀u∈ks,Tx u:=by cases tx;exact⟨by assumption,by assumption⟩
  rw[show JV.txt (.mk 6 false es ⟨false,es,0⟩ ns ks)=123:: (JV.txts true true ns ks ++ [125]) by simp[JV.txt]] at hx ⊢;refine Et (P:=P) ⟨g,A,c,rfl,hg,hr,hl,hn⟩ hG (fun s hs=>⟨hk.1 s hs,sz.kids.2.2.1 s hs⟩) hb ho hx fun i v k e1 e2 w1 u1 xs1 a2 a1 a0=>?_
  exact ih i v k e1 e2 (hk.2 k (Zl e2)) (sz.kids.2.2.2 k (Zl e2)) w1 u1 xs1 a2 a1 a0
def OV (P:Nat->Prop)(w:Wd)(v:Value):Option JV->Prop
 |none=>v =.nilIface
 |some j=>VW P w v j
theorem OV.later {j:Option JV}(h:OV P w v j)(hb:ge w w'):OV P w' v j:=by
 cases j with
 |none=>exact h
 |some j=>exact VW.later h hb
theorem VW.kind_pos (h:VW P w v j):0<j.kindOf:=by cases h <;> simp[JV.kindOf]
theorem tq {a:JV}(ha:VW P w v a):Calls prog 28 #[v,.nilIface] w (dR 1 w):=by
 have hp:=ha.kind_pos;have H1:=Qa (eO ha);obtain⟨t1,x1,rfl⟩:=ha.iface;clear ha;generalize a.kindOf=ka at *;have Hs:Hid (sg ka 0=1):=Qa (by unfold sg;rw[if_neg (by omega),if_pos hp]);clear hp;go_in;go_wp2_with fail;refine Za H1 ?_;rintro e w1 ⟨rfl,a2⟩;have a1:=Qa a2;clear a2;go_wp2_with fail;refine ii.mono ?_;rintro e w2 ⟨rfl,a0⟩;have a3:=Qa (a1.trans (a0.mono a1.size));clear a0;go_wp2_with fail;refine br.mono ?_;rintro e w3 ⟨rfl,rfl⟩;rw[Hs.out];go_wp2;go_ret;exact⟨rfl,a3⟩
theorem ur {a:JV}(ha:VW P w v a):Calls prog 28 #[.nilIface,v] w (dR (-1) w):=by
 have hp:=ha.kind_pos;have H1:=Qa (fun w1 (h:ge w w1)=>eO (ha.later h));obtain⟨t1,x1,rfl⟩:=ha.iface;clear ha;generalize a.kindOf=ka at *;have Hs:Hid (sg 0 ka = -1):=Qa (by unfold sg;rw[if_pos hp]);clear hp;go_in;go_wp2_with fail;refine ii.mono ?_;rintro e w1 ⟨rfl,a0⟩;have H2:=Qa (H1 w1 a0);have a2:=Qa a0;clear a0;go_wp2_with fail;refine Za H2 ?_;rintro e w2 ⟨rfl,a1⟩;have a3:=Qa (a2.trans (a1.mono a2.size));clear a1;go_wp2_with fail;refine br.mono ?_;rintro e w3 ⟨rfl,rfl⟩;rw[Hs.out];go_wp2;go_ret;exact⟨rfl,a3⟩
theorem Gp (W:Wd):(Instr.typeAssert .nilIface 35 55 true).run prog W =.ok (.tuple #[false,false]) W:=by kernel_rfl
theorem Kb (W:Wd):(Instr.typeAssert .nilIface 35 123 true).run prog W =.ok (.tuple #[.agg #[false,.string ⟨#[]⟩,(0:Int)],false]) W:=by kernel_rfl
theorem IL (W:Wd):(Instr.typeAssert .nilIface 35 37 true).run prog W =.ok (.tuple #[.string ⟨#[]⟩,false]) W:=by kernel_rfl
theorem JQ (W:Wd):(Instr.typeAssert .nilIface 35 135 true).run prog W =.ok (.tuple #[.nilIface,false]) W:=by kernel_rfl
theorem DY:Calls prog 28 #[.nilIface,.nilIface] w (dR 0 w):=by
 have n1:=Gp;have n2:=Kb;have n3:=IL;have n4:=JQ;go_in;go_wp2_with fail;refine ii.mono ?_;rintro e w1 ⟨rfl,a2⟩;have a1:=Qa a2;clear a2;go_wp2_with fail;refine ii.mono ?_;rintro e w2 ⟨rfl,a0⟩;have a3:=Qa (a1.trans (a0.mono a1.size));clear a0;go_wp2_with fail;refine br.mono ?_;rintro e w3 ⟨rfl,rfl⟩;rw[show sg 0 0=0 from rfl];go_wp2;go_ret;exact⟨rfl,a3⟩
theorem lX (j:JV):∃t,j.key=j.kindOf::t:=by obtain⟨k,t,x,n,ns,ks⟩:=j;unfold JV.key;exact⟨_,rfl⟩
theorem iX {a b:Option JV}(ha:OV P w v a)(hb:OV Q w v' b)(hT:dh w)(hG:cG w aU aE)(ja:∀j,a=some j->JB j)(jb:∀j,b=some j->JB j):Calls prog 28 #[v,v'] w (dR (bF a b) w):=by
 cases a with
 |none=>
  obtain rfl:v =.nilIface:=ha
  cases b with
  |none=>obtain rfl:v' =.nilIface:=hb;exact DY
  |some b=>
   have hb:VW Q w v' b:=hb;have e:bF none (some b) = -1:=by
    obtain⟨t,ht⟩:=lX b
    show aA [0] b.key = -1
    rw[ht,bi,if_pos hb.kind_pos]
   rw[e];exact ur hb
 |some a=>
  have ha:VW P w v a:=ha
  cases b with
  |none=>
   obtain rfl:v' =.nilIface:=hb;have e:bF (some a) none=1:=by
    obtain⟨t,ht⟩:=lX a;have:=ha.kind_pos
    show aA a.key [0]=1
    rw[ht,bi,if_neg (by omega),if_pos this]
   rw[e];exact tq ha
  |some b=>exact xe ha hT hG (ja a rfl) hb (jb b rfl) w (Ze _ _)
theorem jV {a b:Option JV}(ha:OV P w v a)(hb:OV Q w v' b)(hT:dh w)(hG:cG w aU aE)(ja:∀j,a=some j->JB j)(jb:∀j,b=some j->JB j):Calls prog 14 #[v,v'] w (dR (bF a b) w):=by
 have H:=Qa (iX ha hb hT hG ja jb);clear ha hb hT hG ja jb;generalize bF a b=c at *;go_in;go_wp2_with fail;refine Za H ?_;rintro e w2 ⟨rfl,a0⟩;go_wp2;go_ret;exact⟨rfl,a0⟩
attribute [local go_sem] Oper.semAt_some
theorem DD (i:Nat)(h:i<n):(List.finRange n).take (i+1)= (List.finRange n).take i ++ [⟨i,h⟩]:=by
 rw[List.take_succ_eq_append_getElem (by rw[List.length_finRange];exact h),List.getElem_finRange];rfl
theorem Dm (n:Nat)(hn:1<=n)(l sb:Nat)(A:OA)(E:List (Nc×Value))(hE:E.length<=maxLen)(Kp:Wd->Wd->Prop)(a6:∀X Y,ge X Y->Kp X Y)(cW:Wd->Prop)(a9:∀X Y,cW X->Kp X Y->cW Y)
  (a3:∀X,cW X->X.cell? (nl sb)=some (.iface 52 (.pointer A)))
  (HL:∀X,cW X->Calls prog 76 #[.pointer A] X fun e w'=>e = (E.length:Int)/\X=w')
  (HP:∀X (i:Fin E.length),cW X->Calls prog 77 #[.pointer A,(i.val:Int)] X (y4 (.tuple #[.string (E.get i).1,(E.get i).2]) X))
  (J Jx:List (Fin E.length)->Wd->Prop) (W:Wd) (hG:cW W) (hJ:AbidesFrom W.heap.size J) (b7:AbidesFrom W.heap.size Jx)
  (hY:∀pre (x:Fin E.length) W1,J pre W1->pre.length<E.length->YieldAt Fence.wide (n - 1) prog l #[.string (E.get x).1,(E.get x).2] W1 fun e W'=>
   (e =.returned true/\J (pre ++ [x]) W'/\Kp W1 W')\/(e =.returned false/\Jx (pre ++ [x]) W'))
  (h0:J [] W) :
  CallsIn Fence.wide n prog 104 #[.func (.yield l) #[] #[],.pointer (some (nl sb))] W fun e W'=>(∃v,e =.returned v)/\
   ((∃ys:List (Fin E.length),ys=List.finRange E.length/\J ys W')\/(∃pre:List (Fin E.length),True/\Jx pre W')):=by
 refine callsIn_of_wp func104 rfl trivial ?_ rfl;simp only[ntmps104,List.size_toArray,List.length_cons,List.length_nil,Nat.reduceAdd,Nat.reduceSub,Array.replicate_succ,Array.replicate_zero,List.push_toArray,List.append_toArray,List.nil_append,List.cons_append];have Hk:=Qa a9;have b2:=Qa a6;have b5:=Qa a3;have b8:=Qa HL;have b3:=Qa HP;have HJ:=Qa hJ;have HY:=Qa hY;have Hg:=Qa hG;have H0:=Qa h0;have c0:=a3 W hG;unfold maxLen at hE;clear a9 a6 a3 HL HP hJ hY hG h0 b7
 gi_wp2_with fail
 refine⟨fun _ _=>trivial,?_⟩;go_invoke
 gi_wp2_with fail
 refine(callsIn_wide.2 (b8 W Hg)).mono ?_;rintro e w' ⟨rfl,rfl⟩
 gi_wp2_with fail
 gi_loopw [8] (fun s8 wr=> ∃ (i:Nat) (pre:List (Fin E.length)),s8 =(i:Int)/\i<=E.length/\Hid (pre= (List.finRange E.length).take i)/\J pre wr/\cW wr) (fun s8 _=>E.length - (intOf s8).toNat)
 case atStart=>exact⟨0, [],rfl,Zk _,Qa (List.take_zero).symm,H0.out,Hg.out⟩
 case round=>
  obtain⟨i,pre,rfl,hi,a2,hj,hg⟩:=hrel;have b0:pre.length=i:=by rw[a2.out,List.length_take,List.length_finRange];omega
  have Hj:=Qa hj;have a7:=Qa hg;have b6:=Qa b0;have c1:=b5 wr hg;clear b0 hj hg
  by_cases hin:i<E.length
  .have hp:=b3 wr ⟨i,hin⟩ a7.out;have hy:=HY pre ⟨i,hin⟩
   dsimp only at hp
   generalize E.get ⟨i,hin⟩=x at hp hy;obtain⟨s,u⟩:=x
   dsimp only at hp hy
   have Hp:=Qa hp;have Hy:=Qa hy;have a1:=Qa hin;clear hp hy;have h':(i:Int)<E.length:=by omega
   have w1:=y9 ((i:Int)+1)
   gi_wp2_with fail
   refine⟨fun _ _=>trivial,?_⟩;go_invoke
   gi_wp2_with fail
   refine(callsIn_wide.2 Hp).mono ?_;rintro e w3 ⟨rfl,a0⟩;have a4:J pre w3:=HJ _ _ _ none Hj.out ⟨a0.os,a0.tape,a0.output,a0.size,fun k hk _=>a0.block k hk⟩ (fun r e=>by cases e);have b4:=Qa (Hk _ _ a7.out (b2 _ _ a0));obtain⟨fn,tmps,assign,body,hy,b1⟩:=Hy w3 a4 (by rw[b6.out];exact a1.out);clear a0
   gi_wp2_with fail
   refine b1.mono ?_;rintro e W3 (⟨rfl,a4,b9⟩|⟨rfl,a5⟩)
   .gi_wp2
    refine⟨⟨i+1,_,rfl,a1,Qa (by rw[a2.out];exact(DD i a1).symm),a4,Hk _ _ b4.out b9⟩,?_⟩
    show E.length - ((i:Int)+1).toNat<E.length - ((i:Int)).toNat
    have:=a1.out;omega
   .gi_wp2
    refine Zh (results_none rfl ..) rfl ?_;exact⟨⟨_,rfl⟩,.inr ⟨_,trivial,a5⟩⟩
  .have h':¬ (i:Int)<E.length:=by omega
   gi_wp2_with fail
   go_end0;exact⟨⟨_,rfl⟩,.inl (by have:=Hj.out;rwa[a2.out,List.take_of_length_le (by rw[List.length_finRange];omega)] at this)⟩
theorem Ff (n:Nat)(hn:1<=n)(l sb:Nat)(A:OA)(E:List (Nc×Value))(hE:E.length<=maxLen)(B B2:Nat)(cW:Wd->Prop)(a5:∀X Y,cW X->io B B2 X Y->cW Y)
  (a1:∀X,cW X->X.cell? (nl sb)=some (.iface 126 (.pointer A)))
  (HL:∀X,cW X->Calls prog 78 #[.pointer A] X fun e w'=>e = (E.length:Int)/\X=w')
  (HP:∀X (i:Fin E.length),cW X->Calls prog 79 #[.pointer A,(i.val:Int)] X (y4 (.tuple #[.string (E.get i).1,(E.get i).2]) X))
  (J Jx:List (Fin E.length)->Wd->Prop) (W:Wd) (hG:cW W) (hJ:AbidesFrom W.heap.size J) (b4:AbidesFrom W.heap.size Jx)
  (hY:∀pre (x:Fin E.length) W1,J pre W1->pre.length<E.length->YieldAt Fence.wide (n - 1) prog l #[.string (E.get x).1,(E.get x).2] W1 fun e W'=>
   (e =.returned true/\J (pre ++ [x]) W'/\io B B2 W1 W')\/(e =.returned false/\Jx (pre ++ [x]) W'))
  (h0:J [] W) :
  CallsIn Fence.wide n prog 104 #[.func (.yield l) #[] #[],.pointer (some (nl sb))] W fun e W'=>(∃v,e =.returned v)/\
   ((∃ys:List (Fin E.length),True/\J ys W')\/(∃pre:List (Fin E.length),True/\Jx pre W')):=by
 refine callsIn_of_wp func104 rfl trivial ?_ rfl;simp only[ntmps104,List.size_toArray,List.length_cons,List.length_nil,Nat.reduceAdd,Nat.reduceSub,Array.replicate_succ,Array.replicate_zero,List.push_toArray,List.append_toArray,List.nil_append,List.cons_append];have Hk:=Qa a5;have b2:=Qa a1;have b5:=Qa HL;have b3:=Qa HP;have HJ:=Qa hJ;have HY:=Qa hY;have Hg:=Qa hG;have H0:=Qa h0;have c0:=a1 W hG;unfold maxLen at hE;clear a5 a1 HL HP hJ hY hG h0 b4
 gi_wp2_with fail
 refine⟨fun _ _=>trivial,?_⟩;go_invoke
 gi_wp2_with fail
 refine(callsIn_wide.2 (b5 W Hg)).mono ?_;rintro e w' ⟨rfl,rfl⟩
 gi_wp2_with fail
 gi_loopw [8] (fun s8 wr=> ∃ (i:Nat) (pre:List (Fin E.length)),s8 =(i:Int)/\i<=E.length/\pre.length=i/\J pre wr/\cW wr) (fun s8 _=>E.length - (intOf s8).toNat)
 case atStart=>exact⟨0, [],rfl,Zk _,rfl,H0,Hg⟩
 case round=>
  obtain⟨i,pre,rfl,hi,a6,hj,hg⟩:=hrel;have Hj:=Qa hj;have a9:=Qa hg;have a7:=Qa a6;have c1:=b2 wr hg;clear a6 hj hg
  by_cases hin:i<E.length
  .have hp:=b3 wr ⟨i,hin⟩ a9.out;have hy:=HY pre ⟨i,hin⟩
   dsimp only at hp
   generalize E.get ⟨i,hin⟩=x at hp hy;obtain⟨s,u⟩:=x
   dsimp only at hp hy
   have Hp:=Qa hp;have Hy:=Qa hy;have a3:=Qa hin;clear hp hy;have h':(i:Int)<E.length:=by omega
   have w1:=y9 ((i:Int)+1)
   gi_wp2_with fail
   refine⟨fun _ _=>trivial,?_⟩;go_invoke
   gi_wp2_with fail
   refine(callsIn_wide.2 Hp).mono ?_;rintro e w3 ⟨rfl,a0⟩;have a2:J pre w3:=HJ _ _ _ none Hj.out ⟨a0.os,a0.tape,a0.output,a0.size,fun k hk _=>a0.block k hk⟩ (fun r e=>by cases e);have b1:=Qa (Hk _ _ a9.out (io.of_below a0));obtain⟨fn,tmps,assign,body,hy,b0⟩:=Hy w3 a2 (by rw[a7.out];exact a3.out);clear a0
   gi_wp2_with fail
   refine b0.mono ?_;rintro e W3 (⟨rfl,a2,b6⟩|⟨rfl,a4⟩)
   .gi_wp2
    refine⟨⟨i+1,_,rfl,a3,by rw[List.length_append,a7.out];rfl,a2,Hk _ _ b1.out b6⟩,?_⟩
    show E.length - ((i:Int)+1).toNat<E.length - ((i:Int)).toNat
    have:=a3.out;omega
   .gi_wp2
    refine Zh (results_none rfl ..) rfl ?_;exact⟨⟨_,rfl⟩,.inr ⟨_,trivial,a4⟩⟩
  .have h':¬ (i:Int)<E.length:=by omega
   gi_wp2_with fail
   go_end0;exact⟨⟨_,rfl⟩,.inl ⟨_,Hj⟩⟩
theorem ro {t:TypeId}:Calls prog 74 #[.iface t x] w fun e w'=>e =.returned (.func (.func 104) #[] #[.pointer (some (nl w.heap.size))])/\w.alloc (.cells #[.iface t x] 135)=w':=by
 go_in;go_wp2;go_ret;exact⟨rfl,rfl⟩
attribute [local go_sem] Oper.semAt_some
def uF (us:Nb):List (Nc×Value):=us.mapIdx fun i u=>(⟨(Lib.itoa i).toArray⟩,u)
theorem AL (us:Nb):(uF us).length=us.length:=by simp[uF]
theorem DL (us:Nb)(i:Fin (uF us).length):∃u,us[i.val]?=some u/\(uF us).get i= (⟨(Lib.itoa i.val).toArray⟩,u):=by
 have hi:i.val<us.length:=by have h1:=i.isLt;have h2:=AL us;omega
 exact⟨us[i.val],Zd hi,by
  show(uF us)[i.val]'i.isLt=_
  simp only[uF,List.getElem_mapIdx]⟩
def Lq (w X:Wd):Prop:= ∀ (g:Nat) cs t z,w.heap[g]?=some (Obj.cells cs t z)->X.heap[g]?=some (Obj.cells cs t z)
theorem cY.kp (h:cY P w A us ks)(hk:Lq w X):cY P X A us ks:=by
 rcases h with h|⟨g,R,c,e,hg,hr,hl⟩
 .exact .inl h
 .exact .inr ⟨g,R,c,e,hk _ _ _ _ hg,hr.stay fun g o hp hg _ ⟨cs,z,ho⟩=>⟨hp,by subst ho;exact hk _ _ _ _ hg⟩,hl⟩
theorem eQ.kp (h:eQ P w A us ns ks)(hk:Lq w X):eQ P X A us ns ks:=by
 obtain⟨g,R,c,e,hg,hr,hl⟩:=h;exact⟨g,R,c,e,hk _ _ _ _ hg,hr.stay fun g o hp hg _ ⟨cs,z,ho⟩=>⟨hp,by subst ho;exact hk _ _ _ _ hg⟩,hl⟩
theorem dh.kp (h:dh w)(hk:Lq w X):dh X:=by
 have hg:prog.globalNamed "internal/strconv.uint64pow10" = some 11:=by kernel_rfl
 unfold dh Lib.TabIs World.var? at h ⊢;rw[hg] at h ⊢;simp only[Option.bind_some] at h ⊢;rcases ho:w.heap[(11:Nat)]? with _|o
 .rw[ho] at h;cases h
 .rw[ho] at h
  cases o with
  |cells cs t z=>rw[hk _ _ _ _ ho];exact h
  |_=>cases h
def GJ (w:Wd)(n:Nat)(pre:List (Fin n))(W:Wd):Prop:=Bx W w.heap.size 4 false/\ge w W
theorem pC (h:cY P w A us ks)(hT:dh w)
  (H:∀ (i:Nat) v k,us[i]?=some v->ks[i]?=some k->∀w1,ge w w1->Calls prog 36 #[v] w1 (y4 false w1)) :
  CallsIn Fence.wide 9 prog 36 #[.iface 52 (.pointer A)] w (y4 false w):=by
 have k1:=jH;have Hh:=Qa h;have HT:=Qa hT;have HH:=Qa H;clear h hT H;refine callsIn_of_wp_marks func36 rfl trivial ?_ rfl;simp only[ntmps36,List.size_toArray,List.length_cons,List.length_nil,Nat.reduceAdd,Nat.reduceSub,Array.replicate_succ,Array.replicate_zero,List.push_toArray,List.append_toArray,List.nil_append,List.cons_append];have Hk:=Qa (Bx.new w 4 false);have a4:=Qa (show ge w (w.alloc (.cells #[false] 4)) from(Ze _ _).alloc (Zb _) _)
 gi_wp2_with fail
 obtain⟨W0,b3⟩:=y7 (w.alloc (.cells #[false] 4));have a7:W0.heap.size=w.heap.size+1:=by rw[<-b3];simp
 rw[b3] at Hk a4 ⊢;have a6:=Qa a7;clear b3 a7;refine⟨fun _ _=>trivial,?_⟩;go_invoke
 gi_wp2_with fail
 refine(callsIn_wide.2 ey).mono ?_;rintro e w1 ⟨rfl,c1⟩;have a1:=Qa c1;clear c1
 gi_wp2_with fail
 refine⟨trivial,?_⟩;refine(callsIn_wide.2 ro).mono ?_;rintro e w2 ⟨rfl,rfl⟩;have a5:W0.heap.size<=w1.heap.size:=a1.size;have a9:=aa w1 (.cells #[.iface 52 (.pointer A)] 135);have b5:=Zf w1 (.cells #[.iface 52 (.pointer A)] 135);obtain⟨W1,b1⟩:=y7 (w1.alloc (.cells #[.iface 52 (.pointer A)] 135));have a3:W1.heap.size=w1.heap.size+1:=by rw[<-b1];simp
 rw[b1] at a9 b5 ⊢;clear b1;have b9:GJ w (uF us).length [] W1:=⟨(Hk.later a1).later a9,a4.trans ((a1.mono a4.size).trans (a9.mono (Zc a4.size a1.size)))⟩;have c2:=Qa b9;have b2:=Qa a3;have d0:=Qa b5;have a0:=Qa a5;clear a9 b5 b9 a3 a5 Hk a4 a1
 gi_wp2
 have b8:∀X,io w.heap.size (w.heap.size+1) W1 X->Lq w X:=fun X hX g cs t z hg=>hX g cs t z (.inl (ah hg)) ((c2.2.block g (ah hg)).trans hg)
 have b6:=Qa b8;have c5:=Qa (AL us);have c8:=Qa Hh.bd;have a2:SeqStopsK Fence.wide (9 - 1) prog 104 #[.pointer (some (nl w1.heap.size))] (fun x:Fin (uF us).length=> #[.string ((uF us).get x).1,((uF us).get x).2]) (io w.heap.size (w.heap.size+1)) (fun ys=>ys=List.finRange (uF us).length) (fun _=>True) (uF us).length W1:=by
  intro l J Jx W hW hJ d1 hY h0;refine Dm (9 - 1) (by omega) l w1.heap.size A (uF us) (by rw[c5.out];exact c8.out) (io w.heap.size (w.heap.size+1)) (fun _ _ h=>io.of_below h) (io w.heap.size (w.heap.size+1) W1) (fun X Y h1 h2=>h1.t h2) (fun X hX=>?_) (fun X hX=>?_) (fun X k hX=>?_) J Jx W (io.of_below hW) hJ d1 hY h0
  .exact ac (hX _ _ _ _ (.inr (by have:=a0.out;have:=a6.out;omega)) d0.out) (j:=0) rfl
  .rw[c5.out];exact dX (Hh.kp (b6 X hX))
  .obtain⟨u,hu,he⟩:=DL us k;rw[he];exact e9 (Hh.kp (b6 X hX)) (HT.kp (b6 X hX)) k.val hu
 have b4:=Qa a2;clear b8 a2;have c9:w.heap.size+2<=W1.heap.size:=by have:=b2.out;have:=a0.out;have:=a6.out;omega
 refine wpIn_rangeFunc_ownF rfl (by omega) (gf:=104) (lb:= #[.pointer (some (nl w1.heap.size))]) (by simp[Act.eval]) trivial (enters_of func104 (by kernel_rfl) rfl)
  b4.out
  (fun h k=>h.t k) (fun W l o o' _ h ho _=>io.b W l o o' h ho) (Ze _ _) (fun _=>rfl)
  (GJ w (uF us).length) (fun _ _ _=>False) ?hI ?hIx c2.out
  (fun x=>{tmps:= #[.iface 52 (.pointer A),undef,.pointer (some (nl w.heap.size)),.iface 52 (.pointer A),.bool true,undef,((uF us).get x).2,.iface 52 (.pointer A),.int .i64 5,.bool false,.tuple #[.iface 52 (.pointer A),true],.iface 52 (.pointer A),.tuple #[.iface 52 (.pointer A),true],.iface 52 (.pointer A),.bool true,.bool true,.iface 52 (.pointer A),.func (.func 104) #[] #[.pointer (some (nl w1.heap.size))],.string ((uF us).get x).1,((uF us).get x).2,undef,undef],defers:= []}) ?assign ?body ?done ?stop
 case hI=>
  intro s A B row hs hg hr;exact⟨hs.1.kept hg (fun r e=>(hr r e).2),hs.2.grown hg hs.2.size (fun k e=>by have:=(hr k e).1;omega)⟩
 case hIx=>exact fun _ _ _ _ _ hs _ _=>hs
 case assign=>
  intro l x W K hK;generalize (uF us).get x=y at hK ⊢;obtain⟨y1,y2⟩:=y
  dsimp only at hK ⊢
  gi_wp2
  exact hK
 case body=>
  rintro l pre x W ⟨hk,hB⟩ hN;obtain⟨u,hu,he⟩:=DL us x;have c7:x.val<ks.length:=by rw[<-Hh.out.len];exact(List.getElem?_eq_some_iff.1 hu).1
  have Hc:=Qa (HH x.val u _ hu (Zd c7) W hB)
  try dsimp only
  rw[he];have d2:=Qa hk;have c0:=Qa hB;clear hk hB
  gi_wp2_with fail
  refine⟨trivial,?_⟩;refine(CallsIn.inRound l (callsIn_wide.2 Hc)).mono ?_;rintro e W2 ⟨rfl,c3⟩;have b0:=Qa c3;clear c3
  gi_wp2
  exact⟨qw b0,io.of_below b0,d2.later b0,c0.trans (b0.mono c0.size)⟩
 case done=>
  rintro D ys W hD - ⟨hk,hB⟩ hK;have b8:=hk.cell;have d3:=hk.frozen
  gi_wp2
  have hne:w.heap.size≠D:=by omega
  have c4:(W.setCell (nl w.heap.size) false).heap[D]?=some (.deferred (some [])):=(Below.heap_setCell W _ _ D (fun e=>hne e.symm)).trans hK;have b7:=hk.set false;refine⟨by simp,.inl ⟨_,_,rfl,run_takeDeferred c4,?_⟩⟩;have c6:((W.setCell (nl w.heap.size) false).putObj D (.deferred none)).cell? (nl w.heap.size)=some (.bool false):=by
   rw[World.cell?_of_block (w:=W.setCell (nl w.heap.size) false) (World.putObj_heap_other hne)];exact b7.cell
  refine⟨.bool false,?_,rfl,?_⟩
  .simp[results,results36,go_sem,c6]
  .exact(hB.setCell (p:=⟨w.heap.size,0,none⟩) (Zb _) _).trans (belowK_b (w:=w) (Zb _) _ D _ _ (by omega) c4 rfl rfl)
 case stop=>
  rintro D c pre W hD _ h _;exact h.elim
attribute [local go_sem] Oper.semAt_some
def vF (ns:List Nc)(us:Nb):List (Nc×Value):=ns.zip us
theorem AI (h:ns.length=us.length):(vF ns us).length=us.length:=by simp[vF,h]
theorem Fk (h:ns.length=us.length)(i:Fin (vF ns us).length):∃u s,us[i.val]?=some u/\ns[i.val]?=some s/\(vF ns us).get i= (s,u):=by
 have hi:i.val<us.length:=by have h1:=i.isLt;have h2:=AI h;omega
 have hj:i.val<ns.length:=by omega
 exact⟨us[i.val],ns[i.val],Zd hi,Zd hj,by
  show(vF ns us)[i.val]'i.isLt=_
  simp only[vF,List.getElem_zip]⟩
theorem Co (h:eQ P w A us ns ks)
  (H:∀ (i:Nat) v k,us[i]?=some v->ks[i]?=some k->∀w1,ge w w1->Calls prog 36 #[v] w1 (y4 false w1)) :
  CallsIn Fence.wide 9 prog 36 #[.iface 126 (.pointer A)] w (y4 false w):=by
 have k1:=kW;have Hh:=Qa h;have b1:=Qa (show ns.length=us.length by rw[h.names,h.len]);have HH:=Qa H;clear h H;refine callsIn_of_wp_marks func36 rfl trivial ?_ rfl;simp only[ntmps36,List.size_toArray,List.length_cons,List.length_nil,Nat.reduceAdd,Nat.reduceSub,Array.replicate_succ,Array.replicate_zero,List.push_toArray,List.append_toArray,List.nil_append,List.cons_append];have Hk:=Qa (Bx.new w 4 false);have a4:=Qa (show ge w (w.alloc (.cells #[false] 4)) from(Ze _ _).alloc (Zb _) _)
 gi_wp2_with fail
 obtain⟨W0,b4⟩:=y7 (w.alloc (.cells #[false] 4));have a7:W0.heap.size=w.heap.size+1:=by rw[<-b4];simp
 rw[b4] at Hk a4 ⊢;have a6:=Qa a7;clear b4 a7;refine⟨fun _ _=>trivial,?_⟩;go_invoke
 gi_wp2_with fail
 refine(callsIn_wide.2 gO).mono ?_;rintro e w1 ⟨rfl,c1⟩;have a1:=Qa c1;clear c1
 gi_wp2_with fail
 refine⟨trivial,?_⟩;refine(callsIn_wide.2 ro).mono ?_;rintro e w2 ⟨rfl,rfl⟩;have a5:W0.heap.size<=w1.heap.size:=a1.size;have a9:=aa w1 (.cells #[.iface 126 (.pointer A)] 135);have b6:=Zf w1 (.cells #[.iface 126 (.pointer A)] 135);obtain⟨W1,b2⟩:=y7 (w1.alloc (.cells #[.iface 126 (.pointer A)] 135));have a3:W1.heap.size=w1.heap.size+1:=by rw[<-b2];simp
 rw[b2] at a9 b6 ⊢;clear b2;have b9:GJ w (vF ns us).length [] W1:=⟨(Hk.later a1).later a9,a4.trans ((a1.mono a4.size).trans (a9.mono (Zc a4.size a1.size)))⟩;have c2:=Qa b9;have b3:=Qa a3;have d1:=Qa b6;have a0:=Qa a5;clear a9 b6 b9 a3 a5 Hk a4 a1
 gi_wp2
 have b8:∀X,io w.heap.size (w.heap.size+1) W1 X->Lq w X:=fun X hX g cs t z hg=>hX g cs t z (.inl (ah hg)) ((c2.2.block g (ah hg)).trans hg)
 have c3:=Qa b8;have c6:=Qa (AI b1.out);have c9:=Qa Hh.bd;have a2:SeqStopsK Fence.wide (9 - 1) prog 104 #[.pointer (some (nl w1.heap.size))] (fun x:Fin (vF ns us).length=> #[.string ((vF ns us).get x).1,((vF ns us).get x).2]) (io w.heap.size (w.heap.size+1)) (fun _=>True) (fun _=>True) (vF ns us).length W1:=by
  intro l J Jx W hW hJ d2 hY h0;refine Ff (9 - 1) (by omega) l w1.heap.size A (vF ns us) (by rw[c6.out];exact c9.out) w.heap.size (w.heap.size+1) (io w.heap.size (w.heap.size+1) W1) (fun X Y h1 h2=>h1.t h2) (fun X hX=>?_) (fun X hX=>?_) (fun X k hX=>?_) J Jx W (io.of_below hW) hJ d2 hY h0
  .exact ac (hX _ _ _ _ (.inr (by have:=a0.out;have:=a6.out;omega)) d1.out) (j:=0) rfl
  .rw[c6.out];exact eP (Hh.kp (c3 X hX))
  .obtain⟨u,s,hu,hs,he⟩:=Fk b1.out k;rw[he];exact eW (Hh.kp (c3 X hX)) k.val hu hs
 have b5:=Qa a2;clear b8 a2;have d0:w.heap.size+2<=W1.heap.size:=by have:=b3.out;have:=a0.out;have:=a6.out;omega
 refine wpIn_rangeFunc_ownF rfl (by omega) (gf:=104) (lb:= #[.pointer (some (nl w1.heap.size))]) (by simp[Act.eval]) trivial (enters_of func104 (by kernel_rfl) rfl)
  b5.out
  (fun h k=>h.t k) (fun W l o o' _ h ho _=>io.b W l o o' h ho) (Ze _ _) (fun _=>rfl)
  (GJ w (vF ns us).length) (fun _ _ _=>False) ?hI ?hIx c2.out
  (fun x=>{tmps:= #[.iface 126 (.pointer A),undef,.pointer (some (nl w.heap.size)),.iface 126 (.pointer A),.bool true,undef,((vF ns us).get x).2,.iface 126 (.pointer A),.int .i64 6,.bool false,.tuple #[.iface 126 (.pointer A),true],.iface 126 (.pointer A),.tuple #[.iface 126 (.pointer A),true],.iface 126 (.pointer A),.bool true,.bool true,.iface 126 (.pointer A),.func (.func 104) #[] #[.pointer (some (nl w1.heap.size))],.string ((vF ns us).get x).1,((vF ns us).get x).2,undef,undef],defers:= []}) ?assign ?body ?done ?stop
 case hI=>
  intro s A B row hs hg hr;exact⟨hs.1.kept hg (fun r e=>(hr r e).2),hs.2.grown hg hs.2.size (fun k e=>by have:=(hr k e).1;omega)⟩
 case hIx=>exact fun _ _ _ _ _ hs _ _=>hs
 case assign=>
  intro l x W K hK;generalize (vF ns us).get x=y at hK ⊢;obtain⟨y1,y2⟩:=y
  dsimp only at hK ⊢
  gi_wp2
  exact hK
 case body=>
  rintro l pre x W ⟨hk,hB⟩ hN;obtain⟨u,s,hu,hs,he⟩:=Fk b1.out x;have c8:x.val<ks.length:=by rw[<-Hh.out.len];exact(List.getElem?_eq_some_iff.1 hu).1
  have Hc:=Qa (HH x.val u _ hu (Zd c8) W hB)
  try dsimp only
  rw[he];have d3:=Qa hk;have c0:=Qa hB;clear hk hB
  gi_wp2_with fail
  refine⟨trivial,?_⟩;refine(CallsIn.inRound l (callsIn_wide.2 Hc)).mono ?_;rintro e W2 ⟨rfl,c4⟩;have b0:=Qa c4;clear c4
  gi_wp2
  exact⟨qw b0,io.of_below b0,d3.later b0,c0.trans (b0.mono c0.size)⟩
 case done=>
  rintro D ys W hD - ⟨hk,hB⟩ hK;have b8:=hk.cell;have d4:=hk.frozen
  gi_wp2
  have hne:w.heap.size≠D:=by omega
  have c5:(W.setCell (nl w.heap.size) false).heap[D]?=some (.deferred (some [])):=(Below.heap_setCell W _ _ D (fun e=>hne e.symm)).trans hK;have b7:=hk.set false;refine⟨by simp,.inl ⟨_,_,rfl,run_takeDeferred c5,?_⟩⟩;have c7:((W.setCell (nl w.heap.size) false).putObj D (.deferred none)).cell? (nl w.heap.size)=some (.bool false):=by
   rw[World.cell?_of_block (w:=W.setCell (nl w.heap.size) false) (World.putObj_heap_other hne)];exact b7.cell
  refine⟨.bool false,?_,rfl,?_⟩
  .simp[results,results36,go_sem,c7]
  .exact(hB.setCell (p:=⟨w.heap.size,0,none⟩) (Zb _) _).trans (belowK_b (w:=w) (Zb _) _ D _ _ (by omega) c5 rfl rfl)
 case stop=>
  rintro D c pre W hD _ h _;exact h.elim
theorem zw:Calls prog 36 #[.iface 54 (.agg #[])] w (y4 false w):=by
 have k1:=jC;have a2:=Qa (show ge w (w.alloc (.cells #[false] 4)) from(Ze _ _).alloc (Zb _) _);have Hk:=Qa (Bx.new w 4 false);go_in;go_wp2_with fail;refine gw.mono ?_;rintro e w1 ⟨rfl,a1⟩;have a5:=Qa (a2.trans (a1.mono a2.size));have a0:=Hk.later a1;have a7:=a0.cell;have a6:=a0.frozen;have a4:=Qa (a0.set false).cell;clear a1 a0;go_wp2_with fail;refine Zh (v:=.bool false) ?_ rfl ⟨rfl,a5.setCell (p:=⟨w.heap.size,0,none⟩) (Zb _) _⟩;have a3:=a4.out;simp[results,results36,go_sem,a3]
theorem zx {b:Bool}:Calls prog 36 #[.iface 55 (.bool b)] w (y4 false w):=by
 have k1:=mU;have a2:=Qa (show ge w (w.alloc (.cells #[false] 4)) from(Ze _ _).alloc (Zb _) _);have Hk:=Qa (Bx.new w 4 false);go_in;go_wp2_with fail;refine fZ.mono ?_;rintro e w1 ⟨rfl,a1⟩;have a5:=Qa (a2.trans (a1.mono a2.size));have a0:=Hk.later a1;have a7:=a0.cell;have a6:=a0.frozen;have a4:=Qa (a0.set false).cell;clear a1 a0;go_wp2_with fail;refine Zh (v:=.bool false) ?_ rfl ⟨rfl,a5.setCell (p:=⟨w.heap.size,0,none⟩) (Zb _) _⟩;have a3:=a4.out;simp[results,results36,go_sem,a3]
theorem BF:Calls prog 36 #[.iface 123 (.agg cs)] w (y4 false w):=by
 have k1:=oP;have a2:=Qa (show ge w (w.alloc (.cells #[false] 4)) from(Ze _ _).alloc (Zb _) _);have Hk:=Qa (Bx.new w 4 false);go_in;go_wp2_with fail;refine iF.mono ?_;rintro e w1 ⟨rfl,a1⟩;have a5:=Qa (a2.trans (a1.mono a2.size));have a0:=Hk.later a1;have a7:=a0.cell;have a6:=a0.frozen;have a4:=Qa (a0.set false).cell;clear a1 a0;go_wp2_with fail;refine Zh (v:=.bool false) ?_ rfl ⟨rfl,a5.setCell (p:=⟨w.heap.size,0,none⟩) (Zb _) _⟩;have a3:=a4.out;simp[results,results36,go_sem,a3]
theorem yr {s:Nc}:Calls prog 36 #[.iface 37 s] w (y4 false w):=by
 have k1:=nB;have a2:=Qa (show ge w (w.alloc (.cells #[false] 4)) from(Ze _ _).alloc (Zb _) _);have Hk:=Qa (Bx.new w 4 false);go_in;go_wp2_with fail;refine gj.mono ?_;rintro e w1 ⟨rfl,a1⟩;have a5:=Qa (a2.trans (a1.mono a2.size));have a0:=Hk.later a1;have a7:=a0.cell;have a6:=a0.frozen;have a4:=Qa (a0.set false).cell;clear a1 a0;go_wp2_with fail;refine Zh (v:=.bool false) ?_ rfl ⟨rfl,a5.setCell (p:=⟨w.heap.size,0,none⟩) (Zb _) _⟩;have a3:=a4.out;simp[results,results36,go_sem,a3]
theorem Da (h:VW P w v j)(hT:dh w):Tx j->∀w1,ge w w1->Calls prog 36 #[v] w1 (y4 false w1):=by
 induction h with
 |null=>intro _ w1 _;exact zw
 |bool b=>intro _ w1 _;exact zx
 |num d=>intro _ w1 _;exact BF
 |text s=>intro _ w1 _;exact yr
 |hole=>intro tx;cases tx
 |bare=>
  intro tx w1 h1;refine callsIn_wide.1 (pC (P:=P) (us:= []) (ks:= []) (.inl ⟨rfl,rfl,rfl⟩) (hT.below h1) fun i v k e1=>?_);simp at e1
 |list g A c us ks hp hg hr hl hks ih=>
  intro tx w1 h1;have hk:∀u∈ks,Tx u:=by cases tx;assumption
  have hL:cY P w (some (nl g)) us ks:=.inr ⟨g,A,c,rfl,hg,hr,hl⟩;exact callsIn_wide.1 (pC (hL.below h1) (hT.below h1) fun i v k e1 e2 w2 h2=>ih i v k e1 e2 (hk k (Zl e2)) w2 (h1.trans (h2.mono h1.size)))
 |obj g A c us ns ks hp hg hr hl hn hks ih=>
  intro tx w1 h1;have hk:∀u∈ks,Tx u:=by cases tx;assumption
  have hL:eQ P w (some (nl g)) us ns ks:=⟨g,A,c,rfl,hg,hr,hl,hn⟩;exact callsIn_wide.1 (Co (hL.below h1) fun i v k e1 e2 w2 h2=>ih i v k e1 e2 (hk k (Zl e2)) w2 (h1.trans (h2.mono h1.size)))
theorem yJ (p q:Value)(w:Wd):CallsD prog 37 #[p,q] .returning w fun e u' w'=>e =.returned (.tuple #[])/\u' =.returning/\w'=w:=by
 refine callsD_of_wpS func37 rfl fun c₀ cs hu=>?_
 apply wpS_seq
 apply wpS_region
 simp[wpOpsS,go_sem,recoverD,hu,ntmps37,Exit.thenS];apply wpS_seq;apply wpS_region;simp[wpOpsS,go_sem,Exit.thenS];refine wpS_cond (t:=false) (by simp[Act.eval,Array.replicate]) ?_;simp only[Bool.false_eq_true,if_false];refine wpS_of_wp (wp_skip ?_)
 cases c₀
 simp_all [bodyPostS,results,results37]
theorem ul {x0:Value}(h0:w2.heap[w.heap.size]?=some (.cells #[x0] t0 (0,0)))(h1:w2.heap[w.heap.size+1]?=some (.cells #[x1] t1 (0,0)))(hb:ge w w2)(y0 y1:Value) :
  ge w ((w2.setCell (nl w.heap.size) y0).setCell ⟨w.heap.size+1,0,none⟩ y1)/\((w2.setCell (nl w.heap.size) y0).setCell ⟨w.heap.size+1,0,none⟩ y1).cell? (nl w.heap.size)=some y0/\
   ((w2.setCell (nl w.heap.size) y0).setCell ⟨w.heap.size+1,0,none⟩ y1).cell? ⟨w.heap.size+1,0,none⟩=some y1:=by
 have a0:=az h0 0 y0;have a1:=ay w2 (w.heap.size+1) w.heap.size 0 y0 _ _ (by omega) h1;have b0:=ay _ w.heap.size (w.heap.size+1) 0 y1 _ _ (by omega) a0;have b1:=az a1 0 y1;exact⟨(hb.setCell (p:=⟨w.heap.size,0,none⟩) (Zb _) _).setCell (p:=⟨w.heap.size+1,0,none⟩) (Nat.le_succ _) _,ac b0 (j:=0) rfl,ac b1 (j:=0) rfl⟩
def J0 (l:Na)(w:Wd)(e:Ending)(w':Wd):Prop:= ∃v,e =.returned (.tuple #[v,.nilIface])/\aw w' w.heap.size v l/\ge w w'
theorem kl (h:VW P w v j)(hT:dh w)(hG:cG w aU aE)(tx:Tx j)(sz:Sz j)(hl:(JV.txt j).length<=140737488355328):Calls prog 12 #[v] w (J0 (JV.txt j) w):=by
 have b2:∀ (fn:Fn) (first cap:Array Value) (w:Wd),(Instr.makeFunc fn first cap).run prog w =.ok (.func fn first cap) w:=fun _ _ _ _=>rfl
 have a5:ge w ((w.alloc (.cells #[()] 30)).alloc (.cells #[.nilIface] 44)):=((Ze _ _).alloc (Zb _) _).alloc (by simp) _;have h0:((w.alloc (.cells #[()] 30)).alloc (.cells #[.nilIface] 44)).heap[w.heap.size]?=some (.cells #[()] 30 (0,0)):=(Below.heap_alloc _ _ _ (by simp)).trans (Zf w _);have h1:((w.alloc (.cells #[()] 30)).alloc (.cells #[.nilIface] 44)).heap[w.heap.size+1]?=some (.cells #[.nilIface] 44 (0,0)):=by
  have:=Zf (w.alloc (.cells #[()] 30)) (.cells #[.nilIface] 44)
  rwa[World.size_alloc] at this
 have hz:((w.alloc (.cells #[()] 30)).alloc (.cells #[.nilIface] 44)).heap.size=w.heap.size+2:=by simp
 have a3:=Qa a5;have H0:=Qa h0;have H1:=Qa h1;have Hz:=Qa hz;have a6:=Qa (fun w1 (hw:ge w w1)=>Da h hT tx w1 hw);have a2:=Qa (fun w1 (hw:ge w w1)=>FE (h.later hw) (hT.below hw) (hG.below hw) tx sz w1 () [] (Ze _ _) (aw.nil _ _) (by simpa using hl));obtain⟨t1,x1,rfl⟩:=h.iface;clear a5 h0 h1 hz h hT hG tx sz hl;generalize JV.txt j=tl at *;go_enter_defers func12,ntmps12;go_wp2_with fail;generalize (w.alloc (.cells #[()] 30)).alloc (.cells #[.nilIface] 44)=w1 at *;refine(a6 w1 a3).mono ?_;rintro e w2 ⟨rfl,a0⟩;have a4:=Qa (a3.trans (a0.mono a3.size));have G0:=Qa (al H0.out a0);have G1:=Qa (al H1.out a0);have b1:=Qa (show w.heap.size+2<=w2.heap.size by have:=Hz.out;have:=a0.size;omega);clear a0;go_wp2_with fail;refine(a2 w2 a4).mono ?_;rintro e w3 ⟨v,rfl,ho,a1⟩;rw[List.nil_append] at ho;have Ho:=Qa ho;have a7:=Qa (a4.trans (a1.mono a4.size));have g0:=al G0.out a1;have g1:=al G1.out a1;have G03:=Qa g0;have G13:=Qa g1;have c0:=ac g0 (j:=0) (u:=.slice none 0 0) rfl;have f0:=ao g0 0;have c1:=ac g1 (j:=0) (u:=.nilIface) rfl;have f1:=ao g1 0;obtain⟨A,q,rfl,-⟩:=ai ho;clear g0 g1 a1 ho;go_wp2_with fail;obtain⟨a9,d0,d1⟩:=ul G03.out G13.out a7.out (.slice A tl.length q) .nilIface;have b0:aw ((w3.setCell (nl w.heap.size) (.slice A tl.length q)).setCell ⟨w.heap.size+1,0,none⟩ .nilIface) w.heap.size (.slice A tl.length q) tl:=by
  have hz:=b1.out;have h1:=Ho.stayB (aV.set w.heap.size 0 (.slice A tl.length q)) (fun b hb e=>by have:=(aw.blk Ho hb).1;omega);have h2:=h1.stayB (aV.set (w.heap.size+1) 0 .nilIface) (fun b hb e=>by have:=(aw.blk h1 hb).1;omega);exact bT h2 (by omega)
 clear c0 c1 f0 f1;generalize (w3.setCell (nl w.heap.size) (.slice A tl.length q)).setCell ⟨w.heap.size+1,0,none⟩ .nilIface=w4 at *;refine leaves_cons (f:=37) (args:= #[.pointer (some (nl w.heap.size)),.pointer (some ⟨w.heap.size+1,0,none⟩)]) (by simp) (by simp[go_sem]) ?_;refine(yJ _ _ _).mono ?_;rintro e u' w'' ⟨rfl,rfl,rfl⟩;simp[Leaves,settle,results,results12,go_sem,d0,d1];exact⟨_,rfl,b0,a9⟩
open Classical in
noncomputable def xY (a b:JV):Bool:=decide (a=b)
theorem dQ {a b:JV}:xY a b=true↔a=b:=by unfold xY;simp
theorem mP {a b:JV}:xY a b=false↔a≠b:=by unfold xY;simp
theorem ml {α:Type}{l m:List α}{x:α}(h:l.take i=m.take i)(h1:l[i]?=some x)(h2:m[i]?=some x):l.take (i+1)=m.take (i+1):=by
 rw[List.take_add_one,List.take_add_one,h,h1,h2]
def LA (W:Wd)(ks ks':List JV)(s17:Value)(wr:Wd):Prop:= ∃i:Nat,s17 =(i:Int)/\i<=ks.length/\ks.take i=ks'.take i/\ge W wr
theorem tQ {B:OA}(ha:cY P w A us ks)(hb:cY Q w B us' ks')(hT:dh w)(hr:r=true↔ks=ks')
  (H:∀ (i:Nat) u u' k k',us[i]?=some u->ks[i]?=some k->us'[i]?=some u'->ks'[i]?=some k'->∀w1,ge w w1->Calls prog 80 #[u,u'] w1 (y4 (.bool (xY k k')) w1)) :
  Calls prog 106 #[.iface 52 (.pointer A),.iface 52 (.pointer B)] w (y4 (.bool r) w):=by
 have la:=ha.len;have lb:=hb.len;have hl:=ha.bd;have c4:=hb.bd;unfold maxLen at hl c4;have Ha:=Qa ha;have Hb:=Qa hb;have HT:=Qa hT;have HH:=Qa H;have Hr:=Qa hr;clear ha hb hT H hr;have Hl:=Qa (dX Ha.out);have b3:=Qa (dX Hb.out);have b5:=Qa la;have b6:=Qa lb;generalize hn:us.length=n at *;generalize hn':us'.length=n' at *;have Hn:=Qa hn;have c2:=Qa hn';clear hn hn' la lb
 by_cases hne:n=n'
 .subst hne;go_in;go_wp2_with fail;refine Za Hl ?_;rintro e w3 ⟨rfl,rfl⟩;go_wp2_with fail;refine Za b3 ?_;rintro e w3 ⟨rfl,rfl⟩;go_wp2_with fail;refine Za Hl ?_;rintro e w3 ⟨rfl,rfl⟩;go_wp2_with fail;clear Hl b3
  go_loopw [17] (fun s17 wr=>LA w ks ks' s17 wr) (fun s17 _=>n - (intOf s17).toNat)
  case atStart=>exact⟨0,rfl,Zk _,rfl,Ze _ _⟩
  case round=>
   obtain⟨i,rfl,c1,he,a1⟩:=hrel;have a0:=Qa a1;have He:=Qa he;have Hi:=Qa c1;clear he c1;have c5:=Qa (Ha.below a1);have c3:=Qa (Hb.below a1);have c0:=Qa (HT.below a1);clear a1
   by_cases h:i<n
   .have b9:i<us.length:=by have:=Hn.out;omega
    have b2:i<us'.length:=by have:=c2.out;omega
    have b0:i<ks.length:=by have:=b5.out;have:=Hn.out;omega
    have b8:i<ks'.length:=by have:=b6.out;have:=c2.out;omega
    obtain⟨u,hu⟩:∃u,us[i]?=some u:=⟨_,Zd b9⟩;obtain⟨u',a9⟩:∃u,us'[i]?=some u:=⟨_,Zd b2⟩;obtain⟨k,hk⟩:∃u,ks[i]?=some u:=⟨_,Zd b0⟩;obtain⟨k',a6⟩:∃u,ks'[i]?=some u:=⟨_,Zd b8⟩;have Hp:=Qa (e9 c5.out c0.out i hu);have Hq:=Qa (fun w5 (h:ge wr w5)=>e9 (c3.below h) (c0.below h) i a9);have Hc:=Qa (HH i u u' k k' hu hk a9 a6);have Hk:=Qa b0;have h':(i:Int)<n:=by omega
    have w1:=y9 ((i:Int)+1)
    by_cases hkk:k=k'
    .have Hs:=Qa (ml He.out hk (hkk▸a6));rw[dQ.2 hkk] at Hc;clear b9 b2 b0 b8 hu a9 hk a6 He hkk;go_wp2_with fail;refine Za Hp ?_;rintro e w3 ⟨rfl,a3⟩;have a7:=Qa a3;have b4:=Qa (Hq w3 a3);clear a3;go_wp2_with fail;refine Za b4 ?_;rintro e w4 ⟨rfl,a4⟩;have a2:=Qa (a0.trans ((a7.trans (a4.mono a7.size)).mono a0.size));have b1:=Qa (Hc w4 a2.out);clear a4;go_wp2_with fail;refine Za b1 ?_;rintro e w5 ⟨rfl,a5⟩;have b7:=Qa (a2.trans (a5.mono a2.size));clear a5;go_wp2_with fail;refine⟨⟨i+1,rfl,Hk,Hs,b7⟩,?_⟩
     show n - ((i:Int)+1).toNat<n - ((i:Int)).toNat
     omega
    .have Hs:Hid (r=false):=Qa (by
      rw[Bool.eq_false_iff];intro e;have:=Hr.1 e;rw[this,a6] at hk;exact hkk (Zi hk).symm)
     rw[mP.2 hkk] at Hc;clear b9 b2 b0 b8 hu a9 hk a6 He hkk;go_wp2_with fail;refine Za Hp ?_;rintro e w3 ⟨rfl,a3⟩;have a7:=Qa a3;have b4:=Qa (Hq w3 a3);clear a3;go_wp2_with fail;refine Za b4 ?_;rintro e w4 ⟨rfl,a4⟩;have a2:=Qa (a0.trans ((a7.trans (a4.mono a7.size)).mono a0.size));have b1:=Qa (Hc w4 a2.out);clear a4;go_wp2_with fail;refine Za b1 ?_;rintro e w5 ⟨rfl,a5⟩;have b7:=Qa (a2.trans (a5.mono a2.size));clear a5;go_wp2;go_ret;rw[Hs.out];exact⟨rfl,b7⟩
   .have h':¬ (i:Int)<n:=by omega
    have Hs:Hid (r=true):=Qa (Hr.2 (by
     have h1:=He.out;have h2:=b5.out;have h3:=b6.out;have h4:=Hi.out
     rwa[List.take_of_length_le (by omega),List.take_of_length_le (by omega)] at h1))
    clear He;go_wp2;go_ret;rw[Hs.out];exact⟨rfl,a0⟩
 .have Hs:Hid (r=false):=Qa (by
   rw[Bool.eq_false_iff];intro e;have:=Hr.1 e;subst this;exact hne (b5.trans b6.symm))
  have c6:((n:Int)==n')=false:=by simp only[beq_eq_false_iff_ne];omega
  clear hne Ha Hb Hr;go_in;go_wp2_with fail;refine Za Hl ?_;rintro e w3 ⟨rfl,rfl⟩;go_wp2_with fail;refine Za b3 ?_;rintro e w3 ⟨rfl,rfl⟩;go_wp2;go_ret;rw[Hs.out];exact⟨rfl,Ze _ _⟩
def Kh (W:Wd)(ns ns':List Nc)(ks ks':List JV)(s17:Value)(wr:Wd):Prop:= ∃i:Nat,s17 =(i:Int)/\i<=ks.length/\(ns.take i=ns'.take i/\ks.take i=ks'.take i)/\ge W wr
theorem vV {B:OA}(ha:eQ P w A us ns ks)(hb:eQ Q w B us' ns' ks')(hr:r=true↔ns=ns'/\ks=ks')
  (H:∀ (i:Nat) u u' k k',us[i]?=some u->ks[i]?=some k->us'[i]?=some u'->ks'[i]?=some k'->∀w1,ge w w1->Calls prog 80 #[u,u'] w1 (y4 (.bool (xY k k')) w1)) :
  Calls prog 106 #[.iface 126 (.pointer A),.iface 126 (.pointer B)] w (y4 (.bool r) w):=by
 have la:=ha.len;have lb:=hb.len;have c3:=Qa ha.names;have c5:=Qa hb.names;have hl:=ha.bd;have c9:=hb.bd;unfold maxLen at hl c9;have Ha:=Qa ha;have Hb:=Qa hb;have HH:=Qa H;have Hr:=Qa hr;clear ha hb H hr;have Hl:=Qa (eP Ha.out);have b9:=Qa (eP Hb.out);have c0:=Qa la;have c1:=Qa lb;generalize hn:us.length=n at *;generalize hn':us'.length=n' at *;have Hn:=Qa hn;have c6:=Qa hn';clear hn hn' la lb
 by_cases hne:n=n'
 .subst hne;go_in;go_wp2_with fail;refine Za Hl ?_;rintro e w3 ⟨rfl,rfl⟩;go_wp2_with fail;refine Za b9 ?_;rintro e w3 ⟨rfl,rfl⟩;go_wp2_with fail;refine Za Hl ?_;rintro e w3 ⟨rfl,rfl⟩;go_wp2_with fail;clear Hl b9
  go_loopw [17] (fun s17 wr=>Kh w ns ns' ks ks' s17 wr) (fun s17 _=>n - (intOf s17).toNat)
  case atStart=>exact⟨0,rfl,Zk _,⟨rfl,rfl⟩,Ze _ _⟩
  case round=>
   obtain⟨i,rfl,c4,he,a2⟩:=hrel;have a0:=Qa a2;have He:=Qa he;have Hi:=Qa c4;clear he c4;have d0:=Qa (Ha.below a2);have c8:=Qa (Hb.below a2);clear a2
   by_cases h:i<n
   .have b7:i<us.length:=by have:=Hn.out;omega
    have b3:i<us'.length:=by have:=c6.out;omega
    have b2:i<ks.length:=by have:=c0.out;have:=Hn.out;omega
    have b6:i<ks'.length:=by have:=c1.out;have:=c6.out;omega
    obtain⟨u,hu⟩:∃u,us[i]?=some u:=⟨_,Zd b7⟩;obtain⟨u',a9⟩:∃u,us'[i]?=some u:=⟨_,Zd b3⟩;obtain⟨k,hk⟩:∃u,ks[i]?=some u:=⟨_,Zd b2⟩;obtain⟨k',a7⟩:∃u,ks'[i]?=some u:=⟨_,Zd b6⟩;have b5:i<ns.length:=by have:=c3.out;omega
    have b4:i<ns'.length:=by have:=c5.out;omega
    obtain⟨s,hs⟩:∃u,ns[i]?=some u:=⟨_,Zd b5⟩;obtain⟨s',a6⟩:∃u,ns'[i]?=some u:=⟨_,Zd b4⟩;have Hp:=Qa (eW d0.out i hu hs);have Hq:=Qa (fun w5 (h:ge wr w5)=>eW (c8.below h) i a9 a6);have Hc:=Qa (HH i u u' k k' hu hk a9 a7);have Hk:=Qa b2;have h':(i:Int)<n:=by omega
    have w1:=y9 ((i:Int)+1)
    by_cases hss:s=s'
    .subst hss
     by_cases hkk:k=k'
     .have Hs:=NA (ml He.1 hs a6) (ml He.2 hk (hkk▸a7));rw[dQ.2 hkk] at Hc;clear b7 b3 b2 b6 hu a9 hk a7 hs a6 b5 b4 He hkk;go_wp2_with fail;refine Za Hp ?_;rintro e w3 ⟨rfl,a1⟩;have a5:=Qa a1;have b0:=Qa (Hq w3 a1);clear a1;go_wp2_with fail;refine Za b0 ?_;rintro e w4 ⟨rfl,a4⟩;have a3:=Qa (a0.trans ((a5.trans (a4.mono a5.size)).mono a0.size));have b8:=Qa (Hc w4 a3.out);clear a4;go_wp2_with fail;refine Za b8 ?_;rintro e w5 ⟨rfl,b1⟩;have c2:=Qa (a3.trans (b1.mono a3.size));clear b1;go_wp2_with fail;refine⟨⟨i+1,rfl,Hk,Hs,c2⟩,?_⟩
      show n - ((i:Int)+1).toNat<n - ((i:Int)).toNat
      omega
     .have Hs:Hid (r=false):=Qa (by
       rw[Bool.eq_false_iff];intro e;have:=Hr.1 e;rw[this.2,a7] at hk;exact hkk (Zi hk).symm)
      rw[mP.2 hkk] at Hc;clear b7 b3 b2 b6 hu a9 hk a7 hs a6 b5 b4 He hkk;go_wp2_with fail;refine Za Hp ?_;rintro e w3 ⟨rfl,a1⟩;have a5:=Qa a1;have b0:=Qa (Hq w3 a1);clear a1;go_wp2_with fail;refine Za b0 ?_;rintro e w4 ⟨rfl,a4⟩;have a3:=Qa (a0.trans ((a5.trans (a4.mono a5.size)).mono a0.size));have b8:=Qa (Hc w4 a3.out);clear a4;go_wp2_with fail;refine Za b8 ?_;rintro e w5 ⟨rfl,b1⟩;have c2:=Qa (a3.trans (b1.mono a3.size));clear b1;go_wp2;go_ret;rw[Hs.out];exact⟨rfl,c2⟩
    .have Hs:Hid (r=false):=Qa (by
      rw[Bool.eq_false_iff];intro e;have:=Hr.1 e;rw[this.1,a6] at hs;exact hss (Zi hs).symm)
     have c7:(s.toList==s'.toList)=false:=by
      simp only[beq_eq_false_iff_ne,ByteArray.toList_eq];intro e;apply hss
      cases s with|mk a=>cases s' with|mk b=>simp only at e;rw[Array.toList_inj.1 e]
     clear b7 b3 b2 b6 hu a9 hk a7 hs a6 b5 b4 He hss;go_wp2_with fail;refine Za Hp ?_;rintro e w3 ⟨rfl,a1⟩;have a5:=Qa a1;have b0:=Qa (Hq w3 a1);clear a1;go_wp2_with fail;refine Za b0 ?_;rintro e w4 ⟨rfl,a4⟩;have a3:=Qa (a0.trans ((a5.trans (a4.mono a5.size)).mono a0.size));clear a4;go_wp2;go_ret;rw[Hs.out];exact⟨rfl,a3⟩
   .have h':¬ (i:Int)<n:=by omega
    have Hs:Hid (r=true):=Qa (Hr.2 (by
     have h1:=He.out;have h2:=c0.out;have h3:=c1.out;have h4:=Hi.out;have h5:=c3.out;have h6:=c5.out
     rwa[List.take_of_length_le (by omega),List.take_of_length_le (by omega),List.take_of_length_le (by omega),List.take_of_length_le (by omega)] at h1))
    clear He;go_wp2;go_ret;rw[Hs.out];exact⟨rfl,a0⟩
 .have Hs:Hid (r=false):=Qa (by
   rw[Bool.eq_false_iff];intro e;have:=(Hr.1 e).2;subst this;exact hne (c0.trans c1.symm))
  have c7:((n:Int)==n')=false:=by simp only[beq_eq_false_iff_ne];omega
  clear hne Ha Hb Hr;go_in;go_wp2_with fail;refine Za Hl ?_;rintro e w3 ⟨rfl,rfl⟩;go_wp2_with fail;refine Za b9 ?_;rintro e w3 ⟨rfl,rfl⟩;go_wp2;go_ret;rw[Hs.out];exact⟨rfl,Ze _ _⟩
theorem Gx (hr:∀W,(binOp .eql 35 (.iface 54 (.agg #[])) (.iface 54 (.agg #[]))).run prog W =.ok (.bool r) W):Calls prog 80 #[.iface 54 (.agg #[]),.iface 54 (.agg #[])] w (y4 (.bool r) w):=by
 have k1:=jC;go_in;go_wp2_with fail;refine gw.mono ?_;rintro e w1 ⟨rfl,a2⟩;have a1:=Qa a2;clear a2;go_wp2_with fail;refine gw.mono ?_;rintro e w2 ⟨rfl,a0⟩;have a3:=Qa (a1.trans (a0.mono a1.size));clear a0;go_wp2;go_ret;exact⟨rfl,a3⟩
theorem G7 (hr:∀W,(binOp .eql 35 (.iface 49 (.agg #[])) (.iface 49 (.agg #[]))).run prog W =.ok (.bool r) W):Calls prog 80 #[.iface 49 (.agg #[]),.iface 49 (.agg #[])] w (y4 (.bool r) w):=by
 have k1:=mX;go_in;go_wp2_with fail;refine ga.mono ?_;rintro e w1 ⟨rfl,a2⟩;have a1:=Qa a2;clear a2;go_wp2_with fail;refine ga.mono ?_;rintro e w2 ⟨rfl,a0⟩;have a3:=Qa (a1.trans (a0.mono a1.size));clear a0;go_wp2;go_ret;exact⟨rfl,a3⟩
theorem G8 (a b:Bool)(hr:∀W,(binOp .eql 35 (.iface 55 (.bool a)) (.iface 55 (.bool b))).run prog W =.ok (.bool r) W):Calls prog 80 #[.iface 55 (.bool a),.iface 55 (.bool b)] w (y4 (.bool r) w):=by
 have k1:=mU;go_in;go_wp2_with fail;refine fZ.mono ?_;rintro e w1 ⟨rfl,a2⟩;have a1:=Qa a2;clear a2;go_wp2_with fail;refine fZ.mono ?_;rintro e w2 ⟨rfl,a0⟩;have a3:=Qa (a1.trans (a0.mono a1.size));clear a0;go_wp2;go_ret;exact⟨rfl,a3⟩
theorem GC (a b:Nc)(hr:∀W,(binOp .eql 35 (.iface 37 a) (.iface 37 b)).run prog W =.ok (.bool r) W):Calls prog 80 #[.iface 37 a,.iface 37 b] w (y4 (.bool r) w):=by
 have k1:=nB;go_in;go_wp2_with fail;refine gj.mono ?_;rintro e w1 ⟨rfl,a2⟩;have a1:=Qa a2;clear a2;go_wp2_with fail;refine gj.mono ?_;rintro e w2 ⟨rfl,a0⟩;have a3:=Qa (a1.trans (a0.mono a1.size));clear a0;go_wp2;go_ret;exact⟨rfl,a3⟩
theorem Kg (a b:Dc)(hr:∀W,(binOp .eql 35 (.iface 123 (.agg #[.bool a.neg,a.digits,(a.exp:Int)])) (.iface 123 (.agg #[.bool b.neg,b.digits,(b.exp:Int)]))).run prog W =.ok (.bool r) W):Calls prog 80 #[.iface 123 (.agg #[.bool a.neg,a.digits,(a.exp:Int)]),.iface 123 (.agg #[.bool b.neg,b.digits,(b.exp:Int)])] w (y4 (.bool r) w):=by
 have k1:=oP;go_in;go_wp2_with fail;refine iF.mono ?_;rintro e w1 ⟨rfl,a2⟩;have a1:=Qa a2;clear a2;go_wp2_with fail;refine iF.mono ?_;rintro e w2 ⟨rfl,a0⟩;have a3:=Qa (a1.trans (a0.mono a1.size));clear a0;go_wp2;go_ret;exact⟨rfl,a3⟩
theorem Ix {B:OA}(HP:∀w1,ge w w1->Calls prog 106 #[.iface 52 (.pointer A),.iface 52 (.pointer B)] w1 (y4 (.bool r) w1)):Calls prog 80 #[.iface 52 (.pointer A),.iface 52 (.pointer B)] w (y4 (.bool r) w):=by
 have k4:=jH;have k5:=mW;have HL:=Qa HP;clear HP;go_in;go_wp2_with fail;refine ey.mono ?_;rintro e w1 ⟨rfl,a3⟩;have a2:=Qa a3;clear a3;go_wp2_with fail;refine ey.mono ?_;rintro e w2 ⟨rfl,a1⟩;have a0:=Qa (a2.trans (a1.mono a2.size));clear a1;go_wp2_with fail;refine(HL w2 a0).mono ?_;rintro e w4 ⟨rfl,a4⟩;have a5:=Qa (a0.trans (a4.mono a0.size));clear a4;go_wp2;go_ret;exact⟨rfl,a5⟩
theorem Jv {B:OA}(HP:∀w1,ge w w1->Calls prog 106 #[.iface 126 (.pointer A),.iface 126 (.pointer B)] w1 (y4 (.bool r) w1)):Calls prog 80 #[.iface 126 (.pointer A),.iface 126 (.pointer B)] w (y4 (.bool r) w):=by
 have k4:=kW;have k5:=oO;have HL:=Qa HP;clear HP;go_in;go_wp2_with fail;refine gO.mono ?_;rintro e w1 ⟨rfl,a3⟩;have a2:=Qa a3;clear a3;go_wp2_with fail;refine gO.mono ?_;rintro e w2 ⟨rfl,a1⟩;have a0:=Qa (a2.trans (a1.mono a2.size));clear a1;go_wp2_with fail;refine(HL w2 a0).mono ?_;rintro e w4 ⟨rfl,a4⟩;have a5:=Qa (a0.trans (a4.mono a0.size));clear a4;go_wp2;go_ret;exact⟨rfl,a5⟩
theorem EE {c:Int}(h:dY c=true):(de c).length<=6* (bL c).length:=by
 have h1:1<=(bL c).length:=by rcases hl:bL c with _|⟨x,l⟩;exact absurd hl (pM h);simp
 unfold de
 repeat' split
 all_goals first|(simp only[List.length_cons,List.length_nil];omega)|omega
theorem xq {s:Nc}(h:dS s):(eK s).length<=6*s.size+2:=by
 have hn:=h.nm;have key:∀cs:List Int,(∀c∈cs,dY c=true)->(cs.flatMap de).length<=6* (cs.flatMap bL).length:=by
  intro cs
  induction cs with
  |nil=>intro _;simp
  |cons c cs ih=>
   intro hc;have h1:=EE (hc c (by simp));have h2:=ih (fun c h=>hc c (Zm _ h));rw[List.flatMap_cons,List.flatMap_cons,List.length_append,List.length_append];omega
 have h1:=key _ hn.1;rw[hn.2] at h1;have h2:s.data.toList.length=s.size:=by simp
 unfold eK mR;rw[List.length_cons,List.length_append];simp only[List.length_cons,List.length_nil];omega
theorem Fj {x:Int}(h: -1000000000<=x/\x<=1000000000):(gW x).length<=12:=by
 unfold gW
 split
 .simp
 .rcases Int.lt_or_le x 0 with hn|hn
  .obtain⟨m,rfl⟩:∃m:Nat,x = -(m:Int):=⟨x.natAbs,by omega⟩;rw[Lib.itoa_neg m (by omega)];have:=iq (u:=m) (by omega);simp;omega
  .obtain⟨m,rfl⟩:∃m:Nat,x= (m:Int):=⟨x.natAbs,by omega⟩;rw[Lib.itoa_nonneg m];have:=iq (u:=m) (by omega);simp;omega
inductive F9 (L:Nat):JV->Prop
 |null:F9 L kC
 |bool (b:Bool):F9 L (gB b)
 |num (d:Dc):d.digits.size<=L+1-> -1000000000<=d.exp/\d.exp<=1000000000->F9 L (eC d)
 |text (s:Nc):dS s->s.size<=L->F9 L (fB s)
 |list (ks:List JV):(∀u∈ks,F9 L u)->F9 L (ei ks)
 |obj (ns:List Nc) (ks:List JV):ns.length=ks.length->(∀s∈ns,dS s/\s.size<=L)->(∀u∈ks,F9 L u)->F9 L (.mk 6 false ⟨#[]⟩ ⟨false,⟨#[]⟩,0⟩ ns ks)
theorem vT {L:Nat}(h:∀u∈ks,(u.txt).length+6*L+10<=u.size* (12*L+40))(o:Bool):∀ (first:Bool) (ns:List Nc),ns.length=ks.length\/o=false->(∀s∈ns,dS s/\s.size<=L)->(JV.txts o first ns ks).length<=JV.sizes ks* (12*L+40):=by
 induction ks with
 |nil=>intro first ns _ _;simp[JV.txts]
 |cons v vs ih=>
  intro first ns hl hs;have h1:=h v (by simp);have a0:∀s∈ns.tail,dS s/\s.size<=L:=fun s h=>hs s (List.mem_of_mem_tail h)
  have h2:=ih (fun u hu=>h u (Zm _ hu)) false ns.tail (hl.imp (fun e=>by cases ns <;> simp at e ⊢;omega) id) a0;simp only[JV.txts,JV.sizes,List.length_append];have h3:(if first then([]:Na) else [44]).length<=1:=by cases first <;> simp
  have h4:(if o then eK (ns.headD ⟨#[]⟩) ++ [58] else []).length<=6*L+3:=by
   cases o with
   |false=>simp
   |true=>
    cases ns with
    |nil=>simp at hl
    |cons a ns=>
     obtain⟨q1,q2⟩:=hs a (by simp);have:=xq q1;simp only[if_true,List.headD_cons,List.length_append,List.length_cons,List.length_nil];omega
  rw[Nat.add_mul];omega
theorem F9.len {L:Nat}(h:F9 L j):j.txt.length+6*L+10<=j.size* (12*L+40):=by
 induction h with
 |null=>simp[kC,JV.txt,JV.size,JV.sizes];omega
 |bool b=>cases b <;> simp[gB,JV.txt,JV.size,JV.sizes] <;> omega
 |num d h1 h2=>
  have:=Fj h2;have e:(eC d).txt=fL d:=by simp[eC,JV.txt]
  have e2:(eC d).size=1:=by simp[eC,JV.size,JV.sizes]
  have e3:d.digits.data.toList.length=d.digits.size:=by simp
  rw[e,e2];unfold fL;rw[List.length_append,List.length_append,e3];have e4:(if d.neg then [45] else([]:Na)).length<=1:=by split <;> simp
  omega
 |text s h1 h2=>
  have:=xq h1;have e:(fB s).txt=eK s:=by simp[fB,JV.txt]
  have e2:(fB s).size=1:=by simp[fB,JV.size,JV.sizes]
  rw[e,e2];omega
 |list ks _ ih=>
  have h1:=vT ih false true [] (.inr rfl) (by simp);have e:(ei ks).txt.length= (JV.txts false true [] ks).length+2:=by simp[ei,JV.txt]
  have e2:(ei ks).size=1+JV.sizes ks:=by simp[ei,JV.size]
  rw[e,e2,Nat.add_mul];omega
 |obj ns ks hl hs _ ih=>
  have h1:=vT ih true true ns (.inl hl) hs;have e:(JV.mk 6 false ⟨#[]⟩ ⟨false,⟨#[]⟩,0⟩ ns ks).txt.length= (JV.txts true true ns ks).length+2:=by simp[JV.txt]
  have e2:(JV.mk 6 false ⟨#[]⟩ ⟨false,⟨#[]⟩,0⟩ ns ks).size=1+JV.sizes ks:=by simp[JV.size]
  rw[e,e2,Nat.add_mul];omega
theorem Di (h:dY c=true):(bL c).length=if c<128 then 1 else if c<2048 then 2 else if c<65536 then 3 else 4:=by
 have hr:=h;rw[cP] at h;simp at h
 split
 .rw[mV c (by assumption)];rfl
 .split
  .rw[rF c ⟨by omega,by assumption⟩];rfl
  .split
   .rw[pY c ⟨by omega,by assumption⟩ (by omega)];rfl
   .rw[r9 c ⟨by omega,by omega⟩];rfl
theorem zQ {c:Int}{l:List Int}(h:bj eE xs=c::l) :
  (c = -1/\∃x t,xs=x::t/\l=bj eE t/\bj dP xs=dP x::bj dP t)\/
  (∃k:Nat,c=k/\dY k=true/\(bL k).length<=xs.length/\l=bj eE (xs.drop (bL k).length)/\bj dP xs= (k:Int)::bj dP (xs.drop (bL k).length)):=by
 cases xs with
 |nil=>cases h
 |cons x t=>
  by_cases hd:(bK (x::t)).2.2=0
  .right
   have ⟨h1,h2⟩:=jp hd;have h3:=mz (x::t);have hl:(bL (bK (x::t)).1).length= (bK (x::t)).2.1:=by rw[h1,List.length_take];omega
   rw[dK (by simp) hd] at h;injection h with e1 e2
   refine⟨(bK (x::t)).1,e1.symm,h2,by rw[hl];exact h3,by rw[hl];exact e2.symm,?_⟩;rw[hl];exact dK (by simp) hd
  .left
   rw[fg hd] at h;injection h with e1 e2
   exact⟨e1.symm,x,t,rfl,e2.symm,fg hd⟩
theorem qn (h:kt d):kA d:=by
 rcases h with rfl|⟨h0,hd,hf,hl,h1,h2⟩
 .exact .inl rfl
 .have hz:d.digits.data.toList.length=d.digits.size:=Array.length_toList;refine .inr ⟨⟨fun c hc=>?_,fun e=>?_,fun c hc=>?_,fun c hc=>?_⟩,h1,h2⟩
  .obtain⟨i,hi,rfl⟩:=List.getElem_of_mem hc;have:=hd i (by omega);unfold eV;exact decide_eq_true this
  .rw[e] at hz;simp at hz;omega
  .rw[List.head?_eq_getElem?,Zd (by omega)] at hc;rw[<-Zi hc];exact fun e=>hf h0 (congrArg UInt8.toNat e)
  .rw[List.getLast?_eq_getElem?,Zd (by omega)] at hc;rw[<-Zi hc];intro e;have:=congrArg UInt8.toNat e;simp only[hz] at this;exact hl (by omega) this
def uD (b:Nat)(s:Nc):Prop:=s.size<=b
theorem Ok.imp {h:Prop}{T U:Nc->Prop}(hT:∀s,T s->U s)(g:Ok h T j):Ok h U j:=by
 induction g with
 |null=>exact .null
 |bool b=>exact .bool b
 |num d hd hn=>exact .num d hd hn
 |text s hs=>exact .text s (hT s hs)
 |hole e=>exact .hole e
 |list ks _ ih=>exact .list ks ih
 |obj ns ks h1 h2 h3 _ ih=>exact .obj ns ks h1 h2 h3 ih
theorem Ok.sits {h:Prop}{T:Nc->Prop}{v:JV}{a:Nat}(hs:dI v p a x0):Ok h T v->Ok h T x0:=by
 induction hs with
 |here v p=>exact id
 | @down k t x n ns pre post u0 p a x0 hs ih=>
  intro g;refine ih ?_;generalize hl:pre++u0::post=l at g
  cases g with
  |null=>simp at hl
  |bool b=>simp at hl
  |num d hd hn=>simp at hl
  |text s hs=>simp at hl
  |hole e=>simp at hl
  |list ks hks=>subst hl;exact hks u0 (by simp)
  |obj ns' ks h1 h2 h3 hks=>subst hl;exact hks u0 (by simp)
theorem Il {b:Nat}{nd:Nd}(hn:(j.flat 0)[m]?=some nd)(hk:nd.kind=4)(a2:Ok True (uD b) j):nd.text.size<=b/\∃j':JV,j'.size=j.size/\Ok True (uD (b+1)) j'/\j'.flat 0= (j.flat 0).set m {nd with text:=nd.text++ ⟨#[255]⟩}:=by
 have hm:m<j.size:=by have:=(List.getElem?_eq_some_iff.1 hn).1;rwa[JV.flat_len] at this
 obtain⟨x0,hs⟩:=Bq j 0 m (Zk _) (by omega);have hx:=a2.sits hs;obtain⟨k,t,x,d,ns,ks⟩:=x0;have a0:=hs.node;rw[Nat.sub_zero,hn] at a0;obtain rfl:=Zi a0;simp only at hk;subst hk
 cases hx with
 |text s hsz=>
  refine⟨hsz,?_⟩;obtain⟨j',a1⟩:=uR.of_sits hs (.mk 4 false (x++ ⟨#[255]⟩) jx [] []);have e1:=a1.size;obtain⟨A,B,h1,h2,h3⟩:=a1.flat;have hz:∀y:Nc,(JV.mk 4 false y jx [] []).size=1:=fun y=>by simp[JV.size,JV.sizes]
  have a5:∀y:Nc,(JV.mk 4 false y jx [] []).flat m = [⟨4,false,y,jx, [], []⟩]:=fun y=>by simp[JV.flat,aZ,JV.flats]
  rw[hz,hz] at e1 h3;rw[a5] at h1 h3;have a4:nW (m+1) 1 1=id:=by funext q;unfold nW;simp only[id];split <;> omega
  have a3:Nd.mv (id:Nat->Nat)=id:=by funext y;simp[Nd.mv]
  rw[a4,a3,List.map_id,List.map_id] at h3;refine⟨j',by omega,Ok.put a1 (a2.imp fun s h=>Nat.le_succ_of_le h) (.text _ ?_),?_⟩
  .have:uD b x:=hsz;unfold uD at *;rw[ByteArray.size_append]
   show x.size+1<=b+1
   omega
  .rw[h3,h1];have hA:A.length=m:=by omega
   rw[List.append_assoc,List.append_assoc,List.set_append_right _ _ (by omega),hA,Nat.sub_self];simp[aZ]
theorem m8 (u:Value):∀ (us:List (Nb)) (i j:Nat) (x:Nb),(∀y∈us,y.length=n)->j<n->us[i]?=some x->us.flatten.set (i*n+j) u= (us.set i (x.set j u)).flatten
 | [],_,_,_,_,_,h=>by simp at h
 |a::l,0,j,x,hl,hj,h=>by
  simp at h;subst h;have:=hl a (by simp);rw[List.flatten_cons,List.set_append_left _ _ (by omega)];simp
 |a::l,i+1,j,x,hl,hj,h=>by
  have ha:=hl a (by simp);rw[List.flatten_cons,List.set_append_right _ _ (by rw[ha,Nat.succ_mul];omega),ha,show(i+1)*n+j - n=i*n+j by rw[Nat.succ_mul];omega,m8 u l i j x (fun y hy=>hl y (Zm _ hy)) hj (by simpa using h)];simp
theorem bC.set {α β:Type}{R:α->β->Prop}{l:List α}{m:List β}(h:bC R l m)(k:Nat){a:α}{b:β}(hr:R a b):bC R (l.set k a) (m.set k b):=by
 refine⟨by simp[h.1],fun i x y h1 h2=>?_⟩;rw[List.getElem?_set] at h1 h2
 by_cases hki:k=i
 .rw[if_pos hki] at h1 h2
  split at h1
  .split at h2
   .cases h1;cases h2;exact hr
   .cases h2
  .cases h1
 .rw[if_neg hki] at h1 h2;exact h.2 i x y h1 h2
theorem bo.setText {ns:List Nd}{nd:Nd}(s':Nc)(h:bo P w base (.slice (some (nl gt)) n cap) ns)(hm:ns[m]?=some nd):bo P (w.setCell ⟨gt,m*8+2,none⟩ s') base (.slice (some (nl gt)) n cap) (ns.set m {nd with text:=s'})/\w.frozen? ⟨gt,m*8+2,none⟩=false/\nF w gt 74/\base<=gt:=by
 obtain⟨us,h1,h2,h3⟩:=h;have hn:n=ns.length:=by
  rcases ce h1 with ⟨e,_⟩|⟨_,_,e,_⟩
  .cases e
  .injection e
 subst hn;obtain⟨u0,a0,vn,vk,rfl,hs,hk⟩:=h2.get hm;obtain⟨s1,s2⟩:=World.ownsRow.stored h1 (m*8+2) s';have ht:=cK h1;rw[m8 (n:=8) s' us m 2 _ h2.lens (by decide) a0] at s1;have e:(aF nd vn vk).set 2 s'=aF {nd with text:=s'} vn vk:=rfl;rw[e] at s1;refine⟨⟨us.set m (aF {nd with text:=s'} vn vk),by rw[List.length_set];exact s1,(h2.mono fun _ _ h=>gL s2 ht h).set m ?_,fun u hu g e=>?_⟩,World.ownsRow.frozenAt h1 _,ht gt rfl,(am h1 rfl).1⟩
 .exact gL s2 ht ⟨vn,vk,rfl,hs,hk⟩
 .rcases List.mem_or_eq_of_mem_set hu with hu|rfl
  .exact h3 u hu g e
  .exact h3 _ (Zl a0) g (by simpa [aF] using e)
