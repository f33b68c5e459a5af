import Derived.Test.YtohibglohlfjfaaGreatDoorGZ6am
set_option linter.unusedVariables false
set_option linter.unusedSimpArgs false
set_option maxHeartbeats 64000000
set_option maxRecDepth 100000
namespace Go.Proofs.YtohibglohlfjfaaGreatDoor
open Go.RowKit
variable {ns:List ByteArray}{ts:List JV}{so:List Nat}{xs:List UInt8}{us:List Value}{B at_ i rb:Nat}{v:Value}{W W':World}
def JO (asc:List ByteArray->Prop)(xs:List UInt8)(rb:Nat)(w:World)(at_:Nat)(names:List ByteArray)(e:Ending)(w':World):Prop:= ∃ (s:ByteArray) (A:Option Addr) (n q at' k':Nat) (c:Int),e =.returned (.tuple #[.string s,.slice A n q])/\Rd xs rb w' at' k' c/\Rk rb w w'/\at_<=at'/\
 (c=0->at_+1<=at'/\iH s/\s∉names/\∃j:JV,cF asc j/\bj (w.heap.size<= ·) w' rb (.slice A n q) (j.flat 0)/\j.size+at_<=at')
theorem Fc {k:Nat}(h:W.ownsRow B 239 5 v k us)(hg:W.grownBy W' v.ownBlock):aG (fun e=>e=239) W W':=
 aG.of_grown hg (fun g e cs t z hh=>by obtain⟨cs',z',h'⟩:=cj h g e;rw[h'] at hh;injection hh with hh;injection hh with _ hh;exact hh.symm)
def Cu (w1:World)(s:ByteArray)(names:List ByteArray)(s10:Value)(wr:World):Prop:= ∃i:Nat,i<=names.length/\s10 =.int .i64 i/\Below w1.heap.size w1 wr/\s∉names.take i
theorem tF (asc:List ByteArray->Prop)(hl:xs.length<=6000){uw:Nat}
  (hV:∀ (iy:Nat) (t:Tk) (w:World) (k:Nat) (c:Int) (d:Int),(c=0->t.kind≠5->uw+1<=iy)->Rd xs rb w iy k c->(c=0->(t.kind≠5->k+1<=iy)/\jw t)->
   Calls Tryz.prog 84 #[.pointer (some ⟨rb,0,none⟩),kk t,.int .i64 d] w (jv asc xs rb w iy (t.kind≠5)))
  {w:World} {k:Nat} {c:Int} (t:Tk) (d:Int) {vn:Value} {B:Nat} {names:List ByteArray} (h:Rd xs rb w at_ k c) (hn:dh w B vn names) (hat:uw<=at_) (hk:c=0->(t.kind≠5->k+1<=at_)/\jw t) :
  Calls Tryz.prog 156 #[.pointer (some ⟨rb,0,none⟩),kk t,.int .i64 d,vn] w (JO asc xs rb w at_ names):=by
 have m0:=Qa hk;have HV:=Qa hV;obtain⟨An,cn,rfl,hcn,o3,m9⟩:=ag hn;unfold maxLen at o3;have p0:=Qa m9;have c0:=ac w (.cells (eu t) 181);have Hn:=Qa (hn.below c0 (Zb _));have i2:=Qa (Zf w (.cells (eu t) 181));have HR:=Qa (h.below c0);have f5:=Qa (Rk.of_below c0 (Zj h.lt));have hrb:=h.lt;have cc:=(h.below c0).code;clear hk hV h hn m9 c0;obtain⟨tk,ta,tm,ts,⟨dn,dd,dx⟩⟩:=t;unfold kk;simp only[eu] at HR i2 f5 Hn cc;go_enter Tryz.func156,Tryz.ntmps156
 by_cases hc:c=0
 case neg=>
  have k9:(c !=0)=true:=by simpa using hc
  have Hc:=Qa hc;clear hc;go_wp2_with fail;go_ret2;exact⟨es,none,0,0,at_,k,c,rfl,HR.out,f5.out,Zb _,fun h=>absurd h Hc.out⟩
 subst hc;obtain⟨hk,h8⟩:=m0.out rfl;have Hk:=Qa hk;have H8:=Qa h8;clear hk h8 m0;obtain⟨t0,t1,t2,t3,t4,t5,t6⟩:=aR (t:=⟨tk,ta,tm,ts,⟨dn,dd,dx⟩⟩) i2.out
 by_cases h4:tk=4
 case neg=>
  have q3:(tk !=4)=true:=by simpa using h4
  clear h4;have wr:∀W,Rd xs rb W at_ k 0->Calls Tryz.prog 85 #[.pointer (some ⟨rb,0,none⟩),.agg #[.int .i64 tk,.int .i64 ta,.int .u8 tm,.string ts,.bool dn,.string dd,.int .i64 dx]] W (jT xs rb W at_ k):=fun W h=>fd h ⟨tk,ta,tm,ts,⟨dn,dd,dx⟩⟩
  have Wr:=Qa wr;clear wr;go_wp2_with fail;refine(Wr.out _ HR.out).mono ?_;rintro e w3 ⟨⟨v,rfl⟩,c3,l2,n9,n3⟩;have Hc:=Qa l2;have k0:=Qa n9;have k6:=Qa (f5.out.trans n3);clear l2 n9 n3;go_wp2_with fail;go_ret2;exact⟨es,none,0,0,at_,k,c3,rfl,k0.out,k6.out,Zb _,fun h=>absurd h Hc.out⟩
 subst h4;have l5:=Hk.out (by show ¬ (4:Int)=5;decide);have n1:=H8.out.1 rfl;have i4:=Qa l5;have o2:=Qa n1;clear l5 n1 Hk H8;go_upto_region 6 with fail
 generalize (w.alloc (.cells #[.int .i64 4,.int .i64 ta,.int .u8 tm,.string ts,.bool dn,.string dd,.int .i64 dx] 181))=w1 at *;go_wp2_with fail
 go_loopw [10] (Cu w1 ts names) (fun i _=>names.length - (intOf i).toNat)
 case atStart=>exact⟨0,Zk _,rfl,Ze _ _,by simp⟩
 case round=>
  obtain⟨i,hi,rfl,hb,h0⟩:=hrel;have Hb:=Qa hb;have d5:=Qa h0;have h9:=Qa (HR.out.below hb);have f2:=Qa ((hb.block _ (ae i2.out)).trans i2.out);have o1:=Qa (Hn.out.below hb (Zb _));have f0:=Qa (f5.out.trans (Rk.of_below hb (Zc (Zj hrb) f5.out.2.1)));clear cc t0 t1 t2 t3 t4 t5 t6 hb h0;obtain⟨t0,t1,t2,t3,t4,t5,t6⟩:=aR (t:=⟨4,ta,tm,ts,⟨dn,dd,dx⟩⟩) f2.out;have cc:=h9.out.code
  by_cases hlt:i<names.length
  ·obtain⟨gn,rfl⟩:=p0.out (by omega);obtain⟨s,hs⟩:∃s,names[i]?=some s:=⟨_,Zd hlt⟩;have cn:=aL o1.out rfl i (by omega);rw[List.getElem?_map,hs] at cn;simp only[Option.map_some,dU] at cn;have Hs:=Qa (show names.take (i+1)=names.take i ++ [s] from bQ hs);have q1:(i:Int)<names.length:=by omega
   clear hs
   by_cases he:s=ts
   ·have q0:(s.toList==ts.toList)=true:=by rw[jg];simp[he]
    clear he;go_wp2_with fail;go_quiet (fail);go_wp2_with fail;refine(cD 112 ta _).mono ?_;rintro e w2 ⟨u,rfl,⟨fh,fl,fs,rfl,n5⟩,n2⟩;obtain⟨fA,fq,fr,rfl,-⟩:=n5.slice;have j0:Below wr.heap.size wr w2:=(av (Ze _ _) _).trans n2;have k0:=Qa (h9.out.below j0);have k6:=Qa (f0.out.trans (Rk.of_below j0 (Zj h9.out.lt)));clear n5 n2 j0 cc t0 t1 t2 t3 t4 t5 t6;go_wp2_with fail;refine(en k0.out 112 fh fl fA fq fr).mono ?_;rintro e w4 ⟨⟨b,rfl⟩,j2,m5,-⟩;rw[if_pos rfl] at j2;have p4:=Qa j2;have q2:=Qa (k6.out.trans m5);clear j2 m5;go_wp2_with fail;go_ret2;exact⟨es,none,0,0,at_,k,112,rfl,p4.out,q2.out,Zb _,fun h=>absurd h (by decide)⟩
   ·have q0:(s.toList==ts.toList)=false:=by rw[jg];simp[he]
    have He:=Qa he;clear he;go_wp2_with fail;go_quiet (fail);go_wp2_with fail;exact⟨⟨i+1,by omega,by go_num,av Hb.out _,by rw[Hs.out];intro hm;rcases List.mem_append.1 hm with hm|hm;exact d5.out hm;exact He.out (List.mem_singleton.1 hm).symm⟩,by simp[intOf];omega⟩
  ·obtain rfl:i=names.length:=by omega
   rw[List.take_length] at d5;go_wp2_with fail;have d0:=Qa (show Rd xs rb wr.drew at_ k 0 from h9.out.below (Ze wr.heap.size wr).drew);have a9:=Qa (show wr.drew.heap[w.heap.size]?=_ from f2.out);have b2:=Qa (f0.out.trans (Rk.of_below (Ze wr.heap.size wr).drew (Zj h9.out.lt)));have j5:=Qa (show wr.drew.cell? ⟨w.heap.size,3,none⟩=some (.string ts) from t3);clear cc t0 t1 t2 t3 t4 t5 t6;generalize hwq:wr.drew=wq at d0 a9 b2 j5;have g0:=ac wq (.cells #[.int .i64 2,.int .i64 d,.int .i64 0,.string ts,.slice none 0 0] 239);have c5:=d0.out.lt;obtain⟨a1,a2,a3,a4,a5,a6,a7,L,m,hh,l,us,w0,h1,h2,h3,h4,h5,h6,h7⟩:=d0.out;have c12:=aa h1 (j:=12) (u:=.slice a3 _ a4) rfl;have g1:=(g0.block _ c5).trans h1;have H:=Qa (And.intro g1 (And.intro h2 (And.intro h3 (And.intro (h4.trans (g0.mono (Zj c5))) (And.intro (ao h5 g0 (Zb _)) h6)))));have m2:=Qa (ap wq [.int .i64 2,.int .i64 d,.int .i64 0,.string ts,.slice none 0 0] 239);have d9:=Qa g0;have m1:=Qa (show rb+1<=wq.heap.size from c5);have k4:=Qa h6;clear h1 h2 h3 h4 h5 h6 h7 g0 g1 c5;have C12:=Qa c12;clear c12;refine cP (fun w'=>w'.cell? ⟨rb,12,none⟩=some (.slice a3 k a4)/\w'.cell? ⟨w.heap.size,3,none⟩=some (.string ts)) 13 ((by rw[hwq];exact⟨C12.out,j5.out⟩)) fun a0=>?_
   rw[hwq] at a0 ⊢;clear hwq;refine tZ 0 a0 ?_;refine tZ 1 a0 ?_;refine tZ 2 a0 ?_;refine tZ 3 a0 ?_;refine tZ 4 a0 ?_;refine tZ 5 a0 ?_
   try simp only[Act.put,jP,jQ,jR]
   refine tZ 6 a0 ?_;refine tZ 7 a0 ?_;refine tZ 8 a0 ?_
   try simp only[Act.put,jP,jQ,jR]
   refine rZ 9 fun K hK=>?_
   go_simp;refine hK.out _ _ (fun _=>⟨Zg d9.out a0.1,Zg d9.out a0.2⟩) (fun a0=>?_);clear hK K;have a0:=a0 (by decide)
   try simp only[Act.put,jP,jQ,jR]
   refine rZ 10 fun K hK=>?_
   refine xU jp H.out.2.2.2.2.1 m2.out (Zc m1.out d9.out.size) ?_ (hlen:=(by have:=i4.out;have:=k4.out;unfold maxLen;omega)) (hby:=(by have:=i4.out;have:=k4.out;omega));intro v' w7 p1 p2 p3;have n8:=Qa p1;have i5:=Qa p2;(obtain⟨A',c',he,-⟩:=ag p1);subst he;have b5:=je H.out.1 H.out.2.1 H.out.2.2.1 H.out.2.2.2.1 H.out.2.2.2.2.1 H.out.2.2.2.2.2 i4.out n8.out i5.out;have r12:=aa b5.1 (j:=12) (u:=.slice a3 k a4) rfl;have f12:=ak b5.1 12;have i3:=Qa b5;clear p1 p2 p3 b5;have l1:=Qa ((Fc H.out.2.2.2.2.1 i5.out).2 _ _ _ _ ((d9.out.block _ (ae a9.out)).trans a9.out) (by decide));refine hK.out _ _ (fun _=>⟨r12,aa l1.out (j:=3) rfl⟩) (fun a0=>?_);clear hK K;have a0:=a0 (by decide)
   try simp only[Act.put,jP,jQ,jR]
   refine rZ 11 fun K hK=>?_
   go_simp;refine hK.out _ _ (fun _=>a0) (fun a0=>?_);clear hK K;have a0:=a0 (by decide)
   try simp only[Act.put,jP,jQ,jR]
   refine tZ 12 a0 ?_
   try simp only[Act.put,jP,jQ,jR]
   refine rZ 13 fun K hK=>?_
   go_simp;refine hK.out _ _ (fun h=>absurd rfl h) (fun _=>?_);clear hK K
   try simp only[Act.put,jP,jQ,jR]
   refine aW (by kernel_rfl) (NoPanic.normal ?_) _;clear a0 r12 f12;have n6:=Qa (b2.out.trans ((Rk.of_below d9.out (Zj d0.out.lt)).trans i3.out.2.2));have m4:=Qa i3.out.2.1;have g4:=Qa (((Rk.of_below d9.out (Zj d0.out.lt)).trans i3.out.2.2).row a9.out cI);clear i3 n8 i5 l1 H m2 d9 m1 k4 j5 a9 d0 b2 C12;go_wp2_with fail;generalize (w7.setCell ⟨rb,12,none⟩ (.slice A' (k+1) c'))=w8 at *;refine(dc m4.out (by omega)).mono ?_;rintro e w9 ⟨t9,at9,c9,rfl,l3,k1,f1,l4⟩;have k3:=Qa l3;have n0:=Qa (n6.out.trans k1);have e2:=Qa (k1.row g4.out cI);have m3:=Qa l4;have e0:=Qa f1;obtain⟨tk9,ta9,tm9,ts9,⟨dn9,dd9,dx9⟩⟩:=t9;rw[show kk ⟨tk9,ta9,tm9,ts9,⟨dn9,dd9,dx9⟩⟩ =.agg #[.int .i64 tk9,.int .i64 ta9,.int .u8 tm9,.string ts9,.bool dn9,.string dd9,.int .i64 dx9] from rfl];have c6:=ac w9 (.cells #[.int .i64 tk9,.int .i64 ta9,.int .u8 tm9,.string ts9,.bool dn9,.string dd9,.int .i64 dx9] 181);have b3:=Qa (Zf w9 (.cells #[.int .i64 tk9,.int .i64 ta9,.int .u8 tm9,.string ts9,.bool dn9,.string dd9,.int .i64 dx9] 181));have c8:=Qa (k3.out.below c6);have g6:=Qa (n0.out.trans (Rk.of_below c6 (Zj k3.out.lt)));have b7:=Qa ((c6.block _ (ae e2.out)).trans e2.out);clear l3 k1 f1 l4 c6 k3 n0 e2 m4 n6 g4;have mk:∀ (X:Int) (W:World),Calls Tryz.prog 113 #[.agg #[.int .i64 tk9,.int .i64 ta9,.int .u8 tm9,.string ts9,.bool dn9,.string dd9,.int .i64 dx9],.int .u8 X] W fun e w'=>ie ⟨tk9,ta9,tm9,ts9,⟨dn9,dd9,dx9⟩⟩ X W e w':=fun X W=>fc ⟨tk9,ta9,tm9,ts9,⟨dn9,dd9,dx9⟩⟩ X W
   have Mk:=Qa mk;clear mk;go_upto_region 14 with fail
   generalize (w9.alloc (.cells #[.int .i64 tk9,.int .i64 ta9,.int .u8 tm9,.string ts9,.bool dn9,.string dd9,.int .i64 dx9] 181))=w10 at *;generalize w9.heap.size=tb at *;go_cut [68] (fun s68 wx=>(∃b:Bool,s68 =.bool b/\(b=false->c9=0->tk9=1))/\Below w10.heap.size w10 wx)
   case first=>
    have cc:=c8.out.code;obtain⟨t0,t1,t2,t3,t4,t5,t6⟩:=aR (t:=⟨tk9,ta9,tm9,ts9,⟨dn9,dd9,dx9⟩⟩) b3.out
    by_cases hc:c9=0
    ·have Hc:=Qa hc;subst hc;go_wp2_with fail;refine(Mk.out 58 w10).mono ?_;rintro e w11 ⟨b,rfl,hm,b0⟩;have Hm:=Qa hm;have Hb11:=Qa b0;clear hm b0 t0 t1 t2 t3 t4 t5 t6 cc
     cases b
     ·go_wp2_with fail;go_meet
      case rel=>exact⟨⟨_,rfl,(fun h=>absurd h (by decide))⟩,Hb11.out⟩
     ·have Hm1:=Qa (Hm.out rfl);go_wp2_with fail;go_meet
      case rel=>exact⟨⟨_,rfl,(fun _ _=>Hm1.out)⟩,Hb11.out⟩
    ·have k9:(c9==0)=false:=by simpa using hc
     have Hc:=Qa hc;clear hc;go_wp2_with fail;go_meet
     case rel=>exact⟨⟨_,rfl,(fun _ h=>absurd h Hc.out)⟩,Ze _ _⟩
   case rest=>
    obtain⟨⟨b,rfl,hq⟩,b0⟩:=hcut;have Hq:=Qa hq;have b6:=Qa (c8.out.below b0);have b8:=Qa (g6.out.trans (Rk.of_below b0 (Zj c8.out.lt)));have c1:=Qa ((b0.block _ (ae b7.out)).trans b7.out);have b9:=Qa ((b0.block _ (ae b3.out)).trans b3.out);clear hq b0 c8 g6 b7 b3;obtain⟨w11,f4⟩:∃x,wc=x:=⟨_,rfl⟩;rw[f4] at b6 b8 c1 b9 ⊢;clear f4;obtain⟨t0,t1,t2,t3,t4,t5,t6⟩:=aR (t:=⟨tk9,ta9,tm9,ts9,⟨dn9,dd9,dx9⟩⟩) b9.out;have cc:=b6.out.code
    cases b
    case true=>
     have wr:Calls Tryz.prog 85 #[.pointer (some ⟨rb,0,none⟩),.agg #[.int .i64 tk9,.int .i64 ta9,.int .u8 tm9,.string ts9,.bool dn9,.string dd9,.int .i64 dx9]] w11 (jT xs rb w11 at9 (k+1)):=fd b6.out ⟨tk9,ta9,tm9,ts9,⟨dn9,dd9,dx9⟩⟩;have Wr:=Qa wr;clear wr;go_wp2_with fail;refine Za Wr ?_;rintro e w12 ⟨⟨v,rfl⟩,c12,e1,e3,g8⟩;have j1:=Qa e3;have i8:=Qa (b8.out.trans g8);have j3:=Qa e1;have k9:(c12 !=0)=true:=by simpa using e1
     clear cc t0 t1 t2 t3 t4 t5 t6;have cc:=e3.code;clear e3 g8 e1;go_wp2_with fail;go_ret2;exact⟨es,none,0,0,at9,k+1,c12,rfl,j1.out,i8.out,e0.out,fun h=>absurd h j3.out⟩
    by_cases hc:c9=0
    case neg=>
     have k9:(c9 !=0)=true:=by simpa using hc
     have Hc:=Qa hc;clear hc;go_wp2_with fail;go_ret2;exact⟨es,none,0,0,at9,k+1,c9,rfl,b6.out,b8.out,e0.out,fun h=>absurd h Hc.out⟩
    have g5:=Qa (Hq.out rfl hc);subst hc;have c7:=Qa (show at_+1<=at9 from(m3.out (by trivial)).1 (by show ¬tk9=5;have:=g5.out;omega));clear g5 Hq m3 Mk t0 t1 t2 t3 t4 t5 t6;go_wp2_with fail;refine(dc b6.out (by omega)).mono ?_;rintro e w12 ⟨t13,at13,c13,rfl,f6,e4,d3,g9⟩;have d6:=Qa f6;have f3:=Qa (b8.out.trans e4);have c2:=Qa (e4.row c1.out cI);have k2:=Qa g9;have b1:=Qa d3;obtain⟨tk13,ta13,tm13,ts13,⟨dn13,dd13,dx13⟩⟩:=t13;rw[show kk ⟨tk13,ta13,tm13,ts13,⟨dn13,dd13,dx13⟩⟩ =.agg #[.int .i64 tk13,.int .i64 ta13,.int .u8 tm13,.string ts13,.bool dn13,.string dd13,.int .i64 dx13] from rfl];have b4:=ac w12 (.cells #[.int .i64 tk13,.int .i64 ta13,.int .u8 tm13,.string ts13,.bool dn13,.string dd13,.int .i64 dx13] 181);have b3:=Qa (Zf w12 (.cells #[.int .i64 tk13,.int .i64 ta13,.int .u8 tm13,.string ts13,.bool dn13,.string dd13,.int .i64 dx13] 181));have e6:=Qa (d6.out.below b4);have g7:=Qa (f3.out.trans (Rk.of_below b4 (Zj d6.out.lt)));have d2:=Qa ((b4.block _ (ae c2.out)).trans c2.out);clear f6 e4 d3 g9 b4 d6 f3 c2 b6 b8 c1 b9 cc;go_upto_region 19 with fail
    generalize (w12.alloc (.cells #[.int .i64 tk13,.int .i64 ta13,.int .u8 tm13,.string ts13,.bool dn13,.string dd13,.int .i64 dx13] 181))=w14 at *;generalize w12.heap.size=tv at *;have d0:=Qa (show Rd xs rb w14.drew at13 (k+1) c13 from e6.out.below (Ze w14.heap.size w14).drew);have a9:=Qa (show w14.drew.heap[w.heap.size]?=_ from d2.out);have e5:=Qa (show w14.drew.heap[tv]?=_ from b3.out);have b2:=Qa (g7.out.trans (Rk.of_below (Ze w14.heap.size w14).drew (Zj e6.out.lt)));clear e6 d2 b3 g7;generalize hwq:w14.drew=wq at d0 a9 b2 e5;have hv:∀dd',Calls Tryz.prog 84 #[.pointer (some ⟨rb,0,none⟩),.agg #[.int .i64 tk13,.int .i64 ta13,.int .u8 tm13,.string ts13,.bool dn13,.string dd13,.int .i64 dx13],.int .i64 dd'] wq (jv asc xs rb wq at13 (¬tk13=5)):=fun dd'=>HV.out at13 ⟨tk13,ta13,tm13,ts13,⟨dn13,dd13,dx13⟩⟩ wq (k+1) c13 dd' (fun _ _=>by have:=c7.out;have:=b1.out;omega) d0.out (fun h=>⟨fun _=>by have:=c7.out;have:=b1.out;have:=i4.out;omega,(k2.out h).2⟩)
    have Hv:=Qa hv;clear hv;refine aA (fun w'=>w'.cell? ⟨w.heap.size,3,none⟩=some (.string ts)/\w'.cell? ⟨tv,0,none⟩=some (.int .i64 tk13)/\w'.cell? ⟨tv,1,none⟩=some (.int .i64 ta13)/\w'.cell? ⟨tv,2,none⟩=some (.int .u8 tm13)/\w'.cell? ⟨tv,3,none⟩=some (.string ts13)/\w'.cell? ⟨tv,4,none⟩=some (.bool dn13)/\w'.cell? ⟨tv,5,none⟩=some (.string dd13)/\w'.cell? ⟨tv,6,none⟩=some (.int .i64 dx13)) ((by rw[hwq];exact⟨aa a9.out (j:=3) rfl,aR (t:=⟨tk13,ta13,tm13,ts13,⟨dn13,dd13,dx13⟩⟩) e5.out⟩)) fun a0=>?_
    refine tH 0 a0 ?_;refine tH 1 a0 ?_;refine tH 2 a0 ?_;refine tH 3 a0 ?_;refine tH 4 a0 ?_;refine tH 5 a0 ?_
    try simp only[Act.put,jP,jQ,jR]
    refine rH 6 fun K hK=>?_
    go_simp;refine(Hv.out _).mono ?_;rintro e w15 ⟨A4,n4,q4,at15,k15,c15,rfl,f8,c4,d1,f9⟩;have l0:=Qa f8;have i9:=Qa (b2.out.trans c4);have d4:=Qa d1;have k5:=Qa f9;have e8:=Qa (c4.row a9.out cI);have i0:=Qa (c4.row e5.out cI);clear f8 c4 d1 f9;go_simp;refine hK.out _ _ (⟨aa e8.out (j:=3) rfl,aR (t:=⟨tk13,ta13,tm13,ts13,⟨dn13,dd13,dx13⟩⟩) i0.out⟩) (fun a0=>?_);clear hK K
    try simp only[Act.put,jP,jQ,jR]
    refine tH 7 a0 ?_;refine tH 8 a0 ?_
    try simp only[Act.put,jP,jQ,jR]
    refine wpAnyH_done (by kernel_rfl) (NoPanic.normal ?_) _;clear a0;go_wp2_with fail;go_ret2;exact⟨ts,A4,n4,q4,at15,k15,c15,rfl,l0.out,i9.out,by have:=d4.out;have:=b1.out;have:=e0.out;omega,fun h=>⟨by have:=d4.out;have:=b1.out;have:=c7.out;omega,o2.out,d5.out,by obtain⟨_,j,g1,g2,g3⟩:=k5.out h;exact⟨j,g1,g2.imp (fun g h _=>Zc b2.out.2.1 h),by have:=b1.out;have:=c7.out;omega⟩⟩⟩
def eW (bad:UInt8->Int):Nat->List UInt8->List Int
 |0,_=> []
 |_+1, []=> []
 |f+1,x::t=>if(bD (x::t)).2.2=0 then((bD (x::t)).1:Int)::eW bad f ((x::t).drop (bD (x::t)).2.1) else bad x::eW bad f t
def bO (bad:UInt8->Int)(xs:List UInt8):List Int:=eW bad xs.length xs
theorem lh (bad:UInt8->Int):∀ (f g:Nat) (xs:List UInt8),xs.length<=f->xs.length<=g->eW bad f xs=eW bad g xs
 |0,g,xs,h,_=>by
  obtain rfl:xs = []:=List.eq_nil_of_length_eq_zero (by omega)
  cases g <;> rfl
 |f+1,g, [],_,_=>by cases g <;> rfl
 |f+1,0,x::t,_,h=>by simp at h
 |f+1,g+1,x::t,h1,h2=>by
  simp only[List.length_cons] at h1 h2;unfold eW
  split
  ·rename_i h
   have hp:=eB h;rw[lh bad f g _ (by rw[List.length_drop,List.length_cons];omega) (by rw[List.length_drop,List.length_cons];omega)]
  ·rw[lh bad f g t (by omega) (by omega)]
theorem lu (bad:UInt8->Int):bO bad [] = []:=rfl
theorem fF {bad:UInt8->Int}(h0:xs≠ [])(h:(bD xs).2.2=0):bO bad xs= ((bD xs).1:Int)::bO bad (xs.drop (bD xs).2.1):=by
 cases xs with
 |nil=>exact absurd rfl h0
 |cons x t=>
  have hp:=eB h;unfold bO;rw[List.length_cons,eW,if_pos h,lh bad t.length _ _ (by rw[List.length_drop,List.length_cons];omega) (Zb _)]
theorem jo {bad:UInt8->Int}{x:UInt8}{t:List UInt8}(h:(bD (x::t)).2.2≠0):bO bad (x::t)=bad x::bO bad t:=by
 unfold bO;rw[List.length_cons,eW,if_neg h]
theorem im (bad:UInt8->Int):∀ {cs:List Int},(∀c∈cs,dF c=true)->bO bad (cs.flatMap bE)=cs
 | [],_=>rfl
 |c::cs,h=>by
  have hc:=h c (by simp);have h0:=dZ hc;obtain⟨n,rfl⟩:∃n:Nat,c=n:=⟨c.toNat,by omega⟩;have hd:=ip n hc (cs.flatMap bE);rw[List.flatMap_cons,fF (by simp[nY hc]) (by rw[hd]),hd];simp only[List.drop_left];rw[im bad (fun c hm=>h c (Zm _ hm))]
theorem pf {bad bad':UInt8->Int}(h:fo xs):bO bad xs=bO bad' xs:=by
 obtain⟨cs,h1,rfl⟩:=h;rw[im bad h1,im bad' h1]
def fL (x:UInt8):Int:=1114112+x.toNat
def Jy (c:Int):List UInt8:=if c<1114112 then bE c else [UInt8.ofNat (c - 1114112).toNat]
theorem ir:∀ (n:Nat) (xs:List UInt8),xs.length<=n->(bO fL xs).flatMap Jy=xs
 |_, [],_=>rfl
 |0,x::t,h=>by simp at h
 |n+1,x::t,h=>by
  simp only[List.length_cons] at h
  by_cases hd:(bD (x::t)).2.2=0
  ·have ⟨h1,h2⟩:=ju hd;have hp:=eB hd;rw[fF (by simp) hd,List.flatMap_cons,ir n _ (by rw[List.length_drop,List.length_cons];omega)];unfold Jy;rw[if_pos (by have:=Di h2;omega),h1,List.take_append_drop]
  ·rw[jo hd,List.flatMap_cons,ir n t (by omega)];unfold Jy fL;rw[if_neg (by have:=x.toNat_lt;omega),show(1114112+ (x.toNat:Int) - 1114112).toNat=x.toNat by omega,UInt8.ofNat_toNat];rfl
def nm (s:ByteArray):List Int:=bO fL s.data.toList
theorem Dl {s t:ByteArray}(h:nm s=nm t):s=t:=by
 have h1:=ir _ s.data.toList (Zb _);have h2:=ir _ t.data.toList (Zb _);unfold nm at h;rw[h,h2] at h1
 cases s with|mk s=>cases t with|mk t=>simp at h1;simp[h1]
def aw:List Int->List Int->Int
 | [], []=>0
 | [],_::_=> -1
 |_::_, []=>1
 |a::x,b::y=>if a<b then -1 else if b<a then 1 else aw x y
theorem kr:∀ {x y:List Int},aw x y=0->x=y
 | [], [],_=>rfl
 | [],_::_,h=>by simp[aw] at h
 |_::_, [],h=>by simp[aw] at h
 |a::x,b::y,h=>by
  unfold aw at h
  split at h
  ·simp at h
  ·split at h
   ·simp at h
   ·rw[kr h,show a=b by omega]
theorem ei:∀x:List Int,aw x x=0
 | []=>rfl
 |a::x=>by unfold aw;rw[if_neg (by omega),if_neg (by omega),ei x]
theorem ly:∀x y:List Int,aw y x = - aw x y
 | [], []=>rfl
 | [],_::_=>rfl
 |_::_, []=>rfl
 |a::x,b::y=>by
  unfold aw
  by_cases h1:a<b
  ·rw[if_neg (by omega),if_pos h1,if_pos h1];rfl
  ·by_cases h2:b<a
   ·rw[if_pos h2,if_neg h1,if_pos h2];try rfl
   ·rw[if_neg h2,if_neg h1,if_neg h1,if_neg h2,ly x y]
theorem yH:∀x y:List Int,-1<=aw x y/\aw x y<=1
 | [], []=>by simp[aw]
 | [],_::_=>by simp[aw]
 |_::_, []=>by simp[aw]
 |a::x,b::y=>by
  unfold aw
  split
  ·omega
  ·split
   ·omega
   ·exact yH x y
theorem jZ:∀ {x y z:List Int},aw x y<0->aw y z<0->aw x z<0
 | [],y, [],h1,h2=>by cases y <;> simp[aw] at h1 h2
 | [],_,_::_,_,_=>by simp[aw]
 |_::_, [],_,h1,_=>by simp[aw] at h1
 |_::_,_::_, [],_,h2=>by simp[aw] at h2
 |a::x,b::y,c::z,h1,h2=>by
  unfold aw at h1 h2 ⊢
  by_cases ab:a<b
  ·rw[if_pos ab] at h1
   by_cases bc:b<c
   ·rw[if_pos (by omega)];omega
   ·rw[if_neg bc] at h2
    by_cases cb:c<b
    ·rw[if_pos cb] at h2;omega
    ·rw[if_pos (by omega)];omega
  ·rw[if_neg ab] at h1
   by_cases ba:b<a
   ·rw[if_pos ba] at h1;omega
   ·rw[if_neg ba] at h1
    by_cases bc:b<c
    ·rw[if_pos (by omega)];omega
    ·rw[if_neg bc] at h2
     by_cases cb:c<b
     ·rw[if_pos cb] at h2;omega
     ·rw[if_neg cb] at h2;rw[if_neg (by omega),if_neg (by omega)];exact jZ h1 h2
def fD (a b:ByteArray):Prop:=aw (nm a) (nm b)<0
theorem gJ {a b c:ByteArray}(h1:fD a b)(h2:fD b c):fD a c:=jZ h1 h2
theorem j4 (a:ByteArray):¬fD a a:=by unfold fD;rw[ei];omega
theorem jm {a b:ByteArray}(h:¬fD a b)(hne:a≠b):fD b a:=by
 unfold fD at *;have h1:=ly (nm a) (nm b)
 by_cases h0:aw (nm a) (nm b)=0
 ·exact absurd (Dl (kr h0)) hne
 ·omega
theorem mR {a b:ByteArray}(h:fD a b):a≠b:=fun e=>by subst e;exact j4 _ h
def f7 (ns:List ByteArray):Prop:=ns.Pairwise fD
theorem pV {α:Type}{f:α->ByteArray}:∀ {l m:List α},l.Perm m->(l.map f).Pairwise fD->(m.map f).Pairwise fD->l=m
 | [],m,hp,_,_=>by have:=hp.length_eq;simp at this;rw[List.eq_nil_of_length_eq_zero this.symm]
 |a::l, [],hp,_,_=>by have:=hp.length_eq;simp at this
 |a::l,b::m,hp,h1,h2=>by
  simp only[List.map_cons,List.pairwise_cons] at h1 h2
  by_cases hab:a=b
  ·subst hab;rw[pV (List.Perm.cons_inv hp) h1.2 h2.2]
  ·have hb:b∈a::l:=hp.mem_iff.2 (by simp);have ha:a∈b::m:=hp.mem_iff.1 (by simp);have a1:b∈l:=by rcases List.mem_cons.1 hb with e|h;exact absurd e.symm hab;exact h
   have a0:a∈m:=by rcases List.mem_cons.1 ha with e|h;exact absurd e hab;exact h
   exact absurd (gJ (h1.1 (f b) (List.mem_map_of_mem a1)) (h2.1 (f a) (List.mem_map_of_mem a0))) (j4 _)
theorem sk (a:Nat)(h:so.Perm (List.range i)):(so.take a ++ [i]++so.drop a).Perm (List.range (i+1)):=by
 rw[List.range_succ];refine List.Perm.trans ?_ (h.append_right [i]);rw[List.append_assoc];refine(List.perm_append_comm_assoc (so.take a) [i] (so.drop a)).trans ?_;refine List.Perm.trans ?_ (List.perm_append_comm);rw[List.take_append_drop]
theorem ux {f:Nat->ByteArray}{a:Nat}(hp:(so.map f).Pairwise fD)(h1:∀j x,j<a->so[j]?=some x->fD (f x) (f i))(h2:∀x,so[a]?=some x->fD (f i) (f x)) :
  ((so.take a ++ [i]++so.drop a).map f).Pairwise fD:=by
 have a0:=hp;rw[<-List.take_append_drop a so,List.map_append,List.pairwise_append] at a0;obtain⟨p1,p2,p3⟩:=a0;have hd:∀y∈so.drop a,fD (f i) (f y):=by
  intro y hy
  cases hx:so[a]? with
  |none=>
   have:so.length<=a:=List.getElem?_eq_none_iff.1 hx;rw[List.drop_eq_nil_of_le this] at hy
   cases hy
  |some x=>
   obtain⟨hlt,a4⟩:=List.getElem?_eq_some_iff.1 hx;rw[List.drop_eq_getElem_cons hlt,a4] at hy p2;rcases List.mem_cons.1 hy with rfl|hy
   ·exact h2 _ hx
   ·rw[List.map_cons,List.pairwise_cons] at p2;exact gJ (h2 x hx) (p2.1 _ (List.mem_map_of_mem hy))
 have ht:∀y∈so.take a,fD (f y) (f i):=by
  intro y hy;obtain⟨j,hj,rfl⟩:=List.getElem_of_mem hy;have a1:j<a/\j<so.length:=by rw[List.length_take] at hj;omega
  refine h1 j _ a1.1 ?_;rw[List.getElem_take,Zd a1.2]
 rw[List.map_append,List.map_append,List.pairwise_append,List.pairwise_append];refine⟨⟨p1,by simp,?_⟩,p2,?_⟩
 ·intro x hx y hy;obtain⟨x',a2,rfl⟩:=List.mem_map.1 hx;simp at hy;subst hy;exact ht _ a2
 ·intro x hx y hy;obtain⟨y',a3,rfl⟩:=List.mem_map.1 hy;rcases List.mem_append.1 hx with hx|hx
  ·exact p3 x hx _ hy
  ·simp at hx;subst hx;exact hd _ a3
def d0:ByteArray×JV:=(⟨#[]⟩,.mk 0 false ⟨#[]⟩ ⟨false,⟨#[]⟩,0⟩ [] [])
def eS (names:List ByteArray)(ts:List JV)(k:Nat):ByteArray×JV:=(names.zip ts).getD k d0
theorem iI {α:Type}(l:List α)(d:α):(List.range l.length).map (fun k=>l.getD k d)=l:=by
 apply List.ext_getElem
 ·simp
 ·intro i h1 h2;simp[List.getD_eq_getElem?_getD,Zd h2]
theorem ym {names:List ByteArray}(h:so.Perm (List.range (names.zip ts).length)):(so.map (eS names ts)).Perm (names.zip ts):=by
 have:=h.map (eS names ts);unfold eS at this
 rwa[iI] at this
theorem BL {names:List ByteArray}(hl:names.length=ts.length){k:Nat}(hk:k<names.length):(eS names ts k).1=names.getD k ⟨#[]⟩:=by
 unfold eS;rw[List.getD_eq_getElem?_getD,List.getD_eq_getElem?_getD,Zd (by simp;omega),Zd hk];simp
theorem Ep {names:List ByteArray}(hl:names.length=ts.length){k:Nat}{t:JV}(hk:ts[k]?=some t):(eS names ts k).2=t:=by
 obtain⟨h1,h2⟩:=List.getElem?_eq_some_iff.1 hk;unfold eS;rw[List.getD_eq_getElem?_getD,Zd (by simp;omega)];simp[h2]
theorem vE (h:ns.Pairwise fD):ns.Nodup:=h.imp (fun h=>mR h)
theorem uL {names:List ByteArray}(h:so.Perm (List.range names.length))(hr:(so.map (fun k=>names.getD k ⟨#[]⟩)).Pairwise fD):names.Nodup:=by
 have h1:=h.map (fun k=>names.getD k (⟨#[]⟩:ByteArray));rw[iI] at h1;exact h1.nodup_iff.1 (vE hr)
theorem Bj {names:List ByteArray}(h:names.Nodup){j:Nat}{s:ByteArray}(hi:names[i]?=some s)(hj:names[j]?=some s):i=j:=by
 obtain⟨h1,h2⟩:=List.getElem?_eq_some_iff.1 hi;obtain⟨h3,h4⟩:=List.getElem?_eq_some_iff.1 hj;exact(List.getElem_inj h).1 (h2.trans h4.symm)
def lA (names:List ByteArray)(ts:List JV)(ps:List (ByteArray×JV)):Prop:=ps.Perm (names.zip ts)/\f7 (ps.map Prod.fst)
theorem lA.sizes {names:List ByteArray}{ps:List (ByteArray×JV)}(hl:names.length=ts.length)(h:lA names ts ps):JV.sizes (ps.map Prod.snd)=JV.sizes ts/\(ps.map Prod.snd).Perm ts/\(ps.map Prod.fst).Perm names:=by
 have h1:(ps.map Prod.snd).Perm ts:=by have:=h.1.map Prod.snd;rwa[List.map_snd_zip (by omega)] at this
 have h2:(ps.map Prod.fst).Perm names:=by have:=h.1.map Prod.fst;rwa[List.map_fst_zip (by omega)] at this
 refine⟨?_,h1,h2⟩;have hs:∀l m:List JV,l.Perm m->JV.sizes l=JV.sizes m:=by
  intro l m hp
  induction hp with
  |nil=>rfl
  |cons x _ ih=>simp[JV.sizes,ih]
  |swap x y l=>simp[JV.sizes];omega
  |trans _ _ ih1 ih2=>exact ih1.trans ih2
 exact hs _ _ h1
def Ea (n:Nat)(f:Nat->Nat):Nat×Nat:=
 if f 0<128 then(f 0,1)
 else if f 0/32=6/\(1<n/\f 1/64=2) then(if(f 0 % 32)*64+f 1 % 64 ≥ 128 then((f 0 % 32)*64+f 1 % 64,2) else(65533,1))
 else if(f 0/16=14/\(1<n/\f 1/64=2))/\(2<n/\f 2/64=2) then
  (if(f 0 % 16)*4096+ (f 1 % 64)*64+f 2 % 64 ≥ 2048/\Utf8.valid (((f 0 % 16)*4096+ (f 1 % 64)*64+f 2 % 64:Nat):Int)=true then((f 0 % 16)*4096+ (f 1 % 64)*64+f 2 % 64,3) else(65533,1))
 else if((f 0/8=30/\(1<n/\f 1/64=2))/\(2<n/\f 2/64=2))/\(3<n/\f 3/64=2) then
  (if(f 0 % 8)*262144+ (f 1 % 64)*4096+ (f 2 % 64)*64+f 3 % 64 ≥ 65536/\Utf8.valid (((f 0 % 8)*262144+ (f 1 % 64)*4096+ (f 2 % 64)*64+f 3 % 64:Nat):Int)=true then((f 0 % 8)*262144+ (f 1 % 64)*4096+ (f 2 % 64)*64+f 3 % 64,4) else(65533,1))
 else(65533,1)
theorem xS (s:ByteArray)(i k:Nat):(s.get! (i+k)).toNat=am (s.data.toList.drop i) k:=by
 rw[iW];unfold am
 show(s.data[i+k]!).toNat=_
 rw[List.getD_eq_getElem?_getD,Array.getElem?_toList,getElem!_def]
 cases s.data[i+k]? <;> rfl
theorem tW (s:ByteArray)(i:Nat):Utf8.decode s i=Ea (s.data.toList.drop i).length (am (s.data.toList.drop i)):=by
 have hn:∀k,(i+k<s.size)= (k< (s.data.toList.drop i).length):=by
  intro k;rw[List.length_drop,Array.length_toList];show(i+k<s.data.size)=_;exact propext ⟨fun h=>by omega,fun h=>by omega⟩
 unfold Utf8.decode Ea;simp only[xS,hn,Utf8.runeError,Bool.and_eq_true,decide_eq_true_eq,beq_iff_eq,and_assoc]
theorem lC (n:Nat):Utf8.valid (n:Int)=true↔n<=1114111/\¬ (55296<=n/\n<=57343):=by
 unfold Utf8.valid;simp;omega
theorem C7 (h0:xs≠ []):Ea xs.length (am xs)=if(bD xs).2.2=0 then((bD xs).1,(bD xs).2.1) else(65533,1):=by
 by_cases hd:(bD xs).2.2=0
 ·rw[if_pos hd];rcases lE hd with ⟨a,t,rfl,h1,e⟩|⟨a,b,t,rfl,h1,hs,e⟩|⟨a,b,c,t,rfl,h1,hs,ht,e⟩|⟨a,b,c,d,t,rfl,h1,hs,ht,a1,e⟩ <;> rw[e] <;> unfold Ea <;> simp only[lC]
  ·rw[uw,if_pos h1]
  ·unfold iK at hs;have hb:=b8 b;rw[uw,iy,if_neg (by omega),if_pos ⟨by omega,by simp,by omega⟩,if_pos (by omega)]
  ·unfold iK at hs;unfold tl at ht;have hb:=b8 b;have hc:=b8 c;rw[uw,iy,kO,if_neg (by omega),if_neg (by omega),if_pos ⟨⟨by omega,by simp,by omega⟩,by simp,by omega⟩,if_pos (by omega)]
   congr 1;omega
  ·unfold iK at hs;unfold tl at ht a1;have hb:=b8 b;have hc:=b8 c;have a0:=b8 d;rw[uw,iy,kO,G8,if_neg (by omega),if_neg (by omega),if_neg (by omega),if_pos ⟨⟨⟨by omega,by simp,by omega⟩,by simp,by omega⟩,by simp,by omega⟩,if_pos (by omega)]
   congr 1;omega
 ·rw[if_neg hd];unfold Ea;simp only[lC]
  cases xs with
  |nil=>exact absurd rfl h0
  |cons a t=>
   have ha:=b8 a
   by_cases h1:a.toNat<128
   ·exact absurd (by rw[wE a t h1]) hd
   rw[uw,if_neg h1]
   split
   ·rename_i h2
    split
    ·rename_i h3
     cases t with
     |nil=>simp at h2
     |cons b t=>
      rw[iy] at h2 h3;have hb:=b8 b;exact absurd (by rw[wK a (b::t) (by omega)];simp only;rw[if_pos (by unfold iK;omega)]) hd
    ·rfl
   ·split
    ·rename_i h2
     split
     ·rename_i h3
      rcases t with _|⟨b,_|⟨c,t⟩⟩
      ·simp at h2
      ·simp at h2
      ·rw[iy,kO] at h2 h3;have hb:=b8 b;have hc:=b8 c;exact absurd (by rw[yl a (b::c::t) (by omega)];simp only;rw[if_pos (by unfold iK;omega),if_pos (by unfold tl;omega)]) hd
     ·rfl
    ·split
     ·rename_i h2
      split
      ·rename_i h3
       rcases t with _|⟨b,_|⟨c,_|⟨d,t⟩⟩⟩
       ·simp at h2
       ·simp at h2
       ·simp at h2
       ·rw[iy,kO,G8] at h2 h3;have hb:=b8 b;have hc:=b8 c;have a0:=b8 d;exact absurd (by rw[yr a (b::c::d::t) (by omega)];simp only;rw[if_pos (by unfold iK;omega),if_pos (by unfold tl;omega),if_pos (by unfold tl;omega)]) hd
      ·rfl
     ·rfl
theorem mS (s:ByteArray)(i:Nat)(h:i<s.size):Utf8.decode s i=if(bD (s.data.toList.drop i)).2.2=0 then((bD (s.data.toList.drop i)).1,(bD (s.data.toList.drop i)).2.1) else(65533,1):=by
 rw[tW];apply C7;intro e;have:=congrArg List.length e;rw[List.length_drop,Array.length_toList] at this;have:s.size=s.data.size:=rfl;simp at *;omega
theorem Cq:bE ((65533:Nat):Int) = [239,191,189]:=by rw[pG 65533 (by omega) (by omega)];rfl
