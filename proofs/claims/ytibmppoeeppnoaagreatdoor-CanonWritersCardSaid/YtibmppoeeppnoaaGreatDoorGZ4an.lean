import Derived.Test.YtibmppoeeppnoaaGreatDoorGZ4am
set_option linter.unusedVariables false
set_option linter.unusedSimpArgs false
set_option maxHeartbeats 64000000
set_option maxRecDepth 100000
namespace Go.Proofs.YtibmppoeeppnoaaGreatDoor
open Go.RowKit
variable {s:ByteArray}{names ns:List ByteArray}{ts:List JV}{so:List Nat}{xs:List UInt8}{us:List Value}{B a at_ i k rb:Nat}{v:Value}{W W':World}
def Ia (asc:List ByteArray->Prop)(xs:List UInt8)(rb:Nat)(w:World)(at_:Nat)(names:List ByteArray)(e:Ending)(w':World):Prop:= ∃ (s:ByteArray) (A:Option Addr) (n q at' k':Nat) (c:Int),e =.returned (.tuple #[.string s,.slice A n q])/\Rd xs rb w' at' k' c/\Rk rb w w'/\at_<=at'/\
 (c=0->at_+1<=at'/\iT s/\s∉names/\∃j:JV,bR asc j/\bF (w.heap.size<= ·) w' rb (.slice A n q) (j.flat 0)/\j.size+at_<=at')
theorem Dh (h:W.ownsRow B 237 5 v k us)(hg:W.grownBy W' v.ownBlock):aG (fun e=>e=237) W W':=
 aG.of_grown hg (fun g e cs t z hh=>by obtain⟨cs',z',h'⟩:=cD h g e;rw[h'] at hh;injection hh with hh;injection hh with _ hh;exact hh.symm)
def CB (w1:World)(s:ByteArray)(names:List ByteArray)(s10:Value)(wr:World):Prop:= ∃i:Nat,i<=names.length/\s10 =.int .i64 i/\Below w1.heap.size w1 wr/\s∉names.take i
theorem sI (asc:List ByteArray->Prop)(hl:xs.length<=6000){uj:Nat}
  (hV:∀ (iu:Nat) (t:Tk) (w:World) (k:Nat) (c:Int) (d:Int),(c=0->t.kind≠5->uj+1<=iu)->Rd xs rb w iu k c->(c=0->(t.kind≠5->k+1<=iu)/\js t)->
   Calls Tryz.prog 83 #[.pointer (some ⟨rb,0,none⟩),kf t,.int .i64 d] w (jq asc xs rb w iu (t.kind≠5)))
  {w:World} {k:Nat} {c:Int} (t:Tk) (d:Int) {vn:Value} {B:Nat} {names:List ByteArray} (h:Rd xs rb w at_ k c) (hn:cI w B vn names) (hat:uj<=at_) (hk:c=0->(t.kind≠5->k+1<=at_)/\js t) :
  Calls Tryz.prog 151 #[.pointer (some ⟨rb,0,none⟩),kf t,.int .i64 d,vn] w (Ia asc xs rb w at_ names):=by
 have n1:=Qa hk;have HV:=Qa hV;obtain⟨An,cn,rfl,hcn,q0,n0⟩:=ag hn;unfold maxLen at q0;have n9:=Qa n0;have b9:=ac w (.cells (ep t) 180);have Hn:=Qa (hn.below b9 (Za _));have i2:=Qa (Ze w (.cells (ep t) 180));have HR:=Qa (h.below b9);have f2:=Qa (Rk.of_below b9 (Zi h.lt));have hrb:=h.lt;have cc:=(h.below b9).code;clear hk hV h hn n0 b9;obtain⟨tk,ta,tm,ts,⟨dn,dd,dx⟩⟩:=t;unfold kf;simp only[ep] at HR i2 f2 Hn cc;go_enter Tryz.func151,Tryz.ntmps151
 by_cases hc:c=0
 case neg=>
  have k1:(c !=0)=true:=by simpa using hc
  have Hc:=Qa hc;clear hc;go_wp2_with fail;go_ret2;exact⟨es,none,0,0,at_,k,c,rfl,HR.out,f2.out,Za _,fun h=>absurd h Hc.out⟩
 subst hc;obtain⟨hk,h8⟩:=n1.out rfl;have Hk:=Qa hk;have H8:=Qa h8;clear hk h8 n1;obtain⟨t0,t1,t2,t3,t4,t5,t6⟩:=aW (t:=⟨tk,ta,tm,ts,⟨dn,dd,dx⟩⟩) i2.out
 by_cases h4:tk=4
 case neg=>
  have q5:(tk !=4)=true:=by simpa using h4
  clear h4;have wr:∀W,Rd xs rb W at_ k 0->Calls Tryz.prog 84 #[.pointer (some ⟨rb,0,none⟩),.agg #[.int .i64 tk,.int .i64 ta,.int .u8 tm,.string ts,.bool dn,.string dd,.int .i64 dx]] W (jY xs rb W at_ k):=fun W h=>fg h ⟨tk,ta,tm,ts,⟨dn,dd,dx⟩⟩
  have Wr:=Qa wr;clear wr;go_wp2_with fail;refine(Wr.out _ HR.out).mono ?_;rintro e w3 ⟨⟨v,rfl⟩,c3,n5,n6,m4⟩;have Hc:=Qa n5;have j0:=Qa n6;have i5:=Qa (f2.out.trans m4);clear n5 n6 m4;go_wp2_with fail;go_ret2;exact⟨es,none,0,0,at_,k,c3,rfl,j0.out,i5.out,Za _,fun h=>absurd h Hc.out⟩
 subst h4;have m1:=Hk.out (by show ¬ (4:Int)=5;decide);have n2:=H8.out.1 rfl;have i0:=Qa m1;have q1:=Qa n2;clear m1 n2 Hk H8;go_upto_region 6 with fail
 generalize (w.alloc (.cells #[.int .i64 4,.int .i64 ta,.int .u8 tm,.string ts,.bool dn,.string dd,.int .i64 dx] 180))=w1 at *;go_wp2_with fail
 go_loopw [10] (CB w1 ts names) (fun i _=>names.length - (intOf i).toNat)
 case atStart=>exact⟨0,Zj _,rfl,Zd _ _,by simp⟩
 case round=>
  obtain⟨i,hi,rfl,hb,g9⟩:=hrel;have Hb:=Qa hb;have e0:=Qa g9;have g0:=Qa (HR.out.below hb);have f1:=Qa ((hb.block _ (ae i2.out)).trans i2.out);have p4:=Qa (Hn.out.below hb (Za _));have e8:=Qa (f2.out.trans (Rk.of_below hb (Zb (Zi hrb) f2.out.2.1)));clear cc t0 t1 t2 t3 t4 t5 t6 hb g9;obtain⟨t0,t1,t2,t3,t4,t5,t6⟩:=aW (t:=⟨4,ta,tm,ts,⟨dn,dd,dx⟩⟩) f1.out;have cc:=g0.out.code
  by_cases hlt:i<names.length
  ·obtain⟨gn,rfl⟩:=n9.out (by omega);obtain⟨s,hs⟩:∃s,names[i]?=some s:=⟨_,Zc hlt⟩;have cn:=aD p4.out rfl i (by omega);rw[List.getElem?_map,hs] at cn;simp only[Option.map_some,dL] at cn;have Hs:=Qa (show names.take (i+1)=names.take i ++ [s] from bU hs);have q3:(i:Int)<names.length:=by omega
   clear hs
   by_cases he:s=ts
   ·have p0:(s.toList==ts.toList)=true:=by rw[jh];simp[he]
    clear he;go_wp2_with fail;go_quiet (fail);go_wp2_with fail;refine(cv 112 ta _).mono ?_;rintro e w2 ⟨u,rfl,⟨fh,fl,fs,rfl,l4⟩,m0⟩;obtain⟨fA,fq,fr,rfl,-⟩:=l4.slice;have k6:Below wr.heap.size wr w2:=(av (Zd _ _) _).trans m0;have j0:=Qa (g0.out.below k6);have i5:=Qa (e8.out.trans (Rk.of_below k6 (Zi g0.out.lt)));clear l4 m0 k6 cc t0 t1 t2 t3 t4 t5 t6;go_wp2_with fail;refine(ei j0.out 112 fh fl fA fq fr).mono ?_;rintro e w4 ⟨⟨b,rfl⟩,j3,l2,-⟩;rw[if_pos rfl] at j3;have q2:=Qa j3;have o2:=Qa (i5.out.trans l2);clear j3 l2;go_wp2_with fail;go_ret2;exact⟨es,none,0,0,at_,k,112,rfl,q2.out,o2.out,Za _,fun h=>absurd h (by decide)⟩
   ·have p0:(s.toList==ts.toList)=false:=by rw[jh];simp[he]
    have He:=Qa he;clear he;go_wp2_with fail;go_quiet (fail);go_wp2_with fail;exact⟨⟨i+1,by omega,by go_num,av Hb.out _,by rw[Hs.out];intro hm;rcases List.mem_append.1 hm with hm|hm;exact e0.out hm;exact He.out (List.mem_singleton.1 hm).symm⟩,by simp[intOf];omega⟩
  ·obtain rfl:i=names.length:=by omega
   rw[List.take_length] at e0;go_wp2_with fail;have c6:=Qa (show Rd xs rb wr.drew at_ k 0 from g0.out.below (Zd wr.heap.size wr).drew);have a9:=Qa (show wr.drew.heap[w.heap.size]?=_ from f1.out);have b3:=Qa (e8.out.trans (Rk.of_below (Zd wr.heap.size wr).drew (Zi g0.out.lt)));have j1:=Qa (show wr.drew.cell? ⟨w.heap.size,3,none⟩=some (.string ts) from t3);clear cc t0 t1 t2 t3 t4 t5 t6;generalize hwq:wr.drew=wq at c6 a9 b3 j1;have f0:=ac wq (.cells #[.int .i64 2,.int .i64 d,.int .i64 0,.string ts,.slice none 0 0] 237);have d0:=c6.out.lt;obtain⟨a1,a2,a3,a4,a5,a6,a7,L,m,hh,l,us,w0,h1,h2,h3,h4,h5,h6,h7⟩:=c6.out;have c12:=aa h1 (j:=12) (u:=.slice a3 _ a4) rfl;have g1:=(f0.block _ d0).trans h1;have H:=Qa (And.intro g1 (And.intro h2 (And.intro h3 (And.intro (h4.trans (f0.mono (Zi d0))) (And.intro (ao h5 f0 (Za _)) h6)))));have l3:=Qa (ap wq [.int .i64 2,.int .i64 d,.int .i64 0,.string ts,.slice none 0 0] 237);have e5:=Qa f0;have m9:=Qa (show rb+1<=wq.heap.size from d0);have k4:=Qa h6;clear h1 h2 h3 h4 h5 h6 h7 f0 g1 d0;have C12:=Qa c12;clear c12;refine cP (fun w'=>w'.cell? ⟨rb,12,none⟩=some (.slice a3 k a4)/\w'.cell? ⟨w.heap.size,3,none⟩=some (.string ts)) 13 ((by rw[hwq];exact⟨C12.out,j1.out⟩)) fun a0=>?_
   rw[hwq] at a0 ⊢;clear hwq;refine tZ 0 a0 ?_;refine tZ 1 a0 ?_;refine tZ 2 a0 ?_;refine tZ 3 a0 ?_;refine tZ 4 a0 ?_;refine tZ 5 a0 ?_
   try simp only[Act.put,jP,jQ,jR]
   refine tZ 6 a0 ?_;refine tZ 7 a0 ?_;refine tZ 8 a0 ?_
   try simp only[Act.put,jP,jQ,jR]
   refine rZ 9 fun K hK=>?_
   go_simp;refine hK.out _ _ (fun _=>⟨Zf e5.out a0.1,Zf e5.out a0.2⟩) (fun a0=>?_);clear hK K;have a0:=a0 (by decide)
   try simp only[Act.put,jP,jQ,jR]
   refine rZ 10 fun K hK=>?_
   refine vm jc H.out.2.2.2.2.1 l3.out (Zb m9.out e5.out.size) ?_ (hlen:=(by have:=i0.out;have:=k4.out;unfold maxLen;omega)) (hby:=(by have:=i0.out;have:=k4.out;omega));intro v' w7 p1 p2 p3;have m3:=Qa p1;have k9:=Qa p2;(obtain⟨A',c',he,-⟩:=ag p1);subst he;have b5:=jl H.out.1 H.out.2.1 H.out.2.2.1 H.out.2.2.2.1 H.out.2.2.2.2.1 H.out.2.2.2.2.2 i0.out m3.out k9.out;have r12:=aa b5.1 (j:=12) (u:=.slice a3 k a4) rfl;have f12:=aj b5.1 12;have h9:=Qa b5;clear p1 p2 p3 b5;have m5:=Qa ((Dh H.out.2.2.2.2.1 k9.out).2 _ _ _ _ ((e5.out.block _ (ae a9.out)).trans a9.out) (by decide));refine hK.out _ _ (fun _=>⟨r12,aa m5.out (j:=3) rfl⟩) (fun a0=>?_);clear hK K;have a0:=a0 (by decide)
   try simp only[Act.put,jP,jQ,jR]
   refine rZ 11 fun K hK=>?_
   go_simp;refine hK.out _ _ (fun _=>a0) (fun a0=>?_);clear hK K;have a0:=a0 (by decide)
   try simp only[Act.put,jP,jQ,jR]
   refine tZ 12 a0 ?_
   try simp only[Act.put,jP,jQ,jR]
   refine rZ 13 fun K hK=>?_
   go_simp;refine hK.out _ _ (fun h=>absurd rfl h) (fun _=>?_);clear hK K
   try simp only[Act.put,jP,jQ,jR]
   refine aV (by kernel_rfl) (NoPanic.normal ?_) _;clear a0 r12 f12;have l1:=Qa (b3.out.trans ((Rk.of_below e5.out (Zi c6.out.lt)).trans h9.out.2.2));have n3:=Qa h9.out.2.1;have g4:=Qa (((Rk.of_below e5.out (Zi c6.out.lt)).trans h9.out.2.2).row a9.out cC);clear h9 m3 k9 m5 H l3 e5 m9 k4 j1 a9 c6 b3 C12;go_wp2_with fail;generalize (w7.setCell ⟨rb,12,none⟩ (.slice A' (k+1) c'))=w8 at *;refine(cX n3.out (by omega)).mono ?_;rintro e w9 ⟨t9,at9,c9,rfl,m2,i9,f8,l5⟩;have k3:=Qa m2;have l0:=Qa (l1.out.trans i9);have d7:=Qa (i9.row g4.out cC);have n8:=Qa l5;have e1:=Qa f8;obtain⟨tk9,ta9,tm9,ts9,⟨dn9,dd9,dx9⟩⟩:=t9;rw[show kf ⟨tk9,ta9,tm9,ts9,⟨dn9,dd9,dx9⟩⟩ =.agg #[.int .i64 tk9,.int .i64 ta9,.int .u8 tm9,.string ts9,.bool dn9,.string dd9,.int .i64 dx9] from rfl];have c7:=ac w9 (.cells #[.int .i64 tk9,.int .i64 ta9,.int .u8 tm9,.string ts9,.bool dn9,.string dd9,.int .i64 dx9] 180);have b2:=Qa (Ze w9 (.cells #[.int .i64 tk9,.int .i64 ta9,.int .u8 tm9,.string ts9,.bool dn9,.string dd9,.int .i64 dx9] 180));have c8:=Qa (k3.out.below c7);have e6:=Qa (l0.out.trans (Rk.of_below c7 (Zi k3.out.lt)));have b8:=Qa ((c7.block _ (ae d7.out)).trans d7.out);clear m2 i9 f8 l5 c7 k3 l0 d7 n3 l1 g4;have mk:∀ (X:Int) (W:World),Calls Tryz.prog 110 #[.agg #[.int .i64 tk9,.int .i64 ta9,.int .u8 tm9,.string ts9,.bool dn9,.string dd9,.int .i64 dx9],.int .u8 X] W fun e w'=>ie ⟨tk9,ta9,tm9,ts9,⟨dn9,dd9,dx9⟩⟩ X W e w':=fun X W=>fe ⟨tk9,ta9,tm9,ts9,⟨dn9,dd9,dx9⟩⟩ X W
   have Mk:=Qa mk;clear mk;go_upto_region 14 with fail
   generalize (w9.alloc (.cells #[.int .i64 tk9,.int .i64 ta9,.int .u8 tm9,.string ts9,.bool dn9,.string dd9,.int .i64 dx9] 180))=w10 at *;generalize w9.heap.size=tb at *;go_cut [68] (fun s68 wx=>(∃b:Bool,s68 =.bool b/\(b=false->c9=0->tk9=1))/\Below w10.heap.size w10 wx)
   case first=>
    have cc:=c8.out.code;obtain⟨t0,t1,t2,t3,t4,t5,t6⟩:=aW (t:=⟨tk9,ta9,tm9,ts9,⟨dn9,dd9,dx9⟩⟩) b2.out
    by_cases hc:c9=0
    ·have Hc:=Qa hc;subst hc;go_wp2_with fail;refine(Mk.out 58 w10).mono ?_;rintro e w11 ⟨b,rfl,hm,b0⟩;have Hm:=Qa hm;have Hb11:=Qa b0;clear hm b0 t0 t1 t2 t3 t4 t5 t6 cc
     cases b
     ·go_wp2_with fail;go_meet
      case rel=>exact⟨⟨_,rfl,(fun h=>absurd h (by decide))⟩,Hb11.out⟩
     ·have Hm1:=Qa (Hm.out rfl);go_wp2_with fail;go_meet
      case rel=>exact⟨⟨_,rfl,(fun _ _=>Hm1.out)⟩,Hb11.out⟩
    ·have k1:(c9==0)=false:=by simpa using hc
     have Hc:=Qa hc;clear hc;go_wp2_with fail;go_meet
     case rel=>exact⟨⟨_,rfl,(fun _ h=>absurd h Hc.out)⟩,Zd _ _⟩
   case rest=>
    obtain⟨⟨b,rfl,hq⟩,b0⟩:=hcut;have Hq:=Qa hq;have b6:=Qa (c8.out.below b0);have c1:=Qa (e6.out.trans (Rk.of_below b0 (Zi c8.out.lt)));have c0:=Qa ((b0.block _ (ae b8.out)).trans b8.out);have c2:=Qa ((b0.block _ (ae b2.out)).trans b2.out);clear hq b0 c8 e6 b8 b2;obtain⟨w11,f6⟩:∃x,wc=x:=⟨_,rfl⟩;rw[f6] at b6 c1 c0 c2 ⊢;clear f6;obtain⟨t0,t1,t2,t3,t4,t5,t6⟩:=aW (t:=⟨tk9,ta9,tm9,ts9,⟨dn9,dd9,dx9⟩⟩) c2.out;have cc:=b6.out.code
    cases b
    case true=>
     have wr:Calls Tryz.prog 84 #[.pointer (some ⟨rb,0,none⟩),.agg #[.int .i64 tk9,.int .i64 ta9,.int .u8 tm9,.string ts9,.bool dn9,.string dd9,.int .i64 dx9]] w11 (jY xs rb w11 at9 (k+1)):=fg b6.out ⟨tk9,ta9,tm9,ts9,⟨dn9,dd9,dx9⟩⟩;have Wr:=Qa wr;clear wr;go_wp2_with fail;refine Wr.out.mono ?_;rintro e w12 ⟨⟨v,rfl⟩,c12,e3,e2,g8⟩;have i3:=Qa e2;have i4:=Qa (c1.out.trans g8);have j2:=Qa e3;have k1:(c12 !=0)=true:=by simpa using e3
     clear cc t0 t1 t2 t3 t4 t5 t6;have cc:=e2.code;clear e2 g8 e3;go_wp2_with fail;go_ret2;exact⟨es,none,0,0,at9,k+1,c12,rfl,i3.out,i4.out,e1.out,fun h=>absurd h j2.out⟩
    by_cases hc:c9=0
    case neg=>
     have k1:(c9 !=0)=true:=by simpa using hc
     have Hc:=Qa hc;clear hc;go_wp2_with fail;go_ret2;exact⟨es,none,0,0,at9,k+1,c9,rfl,b6.out,c1.out,e1.out,fun h=>absurd h Hc.out⟩
    have f5:=Qa (Hq.out rfl hc);subst hc;have c4:=Qa (show at_+1<=at9 from(n8.out (by trivial)).1 (by show ¬tk9=5;have:=f5.out;omega));clear f5 Hq n8 Mk t0 t1 t2 t3 t4 t5 t6;go_wp2_with fail;refine(cX b6.out (by omega)).mono ?_;rintro e w12 ⟨t13,at13,c13,rfl,f4,d5,d4,h0⟩;have e4:=Qa f4;have g7:=Qa (c1.out.trans d5);have b7:=Qa (d5.row c0.out cC);have k5:=Qa h0;have b1:=Qa d4;obtain⟨tk13,ta13,tm13,ts13,⟨dn13,dd13,dx13⟩⟩:=t13;rw[show kf ⟨tk13,ta13,tm13,ts13,⟨dn13,dd13,dx13⟩⟩ =.agg #[.int .i64 tk13,.int .i64 ta13,.int .u8 tm13,.string ts13,.bool dn13,.string dd13,.int .i64 dx13] from rfl];have b4:=ac w12 (.cells #[.int .i64 tk13,.int .i64 ta13,.int .u8 tm13,.string ts13,.bool dn13,.string dd13,.int .i64 dx13] 180);have b2:=Qa (Ze w12 (.cells #[.int .i64 tk13,.int .i64 ta13,.int .u8 tm13,.string ts13,.bool dn13,.string dd13,.int .i64 dx13] 180));have d9:=Qa (e4.out.below b4);have g6:=Qa (g7.out.trans (Rk.of_below b4 (Zi e4.out.lt)));have d2:=Qa ((b4.block _ (ae b7.out)).trans b7.out);clear f4 d5 d4 h0 b4 e4 g7 b7 b6 c1 c0 c2 cc;go_upto_region 19 with fail
    generalize (w12.alloc (.cells #[.int .i64 tk13,.int .i64 ta13,.int .u8 tm13,.string ts13,.bool dn13,.string dd13,.int .i64 dx13] 180))=w14 at *;generalize w12.heap.size=tv at *;have c6:=Qa (show Rd xs rb w14.drew at13 (k+1) c13 from d9.out.below (Zd w14.heap.size w14).drew);have a9:=Qa (show w14.drew.heap[w.heap.size]?=_ from d2.out);have d6:=Qa (show w14.drew.heap[tv]?=_ from b2.out);have b3:=Qa (g6.out.trans (Rk.of_below (Zd w14.heap.size w14).drew (Zi d9.out.lt)));clear d9 d2 b2 g6;generalize hwq:w14.drew=wq at c6 a9 b3 d6;have hv:∀dd',Calls Tryz.prog 83 #[.pointer (some ⟨rb,0,none⟩),.agg #[.int .i64 tk13,.int .i64 ta13,.int .u8 tm13,.string ts13,.bool dn13,.string dd13,.int .i64 dx13],.int .i64 dd'] wq (jq asc xs rb wq at13 (¬tk13=5)):=fun dd'=>HV.out at13 ⟨tk13,ta13,tm13,ts13,⟨dn13,dd13,dx13⟩⟩ wq (k+1) c13 dd' (fun _ _=>by have:=c4.out;have:=b1.out;omega) c6.out (fun h=>⟨fun _=>by have:=c4.out;have:=b1.out;have:=i0.out;omega,(k5.out h).2⟩)
    have Hv:=Qa hv;clear hv;refine aO (fun w'=>w'.cell? ⟨w.heap.size,3,none⟩=some (.string ts)/\w'.cell? ⟨tv,0,none⟩=some (.int .i64 tk13)/\w'.cell? ⟨tv,1,none⟩=some (.int .i64 ta13)/\w'.cell? ⟨tv,2,none⟩=some (.int .u8 tm13)/\w'.cell? ⟨tv,3,none⟩=some (.string ts13)/\w'.cell? ⟨tv,4,none⟩=some (.bool dn13)/\w'.cell? ⟨tv,5,none⟩=some (.string dd13)/\w'.cell? ⟨tv,6,none⟩=some (.int .i64 dx13)) ((by rw[hwq];exact⟨aa a9.out (j:=3) rfl,aW (t:=⟨tk13,ta13,tm13,ts13,⟨dn13,dd13,dx13⟩⟩) d6.out⟩)) fun a0=>?_
    refine tH 0 a0 ?_;refine tH 1 a0 ?_;refine tH 2 a0 ?_;refine tH 3 a0 ?_;refine tH 4 a0 ?_;refine tH 5 a0 ?_
    try simp only[Act.put,jP,jQ,jR]
    refine rH 6 fun K hK=>?_
    go_simp;refine(Hv.out _).mono ?_;rintro e w15 ⟨A4,n4,q4,at15,k15,c15,rfl,f3,c5,d3,e7⟩;have k2:=Qa f3;have i8:=Qa (b3.out.trans c5);have d1:=Qa d3;have k0:=Qa e7;have f9:=Qa (c5.row a9.out cC);have g5:=Qa (c5.row d6.out cC);clear f3 c5 d3 e7;go_simp;refine hK.out _ _ (⟨aa f9.out (j:=3) rfl,aW (t:=⟨tk13,ta13,tm13,ts13,⟨dn13,dd13,dx13⟩⟩) g5.out⟩) (fun a0=>?_);clear hK K
    try simp only[Act.put,jP,jQ,jR]
    refine tH 7 a0 ?_;refine tH 8 a0 ?_
    try simp only[Act.put,jP,jQ,jR]
    refine wpAnyH_done (by kernel_rfl) (NoPanic.normal ?_) _;clear a0;go_wp2_with fail;go_ret2;exact⟨ts,A4,n4,q4,at15,k15,c15,rfl,k2.out,i8.out,by have:=d1.out;have:=b1.out;have:=e1.out;omega,fun h=>⟨by have:=d1.out;have:=b1.out;have:=c4.out;omega,q1.out,e0.out,by obtain⟨_,j,g1,g2,g3⟩:=k0.out h;exact⟨j,g1,g2.imp (fun g h _=>Zb b3.out.2.1 h),by have:=b1.out;have:=c4.out;omega⟩⟩⟩
def eS (bad:UInt8->Int):Nat->List UInt8->List Int
 |0,_=> []
 |_+1, []=> []
 |f+1,x::t=>if(bC (x::t)).2.2=0 then((bC (x::t)).1:Int)::eS bad f ((x::t).drop (bC (x::t)).2.1) else bad x::eS bad f t
def bM (bad:UInt8->Int)(xs:List UInt8):List Int:=eS bad xs.length xs
theorem lB (bad:UInt8->Int):∀ (f g:Nat) (xs:List UInt8),xs.length<=f->xs.length<=g->eS bad f xs=eS bad g xs
 |0,g,xs,h,_=>by
  obtain rfl:xs = []:=List.eq_nil_of_length_eq_zero (by omega)
  cases g <;> rfl
 |f+1,g, [],_,_=>by cases g <;> rfl
 |f+1,0,x::t,_,h=>by simp at h
 |f+1,g+1,x::t,h1,h2=>by
  simp only[List.length_cons] at h1 h2;unfold eS
  split
  ·rename_i h
   have hp:=eB h;rw[lB bad f g _ (by rw[List.length_drop,List.length_cons];omega) (by rw[List.length_drop,List.length_cons];omega)]
  ·rw[lB bad f g t (by omega) (by omega)]
theorem ll (bad:UInt8->Int):bM bad [] = []:=rfl
theorem fy {bad:UInt8->Int}(h0:xs≠ [])(h:(bC xs).2.2=0):bM bad xs= ((bC xs).1:Int)::bM bad (xs.drop (bC xs).2.1):=by
 cases xs with
 |nil=>exact absurd rfl h0
 |cons x t=>
  have hp:=eB h;unfold bM;rw[List.length_cons,eS,if_pos h,lB bad t.length _ _ (by rw[List.length_drop,List.length_cons];omega) (Za _)]
theorem je {bad:UInt8->Int}{x:UInt8}{t:List UInt8}(h:(bC (x::t)).2.2≠0):bM bad (x::t)=bad x::bM bad t:=by
 unfold bM;rw[List.length_cons,eS,if_neg h]
theorem gT (bad:UInt8->Int):∀ {cs:List Int},(∀c∈cs,dF c=true)->bM bad (cs.flatMap bD)=cs
 | [],_=>rfl
 |c::cs,h=>by
  have hc:=h c (by simp);have h0:=eb hc;obtain⟨n,rfl⟩:∃n:Nat,c=n:=⟨c.toNat,by omega⟩;have hd:=gX n hc (cs.flatMap bD);rw[List.flatMap_cons,fy (by simp[oA hc]) (by rw[hd]),hd];simp only[List.drop_left];rw[gT bad (fun c hm=>h c (Zl _ hm))]
theorem oJ {bad bad':UInt8->Int}(h:fH xs):bM bad xs=bM bad' xs:=by
 obtain⟨cs,h1,rfl⟩:=h;rw[gT bad h1,gT bad' h1]
def fJ (x:UInt8):Int:=1114112+x.toNat
def Ir (c:Int):List UInt8:=if c<1114112 then bD c else [UInt8.ofNat (c - 1114112).toNat]
theorem il:∀ (n:Nat) (xs:List UInt8),xs.length<=n->(bM fJ xs).flatMap Ir=xs
 |_, [],_=>rfl
 |0,x::t,h=>by simp at h
 |n+1,x::t,h=>by
  simp only[List.length_cons] at h
  by_cases hd:(bC (x::t)).2.2=0
  ·have ⟨h1,h2⟩:=jd hd;have hp:=eB hd;rw[fy (by simp) hd,List.flatMap_cons,il n _ (by rw[List.length_drop,List.length_cons];omega)];unfold Ir;rw[if_pos (by have:=BD h2;omega),h1,List.take_append_drop]
  ·rw[je hd,List.flatMap_cons,il n t (by omega)];unfold Ir fJ;rw[if_neg (by have:=x.toNat_lt;omega),show(1114112+ (x.toNat:Int) - 1114112).toNat=x.toNat by omega,UInt8.ofNat_toNat];rfl
def nm (s:ByteArray):List Int:=bM fJ s.data.toList
theorem AE {t:ByteArray}(h:nm s=nm t):s=t:=by
 have h1:=il _ s.data.toList (Za _);have h2:=il _ t.data.toList (Za _);unfold nm at h;rw[h,h2] at h1
 cases s with|mk s=>cases t with|mk t=>simp at h1;simp[h1]
def aw:List Int->List Int->Int
 | [], []=>0
 | [],_::_=> -1
 |_::_, []=>1
 |a::x,b::y=>if a<b then -1 else if b<a then 1 else aw x y
theorem ye:∀ {x y:List Int},aw x y=0->x=y
 | [], [],_=>rfl
 | [],_::_,h=>by simp[aw] at h
 |_::_, [],h=>by simp[aw] at h
 |a::x,b::y,h=>by
  unfold aw at h
  split at h
  ·simp at h
  ·split at h
   ·simp at h
   ·rw[ye h,show a=b by omega]
theorem gH:∀x:List Int,aw x x=0
 | []=>rfl
 |a::x=>by unfold aw;rw[if_neg (by omega),if_neg (by omega),gH x]
theorem po:∀x y:List Int,aw y x = - aw x y
 | [], []=>rfl
 | [],_::_=>rfl
 |_::_, []=>rfl
 |a::x,b::y=>by
  unfold aw
  by_cases h1:a<b
  ·rw[if_neg (by omega),if_pos h1,if_pos h1];rfl
  ·by_cases h2:b<a
   ·rw[if_pos h2,if_neg h1,if_pos h2];try rfl
   ·rw[if_neg h2,if_neg h1,if_neg h1,if_neg h2,po x y]
theorem nE:∀ {x y z:List Int},aw x y<0->aw y z<0->aw x z<0
 | [],y, [],h1,h2=>by cases y <;> simp[aw] at h1 h2
 | [],_,_::_,_,_=>by simp[aw]
 |_::_, [],_,h1,_=>by simp[aw] at h1
 |_::_,_::_, [],_,h2=>by simp[aw] at h2
 |a::x,b::y,c::z,h1,h2=>by
  unfold aw at h1 h2 ⊢
  by_cases ab:a<b
  ·rw[if_pos ab] at h1
   by_cases bc:b<c
   ·rw[if_pos (by omega)];omega
   ·rw[if_neg bc] at h2
    by_cases cb:c<b
    ·rw[if_pos cb] at h2;omega
    ·rw[if_pos (by omega)];omega
  ·rw[if_neg ab] at h1
   by_cases ba:b<a
   ·rw[if_pos ba] at h1;omega
   ·rw[if_neg ba] at h1
    by_cases bc:b<c
    ·rw[if_pos (by omega)];omega
    ·rw[if_neg bc] at h2
     by_cases cb:c<b
     ·rw[if_pos cb] at h2;omega
     ·rw[if_neg cb] at h2;rw[if_neg (by omega),if_neg (by omega)];exact nE h1 h2
def fE (a b:ByteArray):Prop:=aw (nm a) (nm b)<0
theorem gj {a b c:ByteArray}(h1:fE a b)(h2:fE b c):fE a c:=nE h1 h2
theorem kd (a:ByteArray):¬fE a a:=by unfold fE;rw[gH];omega
theorem jm {a b:ByteArray}(h:¬fE a b)(hne:a≠b):fE b a:=by
 unfold fE at *;have h1:=po (nm a) (nm b)
 by_cases h0:aw (nm a) (nm b)=0
 ·exact absurd (AE (ye h0)) hne
 ·omega
theorem lz {a b:ByteArray}(h:fE a b):a≠b:=fun e=>by subst e;exact kd _ h
def dU (ns:List ByteArray):Prop:=ns.Pairwise fE
theorem pm {α:Type}{f:α->ByteArray}:∀ {l m:List α},l.Perm m->(l.map f).Pairwise fE->(m.map f).Pairwise fE->l=m
 | [],m,hp,_,_=>by have:=hp.length_eq;simp at this;rw[List.eq_nil_of_length_eq_zero this.symm]
 |a::l, [],hp,_,_=>by have:=hp.length_eq;simp at this
 |a::l,b::m,hp,h1,h2=>by
  simp only[List.map_cons,List.pairwise_cons] at h1 h2
  by_cases hab:a=b
  ·subst hab;rw[pm (List.Perm.cons_inv hp) h1.2 h2.2]
  ·have hb:b∈a::l:=hp.mem_iff.2 (by simp);have ha:a∈b::m:=hp.mem_iff.1 (by simp);have a1:b∈l:=by rcases List.mem_cons.1 hb with e|h;exact absurd e.symm hab;exact h
   have a0:a∈m:=by rcases List.mem_cons.1 ha with e|h;exact absurd e hab;exact h
   exact absurd (gj (h1.1 (f b) (List.mem_map_of_mem a1)) (h2.1 (f a) (List.mem_map_of_mem a0))) (kd _)
theorem uZ (a:Nat)(h:so.Perm (List.range i)):(so.take a ++ [i]++so.drop a).Perm (List.range (i+1)):=by
 rw[List.range_succ];refine List.Perm.trans ?_ (h.append_right [i]);rw[List.append_assoc];refine(List.perm_append_comm_assoc (so.take a) [i] (so.drop a)).trans ?_;refine List.Perm.trans ?_ (List.perm_append_comm);rw[List.take_append_drop]
theorem ui {f:Nat->ByteArray}(hp:(so.map f).Pairwise fE)(h1:∀j x,j<a->so[j]?=some x->fE (f x) (f i))(h2:∀x,so[a]?=some x->fE (f i) (f x)) :
  ((so.take a ++ [i]++so.drop a).map f).Pairwise fE:=by
 have a0:=hp;rw[<-List.take_append_drop a so,List.map_append,List.pairwise_append] at a0;obtain⟨p1,p2,p3⟩:=a0;have hd:∀y∈so.drop a,fE (f i) (f y):=by
  intro y hy
  cases hx:so[a]? with
  |none=>
   have:so.length<=a:=List.getElem?_eq_none_iff.1 hx;rw[List.drop_eq_nil_of_le this] at hy
   cases hy
  |some x=>
   obtain⟨hlt,a2⟩:=List.getElem?_eq_some_iff.1 hx;rw[List.drop_eq_getElem_cons hlt,a2] at hy p2;rcases List.mem_cons.1 hy with rfl|hy
   ·exact h2 _ hx
   ·rw[List.map_cons,List.pairwise_cons] at p2;exact gj (h2 x hx) (p2.1 _ (List.mem_map_of_mem hy))
 have ht:∀y∈so.take a,fE (f y) (f i):=by
  intro y hy;obtain⟨j,hj,rfl⟩:=List.getElem_of_mem hy;have a1:j<a/\j<so.length:=by rw[List.length_take] at hj;omega
  refine h1 j _ a1.1 ?_;rw[List.getElem_take,Zc a1.2]
 rw[List.map_append,List.map_append,List.pairwise_append,List.pairwise_append];refine⟨⟨p1,by simp,?_⟩,p2,?_⟩
 ·intro x hx y hy;obtain⟨x',a4,rfl⟩:=List.mem_map.1 hx;simp at hy;subst hy;exact ht _ a4
 ·intro x hx y hy;obtain⟨y',a3,rfl⟩:=List.mem_map.1 hy;rcases List.mem_append.1 hx with hx|hx
  ·exact p3 x hx _ hy
  ·simp at hx;subst hx;exact hd _ a3
def d0:ByteArray×JV:=(⟨#[]⟩,.mk 0 false ⟨#[]⟩ ⟨false,⟨#[]⟩,0⟩ [] [])
def eV (names:List ByteArray)(ts:List JV)(k:Nat):ByteArray×JV:=(names.zip ts).getD k d0
theorem i6 {α:Type}(l:List α)(d:α):(List.range l.length).map (fun k=>l.getD k d)=l:=by
 apply List.ext_getElem
 ·simp
 ·intro i h1 h2;simp[List.getD_eq_getElem?_getD,Zc h2]
theorem xz (h:so.Perm (List.range (names.zip ts).length)):(so.map (eV names ts)).Perm (names.zip ts):=by
 have:=h.map (eV names ts);unfold eV at this
 rwa[i6] at this
theorem AU (hl:names.length=ts.length)(hk:k<names.length):(eV names ts k).1=names.getD k ⟨#[]⟩:=by
 unfold eV;rw[List.getD_eq_getElem?_getD,List.getD_eq_getElem?_getD,Zc (by simp;omega),Zc hk];simp
theorem BK (hl:names.length=ts.length){t:JV}(hk:ts[k]?=some t):(eV names ts k).2=t:=by
 obtain⟨h1,h2⟩:=List.getElem?_eq_some_iff.1 hk;unfold eV;rw[List.getD_eq_getElem?_getD,Zc (by simp;omega)];simp[h2]
theorem xW (h:ns.Pairwise fE):ns.Nodup:=h.imp (fun h=>lz h)
theorem sY (h:so.Perm (List.range names.length))(hr:(so.map (fun k=>names.getD k ⟨#[]⟩)).Pairwise fE):names.Nodup:=by
 have h1:=h.map (fun k=>names.getD k (⟨#[]⟩:ByteArray));rw[i6] at h1;exact h1.nodup_iff.1 (xW hr)
theorem zq (h:names.Nodup){j:Nat}(hi:names[i]?=some s)(hj:names[j]?=some s):i=j:=by
 obtain⟨h1,h2⟩:=List.getElem?_eq_some_iff.1 hi;obtain⟨h3,h4⟩:=List.getElem?_eq_some_iff.1 hj;exact(List.getElem_inj h).1 (h2.trans h4.symm)
def kR (names:List ByteArray)(ts:List JV)(ps:List (ByteArray×JV)):Prop:=ps.Perm (names.zip ts)/\dU (ps.map Prod.fst)
theorem kR.sizes {ps:List (ByteArray×JV)}(hl:names.length=ts.length)(h:kR names ts ps):JV.sizes (ps.map Prod.snd)=JV.sizes ts/\(ps.map Prod.snd).Perm ts/\(ps.map Prod.fst).Perm names:=by
 have h1:(ps.map Prod.snd).Perm ts:=by have:=h.1.map Prod.snd;rwa[List.map_snd_zip (by omega)] at this
 have h2:(ps.map Prod.fst).Perm names:=by have:=h.1.map Prod.fst;rwa[List.map_fst_zip (by omega)] at this
 refine⟨?_,h1,h2⟩;have hs:∀l m:List JV,l.Perm m->JV.sizes l=JV.sizes m:=by
  intro l m hp
  induction hp with
  |nil=>rfl
  |cons x _ ih=>simp[JV.sizes,ih]
  |swap x y l=>simp[JV.sizes];omega
  |trans _ _ ih1 ih2=>exact ih1.trans ih2
 exact hs _ _ h1
def BL (n:Nat)(f:Nat->Nat):Nat×Nat:=
 if f 0<128 then(f 0,1)
 else if f 0/32=6/\(1<n/\f 1/64=2) then(if(f 0 % 32)*64+f 1 % 64 ≥ 128 then((f 0 % 32)*64+f 1 % 64,2) else(65533,1))
 else if(f 0/16=14/\(1<n/\f 1/64=2))/\(2<n/\f 2/64=2) then
  (if(f 0 % 16)*4096+ (f 1 % 64)*64+f 2 % 64 ≥ 2048/\Utf8.valid (((f 0 % 16)*4096+ (f 1 % 64)*64+f 2 % 64:Nat):Int)=true then((f 0 % 16)*4096+ (f 1 % 64)*64+f 2 % 64,3) else(65533,1))
 else if((f 0/8=30/\(1<n/\f 1/64=2))/\(2<n/\f 2/64=2))/\(3<n/\f 3/64=2) then
  (if(f 0 % 8)*262144+ (f 1 % 64)*4096+ (f 2 % 64)*64+f 3 % 64 ≥ 65536/\Utf8.valid (((f 0 % 8)*262144+ (f 1 % 64)*4096+ (f 2 % 64)*64+f 3 % 64:Nat):Int)=true then((f 0 % 8)*262144+ (f 1 % 64)*4096+ (f 2 % 64)*64+f 3 % 64,4) else(65533,1))
 else(65533,1)
theorem xu (s:ByteArray)(i k:Nat):(s.get! (i+k)).toNat=am (s.data.toList.drop i) k:=by
 rw[iC];unfold am
 show(s.data[i+k]!).toNat=_
 rw[List.getD_eq_getElem?_getD,Array.getElem?_toList,getElem!_def]
 cases s.data[i+k]? <;> rfl
theorem rY (s:ByteArray)(i:Nat):Utf8.decode s i=BL (s.data.toList.drop i).length (am (s.data.toList.drop i)):=by
 have hn:∀k,(i+k<s.size)= (k< (s.data.toList.drop i).length):=by
  intro k;rw[List.length_drop,Array.length_toList];show(i+k<s.data.size)=_;exact propext ⟨fun h=>by omega,fun h=>by omega⟩
 unfold Utf8.decode BL;simp only[xu,hn,Utf8.runeError,Bool.and_eq_true,decide_eq_true_eq,beq_iff_eq,and_assoc]
theorem kW (n:Nat):Utf8.valid (n:Int)=true↔n<=1114111/\¬ (55296<=n/\n<=57343):=by
 unfold Utf8.valid;simp;omega
theorem Cf (h0:xs≠ []):BL xs.length (am xs)=if(bC xs).2.2=0 then((bC xs).1,(bC xs).2.1) else(65533,1):=by
 by_cases hd:(bC xs).2.2=0
 ·rw[if_pos hd];rcases ly hd with ⟨a,t,rfl,h1,e⟩|⟨a,b,t,rfl,h1,hs,e⟩|⟨a,b,c,t,rfl,h1,hs,ht,e⟩|⟨a,b,c,d,t,rfl,h1,hs,ht,a0,e⟩ <;> rw[e] <;> unfold BL <;> simp only[kW]
  ·rw[uj,if_pos h1]
  ·unfold iL at hs;have hb:=b8 b;rw[uj,iu,if_neg (by omega),if_pos ⟨by omega,by simp,by omega⟩,if_pos (by omega)]
  ·unfold iL at hs;unfold tl at ht;have hb:=b8 b;have hc:=b8 c;rw[uj,iu,kN,if_neg (by omega),if_neg (by omega),if_pos ⟨⟨by omega,by simp,by omega⟩,by simp,by omega⟩,if_pos (by omega)]
   congr 1;omega
  ·unfold iL at hs;unfold tl at ht a0;have hb:=b8 b;have hc:=b8 c;have a1:=b8 d;rw[uj,iu,kN,FL,if_neg (by omega),if_neg (by omega),if_neg (by omega),if_pos ⟨⟨⟨by omega,by simp,by omega⟩,by simp,by omega⟩,by simp,by omega⟩,if_pos (by omega)]
   congr 1;omega
 ·rw[if_neg hd];unfold BL;simp only[kW]
  cases xs with
  |nil=>exact absurd rfl h0
  |cons a t=>
   have ha:=b8 a
   by_cases h1:a.toNat<128
   ·exact absurd (by rw[xU a t h1]) hd
   rw[uj,if_neg h1]
   split
   ·rename_i h2
    split
    ·rename_i h3
     cases t with
     |nil=>simp at h2
     |cons b t=>
      rw[iu] at h2 h3;have hb:=b8 b;exact absurd (by rw[xh a (b::t) (by omega)];simp only;rw[if_pos (by unfold iL;omega)]) hd
    ·rfl
   ·split
    ·rename_i h2
     split
     ·rename_i h3
      rcases t with _|⟨b,_|⟨c,t⟩⟩
      ·simp at h2
      ·simp at h2
      ·rw[iu,kN] at h2 h3;have hb:=b8 b;have hc:=b8 c;exact absurd (by rw[yb a (b::c::t) (by omega)];simp only;rw[if_pos (by unfold iL;omega),if_pos (by unfold tl;omega)]) hd
     ·rfl
    ·split
     ·rename_i h2
      split
      ·rename_i h3
       rcases t with _|⟨b,_|⟨c,_|⟨d,t⟩⟩⟩
       ·simp at h2
       ·simp at h2
       ·simp at h2
       ·rw[iu,kN,FL] at h2 h3;have hb:=b8 b;have hc:=b8 c;have a1:=b8 d;exact absurd (by rw[xA a (b::c::d::t) (by omega)];simp only;rw[if_pos (by unfold iL;omega),if_pos (by unfold tl;omega),if_pos (by unfold tl;omega)]) hd
      ·rfl
     ·rfl
theorem oG (s:ByteArray)(i:Nat)(h:i<s.size):Utf8.decode s i=if(bC (s.data.toList.drop i)).2.2=0 then((bC (s.data.toList.drop i)).1,(bC (s.data.toList.drop i)).2.1) else(65533,1):=by
 rw[rY];apply Cf;intro e;have:=congrArg List.length e;rw[List.length_drop,Array.length_toList] at this;have:s.size=s.data.size:=rfl;simp at *;omega
theorem AR:bD ((65533:Nat):Int) = [239,191,189]:=by rw[pK 65533 (by omega) (by omega)];rfl
