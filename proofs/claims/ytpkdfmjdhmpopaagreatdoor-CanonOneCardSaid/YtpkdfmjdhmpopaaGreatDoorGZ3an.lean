import Derived.Test.YtpkdfmjdhmpopaaGreatDoorGZ3am
set_option linter.unusedVariables false
set_option linter.unusedSimpArgs false
set_option maxHeartbeats 64000000
set_option maxRecDepth 100000
namespace Go.Proofs.YtpkdfmjdhmpopaaGreatDoor
open Go.RowKit
variable {s : ByteArray} {names ns : List ByteArray} {ts : List JV} {so : List Nat} {xs : List UInt8} {us : List Value} {B a at_ i k rb : Nat} {v : Value} {W W' : World}
def Ik (asc:List ByteArray->Prop)(xs:List UInt8)(rb:Nat)(w:World)(at_:Nat)(names:List ByteArray)(e:Ending)(w':World):Prop:= ∃ (s:ByteArray) (A:Option Addr) (n q at' k':Nat) (c:Int),e = .returned (.tuple #[.string s, .slice A n q])/\Rd xs rb w' at' k' c/\Rk rb w w'/\at_<=at'/\
 (c=0->at_+1<=at'/\iI s/\s∉names/\∃j:JV,bK asc j/\bG (w.heap.size<= ·) w' rb (.slice A n q) (j.flat 0)/\j.size+at_<=at')
theorem D7 (h:W.ownsRow B 260 5 v k us)(hg:W.grownBy W' v.ownBlock):aP (fun e=>e=260) W W':=
 aP.of_grown hg (fun g e cs t z hh=>by obtain⟨cs',z',h'⟩:=cO h g e;rw [h'] at hh;injection hh with hh;injection hh with _ hh;exact hh.symm)
def zG (w1:World)(s:ByteArray)(names:List ByteArray)(s10:Value)(wr:World):Prop:= ∃i:Nat,i<=names.length/\s10 = .int .i64 i/\Below w1.heap.size w1 wr/\s∉names.take i
theorem tI (asc:List ByteArray->Prop)(hl:xs.length<=6000){sB:Nat}
  (hV:∀ (iA:Nat) (t:Tk) (w:World) (k:Nat) (c:Int) (d:Int),(c=0->t.kind≠5->sB+1<=iA)->Rd xs rb w iA k c->(c=0->(t.kind≠5->k+1<=iA)/\jx t)->
   Calls Tryz.prog 91 #[.pointer (some ⟨rb,0,none⟩),jV t, .int .i64 d] w (jA asc xs rb w iA (t.kind≠5)))
  {w:World} {k:Nat} {c:Int} (t:Tk) (d:Int) {vn:Value} {B:Nat} {names:List ByteArray} (h:Rd xs rb w at_ k c) (hn:dS w B vn names) (hat:sB<=at_) (hk:c=0->(t.kind≠5->k+1<=at_)/\jx t) :
  Calls Tryz.prog 160 #[.pointer (some ⟨rb,0,none⟩),jV t, .int .i64 d,vn] w (Ik asc xs rb w at_ names):=by
 have n3:=Qa hk;have HV:=Qa hV;obtain⟨An,cn,rfl,hcn,q0,l2⟩:=ag hn;unfold maxLen at q0;have p0:=Qa l2;have b8:=ac w (.cells (d8 t) 204);have Hn:=Qa (hn.below b8 (Za _));have i3:=Qa (Ze w (.cells (d8 t) 204));have HR:=Qa (h.below b8);have f5:=Qa (Rk.of_below b8 (Zi h.lt));have hrb:=h.lt;have cc:=(h.below b8).code;clear hk hV h hn l2 b8;obtain⟨tk,ta,tm,ts,⟨dn,dd,dx⟩⟩:=t;unfold jV;simp only [d8] at HR i3 f5 Hn cc;go_enter Tryz.func160,Tryz.ntmps160
 by_cases hc:c=0
 case neg=>
  have k1: (c !=0)=true:=by simpa using hc
  have Hc:=Qa hc;clear hc;go_wp2_with fail;go_ret2;exact⟨es,none,0,0,at_,k,c,rfl,HR.out,f5.out,Za _,fun h=>absurd h Hc.out⟩
 subst hc;obtain⟨hk,h8⟩:=n3.out rfl;have Hk:=Qa hk;have H8:=Qa h8;clear hk h8 n3;obtain⟨t0,t1,t2,t3,t4,t5,t6⟩:=be (t:=⟨tk,ta,tm,ts,⟨dn,dd,dx⟩⟩) i3.out
 by_cases h4:tk=4
 case neg=>
  have q7: (tk !=4)=true:=by simpa using h4
  clear h4;have wr:∀W,Rd xs rb W at_ k 0->Calls Tryz.prog 92 #[.pointer (some ⟨rb,0,none⟩), .agg #[.int .i64 tk, .int .i64 ta, .int .u8 tm, .string ts, .bool dn, .string dd, .int .i64 dx]] W (jW xs rb W at_ k):=fun W h=>ft h ⟨tk,ta,tm,ts,⟨dn,dd,dx⟩⟩
  have Wr:=Qa wr;clear wr;go_wp2_with fail;refine(Wr.out _ HR.out).mono ?_;rintro e w3 ⟨⟨v,rfl⟩,c3,m9,m2,n0⟩;have Hc:=Qa m9;have k4:=Qa m2;have k2:=Qa (f5.out.trans n0);clear m9 m2 n0;go_wp2_with fail;go_ret2;exact⟨es,none,0,0,at_,k,c3,rfl,k4.out,k2.out,Za _,fun h=>absurd h Hc.out⟩
 subst h4;have m5:=Hk.out (by show ¬ (4:Int)=5;decide);have n5:=H8.out.1 rfl;have i4:=Qa m5;have q1:=Qa n5;clear m5 n5 Hk H8;go_upto_region 6 with fail
 generalize (w.alloc (.cells #[.int .i64 4, .int .i64 ta, .int .u8 tm, .string ts, .bool dn, .string dd, .int .i64 dx] 204))=w1 at *;go_wp2_with fail
 go_loopw [10] (zG w1 ts names) (fun i _=>names.length - (intOf i).toNat)
 case atStart=>exact⟨0,Zj _,rfl,Zd _ _,by simp⟩
 case round=>
  obtain⟨i,hi,rfl,hb,f9⟩:=hrel;have Hb:=Qa hb;have e0:=Qa f9;have e8:=Qa (HR.out.below hb);have g4:=Qa ((hb.block _ (ae i3.out)).trans i3.out);have q2:=Qa (Hn.out.below hb (Za _));have f0:=Qa (f5.out.trans (Rk.of_below hb (Zb (Zi hrb) f5.out.2.1)));clear cc t0 t1 t2 t3 t4 t5 t6 hb f9;obtain⟨t0,t1,t2,t3,t4,t5,t6⟩:=be (t:=⟨4,ta,tm,ts,⟨dn,dd,dx⟩⟩) g4.out;have cc:=e8.out.code
  by_cases hlt:i<names.length
  ·obtain⟨gn,rfl⟩:=p0.out (by omega)
   obtain⟨s,hs⟩:∃s,names[i]?=some s:=⟨_,Zc hlt⟩;have cn:=bg q2.out rfl i (by omega);rw [List.getElem?_map,hs] at cn;simp only [Option.map_some,dq] at cn;have Hs:=Qa (show names.take (i+1)=names.take i ++ [s] from cL hs);have q5: (i:Int)<names.length:=by omega
   clear hs
   by_cases he:s=ts
   ·have p4: (s.toList==ts.toList)=true:=by rw [jv];simp [he]
    clear he;go_wp2_with fail;go_quiet (fail);go_wp2_with fail;refine(cv 112 ta _).mono ?_;rintro e w2 ⟨u,rfl,⟨fh,fl,fs,rfl,m1⟩,n1⟩;obtain⟨fA,fq,fr,rfl, -⟩:=m1.slice;have k3:Below wr.heap.size wr w2:=(aD (Zd _ _) _).trans n1;have k4:=Qa (e8.out.below k3);have k2:=Qa (f0.out.trans (Rk.of_below k3 (Zi e8.out.lt)));clear m1 n1 k3 cc t0 t1 t2 t3 t4 t5 t6;go_wp2_with fail;refine(el k4.out 112 fh fl fA fq fr).mono ?_;rintro e w4 ⟨⟨b,rfl⟩,k9,l3, -⟩;rw [if_pos rfl] at k9;have q6:=Qa k9;have q3:=Qa (k2.out.trans l3);clear k9 l3;go_wp2_with fail;go_ret2;exact⟨es,none,0,0,at_,k,112,rfl,q6.out,q3.out,Za _,fun h=>absurd h (by decide)⟩
   ·have p4: (s.toList==ts.toList)=false:=by rw [jv];simp [he]
    have He:=Qa he;clear he;go_wp2_with fail;go_quiet (fail);go_wp2_with fail;exact⟨⟨i+1,by omega,by go_num,aD Hb.out _,by rw [Hs.out];intro hm;rcases List.mem_append.1 hm with hm | hm;exact e0.out hm;exact He.out (List.mem_singleton.1 hm).symm⟩,by simp [intOf];omega⟩
  ·obtain rfl:i=names.length:=by omega
   rw [List.take_length] at e0;go_wp2_with fail;have d0:=Qa (show Rd xs rb wr.drew at_ k 0 from e8.out.below (Zd wr.heap.size wr).drew);have a9:=Qa (show wr.drew.heap[w.heap.size]?=_ from g4.out);have b3:=Qa (f0.out.trans (Rk.of_below (Zd wr.heap.size wr).drew (Zi e8.out.lt)));have k6:=Qa (show wr.drew.cell? ⟨w.heap.size,3,none⟩=some (.string ts) from t3);clear cc t0 t1 t2 t3 t4 t5 t6;generalize hwq:wr.drew=wq at d0 a9 b3 k6;have g9:=ac wq (.cells #[.int .i64 2, .int .i64 d, .int .i64 0, .string ts, .slice none 0 0] 260);have c5:=d0.out.lt;obtain⟨a1,a2,a3,a4,a5,a6,a7,L,m,hh,l,us,w0,h1,h2,h3,h4,h5,h6,h7⟩:=d0.out;have c12:=aa h1 (j:=12) (u:= .slice a3 _ a4) rfl;have g1:=(g9.block _ c5).trans h1;have H:=Qa (And.intro g1 (And.intro h2 (And.intro h3 (And.intro (h4.trans (g9.mono (Zi c5))) (And.intro (ap h5 g9 (Za _)) h6)))));have m0:=Qa (av wq [.int .i64 2, .int .i64 d, .int .i64 0, .string ts, .slice none 0 0] 260);have e4:=Qa g9;have n2:=Qa (show rb+1<=wq.heap.size from c5);have j3:=Qa h6;clear h1 h2 h3 h4 h5 h6 h7 g9 g1 c5;have C12:=Qa c12;clear c12;refine cJ (fun w'=>w'.cell? ⟨rb,12,none⟩=some (.slice a3 k a4)/\w'.cell? ⟨w.heap.size,3,none⟩=some (.string ts)) 13 ((by rw [hwq];exact⟨C12.out,k6.out⟩)) fun a0=> ?_
   rw [hwq] at a0 ⊢;clear hwq;refine tZ 0 a0 ?_;refine tZ 1 a0 ?_;refine tZ 2 a0 ?_;refine tZ 3 a0 ?_;refine tZ 4 a0 ?_;refine tZ 5 a0 ?_
   try simp only [Act.put,jP,jQ,jR]
   refine tZ 6 a0 ?_;refine tZ 7 a0 ?_;refine tZ 8 a0 ?_
   try simp only [Act.put,jP,jQ,jR]
   refine rZ 9 fun K hK=> ?_
   go_simp;refine hK.out _ _ (fun _=>⟨Zf e4.out a0.1,Zf e4.out a0.2⟩) (fun a0=> ?_);clear hK K;have a0:=a0 (by decide)
   try simp only [Act.put,jP,jQ,jR]
   refine rZ 10 fun K hK=> ?_
   refine cA jn rfl (.tmp 47) (.tmp 52) rfl (rb+1) (.slice a3 k a4) k wq.heap.size 1 1 us [.int .i64 2, .int .i64 d, .int .i64 0, .string ts, .slice none 0 0] (by simp [Act.eval]) H.out.2.2.2.2.1 (by simp [Act.eval]) rfl m0.out (by simp [Value.oneCell']) (by have:=i4.out;have:=j3.out;unfold maxLen;omega) (by have:=i4.out;have:=j3.out;omega) (Zb n2.out e4.out.size) ?_;intro v' w7 p1 p2 p3;have m4:=Qa p1;have i9:=Qa p2;(obtain⟨A',c',he, -⟩:=ag p1);subst he;have b4:=jo H.out.1 H.out.2.1 H.out.2.2.1 H.out.2.2.2.1 H.out.2.2.2.2.1 H.out.2.2.2.2.2 i4.out m4.out i9.out;have r12:=aa b4.1 (j:=12) (u:= .slice a3 k a4) rfl;have f12:=aj b4.1 12;have i2:=Qa b4;clear p1 p2 p3 b4;have m3:=Qa ((D7 H.out.2.2.2.2.1 i9.out).2 _ _ _ _ ((e4.out.block _ (ae a9.out)).trans a9.out) (by decide));refine hK.out _ _ (fun _=>⟨r12,aa m3.out (j:=3) rfl⟩) (fun a0=> ?_);clear hK K;have a0:=a0 (by decide)
   try simp only [Act.put,jP,jQ,jR]
   refine rZ 11 fun K hK=> ?_
   go_simp;refine hK.out _ _ (fun _=>a0) (fun a0=> ?_);clear hK K;have a0:=a0 (by decide)
   try simp only [Act.put,jP,jQ,jR]
   refine tZ 12 a0 ?_
   try simp only [Act.put,jP,jQ,jR]
   refine rZ 13 fun K hK=> ?_
   go_simp;refine hK.out _ _ (fun h=>absurd rfl h) (fun _=> ?_);clear hK K
   try simp only [Act.put,jP,jQ,jR]
   refine a8 (by kernel_rfl) (NoPanic.normal ?_) _;clear a0 r12 f12;have n8:=Qa (b3.out.trans ((Rk.of_below e4.out (Zi d0.out.lt)).trans i2.out.2.2));have l5:=Qa i2.out.2.1;have f2:=Qa (((Rk.of_below e4.out (Zi d0.out.lt)).trans i2.out.2.2).row a9.out cF);clear i2 m4 i9 m3 H m0 e4 n2 j3 k6 a9 d0 b3 C12;go_wp2_with fail;generalize (w7.setCell ⟨rb,12,none⟩ (.slice A' (k+1) c'))=w8 at *;refine(da l5.out (by omega)).mono ?_;rintro e w9 ⟨t9,at9,c9,rfl,l4,j0,h0,n6⟩;have k5:=Qa l4;have n9:=Qa (n8.out.trans j0);have d9:=Qa (j0.row f2.out cF);have o2:=Qa n6;have d5:=Qa h0;obtain⟨tk9,ta9,tm9,ts9,⟨dn9,dd9,dx9⟩⟩:=t9;rw [show jV ⟨tk9,ta9,tm9,ts9,⟨dn9,dd9,dx9⟩⟩ = .agg #[.int .i64 tk9, .int .i64 ta9, .int .u8 tm9, .string ts9, .bool dn9, .string dd9, .int .i64 dx9] from rfl];have c6:=ac w9 (.cells #[.int .i64 tk9, .int .i64 ta9, .int .u8 tm9, .string ts9, .bool dn9, .string dd9, .int .i64 dx9] 204);have b2:=Qa (Ze w9 (.cells #[.int .i64 tk9, .int .i64 ta9, .int .u8 tm9, .string ts9, .bool dn9, .string dd9, .int .i64 dx9] 204));have c8:=Qa (k5.out.below c6);have g0:=Qa (n9.out.trans (Rk.of_below c6 (Zi k5.out.lt)));have c0:=Qa ((c6.block _ (ae d9.out)).trans d9.out);clear l4 j0 h0 n6 c6 k5 n9 d9 l5 n8 f2;have mk:∀ (X:Int) (W:World),Calls Tryz.prog 118 #[.agg #[.int .i64 tk9, .int .i64 ta9, .int .u8 tm9, .string ts9, .bool dn9, .string dd9, .int .i64 dx9], .int .u8 X] W fun e w'=>ik ⟨tk9,ta9,tm9,ts9,⟨dn9,dd9,dx9⟩⟩ X W e w':=fun X W=>fp ⟨tk9,ta9,tm9,ts9,⟨dn9,dd9,dx9⟩⟩ X W
   have Mk:=Qa mk;clear mk;go_upto_region 14 with fail
   generalize (w9.alloc (.cells #[.int .i64 tk9, .int .i64 ta9, .int .u8 tm9, .string ts9, .bool dn9, .string dd9, .int .i64 dx9] 204))=w10 at *;generalize w9.heap.size=tb at *;go_cut [68] (fun s68 wx=>(∃b:Bool,s68 = .bool b/\(b=false->c9=0->tk9=1))/\Below w10.heap.size w10 wx)
   case first=>
    have cc:=c8.out.code;obtain⟨t0,t1,t2,t3,t4,t5,t6⟩:=be (t:=⟨tk9,ta9,tm9,ts9,⟨dn9,dd9,dx9⟩⟩) b2.out
    by_cases hc:c9=0
    ·have Hc:=Qa hc
     subst hc;go_wp2_with fail;refine(Mk.out 58 w10).mono ?_;rintro e w11 ⟨b,rfl,hm,b1⟩;have Hm:=Qa hm;have Hb11:=Qa b1;clear hm b1 t0 t1 t2 t3 t4 t5 t6 cc
     cases b
     ·go_wp2_with fail
      go_meet
      case rel=>exact⟨⟨_,rfl,(fun h=>absurd h (by decide))⟩,Hb11.out⟩
     ·have Hm1:=Qa (Hm.out rfl)
      go_wp2_with fail;go_meet
      case rel=>exact⟨⟨_,rfl,(fun _ _=>Hm1.out)⟩,Hb11.out⟩
    ·have k1: (c9==0)=false:=by simpa using hc
     have Hc:=Qa hc;clear hc;go_wp2_with fail;go_meet
     case rel=>exact⟨⟨_,rfl,(fun _ h=>absurd h Hc.out)⟩,Zd _ _⟩
   case rest=>
    obtain⟨⟨b,rfl,hq⟩,b1⟩:=hcut;have Hq:=Qa hq;have b6:=Qa (c8.out.below b1);have c2:=Qa (g0.out.trans (Rk.of_below b1 (Zi c8.out.lt)));have c1:=Qa ((b1.block _ (ae c0.out)).trans c0.out);have b9:=Qa ((b1.block _ (ae b2.out)).trans b2.out);clear hq b1 c8 g0 c0 b2;obtain⟨w11,i0⟩:∃x,wc=x:=⟨_,rfl⟩;rw [i0] at b6 c2 c1 b9 ⊢;clear i0;obtain⟨t0,t1,t2,t3,t4,t5,t6⟩:=be (t:=⟨tk9,ta9,tm9,ts9,⟨dn9,dd9,dx9⟩⟩) b9.out;have cc:=b6.out.code
    cases b
    case true=>
     have wr:Calls Tryz.prog 92 #[.pointer (some ⟨rb,0,none⟩), .agg #[.int .i64 tk9, .int .i64 ta9, .int .u8 tm9, .string ts9, .bool dn9, .string dd9, .int .i64 dx9]] w11 (jW xs rb w11 at9 (k+1)):=ft b6.out ⟨tk9,ta9,tm9,ts9,⟨dn9,dd9,dx9⟩⟩;have Wr:=Qa wr;clear wr;go_wp2_with fail;refine Wr.out.mono ?_;rintro e w12 ⟨⟨v,rfl⟩,c12,e5,e6,f6⟩;have i8:=Qa e6;have i5:=Qa (c2.out.trans f6);have l1:=Qa e5;have k1: (c12 !=0)=true:=by simpa using e5
     clear cc t0 t1 t2 t3 t4 t5 t6;have cc:=e6.code;clear e6 f6 e5;go_wp2_with fail;go_ret2;exact⟨es,none,0,0,at9,k+1,c12,rfl,i8.out,i5.out,d5.out,fun h=>absurd h l1.out⟩
    by_cases hc:c9=0
    case neg=>
     have k1: (c9 !=0)=true:=by simpa using hc
     have Hc:=Qa hc;clear hc;go_wp2_with fail;go_ret2;exact⟨es,none,0,0,at9,k+1,c9,rfl,b6.out,c2.out,d5.out,fun h=>absurd h Hc.out⟩
    have f1:=Qa (Hq.out rfl hc);subst hc;have c4:=Qa (show at_+1<=at9 from(o2.out (by trivial)).1 (by show ¬tk9=5;have:=f1.out;omega));clear f1 Hq o2 Mk t0 t1 t2 t3 t4 t5 t6;go_wp2_with fail;refine(da b6.out (by omega)).mono ?_;rintro e w12 ⟨t13,at13,c13,rfl,g5,e3,d1,g7⟩;have e2:=Qa g5;have f4:=Qa (c2.out.trans e3);have b7:=Qa (e3.row c1.out cF);have j1:=Qa g7;have b0:=Qa d1;obtain⟨tk13,ta13,tm13,ts13,⟨dn13,dd13,dx13⟩⟩:=t13;rw [show jV ⟨tk13,ta13,tm13,ts13,⟨dn13,dd13,dx13⟩⟩ = .agg #[.int .i64 tk13, .int .i64 ta13, .int .u8 tm13, .string ts13, .bool dn13, .string dd13, .int .i64 dx13] from rfl];have b5:=ac w12 (.cells #[.int .i64 tk13, .int .i64 ta13, .int .u8 tm13, .string ts13, .bool dn13, .string dd13, .int .i64 dx13] 204);have b2:=Qa (Ze w12 (.cells #[.int .i64 tk13, .int .i64 ta13, .int .u8 tm13, .string ts13, .bool dn13, .string dd13, .int .i64 dx13] 204));have e1:=Qa (e2.out.below b5);have g8:=Qa (f4.out.trans (Rk.of_below b5 (Zi e2.out.lt)));have d3:=Qa ((b5.block _ (ae b7.out)).trans b7.out);clear g5 e3 d1 g7 b5 e2 f4 b7 b6 c2 c1 b9 cc;go_upto_region 19 with fail
    generalize (w12.alloc (.cells #[.int .i64 tk13, .int .i64 ta13, .int .u8 tm13, .string ts13, .bool dn13, .string dd13, .int .i64 dx13] 204))=w14 at *;generalize w12.heap.size=tv at *;have d0:=Qa (show Rd xs rb w14.drew at13 (k+1) c13 from e1.out.below (Zd w14.heap.size w14).drew);have a9:=Qa (show w14.drew.heap[w.heap.size]?=_ from d3.out);have d6:=Qa (show w14.drew.heap[tv]?=_ from b2.out);have b3:=Qa (g8.out.trans (Rk.of_below (Zd w14.heap.size w14).drew (Zi e1.out.lt)));clear e1 d3 b2 g8;generalize hwq:w14.drew=wq at d0 a9 b3 d6;have hv:∀dd',Calls Tryz.prog 91 #[.pointer (some ⟨rb,0,none⟩), .agg #[.int .i64 tk13, .int .i64 ta13, .int .u8 tm13, .string ts13, .bool dn13, .string dd13, .int .i64 dx13], .int .i64 dd'] wq (jA asc xs rb wq at13 (¬tk13=5)):=fun dd'=>HV.out at13 ⟨tk13,ta13,tm13,ts13,⟨dn13,dd13,dx13⟩⟩ wq (k+1) c13 dd' (fun _ _=>by have:=c4.out;have:=b0.out;omega) d0.out (fun h=>⟨fun _=>by have:=c4.out;have:=b0.out;have:=i4.out;omega,(j1.out h).2⟩)
    have Hv:=Qa hv;clear hv;refine aW (fun w'=>w'.cell? ⟨w.heap.size,3,none⟩=some (.string ts)/\w'.cell? ⟨tv,0,none⟩=some (.int .i64 tk13)/\w'.cell? ⟨tv,1,none⟩=some (.int .i64 ta13)/\w'.cell? ⟨tv,2,none⟩=some (.int .u8 tm13)/\w'.cell? ⟨tv,3,none⟩=some (.string ts13)/\w'.cell? ⟨tv,4,none⟩=some (.bool dn13)/\w'.cell? ⟨tv,5,none⟩=some (.string dd13)/\w'.cell? ⟨tv,6,none⟩=some (.int .i64 dx13)) ((by rw [hwq];exact⟨aa a9.out (j:=3) rfl,be (t:=⟨tk13,ta13,tm13,ts13,⟨dn13,dd13,dx13⟩⟩) d6.out⟩)) fun a0=> ?_
    refine tH 0 a0 ?_;refine tH 1 a0 ?_;refine tH 2 a0 ?_;refine tH 3 a0 ?_;refine tH 4 a0 ?_;refine tH 5 a0 ?_
    try simp only [Act.put,jP,jQ,jR]
    refine rH 6 fun K hK=> ?_
    go_simp;refine(Hv.out _).mono ?_;rintro e w15 ⟨A4,n4,q4,at15,k15,c15,rfl,g6,c7,d2,h9⟩;have l0:=Qa g6;have k0:=Qa (b3.out.trans c7);have d4:=Qa d2;have j2:=Qa h9;have f8:=Qa (c7.row a9.out cF);have f3:=Qa (c7.row d6.out cF);clear g6 c7 d2 h9;go_simp;refine hK.out _ _ (⟨aa f8.out (j:=3) rfl,be (t:=⟨tk13,ta13,tm13,ts13,⟨dn13,dd13,dx13⟩⟩) f3.out⟩) (fun a0=> ?_);clear hK K
    try simp only [Act.put,jP,jQ,jR]
    refine tH 7 a0 ?_;refine tH 8 a0 ?_
    try simp only [Act.put,jP,jQ,jR]
    refine wpAnyH_done (by kernel_rfl) (NoPanic.normal ?_) _;clear a0;go_wp2_with fail;go_ret2;exact⟨ts,A4,n4,q4,at15,k15,c15,rfl,l0.out,k0.out,by have:=d4.out;have:=b0.out;have:=d5.out;omega,fun h=>⟨by have:=d4.out;have:=b0.out;have:=c4.out;omega,q1.out,e0.out,by obtain⟨_,j,g1,g2,g3⟩:=j2.out h;exact⟨j,g1,g2.imp (fun g h _=>Zb b3.out.2.1 h),by have:=b0.out;have:=c4.out;omega⟩⟩⟩
def eZ (bad:UInt8->Int):Nat->List UInt8->List Int
 | 0,_=> []
 | _+1, []=> []
 | f+1,x::t=>if(bE (x::t)).2.2=0 then((bE (x::t)).1:Int)::eZ bad f ((x::t).drop (bE (x::t)).2.1) else bad x::eZ bad f t
def bN (bad:UInt8->Int)(xs:List UInt8):List Int:=eZ bad xs.length xs
theorem lx (bad:UInt8->Int):∀ (f g:Nat) (xs:List UInt8),xs.length<=f->xs.length<=g->eZ bad f xs=eZ bad g xs
 | 0,g,xs,h,_=>by
  obtain rfl:xs = []:=List.eq_nil_of_length_eq_zero (by omega)
  cases g <;> rfl
 | f+1,g, [],_,_=>by cases g <;> rfl
 | f+1,0,x::t,_,h=>by simp at h
 | f+1,g+1,x::t,h1,h2=>by
  simp only [List.length_cons] at h1 h2;unfold eZ
  split
  ·rename_i h
   have hp:=eE h;rw [lx bad f g _ (by rw [List.length_drop,List.length_cons];omega) (by rw [List.length_drop,List.length_cons];omega)]
  ·rw [lx bad f g t (by omega) (by omega)]
theorem ld (bad:UInt8->Int):bN bad [] = []:=rfl
theorem fD {bad:UInt8->Int}(h0:xs≠ [])(h: (bE xs).2.2=0):bN bad xs= ((bE xs).1:Int)::bN bad (xs.drop (bE xs).2.1):=by
 cases xs with
 | nil=>exact absurd rfl h0
 | cons x t=>
  have hp:=eE h;unfold bN;rw [List.length_cons,eZ,if_pos h,lx bad t.length _ _ (by rw [List.length_drop,List.length_cons];omega) (Za _)]
theorem jp {bad:UInt8->Int}{x:UInt8}{t:List UInt8}(h: (bE (x::t)).2.2≠0):bN bad (x::t)=bad x::bN bad t:=by
 unfold bN;rw [List.length_cons,eZ,if_neg h]
theorem ip (bad:UInt8->Int):∀ {cs:List Int},(∀c∈cs,dL c=true)->bN bad (cs.flatMap bF)=cs
 | [],_=>rfl
 | c::cs,h=>by
  have hc:=h c (by simp);have h0:=ej hc;obtain⟨n,rfl⟩:∃n:Nat,c=n:=⟨c.toNat,by omega⟩;have hd:=ii n hc (cs.flatMap bF);rw [List.flatMap_cons,fD (by simp [nY hc]) (by rw [hd]),hd];simp only [List.drop_left];rw [ip bad (fun c hm=>h c (Zl _ hm))]
theorem oP {bad bad':UInt8->Int}(h:fF xs):bN bad xs=bN bad' xs:=by
 obtain⟨cs,h1,rfl⟩:=h;rw [ip bad h1,ip bad' h1]
def fN (x:UInt8):Int:=1114112+x.toNat
def Il (c:Int):List UInt8:=if c<1114112 then bF c else [UInt8.ofNat (c - 1114112).toNat]
theorem ij:∀ (n:Nat) (xs:List UInt8),xs.length<=n->(bN fN xs).flatMap Il=xs
 | _, [],_=>rfl
 | 0,x::t,h=>by simp at h
 | n+1,x::t,h=>by
  simp only [List.length_cons] at h
  by_cases hd: (bE (x::t)).2.2=0
  ·have ⟨h1,h2⟩:=jr hd
   have hp:=eE hd;rw [fD (by simp) hd,List.flatMap_cons,ij n _ (by rw [List.length_drop,List.length_cons];omega)];unfold Il;rw [if_pos (by have:=AA h2;omega),h1,List.take_append_drop]
  ·rw [jp hd,List.flatMap_cons,ij n t (by omega)]
   unfold Il fN;rw [if_neg (by have:=x.toNat_lt;omega),show(1114112+ (x.toNat:Int) - 1114112).toNat=x.toNat by omega,UInt8.ofNat_toNat];rfl
def nm (s:ByteArray):List Int:=bN fN s.data.toList
theorem BS {t:ByteArray}(h:nm s=nm t):s=t:=by
 have h1:=ij _ s.data.toList (Za _);have h2:=ij _ t.data.toList (Za _);unfold nm at h;rw [h,h2] at h1
 cases s with | mk s=>cases t with | mk t=>simp at h1;simp [h1]
def aG:List Int->List Int->Int
 | [], []=>0
 | [],_::_=> -1
 | _::_, []=>1
 | a::x,b::y=>if a<b then -1 else if b<a then 1 else aG x y
theorem qo:∀ {x y:List Int},aG x y=0->x=y
 | [], [],_=>rfl
 | [],_::_,h=>by simp [aG] at h
 | _::_, [],h=>by simp [aG] at h
 | a::x,b::y,h=>by
  unfold aG at h
  split at h
  ·simp at h
  ·split at h
   ·simp at h
   ·rw [qo h,show a=b by omega]
theorem fw:∀x:List Int,aG x x=0
 | []=>rfl
 | a::x=>by unfold aG;rw [if_neg (by omega),if_neg (by omega),fw x]
theorem ph:∀x y:List Int,aG y x = - aG x y
 | [], []=>rfl
 | [],_::_=>rfl
 | _::_, []=>rfl
 | a::x,b::y=>by
  unfold aG
  by_cases h1:a<b
  ·rw [if_neg (by omega),if_pos h1,if_pos h1];rfl
  ·by_cases h2:b<a
   ·rw [if_pos h2,if_neg h1,if_pos h2];try rfl
   ·rw [if_neg h2,if_neg h1,if_neg h1,if_neg h2,ph x y]
theorem nS:∀ {x y z:List Int},aG x y<0->aG y z<0->aG x z<0
 | [],y, [],h1,h2=>by cases y <;> simp [aG] at h1 h2
 | [],_,_::_,_,_=>by simp [aG]
 | _::_, [],_,h1,_=>by simp [aG] at h1
 | _::_,_::_, [],_,h2=>by simp [aG] at h2
 | a::x,b::y,c::z,h1,h2=>by
  unfold aG at h1 h2 ⊢
  by_cases ab:a<b
  ·rw [if_pos ab] at h1
   by_cases bc:b<c
   ·rw [if_pos (by omega)];omega
   ·rw [if_neg bc] at h2
    by_cases cb:c<b
    ·rw [if_pos cb] at h2;omega
    ·rw [if_pos (by omega)];omega
  ·rw [if_neg ab] at h1
   by_cases ba:b<a
   ·rw [if_pos ba] at h1;omega
   ·rw [if_neg ba] at h1
    by_cases bc:b<c
    ·rw [if_pos (by omega)];omega
    ·rw [if_neg bc] at h2
     by_cases cb:c<b
     ·rw [if_pos cb] at h2;omega
     ·rw [if_neg cb] at h2
      rw [if_neg (by omega),if_neg (by omega)];exact nS h1 h2
def fM (a b:ByteArray):Prop:=aG (nm a) (nm b)<0
theorem gO {a b c:ByteArray}(h1:fM a b)(h2:fM b c):fM a c:=nS h1 h2
theorem j4 (a:ByteArray):¬fM a a:=by unfold fM;rw [fw];omega
theorem js {a b:ByteArray}(h:¬fM a b)(hne:a≠b):fM b a:=by
 unfold fM at *;have h1:=ph (nm a) (nm b)
 by_cases h0:aG (nm a) (nm b)=0
 ·exact absurd (BS (qo h0)) hne
 ·omega
theorem nP {a b:ByteArray}(h:fM a b):a≠b:=fun e=>by subst e;exact j4 _ h
def dc (ns:List ByteArray):Prop:=ns.Pairwise fM
theorem pJ {α:Type}{f:α->ByteArray}:∀ {l m:List α},l.Perm m->(l.map f).Pairwise fM->(m.map f).Pairwise fM->l=m
 | [],m,hp,_,_=>by have:=hp.length_eq;simp at this;rw [List.eq_nil_of_length_eq_zero this.symm]
 | a::l, [],hp,_,_=>by have:=hp.length_eq;simp at this
 | a::l,b::m,hp,h1,h2=>by
  simp only [List.map_cons,List.pairwise_cons] at h1 h2
  by_cases hab:a=b
  ·subst hab
   rw [pJ (List.Perm.cons_inv hp) h1.2 h2.2]
  ·have hb:b∈a::l:=hp.mem_iff.2 (by simp)
   have ha:a∈b::m:=hp.mem_iff.1 (by simp);have a1:b∈l:=by rcases List.mem_cons.1 hb with e | h;exact absurd e.symm hab;exact h
   have a0:a∈m:=by rcases List.mem_cons.1 ha with e | h;exact absurd e hab;exact h
   exact absurd (gO (h1.1 (f b) (List.mem_map_of_mem a1)) (h2.1 (f a) (List.mem_map_of_mem a0))) (j4 _)
theorem uF (a:Nat)(h:so.Perm (List.range i)): (so.take a ++ [i]++so.drop a).Perm (List.range (i+1)):=by
 rw [List.range_succ];refine List.Perm.trans ?_ (h.append_right [i]);rw [List.append_assoc];refine(List.perm_append_comm_assoc (so.take a) [i] (so.drop a)).trans ?_;refine List.Perm.trans ?_ (List.perm_append_comm);rw [List.take_append_drop]
theorem rO {f:Nat->ByteArray}(hp: (so.map f).Pairwise fM)(h1:∀j x,j<a->so[j]?=some x->fM (f x) (f i))(h2:∀x,so[a]?=some x->fM (f i) (f x)) :
  ((so.take a ++ [i]++so.drop a).map f).Pairwise fM:=by
 have a1:=hp;rw [<- List.take_append_drop a so,List.map_append,List.pairwise_append] at a1;obtain⟨p1,p2,p3⟩:=a1;have hd:∀y∈so.drop a,fM (f i) (f y):=by
  intro y hy
  cases hx:so[a]? with
  | none=>
   have:so.length<=a:=List.getElem?_eq_none_iff.1 hx;rw [List.drop_eq_nil_of_le this] at hy
   cases hy
  | some x=>
   obtain⟨hlt,a4⟩:=List.getElem?_eq_some_iff.1 hx;rw [List.drop_eq_getElem_cons hlt,a4] at hy p2;rcases List.mem_cons.1 hy with rfl | hy
   ·exact h2 _ hx
   ·rw [List.map_cons,List.pairwise_cons] at p2
    exact gO (h2 x hx) (p2.1 _ (List.mem_map_of_mem hy))
 have ht:∀y∈so.take a,fM (f y) (f i):=by
  intro y hy;obtain⟨j,hj,rfl⟩:=List.getElem_of_mem hy;have a0:j<a/\j<so.length:=by rw [List.length_take] at hj;omega
  refine h1 j _ a0.1 ?_;rw [List.getElem_take,Zc a0.2]
 rw [List.map_append,List.map_append,List.pairwise_append,List.pairwise_append];refine⟨⟨p1,by simp, ?_⟩,p2, ?_⟩
 ·intro x hx y hy
  obtain⟨x',a3,rfl⟩:=List.mem_map.1 hx;simp at hy;subst hy;exact ht _ a3
 ·intro x hx y hy
  obtain⟨y',a2,rfl⟩:=List.mem_map.1 hy;rcases List.mem_append.1 hx with hx | hx
  ·exact p3 x hx _ hy
  ·simp at hx;subst hx
   exact hd _ a2
def d0:ByteArray×JV:=(⟨#[]⟩, .mk 0 false ⟨#[]⟩ ⟨false,⟨#[]⟩,0⟩ [] [])
def eY (names:List ByteArray)(ts:List JV)(k:Nat):ByteArray×JV:=(names.zip ts).getD k d0
theorem iX {α:Type}(l:List α)(d:α): (List.range l.length).map (fun k=>l.getD k d)=l:=by
 apply List.ext_getElem
 ·simp
 ·intro i h1 h2;simp [List.getD_eq_getElem?_getD,Zc h2]
theorem we (h:so.Perm (List.range (names.zip ts).length)): (so.map (eY names ts)).Perm (names.zip ts):=by
 have:=h.map (eY names ts);unfold eY at this
 rwa [iX] at this
theorem zW (hl:names.length=ts.length)(hk:k<names.length): (eY names ts k).1=names.getD k ⟨#[]⟩:=by
 unfold eY;rw [List.getD_eq_getElem?_getD,List.getD_eq_getElem?_getD,Zc (by simp;omega),Zc hk];simp
theorem Bw (hl:names.length=ts.length){t:JV}(hk:ts[k]?=some t): (eY names ts k).2=t:=by
 obtain⟨h1,h2⟩:=List.getElem?_eq_some_iff.1 hk;unfold eY;rw [List.getD_eq_getElem?_getD,Zc (by simp;omega)];simp [h2]
theorem vJ (h:ns.Pairwise fM):ns.Nodup:=h.imp (fun h=>nP h)
theorem sQ (h:so.Perm (List.range names.length))(hr: (so.map (fun k=>names.getD k ⟨#[]⟩)).Pairwise fM):names.Nodup:=by
 have h1:=h.map (fun k=>names.getD k (⟨#[]⟩:ByteArray));rw [iX] at h1;exact h1.nodup_iff.1 (vJ hr)
theorem zi (h:names.Nodup){j:Nat}(hi:names[i]?=some s)(hj:names[j]?=some s):i=j:=by
 obtain⟨h1,h2⟩:=List.getElem?_eq_some_iff.1 hi;obtain⟨h3,h4⟩:=List.getElem?_eq_some_iff.1 hj;exact(List.getElem_inj h).1 (h2.trans h4.symm)
def lh (names:List ByteArray)(ts:List JV)(ps:List (ByteArray×JV)):Prop:=ps.Perm (names.zip ts)/\dc (ps.map Prod.fst)
theorem lh.sizes {ps:List (ByteArray×JV)}(hl:names.length=ts.length)(h:lh names ts ps):JV.sizes (ps.map Prod.snd)=JV.sizes ts/\(ps.map Prod.snd).Perm ts/\(ps.map Prod.fst).Perm names:=by
 have h1: (ps.map Prod.snd).Perm ts:=by have:=h.1.map Prod.snd;rwa [List.map_snd_zip (by omega)] at this
 have h2: (ps.map Prod.fst).Perm names:=by have:=h.1.map Prod.fst;rwa [List.map_fst_zip (by omega)] at this
 refine⟨?_,h1,h2⟩;have hs:∀l m:List JV,l.Perm m->JV.sizes l=JV.sizes m:=by
  intro l m hp
  induction hp with
  | nil=>rfl
  | cons x _ ih=>simp [JV.sizes,ih]
  | swap x y l=>simp [JV.sizes];omega
  | trans _ _ ih1 ih2=>exact ih1.trans ih2
 exact hs _ _ h1
def AN (n:Nat)(f:Nat->Nat):Nat×Nat:=
 if f 0<128 then(f 0,1)
 else if f 0/32=6/\(1<n/\f 1/64=2) then(if(f 0 % 32)*64+f 1 % 64 ≥ 128 then((f 0 % 32)*64+f 1 % 64,2) else(65533,1))
 else if(f 0/16=14/\(1<n/\f 1/64=2))/\(2<n/\f 2/64=2) then
  (if(f 0 % 16)*4096+ (f 1 % 64)*64+f 2 % 64 ≥ 2048/\Utf8.valid (((f 0 % 16)*4096+ (f 1 % 64)*64+f 2 % 64:Nat):Int)=true then((f 0 % 16)*4096+ (f 1 % 64)*64+f 2 % 64,3) else(65533,1))
 else if((f 0/8=30/\(1<n/\f 1/64=2))/\(2<n/\f 2/64=2))/\(3<n/\f 3/64=2) then
  (if(f 0 % 8)*262144+ (f 1 % 64)*4096+ (f 2 % 64)*64+f 3 % 64 ≥ 65536/\Utf8.valid (((f 0 % 8)*262144+ (f 1 % 64)*4096+ (f 2 % 64)*64+f 3 % 64:Nat):Int)=true then((f 0 % 8)*262144+ (f 1 % 64)*4096+ (f 2 % 64)*64+f 3 % 64,4) else(65533,1))
 else(65533,1)
theorem uV (s:ByteArray)(i k:Nat): (s.get! (i+k)).toNat=am (s.data.toList.drop i) k:=by
 rw [iS];unfold am
 show(s.data[i+k]!).toNat=_
 rw [List.getD_eq_getElem?_getD,Array.getElem?_toList,getElem!_def]
 cases s.data[i+k]? <;> rfl
theorem rP (s:ByteArray)(i:Nat):Utf8.decode s i=AN (s.data.toList.drop i).length (am (s.data.toList.drop i)):=by
 have hn:∀k,(i+k<s.size)= (k< (s.data.toList.drop i).length):=by
  intro k;rw [List.length_drop,Array.length_toList];show(i+k<s.data.size)=_;exact propext ⟨fun h=>by omega,fun h=>by omega⟩
 unfold Utf8.decode AN;simp only [uV,hn,Utf8.runeError,Bool.and_eq_true,decide_eq_true_eq,beq_iff_eq,and_assoc]
theorem li (n:Nat):Utf8.valid (n:Int)=true↔n<=1114111/\¬ (55296<=n/\n<=57343):=by
 unfold Utf8.valid;simp;omega
theorem Bl (h0:xs≠ []):AN xs.length (am xs)=if(bE xs).2.2=0 then((bE xs).1,(bE xs).2.1) else(65533,1):=by
 by_cases hd: (bE xs).2.2=0
 ·rw [if_pos hd]
  rcases kX hd with ⟨a,t,rfl,h1,e⟩ | ⟨a,b,t,rfl,h1,hs,e⟩ | ⟨a,b,c,t,rfl,h1,hs,ht,e⟩ | ⟨a,b,c,d,t,rfl,h1,hs,ht,a0,e⟩ <;> rw [e] <;> unfold AN <;> simp only [li]
  ·rw [sB,if_pos h1]
  ·unfold iZ at hs
   have hb:=b8 b;rw [sB,iA,if_neg (by omega),if_pos ⟨by omega,by simp,by omega⟩,if_pos (by omega)]
  ·unfold iZ at hs;unfold tl at ht
   have hb:=b8 b;have hc:=b8 c;rw [sB,iA,kP,if_neg (by omega),if_neg (by omega),if_pos ⟨⟨by omega,by simp,by omega⟩,by simp,by omega⟩,if_pos (by omega)]
   congr 1;omega
  ·unfold iZ at hs;unfold tl at ht a0
   have hb:=b8 b;have hc:=b8 c;have a1:=b8 d;rw [sB,iA,kP,Fb,if_neg (by omega),if_neg (by omega),if_neg (by omega),if_pos ⟨⟨⟨by omega,by simp,by omega⟩,by simp,by omega⟩,by simp,by omega⟩,if_pos (by omega)]
   congr 1;omega
 ·rw [if_neg hd]
  unfold AN;simp only [li]
  cases xs with
  | nil=>exact absurd rfl h0
  | cons a t=>
   have ha:=b8 a
   by_cases h1:a.toNat<128
   ·exact absurd (by rw [wO a t h1]) hd
   rw [sB,if_neg h1]
   split
   ·rename_i h2
    split
    ·rename_i h3
     cases t with
     | nil=>simp at h2
     | cons b t=>
      rw [iA] at h2 h3;have hb:=b8 b;exact absurd (by rw [vg a (b::t) (by omega)];simp only;rw [if_pos (by unfold iZ;omega)]) hd
    ·rfl
   ·split
    ·rename_i h2
     split
     ·rename_i h3
      rcases t with _ | ⟨b,_ | ⟨c,t⟩⟩
      ·simp at h2
      ·simp at h2
      ·rw [iA,kP] at h2 h3
       have hb:=b8 b;have hc:=b8 c;exact absurd (by rw [xo a (b::c::t) (by omega)];simp only;rw [if_pos (by unfold iZ;omega),if_pos (by unfold tl;omega)]) hd
     ·rfl
    ·split
     ·rename_i h2
      split
      ·rename_i h3
       rcases t with _ | ⟨b,_ | ⟨c,_ | ⟨d,t⟩⟩⟩
       ·simp at h2
       ·simp at h2
       ·simp at h2
       ·rw [iA,kP,Fb] at h2 h3
        have hb:=b8 b;have hc:=b8 c;have a1:=b8 d;exact absurd (by rw [vm a (b::c::d::t) (by omega)];simp only;rw [if_pos (by unfold iZ;omega),if_pos (by unfold tl;omega),if_pos (by unfold tl;omega)]) hd
      ·rfl
     ·rfl
theorem nA (s:ByteArray)(i:Nat)(h:i<s.size):Utf8.decode s i=if(bE (s.data.toList.drop i)).2.2=0 then((bE (s.data.toList.drop i)).1,(bE (s.data.toList.drop i)).2.1) else(65533,1):=by
 rw [rP];apply Bl;intro e;have:=congrArg List.length e;rw [List.length_drop,Array.length_toList] at this;have:s.size=s.data.size:=rfl;simp at *;omega
theorem Cm:bF ((65533:Nat):Int) = [239,191,189]:=by rw [pO 65533 (by omega) (by omega)];rfl
