import Derived.Test.YthknekoamnnhhaaGreatDoorGZ5ah
set_option linter.unusedVariables false
set_option linter.unusedSimpArgs false
set_option maxHeartbeats 64000000
set_option maxRecDepth 100000
namespace Go.Proofs.YthknekoamnnhhaaGreatDoor
open Go.RowKit
variable {cs:Array Value}{j:JV}{xs:List UInt8}{at_ base g i n rb:Nat}{P:Nat->Prop}{v vk vn:Value}{w w1 w2:World}
theorem Ag (t:Tk){k:Nat}{c:Int}(h:Rd xs rb w at_ k c)(hc:c≠0)(d:Int) :
  Calls Tryz.prog 117 #[.pointer (some ⟨rb,0,none⟩),kE t,.int .i64 d] w (jU gO xs rb w at_ (t.kind≠5)):=by
 have hlt:=h.lt;have a0:=ac w (.cells (eJ t) 205);have HR:=Qa (h.below a0);have a1:=Qa (Rk.of_below a0 (Zi hlt));have cc:=(h.below a0).code;clear h a0;obtain⟨tk,ta,tm,ts,⟨dn,dd,dx⟩⟩:=t;unfold kE;simp only[eJ] at HR a1 cc;have a2:(c !=0)=true:=by simpa using hc
 have Hc:=Qa hc;clear hc;go_enter Tryz.func117,Tryz.ntmps117;go_wp2_with fail;go_ret;exact⟨_,_,_,at_,k,c,rfl,HR.out,a1.out,Za _,fun h=>absurd h Hc.out⟩
theorem wP (hl:xs.length<=6000):∀ (n at_:Nat),xs.length+1<=at_+n->∀ (t:Tk) (w:World) (k:Nat) (c d:Int),Rd xs rb w at_ k c->(c=0->(t.kind≠5->k+1<=at_)/\jO t)->
  Calls Tryz.prog 117 #[.pointer (some ⟨rb,0,none⟩),kE t,.int .i64 d] w (jU gO xs rb w at_ (t.kind≠5)):=by
 intro n
 induction n with
 |zero=>intro at_ hn t w k c d h;have:=h.atle;omega
 |succ n ih=>
  intro at_ hn t w k c d h hk;have hV:∀ (iO:Nat) (t:Tk) (w:World) (k:Nat) (c:Int) (d:Int),(c=0->t.kind≠5->at_+1<=iO)->Rd xs rb w iO k c->(c=0->(t.kind≠5->k+1<=iO)/\jO t)->
    Calls Tryz.prog 117 #[.pointer (some ⟨rb,0,none⟩),kE t,.int .i64 d] w (jU gO xs rb w iO (t.kind≠5)):=by
   intro iO t1 w1 k1 c1 d1 h1 h2 h3
   by_cases hc:c1=0
   ·by_cases h5:t1.kind=5
    ·exact nJ gO hl t1 (fun e=>absurd (e.symm.trans h5) (by decide)) (fun e=>absurd (e.symm.trans h5) (by decide)) h2 h3 d1
    ·exact ih iO (by have:=h1 hc h5;omega) t1 w1 k1 c1 d1 h2 h3
   ·exact Ag t1 h2 hc d1
  exact nJ gO hl t (fun _ w k d h hk=>zZ gO hl hV d h hk) (fun _ w k d h hk=>wj hl hV d h hk) h hk d
def Fw (a b c d x f:Int)(i:Fin 6):Int:=match i with|0=>a|1=>b|2=>c|3=>d|4=>x|5=>f
theorem Rd.fault {k:Nat}{c:Int}(h:Rd xs rb w at_ k c)(c' h' l':Int)(A:Option Addr)(n q:Nat):∃old:Array Value,w.heap[rb]?=some (.cells old 169 (0,0))/\13+4=old.size/\
  Rd xs rb (w.setRow rb (old.toList.take 13++ (#[.int .i64 c',.int .i64 h',.int .i64 l',.slice A n q]:Array Value).toList).toArray) at_ k c'/\Rk rb w (w.setRow rb (old.toList.take 13++ (#[.int .i64 c',.int .i64 h',.int .i64 l',.slice A n q]:Array Value).toList).toArray):=by
 obtain⟨a1,a2,a3,a4,a5,a6,a7,L,m,hh,l,us,w0,h1,h2,h3,h4,h5,h6⟩:=h;have hs:=Rk.setRow h1 (eP (.slice a1 xs.length a2) at_ L m (.slice a3 k a4) c' h' l' (.slice A n q));exact⟨_,h1,rfl,⟨a1,a2,a3,a4,A,n,q,L,m,h',l',us,w0,setRow_heap _ _ _ _ _ _ h1,h2,h3,h4.trans hs.1,om _ h5,h6⟩,hs⟩
theorem Rd.set8 {k:Nat}{c:Int}(h:Rd xs rb w at_ k c)(X:Int):(∃u,w.cell? ⟨rb,8,none⟩=some u)/\w.frozen? ⟨rb,8,none⟩=false/\Rd xs rb (w.setCell ⟨rb,8,none⟩ (.int .i64 X)) at_ k c/\Rk rb w (w.setCell ⟨rb,8,none⟩ (.int .i64 X)):=by
 obtain⟨a1,a2,a3,a4,a5,a6,a7,L,m,hh,l,us,w0,h1,h2,h3,h4,h5,h6⟩:=h;exact⟨⟨_,aa h1 (j:=8) (u:=.int .i64 (m 0)) rfl⟩,am h1 8,⟨a1,a2,a3,a4,a5,a6,a7,L,fun i=>if i=0 then X else m i,hh,l,us,w0,aw h1 8 (.int .i64 X),h2,h3,h4.trans (Rk.set h1 8 _).1,jB h5,h6⟩,Rk.set h1 8 _⟩
theorem Rk.row_other {tb:Nat}{T:TypeId}{z:Nat×Nat}(h:w.heap[tb]?=some (.cells cs T z))(hr:rb<tb)(new:Array Value):Below rb w (w.setRow tb new):=
 (Zd rb w).grown (ai ..) (Zi (Nat.lt_trans hr (ae h))) (fun g e=>by cases e;exact Zi hr)
theorem Dp {tb:Nat}{z:Nat×Nat}(h:w.heap[tb]?=some (.cells cs 205 z))(new:Array Value):aJ (fun e=>e=205) w (w.setRow tb new):=
 aJ.of_grown (ai ..) (fun g e cs' t z hh=>by cases e;rw[h] at hh;injection hh with hh;injection hh with _ hh;exact hh.symm)
def FP (xs:List UInt8)(w:World)(e:Ending)(w':World):Prop:= ∃ (rb:Nat) (A:Option Addr) (n q at' k':Nat) (c:Int),e =.returned (.tuple #[.pointer (some ⟨rb,0,none⟩),.slice A n q])/\Rd xs rb w' at' k' c/\w.heap.size<=rb/\Below w.heap.size w w'/\
 (c=0->∃j:JV,cK gO j/\bu (w.heap.size<= ·) w' w.heap.size (.slice A n q) (j.flat 0)/\j.size<=xs.length+1)
theorem zN (hb:Bs w v xs)(hl:xs.length<=6000)(a b c d x f:Int):Calls Tryz.prog 88 #[v,nN a b c d x f] w (FP xs w):=by
 obtain⟨hm,A,cap,rfl,j0,-⟩:=id hb;have g8:=ac w (.cells #[.int .i64 a,.int .i64 b,.int .i64 c,.int .i64 d,.int .i64 x,.int .i64 f] 121);have c6:=Qa (ar w [.int .i64 a,.int .i64 b,.int .i64 c,.int .i64 d,.int .i64 x,.int .i64 f] 121);have b2:=Qa g8;have Hb:=Qa hb;clear hb g8;unfold nN;go_enter Tryz.func88,Tryz.ntmps88;go_wp2_with fail;generalize hw1:(w.alloc (.cells #[.int .i64 a,.int .i64 b,.int .i64 c,.int .i64 d,.int .i64 x,.int .i64 f] 121))=w1 at *;have j5:w1.heap.size=w.heap.size+1:=by rw[<-hw1];simp
 clear hw1;have b7:=Qa (show(fun w':World=>w'.cell? ⟨w.heap.size,0,none⟩=some (.int .i64 a)/\w'.cell? ⟨w.heap.size,1,none⟩=some (.int .i64 b)/\w'.cell? ⟨w.heap.size,2,none⟩=some (.int .i64 c)/\w'.cell? ⟨w.heap.size,3,none⟩=some (.int .i64 d)/\w'.cell? ⟨w.heap.size,4,none⟩=some (.int .i64 x)/\w'.cell? ⟨w.heap.size,5,none⟩=some (.int .i64 f)) w1.drew from⟨c6.out 0 _ rfl,c6.out 1 _ rfl,c6.out 2 _ rfl,c6.out 3 _ rfl,c6.out 4 _ rfl,c6.out 5 _ rfl⟩);have b2:=Qa (b2.out.trans ((Zd w1.heap.size w1).drew.mono (Zb (by omega) (Za _))));generalize hwq:w1.drew=wq at b7 b2;refine aR (fun w'=>w'.cell? ⟨w.heap.size,0,none⟩=some (.int .i64 a)/\w'.cell? ⟨w.heap.size,1,none⟩=some (.int .i64 b)/\w'.cell? ⟨w.heap.size,2,none⟩=some (.int .i64 c)/\w'.cell? ⟨w.heap.size,3,none⟩=some (.int .i64 d)/\w'.cell? ⟨w.heap.size,4,none⟩=some (.int .i64 x)/\w'.cell? ⟨w.heap.size,5,none⟩=some (.int .i64 f)) ((by rw[hwq];exact b7.out)) fun a1=>?_
 refine tH 0 a1 ?_;refine tH 1 a1 ?_
 try simp only[Act.put,jP,jQ,jR]
 refine rH 2 fun K hK=>?_
 go_simp;rw[hwq] at a1;refine(eR 0 _).mono ?_;rintro e w2 ⟨u,rfl,⟨fh,fl,fs,rfl,i3⟩,b9⟩;obtain⟨fA,fq,fr,rfl,-⟩:=i3.slice;have e7:=Qa b9;clear i3;unfold dJ;go_simp;refine hK.out _ _ (⟨Zf b9 a1.1,Zf b9 a1.2.1,Zf b9 a1.2.2.1,Zf b9 a1.2.2.2.1,Zf b9 a1.2.2.2.2.1,Zf b9 a1.2.2.2.2.2⟩) (fun a1=>?_);clear hK K
 try simp only[Act.put,jP,jQ,jR]
 refine tH 3 a1 ?_
 try simp only[Act.put,jP,jQ,jR]
 refine rH 4 fun K hK=>?_
 go_simp;refine hK.out _ _ (⟨Zf (ac _ _) a1.1,Zf (ac _ _) a1.2.1,Zf (ac _ _) a1.2.2.1,Zf (ac _ _) a1.2.2.2.1,Zf (ac _ _) a1.2.2.2.2.1,Zf (ac _ _) a1.2.2.2.2.2⟩) (fun a1=>?_);clear hK K
 try simp only[Act.put,jP,jQ,jR]
 refine tH 5 a1 ?_
 try simp only[Act.put,jP,jQ,jR]
 refine wpAnyH_done (by kernel_rfl) (NoPanic.normal ?_) _;have e1:=Ze w2 (.cells (eP (.slice A xs.length cap) 0 (Fw a b c d x f) (fun _=>0) (.slice none 0 0) 0 fh fl (.slice fA fq fr)) 169);have i4:Below w.heap.size w (w2.alloc (.cells (eP (.slice A xs.length cap) 0 (Fw a b c d x f) (fun _=>0) (.slice none 0 0) 0 fh fl (.slice fA fq fr)) 169)):=(b2.out.trans (e7.out.mono b2.out.size)).alloc (Zb b2.out.size e7.out.size) _;have g9:Rd xs w2.heap.size (w2.alloc (.cells (eP (.slice A xs.length cap) 0 (Fw a b c d x f) (fun _=>0) (.slice none 0 0) 0 fh fl (.slice fA fq fr)) 169)) 0 0 0:=
  ⟨A,cap,none,0,fA,fq,fr,Fw a b c d x f,fun _=>0,fh,fl, [],w2,e1,(Hb.out.below (b2.out.trans (e7.out.mono b2.out.size))),Za _,ac _ _,⟨rfl,.inl ⟨rfl,rfl⟩⟩,Zj _,Za _⟩
 have a0:w.heap.size<=w2.heap.size:=Zb b2.out.size e7.out.size;have h4:=Qa g9;have f4:=Qa i4;obtain⟨l0,l1,l2,l3,l4,l5⟩:=a1;clear e1 i4 g9 b7 hwq;go_wp2_with fail;refine(EC a b c d x f _).mono ?_;rintro e w4 ⟨ok,rfl,b5⟩;have g3:=Qa (h4.out.below b5);have b1:=Qa (f4.out.trans (b5.mono f4.out.size));have m0:=Zf b5 l0;have m1:=Zf b5 l1;have m2:=Zf b5 l2;have m3:=Zf b5 l3;have m4:=Zf b5 l4;have m5:=Zf b5 l5;clear b5 l0 l1 l2 l3 l4 l5 h4 f4;generalize w2.heap.size=rb at *
 cases ok
 case false=>
  go_wp2_with fail;refine(eR 127 _).mono ?_;rintro e w5 ⟨u,rfl,⟨gh,gl,gs,rfl,d4⟩,c1⟩;obtain⟨gA,gq,gr,rfl,-⟩:=d4.slice;have e6:=Qa (g3.out.below c1);have b4:=Qa (b1.out.trans (c1.mono b1.out.size));obtain⟨old,ho,d2,c7,d1⟩:=e6.out.fault 127 gh gl gA gq gr;have Ho:=Qa ho;have e3:=Qa d2;have d9:=Qa c7;have j1:=Qa d1;clear d4 c1 ho d2 c7 d1 m0 m1 m2 m3 m4 m5;unfold dJ;go_wp2_with (refine dk rfl 70 (.tmp 22) (.tmp 20) rfl rfl rb 13 #[.int .i64 127,.int .i64 gh,.int .i64 gl,.slice gA gq gr] _ (by simp[Act.eval]) (by simp[Act.eval]) 169 old Ho.out bo e3.out (mW _ _ _ rfl) rfl ?_);go_ret2;exact⟨rb,none,0,0,0,0,127,rfl,d9.out,a0,b4.out.trans (j1.out.1.mono a0),fun h=>absurd h (by decide)⟩
 go_wp2_with fail;refine(gF a b c d x f 1 _ _).mono ?_;rintro e w5 ⟨c5,u,rfl,⟨gh,gl,gs,rfl,d4⟩,c1⟩;obtain⟨gA,gq,gr,rfl,-⟩:=d4.slice;have e6:=Qa (g3.out.below c1);have b4:=Qa (b1.out.trans (c1.mono b1.out.size));obtain⟨old,ho,d2,c7,d1⟩:=e6.out.fault c5 gh gl gA gq gr;have Ho:=Qa ho;have e3:=Qa d2;have d9:=Qa c7;have a6:=Qa (b4.out.trans (d1.1.mono a0));have cc:=c7.code;clear d4 c1 ho d2 c7 d1 m0 m1 m2 m3 m4 m5;unfold dJ
 by_cases hc:c5=0
 case neg=>
  have h8:(c5 !=0)=true:=by simpa using hc
  have Hc:=Qa hc;clear hc;go_wp2_with (refine dk rfl 70 (.tmp 30) (.tmp 28) rfl rfl rb 13 #[.int .i64 c5,.int .i64 gh,.int .i64 gl,.slice gA gq gr] _ (by simp[Act.eval]) (by simp[Act.eval]) 169 old Ho.out bo e3.out (mW _ _ _ rfl) rfl ?_);go_ret2;exact⟨rb,none,0,0,0,0,c5,rfl,d9.out,a0,a6.out,fun h=>absurd h Hc.out⟩
 subst hc;go_wp2_with (refine dk rfl 70 (.tmp 30) (.tmp 28) rfl rfl rb 13 #[.int .i64 0,.int .i64 gh,.int .i64 gl,.slice gA gq gr] _ (by simp[Act.eval]) (by simp[Act.eval]) 169 old Ho.out bo e3.out (mW _ _ _ rfl) rfl ?_);generalize (w5.setRow rb (old.toList.take 13++ (#[.int .i64 0,.int .i64 gh,.int .i64 gl,.slice gA gq gr]:Array Value).toList).toArray)=w6 at *;clear cc Ho e3 e6 b4 g3 b1;refine(df d9.out (by omega)).mono ?_;rintro e w7 ⟨t,kH,c2,rfl,g6,i2,g0,h7⟩;have e5:=Qa g6;have h0:=Qa i2;have h6:=Qa h7;obtain⟨tk,ta,tm,ts,⟨dn,dd,dx⟩⟩:=t;rw[show kE ⟨tk,ta,tm,ts,⟨dn,dd,dx⟩⟩ =.agg #[.int .i64 tk,.int .i64 ta,.int .u8 tm,.string ts,.bool dn,.string dd,.int .i64 dx] from rfl];have b8:=ac w7 (.cells #[.int .i64 tk,.int .i64 ta,.int .u8 tm,.string ts,.bool dn,.string dd,.int .i64 dx] 205);have c8:=Qa (Ze w7 (.cells #[.int .i64 tk,.int .i64 ta,.int .u8 tm,.string ts,.bool dn,.string dd,.int .i64 dx] 205));have i8:=Qa (e5.out.below b8);have f0:=Qa (h0.out.trans (Rk.of_below b8 (Zi e5.out.lt)));have d6:=Qa e5.out.lt;clear g6 i2 h7 g0 b8 e5 h0 d9;obtain⟨t0,t1,t2,t3,t4,t5,t6⟩:=a8 (t:=⟨tk,ta,tm,ts,⟨dn,dd,dx⟩⟩) c8.out;go_upto_region 10 with fail
 generalize (w7.alloc (.cells #[.int .i64 tk,.int .i64 ta,.int .u8 tm,.string ts,.bool dn,.string dd,.int .i64 dx] 205))=w8 at *;generalize w7.heap.size=tb at *;have hv:∀lv:Int,Calls Tryz.prog 117 #[.pointer (some ⟨rb,0,none⟩),.agg #[.int .i64 tk,.int .i64 ta,.int .u8 tm,.string ts,.bool dn,.string dd,.int .i64 dx],.int .i64 lv] w8 (jU gO xs rb w8 kH (¬tk=5)):=fun lv=>wP hl (xs.length+1) kH (by omega) ⟨tk,ta,tm,ts,⟨dn,dd,dx⟩⟩ w8 0 c2 lv i8.out (fun h=>⟨fun h'=>by have:=(h6.out h).1 h';omega,(h6.out h).2⟩)
 have Hv:=Qa hv;clear hv;go_wp2_with fail;refine(Hv.out _).mono ?_;rintro e w9 ⟨A3,n3,q3,GO,k3,c3,rfl,g4,f6,f5,i0⟩;have g2:=Qa g4;have g5:=Qa (f0.out.trans f6);have g7:=Qa i0;have f2:=Qa (f6.row c8.out cM);have j3:=Qa f0.out.2.1;have cc:=g4.code;clear g4 f6 i0 f5 t0 t1 t2 t3 t4 t5 t6 Hv
 by_cases hc:c3=0
 case neg=>
  have h8:(c3 !=0)=true:=by simpa using hc
  have Hc:=Qa hc;clear hc;go_wp2_with fail;go_ret2;exact⟨rb,none,0,0,GO,k3,c3,rfl,g2.out,a0,a6.out.trans (g5.out.1.mono a0),fun h=>absurd h Hc.out⟩
 subst hc;obtain⟨-,j,hg,hf,hsz⟩:=g7.out rfl;have k0:=g2.out.atle;have Hg:=Qa hg;have Hf:=Qa hf;clear hg hf g7;go_wp2_with fail;refine(df g2.out (by omega)).mono ?_;rintro e w10 ⟨t,at4,c4,rfl,c0,b3,i9,-⟩;have a2:=b3.row f2.out cM;obtain⟨tk4,ta4,tm4,ts4,⟨dn4,dd4,dx4⟩⟩:=t;rw[show kE ⟨tk4,ta4,tm4,ts4,⟨dn4,dd4,dx4⟩⟩ =.agg #[.int .i64 tk4,.int .i64 ta4,.int .u8 tm4,.string ts4,.bool dn4,.string dd4,.int .i64 dx4] from rfl];have h9:=c0.lt;have a5:=Qa (c0.other a2 cM (Zi d6.out) (eJ ⟨tk4,ta4,tm4,ts4,⟨dn4,dd4,dx4⟩⟩));have f1:=Qa ((g5.out.trans b3).1);have f3:=Qa b3;have j2:=Qa (Dp a2 (eJ ⟨tk4,ta4,tm4,ts4,⟨dn4,dd4,dx4⟩⟩));have d5:w.heap.size<=w8.heap.size:=Zb a6.out.size f0.out.2.1;have e4:=Qa a2;have a7:=Qa (setRow_heap _ _ _ (eJ ⟨tk4,ta4,tm4,ts4,⟨dn4,dd4,dx4⟩⟩) _ _ a2);clear c0 b3 a2;have a9:=Qa (f1.out.trans (Rk.row_other e4.out d6.out (eJ ⟨tk4,ta4,tm4,ts4,⟨dn4,dd4,dx4⟩⟩)))
 by_cases hc:c4=0
 case neg=>
  have h8:(c4==0)=false:=by simpa using hc
  have Hc:=Qa hc;clear hc;go_wp2_with (refine wpList_store_rowTo rfl 205 (.tmp 8) (.tmp 51) rfl rfl tb (eJ ⟨tk4,ta4,tm4,ts4,⟨dn4,dd4,dx4⟩⟩) (by simp[Act.eval]) (by simp[Act.eval,eJ]) 205 _ e4.out de rfl (fv ..) ?_;generalize w10.setRow tb (eJ ⟨tk4,ta4,tm4,ts4,⟨dn4,dd4,dx4⟩⟩)=w11 at *;have cc:=a5.out.code;obtain⟨t0,t1,t2,t3,t4,t5,t6⟩:=a8 (t:=⟨tk4,ta4,tm4,ts4,⟨dn4,dd4,dx4⟩⟩) a7.out;obtain⟨⟨u8,e8⟩,f8,a3,a4⟩:=a5.out.set8 (xs.length:Int);have b6:=Qa a3;have b0:=Qa a4;clear a3 a4);go_ret2;exact⟨rb,A3,n3,q3,at4,k3,c4,rfl,b6.out,a0,a6.out.trans ((a9.out.trans b0.out.1).mono a0),fun h=>absurd h Hc.out⟩
 subst hc
 by_cases h5:tk4=5
 ·have i5:(tk4 !=5)=false:=by simp[h5]
  have H5:=Qa h5;clear h5;go_wp2_with (refine wpList_store_rowTo rfl 205 (.tmp 8) (.tmp 51) rfl rfl tb (eJ ⟨tk4,ta4,tm4,ts4,⟨dn4,dd4,dx4⟩⟩) (by simp[Act.eval]) (by simp[Act.eval,eJ]) 205 _ e4.out de rfl (fv ..) ?_;generalize w10.setRow tb (eJ ⟨tk4,ta4,tm4,ts4,⟨dn4,dd4,dx4⟩⟩)=w11 at *;have cc:=a5.out.code;obtain⟨t0,t1,t2,t3,t4,t5,t6⟩:=a8 (t:=⟨tk4,ta4,tm4,ts4,⟨dn4,dd4,dx4⟩⟩) a7.out;obtain⟨⟨u8,e8⟩,f8,a3,a4⟩:=a5.out.set8 (xs.length:Int);have b6:=Qa a3;have b0:=Qa a4;clear a3 a4);go_ret2;refine⟨rb,A3,n3,q3,at4,k3,0,rfl,b6.out,a0,a6.out.trans ((a9.out.trans b0.out.1).mono a0),fun _=>⟨j,Hg.out,?_,by omega⟩⟩;have h1:=(Hf.out.keeps (show aJ TR w9 w10 from f3.out.2) ij lk lg);have h2:=h1.keeps (T:=fun e=>e=205) (j2.out) (by decide) (by decide) (by decide);have h3:=h2.keeps b0.out.2 ij lk lg;exact(h3.low a0).imp (fun g a _=>Zb d5 a)
 ·have i5:(tk4 !=5)=true:=by simpa using h5
  clear h5;have wr:∀W,Rd xs rb W at4 k3 0->Calls Tryz.prog 118 #[.pointer (some ⟨rb,0,none⟩),.agg #[.int .i64 tk4,.int .i64 ta4,.int .u8 tm4,.string ts4,.bool dn4,.string dd4,.int .i64 dx4]] W (kt xs rb W at4 k3):=fun W h=>fJ h ⟨tk4,ta4,tm4,ts4,⟨dn4,dd4,dx4⟩⟩
  have Wr:=Qa wr;clear wr;go_wp2_with (refine wpList_store_rowTo rfl 205 (.tmp 8) (.tmp 51) rfl rfl tb (eJ ⟨tk4,ta4,tm4,ts4,⟨dn4,dd4,dx4⟩⟩) (by simp[Act.eval]) (by simp[Act.eval,eJ]) 205 _ e4.out de rfl (fv ..) ?_;generalize w10.setRow tb (eJ ⟨tk4,ta4,tm4,ts4,⟨dn4,dd4,dx4⟩⟩)=w11 at *;have cc:=a5.out.code;obtain⟨t0,t1,t2,t3,t4,t5,t6⟩:=a8 (t:=⟨tk4,ta4,tm4,ts4,⟨dn4,dd4,dx4⟩⟩) a7.out;obtain⟨⟨u8,e8⟩,f8,a3,a4⟩:=a5.out.set8 (xs.length:Int);have b6:=Qa a3;have b0:=Qa a4;clear a3 a4);refine(Wr.out _ a5.out).mono ?_;rintro e w12 ⟨⟨v,rfl⟩,c12,d3,e2,e0⟩;have Hc:=Qa d3;obtain⟨⟨u8',e8'⟩,f8',d0,c9⟩:=e2.set8 (xs.length:Int);have f9:=Qa d0;have g1:=Qa (e0.trans c9);clear e2 e0 d3 d0 c9 cc t0 t1 t2 t3 t4 t5 t6 e8 f8;go_wp2_with fail;go_ret2;exact⟨rb,A3,n3,q3,at4,k3,c12,rfl,f9.out,a0,a6.out.trans ((a9.out.trans g1.out.1).mono a0),fun h=>absurd h Hc.out⟩
theorem Cz:(Tryz.prog.info? 117).map (·.size)=some 4:=by kernel_rfl
theorem l7 {fn:Func}{p m q:Tmp}(h:fn.results = #[.tmp m,.cell p 117,.cell q 70])(tmps:Array Value)(w:World)(g1 g:Nat)(t1 t:TypeId)(d0 d1 d2 d3 c0 c1 c2 c3:Value)(fr1 fr:Nat×Nat)
  (a2:tmps.getD p undef =.pointer (some ⟨g1,0,none⟩)) (a3:w.heap[g1]?=some (.cells #[d0,d1,d2,d3] t1 fr1))
  (hp:tmps.getD q undef =.pointer (some ⟨g,0,none⟩)) (hg:w.heap[g]?=some (.cells #[c0,c1,c2,c3] t fr)) :
  (results fn tmps).run Tryz.prog w =.ok (.tuple #[tmps.getD m undef,.agg #[d0,d1,d2,d3],.agg #[c0,c1,c2,c3]]) w:=by
 have a0:tmps[p]?.getD undef =.pointer (some ⟨g1,0,none⟩):=by simpa using a2
 have a1:tmps[q]?.getD undef =.pointer (some ⟨g,0,none⟩):=by simpa using hp
 have a4:=run_loadVar_row (P:=Tryz.prog) w g1 t1 117 #[d0,d1,d2,d3] fr1 _ a3 Tryz.underlying117 rfl Cz;have hl:=run_loadVar_row (P:=Tryz.prog) w g t 70 #[c0,c1,c2,c3] fr _ hg Tryz.underlying70 rfl bo;simp[results,h,a0,a1,asAddr,a4,hl]
def iX (xs:List UInt8)(w:World)(v:Value)(c:Int)(w':World):Prop:=Below w.heap.size w w'/\(∃A n q,v =.slice A n q)/\(c=0->∃j:JV,cK gO j/\bu (w.heap.size<= ·) w' w.heap.size v (j.flat 0)/\j.size<=xs.length+1)
theorem IW (h:Below w.heap.size w w1)(X Y:Array Value):Below w.heap.size w ((w1.drew.setRow (w.heap.size+1) X).setRow (w.heap.size+2) Y):=by
 have h1:Below w.heap.size w w1.drew:=h.drew;have h2:=h1.grown (ai w1.drew (w.heap.size+1) X) h1.size (fun g e=>by cases e;omega);exact h2.grown (ai _ (w.heap.size+2) Y) h2.size (fun g e=>by cases e;omega)
theorem I8 {ns:List Nd}(h:bu P w1 base v ns){c1 c2:Array Value}(h1:w1.heap[w.heap.size+1]?=some (.cells c1 117 (0,0)))(h2:w1.heap[w.heap.size+2]?=some (.cells c2 70 (0,0)))(X Y:Array Value) :
  bu P ((w1.drew.setRow (w.heap.size+1) X).setRow (w.heap.size+2) Y) base v ns:=by
 have h0:bu P w1.drew base v ns:=h.below (Zd w1.heap.size w1).drew (Za _);have k1:aJ (fun e=>e=117) w1.drew (w1.drew.setRow (w.heap.size+1) X):=aJ.of_grown (ai ..) (fun g e cs t z hh=>by cases e;have a0:w1.drew.heap[w.heap.size+1]?=_:=h1;rw[a0] at hh;injection hh with hh;injection hh with _ hh;exact hh.symm);have a1:(w1.drew.setRow (w.heap.size+1) X).heap[w.heap.size+2]?=some (.cells c2 70 (0,0)):=(setRow_other _ _ _ _ (by omega)).trans h2;have k2:aJ (fun e=>e=70) (w1.drew.setRow (w.heap.size+1) X) ((w1.drew.setRow (w.heap.size+1) X).setRow (w.heap.size+2) Y):=aJ.of_grown (ai ..) (fun g e cs t z hh=>by cases e;rw[a1] at hh;injection hh with hh;injection hh with _ hh;exact hh.symm);exact(h0.keeps k1 (by decide) (by decide) (by decide)).keeps k2 (by decide) (by decide) (by decide)
def Ix (xs:List UInt8)(w:World)(e:Ending)(w':World):Prop:= ∃ (v:Value) (m0 m1 m2 m3 c h l:Int) (sA:Option Addr) (sn sc:Nat),e =.returned (.tuple #[v,.agg #[.int .i64 m0,.int .i64 m1,.int .i64 m2,.int .i64 m3],.agg #[.int .i64 c,.int .i64 h,.int .i64 l,.slice sA sn sc]])/\iX xs w v c w'
theorem ye (hb:Bs w v xs)(hl:xs.length<=6000)(a b c d x f:Int):Calls Tryz.prog 50 #[v,nN a b c d x f] w (Ix xs w):=by
 obtain⟨hm,A,cap,rfl,c7,-⟩:=id hb;have b6:Below w.heap.size w (((w.alloc (.cells #[.int .i64 a,.int .i64 b,.int .i64 c,.int .i64 d,.int .i64 x,.int .i64 f] 121)).alloc (.cells #[.int .i64 0,.int .i64 0,.int .i64 0,.int .i64 0] 117)).alloc (.cells #[.int .i64 0,.int .i64 0,.int .i64 0,.slice none 0 0] 70)):=(((Zd _ _).alloc (Za _) _).alloc (by simp) _).alloc (by simp;omega) _;have b9:=Ze (w.alloc (.cells #[.int .i64 a,.int .i64 b,.int .i64 c,.int .i64 d,.int .i64 x,.int .i64 f] 121)) (.cells #[.int .i64 0,.int .i64 0,.int .i64 0,.int .i64 0] 117);have b8:=Ze ((w.alloc (.cells #[.int .i64 a,.int .i64 b,.int .i64 c,.int .i64 d,.int .i64 x,.int .i64 f] 121)).alloc (.cells #[.int .i64 0,.int .i64 0,.int .i64 0,.int .i64 0] 117)) (.cells #[.int .i64 0,.int .i64 0,.int .i64 0,.slice none 0 0] 70);have b5:=(Below.heap_alloc ((w.alloc (.cells #[.int .i64 a,.int .i64 b,.int .i64 c,.int .i64 d,.int .i64 x,.int .i64 f] 121)).alloc (.cells #[.int .i64 0,.int .i64 0,.int .i64 0,.int .i64 0] 117)) (.cells #[.int .i64 0,.int .i64 0,.int .i64 0,.slice none 0 0] 70) (w.alloc (.cells #[.int .i64 a,.int .i64 b,.int .i64 c,.int .i64 d,.int .i64 x,.int .i64 f] 121)).heap.size (by simp)).trans b9;have c0:(((w.alloc (.cells #[.int .i64 a,.int .i64 b,.int .i64 c,.int .i64 d,.int .i64 x,.int .i64 f] 121)).alloc (.cells #[.int .i64 0,.int .i64 0,.int .i64 0,.int .i64 0] 117)).alloc (.cells #[.int .i64 0,.int .i64 0,.int .i64 0,.slice none 0 0] 70)).heap.size=w.heap.size+3:=by simp
 have Hb:=Qa (hb.below b6);have b3:=Qa b6;simp only[World.size_alloc] at b8 b5;have c2:=Qa b5;have c4:=Qa b8;have b4:=Qa c0;clear hb b6 b9 b8 b5 c0;have rd:∀W v,Bs W v xs->Calls Tryz.prog 88 #[v,.agg #[.int .i64 a,.int .i64 b,.int .i64 c,.int .i64 d,.int .i64 x,.int .i64 f]] W (FP xs W):=fun W v h=>zN h hl a b c d x f
 have c6:=Qa rd;clear rd;unfold nN;go_enter Tryz.func50,Tryz.ntmps50;go_wp2_with fail;generalize (((w.alloc (.cells #[.int .i64 a,.int .i64 b,.int .i64 c,.int .i64 d,.int .i64 x,.int .i64 f] 121)).alloc (.cells #[.int .i64 0,.int .i64 0,.int .i64 0,.int .i64 0] 117)).alloc (.cells #[.int .i64 0,.int .i64 0,.int .i64 0,.slice none 0 0] 70))=w0 at *;refine(c6.out _ _ Hb.out).mono ?_;rintro e w1 ⟨rb,A3,n3,q3,GO,k3,c3,rfl,hR,hrb,b2,hj⟩;obtain⟨a1,a2,a3,a4,sA,sn,sc,L,m,fh,fl,us,wx,a9,_⟩:=hR;have a5:=Qa a9;have cc:=aa a9 (j:=13) (u:=.int .i64 c3) rfl;have b0:=Qa ((b2.block (w.heap.size+1) (by rw[b4.out];omega)).trans c2.out);have b1:=Qa ((b2.block (w.heap.size+2) (by rw[b4.out];omega)).trans c4.out);have c1:=Qa (b3.out.trans (b2.mono b3.out.size));have c5:w.heap.size+3<=rb:=by rw[<-b4.out];exact hrb
 have a7:=Qa (show ¬some rb=some (w.heap.size+1) from fun e=>by injection e with e;omega);have a6:=Qa (show ¬some rb=some (w.heap.size+2) from fun e=>by injection e with e;omega);have Hj:=Qa hj;clear a9 b2 hj hrb
 by_cases hc:c3=0
 case neg=>
  have c8:(c3 !=0)=true:=by simpa using hc
  have Hc:=Qa hc;clear hc;go_wp2_with fail;have b7:=Qa (show(fun w':World=>w'.cell? ⟨rb,13,none⟩=some (.int .i64 c3)/\w'.cell? ⟨rb,14,none⟩=some (.int .i64 fh)/\w'.cell? ⟨rb,15,none⟩=some (.int .i64 fl)/\w'.cell? ⟨rb,16,none⟩=some (.slice sA sn sc)) w1.drew from⟨aa a5.out (j:=13) rfl,aa a5.out (j:=14) rfl,aa a5.out (j:=15) rfl,aa a5.out (j:=16) rfl⟩);refine aR (fun w'=>w'.cell? ⟨rb,13,none⟩=some (.int .i64 c3)/\w'.cell? ⟨rb,14,none⟩=some (.int .i64 fh)/\w'.cell? ⟨rb,15,none⟩=some (.int .i64 fl)/\w'.cell? ⟨rb,16,none⟩=some (.slice sA sn sc)) (b7.out) fun a0=>?_
  refine tH 0 a0 ?_;refine tH 1 a0 ?_;refine tH 2 a0 ?_;refine tH 3 a0 ?_;refine tH 4 a0 ?_;refine tH 5 a0 ?_
  try simp only[Act.put,jP,jQ,jR]
  refine rH 6 fun K hK=>?_
  refine bT (show w1.drew.heap[w.heap.size+1]?=_ from b0.out) ?_;refine hK.out _ _ (⟨(ai _ _ _).cell a0.1 (fun e=>a7.out e),(ai _ _ _).cell a0.2.1 (fun e=>a7.out e),(ai _ _ _).cell a0.2.2.1 (fun e=>a7.out e),(ai _ _ _).cell a0.2.2.2 (fun e=>a7.out e)⟩) (fun a0=>?_);clear hK K
  try simp only[Act.put,jP,jQ,jR]
  refine rH 7 fun K hK=>?_
  refine bT ((setRow_other _ _ _ _ (by omega)).trans (show w1.drew.heap[w.heap.size+2]?=_ from b1.out)) ?_;refine hK.out _ _ (⟨(ai _ _ _).cell a0.1 (fun e=>a6.out e),(ai _ _ _).cell a0.2.1 (fun e=>a6.out e),(ai _ _ _).cell a0.2.2.1 (fun e=>a6.out e),(ai _ _ _).cell a0.2.2.2 (fun e=>a6.out e)⟩) (fun a0=>?_);clear hK K
  try simp only[Act.put,jP,jQ,jR]
  refine wpAnyH_done (by kernel_rfl) (NoPanic.normal ?_) _;clear a0;go_wp2_with fail;exact Zg (l7 Tryz.results50 _ _ (w.heap.size+1) (w.heap.size+2) _ _ _ _ _ _ _ _ _ _ (0,0) (0,0) rfl (by(first|exact(setRow_other _ _ _ _ (by omega)).trans (setRow_heap _ _ _ _ _ _ (show w1.drew.heap[w.heap.size+1]?=_ from b0.out)))) rfl (setRow_heap _ _ _ _ _ _ ((setRow_other _ _ _ _ (by omega)).trans (show w1.drew.heap[w.heap.size+2]?=_ from b1.out)))) rfl ⟨_,_,_,_,_,_,_,_,_,_,_,rfl,IW c1.out _ _,⟨_,_,_,rfl⟩,fun h=>absurd h Hc.out⟩
 subst hc;go_wp2_with fail;have b7:=Qa (show(fun w':World=>w'.cell? ⟨rb,8,none⟩=some (.int .i64 (m 0))/\w'.cell? ⟨rb,9,none⟩=some (.int .i64 (m 1))/\w'.cell? ⟨rb,10,none⟩=some (.int .i64 (m 2))/\w'.cell? ⟨rb,11,none⟩=some (.int .i64 (m 3))/\w'.cell? ⟨rb,13,none⟩=some (.int .i64 0)/\w'.cell? ⟨rb,14,none⟩=some (.int .i64 fh)/\w'.cell? ⟨rb,15,none⟩=some (.int .i64 fl)/\w'.cell? ⟨rb,16,none⟩=some (.slice sA sn sc)) w1.drew from⟨aa a5.out (j:=8) rfl,aa a5.out (j:=9) rfl,aa a5.out (j:=10) rfl,aa a5.out (j:=11) rfl,aa a5.out (j:=13) rfl,aa a5.out (j:=14) rfl,aa a5.out (j:=15) rfl,aa a5.out (j:=16) rfl⟩);refine aR (fun w'=>w'.cell? ⟨rb,8,none⟩=some (.int .i64 (m 0))/\w'.cell? ⟨rb,9,none⟩=some (.int .i64 (m 1))/\w'.cell? ⟨rb,10,none⟩=some (.int .i64 (m 2))/\w'.cell? ⟨rb,11,none⟩=some (.int .i64 (m 3))/\w'.cell? ⟨rb,13,none⟩=some (.int .i64 0)/\w'.cell? ⟨rb,14,none⟩=some (.int .i64 fh)/\w'.cell? ⟨rb,15,none⟩=some (.int .i64 fl)/\w'.cell? ⟨rb,16,none⟩=some (.slice sA sn sc)) (b7.out) fun a0=>?_
 refine tH 0 a0 ?_;refine tH 1 a0 ?_;refine tH 2 a0 ?_;refine tH 3 a0 ?_;refine tH 4 a0 ?_;refine tH 5 a0 ?_
 try simp only[Act.put,jP,jQ,jR]
 refine tH 6 a0 ?_;refine tH 7 a0 ?_;refine tH 8 a0 ?_;refine tH 9 a0 ?_
 try simp only[Act.put,jP,jQ,jR]
 refine rH 10 fun K hK=>?_
 refine bT (show w1.drew.heap[w.heap.size+1]?=_ from b0.out) ?_;refine hK.out _ _ (⟨(ai _ _ _).cell a0.1 (fun e=>a7.out e),(ai _ _ _).cell a0.2.1 (fun e=>a7.out e),(ai _ _ _).cell a0.2.2.1 (fun e=>a7.out e),(ai _ _ _).cell a0.2.2.2.1 (fun e=>a7.out e),(ai _ _ _).cell a0.2.2.2.2.1 (fun e=>a7.out e),(ai _ _ _).cell a0.2.2.2.2.2.1 (fun e=>a7.out e),(ai _ _ _).cell a0.2.2.2.2.2.2.1 (fun e=>a7.out e),(ai _ _ _).cell a0.2.2.2.2.2.2.2 (fun e=>a7.out e)⟩) (fun a0=>?_);clear hK K
 try simp only[Act.put,jP,jQ,jR]
 refine rH 11 fun K hK=>?_
 refine bT ((setRow_other _ _ _ _ (by omega)).trans (show w1.drew.heap[w.heap.size+2]?=_ from b1.out)) ?_;refine hK.out _ _ (⟨(ai _ _ _).cell a0.1 (fun e=>a6.out e),(ai _ _ _).cell a0.2.1 (fun e=>a6.out e),(ai _ _ _).cell a0.2.2.1 (fun e=>a6.out e),(ai _ _ _).cell a0.2.2.2.1 (fun e=>a6.out e),(ai _ _ _).cell a0.2.2.2.2.1 (fun e=>a6.out e),(ai _ _ _).cell a0.2.2.2.2.2.1 (fun e=>a6.out e),(ai _ _ _).cell a0.2.2.2.2.2.2.1 (fun e=>a6.out e),(ai _ _ _).cell a0.2.2.2.2.2.2.2 (fun e=>a6.out e)⟩) (fun a0=>?_);clear hK K
 try simp only[Act.put,jP,jQ,jR]
 refine wpAnyH_done (by kernel_rfl) (NoPanic.normal ?_) _;clear a0;go_wp2_with fail;exact Zg (l7 Tryz.results50 _ _ (w.heap.size+1) (w.heap.size+2) _ _ _ _ _ _ _ _ _ _ (0,0) (0,0) rfl (by(first|exact(setRow_other _ _ _ _ (by omega)).trans (setRow_heap _ _ _ _ _ _ (show w1.drew.heap[w.heap.size+1]?=_ from b0.out)))) rfl (setRow_heap _ _ _ _ _ _ ((setRow_other _ _ _ _ (by omega)).trans (show w1.drew.heap[w.heap.size+2]?=_ from b1.out)))) rfl ⟨_,_,_,_,_,_,_,_,_,_,_,rfl,IW c1.out _ _,⟨_,_,_,rfl⟩,fun h=>by obtain⟨j,g1,g2,g3⟩:=Hj.out (by trivial);exact⟨j,g1,(I8 ((g2.low b3.out.size).imp (Q:=(w.heap.size<= ·)) (fun g a _=>Zb b3.out.size a)) b0.out b1.out _ _),g3⟩⟩
def GM (w:World)(e:Ending)(w':World):Prop:= ∃a b c d x f:Int,e =.returned (nN a b c d x f)/\Below w.heap.size w w'
theorem AD (w:World):Calls Tryz.prog 51 #[] w (GM w):=by
 go_enter Tryz.func51,Tryz.ntmps51;go_wp2;exact Zg (results_cell_row Tryz.results51 _ _ w.heap.size 121 #[.int .i64 1073741824,.int .i64 1073741824,.int .i64 1073741824,.int .i64 1073741824,.int .i64 1073741824,.int .i64 4611686018427387903] (0,0) _ (by simp) (Ze w _) Tryz.underlying121 rfl (by kernel_rfl)) rfl ⟨_,_,_,_,_,_,rfl,ac _ _⟩
def IY (xs:List UInt8)(w:World)(e:Ending)(w':World):Prop:= ∃ (v:Value) (c h l:Int) (sA:Option Addr) (sn sc:Nat),e =.returned (.tuple #[v,.agg #[.int .i64 c,.int .i64 h,.int .i64 l,.slice sA sn sc]])/\iX xs w v c w'
theorem iX.low {c:Int}(h:iX xs w1 v c w2)(hb:Below w.heap.size w w1):iX xs w v c w2:=by
 obtain⟨h1,h2,h3⟩:=h;exact⟨hb.trans (h1.mono hb.size),h2,fun e=>by obtain⟨j,g1,g2,g3⟩:=h3 e;exact⟨j,g1,(g2.low hb.size).imp (fun g a _=>Zb hb.size a),g3⟩⟩
theorem iX.below {c:Int}(h:iX xs w v c w1)(hb:Below w1.heap.size w1 w2):iX xs w v c w2:=by
 obtain⟨h1,h2,h3⟩:=h;exact⟨h1.trans (hb.mono h1.size),h2,fun e=>by obtain⟨j,g1,g2,g3⟩:=h3 e;exact⟨j,g1,g2.below hb (Za _),g3⟩⟩
theorem iX.setRow {c:Int}(h:iX xs w v c w1)(hg:w1.heap[g]?=some (.cells cs 70 (0,0)))(hw:w.heap.size<=g)(X:Array Value):iX xs w v c (w1.setRow g X):=by
 obtain⟨h1,h2,h3⟩:=h;have k1:aJ (fun e=>e=70) w1 (w1.setRow g X):=aJ.of_grown (ai ..) (fun x e cs t z hh=>by cases e;rw[hg] at hh;injection hh with hh;injection hh with _ hh;exact hh.symm);exact⟨h1.grown (ai ..) h1.size (fun x e=>by cases e;exact hw),h2,fun e=>by obtain⟨j,g1,g2,g3⟩:=h3 e;exact⟨j,g1,g2.keeps k1 (by decide) (by decide) (by decide),g3⟩⟩
theorem AR (hb:Bs w v xs)(hl:xs.length<=6000):Calls Tryz.prog 26 #[v] w (IY xs w):=by
 have b4:=ac w (.cells #[.int .i64 0,.int .i64 0,.int .i64 0,.slice none 0 0] 70);have Hb:=Qa (hb.below b4);have b1:=Qa b4;have a9:=Qa (Ze w (.cells #[.int .i64 0,.int .i64 0,.int .i64 0,.slice none 0 0] 70));clear hb b4;go_enter Tryz.func26,Tryz.ntmps26;go_wp2_with fail;generalize (w.alloc (.cells #[.int .i64 0,.int .i64 0,.int .i64 0,.slice none 0 0] 70))=w1 at *;refine(AD w1).mono ?_;rintro e w2 ⟨a,b,c,d,x,f,rfl,a5⟩;have b3:=Qa (Hb.out.below a5);have a4:=Qa ((a5.block _ (ae a9.out)).trans a9.out);have b2:=Qa (b1.out.trans (a5.mono b1.out.size));clear a5 Hb a9 b1;go_wp2_with fail;refine(ye b3.out hl a b c d x f).mono ?_;rintro e w3 ⟨v3,m0,m1,m2,m3,c3,h3,l3,sA,sn,sc,rfl,ht⟩;have HT:=Qa (ht.low b2.out);have a1:=Qa ((ht.1.block _ (ae a4.out)).trans a4.out);have b6:w.heap.size<w3.heap.size:=ae a1.out;clear ht;go_wp2_with fail;have b0:Below w3.heap.size w3 ((w3.alloc (.cells #[.int .i64 m0,.int .i64 m1,.int .i64 m2,.int .i64 m3] 117)).alloc (.cells #[.int .i64 c3,.int .i64 h3,.int .i64 l3,.slice sA sn sc] 70)):=((Zd _ _).alloc (Za _) _).alloc (by simp) _;have a3:=Ze (w3.alloc (.cells #[.int .i64 m0,.int .i64 m1,.int .i64 m2,.int .i64 m3] 117)) (.cells #[.int .i64 c3,.int .i64 h3,.int .i64 l3,.slice sA sn sc] 70);rw[World.size_alloc] at a3;generalize ((w3.alloc (.cells #[.int .i64 m0,.int .i64 m1,.int .i64 m2,.int .i64 m3] 117)).alloc (.cells #[.int .i64 c3,.int .i64 h3,.int .i64 l3,.slice sA sn sc] 70))=w4 at *;have b5:=Qa (HT.out.below b0);have a2:=Qa ((b0.block _ (ae a1.out)).trans a1.out);have b7:w.heap.size<w3.heap.size+1:=by omega
 have a6:=Qa (show ¬some (w3.heap.size+1)=some w.heap.size from fun e=>by injection e with e;omega);have a7:=Qa (show(fun w':World=>w'.cell? ⟨w3.heap.size+1,0,none⟩=some (.int .i64 c3)/\w'.cell? ⟨w3.heap.size+1,1,none⟩=some (.int .i64 h3)/\w'.cell? ⟨w3.heap.size+1,2,none⟩=some (.int .i64 l3)/\w'.cell? ⟨w3.heap.size+1,3,none⟩=some (.slice sA sn sc)) w4.drew from⟨aa a3 (j:=0) rfl,aa a3 (j:=1) rfl,aa a3 (j:=2) rfl,aa a3 (j:=3) rfl⟩);clear b0 a3 HT a1;refine aR (fun w'=>w'.cell? ⟨w3.heap.size+1,0,none⟩=some (.int .i64 c3)/\w'.cell? ⟨w3.heap.size+1,1,none⟩=some (.int .i64 h3)/\w'.cell? ⟨w3.heap.size+1,2,none⟩=some (.int .i64 l3)/\w'.cell? ⟨w3.heap.size+1,3,none⟩=some (.slice sA sn sc)) (a7.out) fun a0=>?_
 refine tH 0 a0 ?_;refine tH 1 a0 ?_;refine tH 2 a0 ?_
 try simp only[Act.put,jP,jQ,jR]
 refine rH 3 fun K hK=>?_
 refine bT (show w4.drew.heap[w.heap.size]?=_ from a2.out) ?_;refine hK.out _ _ (⟨(ai _ _ _).cell a0.1 a6.out,(ai _ _ _).cell a0.2.1 a6.out,(ai _ _ _).cell a0.2.2.1 a6.out,(ai _ _ _).cell a0.2.2.2 a6.out⟩) (fun a0=>?_);clear hK K
 try simp only[Act.put,jP,jQ,jR]
 refine wpAnyH_done (by kernel_rfl) (NoPanic.normal ?_) _;clear a0;go_wp2_with fail;exact Zg (bI Tryz.results26 _ _ w.heap.size 70 _ _ _ _ (0,0) rfl (setRow_heap _ _ _ _ _ _ (show w4.drew.heap[w.heap.size]?=_ from a2.out))) rfl ⟨_,_,_,_,_,_,_,rfl,(b5.out.below (Zd w4.heap.size w4).drew).setRow a2.out (Za _) _⟩
theorem qm:∀ (l:List JV) (p q:Nat),q∈aV p l->p<=q/\q<p+JV.sizes l
 | [],p,q,h=>by simp[aV] at h
 |v::vs,p,q,h=>by
  simp only[aV,List.mem_cons] at h;simp only[JV.sizes];have:=v.size_pos;rcases h with rfl|h
  ·omega
  ·have:=qm vs (p+v.size) q h;omega
theorem ru (v:JV):∀p,∀x∈v.flat p,∀q∈x.kids,p<q/\q<p+v.size:=by
 refine JV.ind (P:=fun v=> ∀p,∀x∈v.flat p,∀q∈x.kids,p<q/\q<p+v.size) (fun k t x n ns ks ih p y hy q hq=>?_) v;simp only[JV.flat,List.mem_cons] at hy;simp only[JV.size];rcases hy with rfl|hy
 ·have:=qm ks (p+1) q hq;omega
 ·suffices ∀ (l:List JV) p,(∀u∈l,∀p,∀x∈u.flat p,∀q∈x.kids,p<q/\q<p+u.size)->y∈JV.flats p l->p<q/\q<p+JV.sizes l by
   have:=this ks (p+1) ih hy;omega
  intro l
  induction l with
  |nil=>intro p _ h;simp[JV.flats] at h
  |cons v vs ih2=>
   intro p hu h;simp only[JV.flats,List.mem_append] at h;simp only[JV.sizes];rcases h with h|h
   ·have:=hu v (by simp) p y h q hq;omega
   ·have:=ih2 (p+v.size) (fun u hm=>hu u (Zl _ hm)) h;omega
def iu (w:World)(base g n:Nat)(xs:List Value):Prop:=w.ownsRow base 3 1 (.slice (some ⟨g,0,none⟩) n n) n xs/\∀x∈xs,∃i:Int,x =.int .i64 i
theorem iu.get {xs:List Value}(h:iu w base g n xs)(hi:i<n):∃x:Int,w.cell? ⟨g,i,none⟩=some (.int .i64 x):=by
 have hl:xs.length=n:=by have:=h.1.1;simpa using this
 obtain⟨x,hx⟩:=h.2 xs[i] (List.getElem_mem _);exact⟨x,by rw[aA h.1 rfl i (by omega),Zc (by omega),hx]⟩
theorem iu.set {xs:List Value}(h:iu w base g n xs)(i:Nat)(x:Int):iu (w.setCell ⟨g,i,none⟩ (.int .i64 x)) base g n (xs.set i (.int .i64 x)):=by
 refine⟨(World.ownsRow.stored h.1 i _).1,fun y hy=>?_⟩;rcases List.mem_or_eq_of_mem_set hy with hy|rfl
 ·exact h.2 y hy
 ·exact⟨x,rfl⟩
def If (w:World)(g n:Nat)(s4 s5:Value)(wr:World):Prop:= ∃ (i:Nat) (m:Int) (xs:List Value),i<=n/\s4 =.int .i64 m/\s5 =.int .i64 i/\iu wr w.heap.size g n xs/\Below w.heap.size w wr
def EP (w:World)(g n m:Nat)(s6:Value)(wr:World):Prop:= ∃ (k:Nat) (xs:List Value),k<=m/\s6 =.int .i64 k/\iu wr w.heap.size g n xs/\Below w.heap.size w wr
def Dn (w:World)(e:Ending)(w':World):Prop:= ∃m:Int,e =.returned (.int .i64 m)/\Below w.heap.size w w'
theorem xy (hf:dI w 0 v (j.flat 0))(hsz:j.size<=1000000):Calls Tryz.prog 27 #[v] w (Dn w):=by
 obtain⟨A,cap,rfl,a4,hm,hA⟩:=hf.form;have hn:=j.size_pos;obtain⟨gt,rfl⟩:=hA (by rw[JV.flat_len];omega);have Hf:=Qa hf;rw[JV.flat_len] at a4 hm Hf ⊢;obtain⟨i0,hi,b2,b1,a7⟩:=info_parts eU.hi;have b9:∀W:World,(Instr.makeSlice 23 (.int .i64 (j.size:Int)) (.int .i64 (j.size:Int))).run Tryz.prog W =.ok (.slice (some ⟨W.heap.size,0,none⟩) j.size j.size) (W.alloc (.cells (madeCells #[.int .i64 0] j.size) 3)):=fun W=>by
  have:=run_make (P:=Tryz.prog) W 23 3 i0 (.int .i64 0) eU.ht hi b2 .i64 .i64 j.size j.size (by omega) (by omega) (by rw[a7];omega) (by omega);rw[b1] at this;simpa [Value.cells] using this
 have a1:iu (w.alloc (.cells (madeCells #[.int .i64 0] j.size) 3)) w.heap.size w.heap.size j.size (List.replicate j.size (.int .i64 0)):=by
  refine⟨?_,fun x hx=>⟨0,(List.mem_replicate.1 hx).2⟩⟩;have:=fc (n:=j.size) (k:=1) (Ze w (.cells (madeCells #[.int .i64 0] j.size) 3)) (Za w.heap.size) hm (by simp[madeCells])
  rwa[toList_madeCells_one] at this
 have a2:iu (w.alloc (.cells ((madeCells #[.int .i64 0] j.size).setIfInBounds 0 (.int .i64 1)) 3)) w.heap.size w.heap.size j.size ((List.replicate j.size (.int .i64 0)).set 0 (.int .i64 1)):=by
  refine⟨?_,fun x hx=>?_⟩
  ·have:=fc (n:=j.size) (k:=1) (Ze w (.cells ((madeCells #[.int .i64 0] j.size).setIfInBounds 0 (.int .i64 1)) 3)) (Za w.heap.size) hm (by simp[madeCells])
   rwa[Array.toList_setIfInBounds,toList_madeCells_one] at this
  ·rcases List.mem_or_eq_of_mem_set hx with hx|rfl
   ·exact⟨0,(List.mem_replicate.1 hx).2⟩
   ·exact⟨1,rfl⟩
 have Hrow:=Qa a2;have Hb0:=Qa (ac w (.cells ((madeCells #[.int .i64 0] j.size).setIfInBounds 0 (.int .i64 1)) 3));obtain⟨z0,c0⟩:=a1.get (i:=0) (by omega);have f0:=World.ownsRow.frozenAt a1.1 0;have c2:((j.size:Int)==0)=false:=beq_eq_false_iff_ne.2 (by omega);have c1:0<j.size:=hn;unfold maxLen at hm;clear a1 a2 hf hA hi b2 b1 a7;go_enter Tryz.func27,Tryz.ntmps27;go_wp2_with fail
 go_loopw [4,5,6] (fun s4 s5 _ wr=>If w w.heap.size j.size s4 s5 wr) (fun _ v _ _=>j.size - (intOf v).toNat)
 case atStart=>exact⟨0,1,_,Zj _,rfl,rfl,Hrow.out,Hb0.out⟩
 case round=>
  obtain⟨i,m,xs,hi,rfl,rfl,hr,hb⟩:=hrel;have Hr:=Qa hr;have Hb:=Qa hb;clear hr hb
  by_cases hlt:i<j.size
  ·obtain⟨x,hx⟩:∃x,(j.flat 0)[i]?=some x:=⟨_,Zc (by rw[JV.flat_len];exact hlt)⟩;obtain⟨di,ci⟩:=Hr.out.get hlt;have b6:(i:Int)<j.size:=by omega
   have b0:=ru j 0 x (Zk hx);have hkl:=m6 (Zk hx);have Hx:=Qa hx;have b3:=Qa b0;clear hx b0 c0 f0;obtain⟨wo,rfl⟩:∃wo:World,wo=wr:=⟨_,rfl⟩;go_upto_region 9 with fail
   go_cut [4] (fun s4 wx=>(∃m':Int,s4 =.int .i64 m')/\wo=wx)
   case first=>
    go_wp2_with fail
    all_goals
     go_meet
     case rel=>exact⟨⟨_,rfl⟩,rfl⟩
   case rest=>
    obtain⟨⟨m',rfl⟩,rfl⟩:=hcut;go_wp2_with fail
    go_loopw [6] (fun s6 wx=>EP w w.heap.size j.size x.kids.length s6 wx) (fun v _=>x.kids.length - (intOf v).toNat)
    case atStart=>exact⟨0,_,Zj _,rfl,Hr.out,Hb.out⟩
    case round=>
     obtain⟨k,ys,hk,rfl,a5,hby⟩:=hrel;obtain⟨vn,vk,h1,h2,h3⟩:=(Hf.out.below hby (Za _)).node Hx.out;obtain⟨Ak,ck,rfl,b8,b5,a9⟩:=ah h2;have c7:=h3 7 _ rfl;have a3:=Qa a5;have a6:=Qa hby;have H2:=Qa h2;have b4:=Qa a9;clear h1 h2 h3 a5 hby a9 ci
     by_cases hkt:k<x.kids.length
     ·obtain⟨gk,rfl⟩:=b4.out (by omega);obtain⟨z,hz⟩:∃z,x.kids[k]?=some z:=⟨_,Zc hkt⟩;have cz:=aA H2.out rfl k (by omega);rw[List.getElem?_map,hz] at cz;simp only[Option.map_some,cI] at cz;have hzb:=b3.out z (Zk hz);obtain⟨dz,czz⟩:=a3.out.get (i:=z) (by omega);obtain⟨dw,cw⟩:=a3.out.get hlt;have fz:=World.ownsRow.frozenAt a3.out.1 z;have hki:(k:Int)<x.kids.length:=by omega
      have b7:(z:Int)<j.size:=by omega
      have c3:z<j.size:=by omega
      go_wp2_with fail;refine dj (fun w'=>w'.cell? ⟨gt,i*8+7,none⟩=some (.slice (some ⟨gk,0,none⟩) x.kids.length ck)/\w'.cell? ⟨gk,k,none⟩=some (.int .i64 z)/\w'.cell? ⟨w.heap.size,i,none⟩=some (.int .i64 dw)) 15 (⟨c7,cz,cw⟩) fun a0=>?_
      refine tZ 0 a0 ?_;refine tZ 1 a0 ?_;refine tZ 2 a0 ?_;refine tZ 3 a0 ?_;refine tZ 4 a0 ?_;refine tZ 5 a0 ?_
      try simp only[Act.put,jP,jQ,jR]
      refine tZ 6 a0 ?_;refine tZ 7 a0 ?_;refine tZ 8 a0 ?_;refine tZ 9 a0 ?_;refine tZ 10 a0 ?_;refine tZ 11 a0 ?_
      try simp only[Act.put,jP,jQ,jR]
      refine tZ 12 a0 ?_;refine tZ 13 a0 ?_;refine tZ 14 a0 ?_
      try simp only[Act.put,jP,jQ,jR]
      refine rZ 15 fun K hK=>?_
      go_simp;refine hK.out _ _ (fun h=>absurd rfl h) (fun _=>?_);clear hK K
      try simp only[Act.put,jP,jQ,jR]
      refine bi (by kernel_rfl) (NoPanic.normal ?_) _;have hs:=a3.out.set z (wrap64 (dw+1));go_wp2_with fail;exact⟨⟨k+1,_,by omega,by go_num,hs,a6.out.drew.setCell (p:=⟨w.heap.size,z,none⟩) (Za _) _⟩,by simp[intOf];omega⟩
     ·obtain rfl:k=x.kids.length:=by omega
      go_wp2_with fail;exact⟨⟨i+1,_,_,by omega,rfl,by go_num,a3.out,a6.out⟩,by simp[intOf];omega⟩
  ·obtain rfl:i=j.size:=by omega
   go_wp2_with fail;go_ret;exact⟨_,rfl,Hb.out⟩
def Gw (w:World)(j u:JV)(a:Nat)(s1:Value)(wr:World):Prop:= ∃ (b:Nat) (x:JV),s1 =.int .i64 b/\dm j 0 b x/\b+x.size=a+u.size/\Below w.heap.size w wr
def Ju (w:World)(n:Nat)(e:Ending)(w':World):Prop:=e =.returned (.int .i64 n)/\Below w.heap.size w w'
theorem Dt {u:JV}{a:Nat}(hf:dI w 0 v (j.flat 0))(hs:dm j 0 a u)(hsz:j.size<=1000000):Calls Tryz.prog 119 #[v,.int .i64 (a:Int)] w (Ju w (a+u.size)):=by
 obtain⟨A,cap,rfl,a4,hm,hA⟩:=hf.form;have hn:=j.size_pos;obtain⟨gt,rfl⟩:=hA (by rw[JV.flat_len];omega);have Hf:=Qa hf;rw[JV.flat_len] at a4 hm Hf ⊢;have Hs:=Qa hs;unfold maxLen at hm;clear hf hA hs;go_enter Tryz.func119,Tryz.ntmps119;go_wp2_with fail
 go_loopw [1] (fun s1 wr=>Gw w j u a s1 wr) (fun v _=>j.size - (intOf v).toNat)
 case atStart=>exact⟨a,u,rfl,Hs.out,rfl,Zd _ _⟩
 case round=>
  obtain⟨b,x,rfl,hx,he,hb⟩:=hrel;have Hb:=Qa hb;obtain⟨xk,xt,xx,xn,xns,xks⟩:=x;have a9:=hx.bd;have a0:=hx.node;have b2:1<=(JV.mk xk xt xx xn xns xks).size:=JV.size_pos _;rw[Nat.sub_zero] at a0;have b5:b<j.size:=by omega
  obtain⟨vn,vk,h1,h2,h3⟩:=(Hf.out.below hb (Za _)).node a0;obtain⟨Ak,ck,rfl,a5,a7,a2⟩:=ah h2;have c7:=h3 7 _ rfl;unfold bK at h2;simp only[bh] at c7 a5 a7 a2 h2;have H2:=Qa h2;have Hx:=Qa hx;have He:=Qa he;have b0:=Qa a2;have b4:(b:Int)<j.size:=by omega
  clear h1 h2 h3 a2 a0 hx he hb
  by_cases h0:0<xks.length
  ·obtain⟨gk,rfl⟩:=b0.out h0;have hne:xks≠ []:=by intro e;subst e;simp at h0
   obtain⟨pre,rO,rfl⟩:∃pre rO,xks=pre ++ [rO]:=⟨_,_,(List.dropLast_concat_getLast hne).symm⟩;have a1:(aV (b+1) (pre ++ [rO]))[pre.length]?=some (b+1+JV.sizes pre):=by
    rw[dh,List.getElem?_append_right (by rw[bh];exact Za _)];simp[aV,bh]
   have hlen:(pre ++ [rO]).length=pre.length+1:=by simp
   rw[hlen] at c7 a5 a7 H2;have cz:=aA H2.out rfl pre.length (by omega);rw[List.getElem?_map,a1] at cz;simp only[Option.map_some,cI] at cz;have Hk:=Qa (dm.kid (post:= []) Hx.out);have b1:=Qa (show(b+1+JV.sizes pre)+rO.size=a+u.size by have:=He.out;simp only[JV.size,cY,JV.sizes] at this;omega);have hq:pre.length<pre.length+1:=by omega
   have b3:pre.length<=1000000:=by have:=bP pre;have:=He.out;simp only[JV.size,cY,JV.sizes] at a9;omega
   have w1:IntKind.i64.wrap ((pre.length:Int)+1 - 1)=pre.length:=by rw[IntWalk.i64_in _ (by omega)];omega
   have w2:IntKind.i64.wrap (pre.length:Int)=pre.length:=IntWalk.i64_in _ (by omega);have w3:(((pre.length+1:Nat):Int))= (pre.length:Int)+1:=by omega
   clear a1 hlen h0 hne;go_wp2_with fail;go_quiet (fail);go_wp2_with fail;exact⟨⟨_,rO,rfl,Hk.out,b1.out,az Hb.out _⟩,by have:=Hk.out.bd;have:=rO.size_pos;simp[intOf];omega⟩
  ·have a6:xks.length=0:=by omega
   obtain rfl:xks = []:=List.eq_nil_of_length_eq_zero a6;have a3:=Qa (show b+1=a+u.size by have:=He.out;simp only[JV.size,JV.sizes] at this;omega);clear h0 a6 a9;go_wp2_with fail;go_ret;exact⟨by rw[<-a3.out];exact zC (by omega),Hb.out⟩
theorem Dx:(Tryz.prog.info? 78).map (·.size)=some 8:=by kernel_rfl
def IR (w2:World)(f:Nat->Nat)(kids:List Nat)(s7 s8:Value)(wr:World):Prop:= ∃q:Nat,q<=kids.length/\s8 =.int .i64 q/\Below w2.heap.size w2 wr/\bK wr w2.heap.size s7 ((kids.take q).map f)
def J2 (w:World)(x:Nd)(e:Ending)(w':World):Prop:= ∃ (An:Option Addr) (cn:Nat) (Ak:Option Addr) (ck:Nat),e =.returned (.agg (aB x (.slice An x.names.length cn) (.slice Ak x.kids.length ck)).toArray)/\Below w.heap.size w w'/\cJ w' w.heap.size (.slice An x.names.length cn) x.names/\bK w' w.heap.size (.slice Ak x.kids.length ck) x.kids
theorem BF {x:Nd}(hn:cJ w 0 vn x.names)(hk:bK w 0 vk x.kids)(hnl:x.names.length<=1000000)(hkl:x.kids.length<=1000000)(f:Nat->Nat)(from_ by_:Int)
  (hf:∀q∈x.kids,((f q:Nat):Int)= (if from_<=q then(q:Int)+by_ else q)/\q<=1000000/\f q<=2000000) :
  Calls Tryz.prog 120 #[.agg (aB x vn vk).toArray,.int .i64 from_,.int .i64 by_] w (J2 w (x.mv f)):=by
 obtain⟨Anx,cnx,rfl,-,-,-⟩:=ah hn;obtain⟨Akx,ckx,rfl,-,c1,b5⟩:=ah hk;obtain⟨xk,xt,xx,⟨xn1,xn2,xn3⟩,xns,xks⟩:=x
 dsimp only at hn hk hnl hkl hf c1 b5 ⊢
 unfold aB
 dsimp only
 have a2:Below w.heap.size w ((w.alloc (.cells #[.int .i64 xk,.bool xt,.string xx,.bool xn1,.string xn2,.int .i64 xn3,.slice Anx xns.length cnx,.slice Akx xks.length ckx] 78)).alloc (.cells #[.int .i64 0,.bool false,.string es,.bool false,.string es,.int .i64 0,.slice none 0 0,.slice none 0 0] 78)):=((Zd _ _).alloc (Za _) _).alloc (by simp) _;have c6:=(Below.heap_alloc (w.alloc (.cells #[.int .i64 xk,.bool xt,.string xx,.bool xn1,.string xn2,.int .i64 xn3,.slice Anx xns.length cnx,.slice Akx xks.length ckx] 78)) (.cells #[.int .i64 0,.bool false,.string es,.bool false,.string es,.int .i64 0,.slice none 0 0,.slice none 0 0] 78) w.heap.size (by simp)).trans (Ze w (.cells #[.int .i64 xk,.bool xt,.string xx,.bool xn1,.string xn2,.int .i64 xn3,.slice Anx xns.length cnx,.slice Akx xks.length ckx] 78));have b6:=Ze (w.alloc (.cells #[.int .i64 xk,.bool xt,.string xx,.bool xn1,.string xn2,.int .i64 xn3,.slice Anx xns.length cnx,.slice Akx xks.length ckx] 78)) (.cells #[.int .i64 0,.bool false,.string es,.bool false,.string es,.int .i64 0,.slice none 0 0,.slice none 0 0] 78);rw[World.size_alloc] at b6;have b4:((w.alloc (.cells #[.int .i64 xk,.bool xt,.string xx,.bool xn1,.string xn2,.int .i64 xn3,.slice Anx xns.length cnx,.slice Akx xks.length ckx] 78)).alloc (.cells #[.int .i64 0,.bool false,.string es,.bool false,.string es,.int .i64 0,.slice none 0 0,.slice none 0 0] 78)).heap.size=w.heap.size+2:=by simp
 have HN:=Qa (hn.below a2 (Za _));have d3:=Qa (hk.below a2 (Za _));have b0:=Qa a2;have c2:=Qa c6;have c3:=Qa b6;have d4:=Qa b4;have Hf:=Qa hf;have d2:=Qa b5;unfold maxLen at c1;clear hn hk a2 c6 b6 b4 hf b5;go_enter Tryz.func120,Tryz.ntmps120;go_wp2_with fail;generalize ((w.alloc (.cells #[.int .i64 xk,.bool xt,.string xx,.bool xn1,.string xn2,.int .i64 xn3,.slice Anx xns.length cnx,.slice Akx xks.length ckx] 78)).alloc (.cells #[.int .i64 0,.bool false,.string es,.bool false,.string es,.int .i64 0,.slice none 0 0,.slice none 0 0] 78))=w2 at *
 go_loopw [7,8,9] (fun s7 s8 _ wr=>IR w2 f xks s7 s8 wr) (fun _ v _ _=>xks.length - (intOf v).toNat)
 case atStart=>exact⟨0,Zj _,rfl,Zd _ _,by rw[List.take_zero,List.map_nil];exact bK.nil _ _⟩
 case round=>
  obtain⟨q,hq,rfl,hb,ho⟩:=hrel;have Hb:=Qa hb;have Ho:=Qa ho;have c5:=hb.size;have a6:=(hb.block _ (ae c2.out)).trans c2.out;have c7:=aa a6 (j:=7) (u:=.slice Akx xks.length ckx) rfl;have a1:=Qa a6;clear hb ho a6
  by_cases hqt:q<xks.length
  ·obtain⟨gk,rfl⟩:=d2.out (by omega);obtain⟨z,hz⟩:∃z,xks[q]?=some z:=⟨_,Zc hqt⟩;have cz:=aA (d3.out.below Hb.out (Za _)) rfl q (by omega);rw[List.getElem?_map,hz] at cz;simp only[Option.map_some,cI] at cz;obtain⟨a7,d9,b4⟩:=Hf.out z (Zk hz);have Hz:=Qa (show(xks.take (q+1)).map f= (xks.take q).map f ++ [f z] by rw[cf hz,List.map_append];rfl);have b3:=Qa (show((xks.take q).map f).length=q by rw[List.length_map,List.length_take];omega);have b9:=Qa (ar wr [cI (f z)] 3);have a9:=Qa (show(wr.alloc (.cells #[.int .i64 ((f z:Nat):Int)] 3)).ownsRow w2.heap.size 3 1 u7 q (((xks.take q).map f).map cI) by have:=(Ho.out.below (ac wr (.cells #[.int .i64 ((f z:Nat):Int)] 3)) (Za _));unfold bK at this;rw[b3.out] at this;exact this);have d5:(q:Int)<xks.length:=by omega
   clear hz
   by_cases hfr:from_<=z
   ·rw[if_pos hfr] at a7;have hw:(z:Int)+by_= ((f z:Nat):Int):=a7.symm;have d6:IntKind.i64.wrap ((f z:Nat):Int)= ((f z:Nat):Int):=IntWalk.i64_in _ (by omega);have c9:=Qa a7;clear a7;go_wp2_with (at_builtin;refine ju eU a9.out b9.out (by simp;omega) ?_ (h1:=(by simp[cI,Value.oneCell']));intro v' w5 h1 h2 h3;have HK:=Qa h1;have HG:=Qa h2;clear h1 h2 h3);have a2:Below w2.heap.size w2 (wr.alloc (.cells #[.int .i64 ((f z:Nat):Int)] 3)):=Hb.out.alloc c5 _;exact⟨⟨q+1,by omega,by go_num,aL a2 a9.out a2.size HG.out,by rw[Hz.out];unfold bK;rw[List.length_append,b3.out,List.map_append];exact HK.out⟩,by simp[intOf];omega⟩
   ·rw[if_neg hfr] at a7;have a5:f z=z:=by omega
    rw[a5] at Hz b9 a9;have c9:=Qa a5;clear a7 a5;go_wp2_with (at_builtin;refine ju eU a9.out b9.out (by simp;omega) ?_ (h1:=(by simp[cI,Value.oneCell']));intro v' w5 h1 h2 h3;have HK:=Qa h1;have HG:=Qa h2;clear h1 h2 h3);have a2:Below w2.heap.size w2 (wr.alloc (.cells #[.int .i64 (z:Int)] 3)):=Hb.out.alloc c5 _;exact⟨⟨q+1,by omega,by go_num,aL a2 a9.out a2.size HG.out,by rw[Hz.out];unfold bK;rw[List.length_append,b3.out,List.map_append];exact HK.out⟩,by simp[intOf];omega⟩
  ·obtain rfl:q=xks.length:=by omega
   rw[List.take_length] at Ho;go_wp2_with fail;obtain⟨Ak7,ck7,rfl,-,-,-⟩:=ah Ho.out;rw[List.length_map] at Ho ⊢;have b1:=Qa (show(fun w':World=>w'.cell? ⟨w.heap.size,0,none⟩=some (.int .i64 xk)/\w'.cell? ⟨w.heap.size,1,none⟩=some (.bool xt)/\w'.cell? ⟨w.heap.size,2,none⟩=some (.string xx)/\w'.cell? ⟨w.heap.size,3,none⟩=some (.bool xn1)/\w'.cell? ⟨w.heap.size,4,none⟩=some (.string xn2)/\w'.cell? ⟨w.heap.size,5,none⟩=some (.int .i64 xn3)/\w'.cell? ⟨w.heap.size,6,none⟩=some (.slice Anx xns.length cnx)) wr.drew from⟨aa a1.out (j:=0) rfl,aa a1.out (j:=1) rfl,aa a1.out (j:=2) rfl,aa a1.out (j:=3) rfl,aa a1.out (j:=4) rfl,aa a1.out (j:=5) rfl,aa a1.out (j:=6) rfl⟩);have b2:=Qa (show Below w2.heap.size w2 wr.drew from Hb.out.drew);have a4:=Qa (show ¬some w.heap.size=some (w.heap.size+1) from fun e=>by injection e with e;omega);have c4:=Qa (show bK wr.drew w2.heap.size (.slice Ak7 xks.length ck7) (xks.map f) from Ho.out);clear c7;generalize hwq:wr.drew=wq at b1 b2 c4;refine aR (fun w'=>w'.cell? ⟨w.heap.size,0,none⟩=some (.int .i64 xk)/\w'.cell? ⟨w.heap.size,1,none⟩=some (.bool xt)/\w'.cell? ⟨w.heap.size,2,none⟩=some (.string xx)/\w'.cell? ⟨w.heap.size,3,none⟩=some (.bool xn1)/\w'.cell? ⟨w.heap.size,4,none⟩=some (.string xn2)/\w'.cell? ⟨w.heap.size,5,none⟩=some (.int .i64 xn3)/\w'.cell? ⟨w.heap.size,6,none⟩=some (.slice Anx xns.length cnx)) ((by rw[hwq];exact b1.out)) fun a0=>?_
   refine tH 0 a0 ?_;refine tH 1 a0 ?_;refine tH 2 a0 ?_;refine tH 3 a0 ?_;refine tH 4 a0 ?_;refine tH 5 a0 ?_
   try simp only[Act.put,jP,jQ,jR]
   refine tH 6 a0 ?_;refine tH 7 a0 ?_;refine tH 8 a0 ?_;refine tH 9 a0 ?_;refine tH 11 a0 ?_
   try simp only[Act.put,jP,jQ,jR]
   refine rH 10 fun K hK=>?_
   go_simp;rw[hwq] at a0;refine(lE (l:=xns) (Sl.of_own (HN.out.below b2.out (Za _))) hnl).mono ?_;rintro e w5 ⟨vt,rfl,a3,c0⟩;obtain⟨At5,ct5,rfl,-,-,-⟩:=ah c0;have b7:=Qa (b2.out.trans (a3.mono b2.out.size));have d1:=Qa (c0.low b2.out.size);have d0:=Qa (c4.out.below a3 (Za _));have b8:=Qa ((b7.out.block _ (ae c3.out)).trans c3.out);clear c0;go_simp;refine hK.out _ _ (⟨Zf a3 a0.1,Zf a3 a0.2.1,Zf a3 a0.2.2.1,Zf a3 a0.2.2.2.1,Zf a3 a0.2.2.2.2.1,Zf a3 a0.2.2.2.2.2.1,Zf a3 a0.2.2.2.2.2.2⟩) (fun a0=>?_);clear hK K
   try simp only[Act.put,jP,jQ,jR]
   refine tH 12 a0 ?_
   try simp only[Act.put,jP,jQ,jR]
   refine rH 13 fun K hK=>?_
   refine bT b8.out ?_;refine hK.out _ _ (⟨(ai _ _ _).cell a0.1 a4.out,(ai _ _ _).cell a0.2.1 a4.out,(ai _ _ _).cell a0.2.2.1 a4.out,(ai _ _ _).cell a0.2.2.2.1 a4.out,(ai _ _ _).cell a0.2.2.2.2.1 a4.out,(ai _ _ _).cell a0.2.2.2.2.2.1 a4.out,(ai _ _ _).cell a0.2.2.2.2.2.2 a4.out⟩) (fun a0=>?_);clear hK K
   try simp only[Act.put,jP,jQ,jR]
   refine wpAnyH_done (by kernel_rfl) (NoPanic.normal ?_) _;clear a0;go_wp2_with fail;have c8:aJ (fun e=>e=78) w5 (w5.setRow (w.heap.size+1) #[.int .i64 xk,.bool xt,.string xx,.bool xn1,.string xn2,.int .i64 xn3,.slice At5 xns.length ct5,.slice Ak7 xks.length ck7]):=aJ.of_grown (ai ..) (fun g e cs t z hh=>by cases e;have h:=b8.out;rw[h] at hh;injection hh with hh;injection hh with _ hh;exact hh.symm);exact Zg (results_cell_row Tryz.results120 _ _ (w.heap.size+1) 78 #[.int .i64 xk,.bool xt,.string xx,.bool xn1,.string xn2,.int .i64 xn3,.slice At5 xns.length ct5,.slice Ak7 xks.length ck7] (0,0) _ (by simp) (setRow_heap _ _ _ _ _ _ b8.out) Tryz.underlying78 rfl Dx) rfl
    ⟨At5,ct5,Ak7,ck7,by simp[Nd.mv,aB],(b0.out.trans (b7.out.mono b0.out.size)).grown (ai ..) (Zb b0.out.size b7.out.size) (fun g e=>by cases e;omega),bV (ao d1.out c8 (by decide)) b0.out.size,by have h1:=bV (ao d0.out c8 (by decide)) b0.out.size;simpa [Nd.mv,bK] using h1⟩
