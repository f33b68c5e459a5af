import Derived.Test.YtibmppoeeppnoaaGreatDoorGZ4ab
import Derived.Deep.DeepCutAuto
set_option linter.unusedVariables false
set_option linter.unusedSimpArgs false
set_option maxHeartbeats 64000000
set_option maxRecDepth 100000
namespace Go.Proofs.YtibmppoeeppnoaaGreatDoor
open Go.RowKit
variable {cur:Array Value}{ns:List ByteArray}{xs ys:List UInt8}{a base c cap g i k n p:Nat}{A:Option Addr}{u v:Value}{w:World}
theorem qj {z:Nat×Nat}(xs:List UInt8)(hm:xs.length<=c)(h4:xs.length<=4)(hg:w.heap[g]?=some (.cells cur 5 z))(he:cur= (gL xs).toArray):Bs w (.slice (some ⟨g,0,none⟩) xs.length c) xs:=
 rD xs (by omega) hm (by rw[hg,he])
theorem qG (xs:List UInt8)(k i:Nat)(h:i<k):am (xs.take k) i=am xs i:=by simp[am,List.getElem?_take,h]
theorem Bs.upto (h:Bs w (.slice A n c) xs)(hk:k<=xs.length):Bs w (.slice A k c) (xs.take k):=by
 obtain⟨hm,A',c',e,hc,a0⟩:=h;injection e with e1 e2 e3
 subst e1 e3;have hl:(xs.take k).length=k:=by simp;omega
 refine⟨by omega,A,c,by rw[hl],by omega,fun h0=>?_⟩;obtain⟨b,o,e,a1⟩:=a0 (by omega);refine⟨b,o,e,fun i hi=>?_⟩;rw[qG xs k i (by omega)];exact a1 i (by omega)
def IT (c:Int)(w:World)(e:Ending)(w':World):Prop:=e =.returned (.bool (dF c))/\w=w'
theorem ze (c:Int)(w:World):Calls Tryz.prog 216 #[.int .i32 c] w (IT c w):=by
 have hr:dF c= (decide (0<=c)&&decide (c<=1114111)&& (decide (c<55296)||decide (57343<c))):=by
  unfold dF;rw[Bool.eq_iff_iff];simp <;> omega
 go_enter Tryz.func216,Tryz.ntmps216
 by_cases a1:0<=c
 ·by_cases a2:c<=1114111
  ·by_cases a3:c<55296
   ·have a0:=Qa (show dF c=true by rw[hr];simp[a1,a2,a3]);clear hr;go_wp2;go_ret;exact⟨by rw[a0.out];rfl,rfl⟩
   ·by_cases a4:57343<c
    ·have a0:=Qa (show dF c=true by rw[hr];simp[a1,a2,a3,a4]);clear hr;go_wp2;go_ret;exact⟨by rw[a0.out];rfl,rfl⟩
    ·have a0:=Qa (show dF c=false by rw[hr];simp[a1,a2,a3,a4]);clear hr;go_wp2;go_ret;exact⟨by rw[a0.out];rfl,rfl⟩
  ·have a0:=Qa (show dF c=false by rw[hr];simp[a1,a2]);clear hr;go_wp2;go_ret;exact⟨by rw[a0.out];rfl,rfl⟩
 ·have a0:=Qa (show dF c=false by rw[hr];simp[a1]);clear hr;go_wp2;go_ret;exact⟨by rw[a0.out];rfl,rfl⟩
theorem lR (c:Int)(hc:dF c=true):Calls Tryz.prog 198 #[.int .i32 c] w fun e w'=> ∃v,e =.returned v/\Below w.heap.size w w'/\Bs w' v (bD c):=by
 have a0:=hc;simp only[dF,Bool.and_eq_true,decide_eq_true_eq,Bool.not_eq_true',Bool.and_eq_false_iff,decide_eq_false_iff_not] at a0;have a2:=a0.1.1;have a1:=a0.1.2;clear a0
 by_cases h1:c<128
 ·have e:=Qa (show bD c = [UInt8.ofNat c.toNat] by rw[bD,if_pos hc,if_pos h1]);clear hc;go_enter Tryz.func198,Tryz.ntmps198;go_wp2;go_ret;refine⟨_,rfl,ac _ _,?_⟩;rw[e.out];exact qj [_] (by simp) (by simp) (Ze _ _) (by simp only[gL,bv,List.map];rw[aF _ (by omega)])
 by_cases h2:c<2048
 ·have e:=Qa (show bD c = [UInt8.ofNat (192+c/64).toNat,UInt8.ofNat (128+c % 64).toNat] by rw[bD,if_pos hc,if_neg h1,if_pos h2]);clear hc;go_enter Tryz.func198,Tryz.ntmps198;go_wp2;go_ret;refine⟨_,rfl,ac _ _,?_⟩;rw[e.out];exact qj [_,_] (by simp) (by simp) (Ze _ _) (by simp only[gL,bv,List.map];rw[aF _ (by omega),aF _ (by omega)])
 by_cases h3:c<65536
 ·have e:=Qa (show bD c = [UInt8.ofNat (224+c/4096).toNat,UInt8.ofNat (128+c/64 % 64).toNat,UInt8.ofNat (128+c % 64).toNat] by rw[bD,if_pos hc,if_neg h1,if_neg h2,if_pos h3]);clear hc;go_enter Tryz.func198,Tryz.ntmps198;go_wp2;go_ret;refine⟨_,rfl,ac _ _,?_⟩;rw[e.out];exact qj [_,_,_] (by simp) (by simp) (Ze _ _) (by simp only[gL,bv,List.map];rw[aF _ (by omega),aF _ (by omega),aF _ (by omega)])
 ·have e:=Qa (show bD c = [UInt8.ofNat (240+c/262144).toNat,UInt8.ofNat (128+c/4096 % 64).toNat,UInt8.ofNat (128+c/64 % 64).toNat,UInt8.ofNat (128+c % 64).toNat] by rw[bD,if_pos hc,if_neg h1,if_neg h2,if_neg h3]);clear hc;go_enter Tryz.func198,Tryz.ntmps198;go_wp2;go_ret;refine⟨_,rfl,ac _ _,?_⟩;rw[e.out];exact qj [_,_,_,_] (by simp) (by simp) (Ze _ _) (by simp only[gL,bv,List.map];rw[aF _ (by omega),aF _ (by omega),aF _ (by omega),aF _ (by omega)])
theorem aq.form (h:aq w base v ys)(h0:0<ys.length) :
  ∃g cap,v =.slice (some ⟨g,0,none⟩) ys.length cap/\base<=g/\g<w.heap.size/\ys.length<=cap/\v.ownBlock=some g:=by
 obtain⟨_,⟨rfl,h1⟩|⟨g,cap,cur,rfl,hb,hg,hn,_⟩⟩:=h
 ·omega
 ·exact⟨g,cap,rfl,hb,ae hg,hn,rfl⟩
theorem aq.cellAt (h:aq w base (.slice (some ⟨g,0,none⟩) n cap) ys)(hn:ys.length=n)(k:Nat)(hk:k<n) :
  w.cell? ⟨g,k,none⟩=some (.int .u8 (am ys k))/\w.frozen? ⟨g,k,none⟩=false:=by
 subst hn;exact⟨by rw[World.ownsRow.cellAt h k (by omega)];exact mH ys k hk,World.ownsRow.frozenAt h k⟩
theorem aq.stored (h:aq w base (.slice (some ⟨g,0,none⟩) n cap) ys)(hn:ys.length=n)(k:Nat)(u:UInt8) :
  aq (w.setCell ⟨g,k,none⟩ (bv u)) base (.slice (some ⟨g,0,none⟩) n cap) (ys.set k u)/\w.grownBy (w.setCell ⟨g,k,none⟩ (bv u)) (some g):=by
 subst hn;have:=World.ownsRow.stored h k (bv u);exact⟨by unfold aq;rw[List.length_set,show gL (ys.set k u)= (gL ys).set k (bv u) by simp[gL,List.map_set]];exact this.1,this.2⟩
theorem qW (x:Int)(w:World):Calls Tryz.prog 214 #[.int .u8 x] w fun e w'=>e =.returned (.int .i64 (io x))/\w=w':=by
 have hR:=Qa (show ∀n,io x=n->Ending.returned (.int .i64 n) =.returned (.int .i64 (io x)) from fun n h=>by rw[h]);go_enter Tryz.func214,Tryz.ntmps214
 by_cases h1:x<128
 ·have hr:=Qa (show io x=1 by simp[io,h1]);go_wp2;go_ret;exact⟨hR.out _ hr.out,rfl⟩
 by_cases h2:x<192
 ·have hr:=Qa (show io x=0 by simp[io,h1,h2]);go_wp2;go_ret;exact⟨hR.out _ hr.out,rfl⟩
 by_cases h3:x<194
 ·have hr:=Qa (show io x = -1 by unfold io;rw[if_neg h1,if_neg h2,if_neg (by omega),if_neg (by omega),if_neg (by omega)]);go_wp2;go_ret;exact⟨hR.out _ hr.out,rfl⟩
 by_cases h4:x<=223
 ·have hr:=Qa (show io x=2 by unfold io;rw[if_neg h1,if_neg h2,if_pos (by omega)]);go_wp2;go_ret;exact⟨hR.out _ hr.out,rfl⟩
 by_cases h5:x<=239
 ·have hr:=Qa (show io x=3 by unfold io;rw[if_neg h1,if_neg h2,if_neg (by omega),if_pos (by omega)]);go_wp2;go_ret;exact⟨hR.out _ hr.out,rfl⟩
 by_cases h6:x<=244
 ·have hr:=Qa (show io x=4 by unfold io;rw[if_neg h1,if_neg h2,if_neg (by omega),if_neg (by omega),if_pos (by omega)]);go_wp2;go_ret;exact⟨hR.out _ hr.out,rfl⟩
 ·have hr:=Qa (show io x = -1 by unfold io;rw[if_neg h1,if_neg h2,if_neg (by omega),if_neg (by omega),if_neg (by omega)]);go_wp2;go_ret;exact⟨hR.out _ hr.out,rfl⟩
def qS (w:World)(N:Nat->Int)(n:Nat)(s7 s8 s9:Value)(wr:World):Prop:= ∃k:Nat,1<=k/\k<=n/\s7 =.int .i64 (N (k - 1))/\s8 =.int .i64 k/\w=wr
def IC (r:Int)(w:World)(e:Ending)(w':World):Prop:=e =.returned (.int .i64 r)/\w=w'
theorem jU (hb:Bs w v xs)(h0:0<xs.length)(n:Nat)(h1:1<=n)(h4:n<=4)(fill:Int)(hf:0<=fill/\fill<=63) :
  Calls Tryz.prog 215 #[v,.int .i64 n,.int .i64 fill] w fun e w'=>IC (gd xs n fill (n - 1)) w e w':=by
 obtain⟨hm,A,cap,rfl,b2,a3⟩:=id hb;obtain⟨b,o,rfl,a9⟩:=a3 h0;have c0:=a9 0 h0;rw[Nat.add_zero] at c0;have b3:=aB xs 0;have H1:=Qa a9;have a6:=Qa (fun k=>Ds xs n hf k);have Hz:=Qa (show gd xs n fill 0=gB (am xs 0) n from rfl);clear a9 hb a3;go_enter Tryz.func215,Tryz.ntmps215;have Hn:=Qa (show ∀k,1<=k->gd xs n fill k=gd xs n fill (k - 1)*64+gF xs fill k from fun k hk=>by obtain⟨j,rfl⟩:∃j,k=j+1:=⟨k - 1,by omega⟩;rfl);have hn:n=1\/n=2\/n=3\/n=4:=by omega
 rcases hn with hn|hn|hn|hn
 ·have e2:((n:Int)==2)=false:=by rw[hn];rfl
  have e3:((n:Int)==3)=false:=by rw[hn];rfl
  have e4:((n:Int)==4)=false:=by rw[hn];rfl
  have a2:=Hz.out;have a0:gB (am xs 0) n= (am xs 0:Int):=by rw[hn];rfl
  generalize hN:gd xs n fill=N at *;have Hz3:=Qa (a2.trans a0);clear a2 a0 hN Hz;go_wp2_with fail
  go_loopw [7,8,9] (qS w N n) (fun _ i _ _=>4 - (intOf i).toNat)
  case atStart=>exact⟨1,by omega,by omega,congrArg _ Hz3.out.symm,rfl,rfl⟩
  case round=>
   obtain⟨k,a5,a7,rfl,rfl,rfl⟩:=hrel
   by_cases hlt:k<n
   ·exfalso;omega
   ·obtain a4:k=n:=by omega
    subst a4;go_wp2;go_ret;exact⟨rfl,rfl⟩
 ·have e2:((n:Int)==2)=true:=by rw[hn];rfl
  have e3:((n:Int)==3)=false:=by rw[hn];rfl
  have e4:((n:Int)==4)=false:=by rw[hn];rfl
  have a2:=Hz.out;have a0:gB (am xs 0) n= (am xs 0:Int) - 192:=by rw[hn];rfl
  generalize hN:gd xs n fill=N at *;have Hz3:=Qa (a2.trans a0);clear a2 a0 hN Hz;go_wp2_with fail
  go_loopw [7,8,9] (qS w N n) (fun _ i _ _=>4 - (intOf i).toNat)
  case atStart=>exact⟨1,by omega,by omega,congrArg _ Hz3.out.symm,rfl,rfl⟩
  case round=>
   obtain⟨k,a5,a7,rfl,rfl,rfl⟩:=hrel
   by_cases hlt:k<n
   ·have b1:=a6.out (k - 1) (by omega);have a1:=a6.out k (by omega);have hs:=Qa (Hn.out k a5);rw[hs.out] at a1;generalize N (k - 1)=z at *
    by_cases hin:k<xs.length
    ·have c1:=H1.out k hin;have hd:gF xs fill k=am xs k - 128:=by unfold gF;rw[if_pos hin]
     have b0:=aB xs k;rw[hd] at a1 hs;clear hd;go_wp2_with fail;exact⟨⟨k+1,by omega,by omega,by rw[show k+1 - 1=k by omega,hs.out],by go_num,rfl⟩,by simp[intOf];omega⟩
    ·have hd:gF xs fill k=fill:=by unfold gF;rw[if_neg hin]
     rw[hd] at a1 hs;clear hd;go_wp2_with fail;exact⟨⟨k+1,by omega,by omega,by rw[show k+1 - 1=k by omega,hs.out],by go_num,rfl⟩,by simp[intOf];omega⟩
   ·obtain a4:k=n:=by omega
    subst a4;go_wp2;go_ret;exact⟨rfl,rfl⟩
 ·have e2:((n:Int)==2)=false:=by rw[hn];rfl
  have e3:((n:Int)==3)=true:=by rw[hn];rfl
  have e4:((n:Int)==4)=false:=by rw[hn];rfl
  have a2:=Hz.out;have a0:gB (am xs 0) n= (am xs 0:Int) - 224:=by rw[hn];rfl
  generalize hN:gd xs n fill=N at *;have Hz3:=Qa (a2.trans a0);clear a2 a0 hN Hz;go_wp2_with fail
  go_loopw [7,8,9] (qS w N n) (fun _ i _ _=>4 - (intOf i).toNat)
  case atStart=>exact⟨1,by omega,by omega,congrArg _ Hz3.out.symm,rfl,rfl⟩
  case round=>
   obtain⟨k,a5,a7,rfl,rfl,rfl⟩:=hrel
   by_cases hlt:k<n
   ·have b1:=a6.out (k - 1) (by omega);have a1:=a6.out k (by omega);have hs:=Qa (Hn.out k a5);rw[hs.out] at a1;generalize N (k - 1)=z at *
    by_cases hin:k<xs.length
    ·have c1:=H1.out k hin;have hd:gF xs fill k=am xs k - 128:=by unfold gF;rw[if_pos hin]
     have b0:=aB xs k;rw[hd] at a1 hs;clear hd;go_wp2_with fail;exact⟨⟨k+1,by omega,by omega,by rw[show k+1 - 1=k by omega,hs.out],by go_num,rfl⟩,by simp[intOf];omega⟩
    ·have hd:gF xs fill k=fill:=by unfold gF;rw[if_neg hin]
     rw[hd] at a1 hs;clear hd;go_wp2_with fail;exact⟨⟨k+1,by omega,by omega,by rw[show k+1 - 1=k by omega,hs.out],by go_num,rfl⟩,by simp[intOf];omega⟩
   ·obtain a4:k=n:=by omega
    subst a4;go_wp2;go_ret;exact⟨rfl,rfl⟩
 ·have e2:((n:Int)==2)=false:=by rw[hn];rfl
  have e3:((n:Int)==3)=false:=by rw[hn];rfl
  have e4:((n:Int)==4)=true:=by rw[hn];rfl
  have a2:=Hz.out;have a0:gB (am xs 0) n= (am xs 0:Int) - 240:=by rw[hn];rfl
  generalize hN:gd xs n fill=N at *;have Hz3:=Qa (a2.trans a0);clear a2 a0 hN Hz;go_wp2_with fail
  go_loopw [7,8,9] (qS w N n) (fun _ i _ _=>4 - (intOf i).toNat)
  case atStart=>exact⟨1,by omega,by omega,congrArg _ Hz3.out.symm,rfl,rfl⟩
  case round=>
   obtain⟨k,a5,a7,rfl,rfl,rfl⟩:=hrel
   by_cases hlt:k<n
   ·have b1:=a6.out (k - 1) (by omega);have a1:=a6.out k (by omega);have hs:=Qa (Hn.out k a5);rw[hs.out] at a1;generalize N (k - 1)=z at *
    by_cases hin:k<xs.length
    ·have c1:=H1.out k hin;have hd:gF xs fill k=am xs k - 128:=by unfold gF;rw[if_pos hin]
     have b0:=aB xs k;rw[hd] at a1 hs;clear hd;go_wp2_with fail;exact⟨⟨k+1,by omega,by omega,by rw[show k+1 - 1=k by omega,hs.out],by go_num,rfl⟩,by simp[intOf];omega⟩
    ·have hd:gF xs fill k=fill:=by unfold gF;rw[if_neg hin]
     rw[hd] at a1 hs;clear hd;go_wp2_with fail;exact⟨⟨k+1,by omega,by omega,by rw[show k+1 - 1=k by omega,hs.out],by go_num,rfl⟩,by simp[intOf];omega⟩
   ·obtain a4:k=n:=by omega
    subst a4;go_wp2;go_ret;exact⟨rfl,rfl⟩
def D4 (xs ys:List UInt8)(w:World)(e:Ending)(w':World):Prop:=e =.returned (.bool (xs.take ys.length==ys))/\∃m,w'=w.drewN m
theorem vO (hb:Bs w v xs)(hc:Bs w u ys):Calls Tryz.prog 217 #[v,u] w (D4 xs ys w):=by
 obtain⟨hm,A,cap,rfl,a2,-⟩:=id hb;obtain⟨a3,B,cap2,rfl,a0,-⟩:=id hc
 by_cases hl:ys.length<=xs.length
 ·have a1:ys.length<=cap:=by omega
  have q1:∀n,(convert 22 9 (.slice A ys.length cap)).run Tryz.prog (w.drewN n) =.ok (.string ⟨(xs.take ys.length).toArray⟩) (w.drewN n):=fun n=>aJ ((hb.upto hl).drewN n)
  have q2:=fun n=>aJ (hc.drewN n)
  clear hb hc;go_enter Tryz.func217,Tryz.ntmps217;go_wp2_with fail;go_quiet (fail);go_wp2;go_ret;exact⟨rfl,_,rfl⟩
 ·have hne:=Qa (show(xs.take ys.length==ys)=false from beq_eq_false_iff_ne.2 (fun h=>by have:=congrArg List.length h;rw[List.length_take] at this;omega));clear hb hc;go_enter Tryz.func217,Tryz.ntmps217;go_wp2;go_ret;exact⟨by rw[hne.out];rfl,0,rfl⟩
def DZ (w:World)(e:Ending)(w':World):Prop:=(∃b,e =.returned (.bool b))/\Below w.heap.size w w'
def Fq (w:World)(len:Nat)(s5:Value)(wr:World):Prop:= ∃k:Nat,1<=k/\k<=len/\s5 =.int .i64 k/\w=wr
theorem DF (hb:Bs w v xs)(h0:0<xs.length)(n:Nat)(h4:n<=4)(hl:xs.length<n) :
  Calls Tryz.prog 218 #[v,.int .i64 n] w (DZ w):=by
 obtain⟨hm,A,cap,rfl,a2,a0⟩:=id hb;obtain⟨b,o,rfl,a1⟩:=a0 h0;have H1:=Qa a1;have Hb:=Qa hb;clear a1 hb a0;go_enter Tryz.func218,Tryz.ntmps218;go_wp2_with fail
 go_loopw [5] (Fq w xs.length) (fun i _=>xs.length - (intOf i).toNat)
 case atStart=>exact⟨1,by omega,by omega,rfl,rfl⟩
 case round=>
  obtain⟨k,a6,a5,rfl,rfl⟩:=hrel
  by_cases hlt:k<xs.length
  ·have c1:=H1.out k hlt;have a4:=aB xs k
   by_cases t1:am xs k<128
   ·have t1':((am xs k:Nat):Int)<128:=by omega
    go_wp2_with fail;go_ret;exact⟨⟨_,rfl⟩,Zd _ _⟩
   ·have t1':¬ ((am xs k:Nat):Int)<128:=by omega
    by_cases t2:am xs k<=191
    ·have t2':((am xs k:Nat):Int)<=191:=by omega
     go_wp2_with fail;exact⟨⟨k+1,by omega,by omega,by go_num,rfl⟩,by simp[intOf];omega⟩
    ·have t2':¬ ((am xs k:Nat):Int)<=191:=by omega
     go_wp2_with fail;go_ret;exact⟨⟨_,rfl⟩,Zd _ _⟩
  ·obtain a3:k=xs.length:=by omega
   subst a3;have hn:n=2\/n=3\/n=4:=by omega
   go_wp2_with fail;refine(jU Hb.out h0 n (by omega) h4 0 (by omega)).mono ?_;rintro e w' ⟨rfl,rfl⟩;go_wp2_with fail;refine(jU Hb.out h0 n (by omega) h4 63 (by omega)).mono ?_;rintro e w' ⟨rfl,rfl⟩;generalize gd xs n 0 (n - 1)=x;generalize gd xs n 63 (n - 1)=y;rcases hn with rfl|rfl|rfl
   all_goals
    go_wp2_with fail
    all_goals
     go_ret;exact⟨⟨_,rfl⟩,((Zd _ _).alloc (Za _) _).alloc (by simp) _⟩
def Iw (r:Nat×Nat×Nat)(w:World)(e:Ending)(w':World):Prop:=(∃code:Int,e =.returned (.tuple #[.int .i32 r.1,.int .i64 r.2.1,.int .i64 code])/\(code=0↔r.2.2=0))/\Below w.heap.size w w'
def Ev (w:World)(xs:List UInt8)(n:Nat)(s6 s7:Value)(wr:World):Prop:= ∃k:Nat,1<=k/\k<=n/\s6 =.bool (eX xs (k - 1))/\s7 =.int .i64 k/\w=wr
theorem nW (hb:Bs w v xs):Calls Tryz.prog 199 #[v] w (Iw (bC xs) w):=by
 obtain⟨hm,A,cap,rfl,c3,a3⟩:=id hb;have a1:=Qa a3;have Hb:=Qa hb;clear a3 hb
 by_cases h0:xs.length=0
 ·obtain rfl:xs = []:=List.eq_nil_of_length_eq_zero h0;go_enter Tryz.func199,Tryz.ntmps199;go_wp2;go_ret3;exact⟨⟨103,rfl,by simp[bC]⟩,Zd _ _⟩
 have d0:(((xs.length:Nat):Int)==0)=false:=beq_eq_false_iff_ne.2 (by omega);obtain⟨b,o,rfl,b2⟩:=a1.out (by omega);have c0:=b2 0 (by omega);rw[Nat.add_zero] at c0;have hx:=aB xs 0;have c7:=Qa b2;clear b2 a1;have a6:=e9 (am xs 0) hx;have Hq:=Qa (D8 (am xs 0) hx);go_enter Tryz.func199,Tryz.ntmps199;go_wp2_with fail;refine(qW _ _).mono ?_;rintro e w' ⟨rfl,rfl⟩;rw[Hq.out]
 by_cases hc1:aZ (am xs 0)<1
 ·have hd:=Qa (Cu (by omega) hc1);go_wp2;go_ret3;exact⟨⟨101,by rw[hd.out];rfl,by rw[hd.out];simp⟩,Zd _ _⟩
 obtain⟨n,hn,d1,b7⟩:∃n:Nat,aZ (am xs 0)=n/\1<=n/\n<=4:=by
  rcases a6 with h|h|h|h|h
  ·omega
  ·exact⟨1,h,by omega,by omega⟩
  ·exact⟨2,h,by omega,by omega⟩
  ·exact⟨3,h,by omega,by omega⟩
  ·exact⟨4,h,by omega,by omega⟩
 rw[hn];have a2:=Qa (fun h=>B8 (xs:=xs) h);have a7:=Qa (fun (c:Int) hr hb=>DN (xs:=xs) hn (c:=c) hr hb);have Hn:=Qa hn;clear a6 hc1 hn
 by_cases hlen:n<=xs.length
 ·go_wp2_with fail
  go_loopw [6,7] (Ev w xs n) (fun _ i _=>n - (intOf i).toNat)
  case atStart=>exact⟨1,by omega,by omega,rfl,rfl,rfl⟩
  case round=>
   obtain⟨k,c6,c9,rfl,rfl,rfl⟩:=hrel
   by_cases hlt:k<n
   ·have c1:=c7.out k (by omega);have d2:=aB xs k;have hg:=Qa (show eX xs k= (eX xs (k - 1)&& (decide (128<=am xs k)&&decide (am xs k<=191))) from by obtain⟨j,rfl⟩:∃j,k=j+1:=⟨k - 1,by omega⟩;rfl)
    cases hgk:eX xs (k - 1)
    ·have a4:=Qa (show eX xs k=false by rw[hg.out,hgk];rfl);clear hgk;go_wp2_with fail;exact⟨⟨k+1,by omega,by omega,by rw[show k+1 - 1=k by omega,a4.out],by go_num,rfl⟩,by simp[intOf];omega⟩
    ·by_cases t1:128<=am xs k
     ·have t1':128<=((am xs k:Nat):Int):=by omega
      by_cases t2:am xs k<=191
      ·have t2':((am xs k:Nat):Int)<=191:=by omega
       have a4:=Qa (show eX xs k=true by rw[hg.out,hgk];simp[t1,t2]);clear hgk;go_wp2_with fail;exact⟨⟨k+1,by omega,by omega,by rw[show k+1 - 1=k by omega,a4.out],by go_num,rfl⟩,by simp[intOf];omega⟩
      ·have t2':¬ ((am xs k:Nat):Int)<=191:=by omega
       have a4:=Qa (show eX xs k=false by rw[hg.out,hgk];simp[t2]);clear hgk;go_wp2_with fail;exact⟨⟨k+1,by omega,by omega,by rw[show k+1 - 1=k by omega,a4.out],by go_num,rfl⟩,by simp[intOf];omega⟩
     ·have t1':¬128<=((am xs k:Nat):Int):=by omega
      have a4:=Qa (show eX xs k=false by rw[hg.out,hgk];simp[t1]);clear hgk;go_wp2_with fail;exact⟨⟨k+1,by omega,by omega,by rw[show k+1 - 1=k by omega,a4.out],by go_num,rfl⟩,by simp[intOf];omega⟩
   ·obtain b9:k=n:=by omega
    subst b9;go_wp2_with fail;refine(jU Hb.out (by omega) k c6 b7 0 (by omega)).mono ?_;rintro e w' ⟨rfl,rfl⟩;have b5:(bC xs).2.2=0->eX xs (k - 1)=true/\wrap32 (gd xs k 0 (k - 1))= (bC xs).1/\dF (bC xs).1=true/\xs.take (bD (bC xs).1).length=bD (bC xs).1:=fun h=>by
     obtain⟨m,c5,c4,hm,b6,hnum,hr,b1⟩:=a2.out h;obtain rfl:m=k:=by have:=Hn.out;omega
     refine⟨b6,?_,hr,b1⟩;rw[hnum];exact zO (by have:=eb hr;omega) (by have:=BD hr;omega)
    have b8:=Qa b5;clear b5;obtain⟨c,hc⟩:∃c,wrap32 (gd xs k 0 (k - 1))=c:=⟨_,rfl⟩;go_upto_region 13 with fail
    rw[hc] at b8 ⊢;clear hc;have a5:eX xs (k - 1)=false\/dF c=false\/(xs.take (bD c).length==bD c)=false->(bC xs).2.2≠0:=fun h e=>by
     obtain⟨h1,h2,h3,h4⟩:=b8.out e;subst h2;rcases h with h|h|h
     ·rw[h1] at h;cases h
     ·rw[h3] at h;cases h
     ·rw[h4] at h;simp at h
    have a9:=Qa a5;clear a5
    cases hgk:eX xs (k - 1)
    ·have a0:=Qa (a9.out (.inl hgk));clear hgk;go_wp2;go_ret3;exact⟨⟨101,by rw[fW a0.out];rfl,by rw[fW a0.out];simp[a0.out]⟩,Zd _ _⟩
    ·clear hgk;go_wp2_with fail;refine(ze c w).mono ?_;rintro e w' ⟨rfl,rfl⟩
     cases hr:dF c
     ·have a0:=Qa (a9.out (.inr (.inl hr)));clear hr;go_wp2;go_ret3;exact⟨⟨101,by rw[fW a0.out];rfl,by rw[fW a0.out];simp[a0.out]⟩,Zd _ _⟩
     ·have Hr:=Qa hr;clear hr;go_wp2_with fail;refine(lR c Hr.out).mono ?_;rintro e w1 ⟨vf,rfl,b4,b3⟩;have b0:=Qa b4;have c8:=Qa b3;clear b4 b3;go_wp2_with fail;refine(vO (Hb.out.below b0.out) c8.out).mono ?_;rintro e w' ⟨rfl,m,rfl⟩
      cases ht:(xs.take (bD c).length==bD c)
      ·have a0:=Qa (a9.out (.inr (.inr ht)));clear ht;go_wp2;go_ret3;exact⟨⟨101,by rw[fW a0.out];rfl,by rw[fW a0.out];simp[a0.out]⟩,av b0.out m⟩
      ·have hd:=Qa (a7.out c Hr.out (by simpa using ht));have hcn:=Qa (show((c.toNat:Nat):Int)=c by have:=eb Hr.out;omega);clear ht;go_wp2;go_ret3;exact⟨⟨0,by rw[hd.out,hcn.out];rfl,by rw[hd.out];simp⟩,av b0.out m⟩
 ·have a5:Hid ((bC xs).2.2≠0):=Qa (fun h=>by
   obtain⟨m,c5,c4,hm,b6,hnum,hr,b1⟩:=a2.out h;obtain rfl:m=n:=by have:=Hn.out;omega
   have hd:=a7.out _ hr b1;have:=nt xs;rw[hd] at this;simp at this;omega)
  go_wp2_with fail;refine(DF Hb.out (by omega) n b7 (by omega)).mono ?_;rintro e w' ⟨⟨bb,rfl⟩,c2⟩
  cases bb
  all_goals
   go_wp2;go_ret3;exact⟨⟨_,by rw[fW a5.out];rfl,by rw[fW a5.out];simp[a5.out]⟩,c2⟩
structure Dc where
 neg:Bool
 digits:ByteArray
 exp:Int
deriving DecidableEq
structure Nd where
 kind:Int
 tr:Bool
 text:ByteArray
 num:Dc
 names:List ByteArray
 kids:List Nat
deriving DecidableEq
inductive JV where
 |mk (kind:Int) (tr:Bool) (text:ByteArray) (num:Dc) (names:List ByteArray) (kids:List JV)
theorem JV.ind {P:JV->Prop}(h:∀k t x n ns ks,(∀u∈ks,P u)->P (.mk k t x n ns ks))(v:JV):P v:=
 JV.rec (motive_1:=P) (motive_2:=fun l=> ∀u∈l,P u) (fun k t x n ns ks ih=>h k t x n ns ks ih) (fun u hu=>by cases hu)
  (fun v vs h1 h2 u hu=>by rcases List.mem_cons.1 hu with rfl|hu;exact h1;exact h2 u hu) v
def JV.kids:JV->List JV | .mk _ _ _ _ _ ks=>ks
mutual
def JV.size:JV->Nat
 | .mk _ _ _ _ _ ks=>1+JV.sizes ks
def JV.sizes:List JV->Nat
 | []=>0
 |v::vs=>JV.size v+JV.sizes vs
end
def aP:Nat->List JV->List Nat
 |_, []=> []
 |p,v::vs=>p::aP (p+v.size) vs
mutual
def JV.flat:Nat->JV->List Nd
 |p,.mk k t x n ns ks=>⟨k,t,x,n,ns,aP (p+1) ks⟩::JV.flats (p+1) ks
def JV.flats:Nat->List JV->List Nd
 |_, []=> []
 |p,v::vs=>JV.flat p v++JV.flats (p+v.size) vs
end
theorem JV.size_pos (v:JV):1<=v.size:=by cases v;simp[JV.size]
theorem kM {l:List JV}(h:∀u∈l,∀p,(JV.flat p u).length=u.size):∀p,(JV.flats p l).length=JV.sizes l:=by
 induction l with
 |nil=>intro p;simp[JV.flats,JV.sizes]
 |cons v vs ih=>
  intro p;simp only[JV.flats,JV.sizes,List.length_append];rw[h v (by simp),ih (fun u hu=>h u (Zl _ hu))]
theorem JV.flat_len (v:JV):∀p,(JV.flat p v).length=v.size:=by
 refine JV.ind (P:=fun v=> ∀p,(JV.flat p v).length=v.size) (fun k t x n ns ks ih p=>?_) v;simp only[JV.flat,JV.size,List.length_cons];rw[kM ih];omega
theorem JV.flats_len (l:List JV)(p:Nat):(JV.flats p l).length=JV.sizes l:=kM (fun u _=>JV.flat_len u) p
theorem bj:∀ (l:List JV) (p:Nat),(aP p l).length=l.length
 | [],_=>rfl
 |v::vs,p=>by simp[aP,bj vs]
theorem cM (a b:List JV):JV.sizes (a++b)=JV.sizes a+JV.sizes b:=by
 induction a with
 |nil=>simp[JV.sizes]
 |cons v vs ih=>simp[JV.sizes,ih];omega
theorem cZ (a b:List JV)(p:Nat):aP p (a++b)=aP p a++aP (p+JV.sizes a) b:=by
 induction a generalizing p with
 |nil=>simp[aP,JV.sizes]
 |cons v vs ih=>simp[aP,JV.sizes,ih,Nat.add_assoc]
theorem eZ (a b:List JV)(p:Nat):JV.flats p (a++b)=JV.flats p a++JV.flats (p+JV.sizes a) b:=by
 induction a generalizing p with
 |nil=>simp[JV.flats,JV.sizes]
 |cons v vs ih=>simp[JV.flats,JV.sizes,ih,Nat.add_assoc]
def Nd.shift (d:Nat)(x:Nd):Nd:={x with kids:=x.kids.map (· + d)}
theorem kH:∀ (l:List JV) (p d:Nat),aP (p+d) l= (aP p l).map (· + d)
 | [],_,_=>rfl
 |v::vs,p,d=>by
  simp only[aP,List.map_cons];rw[show p+d+v.size= (p+v.size)+d by omega,kH vs]
theorem nw {l:List JV}(h:∀u∈l,∀p d,JV.flat (p+d) u= (JV.flat p u).map (Nd.shift d)) :
  ∀p d,JV.flats (p+d) l= (JV.flats p l).map (Nd.shift d):=by
 induction l with
 |nil=>intro p d;simp[JV.flats]
 |cons v vs ih=>
  intro p d;simp only[JV.flats,List.map_append];rw[h v (by simp),show p+d+v.size= (p+v.size)+d by omega,ih (fun u hu=>h u (Zl _ hu))]
theorem JV.flat_shift (v:JV):∀p d,JV.flat (p+d) v= (JV.flat p v).map (Nd.shift d):=by
 refine JV.ind (P:=fun v=> ∀p d,JV.flat (p+d) v= (JV.flat p v).map (Nd.shift d)) (fun k t x n ns ks ih p d=>?_) v;simp only[JV.flat,List.map_cons,Nd.shift];rw[show p+d+1= (p+1)+d by omega,nw ih,kH]
inductive eo:JV->Nat->Nat->JV->Prop
 |here (v:JV) (p:Nat):eo v p p v
 |down {k:Int} {t:Bool} {x:ByteArray} {n:Dc} {ns:List ByteArray} {pre post:List JV} {u:JV} {p a:Nat} {w:JV} (h:eo u (p+1+JV.sizes pre) a w):eo (.mk k t x n ns (pre++u::post)) p a w
theorem eo.flat {v:JV}{w:JV}(h:eo v p a w):∃A B,JV.flat p v=A++JV.flat a w++B/\p+A.length=a:=by
 induction h with
 |here v p=>exact⟨[], [],by simp,by simp⟩
 | @down k t x n ns pre post u p a w h ih=>
  obtain⟨A,B,he,hl⟩:=ih;refine⟨⟨k,t,x,n,ns,aP (p+1) (pre++u::post)⟩:: (JV.flats (p+1) pre++A),B++JV.flats (p+1+JV.sizes pre+u.size) post,?_,?_⟩
  ·simp only[JV.flat,eZ,JV.flats,he];simp
  ·simp[JV.flats_len];omega
theorem eo.bd {v:JV}{w:JV}(h:eo v p a w):p<=a/\a+w.size<=p+v.size:=by
 obtain⟨A,B,he,hl⟩:=h.flat;have:=congrArg List.length he;simp[JV.flat_len] at this;omega
theorem eo.kid {v:JV}{k:Int}{t:Bool}{x:ByteArray}{n:Dc}{pre post:List JV}{u:JV}(h:eo v p a (.mk k t x n ns (pre++u::post))):eo v p (a+1+JV.sizes pre) u:=by
 generalize hw:JV.mk k t x n ns (pre++u::post)=w at h
 induction h with
 |here v p=>subst hw;exact eo.down (eo.here _ _)
 |down h ih=>exact eo.down (ih hw)
theorem eo.node {v:JV}{k:Int}{t:Bool}{x:ByteArray}{n:Dc}{ks:List JV}(h:eo v p a (.mk k t x n ns ks)):(JV.flat p v)[a - p]?=some ⟨k,t,x,n,ns,aP (a+1) ks⟩:=by
 obtain⟨A,B,he,hl⟩:=h.flat;rw[he,List.append_assoc,List.getElem?_append_right (by omega),show a - p - A.length=0 by omega];simp[JV.flat]
theorem bU {α:Type}{l:List α}{a:α}(h:l[i]?=some a):l.take (i+1)=l.take i ++ [a]:=by rw[List.take_add_one,h];rfl
theorem sy {l:List JV}{v:JV}(h:l[i]?=some v)(p:Nat):aP p (l.take (i+1))=aP p (l.take i) ++ [p+JV.sizes (l.take i)]:=by
 rw[bU h,cZ];simp[aP]
theorem xd {l:List JV}{v:JV}(h:l[i]?=some v)(p:Nat):JV.flats p (l.take (i+1))=JV.flats p (l.take i)++ (v.flat 0).map (Nd.shift (p+JV.sizes (l.take i))):=by
 rw[bU h,eZ,show JV.flats (p+JV.sizes (l.take i)) [v]=v.flat (p+JV.sizes (l.take i)) by simp[JV.flats]];have:=v.flat_shift 0 (p+JV.sizes (l.take i));rw[Nat.zero_add] at this;rw[this]
theorem o3 {l:List JV}(i:Nat):JV.sizes (l.take i)<=JV.sizes l:=by
 have h:=cM (l.take i) (l.drop i);rw[List.take_append_drop] at h;omega
theorem f7 {l:List JV}{v:JV}(h:l[i]?=some v):JV.sizes (l.take i)+v.size<=JV.sizes l:=by
 have h1:=o3 (l:=l) (i+1);rw[bU h,cM] at h1;simpa [JV.sizes] using h1
theorem bP:∀l:List JV,l.length<=JV.sizes l
 | []=>Za _
 |v::vs=>by have:=bP vs;have:=v.size_pos;simp[JV.sizes];omega
theorem yF {v:JV}{x:Nd}(h:x∈v.flat 0):x.kids.length<=v.size:=by
 suffices ∀p,∀x∈v.flat p,x.kids.length<=v.size from this 0 x h
 clear h;refine JV.ind (P:=fun v=> ∀p,∀x∈v.flat p,x.kids.length<=v.size) (fun k t x n ns ks ih p y hy=>?_) v;simp only[JV.flat,List.mem_cons] at hy;rcases hy with rfl|hy
 ·simp[bj,JV.size];have:=bP ks;omega
 ·suffices ∀ (l:List JV) p,(∀u∈l,∀p,∀x∈u.flat p,x.kids.length<=u.size)->y∈JV.flats p l->y.kids.length<=JV.sizes l by
   have:=this ks _ ih hy;simp[JV.size];omega
  intro l
  induction l with
  |nil=>intro p _ h;simp[JV.flats] at h
  |cons v vs ih2=>
   intro p hu h;simp only[JV.flats,List.mem_append] at h;simp only[JV.sizes];rcases h with h|h
   ·have:=hu v (by simp) p y h;omega
   ·have:=ih2 (p+v.size) (fun u hm=>hu u (Zl _ hm)) h;omega
def Nd.mv (f:Nat->Nat)(x:Nd):Nd:={x with kids:=x.kids.map f}
theorem jo:∀ (l:List JV) (P Q:Nat) (f:Nat->Nat),(∀q,P<=q->q<P+JV.sizes l->f q=q - P+Q)->(aP P l).map f=aP Q l
 | [],_,_,_,_=>rfl
 |v::vs,P,Q,f,h=>by
  have hp:=v.size_pos;simp only[JV.sizes] at h;simp only[aP,List.map_cons];rw[h P (by omega) (by omega),jo vs (P+v.size) (Q+v.size) f (fun q h1 h2=>by rw[h q (by omega) (by omega)];omega)];simp
theorem mf {l:List JV}(ih:∀u∈l,∀P Q f,(∀q,P<=q->q<P+u.size->f q=q - P+Q)->(JV.flat P u).map (Nd.mv f)=JV.flat Q u) :
  ∀ (P Q:Nat) (f:Nat->Nat),(∀q,P<=q->q<P+JV.sizes l->f q=q - P+Q)->(JV.flats P l).map (Nd.mv f)=JV.flats Q l:=by
 induction l with
 |nil=>intro P Q f _;simp[JV.flats]
 |cons v vs ih2=>
  intro P Q f h;simp only[JV.sizes] at h;simp only[JV.flats,List.map_append];rw[ih v (by simp) P Q f (fun q h1 h2=>h q h1 (by omega)),ih2 (fun u hu=>ih u (Zl _ hu)) (P+v.size) (Q+v.size) f (fun q h1 h2=>by rw[h q (by omega) (by omega)];omega)]
theorem Dv (v:JV):∀ (P Q:Nat) (f:Nat->Nat),(∀q,P<=q->q<P+v.size->f q=q - P+Q)->(JV.flat P v).map (Nd.mv f)=JV.flat Q v:=by
 refine JV.ind (P:=fun v=> ∀ (P Q:Nat) (f:Nat->Nat),(∀q,P<=q->q<P+v.size->f q=q - P+Q)->(JV.flat P v).map (Nd.mv f)=JV.flat Q v) (fun k t x n ns ks ih P Q f h=>?_) v;simp only[JV.size] at h;simp only[JV.flat,List.map_cons,Nd.mv];rw[jo ks (P+1) (Q+1) f (fun q h1 h2=>by rw[h q (by omega) (by omega)];omega)];rw[show(JV.flats (P+1) ks).map (Nd.mv f)=JV.flats (Q+1) ks from mf ih (P+1) (Q+1) f (fun q h1 h2=>by rw[h q (by omega) (by omega)];omega)]
theorem r8 (l:List JV)(P Q:Nat)(f:Nat->Nat)(h:∀q,P<=q->q<P+JV.sizes l->f q=q - P+Q):(JV.flats P l).map (Nd.mv f)=JV.flats Q l:=mf (fun u _=>Dv u) P Q f h
def Er (e ws us k:Nat):Nat:=if e<=k then k - ws+us else k
inductive Df (u:JV):JV->Nat->Nat->JV->JV->Prop
 |here (v:JV) (p:Nat):Df u v p p v u
 |down {k:Int} {t:Bool} {x:ByteArray} {n:Dc} {ns:List ByteArray} {pre post:List JV} {u0 u1:JV} {p a:Nat} {w:JV} (h:Df u u0 (p+1+JV.sizes pre) a w u1):Df u (.mk k t x n ns (pre++u0::post)) p a w (.mk k t x n ns (pre++u1::post))
theorem Df.sits {u v:JV}{w v':JV}(h:Df u v p a w v'):eo v p a w:=by
 induction h with
 |here v p=>exact .here v p
 |down _ ih=>exact .down ih
theorem Df.size {u v:JV}{w v':JV}(h:Df u v p a w v'):v'.size+w.size=v.size+u.size:=by
 induction h with
 |here v p=>omega
 | @down k t x n ns pre post u0 u1 p a w h ih=>simp only[JV.size,cM,JV.sizes];omega
theorem Df.flat {u v:JV}{w v':JV}(h:Df u v p a w v'):∃A B,v.flat p=A++w.flat a++B/\p+A.length=a/\v'.flat p=A.map (Nd.mv (Er (a+w.size) w.size u.size))++u.flat a++B.map (Nd.mv (Er (a+w.size) w.size u.size)):=by
 induction h with
 |here v p=>exact⟨[], [],by simp,by simp,by simp⟩
 | @down k t x n ns pre post u0 u1 p a w h ih=>
  obtain⟨A,B,h1,h2,h3⟩:=ih;have a2:=h.sits.bd;have a1:=h.size;have a0:∀q,q<a+w.size->Er (a+w.size) w.size u.size q=q:=fun q hq=>by unfold Er;rw[if_neg (by omega)]
  have hw:=w.size_pos;refine⟨⟨k,t,x,n,ns,aP (p+1) (pre++u0::post)⟩:: (JV.flats (p+1) pre++A),B++JV.flats (p+1+JV.sizes pre+u0.size) post,?_,?_,?_⟩
  ·simp only[JV.flat,eZ,JV.flats,h1];simp
  ·simp[JV.flats_len];omega
  ·have e1:(aP (p+1) (pre++u0::post)).map (Er (a+w.size) w.size u.size)=aP (p+1) (pre++u1::post):=by
    rw[cZ,cZ,List.map_append];rw[jo pre (p+1) (p+1) _ (fun q g1 g2=>by rw[a0 q (by omega)];omega)];simp only[aP,List.map_cons];rw[a0 _ (by omega),jo post (p+1+JV.sizes pre+u0.size) (p+1+JV.sizes pre+u1.size) _ (fun q g1 g2=>by unfold Er;rw[if_pos (by omega)];omega)]
   have e2:(JV.flats (p+1) pre).map (Nd.mv (Er (a+w.size) w.size u.size))=JV.flats (p+1) pre:=r8 pre (p+1) (p+1) _ (fun q g1 g2=>by rw[a0 q (by omega)];omega);have e3:(JV.flats (p+1+JV.sizes pre+u0.size) post).map (Nd.mv (Er (a+w.size) w.size u.size))=JV.flats (p+1+JV.sizes pre+u1.size) post:=r8 post _ _ _ (fun q g1 g2=>by unfold Er;rw[if_pos (by omega)];omega);simp only[JV.flat,eZ,JV.flats,h3,List.map_cons,List.map_append,e2,e3];simp only[Nd.mv,e1];simp
