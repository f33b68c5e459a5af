import Derived.Test.YtohibglohlfjfaaGreatDoorGZ6ab
import Derived.Deep.DeepCutAuto
set_option linter.unusedVariables false
set_option linter.unusedSimpArgs false
set_option maxHeartbeats 64000000
set_option maxRecDepth 100000
namespace Go.Proofs.YtohibglohlfjfaaGreatDoor
open Go.RowKit
variable {cur:Array Value}{ns:List ByteArray}{xs ys:List UInt8}{base c cap g i n p:Nat}{A:Option Addr}{u v:Value}{w:World}
theorem r8 {z:Nat×Nat}(xs:List UInt8)(hm:xs.length<=c)(h4:xs.length<=4)(hg:w.heap[g]?=some (.cells cur 5 z))(he:cur= (gj xs).toArray):Bs w (.slice (some ⟨g,0,none⟩) xs.length c) xs:=
 rg xs (by omega) hm (by rw[hg,he])
theorem qj (xs:List UInt8)(k i:Nat)(h:i<k):am (xs.take k) i=am xs i:=by simp[am,List.getElem?_take,h]
theorem Bs.upto (h:Bs w (.slice A n c) xs){k:Nat}(hk:k<=xs.length):Bs w (.slice A k c) (xs.take k):=by
 obtain⟨hm,A',c',e,hc,a0⟩:=h;injection e with e1 e2 e3
 subst e1 e3;have hl:(xs.take k).length=k:=by simp;omega
 refine⟨by omega,A,c,by rw[hl],by omega,fun h0=>?_⟩;obtain⟨b,o,e,a1⟩:=a0 (by omega);refine⟨b,o,e,fun i hi=>?_⟩;rw[qj xs k i (by omega)];exact a1 i (by omega)
def Ki (c:Int)(w:World)(e:Ending)(w':World):Prop:=e =.returned (.bool (dF c))/\w=w'
theorem AJ (c:Int)(w:World):Calls Tryz.prog 221 #[.int .i32 c] w (Ki c w):=by
 have hr:dF c= (decide (0<=c)&&decide (c<=1114111)&& (decide (c<55296)||decide (57343<c))):=by
  unfold dF;rw[Bool.eq_iff_iff];simp <;> omega
 go_enter Tryz.func221,Tryz.ntmps221
 by_cases a1:0<=c
 ·by_cases a2:c<=1114111
  ·by_cases a3:c<55296
   ·have a0:=Qa (show dF c=true by rw[hr];simp[a1,a2,a3]);clear hr;go_wp2;go_ret;exact⟨by rw[a0.out];rfl,rfl⟩
   ·by_cases a4:57343<c
    ·have a0:=Qa (show dF c=true by rw[hr];simp[a1,a2,a3,a4]);clear hr;go_wp2;go_ret;exact⟨by rw[a0.out];rfl,rfl⟩
    ·have a0:=Qa (show dF c=false by rw[hr];simp[a1,a2,a3,a4]);clear hr;go_wp2;go_ret;exact⟨by rw[a0.out];rfl,rfl⟩
  ·have a0:=Qa (show dF c=false by rw[hr];simp[a1,a2]);clear hr;go_wp2;go_ret;exact⟨by rw[a0.out];rfl,rfl⟩
 ·have a0:=Qa (show dF c=false by rw[hr];simp[a1]);clear hr;go_wp2;go_ret;exact⟨by rw[a0.out];rfl,rfl⟩
theorem lW (c:Int)(hc:dF c=true):Calls Tryz.prog 203 #[.int .i32 c] w fun e w'=> ∃v,e =.returned v/\Below w.heap.size w w'/\Bs w' v (bE c):=by
 have a0:=hc;simp only[dF,Bool.and_eq_true,decide_eq_true_eq,Bool.not_eq_true',Bool.and_eq_false_iff,decide_eq_false_iff_not] at a0;have a1:=a0.1.1;have a2:=a0.1.2;clear a0
 by_cases h1:c<128
 ·have e:=Qa (show bE c = [UInt8.ofNat c.toNat] by rw[bE,if_pos hc,if_pos h1]);clear hc;go_enter Tryz.func203,Tryz.ntmps203;go_wp2;go_ret;refine⟨_,rfl,ac _ _,?_⟩;rw[e.out];exact r8 [_] (by simp) (by simp) (Zf _ _) (by simp only[gj,bv,List.map];rw[aF _ (by omega)])
 by_cases h2:c<2048
 ·have e:=Qa (show bE c = [UInt8.ofNat (192+c/64).toNat,UInt8.ofNat (128+c % 64).toNat] by rw[bE,if_pos hc,if_neg h1,if_pos h2]);clear hc;go_enter Tryz.func203,Tryz.ntmps203;go_wp2;go_ret;refine⟨_,rfl,ac _ _,?_⟩;rw[e.out];exact r8 [_,_] (by simp) (by simp) (Zf _ _) (by simp only[gj,bv,List.map];rw[aF _ (by omega),aF _ (by omega)])
 by_cases h3:c<65536
 ·have e:=Qa (show bE c = [UInt8.ofNat (224+c/4096).toNat,UInt8.ofNat (128+c/64 % 64).toNat,UInt8.ofNat (128+c % 64).toNat] by rw[bE,if_pos hc,if_neg h1,if_neg h2,if_pos h3]);clear hc;go_enter Tryz.func203,Tryz.ntmps203;go_wp2;go_ret;refine⟨_,rfl,ac _ _,?_⟩;rw[e.out];exact r8 [_,_,_] (by simp) (by simp) (Zf _ _) (by simp only[gj,bv,List.map];rw[aF _ (by omega),aF _ (by omega),aF _ (by omega)])
 ·have e:=Qa (show bE c = [UInt8.ofNat (240+c/262144).toNat,UInt8.ofNat (128+c/4096 % 64).toNat,UInt8.ofNat (128+c/64 % 64).toNat,UInt8.ofNat (128+c % 64).toNat] by rw[bE,if_pos hc,if_neg h1,if_neg h2,if_neg h3]);clear hc;go_enter Tryz.func203,Tryz.ntmps203;go_wp2;go_ret;refine⟨_,rfl,ac _ _,?_⟩;rw[e.out];exact r8 [_,_,_,_] (by simp) (by simp) (Zf _ _) (by simp only[gj,bv,List.map];rw[aF _ (by omega),aF _ (by omega),aF _ (by omega),aF _ (by omega)])
theorem aq.form (h:aq w base v ys)(h0:0<ys.length) :
  ∃g cap,v =.slice (some ⟨g,0,none⟩) ys.length cap/\base<=g/\g<w.heap.size/\ys.length<=cap/\v.ownBlock=some g:=by
 obtain⟨_,⟨rfl,h1⟩|⟨g,cap,cur,rfl,hb,hg,hn,_⟩⟩:=h
 ·omega
 ·exact⟨g,cap,rfl,hb,ae hg,hn,rfl⟩
theorem aq.cellAt (h:aq w base (.slice (some ⟨g,0,none⟩) n cap) ys)(hn:ys.length=n)(k:Nat)(hk:k<n) :
  w.cell? ⟨g,k,none⟩=some (.int .u8 (am ys k))/\w.frozen? ⟨g,k,none⟩=false:=by
 subst hn;exact⟨by rw[World.ownsRow.cellAt h k (by omega)];exact mJ ys k hk,World.ownsRow.frozenAt h k⟩
theorem aq.stored (h:aq w base (.slice (some ⟨g,0,none⟩) n cap) ys)(hn:ys.length=n)(k:Nat)(u:UInt8) :
  aq (w.setCell ⟨g,k,none⟩ (bv u)) base (.slice (some ⟨g,0,none⟩) n cap) (ys.set k u)/\w.grownBy (w.setCell ⟨g,k,none⟩ (bv u)) (some g):=by
 subst hn;have:=World.ownsRow.stored h k (bv u);exact⟨by unfold aq;rw[List.length_set,show gj (ys.set k u)= (gj ys).set k (bv u) by simp[gj,List.map_set]];exact this.1,this.2⟩
theorem rj (x:Int)(w:World):Calls Tryz.prog 219 #[.int .u8 x] w fun e w'=>e =.returned (.int .i64 (ig x))/\w=w':=by
 have hR:=Qa (show ∀n,ig x=n->Ending.returned (.int .i64 n) =.returned (.int .i64 (ig x)) from fun n h=>by rw[h]);go_enter Tryz.func219,Tryz.ntmps219
 by_cases h1:x<128
 ·have hr:=Qa (show ig x=1 by simp[ig,h1]);go_wp2;go_ret;exact⟨hR.out _ hr.out,rfl⟩
 by_cases h2:x<192
 ·have hr:=Qa (show ig x=0 by simp[ig,h1,h2]);go_wp2;go_ret;exact⟨hR.out _ hr.out,rfl⟩
 by_cases h3:x<194
 ·have hr:=Qa (show ig x = -1 by unfold ig;rw[if_neg h1,if_neg h2,if_neg (by omega),if_neg (by omega),if_neg (by omega)]);go_wp2;go_ret;exact⟨hR.out _ hr.out,rfl⟩
 by_cases h4:x<=223
 ·have hr:=Qa (show ig x=2 by unfold ig;rw[if_neg h1,if_neg h2,if_pos (by omega)]);go_wp2;go_ret;exact⟨hR.out _ hr.out,rfl⟩
 by_cases h5:x<=239
 ·have hr:=Qa (show ig x=3 by unfold ig;rw[if_neg h1,if_neg h2,if_neg (by omega),if_pos (by omega)]);go_wp2;go_ret;exact⟨hR.out _ hr.out,rfl⟩
 by_cases h6:x<=244
 ·have hr:=Qa (show ig x=4 by unfold ig;rw[if_neg h1,if_neg h2,if_neg (by omega),if_neg (by omega),if_pos (by omega)]);go_wp2;go_ret;exact⟨hR.out _ hr.out,rfl⟩
 ·have hr:=Qa (show ig x = -1 by unfold ig;rw[if_neg h1,if_neg h2,if_neg (by omega),if_neg (by omega),if_neg (by omega)]);go_wp2;go_ret;exact⟨hR.out _ hr.out,rfl⟩
def rV (w:World)(N:Nat->Int)(n:Nat)(s7 s8 s9:Value)(wr:World):Prop:= ∃k:Nat,1<=k/\k<=n/\s7 =.int .i64 (N (k - 1))/\s8 =.int .i64 k/\w=wr
def JR (r:Int)(w:World)(e:Ending)(w':World):Prop:=e =.returned (.int .i64 r)/\w=w'
theorem jY (hb:Bs w v xs)(h0:0<xs.length)(n:Nat)(h1:1<=n)(h4:n<=4)(fill:Int)(hf:0<=fill/\fill<=63) :
  Calls Tryz.prog 220 #[v,.int .i64 n,.int .i64 fill] w fun e w'=>JR (gc xs n fill (n - 1)) w e w':=by
 obtain⟨hm,A,cap,rfl,b2,a3⟩:=id hb;obtain⟨b,o,rfl,a9⟩:=a3 h0;have c0:=a9 0 h0;rw[Nat.add_zero] at c0;have b3:=aI xs 0;have H1:=Qa a9;have a6:=Qa (fun k=>E3 xs n hf k);have Hz:=Qa (show gc xs n fill 0=gQ (am xs 0) n from rfl);clear a9 hb a3;go_enter Tryz.func220,Tryz.ntmps220;have Hn:=Qa (show ∀k,1<=k->gc xs n fill k=gc xs n fill (k - 1)*64+gw xs fill k from fun k hk=>by obtain⟨j,rfl⟩:∃j,k=j+1:=⟨k - 1,by omega⟩;rfl);have hn:n=1\/n=2\/n=3\/n=4:=by omega
 rcases hn with hn|hn|hn|hn
 ·have e2:((n:Int)==2)=false:=by rw[hn];rfl
  have e3:((n:Int)==3)=false:=by rw[hn];rfl
  have e4:((n:Int)==4)=false:=by rw[hn];rfl
  have a1:=Hz.out;have a0:gQ (am xs 0) n= (am xs 0:Int):=by rw[hn];rfl
  generalize hN:gc xs n fill=N at *;have Hz3:=Qa (a1.trans a0);clear a1 a0 hN Hz;go_wp2_with fail
  go_loopw [7,8,9] (rV w N n) (fun _ i _ _=>4 - (intOf i).toNat)
  case atStart=>exact⟨1,by omega,by omega,congrArg _ Hz3.out.symm,rfl,rfl⟩
  case round=>
   obtain⟨k,a5,a7,rfl,rfl,rfl⟩:=hrel
   by_cases hlt:k<n
   ·exfalso;omega
   ·obtain a4:k=n:=by omega
    subst a4;go_wp2;go_ret;exact⟨rfl,rfl⟩
 ·have e2:((n:Int)==2)=true:=by rw[hn];rfl
  have e3:((n:Int)==3)=false:=by rw[hn];rfl
  have e4:((n:Int)==4)=false:=by rw[hn];rfl
  have a1:=Hz.out;have a0:gQ (am xs 0) n= (am xs 0:Int) - 192:=by rw[hn];rfl
  generalize hN:gc xs n fill=N at *;have Hz3:=Qa (a1.trans a0);clear a1 a0 hN Hz;go_wp2_with fail
  go_loopw [7,8,9] (rV w N n) (fun _ i _ _=>4 - (intOf i).toNat)
  case atStart=>exact⟨1,by omega,by omega,congrArg _ Hz3.out.symm,rfl,rfl⟩
  case round=>
   obtain⟨k,a5,a7,rfl,rfl,rfl⟩:=hrel
   by_cases hlt:k<n
   ·have b1:=a6.out (k - 1) (by omega);have a2:=a6.out k (by omega);have hs:=Qa (Hn.out k a5);rw[hs.out] at a2;generalize N (k - 1)=z at *
    by_cases hin:k<xs.length
    ·have c1:=H1.out k hin;have hd:gw xs fill k=am xs k - 128:=by unfold gw;rw[if_pos hin]
     have b0:=aI xs k;rw[hd] at a2 hs;clear hd;go_wp2_with fail;exact⟨⟨k+1,by omega,by omega,by rw[show k+1 - 1=k by omega,hs.out],by go_num,rfl⟩,by simp[intOf];omega⟩
    ·have hd:gw xs fill k=fill:=by unfold gw;rw[if_neg hin]
     rw[hd] at a2 hs;clear hd;go_wp2_with fail;exact⟨⟨k+1,by omega,by omega,by rw[show k+1 - 1=k by omega,hs.out],by go_num,rfl⟩,by simp[intOf];omega⟩
   ·obtain a4:k=n:=by omega
    subst a4;go_wp2;go_ret;exact⟨rfl,rfl⟩
 ·have e2:((n:Int)==2)=false:=by rw[hn];rfl
  have e3:((n:Int)==3)=true:=by rw[hn];rfl
  have e4:((n:Int)==4)=false:=by rw[hn];rfl
  have a1:=Hz.out;have a0:gQ (am xs 0) n= (am xs 0:Int) - 224:=by rw[hn];rfl
  generalize hN:gc xs n fill=N at *;have Hz3:=Qa (a1.trans a0);clear a1 a0 hN Hz;go_wp2_with fail
  go_loopw [7,8,9] (rV w N n) (fun _ i _ _=>4 - (intOf i).toNat)
  case atStart=>exact⟨1,by omega,by omega,congrArg _ Hz3.out.symm,rfl,rfl⟩
  case round=>
   obtain⟨k,a5,a7,rfl,rfl,rfl⟩:=hrel
   by_cases hlt:k<n
   ·have b1:=a6.out (k - 1) (by omega);have a2:=a6.out k (by omega);have hs:=Qa (Hn.out k a5);rw[hs.out] at a2;generalize N (k - 1)=z at *
    by_cases hin:k<xs.length
    ·have c1:=H1.out k hin;have hd:gw xs fill k=am xs k - 128:=by unfold gw;rw[if_pos hin]
     have b0:=aI xs k;rw[hd] at a2 hs;clear hd;go_wp2_with fail;exact⟨⟨k+1,by omega,by omega,by rw[show k+1 - 1=k by omega,hs.out],by go_num,rfl⟩,by simp[intOf];omega⟩
    ·have hd:gw xs fill k=fill:=by unfold gw;rw[if_neg hin]
     rw[hd] at a2 hs;clear hd;go_wp2_with fail;exact⟨⟨k+1,by omega,by omega,by rw[show k+1 - 1=k by omega,hs.out],by go_num,rfl⟩,by simp[intOf];omega⟩
   ·obtain a4:k=n:=by omega
    subst a4;go_wp2;go_ret;exact⟨rfl,rfl⟩
 ·have e2:((n:Int)==2)=false:=by rw[hn];rfl
  have e3:((n:Int)==3)=false:=by rw[hn];rfl
  have e4:((n:Int)==4)=true:=by rw[hn];rfl
  have a1:=Hz.out;have a0:gQ (am xs 0) n= (am xs 0:Int) - 240:=by rw[hn];rfl
  generalize hN:gc xs n fill=N at *;have Hz3:=Qa (a1.trans a0);clear a1 a0 hN Hz;go_wp2_with fail
  go_loopw [7,8,9] (rV w N n) (fun _ i _ _=>4 - (intOf i).toNat)
  case atStart=>exact⟨1,by omega,by omega,congrArg _ Hz3.out.symm,rfl,rfl⟩
  case round=>
   obtain⟨k,a5,a7,rfl,rfl,rfl⟩:=hrel
   by_cases hlt:k<n
   ·have b1:=a6.out (k - 1) (by omega);have a2:=a6.out k (by omega);have hs:=Qa (Hn.out k a5);rw[hs.out] at a2;generalize N (k - 1)=z at *
    by_cases hin:k<xs.length
    ·have c1:=H1.out k hin;have hd:gw xs fill k=am xs k - 128:=by unfold gw;rw[if_pos hin]
     have b0:=aI xs k;rw[hd] at a2 hs;clear hd;go_wp2_with fail;exact⟨⟨k+1,by omega,by omega,by rw[show k+1 - 1=k by omega,hs.out],by go_num,rfl⟩,by simp[intOf];omega⟩
    ·have hd:gw xs fill k=fill:=by unfold gw;rw[if_neg hin]
     rw[hd] at a2 hs;clear hd;go_wp2_with fail;exact⟨⟨k+1,by omega,by omega,by rw[show k+1 - 1=k by omega,hs.out],by go_num,rfl⟩,by simp[intOf];omega⟩
   ·obtain a4:k=n:=by omega
    subst a4;go_wp2;go_ret;exact⟨rfl,rfl⟩
def Fi (xs ys:List UInt8)(w:World)(e:Ending)(w':World):Prop:=e =.returned (.bool (xs.take ys.length==ys))/\∃m,w'=w.drewN m
theorem yh (hb:Bs w v xs)(hc:Bs w u ys):Calls Tryz.prog 222 #[v,u] w (Fi xs ys w):=by
 obtain⟨hm,A,cap,rfl,a2,-⟩:=id hb;obtain⟨a3,B,cap2,rfl,a0,-⟩:=id hc
 by_cases hl:ys.length<=xs.length
 ·have a1:ys.length<=cap:=by omega
  have q1:∀n,(convert 22 9 (.slice A ys.length cap)).run Tryz.prog (w.drewN n) =.ok (.string ⟨(xs.take ys.length).toArray⟩) (w.drewN n):=fun n=>aO ((hb.upto hl).drewN n)
  have q2:=fun n=>aO (hc.drewN n)
  clear hb hc;go_enter Tryz.func222,Tryz.ntmps222;go_wp2_with fail;go_quiet (fail);go_wp2;go_ret;exact⟨rfl,_,rfl⟩
 ·have hne:=Qa (show(xs.take ys.length==ys)=false from beq_eq_false_iff_ne.2 (fun h=>by have:=congrArg List.length h;rw[List.length_take] at this;omega));clear hb hc;go_enter Tryz.func222,Tryz.ntmps222;go_wp2;go_ret;exact⟨by rw[hne.out];rfl,0,rfl⟩
def Fj (w:World)(e:Ending)(w':World):Prop:=(∃b,e =.returned (.bool b))/\Below w.heap.size w w'
def HW (w:World)(len:Nat)(s5:Value)(wr:World):Prop:= ∃k:Nat,1<=k/\k<=len/\s5 =.int .i64 k/\w=wr
theorem Ft (hb:Bs w v xs)(h0:0<xs.length)(n:Nat)(h4:n<=4)(hl:xs.length<n) :
  Calls Tryz.prog 223 #[v,.int .i64 n] w (Fj w):=by
 obtain⟨hm,A,cap,rfl,a3,a0⟩:=id hb;obtain⟨b,o,rfl,a1⟩:=a0 h0;have H1:=Qa a1;have Hb:=Qa hb;clear a1 hb a0;go_enter Tryz.func223,Tryz.ntmps223;go_wp2_with fail
 go_loopw [5] (HW w xs.length) (fun i _=>xs.length - (intOf i).toNat)
 case atStart=>exact⟨1,by omega,by omega,rfl,rfl⟩
 case round=>
  obtain⟨k,a4,a5,rfl,rfl⟩:=hrel
  by_cases hlt:k<xs.length
  ·have c1:=H1.out k hlt;have a6:=aI xs k
   by_cases t1:am xs k<128
   ·have t1':((am xs k:Nat):Int)<128:=by omega
    go_wp2_with fail;go_ret;exact⟨⟨_,rfl⟩,Ze _ _⟩
   ·have t1':¬ ((am xs k:Nat):Int)<128:=by omega
    by_cases t2:am xs k<=191
    ·have t2':((am xs k:Nat):Int)<=191:=by omega
     go_wp2_with fail;exact⟨⟨k+1,by omega,by omega,by go_num,rfl⟩,by simp[intOf];omega⟩
    ·have t2':¬ ((am xs k:Nat):Int)<=191:=by omega
     go_wp2_with fail;go_ret;exact⟨⟨_,rfl⟩,Ze _ _⟩
  ·obtain a2:k=xs.length:=by omega
   subst a2;have hn:n=2\/n=3\/n=4:=by omega
   go_wp2_with fail;refine(jY Hb.out h0 n (by omega) h4 0 (by omega)).mono ?_;rintro e w' ⟨rfl,rfl⟩;go_wp2_with fail;refine(jY Hb.out h0 n (by omega) h4 63 (by omega)).mono ?_;rintro e w' ⟨rfl,rfl⟩;generalize gc xs n 0 (n - 1)=x;generalize gc xs n 63 (n - 1)=y;rcases hn with rfl|rfl|rfl
   all_goals
    go_wp2_with fail
    all_goals
     go_ret;exact⟨⟨_,rfl⟩,((Ze _ _).alloc (Zb _) _).alloc (by simp) _⟩
def Jv (r:Nat×Nat×Nat)(w:World)(e:Ending)(w':World):Prop:=(∃code:Int,e =.returned (.tuple #[.int .i32 r.1,.int .i64 r.2.1,.int .i64 code])/\(code=0↔r.2.2=0))/\Below w.heap.size w w'
def FE (w:World)(xs:List UInt8)(n:Nat)(s6 s7:Value)(wr:World):Prop:= ∃k:Nat,1<=k/\k<=n/\s6 =.bool (eY xs (k - 1))/\s7 =.int .i64 k/\w=wr
theorem oK (hb:Bs w v xs):Calls Tryz.prog 204 #[v] w (Jv (bD xs) w):=by
 obtain⟨hm,A,cap,rfl,b9,a3⟩:=id hb;have a1:=Qa a3;have Hb:=Qa hb;clear a3 hb
 by_cases h0:xs.length=0
 ·obtain rfl:xs = []:=List.eq_nil_of_length_eq_zero h0;go_enter Tryz.func204,Tryz.ntmps204;go_wp2;go_ret3;exact⟨⟨103,rfl,by simp[bD]⟩,Ze _ _⟩
 have d1:(((xs.length:Nat):Int)==0)=false:=beq_eq_false_iff_ne.2 (by omega);obtain⟨b,o,rfl,b0⟩:=a1.out (by omega);have c0:=b0 0 (by omega);rw[Nat.add_zero] at c0;have hx:=aI xs 0;have c4:=Qa b0;clear b0 a1;have a6:=fa (am xs 0) hx;have Hq:=Qa (FU (am xs 0) hx);go_enter Tryz.func204,Tryz.ntmps204;go_wp2_with fail;refine(rj _ _).mono ?_;rintro e w' ⟨rfl,rfl⟩;rw[Hq.out]
 by_cases hc1:be (am xs 0)<1
 ·have hd:=Qa (Dm (by omega) hc1);go_wp2;go_ret3;exact⟨⟨101,by rw[hd.out];rfl,by rw[hd.out];simp⟩,Ze _ _⟩
 obtain⟨n,hn,d2,b6⟩:∃n:Nat,be (am xs 0)=n/\1<=n/\n<=4:=by
  rcases a6 with h|h|h|h|h
  ·omega
  ·exact⟨1,h,by omega,by omega⟩
  ·exact⟨2,h,by omega,by omega⟩
  ·exact⟨3,h,by omega,by omega⟩
  ·exact⟨4,h,by omega,by omega⟩
 rw[hn];have a2:=Qa (fun h=>Em (xs:=xs) h);have a7:=Qa (fun (c:Int) hr hb=>FL (xs:=xs) hn (c:=c) hr hb);have Hn:=Qa hn;clear a6 hc1 hn
 by_cases hlen:n<=xs.length
 ·go_wp2_with fail
  go_loopw [6,7] (FE w xs n) (fun _ i _=>n - (intOf i).toNat)
  case atStart=>exact⟨1,by omega,by omega,rfl,rfl,rfl⟩
  case round=>
   obtain⟨k,c7,d0,rfl,rfl,rfl⟩:=hrel
   by_cases hlt:k<n
   ·have c1:=c4.out k (by omega);have c9:=aI xs k;have hg:=Qa (show eY xs k= (eY xs (k - 1)&& (decide (128<=am xs k)&&decide (am xs k<=191))) from by obtain⟨j,rfl⟩:∃j,k=j+1:=⟨k - 1,by omega⟩;rfl)
    cases hgk:eY xs (k - 1)
    ·have a4:=Qa (show eY xs k=false by rw[hg.out,hgk];rfl);clear hgk;go_wp2_with fail;exact⟨⟨k+1,by omega,by omega,by rw[show k+1 - 1=k by omega,a4.out],by go_num,rfl⟩,by simp[intOf];omega⟩
    ·by_cases t1:128<=am xs k
     ·have t1':128<=((am xs k:Nat):Int):=by omega
      by_cases t2:am xs k<=191
      ·have t2':((am xs k:Nat):Int)<=191:=by omega
       have a4:=Qa (show eY xs k=true by rw[hg.out,hgk];simp[t1,t2]);clear hgk;go_wp2_with fail;exact⟨⟨k+1,by omega,by omega,by rw[show k+1 - 1=k by omega,a4.out],by go_num,rfl⟩,by simp[intOf];omega⟩
      ·have t2':¬ ((am xs k:Nat):Int)<=191:=by omega
       have a4:=Qa (show eY xs k=false by rw[hg.out,hgk];simp[t2]);clear hgk;go_wp2_with fail;exact⟨⟨k+1,by omega,by omega,by rw[show k+1 - 1=k by omega,a4.out],by go_num,rfl⟩,by simp[intOf];omega⟩
     ·have t1':¬128<=((am xs k:Nat):Int):=by omega
      have a4:=Qa (show eY xs k=false by rw[hg.out,hgk];simp[t1]);clear hgk;go_wp2_with fail;exact⟨⟨k+1,by omega,by omega,by rw[show k+1 - 1=k by omega,a4.out],by go_num,rfl⟩,by simp[intOf];omega⟩
   ·obtain c6:k=n:=by omega
    subst c6;go_wp2_with fail;refine(jY Hb.out (by omega) k c7 b6 0 (by omega)).mono ?_;rintro e w' ⟨rfl,rfl⟩;have b7:(bD xs).2.2=0->eY xs (k - 1)=true/\wrap32 (gc xs k 0 (k - 1))= (bD xs).1/\dF (bD xs).1=true/\xs.take (bE (bD xs).1).length=bE (bD xs).1:=fun h=>by
     obtain⟨m,c2,c5,hm,b3,hnum,hr,b2⟩:=a2.out h;obtain rfl:m=k:=by have:=Hn.out;omega
     refine⟨b3,?_,hr,b2⟩;rw[hnum];exact zJ (by have:=dZ hr;omega) (by have:=Di hr;omega)
    have b8:=Qa b7;clear b7;obtain⟨c,hc⟩:∃c,wrap32 (gc xs k 0 (k - 1))=c:=⟨_,rfl⟩;go_upto_region 13 with fail
    rw[hc] at b8 ⊢;clear hc;have a5:eY xs (k - 1)=false\/dF c=false\/(xs.take (bE c).length==bE c)=false->(bD xs).2.2≠0:=fun h e=>by
     obtain⟨h1,h2,h3,h4⟩:=b8.out e;subst h2;rcases h with h|h|h
     ·rw[h1] at h;cases h
     ·rw[h3] at h;cases h
     ·rw[h4] at h;simp at h
    have b1:=Qa a5;clear a5
    cases hgk:eY xs (k - 1)
    ·have a0:=Qa (b1.out (.inl hgk));clear hgk;go_wp2;go_ret3;exact⟨⟨101,by rw[fT a0.out];rfl,by rw[fT a0.out];simp[a0.out]⟩,Ze _ _⟩
    ·clear hgk;go_wp2_with fail;refine(AJ c w).mono ?_;rintro e w' ⟨rfl,rfl⟩
     cases hr:dF c
     ·have a0:=Qa (b1.out (.inr (.inl hr)));clear hr;go_wp2;go_ret3;exact⟨⟨101,by rw[fT a0.out];rfl,by rw[fT a0.out];simp[a0.out]⟩,Ze _ _⟩
     ·have Hr:=Qa hr;clear hr;go_wp2_with fail;refine(lW c Hr.out).mono ?_;rintro e w1 ⟨vf,rfl,b4,b5⟩;have a9:=Qa b4;have c3:=Qa b5;clear b4 b5;go_wp2_with fail;refine(yh (Hb.out.below a9.out) c3.out).mono ?_;rintro e w' ⟨rfl,m,rfl⟩
      cases ht:(xs.take (bE c).length==bE c)
      ·have a0:=Qa (b1.out (.inr (.inr ht)));clear ht;go_wp2;go_ret3;exact⟨⟨101,by rw[fT a0.out];rfl,by rw[fT a0.out];simp[a0.out]⟩,av a9.out m⟩
      ·have hd:=Qa (a7.out c Hr.out (by simpa using ht));have hcn:=Qa (show((c.toNat:Nat):Int)=c by have:=dZ Hr.out;omega);clear ht;go_wp2;go_ret3;exact⟨⟨0,by rw[hd.out,hcn.out];rfl,by rw[hd.out];simp⟩,av a9.out m⟩
 ·have a5:Hid ((bD xs).2.2≠0):=Qa (fun h=>by
   obtain⟨m,c2,c5,hm,b3,hnum,hr,b2⟩:=a2.out h;obtain rfl:m=n:=by have:=Hn.out;omega
   have hd:=a7.out _ hr b2;have:=ob xs;rw[hd] at this;simp at this;omega)
  go_wp2_with fail;refine(Ft Hb.out (by omega) n b6 (by omega)).mono ?_;rintro e w' ⟨⟨bb,rfl⟩,c8⟩
  cases bb
  all_goals
   go_wp2;go_ret3;exact⟨⟨_,by rw[fT a5.out];rfl,by rw[fT a5.out];simp[a5.out]⟩,c8⟩
structure Dc where
 neg:Bool
 digits:ByteArray
 exp:Int
deriving DecidableEq
structure Nd where
 kind:Int
 tr:Bool
 text:ByteArray
 num:Dc
 names:List ByteArray
 kids:List Nat
deriving DecidableEq
inductive JV where
 |mk (kind:Int) (tr:Bool) (text:ByteArray) (num:Dc) (names:List ByteArray) (kids:List JV)
theorem JV.ind {P:JV->Prop}(h:∀k t x n ns ks,(∀u∈ks,P u)->P (.mk k t x n ns ks))(v:JV):P v:=
 JV.rec (motive_1:=P) (motive_2:=fun l=> ∀u∈l,P u) (fun k t x n ns ks ih=>h k t x n ns ks ih) (fun u hu=>by cases hu)
  (fun v vs h1 h2 u hu=>by rcases List.mem_cons.1 hu with rfl|hu;exact h1;exact h2 u hu) v
def JV.kids:JV->List JV | .mk _ _ _ _ _ ks=>ks
mutual
def JV.size:JV->Nat
 | .mk _ _ _ _ _ ks=>1+JV.sizes ks
def JV.sizes:List JV->Nat
 | []=>0
 |v::vs=>JV.size v+JV.sizes vs
end
def aV:Nat->List JV->List Nat
 |_, []=> []
 |p,v::vs=>p::aV (p+v.size) vs
mutual
def JV.flat:Nat->JV->List Nd
 |p,.mk k t x n ns ks=>⟨k,t,x,n,ns,aV (p+1) ks⟩::JV.flats (p+1) ks
def JV.flats:Nat->List JV->List Nd
 |_, []=> []
 |p,v::vs=>JV.flat p v++JV.flats (p+v.size) vs
end
theorem JV.size_pos (v:JV):1<=v.size:=by cases v;simp[JV.size]
theorem kI {l:List JV}(h:∀u∈l,∀p,(JV.flat p u).length=u.size):∀p,(JV.flats p l).length=JV.sizes l:=by
 induction l with
 |nil=>intro p;simp[JV.flats,JV.sizes]
 |cons v vs ih=>
  intro p;simp only[JV.flats,JV.sizes,List.length_append];rw[h v (by simp),ih (fun u hu=>h u (Zm _ hu))]
theorem JV.flat_len (v:JV):∀p,(JV.flat p v).length=v.size:=by
 refine JV.ind (P:=fun v=> ∀p,(JV.flat p v).length=v.size) (fun k t x n ns ks ih p=>?_) v;simp only[JV.flat,JV.size,List.length_cons];rw[kI ih];omega
theorem JV.flats_len (l:List JV)(p:Nat):(JV.flats p l).length=JV.sizes l:=kI (fun u _=>JV.flat_len u) p
theorem bR:∀ (l:List JV) (p:Nat),(aV p l).length=l.length
 | [],_=>rfl
 |v::vs,p=>by simp[aV,bR vs]
theorem cR (a b:List JV):JV.sizes (a++b)=JV.sizes a+JV.sizes b:=by
 induction a with
 |nil=>simp[JV.sizes]
 |cons v vs ih=>simp[JV.sizes,ih];omega
theorem dH (a b:List JV)(p:Nat):aV p (a++b)=aV p a++aV (p+JV.sizes a) b:=by
 induction a generalizing p with
 |nil=>simp[aV,JV.sizes]
 |cons v vs ih=>simp[aV,JV.sizes,ih,Nat.add_assoc]
theorem e7 (a b:List JV)(p:Nat):JV.flats p (a++b)=JV.flats p a++JV.flats (p+JV.sizes a) b:=by
 induction a generalizing p with
 |nil=>simp[JV.flats,JV.sizes]
 |cons v vs ih=>simp[JV.flats,JV.sizes,ih,Nat.add_assoc]
def Nd.shift (d:Nat)(x:Nd):Nd:={x with kids:=x.kids.map (· + d)}
theorem ku:∀ (l:List JV) (p d:Nat),aV (p+d) l= (aV p l).map (· + d)
 | [],_,_=>rfl
 |v::vs,p,d=>by
  simp only[aV,List.map_cons];rw[show p+d+v.size= (p+v.size)+d by omega,ku vs]
theorem nw {l:List JV}(h:∀u∈l,∀p d,JV.flat (p+d) u= (JV.flat p u).map (Nd.shift d)) :
  ∀p d,JV.flats (p+d) l= (JV.flats p l).map (Nd.shift d):=by
 induction l with
 |nil=>intro p d;simp[JV.flats]
 |cons v vs ih=>
  intro p d;simp only[JV.flats,List.map_append];rw[h v (by simp),show p+d+v.size= (p+v.size)+d by omega,ih (fun u hu=>h u (Zm _ hu))]
theorem JV.flat_shift (v:JV):∀p d,JV.flat (p+d) v= (JV.flat p v).map (Nd.shift d):=by
 refine JV.ind (P:=fun v=> ∀p d,JV.flat (p+d) v= (JV.flat p v).map (Nd.shift d)) (fun k t x n ns ks ih p d=>?_) v;simp only[JV.flat,List.map_cons,Nd.shift];rw[show p+d+1= (p+1)+d by omega,nw ih,ku]
inductive dV:JV->Nat->Nat->JV->Prop
 |here (v:JV) (p:Nat):dV v p p v
 |down {k:Int} {t:Bool} {x:ByteArray} {n:Dc} {ns:List ByteArray} {pre post:List JV} {u:JV} {p a:Nat} {w:JV} (h:dV u (p+1+JV.sizes pre) a w):dV (.mk k t x n ns (pre++u::post)) p a w
theorem Am {l:List JV}(h:∀u∈l,∀p a,p<=a->a<p+u.size->∃w,dV u p a w) :
  ∀ (p a:Nat),p<=a->a<p+JV.sizes l->∃pre u post w,l=pre++u::post/\dV u (p+JV.sizes pre) a w:=by
 induction l with
 |nil=>intro p a h1 h2;simp[JV.sizes] at h2;omega
 |cons v vs ih=>
  intro p a h1 h2;simp only[JV.sizes] at h2
  by_cases hlt:a<p+v.size
  ·obtain⟨w,hw⟩:=h v (by simp) p a h1 hlt;exact⟨[],v,vs,w,rfl,by simpa [JV.sizes] using hw⟩
  ·obtain⟨pre,u,post,w,rfl,hw⟩:=ih (fun u hu=>h u (Zm _ hu)) (p+v.size) a (by omega) (by omega);exact⟨v::pre,u,post,w,rfl,by simpa [JV.sizes,Nat.add_assoc] using hw⟩
theorem yx (v:JV):∀p a,p<=a->a<p+v.size->∃w,dV v p a w:=by
 refine JV.ind (P:=fun v=> ∀p a,p<=a->a<p+v.size->∃w,dV v p a w) (fun k t x n ns ks ih p a h1 h2=>?_) v;simp only[JV.size] at h2
 by_cases he:p=a
 ·subst he;exact⟨_,dV.here _ _⟩
 ·obtain⟨pre,u,post,w,rfl,hw⟩:=Am ih (p+1) a (by omega) (by omega);exact⟨w,dV.down hw⟩
theorem dV.flat {v:JV}{a:Nat}{w:JV}(h:dV v p a w):∃A B,JV.flat p v=A++JV.flat a w++B/\p+A.length=a:=by
 induction h with
 |here v p=>exact⟨[], [],by simp,by simp⟩
 | @down k t x n ns pre post u p a w h ih=>
  obtain⟨A,B,he,hl⟩:=ih;refine⟨⟨k,t,x,n,ns,aV (p+1) (pre++u::post)⟩:: (JV.flats (p+1) pre++A),B++JV.flats (p+1+JV.sizes pre+u.size) post,?_,?_⟩
  ·simp only[JV.flat,e7,JV.flats,he];simp
  ·simp[JV.flats_len];omega
theorem dV.bd {v:JV}{a:Nat}{w:JV}(h:dV v p a w):p<=a/\a+w.size<=p+v.size:=by
 obtain⟨A,B,he,hl⟩:=h.flat;have:=congrArg List.length he;simp[JV.flat_len] at this;omega
theorem dV.kid {v:JV}{a:Nat}{k:Int}{t:Bool}{x:ByteArray}{n:Dc}{pre post:List JV}{u:JV}(h:dV v p a (.mk k t x n ns (pre++u::post))):dV v p (a+1+JV.sizes pre) u:=by
 generalize hw:JV.mk k t x n ns (pre++u::post)=w at h
 induction h with
 |here v p=>subst hw;exact dV.down (dV.here _ _)
 |down h ih=>exact dV.down (ih hw)
theorem dV.node {v:JV}{a:Nat}{k:Int}{t:Bool}{x:ByteArray}{n:Dc}{ks:List JV}(h:dV v p a (.mk k t x n ns ks)):(JV.flat p v)[a - p]?=some ⟨k,t,x,n,ns,aV (a+1) ks⟩:=by
 obtain⟨A,B,he,hl⟩:=h.flat;rw[he,List.append_assoc,List.getElem?_append_right (by omega),show a - p - A.length=0 by omega];simp[JV.flat]
theorem bQ {α:Type}{l:List α}{a:α}(h:l[i]?=some a):l.take (i+1)=l.take i ++ [a]:=by rw[List.take_add_one,h];rfl
theorem vm {l:List JV}{v:JV}(h:l[i]?=some v)(p:Nat):aV p (l.take (i+1))=aV p (l.take i) ++ [p+JV.sizes (l.take i)]:=by
 rw[bQ h,dH];simp[aV]
theorem ye {l:List JV}{v:JV}(h:l[i]?=some v)(p:Nat):JV.flats p (l.take (i+1))=JV.flats p (l.take i)++ (v.flat 0).map (Nd.shift (p+JV.sizes (l.take i))):=by
 rw[bQ h,e7,show JV.flats (p+JV.sizes (l.take i)) [v]=v.flat (p+JV.sizes (l.take i)) by simp[JV.flats]];have:=v.flat_shift 0 (p+JV.sizes (l.take i));rw[Nat.zero_add] at this;rw[this]
theorem pi {l:List JV}(i:Nat):JV.sizes (l.take i)<=JV.sizes l:=by
 have h:=cR (l.take i) (l.drop i);rw[List.take_append_drop] at h;omega
theorem jA {l:List JV}{v:JV}(h:l[i]?=some v):JV.sizes (l.take i)+v.size<=JV.sizes l:=by
 have h1:=pi (l:=l) (i+1);rw[bQ h,cR] at h1;simpa [JV.sizes] using h1
theorem cf:∀l:List JV,l.length<=JV.sizes l
 | []=>Zb _
 |v::vs=>by have:=cf vs;have:=v.size_pos;simp[JV.sizes];omega
theorem mO {v:JV}{x:Nd}(h:x∈v.flat 0):x.kids.length<=v.size:=by
 suffices ∀p,∀x∈v.flat p,x.kids.length<=v.size from this 0 x h
 clear h;refine JV.ind (P:=fun v=> ∀p,∀x∈v.flat p,x.kids.length<=v.size) (fun k t x n ns ks ih p y hy=>?_) v;simp only[JV.flat,List.mem_cons] at hy;rcases hy with rfl|hy
 ·simp[bR,JV.size];have:=cf ks;omega
 ·suffices ∀ (l:List JV) p,(∀u∈l,∀p,∀x∈u.flat p,x.kids.length<=u.size)->y∈JV.flats p l->y.kids.length<=JV.sizes l by
   have:=this ks _ ih hy;simp[JV.size];omega
  intro l
  induction l with
  |nil=>intro p _ h;simp[JV.flats] at h
  |cons v vs ih2=>
   intro p hu h;simp only[JV.flats,List.mem_append] at h;simp only[JV.sizes];rcases h with h|h
   ·have:=hu v (by simp) p y h;omega
   ·have:=ih2 (p+v.size) (fun u hm=>hu u (Zm _ hm)) h;omega
def Nd.mv (f:Nat->Nat)(x:Nd):Nd:={x with kids:=x.kids.map f}
theorem jj:∀ (l:List JV) (P Q:Nat) (f:Nat->Nat),(∀q,P<=q->q<P+JV.sizes l->f q=q - P+Q)->(aV P l).map f=aV Q l
 | [],_,_,_,_=>rfl
 |v::vs,P,Q,f,h=>by
  have hp:=v.size_pos;simp only[JV.sizes] at h;simp only[aV,List.map_cons];rw[h P (by omega) (by omega),jj vs (P+v.size) (Q+v.size) f (fun q h1 h2=>by rw[h q (by omega) (by omega)];omega)];simp
theorem lS {l:List JV}(ih:∀u∈l,∀P Q f,(∀q,P<=q->q<P+u.size->f q=q - P+Q)->(JV.flat P u).map (Nd.mv f)=JV.flat Q u) :
  ∀ (P Q:Nat) (f:Nat->Nat),(∀q,P<=q->q<P+JV.sizes l->f q=q - P+Q)->(JV.flats P l).map (Nd.mv f)=JV.flats Q l:=by
 induction l with
 |nil=>intro P Q f _;simp[JV.flats]
 |cons v vs ih2=>
  intro P Q f h;simp only[JV.sizes] at h;simp only[JV.flats,List.map_append];rw[ih v (by simp) P Q f (fun q h1 h2=>h q h1 (by omega)),ih2 (fun u hu=>ih u (Zm _ hu)) (P+v.size) (Q+v.size) f (fun q h1 h2=>by rw[h q (by omega) (by omega)];omega)]
theorem zl (v:JV):∀ (P Q:Nat) (f:Nat->Nat),(∀q,P<=q->q<P+v.size->f q=q - P+Q)->(JV.flat P v).map (Nd.mv f)=JV.flat Q v:=by
 refine JV.ind (P:=fun v=> ∀ (P Q:Nat) (f:Nat->Nat),(∀q,P<=q->q<P+v.size->f q=q - P+Q)->(JV.flat P v).map (Nd.mv f)=JV.flat Q v) (fun k t x n ns ks ih P Q f h=>?_) v;simp only[JV.size] at h;simp only[JV.flat,List.map_cons,Nd.mv];rw[jj ks (P+1) (Q+1) f (fun q h1 h2=>by rw[h q (by omega) (by omega)];omega)];rw[show(JV.flats (P+1) ks).map (Nd.mv f)=JV.flats (Q+1) ks from lS ih (P+1) (Q+1) f (fun q h1 h2=>by rw[h q (by omega) (by omega)];omega)]
theorem vo (l:List JV)(P Q:Nat)(f:Nat->Nat)(h:∀q,P<=q->q<P+JV.sizes l->f q=q - P+Q):(JV.flats P l).map (Nd.mv f)=JV.flats Q l:=lS (fun u _=>zl u) P Q f h
def mx (e ws us k:Nat):Nat:=if e<=k then k - ws+us else k
inductive vB (u:JV):JV->Nat->Nat->JV->JV->Prop
 |here (v:JV) (p:Nat):vB u v p p v u
 |down {k:Int} {t:Bool} {x:ByteArray} {n:Dc} {ns:List ByteArray} {pre post:List JV} {u0 u1:JV} {p a:Nat} {w:JV} (h:vB u u0 (p+1+JV.sizes pre) a w u1):vB u (.mk k t x n ns (pre++u0::post)) p a w (.mk k t x n ns (pre++u1::post))
theorem vB.of_sits {v:JV}{a:Nat}{w:JV}(h:dV v p a w)(u:JV):∃v',vB u v p a w v':=by
 induction h with
 |here v p=>exact⟨u,.here v p⟩
 |down h ih=>obtain⟨v',h'⟩:=ih;exact⟨_,.down h'⟩
theorem vB.sits {u v:JV}{a:Nat}{w v':JV}(h:vB u v p a w v'):dV v p a w:=by
 induction h with
 |here v p=>exact .here v p
 |down _ ih=>exact .down ih
theorem vB.size {u v:JV}{a:Nat}{w v':JV}(h:vB u v p a w v'):v'.size+w.size=v.size+u.size:=by
 induction h with
 |here v p=>omega
 | @down k t x n ns pre post u0 u1 p a w h ih=>simp only[JV.size,cR,JV.sizes];omega
theorem vB.flat {u v:JV}{a:Nat}{w v':JV}(h:vB u v p a w v'):∃A B,v.flat p=A++w.flat a++B/\p+A.length=a/\v'.flat p=A.map (Nd.mv (mx (a+w.size) w.size u.size))++u.flat a++B.map (Nd.mv (mx (a+w.size) w.size u.size)):=by
 induction h with
 |here v p=>exact⟨[], [],by simp,by simp,by simp⟩
 | @down k t x n ns pre post u0 u1 p a w h ih=>
  obtain⟨A,B,h1,h2,h3⟩:=ih;have a1:=h.sits.bd;have hsz:=h.size;have a0:∀q,q<a+w.size->mx (a+w.size) w.size u.size q=q:=fun q hq=>by unfold mx;rw[if_neg (by omega)]
  have hw:=w.size_pos;refine⟨⟨k,t,x,n,ns,aV (p+1) (pre++u0::post)⟩:: (JV.flats (p+1) pre++A),B++JV.flats (p+1+JV.sizes pre+u0.size) post,?_,?_,?_⟩
  ·simp only[JV.flat,e7,JV.flats,h1];simp
  ·simp[JV.flats_len];omega
  ·have e1:(aV (p+1) (pre++u0::post)).map (mx (a+w.size) w.size u.size)=aV (p+1) (pre++u1::post):=by
    rw[dH,dH,List.map_append];rw[jj pre (p+1) (p+1) _ (fun q g1 g2=>by rw[a0 q (by omega)];omega)];simp only[aV,List.map_cons];rw[a0 _ (by omega),jj post (p+1+JV.sizes pre+u0.size) (p+1+JV.sizes pre+u1.size) _ (fun q g1 g2=>by unfold mx;rw[if_pos (by omega)];omega)]
   have e2:(JV.flats (p+1) pre).map (Nd.mv (mx (a+w.size) w.size u.size))=JV.flats (p+1) pre:=vo pre (p+1) (p+1) _ (fun q g1 g2=>by rw[a0 q (by omega)];omega);have e3:(JV.flats (p+1+JV.sizes pre+u0.size) post).map (Nd.mv (mx (a+w.size) w.size u.size))=JV.flats (p+1+JV.sizes pre+u1.size) post:=vo post _ _ _ (fun q g1 g2=>by unfold mx;rw[if_pos (by omega)];omega);simp only[JV.flat,e7,JV.flats,h3,List.map_cons,List.map_append,e2,e3];simp only[Nd.mv,e1];simp
