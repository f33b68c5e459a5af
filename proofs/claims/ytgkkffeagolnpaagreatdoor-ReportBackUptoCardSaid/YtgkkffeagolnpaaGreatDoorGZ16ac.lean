import Derived.Test.YtgkkffeagolnpaaGreatDoorGZ16ab
import Derived.Deep.DeepCutAuto
set_option linter.unusedVariables false
set_option linter.unusedSimpArgs false
set_option maxHeartbeats 64000000
set_option maxRecDepth 100000
namespace Go.Proofs.YtgkkffeagolnpaaGreatDoor
open Go.RowKit
variable {cur:Array Value}{l:List ByteArray}{xs ys:List UInt8}{B base base' c cap g i n p:Nat}{A:Option Addr}{T:TypeId->Prop}{u v:Value}{w:World}
theorem pG {z:Nat×Nat}(xs:List UInt8)(hm:xs.length<=c)(h4:xs.length<=4)(hg:w.heap[g]?=some (.cells cur 5 z))(he:cur= (eB xs).toArray):Bs w (.slice (some ⟨g,0,none⟩) xs.length c) xs:=
 Cg xs (by omega) hm (by rw[hg,he])
theorem p5 (xs:List UInt8)(k i:Nat)(h:i<k):am (xs.take k) i=am xs i:=by simp[am,List.getElem?_take,h]
theorem Bs.upto (h:Bs w (.slice A n c) xs){k:Nat}(hk:k<=xs.length):Bs w (.slice A k c) (xs.take k):=by
 obtain⟨hm,A',c',e,hc,a0⟩:=h;injection e with e1 e2 e3
 subst e1 e3;have hl:(xs.take k).length=k:=by simp;omega
 refine⟨by omega,A,c,by rw[hl],by omega,fun h0=>?_⟩;obtain⟨b,o,e,a1⟩:=a0 (by omega);refine⟨b,o,e,fun i hi=>?_⟩;rw[p5 xs k i (by omega)];exact a1 i (by omega)
def Km (c:Int)(w:World)(e:Ending)(w':World):Prop:=e =.returned (.bool (cA c))/\w=w'
theorem yR (c:Int)(w:World):Calls Tryz.prog 147 #[.int .i32 c] w (Km c w):=by
 have hr:cA c= (decide (0<=c)&&decide (c<=1114111)&& (decide (c<55296)||decide (57343<c))):=by
  unfold cA;rw[Bool.eq_iff_iff];simp <;> omega
 go_enter Tryz.func147,Tryz.ntmps147
 by_cases a1:0<=c
 ·by_cases a2:c<=1114111
  ·by_cases a3:c<55296
   ·have a0:=Qa (show cA c=true by rw[hr];simp[a1,a2,a3]);clear hr;go_wp2;go_ret;exact⟨by rw[a0.out];rfl,rfl⟩
   ·by_cases a4:57343<c
    ·have a0:=Qa (show cA c=true by rw[hr];simp[a1,a2,a3,a4]);clear hr;go_wp2;go_ret;exact⟨by rw[a0.out];rfl,rfl⟩
    ·have a0:=Qa (show cA c=false by rw[hr];simp[a1,a2,a3,a4]);clear hr;go_wp2;go_ret;exact⟨by rw[a0.out];rfl,rfl⟩
  ·have a0:=Qa (show cA c=false by rw[hr];simp[a1,a2]);clear hr;go_wp2;go_ret;exact⟨by rw[a0.out];rfl,rfl⟩
 ·have a0:=Qa (show cA c=false by rw[hr];simp[a1]);clear hr;go_wp2;go_ret;exact⟨by rw[a0.out];rfl,rfl⟩
theorem sH (c:Int)(hc:cA c=true):Calls Tryz.prog 149 #[.int .i32 c] w fun e w'=> ∃v,e =.returned v/\Below w.heap.size w w'/\Bs w' v (a7 c):=by
 have a0:=hc;simp only[cA,Bool.and_eq_true,decide_eq_true_eq,Bool.not_eq_true',Bool.and_eq_false_iff,decide_eq_false_iff_not] at a0;have a2:=a0.1.1;have a1:=a0.1.2;clear a0
 by_cases h1:c<128
 ·have e:=Qa (show a7 c = [UInt8.ofNat c.toNat] by rw[a7,if_pos hc,if_pos h1]);clear hc;go_enter Tryz.func149,Tryz.ntmps149;go_wp2;go_ret;refine⟨_,rfl,aa _ _,?_⟩;rw[e.out];exact pG [_] (by simp) (by simp) (Zf _ _) (by simp only[eB,bv,List.map];rw[aG _ (by omega)])
 by_cases h2:c<2048
 ·have e:=Qa (show a7 c = [UInt8.ofNat (192+c/64).toNat,UInt8.ofNat (128+c % 64).toNat] by rw[a7,if_pos hc,if_neg h1,if_pos h2]);clear hc;go_enter Tryz.func149,Tryz.ntmps149;go_wp2;go_ret;refine⟨_,rfl,aa _ _,?_⟩;rw[e.out];exact pG [_,_] (by simp) (by simp) (Zf _ _) (by simp only[eB,bv,List.map];rw[aG _ (by omega),aG _ (by omega)])
 by_cases h3:c<65536
 ·have e:=Qa (show a7 c = [UInt8.ofNat (224+c/4096).toNat,UInt8.ofNat (128+c/64 % 64).toNat,UInt8.ofNat (128+c % 64).toNat] by rw[a7,if_pos hc,if_neg h1,if_neg h2,if_pos h3]);clear hc;go_enter Tryz.func149,Tryz.ntmps149;go_wp2;go_ret;refine⟨_,rfl,aa _ _,?_⟩;rw[e.out];exact pG [_,_,_] (by simp) (by simp) (Zf _ _) (by simp only[eB,bv,List.map];rw[aG _ (by omega),aG _ (by omega),aG _ (by omega)])
 ·have e:=Qa (show a7 c = [UInt8.ofNat (240+c/262144).toNat,UInt8.ofNat (128+c/4096 % 64).toNat,UInt8.ofNat (128+c/64 % 64).toNat,UInt8.ofNat (128+c % 64).toNat] by rw[a7,if_pos hc,if_neg h1,if_neg h2,if_neg h3]);clear hc;go_enter Tryz.func149,Tryz.ntmps149;go_wp2;go_ret;refine⟨_,rfl,aa _ _,?_⟩;rw[e.out];exact pG [_,_,_,_] (by simp) (by simp) (Zf _ _) (by simp only[eB,bv,List.map];rw[aG _ (by omega),aG _ (by omega),aG _ (by omega),aG _ (by omega)])
theorem aq.form (h:aq w base v ys)(h0:0<ys.length) :
  ∃g cap,v =.slice (some ⟨g,0,none⟩) ys.length cap/\base<=g/\g<w.heap.size/\ys.length<=cap/\v.ownBlock=some g:=by
 obtain⟨_,⟨rfl,h1⟩|⟨g,cap,cur,rfl,hb,hg,hn,_⟩⟩:=h
 ·omega
 ·exact⟨g,cap,rfl,hb,ak hg,hn,rfl⟩
theorem aq.cellAt (h:aq w base (.slice (some ⟨g,0,none⟩) n cap) ys)(hn:ys.length=n)(k:Nat)(hk:k<n) :
  w.cell? ⟨g,k,none⟩=some (.int .u8 (am ys k))/\w.frozen? ⟨g,k,none⟩=false:=by
 subst hn;exact⟨by rw[World.ownsRow.cellAt h k (by omega)];exact lO ys k hk,World.ownsRow.frozenAt h k⟩
theorem aq.stored (h:aq w base (.slice (some ⟨g,0,none⟩) n cap) ys)(hn:ys.length=n)(k:Nat)(u:UInt8) :
  aq (w.setCell ⟨g,k,none⟩ (bv u)) base (.slice (some ⟨g,0,none⟩) n cap) (ys.set k u)/\w.grownBy (w.setCell ⟨g,k,none⟩ (bv u)) (some g):=by
 subst hn;have:=World.ownsRow.stored h k (bv u);exact⟨by unfold aq;rw[List.length_set,show eB (ys.set k u)= (eB ys).set k (bv u) by simp[eB,List.map_set]];exact this.1,this.2⟩
theorem pH (x:Int)(w:World):Calls Tryz.prog 145 #[.int .u8 x] w fun e w'=>e =.returned (.int .i64 (fN x))/\w=w':=by
 have hR:=Qa (show ∀n,fN x=n->Ending.returned (.int .i64 n) =.returned (.int .i64 (fN x)) from fun n h=>by rw[h]);go_enter Tryz.func145,Tryz.ntmps145
 by_cases h1:x<128
 ·have hr:=Qa (show fN x=1 by simp[fN,h1]);go_wp2;go_ret;exact⟨hR.out _ hr.out,rfl⟩
 by_cases h2:x<192
 ·have hr:=Qa (show fN x=0 by simp[fN,h1,h2]);go_wp2;go_ret;exact⟨hR.out _ hr.out,rfl⟩
 by_cases h3:x<194
 ·have hr:=Qa (show fN x = -1 by unfold fN;rw[if_neg h1,if_neg h2,if_neg (by omega),if_neg (by omega),if_neg (by omega)]);go_wp2;go_ret;exact⟨hR.out _ hr.out,rfl⟩
 by_cases h4:x<=223
 ·have hr:=Qa (show fN x=2 by unfold fN;rw[if_neg h1,if_neg h2,if_pos (by omega)]);go_wp2;go_ret;exact⟨hR.out _ hr.out,rfl⟩
 by_cases h5:x<=239
 ·have hr:=Qa (show fN x=3 by unfold fN;rw[if_neg h1,if_neg h2,if_neg (by omega),if_pos (by omega)]);go_wp2;go_ret;exact⟨hR.out _ hr.out,rfl⟩
 by_cases h6:x<=244
 ·have hr:=Qa (show fN x=4 by unfold fN;rw[if_neg h1,if_neg h2,if_neg (by omega),if_neg (by omega),if_pos (by omega)]);go_wp2;go_ret;exact⟨hR.out _ hr.out,rfl⟩
 ·have hr:=Qa (show fN x = -1 by unfold fN;rw[if_neg h1,if_neg h2,if_neg (by omega),if_neg (by omega),if_neg (by omega)]);go_wp2;go_ret;exact⟨hR.out _ hr.out,rfl⟩
def pO (w:World)(N:Nat->Int)(n:Nat)(s7 s8 s9:Value)(wr:World):Prop:= ∃k:Nat,1<=k/\k<=n/\s7 =.int .i64 (N (k - 1))/\s8 =.int .i64 k/\w=wr
def JG (r:Int)(w:World)(e:Ending)(w':World):Prop:=e =.returned (.int .i64 r)/\w=w'
theorem jo (hb:Bs w v xs)(h0:0<xs.length)(n:Nat)(h1:1<=n)(h4:n<=4)(fill:Int)(hf:0<=fill/\fill<=63) :
  Calls Tryz.prog 146 #[v,.int .i64 n,.int .i64 fill] w fun e w'=>JG (eY xs n fill (n - 1)) w e w':=by
 obtain⟨hm,A,cap,rfl,b4,a3⟩:=id hb;obtain⟨b,o,rfl,b0⟩:=a3 h0;have c0:=b0 0 h0;rw[Nat.add_zero] at c0;have b5:=a6 xs 0;have H1:=Qa b0;have a5:=Qa (fun k=>EE xs n hf k);have Hz:=Qa (show eY xs n fill 0=fl (am xs 0) n from rfl);clear b0 hb a3;go_enter Tryz.func146,Tryz.ntmps146;have Hn:=Qa (show ∀k,1<=k->eY xs n fill k=eY xs n fill (k - 1)*64+fh xs fill k from fun k hk=>by obtain⟨j,rfl⟩:∃j,k=j+1:=⟨k - 1,by omega⟩;rfl);have hn:n=1\/n=2\/n=3\/n=4:=by omega
 rcases hn with hn|hn|hn|hn
 ·have e2:((n:Int)==2)=false:=by rw[hn];rfl
  have e3:((n:Int)==3)=false:=by rw[hn];rfl
  have e4:((n:Int)==4)=false:=by rw[hn];rfl
  have a2:=Hz.out;have a0:fl (am xs 0) n= (am xs 0:Int):=by rw[hn];rfl
  generalize hN:eY xs n fill=N at *;have Hz3:=Qa (a2.trans a0);clear a2 a0 hN Hz;go_wp2_with fail
  go_loopw [7,8,9] (pO w N n) (fun _ i _ _=>4 - (intOf i).toNat)
  case atStart=>exact⟨1,by omega,by omega,congrArg _ Hz3.out.symm,rfl,rfl⟩
  case round=>
   obtain⟨k,a9,b1,rfl,rfl,rfl⟩:=hrel
   by_cases hlt:k<n
   ·exfalso;omega
   ·obtain a4:k=n:=by omega
    subst a4;go_wp2;go_ret;exact⟨rfl,rfl⟩
 ·have e2:((n:Int)==2)=true:=by rw[hn];rfl
  have e3:((n:Int)==3)=false:=by rw[hn];rfl
  have e4:((n:Int)==4)=false:=by rw[hn];rfl
  have a2:=Hz.out;have a0:fl (am xs 0) n= (am xs 0:Int) - 192:=by rw[hn];rfl
  generalize hN:eY xs n fill=N at *;have Hz3:=Qa (a2.trans a0);clear a2 a0 hN Hz;go_wp2_with fail
  go_loopw [7,8,9] (pO w N n) (fun _ i _ _=>4 - (intOf i).toNat)
  case atStart=>exact⟨1,by omega,by omega,congrArg _ Hz3.out.symm,rfl,rfl⟩
  case round=>
   obtain⟨k,a9,b1,rfl,rfl,rfl⟩:=hrel
   by_cases hlt:k<n
   ·have b3:=a5.out (k - 1) (by omega);have a1:=a5.out k (by omega);have hs:=Qa (Hn.out k a9);rw[hs.out] at a1;generalize N (k - 1)=z at *
    by_cases hin:k<xs.length
    ·have c1:=H1.out k hin;have hd:fh xs fill k=am xs k - 128:=by unfold fh;rw[if_pos hin]
     have b2:=a6 xs k;rw[hd] at a1 hs;clear hd;go_wp2_with fail;exact⟨⟨k+1,by omega,by omega,by rw[show k+1 - 1=k by omega,hs.out],by go_num,rfl⟩,by simp[intOf];omega⟩
    ·have hd:fh xs fill k=fill:=by unfold fh;rw[if_neg hin]
     rw[hd] at a1 hs;clear hd;go_wp2_with fail;exact⟨⟨k+1,by omega,by omega,by rw[show k+1 - 1=k by omega,hs.out],by go_num,rfl⟩,by simp[intOf];omega⟩
   ·obtain a4:k=n:=by omega
    subst a4;go_wp2;go_ret;exact⟨rfl,rfl⟩
 ·have e2:((n:Int)==2)=false:=by rw[hn];rfl
  have e3:((n:Int)==3)=true:=by rw[hn];rfl
  have e4:((n:Int)==4)=false:=by rw[hn];rfl
  have a2:=Hz.out;have a0:fl (am xs 0) n= (am xs 0:Int) - 224:=by rw[hn];rfl
  generalize hN:eY xs n fill=N at *;have Hz3:=Qa (a2.trans a0);clear a2 a0 hN Hz;go_wp2_with fail
  go_loopw [7,8,9] (pO w N n) (fun _ i _ _=>4 - (intOf i).toNat)
  case atStart=>exact⟨1,by omega,by omega,congrArg _ Hz3.out.symm,rfl,rfl⟩
  case round=>
   obtain⟨k,a9,b1,rfl,rfl,rfl⟩:=hrel
   by_cases hlt:k<n
   ·have b3:=a5.out (k - 1) (by omega);have a1:=a5.out k (by omega);have hs:=Qa (Hn.out k a9);rw[hs.out] at a1;generalize N (k - 1)=z at *
    by_cases hin:k<xs.length
    ·have c1:=H1.out k hin;have hd:fh xs fill k=am xs k - 128:=by unfold fh;rw[if_pos hin]
     have b2:=a6 xs k;rw[hd] at a1 hs;clear hd;go_wp2_with fail;exact⟨⟨k+1,by omega,by omega,by rw[show k+1 - 1=k by omega,hs.out],by go_num,rfl⟩,by simp[intOf];omega⟩
    ·have hd:fh xs fill k=fill:=by unfold fh;rw[if_neg hin]
     rw[hd] at a1 hs;clear hd;go_wp2_with fail;exact⟨⟨k+1,by omega,by omega,by rw[show k+1 - 1=k by omega,hs.out],by go_num,rfl⟩,by simp[intOf];omega⟩
   ·obtain a4:k=n:=by omega
    subst a4;go_wp2;go_ret;exact⟨rfl,rfl⟩
 ·have e2:((n:Int)==2)=false:=by rw[hn];rfl
  have e3:((n:Int)==3)=false:=by rw[hn];rfl
  have e4:((n:Int)==4)=true:=by rw[hn];rfl
  have a2:=Hz.out;have a0:fl (am xs 0) n= (am xs 0:Int) - 240:=by rw[hn];rfl
  generalize hN:eY xs n fill=N at *;have Hz3:=Qa (a2.trans a0);clear a2 a0 hN Hz;go_wp2_with fail
  go_loopw [7,8,9] (pO w N n) (fun _ i _ _=>4 - (intOf i).toNat)
  case atStart=>exact⟨1,by omega,by omega,congrArg _ Hz3.out.symm,rfl,rfl⟩
  case round=>
   obtain⟨k,a9,b1,rfl,rfl,rfl⟩:=hrel
   by_cases hlt:k<n
   ·have b3:=a5.out (k - 1) (by omega);have a1:=a5.out k (by omega);have hs:=Qa (Hn.out k a9);rw[hs.out] at a1;generalize N (k - 1)=z at *
    by_cases hin:k<xs.length
    ·have c1:=H1.out k hin;have hd:fh xs fill k=am xs k - 128:=by unfold fh;rw[if_pos hin]
     have b2:=a6 xs k;rw[hd] at a1 hs;clear hd;go_wp2_with fail;exact⟨⟨k+1,by omega,by omega,by rw[show k+1 - 1=k by omega,hs.out],by go_num,rfl⟩,by simp[intOf];omega⟩
    ·have hd:fh xs fill k=fill:=by unfold fh;rw[if_neg hin]
     rw[hd] at a1 hs;clear hd;go_wp2_with fail;exact⟨⟨k+1,by omega,by omega,by rw[show k+1 - 1=k by omega,hs.out],by go_num,rfl⟩,by simp[intOf];omega⟩
   ·obtain a4:k=n:=by omega
    subst a4;go_wp2;go_ret;exact⟨rfl,rfl⟩
def DY (xs ys:List UInt8)(w:World)(e:Ending)(w':World):Prop:=e =.returned (.bool (xs.take ys.length==ys))/\∃m,w'=w.drewN m
theorem vT (hb:Bs w v xs)(hc:Bs w u ys):Calls Tryz.prog 148 #[v,u] w (DY xs ys w):=by
 obtain⟨hm,A,cap,rfl,a2,-⟩:=id hb;obtain⟨a3,B,cap2,rfl,a1,-⟩:=id hc
 by_cases hl:ys.length<=xs.length
 ·have a0:ys.length<=cap:=by omega
  have q1:∀n,(convert 28 9 (.slice A ys.length cap)).run Tryz.prog (w.drewN n) =.ok (.string ⟨(xs.take ys.length).toArray⟩) (w.drewN n):=fun n=>aI ((hb.upto hl).drewN n)
  have q2:=fun n=>aI (hc.drewN n)
  clear hb hc;go_enter Tryz.func148,Tryz.ntmps148;go_wp2_with fail;go_quiet (fail);go_wp2;go_ret;exact⟨rfl,_,rfl⟩
 ·have hne:=Qa (show(xs.take ys.length==ys)=false from beq_eq_false_iff_ne.2 (fun h=>by have:=congrArg List.length h;rw[List.length_take] at this;omega));clear hb hc;go_enter Tryz.func148,Tryz.ntmps148;go_wp2;go_ret;exact⟨by rw[hne.out];rfl,0,rfl⟩
def D8 (w:World)(e:Ending)(w':World):Prop:=(∃b,e =.returned (.bool b))/\Below w.heap.size w w'
def GO (w:World)(len:Nat)(s5:Value)(wr:World):Prop:= ∃k:Nat,1<=k/\k<=len/\s5 =.int .i64 k/\w=wr
theorem DZ (hb:Bs w v xs)(h0:0<xs.length)(n:Nat)(h4:n<=4)(hl:xs.length<n) :
  Calls Tryz.prog 150 #[v,.int .i64 n] w (D8 w):=by
 obtain⟨hm,A,cap,rfl,a3,a0⟩:=id hb;obtain⟨b,o,rfl,a1⟩:=a0 h0;have H1:=Qa a1;have Hb:=Qa hb;clear a1 hb a0;go_enter Tryz.func150,Tryz.ntmps150;go_wp2_with fail
 go_loopw [5] (GO w xs.length) (fun i _=>xs.length - (intOf i).toNat)
 case atStart=>exact⟨1,by omega,by omega,rfl,rfl⟩
 case round=>
  obtain⟨k,a5,a4,rfl,rfl⟩:=hrel
  by_cases hlt:k<xs.length
  ·have c1:=H1.out k hlt;have a9:=a6 xs k
   by_cases t1:am xs k<128
   ·have t1':((am xs k:Nat):Int)<128:=by omega
    go_wp2_with fail;go_ret;exact⟨⟨_,rfl⟩,Ze _ _⟩
   ·have t1':¬ ((am xs k:Nat):Int)<128:=by omega
    by_cases t2:am xs k<=191
    ·have t2':((am xs k:Nat):Int)<=191:=by omega
     go_wp2_with fail;exact⟨⟨k+1,by omega,by omega,by go_num,rfl⟩,by simp[intOf];omega⟩
    ·have t2':¬ ((am xs k:Nat):Int)<=191:=by omega
     go_wp2_with fail;go_ret;exact⟨⟨_,rfl⟩,Ze _ _⟩
  ·obtain a2:k=xs.length:=by omega
   subst a2;have hn:n=2\/n=3\/n=4:=by omega
   go_wp2_with fail;refine(jo Hb.out h0 n (by omega) h4 0 (by omega)).mono ?_;rintro e w' ⟨rfl,rfl⟩;go_wp2_with fail;refine(jo Hb.out h0 n (by omega) h4 63 (by omega)).mono ?_;rintro e w' ⟨rfl,rfl⟩;generalize eY xs n 0 (n - 1)=x;generalize eY xs n 63 (n - 1)=y;rcases hn with rfl|rfl|rfl
   all_goals
    go_wp2_with fail
    all_goals
     go_ret;exact⟨⟨_,rfl⟩,((Ze _ _).alloc (Zb _) _).alloc (by simp) _⟩
def JH (r:Nat×Nat×Nat)(w:World)(e:Ending)(w':World):Prop:=(∃code:Int,e =.returned (.tuple #[.int .i32 r.1,.int .i64 r.2.1,.int .i64 code])/\(code=0↔r.2.2=0))/\Below w.heap.size w w'
def Fk (w:World)(xs:List UInt8)(n:Nat)(s6 s7:Value)(wr:World):Prop:= ∃k:Nat,1<=k/\k<=n/\s6 =.bool (ea xs (k - 1))/\s7 =.int .i64 k/\w=wr
theorem wt (hb:Bs w v xs):Calls Tryz.prog 117 #[v] w (JH (bg xs) w):=by
 obtain⟨hm,A,cap,rfl,d1,a1⟩:=id hb;have a3:=Qa a1;have Hb:=Qa hb;clear a1 hb
 by_cases h0:xs.length=0
 ·obtain rfl:xs = []:=List.eq_nil_of_length_eq_zero h0;go_enter Tryz.func117,Tryz.ntmps117;go_wp2;go_ret3;exact⟨⟨103,rfl,by simp[bg]⟩,Ze _ _⟩
 have d5:(((xs.length:Nat):Int)==0)=false:=beq_eq_false_iff_ne.2 (by omega);obtain⟨b,o,rfl,b2⟩:=a3.out (by omega);have c0:=b2 0 (by omega);rw[Nat.add_zero] at c0;have hx:=a6 xs 0;have d2:=Qa b2;clear b2 a3;have b0:=ee (am xs 0) hx;have Hq:=Qa (Eg (am xs 0) hx);go_enter Tryz.func117,Tryz.ntmps117;go_wp2_with fail;refine(pH _ _).mono ?_;rintro e w' ⟨rfl,rfl⟩;rw[Hq.out]
 by_cases hc1:aY (am xs 0)<1
 ·have hd:=Qa (DF (by omega) hc1);go_wp2;go_ret3;exact⟨⟨101,by rw[hd.out];rfl,by rw[hd.out];simp⟩,Ze _ _⟩
 obtain⟨n,hn,e0,c4⟩:∃n:Nat,aY (am xs 0)=n/\1<=n/\n<=4:=by
  rcases b0 with h|h|h|h|h
  ·omega
  ·exact⟨1,h,by omega,by omega⟩
  ·exact⟨2,h,by omega,by omega⟩
  ·exact⟨3,h,by omega,by omega⟩
  ·exact⟨4,h,by omega,by omega⟩
 rw[hn];have a2:=Qa (fun h=>BX (xs:=xs) h);have a9:=Qa (fun (c:Int) hr hb=>Ej (xs:=xs) hn (c:=c) hr hb);have Hn:=Qa hn;clear b0 hc1 hn
 by_cases hlen:n<=xs.length
 ·go_wp2_with fail
  go_loopw [6,7] (Fk w xs n) (fun _ i _=>n - (intOf i).toNat)
  case atStart=>exact⟨1,by omega,by omega,rfl,rfl,rfl⟩
  case round=>
   obtain⟨k,c8,d9,rfl,rfl,rfl⟩:=hrel
   by_cases hlt:k<n
   ·have c1:=d2.out k (by omega);have d6:=a6 xs k;have hg:=Qa (show ea xs k= (ea xs (k - 1)&& (decide (128<=am xs k)&&decide (am xs k<=191))) from by obtain⟨j,rfl⟩:∃j,k=j+1:=⟨k - 1,by omega⟩;rfl)
    cases hgk:ea xs (k - 1)
    ·have a4:=Qa (show ea xs k=false by rw[hg.out,hgk];rfl);clear hgk;go_wp2_with fail;exact⟨⟨k+1,by omega,by omega,by rw[show k+1 - 1=k by omega,a4.out],by go_num,rfl⟩,by simp[intOf];omega⟩
    ·by_cases t1:128<=am xs k
     ·have t1':128<=((am xs k:Nat):Int):=by omega
      by_cases t2:am xs k<=191
      ·have t2':((am xs k:Nat):Int)<=191:=by omega
       have a4:=Qa (show ea xs k=true by rw[hg.out,hgk];simp[t1,t2]);clear hgk;go_wp2_with fail;exact⟨⟨k+1,by omega,by omega,by rw[show k+1 - 1=k by omega,a4.out],by go_num,rfl⟩,by simp[intOf];omega⟩
      ·have t2':¬ ((am xs k:Nat):Int)<=191:=by omega
       have a4:=Qa (show ea xs k=false by rw[hg.out,hgk];simp[t2]);clear hgk;go_wp2_with fail;exact⟨⟨k+1,by omega,by omega,by rw[show k+1 - 1=k by omega,a4.out],by go_num,rfl⟩,by simp[intOf];omega⟩
     ·have t1':¬128<=((am xs k:Nat):Int):=by omega
      have a4:=Qa (show ea xs k=false by rw[hg.out,hgk];simp[t1]);clear hgk;go_wp2_with fail;exact⟨⟨k+1,by omega,by omega,by rw[show k+1 - 1=k by omega,a4.out],by go_num,rfl⟩,by simp[intOf];omega⟩
   ·obtain d0:k=n:=by omega
    subst d0;go_wp2_with fail;refine(jo Hb.out (by omega) k c8 c4 0 (by omega)).mono ?_;rintro e w' ⟨rfl,rfl⟩;have b9:(bg xs).2.2=0->ea xs (k - 1)=true/\wrap32 (eY xs k 0 (k - 1))= (bg xs).1/\cA (bg xs).1=true/\xs.take (a7 (bg xs).1).length=a7 (bg xs).1:=fun h=>by
     obtain⟨m,c7,d4,hm,c5,b1,hr,b4⟩:=a2.out h;obtain rfl:m=k:=by have:=Hn.out;omega
     refine⟨c5,?_,hr,b4⟩;rw[b1];exact xP (by have:=cq hr;omega) (by have:=Bw hr;omega)
    have c3:=Qa b9;clear b9;obtain⟨c,hc⟩:∃c,wrap32 (eY xs k 0 (k - 1))=c:=⟨_,rfl⟩;go_upto_region 13 with fail
    rw[hc] at c3 ⊢;clear hc;have a5:ea xs (k - 1)=false\/cA c=false\/(xs.take (a7 c).length==a7 c)=false->(bg xs).2.2≠0:=fun h e=>by
     obtain⟨h1,h2,h3,h4⟩:=c3.out e;subst h2;rcases h with h|h|h
     ·rw[h1] at h;cases h
     ·rw[h3] at h;cases h
     ·rw[h4] at h;simp at h
    have b3:=Qa a5;clear a5
    cases hgk:ea xs (k - 1)
    ·have a0:=Qa (b3.out (.inl hgk));clear hgk;go_wp2;go_ret3;exact⟨⟨101,by rw[eR a0.out];rfl,by rw[eR a0.out];simp[a0.out]⟩,Ze _ _⟩
    ·clear hgk;go_wp2_with fail;refine(yR c w).mono ?_;rintro e w' ⟨rfl,rfl⟩
     cases hr:cA c
     ·have a0:=Qa (b3.out (.inr (.inl hr)));clear hr;go_wp2;go_ret3;exact⟨⟨101,by rw[eR a0.out];rfl,by rw[eR a0.out];simp[a0.out]⟩,Ze _ _⟩
     ·have Hr:=Qa hr;clear hr;go_wp2_with fail;refine(sH c Hr.out).mono ?_;rintro e w1 ⟨vf,rfl,c2,b8⟩;have b5:=Qa c2;have d3:=Qa b8;clear c2 b8;go_wp2_with fail;refine(vT (Hb.out.below b5.out) d3.out).mono ?_;rintro e w' ⟨rfl,m,rfl⟩
      cases ht:(xs.take (a7 c).length==a7 c)
      ·have a0:=Qa (b3.out (.inr (.inr ht)));clear ht;go_wp2;go_ret3;exact⟨⟨101,by rw[eR a0.out];rfl,by rw[eR a0.out];simp[a0.out]⟩,ap b5.out m⟩
      ·have hd:=Qa (a9.out c Hr.out (by simpa using ht));have c9:=Qa (show((c.toNat:Nat):Int)=c by have:=cq Hr.out;omega);clear ht;go_wp2;go_ret3;exact⟨⟨0,by rw[hd.out,c9.out];rfl,by rw[hd.out];simp⟩,ap b5.out m⟩
 ·have a5:Hid ((bg xs).2.2≠0):=Qa (fun h=>by
   obtain⟨m,c7,d4,hm,c5,b1,hr,b4⟩:=a2.out h;obtain rfl:m=n:=by have:=Hn.out;omega
   have hd:=a9.out _ hr b4;have:=vV xs;rw[hd] at this;simp at this;omega)
  go_wp2_with fail;refine(DZ Hb.out (by omega) n c4 (by omega)).mono ?_;rintro e w' ⟨⟨bb,rfl⟩,c6⟩
  cases bb
  all_goals
   go_wp2;go_ret3;exact⟨⟨_,by rw[eR a5.out];rfl,by rw[eR a5.out];simp[a5.out]⟩,c6⟩
structure Dc where
 neg:Bool
 digits:ByteArray
 exp:Int
deriving DecidableEq
structure Nd where
 kind:Int
 tr:Bool
 text:ByteArray
 num:Dc
 names:List ByteArray
 kids:List Nat
deriving DecidableEq
inductive JV where
 |mk (kind:Int) (tr:Bool) (text:ByteArray) (num:Dc) (names:List ByteArray) (kids:List JV)
theorem JV.ind {P:JV->Prop}(h:∀k t x n ns ks,(∀u∈ks,P u)->P (.mk k t x n ns ks))(v:JV):P v:=
 JV.rec (motive_1:=P) (motive_2:=fun l=> ∀u∈l,P u) (fun k t x n ns ks ih=>h k t x n ns ks ih) (fun u hu=>by cases hu)
  (fun v vs h1 h2 u hu=>by rcases List.mem_cons.1 hu with rfl|hu;exact h1;exact h2 u hu) v
def JV.kids:JV->List JV | .mk _ _ _ _ _ ks=>ks
mutual
def JV.size:JV->Nat
 | .mk _ _ _ _ _ ks=>1+JV.sizes ks
def JV.sizes:List JV->Nat
 | []=>0
 |v::vs=>JV.size v+JV.sizes vs
end
def tS:Nat->List JV->List Nat
 |_, []=> []
 |p,v::vs=>p::tS (p+v.size) vs
mutual
def JV.flat:Nat->JV->List Nd
 |p,.mk k t x n ns ks=>⟨k,t,x,n,ns,tS (p+1) ks⟩::JV.flats (p+1) ks
def JV.flats:Nat->List JV->List Nd
 |_, []=> []
 |p,v::vs=>JV.flat p v++JV.flats (p+v.size) vs
end
theorem jM {l:List JV}(h:∀u∈l,∀p,(JV.flat p u).length=u.size):∀p,(JV.flats p l).length=JV.sizes l:=by
 induction l with
 |nil=>intro p;simp[JV.flats,JV.sizes]
 |cons v vs ih=>
  intro p;simp only[JV.flats,JV.sizes,List.length_append];rw[h v (by simp),ih (fun u hu=>h u (Zl _ hu))]
theorem JV.flat_len (v:JV):∀p,(JV.flat p v).length=v.size:=by
 refine JV.ind (P:=fun v=> ∀p,(JV.flat p v).length=v.size) (fun k t x n ns ks ih p=>?_) v;simp only[JV.flat,JV.size,List.length_cons];rw[jM ih];omega
theorem JV.flats_len (l:List JV)(p:Nat):(JV.flats p l).length=JV.sizes l:=jM (fun u _=>JV.flat_len u) p
theorem pF (a b:List JV)(p:Nat):JV.flats p (a++b)=JV.flats p a++JV.flats (p+JV.sizes a) b:=by
 induction a generalizing p with
 |nil=>simp[JV.flats,JV.sizes]
 |cons v vs ih=>simp[JV.flats,JV.sizes,ih,Nat.add_assoc]
inductive vz:JV->Nat->Nat->JV->Prop
 |here (v:JV) (p:Nat):vz v p p v
 |down {k:Int} {t:Bool} {x:ByteArray} {n:Dc} {ns:List ByteArray} {pre post:List JV} {u:JV} {p a:Nat} {w:JV} (h:vz u (p+1+JV.sizes pre) a w):vz (.mk k t x n ns (pre++u::post)) p a w
theorem vz.flat {v:JV}{a:Nat}{w:JV}(h:vz v p a w):∃A B,JV.flat p v=A++JV.flat a w++B/\p+A.length=a:=by
 induction h with
 |here v p=>exact⟨[], [],by simp,by simp⟩
 | @down k t x n ns pre post u p a w h ih=>
  obtain⟨A,B,he,hl⟩:=ih;refine⟨⟨k,t,x,n,ns,tS (p+1) (pre++u::post)⟩:: (JV.flats (p+1) pre++A),B++JV.flats (p+1+JV.sizes pre+u.size) post,?_,?_⟩
  ·simp only[JV.flat,pF,JV.flats,he];simp
  ·simp[JV.flats_len];omega
theorem vz.bd {v:JV}{a:Nat}{w:JV}(h:vz v p a w):p<=a/\a+w.size<=p+v.size:=by
 obtain⟨A,B,he,hl⟩:=h.flat;have:=congrArg List.length he;simp[JV.flat_len] at this;omega
section
variable {w w':World}{base:Nat}{e:TypeId}{k n:Nat}{v:Value}{xs:List Value}
theorem ai (h:w.ownsRow base e k v n xs)(hb:Below B w w')(hB:w.heap.size<=B):w'.ownsRow base e k v n xs:=by
 obtain⟨h1,⟨rfl,h0⟩|⟨g,cap,cur,rfl,a0,hg,r⟩⟩:=h
 ·exact⟨h1,.inl ⟨rfl,h0⟩⟩
 ·exact⟨h1,.inr ⟨g,cap,cur,rfl,a0,(hb.block g (Nat.lt_of_lt_of_le (ak hg) hB)).trans hg,r⟩⟩
theorem bj (h:w.ownsRow base e k v n xs)(hb:base'<=base):w.ownsRow base' e k v n xs:=by
 obtain⟨h1,⟨rfl,h0⟩|⟨g,cap,cur,rfl,a0,r⟩⟩:=h
 ·exact⟨h1,.inl ⟨rfl,h0⟩⟩
 ·exact⟨h1,.inr ⟨g,cap,cur,rfl,Zc hb a0,r⟩⟩
def bL (T:TypeId->Prop)(w w':World):Prop:=w.heap.size<=w'.heap.size/\∀ (g:Nat) (cs:Array Value) (e:TypeId) (z:Nat×Nat),w.heap[g]?=some (.cells cs e z)->¬T e->w'.heap[g]?=some (.cells cs e z)
theorem bL.refl (T:TypeId->Prop)(w:World):bL T w w:=⟨Zb _,fun _ _ _ _ h _=>h⟩
theorem bL.trans {a b c:World}(h:bL T a b)(k:bL T b c):bL T a c:=⟨Zc h.1 k.1,fun g cs e z hg ht=>k.2 g cs e z (h.2 g cs e z hg ht) ht⟩
theorem bL.of_below (T:TypeId->Prop)(h:Below w.heap.size w w'):bL T w w':=⟨h.size,fun g cs e z hg _=>(h.block g (ak hg)).trans hg⟩
theorem bL.of_grown {row:Option Nat}(hg:w.grownBy w' row)(ht:∀ (g:Nat),row=some g->∀ (cs:Array Value) (e:TypeId) (z:Nat×Nat),w.heap[g]?=some (.cells cs e z)->T e):bL T w w':=
 ⟨hg.size,fun g cs e z h hn=>(hg.block g (ak h) (fun eq=>hn (ht g eq.symm cs e z h))).trans h⟩
theorem bL.setCell {p:Addr}(u:Value)(ht:∀ (cs:Array Value) (e:TypeId) (z:Nat×Nat),w.heap[p.block]?=some (.cells cs e z)->T e):bL T w (w.setCell p u):=
 ⟨by simp,fun g cs e z h hn=>(Below.heap_setCell w p u g (by rintro rfl;exact hn (ht cs e z h))).trans h⟩
theorem bL.drewN (T:TypeId->Prop)(m:Nat):bL T w (w.drewN m):=⟨Zb _,fun _ _ _ _ h _=>h⟩
theorem aw (h:w.ownsRow base e k v n xs)(hk:bL T w w')(he:¬T e):w'.ownsRow base e k v n xs:=by
 obtain⟨h1,⟨rfl,h0⟩|⟨g,cap,cur,rfl,a0,hg,r⟩⟩:=h
 ·exact⟨h1,.inl ⟨rfl,h0⟩⟩
 ·exact⟨h1,.inr ⟨g,cap,cur,rfl,a0,hk.2 g cur e _ hg he,r⟩⟩
theorem ao (h:w.ownsRow base e k v n xs)(hv:v.ownBlock=some g):base<=g/\∃cur,w.heap[g]?=some (.cells cur e (0,0)):=by
 obtain⟨h1,⟨rfl,h0⟩|⟨g',cap,cur,rfl,a0,hg,r⟩⟩:=h
 ·simp[Value.ownBlock] at hv
 ·simp[Value.ownBlock] at hv;subst hv;exact⟨a0,cur,hg⟩
theorem ep (h:w.ownsRow base e k v n xs):(v =.slice none 0 0/\n=0/\xs = [])\/∃g cap,v =.slice (some ⟨g,0,none⟩) n cap/\base<=g/\n<=cap/\n<=maxLen:=by
 obtain⟨h1,⟨rfl,h0⟩|⟨g,cap,cur,rfl,a0,hg,h2,h3,r⟩⟩:=h
 ·subst h0;exact .inl ⟨rfl,rfl,List.eq_nil_of_length_eq_zero (by omega)⟩
 ·exact .inr ⟨g,cap,rfl,a0,h2,Zc h2 h3⟩
theorem ag (h:w.ownsRow base e k v n xs):∃A cap,v =.slice A n cap/\n<=cap/\n<=maxLen/\(0<n->∃g,A=some ⟨g,0,none⟩):=by
 rcases ep h with ⟨rfl,rfl,_⟩|⟨g,cap,rfl,_,h1,h2⟩
 ·exact⟨none,0,rfl,Zb _,Zj _,fun h=>by omega⟩
 ·exact⟨_,cap,rfl,h1,h2,fun _=>⟨g,rfl⟩⟩
theorem aH (h:w.ownsRow base e k (.slice A n cap) n xs)(hA:A=some ⟨g,0,none⟩)(j:Nat)(hj:j<n*k):w.cell? ⟨g,j,none⟩=xs[j]?:=by
 subst hA;exact World.ownsRow.cellAt h j hj
end
def cn (s:ByteArray):Value:=.string s
def aV (w:World)(base:Nat)(v:Value)(l:List ByteArray):Prop:=w.ownsRow base 9 1 v l.length (l.map cn)
def ch {α β:Type}(R:α->β->Prop)(l:List α)(m:List β):Prop:=l.length=m.length/\∀ (i:Nat) (a:α) (b:β),l[i]?=some a->m[i]?=some b->R a b
theorem ch.mono {α β:Type}{R S:α->β->Prop}{l:List α}{m:List β}(h:ch R l m)(hs:∀a b,R a b->S a b):ch S l m:=⟨h.1,fun i a b h1 h2=>hs _ _ (h.2 i a b h1 h2)⟩
theorem ch.nil {α β:Type}(R:α->β->Prop):ch R [] []:=⟨rfl,fun i a b h=>by simp at h⟩
theorem ch.snoc {α β:Type}{R:α->β->Prop}{l:List α}{m:List β}{a:α}{b:β}(h:ch R l m)(hr:R a b):ch R (l ++ [a]) (m ++ [b]):=by
 refine⟨by simp[h.1],fun i x y h1 h2=>?_⟩;have hl:=h.1
 by_cases hi:i<l.length
 ·rw[List.getElem?_append_left hi] at h1;rw[List.getElem?_append_left (by omega)] at h2;exact h.2 i x y h1 h2
 ·rw[List.getElem?_append_right (by omega)] at h1 h2;rw[hl] at h1;have hz:i - m.length=0:=by have:=(List.getElem?_eq_some_iff.1 h1).1;simp at this;omega
  rw[hz] at h1 h2;simp at h1 h2;subst h1 h2;exact hr
theorem ch.get {α β:Type}{R:α->β->Prop}{l:List α}{m:List β}(h:ch R l m){b:β}(hb:m[i]?=some b):∃a,l[i]?=some a/\R a b:=by
 have hi:=(List.getElem?_eq_some_iff.1 hb).1;rw[<-h.1] at hi;exact⟨_,Zd hi,h.2 i _ _ (Zd hi) hb⟩
theorem ch.cons {α β:Type}{R:α->β->Prop}{l:List α}{m:List β}{a:α}{b:β}(hr:R a b)(h:ch R l m):ch R (a::l) (b::m):=by
 refine⟨by simp[h.1],fun i x y h1 h2=>?_⟩
 cases i with
 |zero=>simp at h1 h2;subst h1 h2;exact hr
 |succ i=>simp at h1 h2;exact h.2 i x y h1 h2
theorem Bb {us:List (List Value)}{k:Nat}(h:∀u∈us,u.length=k):∀i j,j<k->us.flatten[i*k+j]?=us[i]?.bind (·[j]?):=by
 induction us with
 |nil=>intro i j hj;simp
 |cons a l ih=>
  intro i j hj;have ha:=h a (by simp);have hl:=ih (fun u hu=>h u (Zl _ hu))
  cases i with
  |zero=>simp[List.getElem?_append_left (show j<a.length by omega)]
  |succ i=>
   rw[List.flatten_cons,List.getElem?_append_right (by rw[ha,Nat.succ_mul];omega),ha,show(i+1)*k+j - k=i*k+j by rw[Nat.succ_mul];omega,hl i j hj];simp
section
variable {w w':World}{base:Nat}{v:Value}
theorem aV.below (h:aV w base v l)(hb:Below B w w')(hB:w.heap.size<=B):aV w' base v l:=ai h hb hB
theorem aV.low {b:Nat}(h:aV w base v l)(hb:b<=base):aV w b v l:=bj h hb
end
theorem aV.nil (w:World)(base:Nat):aV w base (.slice none 0 0) []:=⟨rfl,.inl ⟨rfl,rfl⟩⟩
