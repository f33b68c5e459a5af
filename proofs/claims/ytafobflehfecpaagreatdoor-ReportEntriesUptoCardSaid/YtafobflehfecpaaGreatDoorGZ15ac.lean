import Derived.Test.YtafobflehfecpaaGreatDoorGZ15ab
import Derived.Deep.DeepCutAuto
set_option linter.unusedVariables false
set_option linter.unusedSimpArgs false
set_option maxHeartbeats 64000000
set_option maxRecDepth 100000
namespace Go.Proofs.YtafobflehfecpaaGreatDoor
open Go.RowKit
variable {cur:Array Value}{l:List ByteArray}{xs ys:List UInt8}{news us:List Value}{B base base' c cap g i n:Nat}{A:Option Addr}{e:TypeId}{T:TypeId->Prop}{u v z:Value}{w w' w0:World}
theorem oZ {z:Nat×Nat}(xs:List UInt8)(hm:xs.length<=c)(h4:xs.length<=4)(hg:w.heap[g]?=some (.cells cur 5 z))(he:cur= (eW xs).toArray):Bs w (.slice (some ⟨g,0,none⟩) xs.length c) xs:=
 AP xs (by omega) hm (by rw[hg,he])
theorem pe (xs:List UInt8)(k i:Nat)(h:i<k):am (xs.take k) i=am xs i:=by simp[am,List.getElem?_take,h]
theorem Bs.upto (h:Bs w (.slice A n c) xs){k:Nat}(hk:k<=xs.length):Bs w (.slice A k c) (xs.take k):=by
 obtain⟨hm,A',c',e,hc,a0⟩:=h;injection e with e1 e2 e3
 subst e1 e3;have hl:(xs.take k).length=k:=by simp;omega
 refine⟨by omega,A,c,by rw[hl],by omega,fun h0=>?_⟩;obtain⟨b,o,e,a1⟩:=a0 (by omega);refine⟨b,o,e,fun i hi=>?_⟩;rw[pe xs k i (by omega)];exact a1 i (by omega)
def G4 (c:Int)(w:World)(e:Ending)(w':World):Prop:=e =.returned (.bool (ce c))/\w=w'
theorem yz (c:Int)(w:World):Calls Tryz.prog 162 #[.int .i32 c] w (G4 c w):=by
 have hr:ce c= (decide (0<=c)&&decide (c<=1114111)&& (decide (c<55296)||decide (57343<c))):=by
  unfold ce;rw[Bool.eq_iff_iff];simp <;> omega
 go_enter Tryz.func162,Tryz.ntmps162
 by_cases a1:0<=c
 ·by_cases a2:c<=1114111
  ·by_cases a3:c<55296
   ·have a0:=Qa (show ce c=true by rw[hr];simp[a1,a2,a3]);clear hr;go_wp2;go_ret;exact⟨by rw[a0.out];rfl,rfl⟩
   ·by_cases a4:57343<c
    ·have a0:=Qa (show ce c=true by rw[hr];simp[a1,a2,a3,a4]);clear hr;go_wp2;go_ret;exact⟨by rw[a0.out];rfl,rfl⟩
    ·have a0:=Qa (show ce c=false by rw[hr];simp[a1,a2,a3,a4]);clear hr;go_wp2;go_ret;exact⟨by rw[a0.out];rfl,rfl⟩
  ·have a0:=Qa (show ce c=false by rw[hr];simp[a1,a2]);clear hr;go_wp2;go_ret;exact⟨by rw[a0.out];rfl,rfl⟩
 ·have a0:=Qa (show ce c=false by rw[hr];simp[a1]);clear hr;go_wp2;go_ret;exact⟨by rw[a0.out];rfl,rfl⟩
theorem rQ (c:Int)(hc:ce c=true):Calls Tryz.prog 164 #[.int .i32 c] w fun e w'=> ∃v,e =.returned v/\Below w.heap.size w w'/\Bs w' v (aO c):=by
 have a0:=hc;simp only[ce,Bool.and_eq_true,decide_eq_true_eq,Bool.not_eq_true',Bool.and_eq_false_iff,decide_eq_false_iff_not] at a0;have a2:=a0.1.1;have a1:=a0.1.2;clear a0
 by_cases h1:c<128
 ·have e:=Qa (show aO c = [UInt8.ofNat c.toNat] by rw[aO,if_pos hc,if_pos h1]);clear hc;go_enter Tryz.func164,Tryz.ntmps164;go_wp2;go_ret;refine⟨_,rfl,ac _ _,?_⟩;rw[e.out];exact oZ [_] (by simp) (by simp) (Zf _ _) (by simp only[eW,bv,List.map];rw[aA _ (by omega)])
 by_cases h2:c<2048
 ·have e:=Qa (show aO c = [UInt8.ofNat (192+c/64).toNat,UInt8.ofNat (128+c % 64).toNat] by rw[aO,if_pos hc,if_neg h1,if_pos h2]);clear hc;go_enter Tryz.func164,Tryz.ntmps164;go_wp2;go_ret;refine⟨_,rfl,ac _ _,?_⟩;rw[e.out];exact oZ [_,_] (by simp) (by simp) (Zf _ _) (by simp only[eW,bv,List.map];rw[aA _ (by omega),aA _ (by omega)])
 by_cases h3:c<65536
 ·have e:=Qa (show aO c = [UInt8.ofNat (224+c/4096).toNat,UInt8.ofNat (128+c/64 % 64).toNat,UInt8.ofNat (128+c % 64).toNat] by rw[aO,if_pos hc,if_neg h1,if_neg h2,if_pos h3]);clear hc;go_enter Tryz.func164,Tryz.ntmps164;go_wp2;go_ret;refine⟨_,rfl,ac _ _,?_⟩;rw[e.out];exact oZ [_,_,_] (by simp) (by simp) (Zf _ _) (by simp only[eW,bv,List.map];rw[aA _ (by omega),aA _ (by omega),aA _ (by omega)])
 ·have e:=Qa (show aO c = [UInt8.ofNat (240+c/262144).toNat,UInt8.ofNat (128+c/4096 % 64).toNat,UInt8.ofNat (128+c/64 % 64).toNat,UInt8.ofNat (128+c % 64).toNat] by rw[aO,if_pos hc,if_neg h1,if_neg h2,if_neg h3]);clear hc;go_enter Tryz.func164,Tryz.ntmps164;go_wp2;go_ret;refine⟨_,rfl,ac _ _,?_⟩;rw[e.out];exact oZ [_,_,_,_] (by simp) (by simp) (Zf _ _) (by simp only[eW,bv,List.map];rw[aA _ (by omega),aA _ (by omega),aA _ (by omega),aA _ (by omega)])
theorem ao.form (h:ao w base v ys)(h0:0<ys.length) :
  ∃g cap,v =.slice (some ⟨g,0,none⟩) ys.length cap/\base<=g/\g<w.heap.size/\ys.length<=cap/\v.ownBlock=some g:=by
 obtain⟨_,⟨rfl,h1⟩|⟨g,cap,cur,rfl,hb,hg,hn,_⟩⟩:=h
 ·omega
 ·exact⟨g,cap,rfl,hb,ag hg,hn,rfl⟩
theorem ao.cellAt (h:ao w base (.slice (some ⟨g,0,none⟩) n cap) ys)(hn:ys.length=n)(k:Nat)(hk:k<n) :
  w.cell? ⟨g,k,none⟩=some (.int .u8 (am ys k))/\w.frozen? ⟨g,k,none⟩=false:=by
 subst hn;exact⟨by rw[World.ownsRow.cellAt h k (by omega)];exact kJ ys k hk,World.ownsRow.frozenAt h k⟩
theorem oK (x:Int)(w:World):Calls Tryz.prog 160 #[.int .u8 x] w fun e w'=>e =.returned (.int .i64 (fh x))/\w=w':=by
 have hR:=Qa (show ∀n,fh x=n->Ending.returned (.int .i64 n) =.returned (.int .i64 (fh x)) from fun n h=>by rw[h]);go_enter Tryz.func160,Tryz.ntmps160
 by_cases h1:x<128
 ·have hr:=Qa (show fh x=1 by simp[fh,h1]);go_wp2;go_ret;exact⟨hR.out _ hr.out,rfl⟩
 by_cases h2:x<192
 ·have hr:=Qa (show fh x=0 by simp[fh,h1,h2]);go_wp2;go_ret;exact⟨hR.out _ hr.out,rfl⟩
 by_cases h3:x<194
 ·have hr:=Qa (show fh x = -1 by unfold fh;rw[if_neg h1,if_neg h2,if_neg (by omega),if_neg (by omega),if_neg (by omega)]);go_wp2;go_ret;exact⟨hR.out _ hr.out,rfl⟩
 by_cases h4:x<=223
 ·have hr:=Qa (show fh x=2 by unfold fh;rw[if_neg h1,if_neg h2,if_pos (by omega)]);go_wp2;go_ret;exact⟨hR.out _ hr.out,rfl⟩
 by_cases h5:x<=239
 ·have hr:=Qa (show fh x=3 by unfold fh;rw[if_neg h1,if_neg h2,if_neg (by omega),if_pos (by omega)]);go_wp2;go_ret;exact⟨hR.out _ hr.out,rfl⟩
 by_cases h6:x<=244
 ·have hr:=Qa (show fh x=4 by unfold fh;rw[if_neg h1,if_neg h2,if_neg (by omega),if_neg (by omega),if_pos (by omega)]);go_wp2;go_ret;exact⟨hR.out _ hr.out,rfl⟩
 ·have hr:=Qa (show fh x = -1 by unfold fh;rw[if_neg h1,if_neg h2,if_neg (by omega),if_neg (by omega),if_neg (by omega)]);go_wp2;go_ret;exact⟨hR.out _ hr.out,rfl⟩
def oq (w:World)(N:Nat->Int)(n:Nat)(s7 s8 s9:Value)(wr:World):Prop:= ∃k:Nat,1<=k/\k<=n/\s7 =.int .i64 (N (k - 1))/\s8 =.int .i64 k/\w=wr
def GN (r:Int)(w:World)(e:Ending)(w':World):Prop:=e =.returned (.int .i64 r)/\w=w'
theorem iA (hb:Bs w v xs)(h0:0<xs.length)(n:Nat)(h1:1<=n)(h4:n<=4)(fill:Int)(hf:0<=fill/\fill<=63) :
  Calls Tryz.prog 161 #[v,.int .i64 n,.int .i64 fill] w fun e w'=>GN (ey xs n fill (n - 1)) w e w':=by
 obtain⟨hm,A,cap,rfl,b4,a3⟩:=id hb;obtain⟨b,o,rfl,b1⟩:=a3 h0;have c0:=b1 0 h0;rw[Nat.add_zero] at c0;have b5:=aP xs 0;have H1:=Qa b1;have a5:=Qa (fun k=>Di xs n hf k);have Hz:=Qa (show ey xs n fill 0=eL (am xs 0) n from rfl);clear b1 hb a3;go_enter Tryz.func161,Tryz.ntmps161;have Hn:=Qa (show ∀k,1<=k->ey xs n fill k=ey xs n fill (k - 1)*64+eG xs fill k from fun k hk=>by obtain⟨j,rfl⟩:∃j,k=j+1:=⟨k - 1,by omega⟩;rfl);have hn:n=1\/n=2\/n=3\/n=4:=by omega
 rcases hn with hn|hn|hn|hn
 ·have e2:((n:Int)==2)=false:=by rw[hn];rfl
  have e3:((n:Int)==3)=false:=by rw[hn];rfl
  have e4:((n:Int)==4)=false:=by rw[hn];rfl
  have a2:=Hz.out;have a0:eL (am xs 0) n= (am xs 0:Int):=by rw[hn];rfl
  generalize hN:ey xs n fill=N at *;have Hz3:=Qa (a2.trans a0);clear a2 a0 hN Hz;go_wp2_with fail
  go_loopw [7,8,9] (oq w N n) (fun _ i _ _=>4 - (intOf i).toNat)
  case atStart=>exact⟨1,by omega,by omega,congrArg _ Hz3.out.symm,rfl,rfl⟩
  case round=>
   obtain⟨k,a9,b0,rfl,rfl,rfl⟩:=hrel
   by_cases hlt:k<n
   ·exfalso;omega
   ·obtain a4:k=n:=by omega
    subst a4;go_wp2;go_ret;exact⟨rfl,rfl⟩
 ·have e2:((n:Int)==2)=true:=by rw[hn];rfl
  have e3:((n:Int)==3)=false:=by rw[hn];rfl
  have e4:((n:Int)==4)=false:=by rw[hn];rfl
  have a2:=Hz.out;have a0:eL (am xs 0) n= (am xs 0:Int) - 192:=by rw[hn];rfl
  generalize hN:ey xs n fill=N at *;have Hz3:=Qa (a2.trans a0);clear a2 a0 hN Hz;go_wp2_with fail
  go_loopw [7,8,9] (oq w N n) (fun _ i _ _=>4 - (intOf i).toNat)
  case atStart=>exact⟨1,by omega,by omega,congrArg _ Hz3.out.symm,rfl,rfl⟩
  case round=>
   obtain⟨k,a9,b0,rfl,rfl,rfl⟩:=hrel
   by_cases hlt:k<n
   ·have b3:=a5.out (k - 1) (by omega);have a1:=a5.out k (by omega);have hs:=Qa (Hn.out k a9);rw[hs.out] at a1;generalize N (k - 1)=z at *
    by_cases hin:k<xs.length
    ·have c1:=H1.out k hin;have hd:eG xs fill k=am xs k - 128:=by unfold eG;rw[if_pos hin]
     have b2:=aP xs k;rw[hd] at a1 hs;clear hd;go_wp2_with fail;exact⟨⟨k+1,by omega,by omega,by rw[show k+1 - 1=k by omega,hs.out],by go_num,rfl⟩,by simp[intOf];omega⟩
    ·have hd:eG xs fill k=fill:=by unfold eG;rw[if_neg hin]
     rw[hd] at a1 hs;clear hd;go_wp2_with fail;exact⟨⟨k+1,by omega,by omega,by rw[show k+1 - 1=k by omega,hs.out],by go_num,rfl⟩,by simp[intOf];omega⟩
   ·obtain a4:k=n:=by omega
    subst a4;go_wp2;go_ret;exact⟨rfl,rfl⟩
 ·have e2:((n:Int)==2)=false:=by rw[hn];rfl
  have e3:((n:Int)==3)=true:=by rw[hn];rfl
  have e4:((n:Int)==4)=false:=by rw[hn];rfl
  have a2:=Hz.out;have a0:eL (am xs 0) n= (am xs 0:Int) - 224:=by rw[hn];rfl
  generalize hN:ey xs n fill=N at *;have Hz3:=Qa (a2.trans a0);clear a2 a0 hN Hz;go_wp2_with fail
  go_loopw [7,8,9] (oq w N n) (fun _ i _ _=>4 - (intOf i).toNat)
  case atStart=>exact⟨1,by omega,by omega,congrArg _ Hz3.out.symm,rfl,rfl⟩
  case round=>
   obtain⟨k,a9,b0,rfl,rfl,rfl⟩:=hrel
   by_cases hlt:k<n
   ·have b3:=a5.out (k - 1) (by omega);have a1:=a5.out k (by omega);have hs:=Qa (Hn.out k a9);rw[hs.out] at a1;generalize N (k - 1)=z at *
    by_cases hin:k<xs.length
    ·have c1:=H1.out k hin;have hd:eG xs fill k=am xs k - 128:=by unfold eG;rw[if_pos hin]
     have b2:=aP xs k;rw[hd] at a1 hs;clear hd;go_wp2_with fail;exact⟨⟨k+1,by omega,by omega,by rw[show k+1 - 1=k by omega,hs.out],by go_num,rfl⟩,by simp[intOf];omega⟩
    ·have hd:eG xs fill k=fill:=by unfold eG;rw[if_neg hin]
     rw[hd] at a1 hs;clear hd;go_wp2_with fail;exact⟨⟨k+1,by omega,by omega,by rw[show k+1 - 1=k by omega,hs.out],by go_num,rfl⟩,by simp[intOf];omega⟩
   ·obtain a4:k=n:=by omega
    subst a4;go_wp2;go_ret;exact⟨rfl,rfl⟩
 ·have e2:((n:Int)==2)=false:=by rw[hn];rfl
  have e3:((n:Int)==3)=false:=by rw[hn];rfl
  have e4:((n:Int)==4)=true:=by rw[hn];rfl
  have a2:=Hz.out;have a0:eL (am xs 0) n= (am xs 0:Int) - 240:=by rw[hn];rfl
  generalize hN:ey xs n fill=N at *;have Hz3:=Qa (a2.trans a0);clear a2 a0 hN Hz;go_wp2_with fail
  go_loopw [7,8,9] (oq w N n) (fun _ i _ _=>4 - (intOf i).toNat)
  case atStart=>exact⟨1,by omega,by omega,congrArg _ Hz3.out.symm,rfl,rfl⟩
  case round=>
   obtain⟨k,a9,b0,rfl,rfl,rfl⟩:=hrel
   by_cases hlt:k<n
   ·have b3:=a5.out (k - 1) (by omega);have a1:=a5.out k (by omega);have hs:=Qa (Hn.out k a9);rw[hs.out] at a1;generalize N (k - 1)=z at *
    by_cases hin:k<xs.length
    ·have c1:=H1.out k hin;have hd:eG xs fill k=am xs k - 128:=by unfold eG;rw[if_pos hin]
     have b2:=aP xs k;rw[hd] at a1 hs;clear hd;go_wp2_with fail;exact⟨⟨k+1,by omega,by omega,by rw[show k+1 - 1=k by omega,hs.out],by go_num,rfl⟩,by simp[intOf];omega⟩
    ·have hd:eG xs fill k=fill:=by unfold eG;rw[if_neg hin]
     rw[hd] at a1 hs;clear hd;go_wp2_with fail;exact⟨⟨k+1,by omega,by omega,by rw[show k+1 - 1=k by omega,hs.out],by go_num,rfl⟩,by simp[intOf];omega⟩
   ·obtain a4:k=n:=by omega
    subst a4;go_wp2;go_ret;exact⟨rfl,rfl⟩
def Ds (xs ys:List UInt8)(w:World)(e:Ending)(w':World):Prop:=e =.returned (.bool (xs.take ys.length==ys))/\∃m,w'=w.drewN m
theorem uW (hb:Bs w v xs)(hc:Bs w u ys):Calls Tryz.prog 163 #[v,u] w (Ds xs ys w):=by
 obtain⟨hm,A,cap,rfl,a2,-⟩:=id hb;obtain⟨a3,B,cap2,rfl,a1,-⟩:=id hc
 by_cases hl:ys.length<=xs.length
 ·have a0:ys.length<=cap:=by omega
  have q1:∀n,(convert 28 9 (.slice A ys.length cap)).run Tryz.prog (w.drewN n) =.ok (.string ⟨(xs.take ys.length).toArray⟩) (w.drewN n):=fun n=>aG ((hb.upto hl).drewN n)
  have q2:=fun n=>aG (hc.drewN n)
  clear hb hc;go_enter Tryz.func163,Tryz.ntmps163;go_wp2_with fail;go_quiet (fail);go_wp2;go_ret;exact⟨rfl,_,rfl⟩
 ·have hne:=Qa (show(xs.take ys.length==ys)=false from beq_eq_false_iff_ne.2 (fun h=>by have:=congrArg List.length h;rw[List.length_take] at this;omega));clear hb hc;go_enter Tryz.func163,Tryz.ntmps163;go_wp2;go_ret;exact⟨by rw[hne.out];rfl,0,rfl⟩
def Dg (w:World)(e:Ending)(w':World):Prop:=(∃b,e =.returned (.bool b))/\Below w.heap.size w w'
def Eu (w:World)(len:Nat)(s5:Value)(wr:World):Prop:= ∃k:Nat,1<=k/\k<=len/\s5 =.int .i64 k/\w=wr
theorem Ct (hb:Bs w v xs)(h0:0<xs.length)(n:Nat)(h4:n<=4)(hl:xs.length<n) :
  Calls Tryz.prog 165 #[v,.int .i64 n] w (Dg w):=by
 obtain⟨hm,A,cap,rfl,a3,a0⟩:=id hb;obtain⟨b,o,rfl,a1⟩:=a0 h0;have H1:=Qa a1;have Hb:=Qa hb;clear a1 hb a0;go_enter Tryz.func165,Tryz.ntmps165;go_wp2_with fail
 go_loopw [5] (Eu w xs.length) (fun i _=>xs.length - (intOf i).toNat)
 case atStart=>exact⟨1,by omega,by omega,rfl,rfl⟩
 case round=>
  obtain⟨k,a4,a9,rfl,rfl⟩:=hrel
  by_cases hlt:k<xs.length
  ·have c1:=H1.out k hlt;have a5:=aP xs k
   by_cases t1:am xs k<128
   ·have t1':((am xs k:Nat):Int)<128:=by omega
    go_wp2_with fail;go_ret;exact⟨⟨_,rfl⟩,Ze _ _⟩
   ·have t1':¬ ((am xs k:Nat):Int)<128:=by omega
    by_cases t2:am xs k<=191
    ·have t2':((am xs k:Nat):Int)<=191:=by omega
     go_wp2_with fail;exact⟨⟨k+1,by omega,by omega,by go_num,rfl⟩,by simp[intOf];omega⟩
    ·have t2':¬ ((am xs k:Nat):Int)<=191:=by omega
     go_wp2_with fail;go_ret;exact⟨⟨_,rfl⟩,Ze _ _⟩
  ·obtain a2:k=xs.length:=by omega
   subst a2;have hn:n=2\/n=3\/n=4:=by omega
   go_wp2_with fail;refine(iA Hb.out h0 n (by omega) h4 0 (by omega)).mono ?_;rintro e w' ⟨rfl,rfl⟩;go_wp2_with fail;refine(iA Hb.out h0 n (by omega) h4 63 (by omega)).mono ?_;rintro e w' ⟨rfl,rfl⟩;generalize ey xs n 0 (n - 1)=x;generalize ey xs n 63 (n - 1)=y;rcases hn with rfl|rfl|rfl
   all_goals
    go_wp2_with fail
    all_goals
     go_ret;exact⟨⟨_,rfl⟩,((Ze _ _).alloc (Zb _) _).alloc (by simp) _⟩
def Gs (r:Nat×Nat×Nat)(w:World)(e:Ending)(w':World):Prop:=(∃code:Int,e =.returned (.tuple #[.int .i32 r.1,.int .i64 r.2.1,.int .i64 code])/\(code=0↔r.2.2=0))/\Below w.heap.size w w'
def CI (w:World)(xs:List UInt8)(n:Nat)(s6 s7:Value)(wr:World):Prop:= ∃k:Nat,1<=k/\k<=n/\s6 =.bool (dH xs (k - 1))/\s7 =.int .i64 k/\w=wr
theorem tJ (hb:Bs w v xs):Calls Tryz.prog 139 #[v] w (Gs (a7 xs) w):=by
 obtain⟨hm,A,cap,rfl,c8,a2⟩:=id hb;have a3:=Qa a2;have Hb:=Qa hb;clear a2 hb
 by_cases h0:xs.length=0
 ·obtain rfl:xs = []:=List.eq_nil_of_length_eq_zero h0;go_enter Tryz.func139,Tryz.ntmps139;go_wp2;go_ret3;exact⟨⟨103,rfl,by simp[a7]⟩,Ze _ _⟩
 have d6:(((xs.length:Nat):Int)==0)=false:=beq_eq_false_iff_ne.2 (by omega);obtain⟨b,o,rfl,b4⟩:=a3.out (by omega);have c0:=b4 0 (by omega);rw[Nat.add_zero] at c0;have hx:=aP xs 0;have d4:=Qa b4;clear b4 a3;have a9:=dJ (am xs 0) hx;have Hq:=Qa (Dd (am xs 0) hx);go_enter Tryz.func139,Tryz.ntmps139;go_wp2_with fail;refine(oK _ _).mono ?_;rintro e w' ⟨rfl,rfl⟩;rw[Hq.out]
 by_cases hc1:aL (am xs 0)<1
 ·have hd:=Qa (Al (by omega) hc1);go_wp2;go_ret3;exact⟨⟨101,by rw[hd.out];rfl,by rw[hd.out];simp⟩,Ze _ _⟩
 obtain⟨n,hn,e0,c5⟩:∃n:Nat,aL (am xs 0)=n/\1<=n/\n<=4:=by
  rcases a9 with h|h|h|h|h
  ·omega
  ·exact⟨1,h,by omega,by omega⟩
  ·exact⟨2,h,by omega,by omega⟩
  ·exact⟨3,h,by omega,by omega⟩
  ·exact⟨4,h,by omega,by omega⟩
 rw[hn];have a1:=Qa (fun h=>yW (xs:=xs) h);have b1:=Qa (fun (c:Int) hr hb=>De (xs:=xs) hn (c:=c) hr hb);have Hn:=Qa hn;clear a9 hc1 hn
 by_cases hlen:n<=xs.length
 ·go_wp2_with fail
  go_loopw [6,7] (CI w xs n) (fun _ i _=>n - (intOf i).toNat)
  case atStart=>exact⟨1,by omega,by omega,rfl,rfl,rfl⟩
  case round=>
   obtain⟨k,c7,d5,rfl,rfl,rfl⟩:=hrel
   by_cases hlt:k<n
   ·have c1:=d4.out k (by omega);have d9:=aP xs k;have hg:=Qa (show dH xs k= (dH xs (k - 1)&& (decide (128<=am xs k)&&decide (am xs k<=191))) from by obtain⟨j,rfl⟩:∃j,k=j+1:=⟨k - 1,by omega⟩;rfl)
    cases hgk:dH xs (k - 1)
    ·have a4:=Qa (show dH xs k=false by rw[hg.out,hgk];rfl);clear hgk;go_wp2_with fail;exact⟨⟨k+1,by omega,by omega,by rw[show k+1 - 1=k by omega,a4.out],by go_num,rfl⟩,by simp[intOf];omega⟩
    ·by_cases t1:128<=am xs k
     ·have t1':128<=((am xs k:Nat):Int):=by omega
      by_cases t2:am xs k<=191
      ·have t2':((am xs k:Nat):Int)<=191:=by omega
       have a4:=Qa (show dH xs k=true by rw[hg.out,hgk];simp[t1,t2]);clear hgk;go_wp2_with fail;exact⟨⟨k+1,by omega,by omega,by rw[show k+1 - 1=k by omega,a4.out],by go_num,rfl⟩,by simp[intOf];omega⟩
      ·have t2':¬ ((am xs k:Nat):Int)<=191:=by omega
       have a4:=Qa (show dH xs k=false by rw[hg.out,hgk];simp[t2]);clear hgk;go_wp2_with fail;exact⟨⟨k+1,by omega,by omega,by rw[show k+1 - 1=k by omega,a4.out],by go_num,rfl⟩,by simp[intOf];omega⟩
     ·have t1':¬128<=((am xs k:Nat):Int):=by omega
      have a4:=Qa (show dH xs k=false by rw[hg.out,hgk];simp[t1]);clear hgk;go_wp2_with fail;exact⟨⟨k+1,by omega,by omega,by rw[show k+1 - 1=k by omega,a4.out],by go_num,rfl⟩,by simp[intOf];omega⟩
   ·obtain d0:k=n:=by omega
    subst d0;go_wp2_with fail;refine(iA Hb.out (by omega) k c7 c5 0 (by omega)).mono ?_;rintro e w' ⟨rfl,rfl⟩;have b9:(a7 xs).2.2=0->dH xs (k - 1)=true/\wrap32 (ey xs k 0 (k - 1))= (a7 xs).1/\ce (a7 xs).1=true/\xs.take (aO (a7 xs).1).length=aO (a7 xs).1:=fun h=>by
     obtain⟨m,d1,d2,hm,c2,b0,hr,b5⟩:=a1.out h;obtain rfl:m=k:=by have:=Hn.out;omega
     refine⟨c2,?_,hr,b5⟩;rw[b0];exact wI (by have:=bY hr;omega) (by have:=BY hr;omega)
    have c3:=Qa b9;clear b9;obtain⟨c,hc⟩:∃c,wrap32 (ey xs k 0 (k - 1))=c:=⟨_,rfl⟩;go_upto_region 13 with fail
    rw[hc] at c3 ⊢;clear hc;have a5:dH xs (k - 1)=false\/ce c=false\/(xs.take (aO c).length==aO c)=false->(a7 xs).2.2≠0:=fun h e=>by
     obtain⟨h1,h2,h3,h4⟩:=c3.out e;subst h2;rcases h with h|h|h
     ·rw[h1] at h;cases h
     ·rw[h3] at h;cases h
     ·rw[h4] at h;simp at h
    have b2:=Qa a5;clear a5
    cases hgk:dH xs (k - 1)
    ·have a0:=Qa (b2.out (.inl hgk));clear hgk;go_wp2;go_ret3;exact⟨⟨101,by rw[ek a0.out];rfl,by rw[ek a0.out];simp[a0.out]⟩,Ze _ _⟩
    ·clear hgk;go_wp2_with fail;refine(yz c w).mono ?_;rintro e w' ⟨rfl,rfl⟩
     cases hr:ce c
     ·have a0:=Qa (b2.out (.inr (.inl hr)));clear hr;go_wp2;go_ret3;exact⟨⟨101,by rw[ek a0.out];rfl,by rw[ek a0.out];simp[a0.out]⟩,Ze _ _⟩
     ·have Hr:=Qa hr;clear hr;go_wp2_with fail;refine(rQ c Hr.out).mono ?_;rintro e w1 ⟨vf,rfl,b8,c4⟩;have b3:=Qa b8;have c9:=Qa c4;clear b8 c4;go_wp2_with fail;refine(uW (Hb.out.below b3.out) c9.out).mono ?_;rintro e w' ⟨rfl,m,rfl⟩
      cases ht:(xs.take (aO c).length==aO c)
      ·have a0:=Qa (b2.out (.inr (.inr ht)));clear ht;go_wp2;go_ret3;exact⟨⟨101,by rw[ek a0.out];rfl,by rw[ek a0.out];simp[a0.out]⟩,ap b3.out m⟩
      ·have hd:=Qa (b1.out c Hr.out (by simpa using ht));have d3:=Qa (show((c.toNat:Nat):Int)=c by have:=bY Hr.out;omega);clear ht;go_wp2;go_ret3;exact⟨⟨0,by rw[hd.out,d3.out];rfl,by rw[hd.out];simp⟩,ap b3.out m⟩
 ·have a5:Hid ((a7 xs).2.2≠0):=Qa (fun h=>by
   obtain⟨m,d1,d2,hm,c2,b0,hr,b5⟩:=a1.out h;obtain rfl:m=n:=by have:=Hn.out;omega
   have hd:=b1.out _ hr b5;have:=tD xs;rw[hd] at this;simp at this;omega)
  go_wp2_with fail;refine(Ct Hb.out (by omega) n c5 (by omega)).mono ?_;rintro e w' ⟨⟨bb,rfl⟩,c6⟩
  cases bb
  all_goals
   go_wp2;go_ret3;exact⟨⟨_,by rw[ek a5.out];rfl,by rw[ek a5.out];simp[a5.out]⟩,c6⟩
structure Dc where
 neg:Bool
 digits:ByteArray
 exp:Int
deriving DecidableEq
structure Nd where
 kind:Int
 tr:Bool
 text:ByteArray
 num:Dc
 names:List ByteArray
 kids:List Nat
deriving DecidableEq
inductive JV where
 |mk (kind:Int) (tr:Bool) (text:ByteArray) (num:Dc) (names:List ByteArray) (kids:List JV)
theorem JV.ind {P:JV->Prop}(h:∀k t x n ns ks,(∀u∈ks,P u)->P (.mk k t x n ns ks))(v:JV):P v:=
 JV.rec (motive_1:=P) (motive_2:=fun l=> ∀u∈l,P u) (fun k t x n ns ks ih=>h k t x n ns ks ih) (fun u hu=>by cases hu)
  (fun v vs h1 h2 u hu=>by rcases List.mem_cons.1 hu with rfl|hu;exact h1;exact h2 u hu) v
def JV.kids:JV->List JV | .mk _ _ _ _ _ ks=>ks
mutual
def JV.size:JV->Nat
 | .mk _ _ _ _ _ ks=>1+JV.sizes ks
def JV.sizes:List JV->Nat
 | []=>0
 |v::vs=>JV.size v+JV.sizes vs
end
def vm:Nat->List JV->List Nat
 |_, []=> []
 |p,v::vs=>p::vm (p+v.size) vs
mutual
def JV.flat:Nat->JV->List Nd
 |p,.mk k t x n ns ks=>⟨k,t,x,n,ns,vm (p+1) ks⟩::JV.flats (p+1) ks
def JV.flats:Nat->List JV->List Nd
 |_, []=> []
 |p,v::vs=>JV.flat p v++JV.flats (p+v.size) vs
end
theorem i1 {l:List JV}(h:∀u∈l,∀p,(JV.flat p u).length=u.size):∀p,(JV.flats p l).length=JV.sizes l:=by
 induction l with
 |nil=>intro p;simp[JV.flats,JV.sizes]
 |cons v vs ih=>
  intro p;simp only[JV.flats,JV.sizes,List.length_append];rw[h v (by simp),ih (fun u hu=>h u (Zl _ hu))]
theorem JV.flat_len (v:JV):∀p,(JV.flat p v).length=v.size:=by
 refine JV.ind (P:=fun v=> ∀p,(JV.flat p v).length=v.size) (fun k t x n ns ks ih p=>?_) v;simp only[JV.flat,JV.size,List.length_cons];rw[i1 ih];omega
theorem JV.flats_len (l:List JV)(p:Nat):(JV.flats p l).length=JV.sizes l:=i1 (fun u _=>JV.flat_len u) p
theorem o8 (a b:List JV)(p:Nat):JV.flats p (a++b)=JV.flats p a++JV.flats (p+JV.sizes a) b:=by
 induction a generalizing p with
 |nil=>simp[JV.flats,JV.sizes]
 |cons v vs ih=>simp[JV.flats,JV.sizes,ih,Nat.add_assoc]
inductive uR:JV->Nat->Nat->JV->Prop
 |here (v:JV) (p:Nat):uR v p p v
 |down {k:Int} {t:Bool} {x:ByteArray} {n:Dc} {ns:List ByteArray} {pre post:List JV} {u:JV} {p a:Nat} {w:JV} (h:uR u (p+1+JV.sizes pre) a w):uR (.mk k t x n ns (pre++u::post)) p a w
theorem uR.flat {v:JV}{p a:Nat}{w:JV}(h:uR v p a w):∃A B,JV.flat p v=A++JV.flat a w++B/\p+A.length=a:=by
 induction h with
 |here v p=>exact⟨[], [],by simp,by simp⟩
 | @down k t x n ns pre post u p a w h ih=>
  obtain⟨A,B,he,hl⟩:=ih;refine⟨⟨k,t,x,n,ns,vm (p+1) (pre++u::post)⟩:: (JV.flats (p+1) pre++A),B++JV.flats (p+1+JV.sizes pre+u.size) post,?_,?_⟩
  ·simp only[JV.flat,o8,JV.flats,he];simp
  ·simp[JV.flats_len];omega
theorem uR.bd {v:JV}{p a:Nat}{w:JV}(h:uR v p a w):p<=a/\a+w.size<=p+v.size:=by
 obtain⟨A,B,he,hl⟩:=h.flat;have:=congrArg List.length he;simp[JV.flat_len] at this;omega
section
variable {w w':World}{base:Nat}{e:TypeId}{k n:Nat}{v:Value}{xs:List Value}
theorem ai (h:w.ownsRow base e k v n xs)(hb:Below B w w')(hB:w.heap.size<=B):w'.ownsRow base e k v n xs:=by
 obtain⟨h1,⟨rfl,h0⟩|⟨g,cap,cur,rfl,a0,hg,r⟩⟩:=h
 ·exact⟨h1,.inl ⟨rfl,h0⟩⟩
 ·exact⟨h1,.inr ⟨g,cap,cur,rfl,a0,(hb.block g (Nat.lt_of_lt_of_le (ag hg) hB)).trans hg,r⟩⟩
theorem bp (h:w.ownsRow base e k v n xs)(hb:base'<=base):w.ownsRow base' e k v n xs:=by
 obtain⟨h1,⟨rfl,h0⟩|⟨g,cap,cur,rfl,a0,r⟩⟩:=h
 ·exact⟨h1,.inl ⟨rfl,h0⟩⟩
 ·exact⟨h1,.inr ⟨g,cap,cur,rfl,Zc hb a0,r⟩⟩
def bz (T:TypeId->Prop)(w w':World):Prop:=w.heap.size<=w'.heap.size/\∀ (g:Nat) (cs:Array Value) (e:TypeId) (z:Nat×Nat),w.heap[g]?=some (.cells cs e z)->¬T e->w'.heap[g]?=some (.cells cs e z)
theorem bz.refl (T:TypeId->Prop)(w:World):bz T w w:=⟨Zb _,fun _ _ _ _ h _=>h⟩
theorem bz.trans {a b c:World}(h:bz T a b)(k:bz T b c):bz T a c:=⟨Zc h.1 k.1,fun g cs e z hg ht=>k.2 g cs e z (h.2 g cs e z hg ht) ht⟩
theorem bz.of_below (T:TypeId->Prop)(h:Below w.heap.size w w'):bz T w w':=⟨h.size,fun g cs e z hg _=>(h.block g (ag hg)).trans hg⟩
theorem bz.of_grown {row:Option Nat}(hg:w.grownBy w' row)(ht:∀ (g:Nat),row=some g->∀ (cs:Array Value) (e:TypeId) (z:Nat×Nat),w.heap[g]?=some (.cells cs e z)->T e):bz T w w':=
 ⟨hg.size,fun g cs e z h hn=>(hg.block g (ag h) (fun eq=>hn (ht g eq.symm cs e z h))).trans h⟩
theorem bz.setCell {p:Addr}(u:Value)(ht:∀ (cs:Array Value) (e:TypeId) (z:Nat×Nat),w.heap[p.block]?=some (.cells cs e z)->T e):bz T w (w.setCell p u):=
 ⟨by simp,fun g cs e z h hn=>(Below.heap_setCell w p u g (by rintro rfl;exact hn (ht cs e z h))).trans h⟩
theorem bz.drewN (T:TypeId->Prop)(m:Nat):bz T w (w.drewN m):=⟨Zb _,fun _ _ _ _ h _=>h⟩
theorem au (h:w.ownsRow base e k v n xs)(hk:bz T w w')(he:¬T e):w'.ownsRow base e k v n xs:=by
 obtain⟨h1,⟨rfl,h0⟩|⟨g,cap,cur,rfl,a0,hg,r⟩⟩:=h
 ·exact⟨h1,.inl ⟨rfl,h0⟩⟩
 ·exact⟨h1,.inr ⟨g,cap,cur,rfl,a0,hk.2 g cur e _ hg he,r⟩⟩
theorem al (h:w.ownsRow base e k v n xs)(hv:v.ownBlock=some g):base<=g/\∃cur,w.heap[g]?=some (.cells cur e (0,0)):=by
 obtain⟨h1,⟨rfl,h0⟩|⟨g',cap,cur,rfl,a0,hg,r⟩⟩:=h
 ·simp[Value.ownBlock] at hv
 ·simp[Value.ownBlock] at hv;subst hv;exact⟨a0,cur,hg⟩
theorem dI (h:w.ownsRow base e k v n xs):(v =.slice none 0 0/\n=0/\xs = [])\/∃g cap,v =.slice (some ⟨g,0,none⟩) n cap/\base<=g/\n<=cap/\n<=maxLen:=by
 obtain⟨h1,⟨rfl,h0⟩|⟨g,cap,cur,rfl,a0,hg,h2,h3,r⟩⟩:=h
 ·subst h0;exact .inl ⟨rfl,rfl,List.eq_nil_of_length_eq_zero (by omega)⟩
 ·exact .inr ⟨g,cap,rfl,a0,h2,Zc h2 h3⟩
theorem af (h:w.ownsRow base e k v n xs):∃A cap,v =.slice A n cap/\n<=cap/\n<=maxLen/\(0<n->∃g,A=some ⟨g,0,none⟩):=by
 rcases dI h with ⟨rfl,rfl,_⟩|⟨g,cap,rfl,_,h1,h2⟩
 ·exact⟨none,0,rfl,Zb _,Zj _,fun h=>by omega⟩
 ·exact⟨_,cap,rfl,h1,h2,fun _=>⟨g,rfl⟩⟩
theorem aK (h:w.ownsRow base e k (.slice A n cap) n xs)(hA:A=some ⟨g,0,none⟩)(j:Nat)(hj:j<n*k):w.cell? ⟨g,j,none⟩=xs[j]?:=by
 subst hA;exact World.ownsRow.cellAt h j hj
end
def cH (s:ByteArray):Value:=.string s
def be (w:World)(base:Nat)(v:Value)(l:List ByteArray):Prop:=w.ownsRow base 9 1 v l.length (l.map cH)
def cd {α β:Type}(R:α->β->Prop)(l:List α)(m:List β):Prop:=l.length=m.length/\∀ (i:Nat) (a:α) (b:β),l[i]?=some a->m[i]?=some b->R a b
theorem cd.mono {α β:Type}{R S:α->β->Prop}{l:List α}{m:List β}(h:cd R l m)(hs:∀a b,R a b->S a b):cd S l m:=⟨h.1,fun i a b h1 h2=>hs _ _ (h.2 i a b h1 h2)⟩
theorem cd.nil {α β:Type}(R:α->β->Prop):cd R [] []:=⟨rfl,fun i a b h=>by simp at h⟩
theorem cd.snoc {α β:Type}{R:α->β->Prop}{l:List α}{m:List β}{a:α}{b:β}(h:cd R l m)(hr:R a b):cd R (l ++ [a]) (m ++ [b]):=by
 refine⟨by simp[h.1],fun i x y h1 h2=>?_⟩;have hl:=h.1
 by_cases hi:i<l.length
 ·rw[List.getElem?_append_left hi] at h1;rw[List.getElem?_append_left (by omega)] at h2;exact h.2 i x y h1 h2
 ·rw[List.getElem?_append_right (by omega)] at h1 h2;rw[hl] at h1;have hz:i - m.length=0:=by have:=(List.getElem?_eq_some_iff.1 h1).1;simp at this;omega
  rw[hz] at h1 h2;simp at h1 h2;subst h1 h2;exact hr
theorem cd.get {α β:Type}{R:α->β->Prop}{l:List α}{m:List β}(h:cd R l m){b:β}(hb:m[i]?=some b):∃a,l[i]?=some a/\R a b:=by
 have hi:=(List.getElem?_eq_some_iff.1 hb).1;rw[<-h.1] at hi;exact⟨_,Zd hi,h.2 i _ _ (Zd hi) hb⟩
theorem cd.cons {α β:Type}{R:α->β->Prop}{l:List α}{m:List β}{a:α}{b:β}(hr:R a b)(h:cd R l m):cd R (a::l) (b::m):=by
 refine⟨by simp[h.1],fun i x y h1 h2=>?_⟩
 cases i with
 |zero=>simp at h1 h2;subst h1 h2;exact hr
 |succ i=>simp at h1 h2;exact h.2 i x y h1 h2
theorem ze {us:List (List Value)}{k:Nat}(h:∀u∈us,u.length=k):∀i j,j<k->us.flatten[i*k+j]?=us[i]?.bind (·[j]?):=by
 induction us with
 |nil=>intro i j hj;simp
 |cons a l ih=>
  intro i j hj;have ha:=h a (by simp);have hl:=ih (fun u hu=>h u (Zl _ hu))
  cases i with
  |zero=>simp[List.getElem?_append_left (show j<a.length by omega)]
  |succ i=>
   rw[List.flatten_cons,List.getElem?_append_right (by rw[ha,Nat.succ_mul];omega),ha,show(i+1)*k+j - k=i*k+j by rw[Nat.succ_mul];omega,hl i j hj];simp
section
variable {w w':World}{base:Nat}{v:Value}
theorem be.below (h:be w base v l)(hb:Below B w w')(hB:w.heap.size<=B):be w' base v l:=ai h hb hB
theorem be.low {b:Nat}(h:be w base v l)(hb:b<=base):be w b v l:=bp h hb
end
theorem be.nil (w:World)(base:Nat):be w base (.slice none 0 0) []:=⟨rfl,.inl ⟨rfl,rfl⟩⟩
structure cQ (t e:TypeId) (z:Value) (k B:Nat):Prop where
 ht:Tryz.prog.underlying t=some (.slice e)
 hi:(Tryz.prog.info? e).map (fun i=>(i.zero,i.size,i.bytes))=some (some z,k,B)
 hz:z.cells.size=k
 h0:0<k
theorem lc:cQ 23 9 (.string ByteArray.empty) 1 16:=⟨Tryz.underlying23,by kernel_rfl,rfl,by decide⟩
theorem F3:cQ 188 3 (.int .i64 0) 1 8:=⟨Tryz.underlying188,by kernel_rfl,rfl,by decide⟩
theorem dP {k:Nat}(hg:w.heap[g]?=some (.cells cur e (0,0)))(hb:base<=g)(hc:cap<=maxLen)(hs:cur.size=cap*k):w.ownsRow base e k (.slice (some ⟨g,0,none⟩) 0 cap) 0 []:=
 ⟨by rw[Nat.zero_mul];rfl,.inr ⟨g,cap,cur,rfl,hb,hg,Zj _,hc,hs,by rw[Nat.zero_mul];rfl⟩⟩
theorem j4 {k:Nat}(hg:w.heap[g]?=some (.cells cur e (0,0)))(hb:base<=g)(hc:n<=maxLen)(hs:cur.size=n*k):w.ownsRow base e k (.slice (some ⟨g,0,none⟩) n n) n cur.toList:=
 ⟨by rw[Array.length_toList,hs],.inr ⟨g,n,cur,rfl,hb,hg,Zb _,hc,hs,List.take_of_length_le (by rw[Array.length_toList,hs];exact Zb _)⟩⟩
theorem kb {t:TypeId}{k:Nat}(E:cQ t e z k B){o:Oper}{a:Act}{K:Act->World->Prop}{Q:Exit->Act->World->Prop}(s x:Operand)
  (ho:o.op =.call {callee:=.builtin .append,args:= #[s,x],argTypes:= #[t,t]})
  (base:Nat) (v:Value) (n g c m:Nat) (us news:List Value) (hs:a.eval s=v) (a2:w.ownsRow base e k v n us) (hx:a.eval x =.slice (some ⟨g,0,none⟩) m c) (hl:news.length=m*k)
  (hg:∀j u,news[j]?=some u->w.cell? ⟨g,j,none⟩=some u) (h1:∀u∈news,u.oneCell'=true)
  (hlen:n+m<=maxLen) (hby:(n+m)*B<=140737488355328) (a0:base<=w.heap.size)
  (h:∀v' w',w'.ownsRow base e k v' (n+m) (us++news)->w.grownBy w' v.ownBlock->(v'.ownBlock=v.ownBlock\/v'.ownBlock=some w.heap.size)->K (a.put o.dst v') w'):o.wp Tryz.prog a w K Q:=by
 obtain⟨i0,hi,a5,a3,a4⟩:=info_parts E.hi;obtain⟨v',w',a1,h2,h3,_,h5⟩:=run_append_own_at (P:=Tryz.prog) w base t o.type e i0 z k B E.ht hi a5 a3 a4 E.hz E.h0 v n us a2 ⟨g,0,none⟩ m c news
  hl (fun j y hy=>by
   have:=hg j y hy;unfold Addr.add
   split
   ·rename_i h0;subst h0;exact this
   ·simpa using this) h1 hlen hby a0
 unfold Oper.wp execOp;simp only[ho,resolve,invoke,builtin,Sem.run_bind,Sem.run_pure,Result.andThen_ok,List.map_toArray,List.map_cons,List.map_nil,hs,hx,a1];exact h v' w' h2 h3 h5
theorem dA {t:TypeId}{k:Nat}(E:cQ t e z k B){ops:Array Oper}{rest:List Oper}{o:Oper}{a:Act}{Q:Exit->Act->World->Prop}(a2:o.guard=none)(s x:Operand)
  (ho:o.op =.call {callee:=.builtin .append,args:= #[s,x],argTypes:= #[t,t]})
  (base:Nat) (v:Value) (n g c m:Nat) (us news:List Value) (hs:a.eval s=v) (a1:w.ownsRow base e k v n us) (hx:a.eval x =.slice (some ⟨g,0,none⟩) m c) (hl:news.length=m*k)
  (hg:∀j u,news[j]?=some u->w.cell? ⟨g,j,none⟩=some u) (h1:∀u∈news,u.oneCell'=true)
  (hlen:n+m<=maxLen) (hby:(n+m)*B<=140737488355328) (a0:base<=w.heap.size)
  (h:∀v' w',w'.ownsRow base e k v' (n+m) (us++news)->w.grownBy w' v.ownBlock->(v'.ownBlock=v.ownBlock\/v'.ownBlock=some w.heap.size)->wpList Tryz.prog ops Q rest (a.put o.dst v') w'):wpList Tryz.prog ops Q (o::rest) a w:=
 wpList_plain a2 fun _ hK=>kb E s x ho base v n g c m us news hs a1 hx hl hg h1 hlen hby a0 fun v' w' h2 h3 h4=>hK _ _ (h v' w' h2 h3 h4)
theorem mA {t:TypeId}{k:Nat}(E:cQ t e z k B){ops:Array Oper}{o:Oper}{a:Act}{K:Act->World->Prop}{Q:Exit->Act->World->Prop}{E':Prop}(a2:o.guard=none)(s x:Operand)
  (ho:o.op =.call {callee:=.builtin .append,args:= #[s,x],argTypes:= #[t,t]})
  (base:Nat) (v:Value) (n g c m:Nat) (us news:List Value) (hs:a.eval s=v) (a1:w.ownsRow base e k v n us) (hx:a.eval x =.slice (some ⟨g,0,none⟩) m c) (hl:news.length=m*k)
  (hg:∀j u,news[j]?=some u->w.cell? ⟨g,j,none⟩=some u) (h1:∀u∈news,u.oneCell'=true)
  (hlen:n+m<=maxLen) (hby:(n+m)*B<=140737488355328) (a0:base<=w.heap.size)
  (h:∀v' w',w'.ownsRow base e k v' (n+m) (us++news)->w.grownBy w' v.ownBlock->(v'.ownBlock=v.ownBlock\/v'.ownBlock=some w.heap.size)->K (a.put o.dst v') w') :
  if Region.wanted o (yielded ops a.tmps)=true then Oper.wp Tryz.prog o a w K Q else E':=by
 have hw:Region.wanted o (yielded ops a.tmps)=true:=by simp[Region.wanted,a2]
 rw[if_pos hw];exact kb E s x ho base v n g c m us news hs a1 hx hl hg h1 hlen hby a0 h
theorem kC {t:TypeId}{k:Nat}(E:cQ t e z k B){ops:Array Oper}{rest:List Oper}{o:Oper}{a:Act}{Q:Exit->Act->World->Prop}{s x:Operand}{m:Nat}
  (a1:w.ownsRow base e k v n us) (hg:∀j u,news[j]?=some u->w.cell? ⟨g,j,none⟩=some u) (a0:base<=w.heap.size)
  (h:∀v' w',w'.ownsRow base e k v' (n+m) (us++news)->w.grownBy w' v.ownBlock->(v'.ownBlock=v.ownBlock\/v'.ownBlock=some w.heap.size)->wpList Tryz.prog ops Q rest (a.put o.dst v') w')
  (ho:o.op =.call {callee:=.builtin .append,args:= #[s,x],argTypes:= #[t,t]}:=by exact rfl) (a2:o.guard=none:=by exact rfl) (hs:a.eval s=v:=by exact rfl) (hx:a.eval x =.slice (some ⟨g,0,none⟩) m c:=by exact rfl)
  (hl:news.length=m*k:=by exact rfl) (h1:∀u∈news,u.oneCell'=true:=by simp[Value.oneCell']) (hlen:n+m<=maxLen:=by unfold maxLen;omega) (hby:(n+m)*B<=140737488355328:=by omega):wpList Tryz.prog ops Q (o::rest) a w:=
 dA E a2 s x ho base v n g c m us news hs a1 hx hl hg h1 hlen hby a0 h
theorem BL {t:TypeId}{k:Nat}(E:cQ t e z k B){ops:Array Oper}{o:Oper}{a:Act}{K:Act->World->Prop}{Q:Exit->Act->World->Prop}{E':Prop}{s x:Operand}{m:Nat}
  (a1:w.ownsRow base e k v n us) (hg:∀j u,news[j]?=some u->w.cell? ⟨g,j,none⟩=some u) (a0:base<=w.heap.size)
  (h:∀v' w',w'.ownsRow base e k v' (n+m) (us++news)->w.grownBy w' v.ownBlock->(v'.ownBlock=v.ownBlock\/v'.ownBlock=some w.heap.size)->K (a.put o.dst v') w')
  (ho:o.op =.call {callee:=.builtin .append,args:= #[s,x],argTypes:= #[t,t]}:=by exact rfl) (a2:o.guard=none:=by exact rfl) (hs:a.eval s=v:=by exact rfl) (hx:a.eval x =.slice (some ⟨g,0,none⟩) m c:=by exact rfl)
  (hl:news.length=m*k:=by exact rfl) (h1:∀u∈news,u.oneCell'=true:=by simp[Value.oneCell']) (hlen:n+m<=maxLen:=by unfold maxLen;omega) (hby:(n+m)*B<=140737488355328:=by omega):if Region.wanted o (yielded ops a.tmps)=true then Oper.wp Tryz.prog o a w K Q else E':=
 mA E a2 s x ho base v n g c m us news hs a1 hx hl hg h1 hlen hby a0 h
theorem av (w:World)(cs:List Value)(t:TypeId):∀j u,cs[j]?=some u->(w.alloc (.cells cs.toArray t)).cell? ⟨w.heap.size,j,none⟩=some u:=by
 intro j u hu;have:=Zf w (.cells cs.toArray t);unfold World.cell?;simp only[this];simpa using hu
theorem aJ {k:Nat}(hb:Below base w0 w)(h:w.ownsRow base e k v n us)(hle:base<=w.heap.size)(hg:w.grownBy w' v.ownBlock):Below base w0 w':=
 hb.grown hg hle (fun g e'=>(al h e').1)
def Sl (w:World)(v:Value)(us:List Value):Prop:=us.length<=9223372036854775807/\∃A c,v =.slice A us.length c/\us.length<=c/\(0<us.length->∃g o,A=some ⟨g,o,none⟩/\∀i u,us[i]?=some u->w.cell? ⟨g,o+i,none⟩=some u)
theorem Sl.of_own (h:w.ownsRow base e 1 v n us):Sl w v us:=by
 have hl:us.length=n:=by have:=h.1;omega
 subst hl;obtain⟨A,c,rfl,hc,hm,hA⟩:=af h;refine⟨by unfold maxLen at hm;omega,A,c,rfl,hc,fun h0=>?_⟩;obtain⟨g,rfl⟩:=hA h0;refine⟨g,0,rfl,fun i u hu=>?_⟩;have hi:=(List.getElem?_eq_some_iff.1 hu).1;rw[Nat.zero_add,World.ownsRow.cellAt h i (by omega)];exact hu
theorem Sl.below (h:Sl w v us)(hb:Below w.heap.size w w'):Sl w' v us:=by
 obtain⟨hm,A,c,e,hc,hA⟩:=h;refine⟨hm,A,c,e,hc,fun h0=>?_⟩;obtain⟨g,o,e,a0⟩:=hA h0;exact⟨g,o,e,fun i u hu=>Zg hb (a0 i u hu)⟩
theorem Sl.drewN (h:Sl w v us)(m:Nat):Sl (w.drewN m) v us:=h
