import Derived.Test.YthknekoamnnhhaaGreatDoorGZ5aa
import Derived.Deep.DeepCutAuto
import Derived.StillTailTactics
set_option linter.unusedVariables false
set_option linter.unusedSimpArgs false
set_option maxHeartbeats 64000000
set_option maxRecDepth 100000
namespace Go.Proofs.YthknekoamnnhhaaGreatDoor
open Go.RowKit
variable {cs cur:Array Value}{ns:List ByteArray}{xs ys:List UInt8}{news us:List Value}{B base base' c cap g i m n p:Nat}{P Q:Nat->Prop}{A:Option Addr}{e:TypeId}{T:TypeId->Prop}{u v vk vn z:Value}{w w' w0:World}
theorem rN {z:Nat×Nat}(xs:List UInt8)(hm:xs.length<=c)(h4:xs.length<=4)(hg:w.heap[g]?=some (.cells cur 5 z))(he:cur= (gS xs).toArray):Bs w (.slice (some ⟨g,0,none⟩) xs.length c) xs:=
 qG xs (by omega) hm (by rw[hg,he])
theorem qT (xs:List UInt8)(k i:Nat)(h:i<k):ap (xs.take k) i=ap xs i:=by simp[ap,List.getElem?_take,h]
theorem Bs.upto (h:Bs w (.slice A n c) xs){k:Nat}(hk:k<=xs.length):Bs w (.slice A k c) (xs.take k):=by
 obtain⟨hm,A',c',e,hc,a0⟩:=h;injection e with e1 e2 e3
 subst e1 e3;have hl:(xs.take k).length=k:=by simp;omega
 refine⟨by omega,A,c,by rw[hl],by omega,fun h0=>?_⟩;obtain⟨b,o,e,a1⟩:=a0 (by omega);refine⟨b,o,e,fun i hi=>?_⟩;rw[qT xs k i (by omega)];exact a1 i (by omega)
def JZ (c:Int)(w:World)(e:Ending)(w':World):Prop:=e =.returned (.bool (dO c))/\w=w'
theorem As (c:Int)(w:World):Calls Tryz.prog 202 #[.int .i32 c] w (JZ c w):=by
 have hr:dO c= (decide (0<=c)&&decide (c<=1114111)&& (decide (c<55296)||decide (57343<c))):=by
  unfold dO;rw[Bool.eq_iff_iff];simp <;> omega
 go_enter Tryz.func202,Tryz.ntmps202
 by_cases a1:0<=c
 ·by_cases a2:c<=1114111
  ·by_cases a3:c<55296
   ·have a0:=Qa (show dO c=true by rw[hr];simp[a1,a2,a3]);clear hr;go_wp2;go_ret;exact⟨by rw[a0.out];rfl,rfl⟩
   ·by_cases a4:57343<c
    ·have a0:=Qa (show dO c=true by rw[hr];simp[a1,a2,a3,a4]);clear hr;go_wp2;go_ret;exact⟨by rw[a0.out];rfl,rfl⟩
    ·have a0:=Qa (show dO c=false by rw[hr];simp[a1,a2,a3,a4]);clear hr;go_wp2;go_ret;exact⟨by rw[a0.out];rfl,rfl⟩
  ·have a0:=Qa (show dO c=false by rw[hr];simp[a1,a2]);clear hr;go_wp2;go_ret;exact⟨by rw[a0.out];rfl,rfl⟩
 ·have a0:=Qa (show dO c=false by rw[hr];simp[a1]);clear hr;go_wp2;go_ret;exact⟨by rw[a0.out];rfl,rfl⟩
theorem lY (c:Int)(hc:dO c=true):Calls Tryz.prog 204 #[.int .i32 c] w fun e w'=> ∃v,e =.returned v/\Below w.heap.size w w'/\Bs w' v (bG c):=by
 have a0:=hc;simp only[dO,Bool.and_eq_true,decide_eq_true_eq,Bool.not_eq_true',Bool.and_eq_false_iff,decide_eq_false_iff_not] at a0;have a2:=a0.1.1;have a1:=a0.1.2;clear a0
 by_cases h1:c<128
 ·have e:=Qa (show bG c = [UInt8.ofNat c.toNat] by rw[bG,if_pos hc,if_pos h1]);clear hc;go_enter Tryz.func204,Tryz.ntmps204;go_wp2;go_ret;refine⟨_,rfl,ac _ _,?_⟩;rw[e.out];exact rN [_] (by simp) (by simp) (Ze _ _) (by simp only[gS,bv,List.map];rw[aI _ (by omega)])
 by_cases h2:c<2048
 ·have e:=Qa (show bG c = [UInt8.ofNat (192+c/64).toNat,UInt8.ofNat (128+c % 64).toNat] by rw[bG,if_pos hc,if_neg h1,if_pos h2]);clear hc;go_enter Tryz.func204,Tryz.ntmps204;go_wp2;go_ret;refine⟨_,rfl,ac _ _,?_⟩;rw[e.out];exact rN [_,_] (by simp) (by simp) (Ze _ _) (by simp only[gS,bv,List.map];rw[aI _ (by omega),aI _ (by omega)])
 by_cases h3:c<65536
 ·have e:=Qa (show bG c = [UInt8.ofNat (224+c/4096).toNat,UInt8.ofNat (128+c/64 % 64).toNat,UInt8.ofNat (128+c % 64).toNat] by rw[bG,if_pos hc,if_neg h1,if_neg h2,if_pos h3]);clear hc;go_enter Tryz.func204,Tryz.ntmps204;go_wp2;go_ret;refine⟨_,rfl,ac _ _,?_⟩;rw[e.out];exact rN [_,_,_] (by simp) (by simp) (Ze _ _) (by simp only[gS,bv,List.map];rw[aI _ (by omega),aI _ (by omega),aI _ (by omega)])
 ·have e:=Qa (show bG c = [UInt8.ofNat (240+c/262144).toNat,UInt8.ofNat (128+c/4096 % 64).toNat,UInt8.ofNat (128+c/64 % 64).toNat,UInt8.ofNat (128+c % 64).toNat] by rw[bG,if_pos hc,if_neg h1,if_neg h2,if_neg h3]);clear hc;go_enter Tryz.func204,Tryz.ntmps204;go_wp2;go_ret;refine⟨_,rfl,ac _ _,?_⟩;rw[e.out];exact rN [_,_,_,_] (by simp) (by simp) (Ze _ _) (by simp only[gS,bv,List.map];rw[aI _ (by omega),aI _ (by omega),aI _ (by omega),aI _ (by omega)])
theorem au.form (h:au w base v ys)(h0:0<ys.length) :
  ∃g cap,v =.slice (some ⟨g,0,none⟩) ys.length cap/\base<=g/\g<w.heap.size/\ys.length<=cap/\v.ownBlock=some g:=by
 obtain⟨_,⟨rfl,h1⟩|⟨g,cap,cur,rfl,hb,hg,hn,_⟩⟩:=h
 ·omega
 ·exact⟨g,cap,rfl,hb,ae hg,hn,rfl⟩
theorem au.cellAt (h:au w base (.slice (some ⟨g,0,none⟩) n cap) ys)(hn:ys.length=n)(k:Nat)(hk:k<n) :
  w.cell? ⟨g,k,none⟩=some (.int .u8 (ap ys k))/\w.frozen? ⟨g,k,none⟩=false:=by
 subst hn;exact⟨by rw[World.ownsRow.cellAt h k (by omega)];exact m7 ys k hk,World.ownsRow.frozenAt h k⟩
theorem au.stored (h:au w base (.slice (some ⟨g,0,none⟩) n cap) ys)(hn:ys.length=n)(k:Nat)(u:UInt8) :
  au (w.setCell ⟨g,k,none⟩ (bv u)) base (.slice (some ⟨g,0,none⟩) n cap) (ys.set k u)/\w.grownBy (w.setCell ⟨g,k,none⟩ (bv u)) (some g):=by
 subst hn;have:=World.ownsRow.stored h k (bv u);exact⟨by unfold au;rw[List.length_set,show gS (ys.set k u)= (gS ys).set k (bv u) by simp[gS,List.map_set]];exact this.1,this.2⟩
theorem rp (x:Int)(w:World):Calls Tryz.prog 200 #[.int .u8 x] w fun e w'=>e =.returned (.int .i64 (iK x))/\w=w':=by
 have hR:=Qa (show ∀n,iK x=n->Ending.returned (.int .i64 n) =.returned (.int .i64 (iK x)) from fun n h=>by rw[h]);go_enter Tryz.func200,Tryz.ntmps200
 by_cases h1:x<128
 ·have hr:=Qa (show iK x=1 by simp[iK,h1]);go_wp2;go_ret;exact⟨hR.out _ hr.out,rfl⟩
 by_cases h2:x<192
 ·have hr:=Qa (show iK x=0 by simp[iK,h1,h2]);go_wp2;go_ret;exact⟨hR.out _ hr.out,rfl⟩
 by_cases h3:x<194
 ·have hr:=Qa (show iK x = -1 by unfold iK;rw[if_neg h1,if_neg h2,if_neg (by omega),if_neg (by omega),if_neg (by omega)]);go_wp2;go_ret;exact⟨hR.out _ hr.out,rfl⟩
 by_cases h4:x<=223
 ·have hr:=Qa (show iK x=2 by unfold iK;rw[if_neg h1,if_neg h2,if_pos (by omega)]);go_wp2;go_ret;exact⟨hR.out _ hr.out,rfl⟩
 by_cases h5:x<=239
 ·have hr:=Qa (show iK x=3 by unfold iK;rw[if_neg h1,if_neg h2,if_neg (by omega),if_pos (by omega)]);go_wp2;go_ret;exact⟨hR.out _ hr.out,rfl⟩
 by_cases h6:x<=244
 ·have hr:=Qa (show iK x=4 by unfold iK;rw[if_neg h1,if_neg h2,if_neg (by omega),if_neg (by omega),if_pos (by omega)]);go_wp2;go_ret;exact⟨hR.out _ hr.out,rfl⟩
 ·have hr:=Qa (show iK x = -1 by unfold iK;rw[if_neg h1,if_neg h2,if_neg (by omega),if_neg (by omega),if_neg (by omega)]);go_wp2;go_ret;exact⟨hR.out _ hr.out,rfl⟩
def rE (w:World)(N:Nat->Int)(n:Nat)(s7 s8 s9:Value)(wr:World):Prop:= ∃k:Nat,1<=k/\k<=n/\s7 =.int .i64 (N (k - 1))/\s8 =.int .i64 k/\w=wr
def Jl (r:Int)(w:World)(e:Ending)(w':World):Prop:=e =.returned (.int .i64 r)/\w=w'
theorem kq (hb:Bs w v xs)(h0:0<xs.length)(n:Nat)(h1:1<=n)(h4:n<=4)(fill:Int)(hf:0<=fill/\fill<=63) :
  Calls Tryz.prog 201 #[v,.int .i64 n,.int .i64 fill] w fun e w'=>Jl (gK xs n fill (n - 1)) w e w':=by
 obtain⟨hm,A,cap,rfl,b2,a3⟩:=id hb;obtain⟨b,o,rfl,a9⟩:=a3 h0;have c0:=a9 0 h0;rw[Nat.add_zero] at c0;have b3:=aK xs 0;have H1:=Qa a9;have a5:=Qa (fun k=>Eu xs n hf k);have Hz:=Qa (show gK xs n fill 0=ib (ap xs 0) n from rfl);clear a9 hb a3;go_enter Tryz.func201,Tryz.ntmps201;have Hn:=Qa (show ∀k,1<=k->gK xs n fill k=gK xs n fill (k - 1)*64+gW xs fill k from fun k hk=>by obtain⟨j,rfl⟩:∃j,k=j+1:=⟨k - 1,by omega⟩;rfl);have hn:n=1\/n=2\/n=3\/n=4:=by omega
 rcases hn with hn|hn|hn|hn
 ·have e2:((n:Int)==2)=false:=by rw[hn];rfl
  have e3:((n:Int)==3)=false:=by rw[hn];rfl
  have e4:((n:Int)==4)=false:=by rw[hn];rfl
  have a0:=Hz.out;have a2:ib (ap xs 0) n= (ap xs 0:Int):=by rw[hn];rfl
  generalize hN:gK xs n fill=N at *;have Hz3:=Qa (a0.trans a2);clear a0 a2 hN Hz;go_wp2_with fail
  go_loopw [7,8,9] (rE w N n) (fun _ i _ _=>4 - (intOf i).toNat)
  case atStart=>exact⟨1,by omega,by omega,congrArg _ Hz3.out.symm,rfl,rfl⟩
  case round=>
   obtain⟨k,a6,a7,rfl,rfl,rfl⟩:=hrel
   by_cases hlt:k<n
   ·exfalso;omega
   ·obtain a4:k=n:=by omega
    subst a4;go_wp2;go_ret;exact⟨rfl,rfl⟩
 ·have e2:((n:Int)==2)=true:=by rw[hn];rfl
  have e3:((n:Int)==3)=false:=by rw[hn];rfl
  have e4:((n:Int)==4)=false:=by rw[hn];rfl
  have a0:=Hz.out;have a2:ib (ap xs 0) n= (ap xs 0:Int) - 192:=by rw[hn];rfl
  generalize hN:gK xs n fill=N at *;have Hz3:=Qa (a0.trans a2);clear a0 a2 hN Hz;go_wp2_with fail
  go_loopw [7,8,9] (rE w N n) (fun _ i _ _=>4 - (intOf i).toNat)
  case atStart=>exact⟨1,by omega,by omega,congrArg _ Hz3.out.symm,rfl,rfl⟩
  case round=>
   obtain⟨k,a6,a7,rfl,rfl,rfl⟩:=hrel
   by_cases hlt:k<n
   ·have b0:=a5.out (k - 1) (by omega);have a1:=a5.out k (by omega);have hs:=Qa (Hn.out k a6);rw[hs.out] at a1;generalize N (k - 1)=z at *
    by_cases hin:k<xs.length
    ·have c1:=H1.out k hin;have hd:gW xs fill k=ap xs k - 128:=by unfold gW;rw[if_pos hin]
     have b1:=aK xs k;rw[hd] at a1 hs;clear hd;go_wp2_with fail;exact⟨⟨k+1,by omega,by omega,by rw[show k+1 - 1=k by omega,hs.out],by go_num,rfl⟩,by simp[intOf];omega⟩
    ·have hd:gW xs fill k=fill:=by unfold gW;rw[if_neg hin]
     rw[hd] at a1 hs;clear hd;go_wp2_with fail;exact⟨⟨k+1,by omega,by omega,by rw[show k+1 - 1=k by omega,hs.out],by go_num,rfl⟩,by simp[intOf];omega⟩
   ·obtain a4:k=n:=by omega
    subst a4;go_wp2;go_ret;exact⟨rfl,rfl⟩
 ·have e2:((n:Int)==2)=false:=by rw[hn];rfl
  have e3:((n:Int)==3)=true:=by rw[hn];rfl
  have e4:((n:Int)==4)=false:=by rw[hn];rfl
  have a0:=Hz.out;have a2:ib (ap xs 0) n= (ap xs 0:Int) - 224:=by rw[hn];rfl
  generalize hN:gK xs n fill=N at *;have Hz3:=Qa (a0.trans a2);clear a0 a2 hN Hz;go_wp2_with fail
  go_loopw [7,8,9] (rE w N n) (fun _ i _ _=>4 - (intOf i).toNat)
  case atStart=>exact⟨1,by omega,by omega,congrArg _ Hz3.out.symm,rfl,rfl⟩
  case round=>
   obtain⟨k,a6,a7,rfl,rfl,rfl⟩:=hrel
   by_cases hlt:k<n
   ·have b0:=a5.out (k - 1) (by omega);have a1:=a5.out k (by omega);have hs:=Qa (Hn.out k a6);rw[hs.out] at a1;generalize N (k - 1)=z at *
    by_cases hin:k<xs.length
    ·have c1:=H1.out k hin;have hd:gW xs fill k=ap xs k - 128:=by unfold gW;rw[if_pos hin]
     have b1:=aK xs k;rw[hd] at a1 hs;clear hd;go_wp2_with fail;exact⟨⟨k+1,by omega,by omega,by rw[show k+1 - 1=k by omega,hs.out],by go_num,rfl⟩,by simp[intOf];omega⟩
    ·have hd:gW xs fill k=fill:=by unfold gW;rw[if_neg hin]
     rw[hd] at a1 hs;clear hd;go_wp2_with fail;exact⟨⟨k+1,by omega,by omega,by rw[show k+1 - 1=k by omega,hs.out],by go_num,rfl⟩,by simp[intOf];omega⟩
   ·obtain a4:k=n:=by omega
    subst a4;go_wp2;go_ret;exact⟨rfl,rfl⟩
 ·have e2:((n:Int)==2)=false:=by rw[hn];rfl
  have e3:((n:Int)==3)=false:=by rw[hn];rfl
  have e4:((n:Int)==4)=true:=by rw[hn];rfl
  have a0:=Hz.out;have a2:ib (ap xs 0) n= (ap xs 0:Int) - 240:=by rw[hn];rfl
  generalize hN:gK xs n fill=N at *;have Hz3:=Qa (a0.trans a2);clear a0 a2 hN Hz;go_wp2_with fail
  go_loopw [7,8,9] (rE w N n) (fun _ i _ _=>4 - (intOf i).toNat)
  case atStart=>exact⟨1,by omega,by omega,congrArg _ Hz3.out.symm,rfl,rfl⟩
  case round=>
   obtain⟨k,a6,a7,rfl,rfl,rfl⟩:=hrel
   by_cases hlt:k<n
   ·have b0:=a5.out (k - 1) (by omega);have a1:=a5.out k (by omega);have hs:=Qa (Hn.out k a6);rw[hs.out] at a1;generalize N (k - 1)=z at *
    by_cases hin:k<xs.length
    ·have c1:=H1.out k hin;have hd:gW xs fill k=ap xs k - 128:=by unfold gW;rw[if_pos hin]
     have b1:=aK xs k;rw[hd] at a1 hs;clear hd;go_wp2_with fail;exact⟨⟨k+1,by omega,by omega,by rw[show k+1 - 1=k by omega,hs.out],by go_num,rfl⟩,by simp[intOf];omega⟩
    ·have hd:gW xs fill k=fill:=by unfold gW;rw[if_neg hin]
     rw[hd] at a1 hs;clear hd;go_wp2_with fail;exact⟨⟨k+1,by omega,by omega,by rw[show k+1 - 1=k by omega,hs.out],by go_num,rfl⟩,by simp[intOf];omega⟩
   ·obtain a4:k=n:=by omega
    subst a4;go_wp2;go_ret;exact⟨rfl,rfl⟩
def ED (xs ys:List UInt8)(w:World)(e:Ending)(w':World):Prop:=e =.returned (.bool (xs.take ys.length==ys))/\∃m,w'=w.drewN m
theorem wV (hb:Bs w v xs)(hc:Bs w u ys):Calls Tryz.prog 203 #[v,u] w (ED xs ys w):=by
 obtain⟨hm,A,cap,rfl,a2,-⟩:=id hb;obtain⟨a3,B,cap2,rfl,a0,-⟩:=id hc
 by_cases hl:ys.length<=xs.length
 ·have a1:ys.length<=cap:=by omega
  have q1:∀n,(convert 22 9 (.slice A ys.length cap)).run Tryz.prog (w.drewN n) =.ok (.string ⟨(xs.take ys.length).toArray⟩) (w.drewN n):=fun n=>aW ((hb.upto hl).drewN n)
  have q2:=fun n=>aW (hc.drewN n)
  clear hb hc;go_enter Tryz.func203,Tryz.ntmps203;go_wp2_with fail;go_quiet (fail);go_wp2;go_ret;exact⟨rfl,_,rfl⟩
 ·have hne:=Qa (show(xs.take ys.length==ys)=false from beq_eq_false_iff_ne.2 (fun h=>by have:=congrArg List.length h;rw[List.length_take] at this;omega));clear hb hc;go_enter Tryz.func203,Tryz.ntmps203;go_wp2;go_ret;exact⟨by rw[hne.out];rfl,0,rfl⟩
def EM (w:World)(e:Ending)(w':World):Prop:=(∃b,e =.returned (.bool b))/\Below w.heap.size w w'
def Gg (w:World)(len:Nat)(s5:Value)(wr:World):Prop:= ∃k:Nat,1<=k/\k<=len/\s5 =.int .i64 k/\w=wr
theorem EO (hb:Bs w v xs)(h0:0<xs.length)(n:Nat)(h4:n<=4)(hl:xs.length<n) :
  Calls Tryz.prog 205 #[v,.int .i64 n] w (EM w):=by
 obtain⟨hm,A,cap,rfl,a2,a0⟩:=id hb;obtain⟨b,o,rfl,a1⟩:=a0 h0;have H1:=Qa a1;have Hb:=Qa hb;clear a1 hb a0;go_enter Tryz.func205,Tryz.ntmps205;go_wp2_with fail
 go_loopw [5] (Gg w xs.length) (fun i _=>xs.length - (intOf i).toNat)
 case atStart=>exact⟨1,by omega,by omega,rfl,rfl⟩
 case round=>
  obtain⟨k,a5,a4,rfl,rfl⟩:=hrel
  by_cases hlt:k<xs.length
  ·have c1:=H1.out k hlt;have a6:=aK xs k
   by_cases t1:ap xs k<128
   ·have t1':((ap xs k:Nat):Int)<128:=by omega
    go_wp2_with fail;go_ret;exact⟨⟨_,rfl⟩,Zd _ _⟩
   ·have t1':¬ ((ap xs k:Nat):Int)<128:=by omega
    by_cases t2:ap xs k<=191
    ·have t2':((ap xs k:Nat):Int)<=191:=by omega
     go_wp2_with fail;exact⟨⟨k+1,by omega,by omega,by go_num,rfl⟩,by simp[intOf];omega⟩
    ·have t2':¬ ((ap xs k:Nat):Int)<=191:=by omega
     go_wp2_with fail;go_ret;exact⟨⟨_,rfl⟩,Zd _ _⟩
  ·obtain a3:k=xs.length:=by omega
   subst a3;have hn:n=2\/n=3\/n=4:=by omega
   go_wp2_with fail;refine(kq Hb.out h0 n (by omega) h4 0 (by omega)).mono ?_;rintro e w' ⟨rfl,rfl⟩;go_wp2_with fail;refine(kq Hb.out h0 n (by omega) h4 63 (by omega)).mono ?_;rintro e w' ⟨rfl,rfl⟩;generalize gK xs n 0 (n - 1)=x;generalize gK xs n 63 (n - 1)=y;rcases hn with rfl|rfl|rfl
   all_goals
    go_wp2_with fail
    all_goals
     go_ret;exact⟨⟨_,rfl⟩,((Zd _ _).alloc (Za _) _).alloc (by simp) _⟩
def JM (r:Nat×Nat×Nat)(w:World)(e:Ending)(w':World):Prop:=(∃code:Int,e =.returned (.tuple #[.int .i32 r.1,.int .i64 r.2.1,.int .i64 code])/\(code=0↔r.2.2=0))/\Below w.heap.size w w'
def Fd (w:World)(xs:List UInt8)(n:Nat)(s6 s7:Value)(wr:World):Prop:= ∃k:Nat,1<=k/\k<=n/\s6 =.bool (fu xs (k - 1))/\s7 =.int .i64 k/\w=wr
theorem oJ (hb:Bs w v xs):Calls Tryz.prog 167 #[v] w (JM (bF xs) w):=by
 obtain⟨hm,A,cap,rfl,c6,a1⟩:=id hb;have a2:=Qa a1;have Hb:=Qa hb;clear a1 hb
 by_cases h0:xs.length=0
 ·obtain rfl:xs = []:=List.eq_nil_of_length_eq_zero h0;go_enter Tryz.func167,Tryz.ntmps167;go_wp2;go_ret3;exact⟨⟨103,rfl,by simp[bF]⟩,Zd _ _⟩
 have d2:(((xs.length:Nat):Int)==0)=false:=beq_eq_false_iff_ne.2 (by omega);obtain⟨b,o,rfl,b0⟩:=a2.out (by omega);have c0:=b0 0 (by omega);rw[Nat.add_zero] at c0;have hx:=aK xs 0;have b9:=Qa b0;clear b0 a2;have a6:=fw (ap xs 0) hx;have Hq:=Qa (E7 (ap xs 0) hx);go_enter Tryz.func167,Tryz.ntmps167;go_wp2_with fail;refine(rp _ _).mono ?_;rintro e w' ⟨rfl,rfl⟩;rw[Hq.out]
 by_cases hc1:bl (ap xs 0)<1
 ·have hd:=Qa (C7 (by omega) hc1);go_wp2;go_ret3;exact⟨⟨101,by rw[hd.out];rfl,by rw[hd.out];simp⟩,Zd _ _⟩
 obtain⟨n,hn,d1,b6⟩:∃n:Nat,bl (ap xs 0)=n/\1<=n/\n<=4:=by
  rcases a6 with h|h|h|h|h
  ·omega
  ·exact⟨1,h,by omega,by omega⟩
  ·exact⟨2,h,by omega,by omega⟩
  ·exact⟨3,h,by omega,by omega⟩
  ·exact⟨4,h,by omega,by omega⟩
 rw[hn];have a3:=Qa (fun h=>D2 (xs:=xs) h);have a7:=Qa (fun (c:Int) hr hb=>FB (xs:=xs) hn (c:=c) hr hb);have Hn:=Qa hn;clear a6 hc1 hn
 by_cases hlen:n<=xs.length
 ·go_wp2_with fail
  go_loopw [6,7] (Fd w xs n) (fun _ i _=>n - (intOf i).toNat)
  case atStart=>exact⟨1,by omega,by omega,rfl,rfl,rfl⟩
  case round=>
   obtain⟨k,c8,c9,rfl,rfl,rfl⟩:=hrel
   by_cases hlt:k<n
   ·have c1:=b9.out k (by omega);have d0:=aK xs k;have hg:=Qa (show fu xs k= (fu xs (k - 1)&& (decide (128<=ap xs k)&&decide (ap xs k<=191))) from by obtain⟨j,rfl⟩:∃j,k=j+1:=⟨k - 1,by omega⟩;rfl)
    cases hgk:fu xs (k - 1)
    ·have a4:=Qa (show fu xs k=false by rw[hg.out,hgk];rfl);clear hgk;go_wp2_with fail;exact⟨⟨k+1,by omega,by omega,by rw[show k+1 - 1=k by omega,a4.out],by go_num,rfl⟩,by simp[intOf];omega⟩
    ·by_cases t1:128<=ap xs k
     ·have t1':128<=((ap xs k:Nat):Int):=by omega
      by_cases t2:ap xs k<=191
      ·have t2':((ap xs k:Nat):Int)<=191:=by omega
       have a4:=Qa (show fu xs k=true by rw[hg.out,hgk];simp[t1,t2]);clear hgk;go_wp2_with fail;exact⟨⟨k+1,by omega,by omega,by rw[show k+1 - 1=k by omega,a4.out],by go_num,rfl⟩,by simp[intOf];omega⟩
      ·have t2':¬ ((ap xs k:Nat):Int)<=191:=by omega
       have a4:=Qa (show fu xs k=false by rw[hg.out,hgk];simp[t2]);clear hgk;go_wp2_with fail;exact⟨⟨k+1,by omega,by omega,by rw[show k+1 - 1=k by omega,a4.out],by go_num,rfl⟩,by simp[intOf];omega⟩
     ·have t1':¬128<=((ap xs k:Nat):Int):=by omega
      have a4:=Qa (show fu xs k=false by rw[hg.out,hgk];simp[t1]);clear hgk;go_wp2_with fail;exact⟨⟨k+1,by omega,by omega,by rw[show k+1 - 1=k by omega,a4.out],by go_num,rfl⟩,by simp[intOf];omega⟩
   ·obtain c7:k=n:=by omega
    subst c7;go_wp2_with fail;refine(kq Hb.out (by omega) k c8 b6 0 (by omega)).mono ?_;rintro e w' ⟨rfl,rfl⟩;have b5:(bF xs).2.2=0->fu xs (k - 1)=true/\wrap32 (gK xs k 0 (k - 1))= (bF xs).1/\dO (bF xs).1=true/\xs.take (bG (bF xs).1).length=bG (bF xs).1:=fun h=>by
     obtain⟨m,c2,c5,hm,b4,hnum,hr,a9⟩:=a3.out h;obtain rfl:m=k:=by have:=Hn.out;omega
     refine⟨b4,?_,hr,a9⟩;rw[hnum];exact Bf (by have:=em hr;omega) (by have:=Ci hr;omega)
    have b7:=Qa b5;clear b5;obtain⟨c,hc⟩:∃c,wrap32 (gK xs k 0 (k - 1))=c:=⟨_,rfl⟩;go_upto_region 13 with fail
    rw[hc] at b7 ⊢;clear hc;have a5:fu xs (k - 1)=false\/dO c=false\/(xs.take (bG c).length==bG c)=false->(bF xs).2.2≠0:=fun h e=>by
     obtain⟨h1,h2,h3,h4⟩:=b7.out e;subst h2;rcases h with h|h|h
     ·rw[h1] at h;cases h
     ·rw[h3] at h;cases h
     ·rw[h4] at h;simp at h
    have b1:=Qa a5;clear a5
    cases hgk:fu xs (k - 1)
    ·have a0:=Qa (b1.out (.inl hgk));clear hgk;go_wp2;go_ret3;exact⟨⟨101,by rw[gH a0.out];rfl,by rw[gH a0.out];simp[a0.out]⟩,Zd _ _⟩
    ·clear hgk;go_wp2_with fail;refine(As c w).mono ?_;rintro e w' ⟨rfl,rfl⟩
     cases hr:dO c
     ·have a0:=Qa (b1.out (.inr (.inl hr)));clear hr;go_wp2;go_ret3;exact⟨⟨101,by rw[gH a0.out];rfl,by rw[gH a0.out];simp[a0.out]⟩,Zd _ _⟩
     ·have Hr:=Qa hr;clear hr;go_wp2_with fail;refine(lY c Hr.out).mono ?_;rintro e w1 ⟨vf,rfl,b3,b8⟩;have b2:=Qa b3;have c3:=Qa b8;clear b3 b8;go_wp2_with fail;refine(wV (Hb.out.below b2.out) c3.out).mono ?_;rintro e w' ⟨rfl,m,rfl⟩
      cases ht:(xs.take (bG c).length==bG c)
      ·have a0:=Qa (b1.out (.inr (.inr ht)));clear ht;go_wp2;go_ret3;exact⟨⟨101,by rw[gH a0.out];rfl,by rw[gH a0.out];simp[a0.out]⟩,az b2.out m⟩
      ·have hd:=Qa (a7.out c Hr.out (by simpa using ht));have hcn:=Qa (show((c.toNat:Nat):Int)=c by have:=em Hr.out;omega);clear ht;go_wp2;go_ret3;exact⟨⟨0,by rw[hd.out,hcn.out];rfl,by rw[hd.out];simp⟩,az b2.out m⟩
 ·have a5:Hid ((bF xs).2.2≠0):=Qa (fun h=>by
   obtain⟨m,c2,c5,hm,b4,hnum,hr,a9⟩:=a3.out h;obtain rfl:m=n:=by have:=Hn.out;omega
   have hd:=a7.out _ hr a9;have:=lG xs;rw[hd] at this;simp at this;omega)
  go_wp2_with fail;refine(EO Hb.out (by omega) n b6 (by omega)).mono ?_;rintro e w' ⟨⟨bb,rfl⟩,c4⟩
  cases bb
  all_goals
   go_wp2;go_ret3;exact⟨⟨_,by rw[gH a5.out];rfl,by rw[gH a5.out];simp[a5.out]⟩,c4⟩
structure Dc where
 neg:Bool
 digits:ByteArray
 exp:Int
deriving DecidableEq
structure Nd where
 kind:Int
 tr:Bool
 text:ByteArray
 num:Dc
 names:List ByteArray
 kids:List Nat
deriving DecidableEq
inductive JV where
 |mk (kind:Int) (tr:Bool) (text:ByteArray) (num:Dc) (names:List ByteArray) (kids:List JV)
theorem JV.ind {P:JV->Prop}(h:∀k t x n ns ks,(∀u∈ks,P u)->P (.mk k t x n ns ks))(v:JV):P v:=
 JV.rec (motive_1:=P) (motive_2:=fun l=> ∀u∈l,P u) (fun k t x n ns ks ih=>h k t x n ns ks ih) (fun u hu=>by cases hu)
  (fun v vs h1 h2 u hu=>by rcases List.mem_cons.1 hu with rfl|hu;exact h1;exact h2 u hu) v
def JV.kids:JV->List JV | .mk _ _ _ _ _ ks=>ks
mutual
def JV.size:JV->Nat
 | .mk _ _ _ _ _ ks=>1+JV.sizes ks
def JV.sizes:List JV->Nat
 | []=>0
 |v::vs=>JV.size v+JV.sizes vs
end
def aV:Nat->List JV->List Nat
 |_, []=> []
 |p,v::vs=>p::aV (p+v.size) vs
mutual
def JV.flat:Nat->JV->List Nd
 |p,.mk k t x n ns ks=>⟨k,t,x,n,ns,aV (p+1) ks⟩::JV.flats (p+1) ks
def JV.flats:Nat->List JV->List Nd
 |_, []=> []
 |p,v::vs=>JV.flat p v++JV.flats (p+v.size) vs
end
theorem JV.size_pos (v:JV):1<=v.size:=by cases v;simp[JV.size]
theorem kQ {l:List JV}(h:∀u∈l,∀p,(JV.flat p u).length=u.size):∀p,(JV.flats p l).length=JV.sizes l:=by
 induction l with
 |nil=>intro p;simp[JV.flats,JV.sizes]
 |cons v vs ih=>
  intro p;simp only[JV.flats,JV.sizes,List.length_append];rw[h v (by simp),ih (fun u hu=>h u (Zl _ hu))]
theorem JV.flat_len (v:JV):∀p,(JV.flat p v).length=v.size:=by
 refine JV.ind (P:=fun v=> ∀p,(JV.flat p v).length=v.size) (fun k t x n ns ks ih p=>?_) v;simp only[JV.flat,JV.size,List.length_cons];rw[kQ ih];omega
theorem JV.flats_len (l:List JV)(p:Nat):(JV.flats p l).length=JV.sizes l:=kQ (fun u _=>JV.flat_len u) p
theorem bh:∀ (l:List JV) (p:Nat),(aV p l).length=l.length
 | [],_=>rfl
 |v::vs,p=>by simp[aV,bh vs]
theorem cY (a b:List JV):JV.sizes (a++b)=JV.sizes a+JV.sizes b:=by
 induction a with
 |nil=>simp[JV.sizes]
 |cons v vs ih=>simp[JV.sizes,ih];omega
theorem dh (a b:List JV)(p:Nat):aV p (a++b)=aV p a++aV (p+JV.sizes a) b:=by
 induction a generalizing p with
 |nil=>simp[aV,JV.sizes]
 |cons v vs ih=>simp[aV,JV.sizes,ih,Nat.add_assoc]
theorem fy (a b:List JV)(p:Nat):JV.flats p (a++b)=JV.flats p a++JV.flats (p+JV.sizes a) b:=by
 induction a generalizing p with
 |nil=>simp[JV.flats,JV.sizes]
 |cons v vs ih=>simp[JV.flats,JV.sizes,ih,Nat.add_assoc]
def Nd.shift (d:Nat)(x:Nd):Nd:={x with kids:=x.kids.map (· + d)}
theorem kG:∀ (l:List JV) (p d:Nat),aV (p+d) l= (aV p l).map (· + d)
 | [],_,_=>rfl
 |v::vs,p,d=>by
  simp only[aV,List.map_cons];rw[show p+d+v.size= (p+v.size)+d by omega,kG vs]
theorem nL {l:List JV}(h:∀u∈l,∀p d,JV.flat (p+d) u= (JV.flat p u).map (Nd.shift d)) :
  ∀p d,JV.flats (p+d) l= (JV.flats p l).map (Nd.shift d):=by
 induction l with
 |nil=>intro p d;simp[JV.flats]
 |cons v vs ih=>
  intro p d;simp only[JV.flats,List.map_append];rw[h v (by simp),show p+d+v.size= (p+v.size)+d by omega,ih (fun u hu=>h u (Zl _ hu))]
theorem JV.flat_shift (v:JV):∀p d,JV.flat (p+d) v= (JV.flat p v).map (Nd.shift d):=by
 refine JV.ind (P:=fun v=> ∀p d,JV.flat (p+d) v= (JV.flat p v).map (Nd.shift d)) (fun k t x n ns ks ih p d=>?_) v;simp only[JV.flat,List.map_cons,Nd.shift];rw[show p+d+1= (p+1)+d by omega,nL ih,kG]
inductive dm:JV->Nat->Nat->JV->Prop
 |here (v:JV) (p:Nat):dm v p p v
 |down {k:Int} {t:Bool} {x:ByteArray} {n:Dc} {ns:List ByteArray} {pre post:List JV} {u:JV} {p a:Nat} {w:JV} (h:dm u (p+1+JV.sizes pre) a w):dm (.mk k t x n ns (pre++u::post)) p a w
theorem AM {l:List JV}(h:∀u∈l,∀p a,p<=a->a<p+u.size->∃w,dm u p a w) :
  ∀ (p a:Nat),p<=a->a<p+JV.sizes l->∃pre u post w,l=pre++u::post/\dm u (p+JV.sizes pre) a w:=by
 induction l with
 |nil=>intro p a h1 h2;simp[JV.sizes] at h2;omega
 |cons v vs ih=>
  intro p a h1 h2;simp only[JV.sizes] at h2
  by_cases hlt:a<p+v.size
  ·obtain⟨w,hw⟩:=h v (by simp) p a h1 hlt;exact⟨[],v,vs,w,rfl,by simpa [JV.sizes] using hw⟩
  ·obtain⟨pre,u,post,w,rfl,hw⟩:=ih (fun u hu=>h u (Zl _ hu)) (p+v.size) a (by omega) (by omega);exact⟨v::pre,u,post,w,rfl,by simpa [JV.sizes,Nat.add_assoc] using hw⟩
theorem yY (v:JV):∀p a,p<=a->a<p+v.size->∃w,dm v p a w:=by
 refine JV.ind (P:=fun v=> ∀p a,p<=a->a<p+v.size->∃w,dm v p a w) (fun k t x n ns ks ih p a h1 h2=>?_) v;simp only[JV.size] at h2
 by_cases he:p=a
 ·subst he;exact⟨_,dm.here _ _⟩
 ·obtain⟨pre,u,post,w,rfl,hw⟩:=AM ih (p+1) a (by omega) (by omega);exact⟨w,dm.down hw⟩
theorem dm.flat {v:JV}{a:Nat}{w:JV}(h:dm v p a w):∃A B,JV.flat p v=A++JV.flat a w++B/\p+A.length=a:=by
 induction h with
 |here v p=>exact⟨[], [],by simp,by simp⟩
 | @down k t x n ns pre post u p a w h ih=>
  obtain⟨A,B,he,hl⟩:=ih;refine⟨⟨k,t,x,n,ns,aV (p+1) (pre++u::post)⟩:: (JV.flats (p+1) pre++A),B++JV.flats (p+1+JV.sizes pre+u.size) post,?_,?_⟩
  ·simp only[JV.flat,fy,JV.flats,he];simp
  ·simp[JV.flats_len];omega
theorem dm.bd {v:JV}{a:Nat}{w:JV}(h:dm v p a w):p<=a/\a+w.size<=p+v.size:=by
 obtain⟨A,B,he,hl⟩:=h.flat;have:=congrArg List.length he;simp[JV.flat_len] at this;omega
theorem dm.kid {v:JV}{a:Nat}{k:Int}{t:Bool}{x:ByteArray}{n:Dc}{pre post:List JV}{u:JV}(h:dm v p a (.mk k t x n ns (pre++u::post))):dm v p (a+1+JV.sizes pre) u:=by
 generalize hw:JV.mk k t x n ns (pre++u::post)=w at h
 induction h with
 |here v p=>subst hw;exact dm.down (dm.here _ _)
 |down h ih=>exact dm.down (ih hw)
theorem dm.node {v:JV}{a:Nat}{k:Int}{t:Bool}{x:ByteArray}{n:Dc}{ks:List JV}(h:dm v p a (.mk k t x n ns ks)):(JV.flat p v)[a - p]?=some ⟨k,t,x,n,ns,aV (a+1) ks⟩:=by
 obtain⟨A,B,he,hl⟩:=h.flat;rw[he,List.append_assoc,List.getElem?_append_right (by omega),show a - p - A.length=0 by omega];simp[JV.flat]
theorem cf {α:Type}{l:List α}{a:α}(h:l[i]?=some a):l.take (i+1)=l.take i ++ [a]:=by rw[List.take_add_one,h];rfl
theorem ww {l:List JV}{v:JV}(h:l[i]?=some v)(p:Nat):aV p (l.take (i+1))=aV p (l.take i) ++ [p+JV.sizes (l.take i)]:=by
 rw[cf h,dh];simp[aV]
theorem xi {l:List JV}{v:JV}(h:l[i]?=some v)(p:Nat):JV.flats p (l.take (i+1))=JV.flats p (l.take i)++ (v.flat 0).map (Nd.shift (p+JV.sizes (l.take i))):=by
 rw[cf h,fy,show JV.flats (p+JV.sizes (l.take i)) [v]=v.flat (p+JV.sizes (l.take i)) by simp[JV.flats]];have:=v.flat_shift 0 (p+JV.sizes (l.take i));rw[Nat.zero_add] at this;rw[this]
theorem pc {l:List JV}(i:Nat):JV.sizes (l.take i)<=JV.sizes l:=by
 have h:=cY (l.take i) (l.drop i);rw[List.take_append_drop] at h;omega
theorem kh {l:List JV}{v:JV}(h:l[i]?=some v):JV.sizes (l.take i)+v.size<=JV.sizes l:=by
 have h1:=pc (l:=l) (i+1);rw[cf h,cY] at h1;simpa [JV.sizes] using h1
theorem bP:∀l:List JV,l.length<=JV.sizes l
 | []=>Za _
 |v::vs=>by have:=bP vs;have:=v.size_pos;simp[JV.sizes];omega
theorem m6 {v:JV}{x:Nd}(h:x∈v.flat 0):x.kids.length<=v.size:=by
 suffices ∀p,∀x∈v.flat p,x.kids.length<=v.size from this 0 x h
 clear h;refine JV.ind (P:=fun v=> ∀p,∀x∈v.flat p,x.kids.length<=v.size) (fun k t x n ns ks ih p y hy=>?_) v;simp only[JV.flat,List.mem_cons] at hy;rcases hy with rfl|hy
 ·simp[bh,JV.size];have:=bP ks;omega
 ·suffices ∀ (l:List JV) p,(∀u∈l,∀p,∀x∈u.flat p,x.kids.length<=u.size)->y∈JV.flats p l->y.kids.length<=JV.sizes l by
   have:=this ks _ ih hy;simp[JV.size];omega
  intro l
  induction l with
  |nil=>intro p _ h;simp[JV.flats] at h
  |cons v vs ih2=>
   intro p hu h;simp only[JV.flats,List.mem_append] at h;simp only[JV.sizes];rcases h with h|h
   ·have:=hu v (by simp) p y h;omega
   ·have:=ih2 (p+v.size) (fun u hm=>hu u (Zl _ hm)) h;omega
def Nd.mv (f:Nat->Nat)(x:Nd):Nd:={x with kids:=x.kids.map f}
theorem jD:∀ (l:List JV) (P Q:Nat) (f:Nat->Nat),(∀q,P<=q->q<P+JV.sizes l->f q=q - P+Q)->(aV P l).map f=aV Q l
 | [],_,_,_,_=>rfl
 |v::vs,P,Q,f,h=>by
  have hp:=v.size_pos;simp only[JV.sizes] at h;simp only[aV,List.map_cons];rw[h P (by omega) (by omega),jD vs (P+v.size) (Q+v.size) f (fun q h1 h2=>by rw[h q (by omega) (by omega)];omega)];simp
theorem mi {l:List JV}(ih:∀u∈l,∀P Q f,(∀q,P<=q->q<P+u.size->f q=q - P+Q)->(JV.flat P u).map (Nd.mv f)=JV.flat Q u) :
  ∀ (P Q:Nat) (f:Nat->Nat),(∀q,P<=q->q<P+JV.sizes l->f q=q - P+Q)->(JV.flats P l).map (Nd.mv f)=JV.flats Q l:=by
 induction l with
 |nil=>intro P Q f _;simp[JV.flats]
 |cons v vs ih2=>
  intro P Q f h;simp only[JV.sizes] at h;simp only[JV.flats,List.map_append];rw[ih v (by simp) P Q f (fun q h1 h2=>h q h1 (by omega)),ih2 (fun u hu=>ih u (Zl _ hu)) (P+v.size) (Q+v.size) f (fun q h1 h2=>by rw[h q (by omega) (by omega)];omega)]
theorem zA (v:JV):∀ (P Q:Nat) (f:Nat->Nat),(∀q,P<=q->q<P+v.size->f q=q - P+Q)->(JV.flat P v).map (Nd.mv f)=JV.flat Q v:=by
 refine JV.ind (P:=fun v=> ∀ (P Q:Nat) (f:Nat->Nat),(∀q,P<=q->q<P+v.size->f q=q - P+Q)->(JV.flat P v).map (Nd.mv f)=JV.flat Q v) (fun k t x n ns ks ih P Q f h=>?_) v;simp only[JV.size] at h;simp only[JV.flat,List.map_cons,Nd.mv];rw[jD ks (P+1) (Q+1) f (fun q h1 h2=>by rw[h q (by omega) (by omega)];omega)];rw[show(JV.flats (P+1) ks).map (Nd.mv f)=JV.flats (Q+1) ks from mi ih (P+1) (Q+1) f (fun q h1 h2=>by rw[h q (by omega) (by omega)];omega)]
theorem wG (l:List JV)(P Q:Nat)(f:Nat->Nat)(h:∀q,P<=q->q<P+JV.sizes l->f q=q - P+Q):(JV.flats P l).map (Nd.mv f)=JV.flats Q l:=mi (fun u _=>zA u) P Q f h
def mP (e ws us k:Nat):Nat:=if e<=k then k - ws+us else k
inductive ul (u:JV):JV->Nat->Nat->JV->JV->Prop
 |here (v:JV) (p:Nat):ul u v p p v u
 |down {k:Int} {t:Bool} {x:ByteArray} {n:Dc} {ns:List ByteArray} {pre post:List JV} {u0 u1:JV} {p a:Nat} {w:JV} (h:ul u u0 (p+1+JV.sizes pre) a w u1):ul u (.mk k t x n ns (pre++u0::post)) p a w (.mk k t x n ns (pre++u1::post))
theorem ul.of_sits {v:JV}{a:Nat}{w:JV}(h:dm v p a w)(u:JV):∃v',ul u v p a w v':=by
 induction h with
 |here v p=>exact⟨u,.here v p⟩
 |down h ih=>obtain⟨v',h'⟩:=ih;exact⟨_,.down h'⟩
theorem ul.sits {u v:JV}{a:Nat}{w v':JV}(h:ul u v p a w v'):dm v p a w:=by
 induction h with
 |here v p=>exact .here v p
 |down _ ih=>exact .down ih
theorem ul.size {u v:JV}{a:Nat}{w v':JV}(h:ul u v p a w v'):v'.size+w.size=v.size+u.size:=by
 induction h with
 |here v p=>omega
 | @down k t x n ns pre post u0 u1 p a w h ih=>simp only[JV.size,cY,JV.sizes];omega
theorem ul.flat {u v:JV}{a:Nat}{w v':JV}(h:ul u v p a w v'):∃A B,v.flat p=A++w.flat a++B/\p+A.length=a/\v'.flat p=A.map (Nd.mv (mP (a+w.size) w.size u.size))++u.flat a++B.map (Nd.mv (mP (a+w.size) w.size u.size)):=by
 induction h with
 |here v p=>exact⟨[], [],by simp,by simp,by simp⟩
 | @down k t x n ns pre post u0 u1 p a w h ih=>
  obtain⟨A,B,h1,h2,h3⟩:=ih;have a1:=h.sits.bd;have hsz:=h.size;have a0:∀q,q<a+w.size->mP (a+w.size) w.size u.size q=q:=fun q hq=>by unfold mP;rw[if_neg (by omega)]
  have hw:=w.size_pos;refine⟨⟨k,t,x,n,ns,aV (p+1) (pre++u0::post)⟩:: (JV.flats (p+1) pre++A),B++JV.flats (p+1+JV.sizes pre+u0.size) post,?_,?_,?_⟩
  ·simp only[JV.flat,fy,JV.flats,h1];simp
  ·simp[JV.flats_len];omega
  ·have e1:(aV (p+1) (pre++u0::post)).map (mP (a+w.size) w.size u.size)=aV (p+1) (pre++u1::post):=by
    rw[dh,dh,List.map_append];rw[jD pre (p+1) (p+1) _ (fun q g1 g2=>by rw[a0 q (by omega)];omega)];simp only[aV,List.map_cons];rw[a0 _ (by omega),jD post (p+1+JV.sizes pre+u0.size) (p+1+JV.sizes pre+u1.size) _ (fun q g1 g2=>by unfold mP;rw[if_pos (by omega)];omega)]
   have e2:(JV.flats (p+1) pre).map (Nd.mv (mP (a+w.size) w.size u.size))=JV.flats (p+1) pre:=wG pre (p+1) (p+1) _ (fun q g1 g2=>by rw[a0 q (by omega)];omega);have e3:(JV.flats (p+1+JV.sizes pre+u0.size) post).map (Nd.mv (mP (a+w.size) w.size u.size))=JV.flats (p+1+JV.sizes pre+u1.size) post:=wG post _ _ _ (fun q g1 g2=>by unfold mP;rw[if_pos (by omega)];omega);simp only[JV.flat,fy,JV.flats,h3,List.map_cons,List.map_append,e2,e3];simp only[Nd.mv,e1];simp
section
variable {w w':World}{base:Nat}{e:TypeId}{k n:Nat}{v:Value}{xs:List Value}
theorem aq (h:w.ownsRow base e k v n xs)(hb:Below B w w')(hB:w.heap.size<=B):w'.ownsRow base e k v n xs:=by
 obtain⟨h1,⟨rfl,h0⟩|⟨g,cap,cur,rfl,a0,hg,r⟩⟩:=h
 ·exact⟨h1,.inl ⟨rfl,h0⟩⟩
 ·exact⟨h1,.inr ⟨g,cap,cur,rfl,a0,(hb.block g (Nat.lt_of_lt_of_le (ae hg) hB)).trans hg,r⟩⟩
theorem bV (h:w.ownsRow base e k v n xs)(hb:base'<=base):w.ownsRow base' e k v n xs:=by
 obtain⟨h1,⟨rfl,h0⟩|⟨g,cap,cur,rfl,a0,r⟩⟩:=h
 ·exact⟨h1,.inl ⟨rfl,h0⟩⟩
 ·exact⟨h1,.inr ⟨g,cap,cur,rfl,Zb hb a0,r⟩⟩
def mw (w:World)(g:Nat)(e:TypeId):Prop:= ∃cs z,w.heap[g]?=some (.cells cs e z)
def aJ (T:TypeId->Prop)(w w':World):Prop:=w.heap.size<=w'.heap.size/\∀ (g:Nat) (cs:Array Value) (e:TypeId) (z:Nat×Nat),w.heap[g]?=some (.cells cs e z)->¬T e->w'.heap[g]?=some (.cells cs e z)
theorem aJ.refl (T:TypeId->Prop)(w:World):aJ T w w:=⟨Za _,fun _ _ _ _ h _=>h⟩
theorem aJ.trans {a b c:World}(h:aJ T a b)(k:aJ T b c):aJ T a c:=⟨Zb h.1 k.1,fun g cs e z hg ht=>k.2 g cs e z (h.2 g cs e z hg ht) ht⟩
theorem aJ.of_below (T:TypeId->Prop)(h:Below w.heap.size w w'):aJ T w w':=⟨h.size,fun g cs e z hg _=>(h.block g (ae hg)).trans hg⟩
theorem aJ.of_grown {row:Option Nat}(hg:w.grownBy w' row)(ht:∀ (g:Nat),row=some g->∀ (cs:Array Value) (e:TypeId) (z:Nat×Nat),w.heap[g]?=some (.cells cs e z)->T e):aJ T w w':=
 ⟨hg.size,fun g cs e z h hn=>(hg.block g (ae h) (fun eq=>hn (ht g eq.symm cs e z h))).trans h⟩
theorem aJ.setCell {p:Addr}(u:Value)(ht:∀ (cs:Array Value) (e:TypeId) (z:Nat×Nat),w.heap[p.block]?=some (.cells cs e z)->T e):aJ T w (w.setCell p u):=
 ⟨by simp,fun g cs e z h hn=>(Below.heap_setCell w p u g (by rintro rfl;exact hn (ht cs e z h))).trans h⟩
theorem aJ.drewN (T:TypeId->Prop)(m:Nat):aJ T w (w.drewN m):=⟨Za _,fun _ _ _ _ h _=>h⟩
theorem ao (h:w.ownsRow base e k v n xs)(hk:aJ T w w')(he:¬T e):w'.ownsRow base e k v n xs:=by
 obtain⟨h1,⟨rfl,h0⟩|⟨g,cap,cur,rfl,a0,hg,r⟩⟩:=h
 ·exact⟨h1,.inl ⟨rfl,h0⟩⟩
 ·exact⟨h1,.inr ⟨g,cap,cur,rfl,a0,hk.2 g cur e _ hg he,r⟩⟩
theorem al (h:w.ownsRow base e k v n xs)(hv:v.ownBlock=some g):base<=g/\∃cur,w.heap[g]?=some (.cells cur e (0,0)):=by
 obtain⟨h1,⟨rfl,h0⟩|⟨g',cap,cur,rfl,a0,hg,r⟩⟩:=h
 ·simp[Value.ownBlock] at hv
 ·simp[Value.ownBlock] at hv;subst hv;exact⟨a0,cur,hg⟩
theorem bU (h:w.ownsRow base e k v n xs):(v =.slice none 0 0/\n=0/\xs = [])\/∃g cap,v =.slice (some ⟨g,0,none⟩) n cap/\base<=g/\n<=cap/\n<=maxLen:=by
 obtain⟨h1,⟨rfl,h0⟩|⟨g,cap,cur,rfl,a0,hg,h2,h3,r⟩⟩:=h
 ·subst h0;exact .inl ⟨rfl,rfl,List.eq_nil_of_length_eq_zero (by omega)⟩
 ·exact .inr ⟨g,cap,rfl,a0,h2,Zb h2 h3⟩
theorem ah (h:w.ownsRow base e k v n xs):∃A cap,v =.slice A n cap/\n<=cap/\n<=maxLen/\(0<n->∃g,A=some ⟨g,0,none⟩):=by
 rcases bU h with ⟨rfl,rfl,_⟩|⟨g,cap,rfl,_,h1,h2⟩
 ·exact⟨none,0,rfl,Za _,Zj _,fun h=>by omega⟩
 ·exact⟨_,cap,rfl,h1,h2,fun _=>⟨g,rfl⟩⟩
theorem aA (h:w.ownsRow base e k (.slice A n cap) n xs)(hA:A=some ⟨g,0,none⟩)(j:Nat)(hj:j<n*k):w.cell? ⟨g,j,none⟩=xs[j]?:=by
 subst hA;exact World.ownsRow.cellAt h j hj
end
def dR (s:ByteArray):Value:=.string s
def cI (k:Nat):Value:=.int .i64 k
def cJ (w:World)(base:Nat)(v:Value)(l:List ByteArray):Prop:=w.ownsRow base 9 1 v l.length (l.map dR)
def bK (w:World)(base:Nat)(v:Value)(l:List Nat):Prop:=w.ownsRow base 3 1 v l.length (l.map cI)
def aB (x:Nd)(vn vk:Value):List Value:= [.int .i64 x.kind,.bool x.tr,.string x.text,.bool x.num.neg,.string x.num.digits,.int .i64 x.num.exp,vn,vk]
def ic (w:World)(u:List Value)(x:Nd):Prop:= ∃vn vk,u=aB x vn vk/\cJ w 0 vn x.names/\bK w 0 vk x.kids
def bB {α β:Type}(R:α->β->Prop)(l:List α)(m:List β):Prop:=l.length=m.length/\∀ (i:Nat) (a:α) (b:β),l[i]?=some a->m[i]?=some b->R a b
theorem bB.mono {α β:Type}{R S:α->β->Prop}{l:List α}{m:List β}(h:bB R l m)(hs:∀a b,R a b->S a b):bB S l m:=⟨h.1,fun i a b h1 h2=>hs _ _ (h.2 i a b h1 h2)⟩
theorem bB.nil {α β:Type}(R:α->β->Prop):bB R [] []:=⟨rfl,fun i a b h=>by simp at h⟩
theorem bB.snoc {α β:Type}{R:α->β->Prop}{l:List α}{m:List β}{a:α}{b:β}(h:bB R l m)(hr:R a b):bB R (l ++ [a]) (m ++ [b]):=by
 refine⟨by simp[h.1],fun i x y h1 h2=>?_⟩;have hl:=h.1
 by_cases hi:i<l.length
 ·rw[List.getElem?_append_left hi] at h1;rw[List.getElem?_append_left (by omega)] at h2;exact h.2 i x y h1 h2
 ·rw[List.getElem?_append_right (by omega)] at h1 h2;rw[hl] at h1;have hz:i - m.length=0:=by have:=(List.getElem?_eq_some_iff.1 h1).1;simp at this;omega
  rw[hz] at h1 h2;simp at h1 h2;subst h1 h2;exact hr
theorem bB.get {α β:Type}{R:α->β->Prop}{l:List α}{m:List β}(h:bB R l m){b:β}(hb:m[i]?=some b):∃a,l[i]?=some a/\R a b:=by
 have hi:=(List.getElem?_eq_some_iff.1 hb).1;rw[<-h.1] at hi;exact⟨_,Zc hi,h.2 i _ _ (Zc hi) hb⟩
theorem bB.cons {α β:Type}{R:α->β->Prop}{l:List α}{m:List β}{a:α}{b:β}(hr:R a b)(h:bB R l m):bB R (a::l) (b::m):=by
 refine⟨by simp[h.1],fun i x y h1 h2=>?_⟩
 cases i with
 |zero=>simp at h1 h2;subst h1 h2;exact hr
 |succ i=>simp at h1 h2;exact h.2 i x y h1 h2
def dI (w:World)(base:Nat)(v:Value)(ns:List Nd):Prop:= ∃us:List (List Value),w.ownsRow base 78 8 v ns.length us.flatten/\bB (ic w) us ns
theorem wh {us:List (List Value)}{k:Nat}(h:∀u∈us,u.length=k):∀i j,j<k->us.flatten[i*k+j]?=us[i]?.bind (·[j]?):=by
 induction us with
 |nil=>intro i j hj;simp
 |cons a l ih=>
  intro i j hj;have ha:=h a (by simp);have hl:=ih (fun u hu=>h u (Zl _ hu))
  cases i with
  |zero=>simp[List.getElem?_append_left (show j<a.length by omega)]
  |succ i=>
   rw[List.flatten_cons,List.getElem?_append_right (by rw[ha,Nat.succ_mul];omega),ha,show(i+1)*k+j - k=i*k+j by rw[Nat.succ_mul];omega,hl i j hj];simp
theorem ic.len {u:List Value}{x:Nd}(h:ic w u x):u.length=8:=by obtain⟨_,_,rfl,_⟩:=h;rfl
theorem bB.lens {us:List (List Value)}{ns:List Nd}(h:bB (ic w) us ns):∀u∈us,u.length=8:=by
 intro u hu;obtain⟨i,hi,rfl⟩:=List.getElem_of_mem hu;have a0:i<ns.length:=by rw[<-h.1];exact hi
 exact(h.2 i us[i] ns[i] (Zc hi) (Zc a0)).len
section
variable {w w':World}{base:Nat}{v:Value}
theorem cJ.below {l:List ByteArray}(h:cJ w base v l)(hb:Below B w w')(hB:w.heap.size<=B):cJ w' base v l:=aq h hb hB
theorem bK.below {l:List Nat}(h:bK w base v l)(hb:Below B w w')(hB:w.heap.size<=B):bK w' base v l:=aq h hb hB
theorem cJ.low {l:List ByteArray}{b:Nat}(h:cJ w base v l)(hb:b<=base):cJ w b v l:=bV h hb
theorem bK.low {l:List Nat}{b:Nat}(h:bK w base v l)(hb:b<=base):bK w b v l:=bV h hb
theorem ic.below {u:List Value}{x:Nd}(h:ic w u x)(hb:Below B w w')(hB:w.heap.size<=B):ic w' u x:=by
 obtain⟨vn,vk,rfl,h1,h2⟩:=h;exact⟨vn,vk,rfl,h1.below hb hB,h2.below hb hB⟩
theorem ic.keeps {u:List Value}{x:Nd}(h:ic w u x)(hk:aJ T w w')(h1:¬T 9)(h2:¬T 3):ic w' u x:=by
 obtain⟨vn,vk,rfl,h3,h4⟩:=h;exact⟨vn,vk,rfl,ao h3 hk h1,ao h4 hk h2⟩
theorem dI.below {ns:List Nd}(h:dI w base v ns)(hb:Below B w w')(hB:w.heap.size<=B):dI w' base v ns:=by
 obtain⟨us,h1,h2⟩:=h;exact⟨us,aq h1 hb hB,h2.mono fun _ _ h=>h.below hb hB⟩
theorem dI.keeps {ns:List Nd}(h:dI w base v ns)(hk:aJ T w w')(h1:¬T 9)(h2:¬T 3)(h3:¬T 78):dI w' base v ns:=by
 obtain⟨us,h4,h5⟩:=h;exact⟨us,ao h4 hk h3,h5.mono fun _ _ h=>h.keeps hk h1 h2⟩
theorem dI.low {ns:List Nd}{b:Nat}(h:dI w base v ns)(hb:b<=base):dI w b v ns:=by
 obtain⟨us,h1,h2⟩:=h;exact⟨us,bV h1 hb,h2⟩
theorem dI.form {ns:List Nd}(h:dI w base v ns):∃A cap,v =.slice A ns.length cap/\ns.length<=cap/\ns.length<=maxLen/\(0<ns.length->∃g,A=some ⟨g,0,none⟩):=by
 obtain⟨us,h1,_⟩:=h;exact ah h1
theorem dI.node {ns:List Nd}{x:Nd}(h:dI w base (.slice (some ⟨g,0,none⟩) n cap) ns)(hx:ns[i]?=some x) :
  ∃vn vk,cJ w 0 vn x.names/\bK w 0 vk x.kids/\∀j u,(aB x vn vk)[j]?=some u->w.cell? ⟨g,i*8+j,none⟩=some u:=by
 obtain⟨us,h1,h2⟩:=h;have hi:=(List.getElem?_eq_some_iff.1 hx).1;obtain⟨a,ha,vn,vk,rfl,h3,h4⟩:=h2.get hx;refine⟨vn,vk,h3,h4,fun j u hu=>?_⟩;have hj:j<8:=by have:=(List.getElem?_eq_some_iff.1 hu).1;simpa [aB] using this
 have hn:n=ns.length:=by
  rcases bU h1 with ⟨e,_⟩|⟨_,_,e,_⟩
  ·cases e
  ·injection e
 subst hn;rw[World.ownsRow.cellAt h1 (i*8+j) (by omega),wh h2.lens i j hj,ha];exact hu
end
def nw (P:Nat->Prop)(us:List (List Value)):Prop:= ∀u∈us,∀g,(u.getD 6 undef).ownBlock=some g->P g
def bu (P:Nat->Prop)(w:World)(base:Nat)(v:Value)(ns:List Nd):Prop:= ∃us:List (List Value),w.ownsRow base 78 8 v ns.length us.flatten/\bB (ic w) us ns/\nw P us
theorem bu.flat {ns:List Nd}(h:bu P w base v ns):dI w base v ns:=by obtain⟨us,h1,h2,_⟩:=h;exact⟨us,h1,h2⟩
theorem bu.form {ns:List Nd}(h:bu P w base v ns):∃A cap,v =.slice A ns.length cap/\ns.length<=cap/\ns.length<=maxLen/\(0<ns.length->∃g,A=some ⟨g,0,none⟩):=h.flat.form
theorem bu.low {b:Nat}{ns:List Nd}(h:bu P w base v ns)(hb:b<=base):bu P w b v ns:=by obtain⟨us,h1,h2,h3⟩:=h;exact⟨us,bV h1 hb,h2,h3⟩
theorem bu.imp {ns:List Nd}(h:bu P w base v ns)(hq:∀g,P g->g<w.heap.size->Q g):bu Q w base v ns:=by
 obtain⟨us,h1,h2,h3⟩:=h;refine⟨us,h1,h2,fun u hu g e=>hq g (h3 u hu g e) ?_⟩;obtain⟨i,hi,rfl⟩:=List.getElem_of_mem hu;obtain⟨vn,vk,he,hs,_⟩:=h2.2 i us[i] (ns[i]'(by rw[<-h2.1];exact hi)) (Zc hi) (Zc _);rw[he] at e;obtain⟨_,cur,hh⟩:=al hs (by simpa [aB] using e);exact ae hh
theorem bu.below {ns:List Nd}(h:bu P w base v ns)(hb:Below B w w')(hB:w.heap.size<=B):bu P w' base v ns:=by
 obtain⟨us,h1,h2,h3⟩:=h;exact⟨us,aq h1 hb hB,h2.mono fun _ _ h=>h.below hb hB,h3⟩
theorem bu.keeps {ns:List Nd}(h:bu P w base v ns)(hk:aJ T w w')(h1:¬T 9)(h2:¬T 3)(h3:¬T 78):bu P w' base v ns:=by
 obtain⟨us,h4,h5,h6⟩:=h;exact⟨us,ao h4 hk h3,h5.mono fun _ _ h=>h.keeps hk h1 h2,h6⟩
theorem bu.grownStr {ns:List Nd}{row:Option Nat}(h:bu P w base v ns)(hg:w.grownBy w' row)(ht:∀g,row=some g->mw w g 9)(hP:∀g,P g->row≠some g):bu P w' base v ns:=by
 obtain⟨us,h1,h2,h3⟩:=h;have hk:aJ (fun e=>e=9) w w':=aJ.of_grown hg (fun g e cs t z hh=>by obtain⟨cs',z',h'⟩:=ht g e;rw[h'] at hh;injection hh with hh;injection hh with _ hh;exact hh.symm);refine⟨us,ao h1 hk (by decide),⟨h2.1,fun i u x hu hx=>?_⟩,h3⟩;obtain⟨vn,vk,he,hs,hkk⟩:=h2.2 i u x hu hx;refine⟨vn,vk,he,World.ownsRow.kept hs hg ?_,ao hkk hk (by decide)⟩
 cases hb:vn.ownBlock with
 |none=>exact .inl rfl
 |some g=>exact .inr (fun e=>hP g (h3 u (Zk hu) g (by rw[he];simpa [aB] using hb)) e.symm)
theorem dI.nil (w:World)(base:Nat):dI w base (.slice none 0 0) []:=⟨[],⟨rfl,.inl ⟨rfl,rfl⟩⟩,bB.nil _⟩
theorem cJ.nil (w:World)(base:Nat):cJ w base (.slice none 0 0) []:=⟨rfl,.inl ⟨rfl,rfl⟩⟩
theorem bK.nil (w:World)(base:Nat):bK w base (.slice none 0 0) []:=⟨rfl,.inl ⟨rfl,rfl⟩⟩
structure dE (t e:TypeId) (z:Value) (k B:Nat):Prop where
 ht:Tryz.prog.underlying t=some (.slice e)
 hi:(Tryz.prog.info? e).map (fun i=>(i.zero,i.size,i.bytes))=some (some z,k,B)
 hz:z.cells.size=k
 h0:0<k
theorem zy:dE 76 9 (.string ByteArray.empty) 1 16:=⟨Tryz.underlying76,by kernel_rfl,rfl,by decide⟩
theorem eU:dE 23 3 (.int .i64 0) 1 8:=⟨Tryz.underlying23,by kernel_rfl,rfl,by decide⟩
theorem sf:dE 28 78 (.agg #[.int .i64 0,.bool false,.string ByteArray.empty,.bool false,.string ByteArray.empty,.int .i64 0,.slice none 0 0,.slice none 0 0]) 8 112:=⟨Tryz.underlying28,by kernel_rfl,rfl,by decide⟩
theorem oR {t:TypeId}{k:Nat}(E:dE t e z k B)(n:Nat)(hn:n<=maxLen)(hB:B*n<=281474976710656):∃cur:Array Value,cur.size=n*k/\
  ∀W:World,(Instr.makeSlice t (.int .i64 0) (.int .i64 (n:Int))).run Tryz.prog W =.ok (.slice (some ⟨W.heap.size,0,none⟩) 0 n) (W.alloc (.cells cur e)):=by
 obtain⟨i0,hi,a2,a0,a1⟩:=info_parts E.hi;have a3:n<=9223372036854775807:=by unfold maxLen at hn;omega
 refine⟨madeCells z.cells (n*k),by simp[madeCells],fun W=>?_⟩;have:=run_make (P:=Tryz.prog) W t e i0 z E.ht hi a2 .i64 .i64 0 n (by omega) (by omega) (by rw[a1];omega) (by omega);rw[a0] at this;simpa using this
theorem dM {k:Nat}(hg:w.heap[g]?=some (.cells cur e (0,0)))(hb:base<=g)(hc:cap<=maxLen)(hs:cur.size=cap*k):w.ownsRow base e k (.slice (some ⟨g,0,none⟩) 0 cap) 0 []:=
 ⟨by rw[Nat.zero_mul];rfl,.inr ⟨g,cap,cur,rfl,hb,hg,Zj _,hc,hs,by rw[Nat.zero_mul];rfl⟩⟩
theorem fc {k:Nat}(hg:w.heap[g]?=some (.cells cur e (0,0)))(hb:base<=g)(hc:n<=maxLen)(hs:cur.size=n*k):w.ownsRow base e k (.slice (some ⟨g,0,none⟩) n n) n cur.toList:=
 ⟨by rw[Array.length_toList,hs],.inr ⟨g,n,cur,rfl,hb,hg,Za _,hc,hs,List.take_of_length_le (by rw[Array.length_toList,hs];exact Za _)⟩⟩
theorem mo {t:TypeId}{k:Nat}(E:dE t e z k B){o:Oper}{a:Act}{K:Act->World->Prop}{Q:Exit->Act->World->Prop}(s x:Operand)
  (ho:o.op =.call {callee:=.builtin .append,args:= #[s,x],argTypes:= #[t,t]})
  (base:Nat) (v:Value) (n g c m:Nat) (us news:List Value) (hs:a.eval s=v) (a1:w.ownsRow base e k v n us) (hx:a.eval x =.slice (some ⟨g,0,none⟩) m c) (hl:news.length=m*k)
  (hg:∀j u,news[j]?=some u->w.cell? ⟨g,j,none⟩=some u) (h1:∀u∈news,u.oneCell'=true)
  (hlen:n+m<=maxLen) (hby:(n+m)*B<=140737488355328) (a0:base<=w.heap.size)
  (h:∀v' w',w'.ownsRow base e k v' (n+m) (us++news)->w.grownBy w' v.ownBlock->(v'.ownBlock=v.ownBlock\/v'.ownBlock=some w.heap.size)->K (a.put o.dst v') w'):o.wp Tryz.prog a w K Q:=by
 obtain⟨i0,hi,a5,a4,a3⟩:=info_parts E.hi;obtain⟨v',w',a2,h2,h3,_,h5⟩:=run_append_own_at (P:=Tryz.prog) w base t o.type e i0 z k B E.ht hi a5 a4 a3 E.hz E.h0 v n us a1 ⟨g,0,none⟩ m c news
  hl (fun j y hy=>by
   have:=hg j y hy;unfold Addr.add
   split
   ·rename_i h0;subst h0;exact this
   ·simpa using this) h1 hlen hby a0
 unfold Oper.wp execOp;simp only[ho,resolve,invoke,builtin,Sem.run_bind,Sem.run_pure,Result.andThen_ok,List.map_toArray,List.map_cons,List.map_nil,hs,hx,a2];exact h v' w' h2 h3 h5
theorem dc {t:TypeId}{k:Nat}(E:dE t e z k B){ops:Array Oper}{rest:List Oper}{o:Oper}{a:Act}{Q:Exit->Act->World->Prop}(a2:o.guard=none)(s x:Operand)
  (ho:o.op =.call {callee:=.builtin .append,args:= #[s,x],argTypes:= #[t,t]})
  (base:Nat) (v:Value) (n g c m:Nat) (us news:List Value) (hs:a.eval s=v) (a1:w.ownsRow base e k v n us) (hx:a.eval x =.slice (some ⟨g,0,none⟩) m c) (hl:news.length=m*k)
  (hg:∀j u,news[j]?=some u->w.cell? ⟨g,j,none⟩=some u) (h1:∀u∈news,u.oneCell'=true)
  (hlen:n+m<=maxLen) (hby:(n+m)*B<=140737488355328) (a0:base<=w.heap.size)
  (h:∀v' w',w'.ownsRow base e k v' (n+m) (us++news)->w.grownBy w' v.ownBlock->(v'.ownBlock=v.ownBlock\/v'.ownBlock=some w.heap.size)->wpList Tryz.prog ops Q rest (a.put o.dst v') w'):wpList Tryz.prog ops Q (o::rest) a w:=
 wpList_plain a2 fun _ hK=>mo E s x ho base v n g c m us news hs a1 hx hl hg h1 hlen hby a0 fun v' w' h2 h3 h4=>hK _ _ (h v' w' h2 h3 h4)
theorem pB {t:TypeId}{k:Nat}(E:dE t e z k B){ops:Array Oper}{o:Oper}{a:Act}{K:Act->World->Prop}{Q:Exit->Act->World->Prop}{E':Prop}(a2:o.guard=none)(s x:Operand)
  (ho:o.op =.call {callee:=.builtin .append,args:= #[s,x],argTypes:= #[t,t]})
  (base:Nat) (v:Value) (n g c m:Nat) (us news:List Value) (hs:a.eval s=v) (a1:w.ownsRow base e k v n us) (hx:a.eval x =.slice (some ⟨g,0,none⟩) m c) (hl:news.length=m*k)
  (hg:∀j u,news[j]?=some u->w.cell? ⟨g,j,none⟩=some u) (h1:∀u∈news,u.oneCell'=true)
  (hlen:n+m<=maxLen) (hby:(n+m)*B<=140737488355328) (a0:base<=w.heap.size)
  (h:∀v' w',w'.ownsRow base e k v' (n+m) (us++news)->w.grownBy w' v.ownBlock->(v'.ownBlock=v.ownBlock\/v'.ownBlock=some w.heap.size)->K (a.put o.dst v') w') :
  if Region.wanted o (yielded ops a.tmps)=true then Oper.wp Tryz.prog o a w K Q else E':=by
 have hw:Region.wanted o (yielded ops a.tmps)=true:=by simp[Region.wanted,a2]
 rw[if_pos hw];exact mo E s x ho base v n g c m us news hs a1 hx hl hg h1 hlen hby a0 h
theorem ju {t:TypeId}{k:Nat}(E:dE t e z k B){ops:Array Oper}{rest:List Oper}{o:Oper}{a:Act}{Q:Exit->Act->World->Prop}{s x:Operand}
  (a1:w.ownsRow base e k v n us) (hg:∀j u,news[j]?=some u->w.cell? ⟨g,j,none⟩=some u) (a0:base<=w.heap.size)
  (h:∀v' w',w'.ownsRow base e k v' (n+m) (us++news)->w.grownBy w' v.ownBlock->(v'.ownBlock=v.ownBlock\/v'.ownBlock=some w.heap.size)->wpList Tryz.prog ops Q rest (a.put o.dst v') w')
  (ho:o.op =.call {callee:=.builtin .append,args:= #[s,x],argTypes:= #[t,t]}:=by exact rfl) (a2:o.guard=none:=by exact rfl) (hs:a.eval s=v:=by exact rfl) (hx:a.eval x =.slice (some ⟨g,0,none⟩) m c:=by exact rfl)
  (hl:news.length=m*k:=by exact rfl) (h1:∀u∈news,u.oneCell'=true:=by simp[Value.oneCell']) (hlen:n+m<=maxLen:=by unfold maxLen;omega) (hby:(n+m)*B<=140737488355328:=by omega):wpList Tryz.prog ops Q (o::rest) a w:=
 dc E a2 s x ho base v n g c m us news hs a1 hx hl hg h1 hlen hby a0 h
theorem xh {t:TypeId}{k:Nat}(E:dE t e z k B){ops:Array Oper}{o:Oper}{a:Act}{K:Act->World->Prop}{Q:Exit->Act->World->Prop}{E':Prop}{s x:Operand}
  (a1:w.ownsRow base e k v n us) (hg:∀j u,news[j]?=some u->w.cell? ⟨g,j,none⟩=some u) (a0:base<=w.heap.size)
  (h:∀v' w',w'.ownsRow base e k v' (n+m) (us++news)->w.grownBy w' v.ownBlock->(v'.ownBlock=v.ownBlock\/v'.ownBlock=some w.heap.size)->K (a.put o.dst v') w')
  (ho:o.op =.call {callee:=.builtin .append,args:= #[s,x],argTypes:= #[t,t]}:=by exact rfl) (a2:o.guard=none:=by exact rfl) (hs:a.eval s=v:=by exact rfl) (hx:a.eval x =.slice (some ⟨g,0,none⟩) m c:=by exact rfl)
  (hl:news.length=m*k:=by exact rfl) (h1:∀u∈news,u.oneCell'=true:=by simp[Value.oneCell']) (hlen:n+m<=maxLen:=by unfold maxLen;omega) (hby:(n+m)*B<=140737488355328:=by omega):if Region.wanted o (yielded ops a.tmps)=true then Oper.wp Tryz.prog o a w K Q else E':=
 pB E a2 s x ho base v n g c m us news hs a1 hx hl hg h1 hlen hby a0 h
theorem ar (w:World)(cs:List Value)(t:TypeId):∀j u,cs[j]?=some u->(w.alloc (.cells cs.toArray t)).cell? ⟨w.heap.size,j,none⟩=some u:=by
 intro j u hu;have:=Ze w (.cells cs.toArray t);unfold World.cell?;simp only[this];simpa using hu
theorem aL {k:Nat}(hb:Below base w0 w)(h:w.ownsRow base e k v n us)(hle:base<=w.heap.size)(hg:w.grownBy w' v.ownBlock):Below base w0 w':=
 hb.grown hg hle (fun g e'=>(al h e').1)
def Sl (w:World)(v:Value)(us:List Value):Prop:=us.length<=9223372036854775807/\∃A c,v =.slice A us.length c/\us.length<=c/\(0<us.length->∃g o,A=some ⟨g,o,none⟩/\∀i u,us[i]?=some u->w.cell? ⟨g,o+i,none⟩=some u)
theorem Sl.of_own (h:w.ownsRow base e 1 v n us):Sl w v us:=by
 have hl:us.length=n:=by have:=h.1;omega
 subst hl;obtain⟨A,c,rfl,hc,hm,hA⟩:=ah h;refine⟨by unfold maxLen at hm;omega,A,c,rfl,hc,fun h0=>?_⟩;obtain⟨g,rfl⟩:=hA h0;refine⟨g,0,rfl,fun i u hu=>?_⟩;have hi:=(List.getElem?_eq_some_iff.1 hu).1;rw[Nat.zero_add,World.ownsRow.cellAt h i (by omega)];exact hu
theorem Sl.below (h:Sl w v us)(hb:Below w.heap.size w w'):Sl w' v us:=by
 obtain⟨hm,A,c,e,hc,hA⟩:=h;refine⟨hm,A,c,e,hc,fun h0=>?_⟩;obtain⟨g,o,e,a0⟩:=hA h0;exact⟨g,o,e,fun i u hu=>Zf hb (a0 i u hu)⟩
theorem Sl.drewN (h:Sl w v us)(m:Nat):Sl (w.drewN m) v us:=h
def GJ (w:World)(l:List ByteArray)(e:Ending)(w':World):Prop:= ∃v',e =.returned v'/\Below w.heap.size w w'/\cJ w' w.heap.size v' l
def Cs (w0:World)(l:List ByteArray)(s3 s4:Value)(wr:World):Prop:= ∃k:Nat,k<=l.length/\s4 =.int .i64 k/\Below w0.heap.size w0 wr/\cJ wr w0.heap.size s3 (l.take k)
theorem lE {l:List ByteArray}(hv:Sl w v (l.map dR))(hl:l.length<=1000000):Calls Tryz.prog 154 #[v] w (GJ w l):=by
 obtain⟨hm,A,cap,rfl,hc,hA⟩:=id hv;rw[List.length_map] at hm hc hA ⊢;obtain⟨cur,a0,a7⟩:=oR zy l.length (by unfold maxLen;omega) (by omega);have HA:=Qa hA;have a2:=Qa a0;clear hv hA a0;go_enter Tryz.func154,Tryz.ntmps154;go_wp2_with fail
 go_loopw [3,4] (Cs w l) (fun _ i _=>l.length - (intOf i).toNat)
 case atStart=>
  exact⟨0,by omega,rfl,ac _ _,by rw[List.take_zero];exact dM (Ze _ _) (Za _) (by unfold maxLen;omega) a2.out⟩
 case round=>
  obtain⟨k,hk,rfl,hb,ho⟩:=hrel;have Hb:=Qa hb;have Ho:=Qa ho;have hsz:=hb.size;clear hb ho
  by_cases hlt:k<l.length
  ·obtain⟨g,o,rfl,a6⟩:=HA.out (by omega);obtain⟨s,hs⟩:∃s,l[k]?=some s:=⟨_,Zc hlt⟩;have a1:=Zf Hb.out (a6 k (dR s) (by rw[List.getElem?_map,hs];rfl));unfold dR at a1;have Hs:=Qa (show l.take (k+1)=l.take k ++ [s] by rw[List.take_add_one,hs];rfl);have a4:(l.take k).length=k:=by rw[List.length_take];omega
   have a3:=Qa a4;clear hs a4 a6;go_wp2_with (at_builtin;refine ju zy (by have:=Ho.out.below (ac wr (.cells #[.string s] 9)) (Za _);unfold cJ at this;rw[a3.out] at this;exact this) (ar wr [dR s] 9) (by simp;omega) ?_ (h1:=(by simp[dR,Value.oneCell']));intro v' w1 h1 h2 h3;have Hp:=Qa h1;have Hg:=Qa h2;clear h1 h2 h3);have a5:Below w.heap.size w (wr.alloc (.cells #[.string s] 9)):=Hb.out.alloc hsz _;exact⟨⟨k+1,by omega,by go_num,aL a5 (Ho.out.below (ac wr (.cells #[.string s] 9)) (Za _)) a5.size Hg.out,by rw[Hs.out];unfold cJ;rw[List.length_append,a3.out,List.map_append];exact Hp.out⟩,by simp[intOf];omega⟩
  ·obtain rfl:k=l.length:=by omega
   go_wp2;go_ret;exact⟨_,rfl,Hb.out,by have:=Ho.out;rwa[List.take_length] at this⟩
def Io (w:World)(l:List Nat)(e:Ending)(w':World):Prop:= ∃v',e =.returned v'/\Below w.heap.size w w'/\bK w' w.heap.size v' l
def E8 (w0:World)(l:List Nat)(s3 s4:Value)(wr:World):Prop:= ∃k:Nat,k<=l.length/\s4 =.int .i64 k/\Below w0.heap.size w0 wr/\bK wr w0.heap.size s3 (l.take k)
theorem uW {l:List Nat}(hv:Sl w v (l.map cI))(hl:l.length<=1000000):Calls Tryz.prog 226 #[v] w (Io w l):=by
 obtain⟨hm,A,cap,rfl,hc,hA⟩:=id hv;rw[List.length_map] at hm hc hA ⊢;obtain⟨cur,a0,a7⟩:=oR eU l.length (by unfold maxLen;omega) (by omega);have HA:=Qa hA;have a2:=Qa a0;clear hv hA a0;go_enter Tryz.func226,Tryz.ntmps226;go_wp2_with fail
 go_loopw [3,4] (E8 w l) (fun _ i _=>l.length - (intOf i).toNat)
 case atStart=>
  exact⟨0,by omega,rfl,ac _ _,by rw[List.take_zero];exact dM (Ze _ _) (Za _) (by unfold maxLen;omega) a2.out⟩
 case round=>
  obtain⟨k,hk,rfl,hb,ho⟩:=hrel;have Hb:=Qa hb;have Ho:=Qa ho;have hsz:=hb.size;clear hb ho
  by_cases hlt:k<l.length
  ·obtain⟨g,o,rfl,a6⟩:=HA.out (by omega);obtain⟨s,hs⟩:∃s,l[k]?=some s:=⟨_,Zc hlt⟩;have a1:=Zf Hb.out (a6 k (cI s) (by rw[List.getElem?_map,hs];rfl));unfold cI at a1;have Hs:=Qa (show l.take (k+1)=l.take k ++ [s] by rw[List.take_add_one,hs];rfl);have a4:(l.take k).length=k:=by rw[List.length_take];omega
   have a3:=Qa a4;clear hs a4 a6;go_wp2_with (at_builtin;refine ju eU (by have:=Ho.out.below (ac wr (.cells #[.int .i64 (s:Int)] 3)) (Za _);unfold bK at this;rw[a3.out] at this;exact this) (ar wr [cI s] 3) (by simp;omega) ?_ (h1:=(by simp[cI,Value.oneCell']));intro v' w1 h1 h2 h3;have Hp:=Qa h1;have Hg:=Qa h2;clear h1 h2 h3);have a5:Below w.heap.size w (wr.alloc (.cells #[.int .i64 (s:Int)] 3)):=Hb.out.alloc hsz _;exact⟨⟨k+1,by omega,by go_num,aL a5 (Ho.out.below (ac wr (.cells #[.int .i64 (s:Int)] 3)) (Za _)) a5.size Hg.out,by rw[Hs.out];unfold bK;rw[List.length_append,a3.out,List.map_append];exact Hp.out⟩,by simp[intOf];omega⟩
  ·obtain rfl:k=l.length:=by omega
   go_wp2;go_ret;exact⟨_,rfl,Hb.out,by have:=Ho.out;rwa[List.take_length] at this⟩
theorem zG {a b:ByteArray}:a.toList=b.toList↔a=b:=by
 rw[ByteArray.toList_eq,ByteArray.toList_eq];refine⟨fun h=>?_,fun h=>by rw[h]⟩
 cases a;cases b;simp at h;simp[h]
theorem gj (a b:ByteArray):(a.toList==b.toList)=decide (a=b):=by
 rw[Bool.eq_iff_iff,beq_iff_eq,decide_eq_true_iff];exact zG
def Im (d:Dc):Value:=.agg #[.bool d.neg,.string d.digits,.int .i64 d.exp]
abbrev es:ByteArray:=⟨#[]⟩
def jG (w:World)(x:Nd)(e:Ending)(w':World):Prop:= ∃v,e =.returned v/\Below w.heap.size w w'/\bu (w.heap.size<= ·) w' w.heap.size v [x]
theorem jg {x:Nd}(hg:w.heap[g]?=some (.cells cs 78 (0,0)))(hb:base<=g)(hc:cs.toList=aB x vn vk)(h1:cJ w 0 vn x.names)(h2:bK w 0 vk x.kids)(h3:vn =.slice none 0 0) :
  bu P w base (.slice (some ⟨g,0,none⟩) 1 1) [x]:=by
 subst h3;refine⟨[cs.toList],?_,bB.cons ⟨.slice none 0 0,vk,hc,h1,h2⟩ (bB.nil _),fun u hu g e=>?_⟩
 ·have hs:cs.size=8:=by rw[<-Array.length_toList,hc];rfl
  simpa using fc (n:=1) (k:=8) hg hb (by unfold maxLen;omega) (by omega)
 ·simp at hu;subst hu;rw[hc] at e;simp[aB,Value.ownBlock] at e
theorem t7 (w:World):Calls Tryz.prog 64 #[] w fun e w'=>jG w ⟨1,false,es,⟨false,es,0⟩, [], []⟩ e w':=by
 go_enter Tryz.func64,Tryz.ntmps64;go_wp2;go_ret;exact⟨_,rfl,ac _ _,jg (Ze _ _) (Za _) rfl (cJ.nil _ _) (bK.nil _ _) rfl⟩
theorem vQ (w:World):Calls Tryz.prog 73 #[] w fun e w'=>jG w ⟨7,false,es,⟨false,es,0⟩, [], []⟩ e w':=by
 go_enter Tryz.func73,Tryz.ntmps73;go_wp2;go_ret;exact⟨_,rfl,ac _ _,jg (Ze _ _) (Za _) rfl (cJ.nil _ _) (bK.nil _ _) rfl⟩
theorem tc (b:Bool)(w:World):Calls Tryz.prog 66 #[.bool b] w fun e w'=>jG w ⟨2,b,es,⟨false,es,0⟩, [], []⟩ e w':=by
 go_enter Tryz.func66,Tryz.ntmps66;go_wp2;go_ret;exact⟨_,rfl,ac _ _,jg (Ze _ _) (Za _) rfl (cJ.nil _ _) (bK.nil _ _) rfl⟩
theorem tA (s:ByteArray)(w:World):Calls Tryz.prog 71 #[.string s] w fun e w'=>jG w ⟨4,false,s,⟨false,es,0⟩, [], []⟩ e w':=by
 go_enter Tryz.func71,Tryz.ntmps71;go_wp2;go_ret;exact⟨_,rfl,ac _ _,jg (Ze _ _) (Za _) rfl (cJ.nil _ _) (bK.nil _ _) rfl⟩
theorem pu (d:Dc)(w:World):Calls Tryz.prog 68 #[Im d] w (jG w ⟨3,false,es,d, [], []⟩):=by
 obtain⟨a,b,c⟩:=d;unfold Im;go_enter Tryz.func68,Tryz.ntmps68;go_wp2;go_ret;exact⟨_,rfl,((Zd _ _).alloc (Za _) _).alloc (by simp) _,jg (cs:= #[.int .i64 3,.bool false,.string es,.bool a,.string b,.int .i64 c,.slice none 0 0,.slice none 0 0]) (by have:=Ze (w.alloc (.cells #[.bool a,.string b,.int .i64 c] 75)) (.cells #[.int .i64 3,.bool false,.string es,.bool a,.string b,.int .i64 c,.slice none 0 0,.slice none 0 0] 78);rw[World.size_alloc] at this;exact this) (by omega) rfl (cJ.nil _ _) (bK.nil _ _) rfl⟩
