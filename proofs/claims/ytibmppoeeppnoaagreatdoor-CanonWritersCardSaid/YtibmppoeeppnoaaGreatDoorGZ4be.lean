import Derived.Test.YtibmppoeeppnoaaGreatDoorGZ4bd
import Derived.Shelf.SlSortCmp.WholeK
set_option linter.unusedVariables false
set_option linter.unusedSimpArgs false
set_option maxHeartbeats 64000000
set_option maxRecDepth 100000
namespace Go.Proofs.YtibmppoeeppnoaaGreatDoor
open Go.RowKit Go.Shelf
variable {s:ByteArray}{L S:List (ByteArray×Value)}{y:List Int}{ks:List JV}{us:List Value}{base c g i m n q:Nat}{Q:Nat->Prop}{A:Option Addr}{u v:Value}{w w':World}
theorem pn (x:Int)(w:World):Calls Tryz.prog 166 #[.int .i32 x] w fun e w'=>e =.returned (.bool false)/\w=w':=by
 go_enter Tryz.func166,Tryz.ntmps166;go_wp2_with fail;go_ret;exact⟨by simp,rfl⟩
def wH (a b:Int):Int:=if a<b then -1 else if b<a then 1 else 0
theorem ut (a b:Int)(w:World):Calls Tryz.prog 127 #[.int .i32 a,.int .i32 b] w fun e w'=>e =.returned (.int .i64 (wH a b))/\w=w':=by
 have h1:=Qa (fun w=>pn a w);have h2:=Qa (fun w=>pn b w);go_enter Tryz.func127,Tryz.ntmps127;go_wp2_with fail;(with_reducible refine(h1.out _).mono ?_);rintro e w' ⟨rfl,rfl⟩;go_wp2_with fail;(with_reducible refine(h2.out _).mono ?_);rintro e w' ⟨rfl,rfl⟩
 by_cases h3:a<b
 ·have Hv:=Qa (show wH a b = -1 from if_pos h3);go_wp2_with fail;go_ret;exact⟨by rw[Hv.out];rfl,rfl⟩
 by_cases h4:b<a
 ·have Hv:=Qa (show wH a b=1 from(if_neg h3).trans (if_pos h4));go_wp2_with fail;go_ret;exact⟨by rw[Hv.out];rfl,rfl⟩
 have Hv:=Qa (show wH a b=0 from(if_neg h3).trans (if_neg h4));go_wp2_with fail;go_ret;exact⟨by rw[Hv.out];rfl,rfl⟩
theorem rA.read {l:List Int}(h:rA w base (.slice A n q) l):n=l.length/\∀ (i:Nat) c,l[i]?=some c->∃g,A=some ⟨g,0,none⟩/\w.cell? ⟨g,i,none⟩=some (.int .i32 c):=by
 obtain⟨A',q',e,_,_,hA⟩:=ag h;obtain⟨rfl,rfl,rfl⟩:=Value.slice.inj e;refine⟨rfl,fun i c hc=>?_⟩;obtain⟨_,⟨e1,h0⟩|⟨g,cap,cur,e1,_⟩⟩:=id h
 ·have:=(List.getElem?_eq_some_iff.1 hc).1;omega
 ·obtain⟨rfl,-,rfl⟩:=Value.slice.inj e1;refine⟨g,rfl,?_⟩;rw[aD h rfl i (by have:=(List.getElem?_eq_some_iff.1 hc).1;omega),List.getElem?_map,hc];rfl
theorem oK {B:Option Addr}{r base2:Nat}{x:List Int}(hx:rA w base (.slice A n q) x)(hy:rA w base2 (.slice B m r) y)(a7:x.length<=4294967296)(a9:y.length<=4294967296):Calls Tryz.prog 90 #[.slice A n q,.slice B m r] w fun e w'=>e =.returned (.int .i64 (aw x y))/\w=w':=by
 obtain⟨rfl,rx⟩:=hx.read;obtain⟨rfl,ry⟩:=hy.read;have Hx:=Qa rx;have Hy:=Qa ry;clear hx hy rx ry;go_enter Tryz.func90,Tryz.ntmps90;go_wp2_with fail
 go_loopg [11] x.length (fun k s11 wr=> ∃i:Nat,k+i=x.length/\s11 =.int .i64 i/\i<=y.length/\aw (x.drop i) (y.drop i)=aw x y/\wr=w)
 case atStart=>exact⟨0,rfl,rfl,Zj _,rfl,rfl⟩
 case round=>
  obtain⟨i,hk,rfl,a6,hc,rfl⟩:=hrel;have Hc:=Qa hc;have Hk:=Qa hk
  by_cases hlt:i<x.length
  ·obtain⟨a,ha⟩:∃a,x[i]?=some a:=⟨_,Zc hlt⟩;obtain⟨gx,rfl,cx⟩:=Hx.out i a ha;have a5:(i:Int)<x.length:=by omega
   have a0:x.drop i=a::x.drop (i+1):=by rw[List.drop_eq_getElem_cons hlt];congr 1;rw[Zc hlt] at ha;exact Zh ha
   by_cases hly:i<y.length
   ·obtain⟨b,hb⟩:∃b,y[i]?=some b:=⟨_,Zc hly⟩;obtain⟨gy,rfl,cy⟩:=Hy.out i b hb;have a3:y.drop i=b::y.drop (i+1):=by rw[List.drop_eq_getElem_cons hly];congr 1;rw[Zc hly] at hb;exact Zh hb
    have a1:(i:Int)<y.length:=by omega
    have a2:¬ (y.length:Int)<=i:=by omega
    have Hc2:=Qa (show aw x y=if a<b then -1 else if b<a then 1 else aw (x.drop (i+1)) (y.drop (i+1)) by rw[<-Hc.out,a0,a3];rfl);clear hc a0 a3 ha hb hk;have s1:IntKind.i64.wrap ((i:Int)+1)= ((i+1:Nat):Int):=by rw[IntWalk.i64_in _ (by omega)];omega
    go_wp2_with fail;(with_reducible refine(ut a b _).mono ?_);rintro e w' ⟨rfl,rfl⟩
    by_cases h3:a<b
    ·rw[show wH a b = -1 from if_pos h3];rw[if_pos h3] at Hc2;go_wp2_with fail;go_ret;exact⟨by rw[Hc2.out];rfl,rfl⟩
    rw[if_neg h3] at Hc2
    by_cases h4:b<a
    ·rw[show wH a b=1 from(if_neg h3).trans (if_pos h4)];rw[if_pos h4] at Hc2;go_wp2_with fail;go_ret;exact⟨by rw[Hc2.out];rfl,rfl⟩
    rw[show wH a b=0 from(if_neg h3).trans (if_neg h4)];rw[if_neg h4] at Hc2;go_wp2_with fail;go_roundg (x.length - (i+1))
    case measure=>have:=Hk.out;omega
    case rel=>exact⟨i+1,by omega,rfl,by omega,Hc2.out.symm,rfl⟩
   ·have a2:(y.length:Int)<=i:=by omega
    have Hc2:=Qa (show aw x y=1 by rw[<-Hc.out,a0,show y.drop i = [] from List.drop_of_length_le (by omega)];rfl);clear hc a0 ha hk;go_wp2_with fail;go_ret;exact⟨by rw[Hc2.out];rfl,rfl⟩
  ·have a5:¬ (i:Int)<x.length:=by omega
   have a4:i=x.length:=by omega
   have a0:x.drop i = []:=List.drop_of_length_le (by omega)
   by_cases hly:i<y.length
   ·have a1:(x.length:Int)<y.length:=by omega
    have Hc2:=Qa (show aw x y = -1 by rw[<-Hc.out,a0,List.drop_eq_getElem_cons hly];rfl);clear hc a0 hk a4;go_wp2_with fail;go_ret;exact⟨by rw[Hc2.out];rfl,rfl⟩
   ·have a1:¬ (x.length:Int)<y.length:=by omega
    have Hc2:=Qa (show aw x y=0 by rw[<-Hc.out,a0,show y.drop i = [] from List.drop_of_length_le (by omega)];rfl);clear hc a0 hk a4;go_wp2_with fail;go_ret;exact⟨by rw[Hc2.out];rfl,rfl⟩
def jr (s:ByteArray):Prop:=dq s/\s.size<=4294967296
theorem jr.len (h:jr s):(nm s).length<=4294967296:=by
 have h1:=iP h.1.nm.1;rw[h.1.nm.2] at h1;have:s.data.toList.length=s.size:=by simp
 have:=h.2;omega
theorem zJ {t:ByteArray}(hs:jr s)(ht:jr t):Calls Tryz.prog 71 #[.string s,.string t] w fun e w'=>e =.returned (.int .i64 (aw (nm s) (nm t)))/\bN w w':=by
 have H1:=Qa (pC (w:=w) hs.1 hs.2);have H2:=Qa (fun w=>pC (w:=w) ht.1 ht.2);have L1:=Qa hs.len;have L2:=Qa ht.len;clear hs ht;go_enter Tryz.func71,Tryz.ntmps71;go_wp2_with fail;(with_reducible refine H1.out.mono ?_);rintro e w1 ⟨v1,rfl,a1,a3⟩;obtain⟨A1,q1,rfl,-⟩:=ag a1;have a7:=Qa a1;have a6:=Qa a3;clear a1 a3;go_wp2_with fail;(with_reducible refine(H2.out w1).mono ?_);rintro e w2 ⟨v2,rfl,a2,a0⟩;obtain⟨A2,q2,rfl,-⟩:=ag a2;have a9:=Qa a2;have a5:=Qa (show rA w2 w.heap.size (.slice A1 (nm s).length q1) (nm s) from ao a7.out a0.b (Za _));have a4:=Qa (a6.out.trans a0);clear a2 a0;go_wp2_with fail;(with_reducible refine(oK a5.out a9.out L1.out L2.out).mono ?_);rintro e w3 ⟨rfl,rfl⟩;go_wp2_with fail;go_ret;exact⟨rfl,a4.out⟩
theorem wQ {t:ByteArray}(hs:jr s)(ht:jr t):Calls Tryz.prog 70 #[.agg #[.string s,u],.agg #[.string t,v]] w fun e w'=>e =.returned (.int .i64 (aw (nm s) (nm t)))/\bN w w':=by
 have H:=Qa (fun w=>zJ (w:=w) hs ht);have Hb:=Qa ((bN.alloc w (.cells #[.string s,u] 99)).trans (bN.alloc _ (.cells #[.string t,v] 99)));clear hs ht;go_enter Tryz.func70,Tryz.ntmps70;go_wp2_with fail;(with_reducible refine(H.out _).mono ?_);rintro e w1 ⟨rfl,a0⟩;have a1:=Qa (Hb.out.trans a0);clear a0;go_wp2_with fail;go_ret;exact⟨rfl,a1.out⟩
open Go.Lib Go.Sort
abbrev Mb:={p:ByteArray×Value // jr p.1/\Dw p.2}
theorem jr.empty:jr ⟨#[]⟩:=⟨⟨[],by simp,rfl⟩,by decide⟩
instance:Inhabited Mb:=⟨⟨(⟨#[]⟩,.iface 0 undef),jr.empty,0,undef,rfl⟩⟩
def gY (p:Mb):List Value:= [.string p.1.1,p.1.2]
def F9 (x y:Mb):Int:=aw (nm x.1.1) (nm y.1.1)
instance (a b:ByteArray):Decidable (fE a b):=by unfold fE;infer_instance
theorem G9 (x y:Mb):ltOf F9 x y=decide (fE x.1.1 y.1.1):=by
 unfold ltOf F9 fE;rfl
theorem ID:SWO (ltOf F9) where
 irrefl x:=by rw[G9];simp[kd]
 trans x y z h1 h2:=by rw[G9] at *;simp only[decide_eq_true_eq] at *;exact gj h1 h2
 ntrans x y z h1 h2:=by
  rw[G9] at *;simp only[decide_eq_false_iff_not] at *;intro h
  by_cases e:x.1.1=y.1.1
  ·rw[e] at h;exact h2 h
  ·exact h2 (gj (jm h1 e) h)
theorem By (x y:Mb)(w:World):Calls Tryz.prog 70 #[.agg #[.string x.1.1,x.1.2],.agg #[.string y.1.1,y.1.2]] w fun e w'=>e =.returned (.int .i64 (F9 x y))/\∃q os',w'=grow (w.drewN q) os':=
 (wQ x.2.1 y.2.1).mono fun _ _ ⟨h1,h2⟩=>⟨h1,h2.grow⟩
theorem Cg (blk off size:Nat)(w:World):CmpLays Tryz.prog 70 #[] gY 2 F9 blk off size w:=fun _ _ _ _ x y=>By x y _
def qR:Go.Shelf.Ren:=⟨fun|6=>69|15=>89|14=>88|28=>125|29=>126|20=>117|21=>118|22=>119|23=>120|24=>121|25=>122|26=>123|27=>124|46=>161|47=>162|48=>163|49=>164|50=>165|57=>191|n=>n,fun|22=>90|24=>99|25=>161|3=>3|39=>175|0=>0|53=>248|55=>250|4=>4|46=>242|45=>241|50=>227|5=>5|9=>9|66=>300|70=>304|76=>329|77=>171|n=>n,fun|n=>n⟩
theorem C6:Go.Proofs.SlLaysF0.n6 Tryz.prog qR:={
 mixed:=by kernel_rfl
 f6:=⟨"slices.SortFunc[[]wicket/tree.Member,wicket/tree.Member]",by decide,Tryz.func69.trans (congrArg some (by kernel_rfl))⟩
 f14:=⟨"slices.pdqsortCmpFunc[wicket/tree.Member]",by decide,Tryz.func88.trans (congrArg some (by kernel_rfl))⟩
 f15:=Tryz.func89.trans (congrArg some (by kernel_rfl))
 f20:=⟨"slices.insertionSortCmpFunc[wicket/tree.Member]",by decide,Tryz.func117.trans (congrArg some (by kernel_rfl))⟩
 f21:=⟨"slices.heapSortCmpFunc[wicket/tree.Member]",by decide,Tryz.func118.trans (congrArg some (by kernel_rfl))⟩
 f22:=⟨"slices.breakPatternsCmpFunc[wicket/tree.Member]",by decide,Tryz.func119.trans (congrArg some (by kernel_rfl))⟩
 f23:=⟨"slices.choosePivotCmpFunc[wicket/tree.Member]",by decide,Tryz.func120.trans (congrArg some (by kernel_rfl))⟩
 f24:=⟨"slices.reverseRangeCmpFunc[wicket/tree.Member]",by decide,Tryz.func121.trans (congrArg some (by kernel_rfl))⟩
 f25:=⟨"slices.partialInsertionSortCmpFunc[wicket/tree.Member]",by decide,Tryz.func122.trans (congrArg some (by kernel_rfl))⟩
 f26:=⟨"slices.partitionEqualCmpFunc[wicket/tree.Member]",by decide,Tryz.func123.trans (congrArg some (by kernel_rfl))⟩
 f27:=⟨"slices.partitionCmpFunc[wicket/tree.Member]",by decide,Tryz.func124.trans (congrArg some (by kernel_rfl))⟩
 f28:=Tryz.func125.trans (congrArg some (by kernel_rfl))
 f29:=Tryz.func126.trans (congrArg some (by kernel_rfl))
 f46:=⟨"slices.siftDownCmpFunc[wicket/tree.Member]",by decide,Tryz.func161.trans (congrArg some (by kernel_rfl))⟩
 f47:=Tryz.func162.trans (congrArg some (by kernel_rfl))
 f48:=Tryz.func163.trans (congrArg some (by kernel_rfl))
 f49:=⟨"slices.medianAdjacentCmpFunc[wicket/tree.Member]",by decide,Tryz.func164.trans (congrArg some (by kernel_rfl))⟩
 f50:=⟨"slices.medianCmpFunc[wicket/tree.Member]",by decide,Tryz.func165.trans (congrArg some (by kernel_rfl))⟩
 f57:=⟨"slices.order2CmpFunc[wicket/tree.Member]",by decide,Tryz.func191.trans (congrArg some (by kernel_rfl))⟩
 t0:=Tryz.underlying0
 a0:=Tryz.isAgg0
 z0:=Tryz.sizeOf0
 v0:=Tryz.zeroValue0
 t3:=Tryz.underlying3
 a3:=Tryz.isAgg3
 z3:=Tryz.sizeOf3
 v3:=Tryz.zeroValue3
 t4:=Tryz.underlying4
 a4:=Tryz.isAgg4
 z4:=Tryz.sizeOf4
 v4:=Tryz.zeroValue4
 t5:=Tryz.underlying5
 a5:=Tryz.isAgg5
 z5:=Tryz.sizeOf5
 v5:=Tryz.zeroValue5
 t9:=Tryz.underlying9
 a9:=Tryz.isAgg9
 z9:=Tryz.sizeOf9
 v9:=Tryz.zeroValue9
 t22:=Tryz.underlying90
 a22:=Tryz.isAgg90
 z22:=Tryz.sizeOf90
 v22:=Tryz.zeroValue90
 t25:=Tryz.underlying161
 a25:=Tryz.isAgg161
 z25:=Tryz.sizeOf161
 v25:=Tryz.zeroValue161
 t39:=Tryz.underlying175
 a39:=Tryz.isAgg175
 z39:=Tryz.sizeOf175
 v39:=Tryz.zeroValue175
 t45:=Tryz.underlying241
 a45:=Tryz.isAgg241
 z45:=Tryz.sizeOf241
 v45:=Tryz.zeroValue241
 t46:=Tryz.underlying242
 a46:=Tryz.isAgg242
 z46:=Tryz.sizeOf242
 v46:=Tryz.zeroValue242
 t50:=Tryz.underlying227
 a50:=Tryz.isAgg227
 z50:=Tryz.sizeOf227
 v50:=Tryz.zeroValue227
 t53:=Tryz.underlying248
 a53:=Tryz.isAgg248
 z53:=Tryz.sizeOf248
 v53:=Tryz.zeroValue248
 t55:=Tryz.underlying250
 a55:=Tryz.isAgg250
 z55:=Tryz.sizeOf250
 v55:=Tryz.zeroValue250
 t66:=Tryz.underlying300
 a66:=Tryz.isAgg300
 z66:=Tryz.sizeOf300
 v66:=Tryz.zeroValue300
 t70:=Tryz.underlying304
 a70:=Tryz.isAgg304
 z70:=Tryz.sizeOf304
 v70:=Tryz.zeroValue304
 t76:=Tryz.underlying329
 a76:=Tryz.isAgg329
 z76:=Tryz.sizeOf329
 v76:=Tryz.zeroValue329
 t77:=Tryz.underlying171
 a77:=Tryz.isAgg171
 z77:=Tryz.sizeOf171
 v77:=Tryz.zeroValue171
}
def Cy (L:List (ByteArray×Value)):Prop:= ∀p∈L,jr p.1/\Dw p.2
open Classical in
noncomputable def F8 (p:ByteArray×Value):Mb:=if h:jr p.1/\Dw p.2 then⟨p,h⟩ else default
theorem Eh {p:ByteArray×Value}(h:jr p.1/\Dw p.2):(F8 p).1=p:=by unfold F8;rw[dif_pos h]
theorem DU (hb:Cy L){p:ByteArray×Value}(hp:L[i]?=some p):(((L.map F8).toArray)[i]!).1=p:=by
 have hi:=(List.getElem?_eq_some_iff.1 hp).1;have h0:=hb p (Zk hp);have e:((L.map F8).toArray)[i]! =F8 p:=by
  rw[getElem!_pos _ i (by simpa using hi)];simp only[List.getElem_toArray,List.getElem_map]
  congr 1
  have:=Zc hi;rw[hp] at this;exact(Zh this).symm
 rw[e];exact Eh h0
def mG (L:List (ByteArray×Value)):Prop:=L.Pairwise fun p q=> ¬fE q.1 p.1
def IJ (w:World)(base g:Nat)(L:List (ByteArray×Value))(e:Ending)(w':World):Prop:= ∃S:List (ByteArray×Value),mG S/\S.Perm L/\e =.returned (.tuple #[])/\GX w' g S/\(∃cur:Array Value,w'.heap[g]?=some (.cells cur 99 (0,0))/\L.length*2<=cur.size)/\Below base w w'
theorem tq (h:xg w base (.slice (some ⟨g,0,none⟩) L.length q) L)(hb:Cy L)(hB:base<=w.heap.size)(hl:L.length<=4294967296):Calls Tryz.prog 69 #[.slice (some ⟨g,0,none⟩) L.length q,.func (.func 70) #[] #[]] w (IJ w base g L):=by
 obtain⟨d,hd⟩:∃d:Array Mb,(L.map F8).toArray=d:=⟨_,rfl⟩;have a1:d.size=L.length:=by rw[<-hd];simp
 have a9:∀ (i:Nat) (p:ByteArray×Value),L[i]?=some p->(d[i]!).1=p:=fun i p hp=>by rw[<-hd];exact DU hb hp
 obtain⟨a7,cur,a0⟩:=ak h rfl;have a7:base<=g:=a7;have b1:=h.read;have b0:L.length*2<=cur.size:=by
  obtain⟨_,⟨e1,_⟩|⟨g',cap,cur',e1,_,a4,h2,h3,h4,h5⟩⟩:=id h
  ·cases e1
  ·obtain⟨e2,-,-⟩:=Value.slice.inj e1;obtain rfl:g=g':=by injection e2 with e2;injection e2
   rw[a0] at a4;obtain rfl:cur=cur':=by injection a4 with a4;injection a4
   rw[h4];omega
 have hH:HoldsK gY 2 w g 0 d:=by
  intro j hj;rw[size_flatK,a1] at hj;obtain⟨p,hp⟩:∃p,L[j/2]?=some p:=⟨_,Zc (by omega)⟩;obtain⟨c1,c2⟩:=b1 _ _ hp;refine⟨?_,aj a0 _⟩;rw[get_flatK gY 2 d j (by rw[a1];exact hj)];have hv:=a9 _ _ hp;rw[Nat.zero_add];rcases Nat.mod_two_eq_zero_or_one j with hm|hm
  ·rw[hm,show j= (j/2)*2 by omega];rw[show(j/2)*2/2=j/2 by omega,c1];unfold gY;rw[hv];rfl
  ·rw[hm,show j= (j/2)*2+1 by omega];rw[show((j/2)*2+1)/2=j/2 by omega,c2];unfold gY;rw[hv];rfl
 have eg:∀args w,(callFunc 70 args).run Tryz.prog w =.ok (.enter 70 args) w:=enters_of Tryz.func70 (by kernel_rfl) rfl;have a3:=AnyQ.slices_SortFunc C6 2 Tryz.isAgg99 Tryz.sizeOf99 gY (fun _=>rfl) (fun x v hv=>by simp[gY] at hv;rcases hv with rfl|rfl;(· rfl);exact x.2.2.one) F9 ID 70 #[] g 0 q d w eg (Cg g 0 d.size w) hH (ae a0) (by rw[a1];omega);change Calls Tryz.prog 69 _ _ _ at a3;rw[a1] at a3;refine a3.mono ?_;rintro e w' ⟨rfl,d',n,os,hp,hs,rfl⟩;have a5:d'.size=L.length:=by rw[hp.1,a1]
 have a6:(putRowK gY 2 (Sort.ahead w n) g 0 d').heap.size=w.heap.size:=by unfold putRowK putRow mapBlock Sort.ahead;simp
 refine⟨d'.toList.map (·.1),?_,?_,rfl,?_,?_,?_⟩
 ·unfold mG;rw[List.pairwise_map,List.pairwise_iff_getElem];intro i j hi hj b2;have h1:=hs i j (Zj _) b2 (by simpa [a5] using hj);rw[G9] at h1;rw[getElem!_pos d' i (by simpa using hi),getElem!_pos d' j (by simpa using hj)] at h1;simp only[Array.getElem_toList];simpa only[decide_eq_false_iff_not] using h1
 ·have h1:=hp.2.2;rw[<-a1] at h1;have e1:d.extract 0 d.size=d:=by simp
  have e2:d'.extract 0 d.size=d':=by rw[<-hp.1];simp
  rw[e1,e2] at h1;have h2:=h1.map (·.1);have e3:d.toList.map (·.1)=L:=by
   apply List.ext_getElem?
   intro i;rw[List.getElem?_map]
   by_cases hi:i<L.length
   ·obtain⟨p,a2⟩:∃p,L[i]?=some p:=⟨_,Zc hi⟩;have hv:=a9 i p a2;rw[getElem!_pos d i (by omega)] at hv;rw[a2,Zc (by simpa [a1] using hi)];simp only[Array.getElem_toList,Option.map_some,hv]
   ·rw[List.getElem?_eq_none (by simpa [a1] using hi),List.getElem?_eq_none (by omega)];rfl
  rw[e3] at h2;exact h2
 ·have hK:=holdsK_grow gY 2 (putRowK gY 2 (Sort.ahead w n) g 0 d') os g 0 d' (by rw[a6];exact ae a0) (holdsK_putRowK gY 2 (Sort.ahead w n) g 0 d d' (holdsK_ahead gY 2 w n g 0 d hH) hp.1);intro i p a2;rw[List.getElem?_map] at a2;have hi:i<d'.size:=by
   have:=(List.getElem?_eq_some_iff.1 (show(d'.toList.map (·.1))[i]?=some p by rw[List.getElem?_map];exact a2)).1;simpa using this
  have hv:(d'[i]!).1=p:=by
   rw[Zc (by simpa using hi)] at a2;rw[getElem!_pos d' i hi];simpa using a2
  have k1:=hK.cell hi (show 0<2 by decide);have k2:=hK.cell hi (show 1<2 by decide);have e1:((gY d'[i]!)[0]! :Value) =.string p.1:=by unfold gY;rw[hv];rfl
  have e2:((gY d'[i]!)[1]! :Value)=p.2:=by unfold gY;rw[hv];rfl
  have k3:=k1.1;have k4:=k2.1;rw[e1,show 0+i*2+0=i*2 by omega] at k3;rw[e2,show 0+i*2+1=i*2+1 by omega] at k4;exact⟨k3,k4⟩
 ·have hlt:=ae a0;have hg:∃f:Array Value->Array Value,(∀c,(f c).size=c.size)/\(putRowK gY 2 (Sort.ahead w n) g 0 d').heap[g]?=some (.cells (f cur) 99 (0,0)):=by
   refine⟨fun c=>putCells id 0 (flatK gY 2 d') c,fun c=>by unfold putCells;simp,?_⟩;unfold putRowK putRow mapBlock Sort.ahead;simp only;have h':w.heap[g] =.cells cur 99 (0,0):=by simpa [Array.getElem?_eq_getElem hlt] using a0
   rw[Array.getElem?_eq_getElem (by simpa using hlt),Array.getElem_modify_self,h'];rfl
  obtain⟨f,hf,hg⟩:=hg;refine⟨f cur,?_,by rw[hf];exact b0⟩;unfold sortWorldK;rw[heap_grow_old _ os (by rw[a6];exact hlt)];exact hg
 ·have hg:∀k,k<base->(sortWorldK gY 2 w g 0 n d' os).heap[k]?=w.heap[k]?:=by
   intro k hk;unfold sortWorldK;rw[heap_grow_old _ os (by unfold putRowK putRow mapBlock Sort.ahead;simp;omega)];unfold putRowK putRow mapBlock Sort.ahead;simp only;rw[Array.getElem?_modify,if_neg (by omega)]
  refine⟨rfl,rfl,rfl,?_,hg⟩;unfold sortWorldK grow putRowK putRow mapBlock Sort.ahead;simp
theorem wE (w:World):Calls Tryz.prog 126 #[.int .u64 0] w fun e w'=>e =.returned (.int .i64 0)/\w=w':=by
 go_enter Tryz.func126,Tryz.ntmps126;go_wp2_with fail;go_ret;exact⟨by show Ending.returned (.int .i64 (wrap64 (wrap64 (len8 0))))=_;exact congrArg (fun x=>Ending.returned (.int .i64 x)) (by decide +kernel),rfl⟩
theorem Cz (w:World):Calls Tryz.prog 89 #[.int .u64 0] w fun e w'=>e =.returned (.int .i64 0)/\w=w':=by
 have h1:=Qa (fun w=>wE w);go_enter Tryz.func89,Tryz.ntmps89;go_wp2_with fail;(with_reducible refine(h1.out _).mono ?_);rintro e w' ⟨rfl,rfl⟩;go_wp2_with fail;go_ret;exact⟨rfl,rfl⟩
theorem m7 (A:Option Addr)(c:Nat)(f:Value)(w:World):Calls Tryz.prog 117 #[.slice A 0 c,.int .i64 0,.int .i64 0,f] w fun e w'=>e =.returned (.tuple #[])/\w=w':=by
 go_enter Tryz.func117,Tryz.ntmps117;go_wp2_with fail
 go_loopg [8] 0 (fun _ s8 wr=>s8 =.int .i64 1/\wr=w)
 case atStart=>exact⟨rfl,rfl⟩
 case round=>
  obtain⟨rfl,rfl⟩:=hrel;go_wp2_with fail;go_end0;exact⟨rfl,rfl⟩
theorem AG (A:Option Addr)(c:Nat)(f:Value)(w:World):Calls Tryz.prog 88 #[.slice A 0 c,.int .i64 0,.int .i64 0,.int .i64 0,f] w fun e w'=>e =.returned (.tuple #[])/\w=w':=by
 have h1:=Qa (fun w=>m7 A c f w);go_enter Tryz.func88,Tryz.ntmps88;go_wp2_with fail
 go_loopg [1,2] 0 (fun _ s1 s2 wr=>s1 =.int .i64 0/\s2 =.int .i64 0/\wr=w)
 case atStart=>exact⟨rfl,rfl,rfl⟩
 case round=>
  obtain⟨rfl,rfl,rfl⟩:=hrel;go_wp2_with fail;(with_reducible refine(h1.out _).mono ?_);rintro e w' ⟨rfl,rfl⟩;go_wp2_with fail;(try simp only[Exit.inBlock,Exit.then]);refine Zg (results_none rfl ..) rfl ?_;exact⟨rfl,rfl⟩
theorem yW (A:Option Addr)(c:Nat)(f:Value)(w:World):Calls Tryz.prog 69 #[.slice A 0 c,f] w fun e w'=>e =.returned (.tuple #[])/\w=w':=by
 have h1:=Qa (fun w=>Cz w);have h2:=Qa (fun w=>AG A c f w);go_enter Tryz.func69,Tryz.ntmps69;go_wp2_with fail;(with_reducible refine(h1.out _).mono ?_);rintro e w' ⟨rfl,rfl⟩;go_wp2_with fail;(with_reducible refine(h2.out _).mono ?_);rintro e w' ⟨rfl,rfl⟩;go_wp2_with fail;go_end0;exact⟨rfl,rfl⟩
def Gq (w:World)(n:Nat)(L:List (ByteArray×Value))(e:Ending)(w':World):Prop:= ∃g A c S,e =.returned (.tuple #[.pointer (some ⟨g,0,none⟩),.nilIface])/\Below w.heap.size w w'/\w.heap.size<=g/\w'.heap[g]?=some (.cells #[.slice A n c] 156 (0,0))/\ce (w.heap.size<= ·) w' 99 2 A n c (fI S)/\S.Perm L/\(S.map Prod.fst).Pairwise fE
theorem uK (h:mG S)(hn:(S.map Prod.fst).Nodup):(S.map Prod.fst).Pairwise fE:=by
 rw[List.pairwise_map];rw[List.Nodup,List.pairwise_map] at hn;exact(h.and hn).imp fun ⟨h1,h2⟩=>jm h1 (fun e=>h2 e.symm)
def Rm (w:World)(A:Option Addr)(L:List (ByteArray×Value)):Prop:= ∀ (i:Nat) (p:ByteArray×Value),L[i]?=some p->∃g,A=some ⟨g,0,none⟩/\w.cell? ⟨g,i*2,none⟩=some (.string p.1)/\w.cell? ⟨g,i*2+1,none⟩=some p.2
theorem Rm.below (h:Rm w A L)(hb:Below w.heap.size w w'):Rm w' A L:=fun i p hp=>by
 obtain⟨g,h1,h2,h3⟩:=h i p hp;exact⟨g,h1,Zf hb h2,Zf hb h3⟩
theorem xg.rm (h:xg w base (.slice A n q) L):n=L.length/\Rm w A L:=by
 obtain⟨A',q',e,_,_,hA⟩:=ag h;obtain⟨rfl,rfl,rfl⟩:=Value.slice.inj e;refine⟨rfl,fun i p hp=>?_⟩;obtain⟨g,rfl⟩:=hA (by have:=(List.getElem?_eq_some_iff.1 hp).1;omega);exact⟨g,rfl,h.read i p hp⟩
theorem gc (hv:yO 2 w v n (fI L))(hg:Cy L)(b7:(L.map Prod.fst).Nodup)(hl:n<=4294967296):Calls Tryz.prog 49 #[v] w (Gq w n L):=by
 have a7:L.length=n:=by
  have:=hv.1;rw[km] at this;omega
 obtain⟨hm,d2,A,cap,rfl,hc,hA⟩:=id hv;have Hk:=Qa (o6 hv (fun u h=>by
  obtain⟨p,hp,hu⟩:=List.mem_flatMap.1 h;simp at hu;rcases hu with rfl|rfl
  ·rfl
  ·exact(hg p hp).2.one) hl)
 have Hg:=Qa hg;have c5:=Qa b7;clear hv hA hg b7;go_enter Tryz.func49,Tryz.ntmps49;go_wp2_with fail;(with_reducible refine Hk.out.mono ?_);rintro e w1 ⟨A1,c1,rfl,b2,a9⟩;have ho:xg w1 w.heap.size (.slice A1 n c1) L:=by unfold xg;rw[a7];exact a9
 have Ho:=Qa ho;have c4:=Qa b2;have c6:=Qa ho.rm.2;have a3:=Qa a7;clear a9 ho b2 Hk hm a7;go_wp2_with fail
 go_loopg [6,12] n (fun k _ s12 wr=> ∃i:Nat,k+i=n/\s12 =.int .i64 i/\Below w1.heap.size w1 wr)
 case atStart=>exact⟨0,rfl,rfl,Zd _ _⟩
 case round=>
  obtain⟨i,hk,rfl,hb⟩:=hrel;have Hb:=Qa hb
  by_cases hlt:i<n
  ·obtain⟨p,hp⟩:∃p,L[i]?=some p:=⟨_,Zc (by have:=a3.out;omega)⟩;obtain⟨g,rfl,q0,q1⟩:=(c6.out.below hb) i p hp;obtain⟨t,x,hx⟩:=(Hg.out p (Zk hp)).2;rw[hx] at q1;have a0:(i:Int)<n:=by omega
   have Hk:=Qa hk;have qe:∀w,(binOp .eql 41 (.iface t x) .nilIface).run Tryz.prog w =.ok (.bool false) w:=fun w=>rF w t x
   clear hp hb hx hk;go_wp2_with fail;go_roundg (n - (i+1))
   case measure=>have:=Hk.out;omega
   case rel=>exact⟨i+1,by omega,by go_num,bt Hb.out (ac _ _)⟩
  ·obtain rfl:i=n:=by omega
   have a0:¬ (i:Int)<i:=by omega
   clear hk hb hlt;go_wp2_with fail;have a5:=bt c4.out Hb.out;have a1:=Qa (show xg wr w.heap.size (.slice A1 i c1) L from ao Ho.out Hb.out (Za _));have d0:=Qa a5;have b4:Calls Tryz.prog 69 #[.slice A1 i c1,.func (.func 70) #[] #[]] wr fun e w'=>e =.returned (.tuple #[])/\Below w.heap.size wr w'/\∃S,S.Perm L/\mG S/\Rm w' A1 S/\ce (w.heap.size<= ·) w' 99 2 A1 i c1 (fI S):=by
    rcases Nat.eq_zero_or_pos i with h0|h0
    ·subst h0;obtain rfl:=List.eq_nil_of_length_eq_zero a3.out;refine(yW A1 c1 _ wr).mono ?_;rintro e w' ⟨rfl,rfl⟩;exact⟨rfl,Zd _ _, [],List.Perm.refl _,List.Pairwise.nil,fun i p h=>by simp at h,ce.of_own a1.out⟩
    ·obtain⟨A',q',e,hcc,c8,c0⟩:=ag a1.out;obtain⟨rfl,rfl,rfl⟩:=Value.slice.inj e;obtain⟨g,rfl⟩:=c0 (by have:=a3.out;omega);have c7:=tq a1.out Hg.out a5.size (by have:=a3.out;omega);refine c7.mono ?_;rintro e w' ⟨S,h1,h2,rfl,h3,⟨cur,h4,h5⟩,h6⟩;have c9:S.length=L.length:=h2.length_eq;refine⟨rfl,h6,S,h2,h1,fun i p hp=>⟨g,rfl,h3 i p hp⟩,by rw[km,c9],hcc,by unfold maxLen at c8 ⊢;have:=(bT a1.out);obtain⟨_,⟨e,_⟩|⟨_,_,_,e,_,_,_,h,_⟩⟩:=id a1.out;(· cases e);obtain⟨-,-,rfl⟩:=Value.slice.inj e;exact h,fun _=>⟨g,rfl,(ak a1.out rfl).1,cur,h4,?_⟩⟩;apply List.ext_getElem?;intro j
     by_cases hj:j<L.length*2
     ·rw[List.getElem?_take_of_lt hj,Array.getElem?_toList];obtain⟨p,hp⟩:∃p,S[j/2]?=some p:=⟨_,Zc (by omega)⟩;obtain⟨c1,c2⟩:=h3 _ _ hp;obtain⟨m1,m2⟩:=qZ S _ p hp;unfold World.cell? at c1 c2;simp only[h4] at c1 c2;rcases Nat.mod_two_eq_zero_or_one j with hm|hm
      ·rw[show j/2*2=j by omega] at c1 m1;rw[m1];simpa using c1
      ·rw[show j/2*2+1=j by omega] at c2 m2;rw[m2];simpa using c2
     ·rw[List.getElem?_eq_none (by simp;omega),List.getElem?_eq_none (by rw[km];omega)]
   (with_reducible refine b4.mono ?_);rintro e w2 ⟨rfl,b3,S,hp,hs,b6,a2⟩;have c3:=Qa (d0.out.trans b3);have Hp:=Qa hp;have Hs:=Qa (uK hs ((hp.map Prod.fst).nodup_iff.2 c5.out));have b0:=Qa b6;have a6:=Qa a2;have a4:=Qa (show S.length=i by rw[hp.length_eq];exact a3.out);clear hp hs b6 a2 b3 b4 a5;go_wp2_with fail
   go_loopg [7] (i - 1) (fun k s7 wr=> ∃j:Nat,k+j=i - 1/\s7 =.int .i64 (j+1:Nat)/\Below w2.heap.size w2 wr)
   case atStart=>exact⟨0,rfl,rfl,Zd _ _⟩
   case round=>
    obtain⟨j,hk,rfl,hb⟩:=hrel;have Hb3:=Qa hb;have Hk:=Qa hk
    by_cases hlt:j+1<i
    ·obtain⟨p,hp⟩:∃p,S[j]?=some p:=⟨_,Zc (by have:=a4.out;omega)⟩;obtain⟨r,hr⟩:∃r,S[j+1]?=some r:=⟨_,Zc (by have:=a4.out;omega)⟩;obtain⟨g,rfl,q0,-⟩:=(b0.out.below hb) j p hp;obtain⟨g',e,r0,-⟩:=(b0.out.below hb) (j+1) r hr;obtain rfl:g=g':=by injection e with e;injection e
     have hne:p.1≠r.1:=by
      refine lz ((List.pairwise_iff_getElem.1 Hs.out) j (j+1) (by simp;have:=a4.out;omega) (by simp;have:=a4.out;omega) (by omega) |> fun h=>?_);simpa [(List.getElem?_eq_some_iff.1 hp).2,(List.getElem?_eq_some_iff.1 hr).2] using h
     have b9:(r.1.toList==p.1.toList)=false:=by rw[jh];simp;exact fun e=>hne e.symm
     have s1:IntKind.i64.wrap (j:Int)= (j:Int):=IntWalk.i64_in _ (by omega);have s2:IntKind.i64.wrap ((j:Int)+1+1)= (j:Int)+1+1:=IntWalk.i64_in _ (by omega);have a0:(j:Int)+1<i:=by omega
     have b1:(j:Int)<i:=by omega
     have d1:((j:Int)+1).toNat=j+1:=by omega
     have b8:(0:Int)<=(j:Int)+1:=by omega
     clear hp hr hb hk hlt hne;go_wp2_with fail;go_quiet (fail);go_wp2_with fail;go_roundg (i - 1 - (j+1))
     case measure=>have:=Hk.out;omega
     case rel=>exact⟨j+1,by omega,by go_num,av Hb3.out _⟩
    ·have a0:¬ (j:Int)+1<i:=by omega
     clear hb hk hlt;go_wp2_with fail;go_ret2;have b5:=bt c3.out Hb3.out;exact⟨_,A1,c1,S,rfl,bt b5 (ac _ _),b5.size,Ze _ _,a6.out.stay fun g o hp hg _ _=>⟨hp,(Below.heap_alloc _ _ _ (ae (ai hg Hb3.out))).trans (ai hg Hb3.out)⟩,Hp.out,Hs.out⟩
theorem As {α β:Type}{f:α->β}{S L:List β}(hp:S.Perm L):∀ {Z:List α},Z.map f=L->∃Z':List α,Z'.Perm Z/\Z'.map f=S:=by
 induction hp with
 |nil=>intro Z h;exact⟨Z,List.Perm.refl _,h⟩
 |cons x _ ih=>
  intro Z h
  cases Z with
  |nil=>cases h
  |cons z Z=>
   rw[List.map_cons] at h;injection h with h1 h2
   obtain⟨Z',h3,h4⟩:=ih h2;exact⟨z::Z',h3.cons z,by rw[List.map_cons,h1,h4]⟩
 |swap x y l=>
  intro Z h
  match Z,h with
  |a::b::Z,h=>
   simp only[List.map_cons] at h;injection h with h1 h2
   injection h2 with h2 h3
   exact⟨b::a::Z,List.Perm.swap a b Z,by simp[h1,h2,h3]⟩
 |trans _ _ ih1 ih2=>
  intro Z h;obtain⟨Z1,h1,h2⟩:=ih2 h;obtain⟨Z2,h3,h4⟩:=ih1 h2;exact⟨Z2,h3.trans h1,h4⟩
theorem Fz (S:List (ByteArray×Value)):fI S=zS (S.map Prod.fst) (S.map Prod.snd):=by
 unfold fI zS
 congr 1
 induction S with
 |nil=>rfl
 |cons p S ih=>simp[<-ih]
theorem vD {ms:List (ByteArray×JV)}(hg:w.heap[g]?=some (.cells #[.slice A S.length c] 156 (0,0)))(hr:ce Q w 99 2 A S.length c (fI S))(hQ:Q g)(hp:S.Perm L)(hs:(S.map Prod.fst).Pairwise fE)
  (hn:L.map Prod.fst=ms.map Prod.fst) (hv:br (VW Q w) (L.map Prod.snd) (ms.map Prod.snd)):VW Q w (.iface 124 (.pointer (some ⟨g,0,none⟩))) (kq (fp ms)):=by
 have hl:L.length=ms.length:=by have:=congrArg List.length hn;simpa using this
 have hz:(L.zip ms).map Prod.fst=L:=List.map_fst_zip (by omega);have a4:(L.zip ms).map Prod.snd=ms:=List.map_snd_zip (by omega);obtain⟨Z,hZ,a1⟩:=As hp hz;have a0:∀z∈L.zip ms,z.1.1=z.2.1/\VW Q w z.1.2 z.2.2:=by
  intro z hz;obtain⟨i,hi,rfl⟩:=List.getElem_of_mem hz;rw[List.length_zip] at hi;have h1:L[i]?=some L[i]:=Zc (by omega);have h2:ms[i]?=some ms[i]:=Zc (by omega);rw[List.getElem_zip];refine⟨?_,hv.2 i _ _ (by rw[List.getElem?_map,h1];rfl) (by rw[List.getElem?_map,h2];rfl)⟩;have:=congrArg (·[i]?) hn;simp only[List.getElem?_map,h1,h2,Option.map_some] at this;exact Zh this
 have a5:fp ms=Z.map Prod.snd:=by
  refine uM ?_ ?_
  ·have:=(hZ.map Prod.snd).symm
   rwa[a4] at this
  ·have e:(Z.map Prod.snd).map Prod.fst=S.map Prod.fst:=by
    rw[<-a1,List.map_map,List.map_map];exact List.map_congr_left fun z hz=>(a0 z (hZ.mem_iff.1 hz)).1.symm
   rw[e];exact hs
 rw[a5];have a2:S.map Prod.fst= (Z.map Prod.snd).map Prod.fst:=by
  rw[<-a1,List.map_map,List.map_map];exact List.map_congr_left fun z hz=>(a0 z (hZ.mem_iff.1 hz)).1
 have a3:S.length=Z.length:=by rw[<-a1];simp
 unfold kq;rw[<-a2];refine VW.obj g A c (S.map Prod.snd) (S.map Prod.fst) _ hQ (by rw[List.length_map];exact hg) (by rw[List.length_map,<-Fz];exact hr) (by simp[a3]) (by simp[a3]) fun i u k h1 h2=>?_
 rw[List.getElem?_map,<-a1,List.getElem?_map] at h1;rw[List.getElem?_map,List.getElem?_map] at h2
 cases hz3:Z[i]? with
 |none=>rw[hz3] at h1;cases h1
 |some z=>
  rw[hz3] at h1 h2;obtain rfl:=Zh h1;obtain rfl:=Zh h2;exact(a0 z (hZ.mem_iff.1 (Zk hz3))).2
theorem p9 (hg:w.heap[g]?=some (.cells #[.slice A us.length c] 152 (0,0)))(hr:ce Q w 41 1 A us.length c us)(hQ:Q g)(hv:br (VW Q w) us ks):VW Q w (.iface 52 (.pointer (some ⟨g,0,none⟩))) (cR ks):=
 VW.list g A c us ks hQ hg hr hv.1 fun i u k h1 h2=>hv.2 i u k h1 h2
