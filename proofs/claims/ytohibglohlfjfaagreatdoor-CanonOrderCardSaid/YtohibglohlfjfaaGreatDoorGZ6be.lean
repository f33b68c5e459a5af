import Derived.Test.YtohibglohlfjfaaGreatDoorGZ6bd
import Derived.Shelf.SlSortCmp.WholeK
import Derived.Handy
import Derived.Shelf.Strconv.Itoa3
import Derived.Lib.AppendIntMem
set_option linter.unusedVariables false
set_option linter.unusedSimpArgs false
set_option maxHeartbeats 64000000
set_option maxRecDepth 100000
namespace Go.Proofs.YtohibglohlfjfaaGreatDoor
open Go.RowKit Go.Shelf
variable {cs:Array Value}{L S:List (ByteArray×Value)}{y:List Int}{us:List Value}{base c g i m n q:Nat}{P:Nat->Prop}{A:Option Addr}{u v x:Value}{w w':World}
theorem pD (x:Int)(w:World):Calls Tryz.prog 167 #[.int .i32 x] w fun e w'=>e =.returned (.bool false)/\w=w':=by
 go_enter Tryz.func167,Tryz.ntmps167;go_wp2_with fail;go_ret;exact⟨by simp,rfl⟩
def xO (a b:Int):Int:=if a<b then -1 else if b<a then 1 else 0
theorem tC (a b:Int)(w:World):Calls Tryz.prog 130 #[.int .i32 a,.int .i32 b] w fun e w'=>e =.returned (.int .i64 (xO a b))/\w=w':=by
 have h1:=Qa (fun w=>pD a w);have h2:=Qa (fun w=>pD b w);go_enter Tryz.func130,Tryz.ntmps130;go_wp2_with fail;refine(h1.out _).mono ?_;rintro e w' ⟨rfl,rfl⟩;go_wp2_with fail;refine(h2.out _).mono ?_;rintro e w' ⟨rfl,rfl⟩
 by_cases h3:a<b
 ·have Hv:=Qa (show xO a b = -1 from if_pos h3);go_wp2_with fail;go_ret;exact⟨by rw[Hv.out];rfl,rfl⟩
 by_cases h4:b<a
 ·have Hv:=Qa (show xO a b=1 from(if_neg h3).trans (if_pos h4));go_wp2_with fail;go_ret;exact⟨by rw[Hv.out];rfl,rfl⟩
 have Hv:=Qa (show xO a b=0 from(if_neg h3).trans (if_neg h4));go_wp2_with fail;go_ret;exact⟨by rw[Hv.out];rfl,rfl⟩
theorem rC.read {l:List Int}(h:rC w base (.slice A n q) l):n=l.length/\∀ (i:Nat) c,l[i]?=some c->∃g,A=some ⟨g,0,none⟩/\w.cell? ⟨g,i,none⟩=some (.int .i32 c):=by
 obtain⟨A',q',e,_,_,hA⟩:=ag h;obtain⟨rfl,rfl,rfl⟩:=Value.slice.inj e;refine⟨rfl,fun i c hc=>?_⟩;obtain⟨_,⟨e1,h0⟩|⟨g,cap,cur,e1,_⟩⟩:=id h
 ·have:=(List.getElem?_eq_some_iff.1 hc).1;omega
 ·obtain⟨rfl,-,rfl⟩:=Value.slice.inj e1;refine⟨g,rfl,?_⟩;rw[aL h rfl i (by have:=(List.getElem?_eq_some_iff.1 hc).1;omega),List.getElem?_map,hc];rfl
theorem pd {B:Option Addr}{r base2:Nat}{x:List Int}(hx:rC w base (.slice A n q) x)(hy:rC w base2 (.slice B m r) y)(a6:x.length<=4294967296)(a7:y.length<=4294967296):Calls Tryz.prog 91 #[.slice A n q,.slice B m r] w fun e w'=>e =.returned (.int .i64 (aw x y))/\w=w':=by
 obtain⟨rfl,rx⟩:=hx.read;obtain⟨rfl,ry⟩:=hy.read;have Hx:=Qa rx;have Hy:=Qa ry;clear hx hy rx ry;go_enter Tryz.func91,Tryz.ntmps91;go_wp2_with fail
 go_loopg [11] x.length (fun k s11 wr=> ∃i:Nat,k+i=x.length/\s11 =.int .i64 i/\i<=y.length/\aw (x.drop i) (y.drop i)=aw x y/\wr=w)
 case atStart=>exact⟨0,rfl,rfl,Zk _,rfl,rfl⟩
 case round=>
  obtain⟨i,hk,rfl,a9,hc,rfl⟩:=hrel;have Hc:=Qa hc;have Hk:=Qa hk
  by_cases hlt:i<x.length
  ·obtain⟨a,ha⟩:∃a,x[i]?=some a:=⟨_,Zd hlt⟩;obtain⟨gx,rfl,cx⟩:=Hx.out i a ha;have a5:(i:Int)<x.length:=by omega
   have a0:x.drop i=a::x.drop (i+1):=by rw[List.drop_eq_getElem_cons hlt];congr 1;rw[Zd hlt] at ha;exact Zi ha
   by_cases hly:i<y.length
   ·obtain⟨b,hb⟩:∃b,y[i]?=some b:=⟨_,Zd hly⟩;obtain⟨gy,rfl,cy⟩:=Hy.out i b hb;have a3:y.drop i=b::y.drop (i+1):=by rw[List.drop_eq_getElem_cons hly];congr 1;rw[Zd hly] at hb;exact Zi hb
    have a1:(i:Int)<y.length:=by omega
    have a2:¬ (y.length:Int)<=i:=by omega
    have Hc2:=Qa (show aw x y=if a<b then -1 else if b<a then 1 else aw (x.drop (i+1)) (y.drop (i+1)) by rw[<-Hc.out,a0,a3];rfl);clear hc a0 a3 ha hb hk;have s1:IntKind.i64.wrap ((i:Int)+1)= ((i+1:Nat):Int):=by rw[IntWalk.i64_in _ (by omega)];omega
    go_wp2_with fail;refine(tC a b _).mono ?_;rintro e w' ⟨rfl,rfl⟩
    by_cases h3:a<b
    ·rw[show xO a b = -1 from if_pos h3];rw[if_pos h3] at Hc2;go_wp2_with fail;go_ret;exact⟨by rw[Hc2.out];rfl,rfl⟩
    rw[if_neg h3] at Hc2
    by_cases h4:b<a
    ·rw[show xO a b=1 from(if_neg h3).trans (if_pos h4)];rw[if_pos h4] at Hc2;go_wp2_with fail;go_ret;exact⟨by rw[Hc2.out];rfl,rfl⟩
    rw[show xO a b=0 from(if_neg h3).trans (if_neg h4)];rw[if_neg h4] at Hc2;go_wp2_with fail;go_roundg (x.length - (i+1))
    case measure=>have:=Hk.out;omega
    case rel=>exact⟨i+1,by omega,rfl,by omega,Hc2.out.symm,rfl⟩
   ·have a2:(y.length:Int)<=i:=by omega
    have Hc2:=Qa (show aw x y=1 by rw[<-Hc.out,a0,show y.drop i = [] from List.drop_of_length_le (by omega)];rfl);clear hc a0 ha hk;go_wp2_with fail;go_ret;exact⟨by rw[Hc2.out];rfl,rfl⟩
  ·have a5:¬ (i:Int)<x.length:=by omega
   have a4:i=x.length:=by omega
   have a0:x.drop i = []:=List.drop_of_length_le (by omega)
   by_cases hly:i<y.length
   ·have a1:(x.length:Int)<y.length:=by omega
    have Hc2:=Qa (show aw x y = -1 by rw[<-Hc.out,a0,List.drop_eq_getElem_cons hly];rfl);clear hc a0 hk a4;go_wp2_with fail;go_ret;exact⟨by rw[Hc2.out];rfl,rfl⟩
   ·have a1:¬ (x.length:Int)<y.length:=by omega
    have Hc2:=Qa (show aw x y=0 by rw[<-Hc.out,a0,show y.drop i = [] from List.drop_of_length_le (by omega)];rfl);clear hc a0 hk a4;go_wp2_with fail;go_ret;exact⟨by rw[Hc2.out];rfl,rfl⟩
def jB (s:ByteArray):Prop:=du s/\s.size<=4294967296
theorem jB.len {s:ByteArray}(h:jB s):(nm s).length<=4294967296:=by
 have h1:=iA h.1.nm.1;rw[h.1.nm.2] at h1;have:s.data.toList.length=s.size:=by simp
 have:=h.2;omega
theorem AZ {s t:ByteArray}(hs:jB s)(ht:jB t):Calls Tryz.prog 68 #[.string s,.string t] w fun e w'=>e =.returned (.int .i64 (aw (nm s) (nm t)))/\bU w w':=by
 have H1:=Qa (pk (w:=w) hs.1 hs.2);have H2:=Qa (fun w=>pk (w:=w) ht.1 ht.2);have L1:=Qa hs.len;have L2:=Qa ht.len;clear hs ht;go_enter Tryz.func68,Tryz.ntmps68;go_wp2_with fail;refine Za H1 ?_;rintro e w1 ⟨v1,rfl,a0,a3⟩;obtain⟨A1,q1,rfl,-⟩:=ag a0;have a9:=Qa a0;have a4:=Qa a3;clear a0 a3;go_wp2_with fail;refine(H2.out w1).mono ?_;rintro e w2 ⟨v2,rfl,a1,a2⟩;obtain⟨A2,q2,rfl,-⟩:=ag a1;have a7:=Qa a1;have a5:=Qa (show rC w2 w.heap.size (.slice A1 (nm s).length q1) (nm s) from ao a9.out a2.b (Zb _));have a6:=Qa (a4.out.trans a2);clear a1 a2;go_wp2_with fail;refine(pd a5.out a7.out L1.out L2.out).mono ?_;rintro e w3 ⟨rfl,rfl⟩;go_wp2_with fail;go_ret;exact⟨rfl,a6.out⟩
theorem xz {s t:ByteArray}(hs:jB s)(ht:jB t):Calls Tryz.prog 67 #[.agg #[.string s,u],.agg #[.string t,v]] w fun e w'=>e =.returned (.int .i64 (aw (nm s) (nm t)))/\bU w w':=by
 have H:=Qa (fun w=>AZ (w:=w) hs ht);have Hb:=Qa ((bU.alloc w (.cells #[.string s,u] 97)).trans (bU.alloc _ (.cells #[.string t,v] 97)));clear hs ht;go_enter Tryz.func67,Tryz.ntmps67;go_wp2_with fail;refine(H.out _).mono ?_;rintro e w1 ⟨rfl,a0⟩;have a1:=Qa (Hb.out.trans a0);clear a0;go_wp2_with fail;go_ret;exact⟨rfl,a1.out⟩
open Go.Lib Go.Sort
abbrev Mb:={p:ByteArray×Value // jB p.1/\EZ p.2}
theorem jB.empty:jB ⟨#[]⟩:=⟨⟨[],by simp,rfl⟩,by decide⟩
instance:Inhabited Mb:=⟨⟨(⟨#[]⟩,.iface 0 undef),jB.empty,0,undef,rfl⟩⟩
def ik (p:Mb):List Value:= [.string p.1.1,p.1.2]
def IB (x y:Mb):Int:=aw (nm x.1.1) (nm y.1.1)
instance (a b:ByteArray):Decidable (fD a b):=by unfold fD;infer_instance
theorem Ju (x y:Mb):ltOf IB x y=decide (fD x.1.1 y.1.1):=by
 unfold ltOf IB fD;rfl
theorem J3:SWO (ltOf IB) where
 irrefl x:=by rw[Ju];simp[j4]
 trans x y z h1 h2:=by rw[Ju] at *;simp only[decide_eq_true_eq] at *;exact gJ h1 h2
 ntrans x y z h1 h2:=by
  rw[Ju] at *;simp only[decide_eq_false_iff_not] at *;intro h
  by_cases e:x.1.1=y.1.1
  ·rw[e] at h;exact h2 h
  ·exact h2 (gJ (jm h1 e) h)
theorem Ef (x y:Mb)(w:World):Calls Tryz.prog 67 #[.agg #[.string x.1.1,x.1.2],.agg #[.string y.1.1,y.1.2]] w fun e w'=>e =.returned (.int .i64 (IB x y))/\∃q os',w'=grow (w.drewN q) os':=
 (xz x.2.1 y.2.1).mono fun _ _ ⟨h1,h2⟩=>⟨h1,h2.grow⟩
theorem Ec (blk off size:Nat)(w:World):CmpLays Tryz.prog 67 #[] ik 2 IB blk off size w:=fun _ _ _ _ x y=>Ef x y _
def rD:Go.Shelf.Ren:=⟨fun|6=>66|15=>90|14=>89|28=>128|29=>129|20=>120|21=>121|22=>122|23=>123|24=>124|25=>125|26=>126|27=>127|46=>162|47=>163|48=>164|49=>165|50=>166|57=>192|n=>n,fun|22=>88|24=>97|25=>156|3=>3|39=>176|0=>0|53=>250|55=>252|4=>4|46=>244|45=>243|50=>229|5=>5|9=>9|66=>299|70=>303|76=>328|77=>161|n=>n,fun|n=>n⟩
theorem Cy:Go.Proofs.SlLaysF0.n6 Tryz.prog rD:={
 mixed:=by kernel_rfl
 f6:=⟨"slices.SortFunc[[]wicket/tree.Member,wicket/tree.Member]",by decide,Tryz.func66.trans (congrArg some (by kernel_rfl))⟩
 f14:=⟨"slices.pdqsortCmpFunc[wicket/tree.Member]",by decide,Tryz.func89.trans (congrArg some (by kernel_rfl))⟩
 f15:=Tryz.func90.trans (congrArg some (by kernel_rfl))
 f20:=⟨"slices.insertionSortCmpFunc[wicket/tree.Member]",by decide,Tryz.func120.trans (congrArg some (by kernel_rfl))⟩
 f21:=⟨"slices.heapSortCmpFunc[wicket/tree.Member]",by decide,Tryz.func121.trans (congrArg some (by kernel_rfl))⟩
 f22:=⟨"slices.breakPatternsCmpFunc[wicket/tree.Member]",by decide,Tryz.func122.trans (congrArg some (by kernel_rfl))⟩
 f23:=⟨"slices.choosePivotCmpFunc[wicket/tree.Member]",by decide,Tryz.func123.trans (congrArg some (by kernel_rfl))⟩
 f24:=⟨"slices.reverseRangeCmpFunc[wicket/tree.Member]",by decide,Tryz.func124.trans (congrArg some (by kernel_rfl))⟩
 f25:=⟨"slices.partialInsertionSortCmpFunc[wicket/tree.Member]",by decide,Tryz.func125.trans (congrArg some (by kernel_rfl))⟩
 f26:=⟨"slices.partitionEqualCmpFunc[wicket/tree.Member]",by decide,Tryz.func126.trans (congrArg some (by kernel_rfl))⟩
 f27:=⟨"slices.partitionCmpFunc[wicket/tree.Member]",by decide,Tryz.func127.trans (congrArg some (by kernel_rfl))⟩
 f28:=Tryz.func128.trans (congrArg some (by kernel_rfl))
 f29:=Tryz.func129.trans (congrArg some (by kernel_rfl))
 f46:=⟨"slices.siftDownCmpFunc[wicket/tree.Member]",by decide,Tryz.func162.trans (congrArg some (by kernel_rfl))⟩
 f47:=Tryz.func163.trans (congrArg some (by kernel_rfl))
 f48:=Tryz.func164.trans (congrArg some (by kernel_rfl))
 f49:=⟨"slices.medianAdjacentCmpFunc[wicket/tree.Member]",by decide,Tryz.func165.trans (congrArg some (by kernel_rfl))⟩
 f50:=⟨"slices.medianCmpFunc[wicket/tree.Member]",by decide,Tryz.func166.trans (congrArg some (by kernel_rfl))⟩
 f57:=⟨"slices.order2CmpFunc[wicket/tree.Member]",by decide,Tryz.func192.trans (congrArg some (by kernel_rfl))⟩
 t0:=Tryz.underlying0
 a0:=Tryz.isAgg0
 z0:=Tryz.sizeOf0
 v0:=Tryz.zeroValue0
 t3:=Tryz.underlying3
 a3:=Tryz.isAgg3
 z3:=Tryz.sizeOf3
 v3:=Tryz.zeroValue3
 t4:=Tryz.underlying4
 a4:=Tryz.isAgg4
 z4:=Tryz.sizeOf4
 v4:=Tryz.zeroValue4
 t5:=Tryz.underlying5
 a5:=Tryz.isAgg5
 z5:=Tryz.sizeOf5
 v5:=Tryz.zeroValue5
 t9:=Tryz.underlying9
 a9:=Tryz.isAgg9
 z9:=Tryz.sizeOf9
 v9:=Tryz.zeroValue9
 t22:=Tryz.underlying88
 a22:=Tryz.isAgg88
 z22:=Tryz.sizeOf88
 v22:=Tryz.zeroValue88
 t25:=Tryz.underlying156
 a25:=Tryz.isAgg156
 z25:=Tryz.sizeOf156
 v25:=Tryz.zeroValue156
 t39:=Tryz.underlying176
 a39:=Tryz.isAgg176
 z39:=Tryz.sizeOf176
 v39:=Tryz.zeroValue176
 t45:=Tryz.underlying243
 a45:=Tryz.isAgg243
 z45:=Tryz.sizeOf243
 v45:=Tryz.zeroValue243
 t46:=Tryz.underlying244
 a46:=Tryz.isAgg244
 z46:=Tryz.sizeOf244
 v46:=Tryz.zeroValue244
 t50:=Tryz.underlying229
 a50:=Tryz.isAgg229
 z50:=Tryz.sizeOf229
 v50:=Tryz.zeroValue229
 t53:=Tryz.underlying250
 a53:=Tryz.isAgg250
 z53:=Tryz.sizeOf250
 v53:=Tryz.zeroValue250
 t55:=Tryz.underlying252
 a55:=Tryz.isAgg252
 z55:=Tryz.sizeOf252
 v55:=Tryz.zeroValue252
 t66:=Tryz.underlying299
 a66:=Tryz.isAgg299
 z66:=Tryz.sizeOf299
 v66:=Tryz.zeroValue299
 t70:=Tryz.underlying303
 a70:=Tryz.isAgg303
 z70:=Tryz.sizeOf303
 v70:=Tryz.zeroValue303
 t76:=Tryz.underlying328
 a76:=Tryz.isAgg328
 z76:=Tryz.sizeOf328
 v76:=Tryz.zeroValue328
 t77:=Tryz.underlying161
 a77:=Tryz.isAgg161
 z77:=Tryz.sizeOf161
 v77:=Tryz.zeroValue161
}
def CQ (L:List (ByteArray×Value)):Prop:= ∀p∈L,jB p.1/\EZ p.2
open Classical in
noncomputable def Iz (p:ByteArray×Value):Mb:=if h:jB p.1/\EZ p.2 then⟨p,h⟩ else default
theorem EU {p:ByteArray×Value}(h:jB p.1/\EZ p.2):(Iz p).1=p:=by unfold Iz;rw[dif_pos h]
theorem FA (hb:CQ L){p:ByteArray×Value}(hp:L[i]?=some p):(((L.map Iz).toArray)[i]!).1=p:=by
 have hi:=(List.getElem?_eq_some_iff.1 hp).1;have h0:=hb p (Zl hp);have e:((L.map Iz).toArray)[i]! =Iz p:=by
  rw[getElem!_pos _ i (by simpa using hi)];simp only[List.getElem_toArray,List.getElem_map]
  congr 1
  have:=Zd hi;rw[hp] at this;exact(Zi this).symm
 rw[e];exact EU h0
def mL (L:List (ByteArray×Value)):Prop:=L.Pairwise fun p q=> ¬fD q.1 p.1
def Kj (w:World)(base g:Nat)(L:List (ByteArray×Value))(e:Ending)(w':World):Prop:= ∃S:List (ByteArray×Value),mL S/\S.Perm L/\e =.returned (.tuple #[])/\IP w' g S/\(∃cur:Array Value,w'.heap[g]?=some (.cells cur 97 (0,0))/\L.length*2<=cur.size)/\Below base w w'
theorem uv (h:vD w base (.slice (some ⟨g,0,none⟩) L.length q) L)(hb:CQ L)(hB:base<=w.heap.size)(hl:L.length<=4294967296):Calls Tryz.prog 66 #[.slice (some ⟨g,0,none⟩) L.length q,.func (.func 67) #[] #[]] w (Kj w base g L):=by
 obtain⟨d,hd⟩:∃d:Array Mb,(L.map Iz).toArray=d:=⟨_,rfl⟩;have a1:d.size=L.length:=by rw[<-hd];simp
 have a6:∀ (i:Nat) (p:ByteArray×Value),L[i]?=some p->(d[i]!).1=p:=fun i p hp=>by rw[<-hd];exact FA hb hp
 obtain⟨a7,cur,a0⟩:=aj h rfl;have a7:base<=g:=a7;have b0:=h.read;have a9:L.length*2<=cur.size:=by
  obtain⟨_,⟨e1,_⟩|⟨g',cap,cur',e1,_,a4,h2,h3,h4,h5⟩⟩:=id h
  ·cases e1
  ·obtain⟨e2,-,-⟩:=Value.slice.inj e1;obtain rfl:g=g':=by injection e2 with e2;injection e2
   rw[a0] at a4;obtain rfl:cur=cur':=by injection a4 with a4;injection a4
   rw[h4];omega
 have hH:HoldsK ik 2 w g 0 d:=by
  intro j hj;rw[size_flatK,a1] at hj;obtain⟨p,hp⟩:∃p,L[j/2]?=some p:=⟨_,Zd (by omega)⟩;obtain⟨c1,c2⟩:=b0 _ _ hp;refine⟨?_,ak a0 _⟩;rw[get_flatK ik 2 d j (by rw[a1];exact hj)];have hv:=a6 _ _ hp;rw[Nat.zero_add];rcases Nat.mod_two_eq_zero_or_one j with hm|hm
  ·rw[hm,show j= (j/2)*2 by omega];rw[show(j/2)*2/2=j/2 by omega,c1];unfold ik;rw[hv];rfl
  ·rw[hm,show j= (j/2)*2+1 by omega];rw[show((j/2)*2+1)/2=j/2 by omega,c2];unfold ik;rw[hv];rfl
 have eg:∀args w,(callFunc 67 args).run Tryz.prog w =.ok (.enter 67 args) w:=enters_of Tryz.func67 (by kernel_rfl) rfl;have a3:=AnyQ.slices_SortFunc Cy 2 Tryz.isAgg97 Tryz.sizeOf97 ik (fun _=>rfl) (fun x v hv=>by simp[ik] at hv;rcases hv with rfl|rfl;(· rfl);exact x.2.2.one) IB J3 67 #[] g 0 q d w eg (Ec g 0 d.size w) hH (ae a0) (by rw[a1];omega);change Calls Tryz.prog 66 _ _ _ at a3;rw[a1] at a3;refine a3.mono ?_;rintro e w' ⟨rfl,d',n,os,hp,hs,rfl⟩;have a5:d'.size=L.length:=by rw[hp.1,a1]
 have hsz:(putRowK ik 2 (Sort.ahead w n) g 0 d').heap.size=w.heap.size:=by unfold putRowK putRow mapBlock Sort.ahead;simp
 refine⟨d'.toList.map (·.1),?_,?_,rfl,?_,?_,?_⟩
 ·unfold mL;rw[List.pairwise_map,List.pairwise_iff_getElem];intro i j hi hj b1;have h1:=hs i j (Zk _) b1 (by simpa [a5] using hj);rw[Ju] at h1;rw[getElem!_pos d' i (by simpa using hi),getElem!_pos d' j (by simpa using hj)] at h1;simp only[Array.getElem_toList];simpa only[decide_eq_false_iff_not] using h1
 ·have h1:=hp.2.2;rw[<-a1] at h1;have e1:d.extract 0 d.size=d:=by simp
  have e2:d'.extract 0 d.size=d':=by rw[<-hp.1];simp
  rw[e1,e2] at h1;have h2:=h1.map (·.1);have e3:d.toList.map (·.1)=L:=by
   apply List.ext_getElem?
   intro i;rw[List.getElem?_map]
   by_cases hi:i<L.length
   ·obtain⟨p,a2⟩:∃p,L[i]?=some p:=⟨_,Zd hi⟩;have hv:=a6 i p a2;rw[getElem!_pos d i (by omega)] at hv;rw[a2,Zd (by simpa [a1] using hi)];simp only[Array.getElem_toList,Option.map_some,hv]
   ·rw[List.getElem?_eq_none (by simpa [a1] using hi),List.getElem?_eq_none (by omega)];rfl
  rw[e3] at h2;exact h2
 ·have hK:=holdsK_grow ik 2 (putRowK ik 2 (Sort.ahead w n) g 0 d') os g 0 d' (by rw[hsz];exact ae a0) (holdsK_putRowK ik 2 (Sort.ahead w n) g 0 d d' (holdsK_ahead ik 2 w n g 0 d hH) hp.1);intro i p a2;rw[List.getElem?_map] at a2;have hi:i<d'.size:=by
   have:=(List.getElem?_eq_some_iff.1 (show(d'.toList.map (·.1))[i]?=some p by rw[List.getElem?_map];exact a2)).1;simpa using this
  have hv:(d'[i]!).1=p:=by
   rw[Zd (by simpa using hi)] at a2;rw[getElem!_pos d' i hi];simpa using a2
  have k1:=hK.cell hi (show 0<2 by decide);have k2:=hK.cell hi (show 1<2 by decide);have e1:((ik d'[i]!)[0]! :Value) =.string p.1:=by unfold ik;rw[hv];rfl
  have e2:((ik d'[i]!)[1]! :Value)=p.2:=by unfold ik;rw[hv];rfl
  have k3:=k1.1;have k4:=k2.1;rw[e1,show 0+i*2+0=i*2 by omega] at k3;rw[e2,show 0+i*2+1=i*2+1 by omega] at k4;exact⟨k3,k4⟩
 ·have hlt:=ae a0;have hg:∃f:Array Value->Array Value,(∀c,(f c).size=c.size)/\(putRowK ik 2 (Sort.ahead w n) g 0 d').heap[g]?=some (.cells (f cur) 97 (0,0)):=by
   refine⟨fun c=>putCells id 0 (flatK ik 2 d') c,fun c=>by unfold putCells;simp,?_⟩;unfold putRowK putRow mapBlock Sort.ahead;simp only;have h':w.heap[g] =.cells cur 97 (0,0):=by simpa [Array.getElem?_eq_getElem hlt] using a0
   rw[Array.getElem?_eq_getElem (by simpa using hlt),Array.getElem_modify_self,h'];rfl
  obtain⟨f,hf,hg⟩:=hg;refine⟨f cur,?_,by rw[hf];exact a9⟩;unfold sortWorldK;rw[heap_grow_old _ os (by rw[hsz];exact hlt)];exact hg
 ·have hg:∀k,k<base->(sortWorldK ik 2 w g 0 n d' os).heap[k]?=w.heap[k]?:=by
   intro k hk;unfold sortWorldK;rw[heap_grow_old _ os (by unfold putRowK putRow mapBlock Sort.ahead;simp;omega)];unfold putRowK putRow mapBlock Sort.ahead;simp only;rw[Array.getElem?_modify,if_neg (by omega)]
  refine⟨rfl,rfl,rfl,?_,hg⟩;unfold sortWorldK grow putRowK putRow mapBlock Sort.ahead;simp
theorem wv (w:World):Calls Tryz.prog 129 #[.int .u64 0] w fun e w'=>e =.returned (.int .i64 0)/\w=w':=by
 go_enter Tryz.func129,Tryz.ntmps129;go_wp2_with fail;go_ret;exact⟨by show Ending.returned (.int .i64 (wrap64 (wrap64 (len8 0))))=_;exact congrArg (fun x=>Ending.returned (.int .i64 x)) (by decide +kernel),rfl⟩
theorem Cv (w:World):Calls Tryz.prog 90 #[.int .u64 0] w fun e w'=>e =.returned (.int .i64 0)/\w=w':=by
 have h1:=Qa (fun w=>wv w);go_enter Tryz.func90,Tryz.ntmps90;go_wp2_with fail;refine(h1.out _).mono ?_;rintro e w' ⟨rfl,rfl⟩;go_wp2_with fail;go_ret;exact⟨rfl,rfl⟩
theorem oM (A:Option Addr)(c:Nat)(f:Value)(w:World):Calls Tryz.prog 120 #[.slice A 0 c,.int .i64 0,.int .i64 0,f] w fun e w'=>e =.returned (.tuple #[])/\w=w':=by
 go_enter Tryz.func120,Tryz.ntmps120;go_wp2_with fail
 go_loopg [8] 0 (fun _ s8 wr=>s8 =.int .i64 1/\wr=w)
 case atStart=>exact⟨rfl,rfl⟩
 case round=>
  obtain⟨rfl,rfl⟩:=hrel;go_wp2_with fail;go_end0;exact⟨rfl,rfl⟩
theorem Cl (A:Option Addr)(c:Nat)(f:Value)(w:World):Calls Tryz.prog 89 #[.slice A 0 c,.int .i64 0,.int .i64 0,.int .i64 0,f] w fun e w'=>e =.returned (.tuple #[])/\w=w':=by
 have h1:=Qa (fun w=>oM A c f w);go_enter Tryz.func89,Tryz.ntmps89;go_wp2_with fail
 go_loopg [1,2] 0 (fun _ s1 s2 wr=>s1 =.int .i64 0/\s2 =.int .i64 0/\wr=w)
 case atStart=>exact⟨rfl,rfl,rfl⟩
 case round=>
  obtain⟨rfl,rfl,rfl⟩:=hrel;go_wp2_with fail;refine(h1.out _).mono ?_;rintro e w' ⟨rfl,rfl⟩;go_wp2_with fail;(try simp only[Exit.inBlock,Exit.then]);refine Zh (results_none rfl ..) rfl ?_;exact⟨rfl,rfl⟩
theorem zZ (A:Option Addr)(c:Nat)(f:Value)(w:World):Calls Tryz.prog 66 #[.slice A 0 c,f] w fun e w'=>e =.returned (.tuple #[])/\w=w':=by
 have h1:=Qa (fun w=>Cv w);have h2:=Qa (fun w=>Cl A c f w);go_enter Tryz.func66,Tryz.ntmps66;go_wp2_with fail;refine(h1.out _).mono ?_;rintro e w' ⟨rfl,rfl⟩;go_wp2_with fail;refine(h2.out _).mono ?_;rintro e w' ⟨rfl,rfl⟩;go_wp2_with fail;go_end0;exact⟨rfl,rfl⟩
def Jm (w:World)(n:Nat)(L:List (ByteArray×Value))(e:Ending)(w':World):Prop:= ∃g A c S,e =.returned (.tuple #[.pointer (some ⟨g,0,none⟩),.nilIface])/\Below w.heap.size w w'/\w.heap.size<=g/\w'.heap[g]?=some (.cells #[.slice A n c] 158 (0,0))/\cA (w.heap.size<= ·) w' 97 2 A n c (fI S)/\S.Perm L/\(S.map Prod.fst).Pairwise fD
theorem uR (h:mL S)(hn:(S.map Prod.fst).Nodup):(S.map Prod.fst).Pairwise fD:=by
 rw[List.pairwise_map];rw[List.Nodup,List.pairwise_map] at hn;exact(h.and hn).imp fun ⟨h1,h2⟩=>jm h1 (fun e=>h2 e.symm)
def Rm (w:World)(A:Option Addr)(L:List (ByteArray×Value)):Prop:= ∀ (i:Nat) (p:ByteArray×Value),L[i]?=some p->∃g,A=some ⟨g,0,none⟩/\w.cell? ⟨g,i*2,none⟩=some (.string p.1)/\w.cell? ⟨g,i*2+1,none⟩=some p.2
theorem Rm.below (h:Rm w A L)(hb:Below w.heap.size w w'):Rm w' A L:=fun i p hp=>by
 obtain⟨g,h1,h2,h3⟩:=h i p hp;exact⟨g,h1,Zg hb h2,Zg hb h3⟩
theorem vD.rm (h:vD w base (.slice A n q) L):n=L.length/\Rm w A L:=by
 obtain⟨A',q',e,_,_,hA⟩:=ag h;obtain⟨rfl,rfl,rfl⟩:=Value.slice.inj e;refine⟨rfl,fun i p hp=>?_⟩;obtain⟨g,rfl⟩:=hA (by have:=(List.getElem?_eq_some_iff.1 hp).1;omega);exact⟨g,rfl,h.read i p hp⟩
theorem gd (hv:yX 2 w v n (fI L))(hg:CQ L)(a9:(L.map Prod.fst).Nodup)(hl:n<=4294967296):Calls Tryz.prog 43 #[v] w (Jm w n L):=by
 have a7:L.length=n:=by
  have:=hv.1;rw[kT] at this;omega
 obtain⟨hm,d2,A,cap,rfl,hc,hA⟩:=id hv;have Hk:=Qa (o7 hv (fun u h=>by
  obtain⟨p,hp,hu⟩:=List.mem_flatMap.1 h;simp at hu;rcases hu with rfl|rfl
  ·rfl
  ·exact(hg p hp).2.one) hl)
 have Hg:=Qa hg;have c6:=Qa a9;clear hv hA hg a9;go_enter Tryz.func43,Tryz.ntmps43;go_wp2_with fail;refine Za Hk ?_;rintro e w1 ⟨A1,c1,rfl,b1,b7⟩;have ho:vD w1 w.heap.size (.slice A1 n c1) L:=by unfold vD;rw[a7];exact b7
 have Ho:=Qa ho;have b9:=Qa b1;have c8:=Qa ho.rm.2;have a2:=Qa a7;clear b7 ho b1 Hk hm a7;go_wp2_with fail
 go_loopg [6,12] n (fun k _ s12 wr=> ∃i:Nat,k+i=n/\s12 =.int .i64 i/\Below w1.heap.size w1 wr)
 case atStart=>exact⟨0,rfl,rfl,Ze _ _⟩
 case round=>
  obtain⟨i,hk,rfl,hb⟩:=hrel;have Hb:=Qa hb
  by_cases hlt:i<n
  ·obtain⟨p,hp⟩:∃p,L[i]?=some p:=⟨_,Zd (by have:=a2.out;omega)⟩;obtain⟨g,rfl,q0,q1⟩:=(c8.out.below hb) i p hp;obtain⟨t,x,hx⟩:=(Hg.out p (Zl hp)).2;rw[hx] at q1;have a0:(i:Int)<n:=by omega
   have Hk:=Qa hk;have qe:∀w,(binOp .eql 32 (.iface t x) .nilIface).run Tryz.prog w =.ok (.bool false) w:=fun w=>rQ w t x
   clear hp hb hx hk;go_wp2_with fail;go_roundg (n - (i+1))
   case measure=>have:=Hk.out;omega
   case rel=>exact⟨i+1,by omega,by go_num,bu Hb.out (ac _ _)⟩
  ·obtain rfl:i=n:=by omega
   have a0:¬ (i:Int)<i:=by omega
   clear hk hb hlt;go_wp2_with fail;have a5:=bu b9.out Hb.out;have a1:=Qa (show vD wr w.heap.size (.slice A1 i c1) L from ao Ho.out Hb.out (Zb _));have c4:=Qa a5;have b5:Calls Tryz.prog 66 #[.slice A1 i c1,.func (.func 67) #[] #[]] wr fun e w'=>e =.returned (.tuple #[])/\Below w.heap.size wr w'/\∃S,S.Perm L/\mL S/\Rm w' A1 S/\cA (w.heap.size<= ·) w' 97 2 A1 i c1 (fI S):=by
    rcases Nat.eq_zero_or_pos i with h0|h0
    ·subst h0;obtain rfl:=List.eq_nil_of_length_eq_zero a2.out;refine(zZ A1 c1 _ wr).mono ?_;rintro e w' ⟨rfl,rfl⟩;exact⟨rfl,Ze _ _, [],List.Perm.refl _,List.Pairwise.nil,fun i p h=>by simp at h,cA.of_own a1.out⟩
    ·obtain⟨A',q',e,hcc,d0,c0⟩:=ag a1.out;obtain⟨rfl,rfl,rfl⟩:=Value.slice.inj e;obtain⟨g,rfl⟩:=c0 (by have:=a2.out;omega);have b8:=uv a1.out Hg.out a5.size (by have:=a2.out;omega);refine b8.mono ?_;rintro e w' ⟨S,h1,h2,rfl,h3,⟨cur,h4,h5⟩,h6⟩;have c7:S.length=L.length:=h2.length_eq;refine⟨rfl,h6,S,h2,h1,fun i p hp=>⟨g,rfl,h3 i p hp⟩,by rw[kT,c7],hcc,by unfold maxLen at d0 ⊢;have:=(bN a1.out);obtain⟨_,⟨e,_⟩|⟨_,_,_,e,_,_,_,h,_⟩⟩:=id a1.out;(· cases e);obtain⟨-,-,rfl⟩:=Value.slice.inj e;exact h,fun _=>⟨g,rfl,(aj a1.out rfl).1,cur,h4,?_⟩⟩;apply List.ext_getElem?;intro j
     by_cases hj:j<L.length*2
     ·rw[List.getElem?_take_of_lt hj,Array.getElem?_toList];obtain⟨p,hp⟩:∃p,S[j/2]?=some p:=⟨_,Zd (by omega)⟩;obtain⟨c1,c2⟩:=h3 _ _ hp;obtain⟨m1,m2⟩:=rt S _ p hp;unfold World.cell? at c1 c2;simp only[h4] at c1 c2;rcases Nat.mod_two_eq_zero_or_one j with hm|hm
      ·rw[show j/2*2=j by omega] at c1 m1;rw[m1];simpa using c1
      ·rw[show j/2*2+1=j by omega] at c2 m2;rw[m2];simpa using c2
     ·rw[List.getElem?_eq_none (by simp;omega),List.getElem?_eq_none (by rw[kT];omega)]
   refine b5.mono ?_;rintro e w2 ⟨rfl,b0,S,hp,hs,b4,a3⟩;have c3:=Qa (c4.out.trans b0);have Hp:=Qa hp;have Hs:=Qa (uR hs ((hp.map Prod.fst).nodup_iff.2 c6.out));have b3:=Qa b4;have a6:=Qa a3;have a4:=Qa (show S.length=i by rw[hp.length_eq];exact a2.out);clear hp hs b4 a3 b0 b5 a5;go_wp2_with fail
   go_loopg [7] (i - 1) (fun k s7 wr=> ∃j:Nat,k+j=i - 1/\s7 =.int .i64 (j+1:Nat)/\Below w2.heap.size w2 wr)
   case atStart=>exact⟨0,rfl,rfl,Ze _ _⟩
   case round=>
    obtain⟨j,hk,rfl,hb⟩:=hrel;have Hb3:=Qa hb;have Hk:=Qa hk
    by_cases hlt:j+1<i
    ·obtain⟨p,hp⟩:∃p,S[j]?=some p:=⟨_,Zd (by have:=a4.out;omega)⟩;obtain⟨r,hr⟩:∃r,S[j+1]?=some r:=⟨_,Zd (by have:=a4.out;omega)⟩;obtain⟨g,rfl,q0,-⟩:=(b3.out.below hb) j p hp;obtain⟨g',e,r0,-⟩:=(b3.out.below hb) (j+1) r hr;obtain rfl:g=g':=by injection e with e;injection e
     have hne:p.1≠r.1:=by
      refine mR ((List.pairwise_iff_getElem.1 Hs.out) j (j+1) (by simp;have:=a4.out;omega) (by simp;have:=a4.out;omega) (by omega) |> fun h=>?_);simpa [(List.getElem?_eq_some_iff.1 hp).2,(List.getElem?_eq_some_iff.1 hr).2] using h
     have c5:(r.1.toList==p.1.toList)=false:=by rw[jg];simp;exact fun e=>hne e.symm
     have s1:IntKind.i64.wrap (j:Int)= (j:Int):=IntWalk.i64_in _ (by omega);have s2:IntKind.i64.wrap ((j:Int)+1+1)= (j:Int)+1+1:=IntWalk.i64_in _ (by omega);have a0:(j:Int)+1<i:=by omega
     have b6:(j:Int)<i:=by omega
     have d1:((j:Int)+1).toNat=j+1:=by omega
     have c9:(0:Int)<=(j:Int)+1:=by omega
     clear hp hr hb hk hlt hne;go_wp2_with fail;go_quiet (fail);go_wp2_with fail;go_roundg (i - 1 - (j+1))
     case measure=>have:=Hk.out;omega
     case rel=>exact⟨j+1,by omega,by go_num,av Hb3.out _⟩
    ·have a0:¬ (j:Int)+1<i:=by omega
     clear hb hk hlt;go_wp2_with fail;go_ret2;have b2:=bu c3.out Hb3.out;exact⟨_,A1,c1,S,rfl,bu b2 (ac _ _),b2.size,Zf _ _,a6.out.stay fun g o hp hg _ _=>⟨hp,(Below.heap_alloc _ _ _ (ae (ai hg Hb3.out))).trans (ai hg Hb3.out)⟩,Hp.out,Hs.out⟩
def qm:Go.Shelf.Ren:=⟨fun|171=>78|243=>106|246=>146|283=>178|284=>179|285=>180|286=>181|129=>129|317=>198|318=>199|319=>200|320=>201|337=>214|338=>215|n=>n,fun|3=>3|9=>9|2=>2|4=>4|171=>315|0=>0|53=>252|37=>22|5=>5|173=>317|212=>344|51=>250|20=>20|213=>345|46=>176|232=>374|233=>375|n=>n,fun|17=>11|18=>16|19=>17|n=>n⟩
theorem sC:Go.Proofs.LaysM.n171 Tryz.prog qm:={
 mixed:=by kernel_rfl
 f129:=Tryz.func129.trans (congrArg some (by kernel_rfl))
 f171:=Tryz.func78.trans (congrArg some (by kernel_rfl))
 f243:=Tryz.func106.trans (congrArg some (by kernel_rfl))
 f246:=Tryz.func146.trans (congrArg some (by kernel_rfl))
 f283:=Tryz.func178.trans (congrArg some (by kernel_rfl))
 f284:=Tryz.func179.trans (congrArg some (by kernel_rfl))
 f285:=Tryz.func180.trans (congrArg some (by kernel_rfl))
 f286:=Tryz.func181.trans (congrArg some (by kernel_rfl))
 f317:=Tryz.func198.trans (congrArg some (by kernel_rfl))
 f318:=Tryz.func199.trans (congrArg some (by kernel_rfl))
 f319:=Tryz.func200.trans (congrArg some (by kernel_rfl))
 f320:=Tryz.func201.trans (congrArg some (by kernel_rfl))
 f337:=Tryz.func214.trans (congrArg some (by kernel_rfl))
 f338:=Tryz.func215.trans (congrArg some (by kernel_rfl))
 t0:=Tryz.underlying0
 a0:=Tryz.isAgg0
 z0:=Tryz.sizeOf0
 v0:=Tryz.zeroValue0
 t2:=Tryz.underlying2
 a2:=Tryz.isAgg2
 z2:=Tryz.sizeOf2
 v2:=Tryz.zeroValue2
 t3:=Tryz.underlying3
 a3:=Tryz.isAgg3
 z3:=Tryz.sizeOf3
 v3:=Tryz.zeroValue3
 t4:=Tryz.underlying4
 a4:=Tryz.isAgg4
 z4:=Tryz.sizeOf4
 v4:=Tryz.zeroValue4
 t5:=Tryz.underlying5
 a5:=Tryz.isAgg5
 z5:=Tryz.sizeOf5
 v5:=Tryz.zeroValue5
 t9:=Tryz.underlying9
 a9:=Tryz.isAgg9
 z9:=Tryz.sizeOf9
 v9:=Tryz.zeroValue9
 t20:=Tryz.underlying20
 a20:=Tryz.isAgg20
 z20:=Tryz.sizeOf20
 v20:=Tryz.zeroValue20
 t37:=Tryz.underlying22
 a37:=Tryz.isAgg22
 z37:=Tryz.sizeOf22
 v37:=Tryz.zeroValue22
 t46:=Tryz.underlying176
 a46:=Tryz.isAgg176
 z46:=Tryz.sizeOf176
 v46:=Tryz.zeroValue176
 t51:=Tryz.underlying250
 a51:=Tryz.isAgg250
 z51:=Tryz.sizeOf250
 v51:=Tryz.zeroValue250
 t53:=Tryz.underlying252
 a53:=Tryz.isAgg252
 z53:=Tryz.sizeOf252
 v53:=Tryz.zeroValue252
 t171:=Tryz.underlying315
 a171:=Tryz.isAgg315
 z171:=Tryz.sizeOf315
 v171:=Tryz.zeroValue315
 t173:=Tryz.underlying317
 a173:=Tryz.isAgg317
 z173:=Tryz.sizeOf317
 v173:=Tryz.zeroValue317
 t212:=Tryz.underlying344
 a212:=Tryz.isAgg344
 z212:=Tryz.sizeOf344
 v212:=Tryz.zeroValue344
 t213:=Tryz.underlying345
 a213:=Tryz.isAgg345
 z213:=Tryz.sizeOf345
 t232:=Tryz.underlying374
 a232:=Tryz.isAgg374
 z232:=Tryz.sizeOf374
 v232:=Tryz.zeroValue374
 t233:=Tryz.underlying375
 a233:=Tryz.isAgg375
 z233:=Tryz.sizeOf375
 v233:=Tryz.zeroValue375
 g17:=by kernel_rfl
 g18:=by kernel_rfl
 g19:=by kernel_rfl
 i0:=by kernel_rfl
 i2:=by kernel_rfl
 i3:=by kernel_rfl
 i4:=by kernel_rfl
 i5:=by kernel_rfl
 i9:=by kernel_rfl
 i20:=by kernel_rfl
 i37:=by kernel_rfl
 i46:=by kernel_rfl
 i51:=by kernel_rfl
 i53:=by kernel_rfl
 i171:=by kernel_rfl
 i173:=by kernel_rfl
 i212:=by kernel_rfl
 i232:=by kernel_rfl
 i233:=by kernel_rfl
 m17:=by kernel_rfl
 m18:=by kernel_rfl
 m19:=by kernel_rfl
}
def cG (w:World):Prop:=Lib.TabIs Tryz.prog w "internal/strconv.uint64pow10" .u64 Lib.pow10Tab
theorem cG.below (h:cG w)(hb:Below w.heap.size w w'):cG w':=by
 have hg:Tryz.prog.globalNamed "internal/strconv.uint64pow10" = some 11:=by kernel_rfl
 unfold cG Lib.TabIs World.var? at h ⊢;rw[hg] at h ⊢;simp only[Option.bind_some] at h ⊢;rcases ho:w.heap[(11:Nat)]? with _|o
 ·rw[ho] at h;cases h
 ·rw[hb.block _ (ae ho)];exact h
theorem DC (n:Nat)(h1:n<9223372036854775808)(hT:cG w):Calls Tryz.prog 78 #[.int .i64 n] w fun e w'=>e =.returned (.string ⟨(Lib.itoa n).toArray⟩)/\Below w.heap.size w w':=by
 refine(Any.strconv_Itoa sC n (by omega) (by omega) w hT).mono ?_;rintro e w' ⟨rfl,k,os,rfl⟩;exact⟨rfl,Lib.below_grow _ w (Zb _) k os⟩
theorem ur {xs:List Value}(hg:w.heap[g]?=some (.cells #[.slice A n c] 158 (0,0)))(hr:cA P w 97 2 A n c xs)(i:Nat)(hi:i<n){s:ByteArray}(hs:xs[i*2]?=some (.string s))(hu:xs[i*2+1]?=some u) :
  Calls Tryz.prog 58 #[.pointer (some ⟨g,0,none⟩),.int .i64 i] w fun e w'=>e =.returned (.tuple #[.string s,u])/\Below w.heap.size w w':=by
 have c0:w.cell? ⟨g,0,none⟩=some (.slice A n c):=aa hg (j:=0) rfl;obtain⟨b,rfl,-⟩:=hr.ptr (by omega);have c1:=hr.cell (i*2) (by omega);have c2:=hr.cell (i*2+1) (by omega);rw[hs] at c1;rw[hu] at c2;have hm:=hr.2.2.1;unfold maxLen at hm;have Hl:=Qa (m6 hg);clear hg hr hu hs;have h0:¬ (i:Int)<0:=by omega
 have h1:(i:Int)<n:=by omega
 go_enter Tryz.func58,Tryz.ntmps58;go_wp2_with fail;refine Za Hl ?_;rintro e w' ⟨rfl,rfl⟩;go_wp2_with fail;go_quiet (fail);go_wp2_with fail;go_ret2;exact⟨rfl,av (Ze _ _) nq⟩
theorem qO (hT:cG w)(hg:w.heap[g]?=some (.cells #[.slice A n c] 153 (0,0)))(hr:cA P w 32 1 A n c us)(i:Nat)(hi:i<n)(hu:us[i]?=some u) :
  Calls Tryz.prog 56 #[.pointer (some ⟨g,0,none⟩),.int .i64 i] w fun e w'=>e =.returned (.tuple #[.string ⟨(Lib.itoa i).toArray⟩,u])/\Below w.heap.size w w':=by
 have a1:=Qa (xG hg hr i hi hu);have a0:n<=c:=hr.2.1;have hm:=hr.2.2.1;unfold maxLen at hm;clear hg hr hu;go_enter Tryz.func56,Tryz.ntmps56;go_wp2_with fail;refine Za a1 ?_;rintro e w' ⟨rfl,rfl⟩;have Hi:=Qa (DC (w:=w) i (by have:=a0;omega) hT);go_wp2_with fail;refine Za Hi ?_;rintro e w' ⟨rfl,hb⟩;go_wp2_with fail;go_ret2;exact⟨rfl,hb⟩
theorem gP:Calls Tryz.prog 288 #[.agg #[]] w fun e w'=>e =.returned (.int .i64 1)/\Below w.heap.size w w':=by
 go_enter Tryz.func288,Tryz.ntmps288;go_wp2_with fail;go_ret;exact⟨rfl,ac w _⟩
theorem gD:Calls Tryz.prog 290 #[x] w fun e w'=>e =.returned (.int .i64 2)/\Below w.heap.size w w':=by
 go_enter Tryz.func290,Tryz.ntmps290;go_wp2_with fail;go_ret;exact⟨rfl,Ze _ _⟩
theorem iP:Calls Tryz.prog 302 #[.agg cs] w fun e w'=>e =.returned (.int .i64 3)/\Below w.heap.size w w':=by
 go_enter Tryz.func302,Tryz.ntmps302;go_wp2_with fail;go_ret;exact⟨rfl,ac w _⟩
theorem gT:Calls Tryz.prog 294 #[x] w fun e w'=>e =.returned (.int .i64 4)/\Below w.heap.size w w':=by
 go_enter Tryz.func294,Tryz.ntmps294;go_wp2_with fail;go_ret;exact⟨rfl,Ze _ _⟩
theorem gV:Calls Tryz.prog 285 #[.agg #[]] w fun e w'=>e =.returned (.int .i64 7)/\Below w.heap.size w w':=by
 go_enter Tryz.func285,Tryz.ntmps285;go_wp2_with fail;go_ret;exact⟨rfl,ac w _⟩
theorem et:Calls Tryz.prog 286 #[x] w fun e w'=>e =.returned (.int .i64 5)/\Below w.heap.size w w':=by
 go_enter Tryz.func286,Tryz.ntmps286;go_wp2_with fail;go_ret;exact⟨rfl,Ze _ _⟩
theorem gE:Calls Tryz.prog 303 #[x] w fun e w'=>e =.returned (.int .i64 6)/\Below w.heap.size w w':=by
 go_enter Tryz.func303,Tryz.ntmps303;go_wp2_with fail;go_ret;exact⟨rfl,Ze _ _⟩
