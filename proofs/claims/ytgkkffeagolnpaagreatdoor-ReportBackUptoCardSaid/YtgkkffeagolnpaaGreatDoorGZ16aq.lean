import Derived.Test.YtgkkffeagolnpaaGreatDoorGZ16ap
import Derived.Shelf.SlSortCmp.WholeK
import Derived.Handy
import Derived.Shelf.Strconv.Itoa3
import Derived.Lib.AppendIntMem
set_option linter.unusedVariables false
set_option linter.unusedSimpArgs false
set_option maxHeartbeats 64000000
set_option maxRecDepth 100000
namespace Go.Proofs.YtgkkffeagolnpaaGreatDoor
open Go.RowKit Go.Shelf
variable {cs:Array Value}{S:List (ByteArray×Value)}{us:List Value}{base base2 c g i n q r:Nat}{P:Nat->Prop}{A:Option Addr}{u v x:Value}{w w':World}
theorem nM (x:Int)(w:World):Calls Tryz.prog 173 #[.int .i32 x] w fun e w'=>e =.returned (.bool false)/\w=w':=by
 go_enter Tryz.func173,Tryz.ntmps173;go_wp2_with fail;go_ret;exact⟨by simp,rfl⟩
def ud (a b:Int):Int:=if a<b then -1 else if b<a then 1 else 0
theorem rU (a b:Int)(w:World):Calls Tryz.prog 144 #[.int .i32 a,.int .i32 b] w fun e w'=>e =.returned (.int .i64 (ud a b))/\w=w':=by
 have h1:=Qa (fun w=>nM a w);have h2:=Qa (fun w=>nM b w);go_enter Tryz.func144,Tryz.ntmps144;go_wp2_with fail;refine(h1.out _).mono ?_;rintro e w' ⟨rfl,rfl⟩;go_wp2_with fail;refine(h2.out _).mono ?_;rintro e w' ⟨rfl,rfl⟩
 by_cases h3:a<b
 ·have Hv:=Qa (show ud a b = -1 from if_pos h3);go_wp2_with fail;go_ret;exact⟨by rw[Hv.out];rfl,rfl⟩
 by_cases h4:b<a
 ·have Hv:=Qa (show ud a b=1 from(if_neg h3).trans (if_pos h4));go_wp2_with fail;go_ret;exact⟨by rw[Hv.out];rfl,rfl⟩
 have Hv:=Qa (show ud a b=0 from(if_neg h3).trans (if_neg h4));go_wp2_with fail;go_ret;exact⟨by rw[Hv.out];rfl,rfl⟩
theorem ze.read {l:List Int}(h:ze w base (.slice A n q) l):n=l.length/\∀ (i:Nat) c,l[i]?=some c->∃g,A=some ⟨g,0,none⟩/\w.cell? ⟨g,i,none⟩=some (.int .i32 c):=by
 obtain⟨A',q',e,_,_,hA⟩:=ag h;obtain⟨rfl,rfl,rfl⟩:=Value.slice.inj e;refine⟨rfl,fun i c hc=>?_⟩;obtain⟨_,⟨e1,h0⟩|⟨g,cap,cur,e1,_⟩⟩:=id h
 ·have:=(List.getElem?_eq_some_iff.1 hc).1;omega
 ·obtain⟨rfl,-,rfl⟩:=Value.slice.inj e1;refine⟨g,rfl,?_⟩;rw[aH h rfl i (by have:=(List.getElem?_eq_some_iff.1 hc).1;omega),List.getElem?_map,hc];rfl
theorem iX {B:Option Addr}{m:Nat}{x y:List Int}(hx:ze w base (.slice A n q) x)(hy:ze w base2 (.slice B m r) y)(b1:x.length<=4294967296)(a9:y.length<=4294967296):Calls Tryz.prog 115 #[.slice A n q,.slice B m r] w fun e w'=>e =.returned (.int .i64 (aJ x y))/\w=w':=by
 obtain⟨rfl,rx⟩:=hx.read;obtain⟨rfl,ry⟩:=hy.read;have Hx:=Qa rx;have Hy:=Qa ry;clear hx hy rx ry;go_enter Tryz.func115,Tryz.ntmps115;go_wp2_with fail
 go_loopg [11] x.length (fun k s11 wr=> ∃i:Nat,k+i=x.length/\s11 =.int .i64 i/\i<=y.length/\aJ (x.drop i) (y.drop i)=aJ x y/\wr=w)
 case atStart=>exact⟨0,rfl,rfl,Zj _,rfl,rfl⟩
 case round=>
  obtain⟨i,hk,rfl,b0,hc,rfl⟩:=hrel;have Hc:=Qa hc;have Hk:=Qa hk
  by_cases hlt:i<x.length
  ·obtain⟨a,ha⟩:∃a,x[i]?=some a:=⟨_,Zd hlt⟩;obtain⟨gx,rfl,cx⟩:=Hx.out i a ha;have a5:(i:Int)<x.length:=by omega
   have a0:x.drop i=a::x.drop (i+1):=by rw[List.drop_eq_getElem_cons hlt];congr 1;rw[Zd hlt] at ha;exact Zi ha
   by_cases hly:i<y.length
   ·obtain⟨b,hb⟩:∃b,y[i]?=some b:=⟨_,Zd hly⟩;obtain⟨gy,rfl,cy⟩:=Hy.out i b hb;have a4:y.drop i=b::y.drop (i+1):=by rw[List.drop_eq_getElem_cons hly];congr 1;rw[Zd hly] at hb;exact Zi hb
    have a1:(i:Int)<y.length:=by omega
    have a2:¬ (y.length:Int)<=i:=by omega
    have Hc2:=Qa (show aJ x y=if a<b then -1 else if b<a then 1 else aJ (x.drop (i+1)) (y.drop (i+1)) by rw[<-Hc.out,a0,a4];rfl);clear hc a0 a4 ha hb hk;have s1:IntKind.i64.wrap ((i:Int)+1)= ((i+1:Nat):Int):=by rw[IntWalk.i64_in _ (by omega)];omega
    go_wp2_with fail;refine(rU a b _).mono ?_;rintro e w' ⟨rfl,rfl⟩
    by_cases h3:a<b
    ·rw[show ud a b = -1 from if_pos h3];rw[if_pos h3] at Hc2;go_wp2_with fail;go_ret;exact⟨by rw[Hc2.out];rfl,rfl⟩
    rw[if_neg h3] at Hc2
    by_cases h4:b<a
    ·rw[show ud a b=1 from(if_neg h3).trans (if_pos h4)];rw[if_pos h4] at Hc2;go_wp2_with fail;go_ret;exact⟨by rw[Hc2.out];rfl,rfl⟩
    rw[show ud a b=0 from(if_neg h3).trans (if_neg h4)];rw[if_neg h4] at Hc2;go_wp2_with fail;go_roundg (x.length - (i+1))
    case measure=>have:=Hk.out;omega
    case rel=>exact⟨i+1,by omega,rfl,by omega,Hc2.out.symm,rfl⟩
   ·have a2:(y.length:Int)<=i:=by omega
    have Hc2:=Qa (show aJ x y=1 by rw[<-Hc.out,a0,show y.drop i = [] from List.drop_of_length_le (by omega)];rfl);clear hc a0 ha hk;go_wp2_with fail;go_ret;exact⟨by rw[Hc2.out];rfl,rfl⟩
  ·have a5:¬ (i:Int)<x.length:=by omega
   have a3:i=x.length:=by omega
   have a0:x.drop i = []:=List.drop_of_length_le (by omega)
   by_cases hly:i<y.length
   ·have a1:(x.length:Int)<y.length:=by omega
    have Hc2:=Qa (show aJ x y = -1 by rw[<-Hc.out,a0,List.drop_eq_getElem_cons hly];rfl);clear hc a0 hk a3;go_wp2_with fail;go_ret;exact⟨by rw[Hc2.out];rfl,rfl⟩
   ·have a1:¬ (x.length:Int)<y.length:=by omega
    have Hc2:=Qa (show aJ x y=0 by rw[<-Hc.out,a0,show y.drop i = [] from List.drop_of_length_le (by omega)];rfl);clear hc a0 hk a3;go_wp2_with fail;go_ret;exact⟨by rw[Hc2.out];rfl,rfl⟩
def dd (s:ByteArray):Prop:=bi s/\s.size<=4294967296
theorem dd.len {s:ByteArray}(h:dd s):(nm s).length<=4294967296:=by
 have h1:=dQ h.1.nm.1;rw[h.1.nm.2] at h1;have:s.data.toList.length=s.size:=by simp
 have:=h.2;omega
theorem oO {s t:ByteArray}(hs:dd s)(ht:dd t):Calls Tryz.prog 85 #[.string s,.string t] w fun e w'=>e =.returned (.int .i64 (aJ (nm s) (nm t)))/\bB w w':=by
 have H1:=Qa (nZ (w:=w) hs.1 hs.2);have H2:=Qa (fun w=>nZ (w:=w) ht.1 ht.2);have L1:=Qa hs.len;have L2:=Qa ht.len;clear hs ht;go_enter Tryz.func85,Tryz.ntmps85;go_wp2_with fail;refine Za H1 ?_;rintro e w1 ⟨v1,rfl,a1,a3⟩;obtain⟨A1,q1,rfl,-⟩:=ag a1;have b1:=Qa a1;have a9:=Qa a3;clear a1 a3;go_wp2_with fail;refine(H2.out w1).mono ?_;rintro e w2 ⟨v2,rfl,a0,a2⟩;obtain⟨A2,q2,rfl,-⟩:=ag a0;have b0:=Qa a0;have a4:=Qa (show ze w2 w.heap.size (.slice A1 (nm s).length q1) (nm s) from ai b1.out a2.b (Zb _));have a5:=Qa (a9.out.trans a2);clear a0 a2;go_wp2_with fail;refine(iX a4.out b0.out L1.out L2.out).mono ?_;rintro e w3 ⟨rfl,rfl⟩;go_wp2_with fail;go_ret;exact⟨rfl,a5.out⟩
theorem tV {s t:ByteArray}(hs:dd s)(ht:dd t):Calls Tryz.prog 194 #[.agg #[.string s,u],.agg #[.string t,v]] w fun e w'=>e =.returned (.int .i64 (aJ (nm s) (nm t)))/\bB w w':=by
 have H:=Qa (fun w=>oO (w:=w) hs ht);have Hb:=Qa ((bB.alloc w (.cells #[.string s,u] 82)).trans (bB.alloc _ (.cells #[.string t,v] 82)));clear hs ht;go_enter Tryz.func194,Tryz.ntmps194;go_wp2_with fail;refine(H.out _).mono ?_;rintro e w1 ⟨rfl,a0⟩;have a1:=Qa (Hb.out.trans a0);clear a0;go_wp2_with fail;go_ret;exact⟨rfl,a1.out⟩
open Go.Lib Go.Sort
abbrev Mb:={p:ByteArray×Value // dd p.1/\Eo p.2}
theorem dd.empty:dd ⟨#[]⟩:=⟨⟨[],by simp,rfl⟩,by decide⟩
instance:Inhabited Mb:=⟨⟨(⟨#[]⟩,.iface 0 undef),dd.empty,0,undef,rfl⟩⟩
def fU (p:Mb):List Value:= [.string p.1.1,p.1.2]
def Iu (x y:Mb):Int:=aJ (nm x.1.1) (nm y.1.1)
instance (a b:ByteArray):Decidable (iC a b):=by unfold iC;infer_instance
theorem Jr (x y:Mb):ltOf Iu x y=decide (iC x.1.1 y.1.1):=by
 unfold ltOf Iu iC;rfl
theorem JT:SWO (ltOf Iu) where
 irrefl x:=by rw[Jr];simp[jf]
 trans x y z h1 h2:=by rw[Jr] at *;simp only[decide_eq_true_eq] at *;exact fk h1 h2
 ntrans x y z h1 h2:=by
  rw[Jr] at *;simp only[decide_eq_false_iff_not] at *;intro h
  by_cases e:x.1.1=y.1.1
  ·rw[e] at h;exact h2 h
  ·exact h2 (fk (kd h1 e) h)
theorem Do (x y:Mb)(w:World):Calls Tryz.prog 194 #[.agg #[.string x.1.1,x.1.2],.agg #[.string y.1.1,y.1.2]] w fun e w'=>e =.returned (.int .i64 (Iu x y))/\∃q os',w'=grow (w.drewN q) os':=
 (tV x.2.1 y.2.1).mono fun _ _ ⟨h1,h2⟩=>⟨h1,h2.grow⟩
theorem Cl (blk off size:Nat)(w:World):CmpLays Tryz.prog 194 #[] fU 2 Iu blk off size w:=fun _ _ _ _ x y=>Do x y _
def po:Go.Shelf.Ren:=⟨fun|6=>193|15=>74|14=>208|28=>109|29=>110|20=>222|21=>223|22=>224|23=>225|24=>226|25=>227|26=>228|27=>229|46=>240|47=>129|48=>130|49=>241|50=>242|57=>256|n=>n,fun|22=>83|24=>82|25=>320|3=>3|39=>147|0=>0|53=>195|55=>197|4=>4|46=>189|45=>188|50=>162|5=>5|9=>9|66=>221|70=>225|76=>275|77=>276|n=>n,fun|n=>n⟩
theorem Dg:Go.Proofs.SlLaysF0.n6 Tryz.prog po:={
 mixed:=by kernel_rfl
 f6:=⟨"slices.SortFunc[[]wicket/tree.Member,wicket/tree.Member]",by decide,Tryz.func193.trans (congrArg some (by kernel_rfl))⟩
 f14:=⟨"slices.pdqsortCmpFunc[wicket/tree.Member]",by decide,Tryz.func208.trans (congrArg some (by kernel_rfl))⟩
 f15:=Tryz.func74.trans (congrArg some (by kernel_rfl))
 f20:=⟨"slices.insertionSortCmpFunc[wicket/tree.Member]",by decide,Tryz.func222.trans (congrArg some (by kernel_rfl))⟩
 f21:=⟨"slices.heapSortCmpFunc[wicket/tree.Member]",by decide,Tryz.func223.trans (congrArg some (by kernel_rfl))⟩
 f22:=⟨"slices.breakPatternsCmpFunc[wicket/tree.Member]",by decide,Tryz.func224.trans (congrArg some (by kernel_rfl))⟩
 f23:=⟨"slices.choosePivotCmpFunc[wicket/tree.Member]",by decide,Tryz.func225.trans (congrArg some (by kernel_rfl))⟩
 f24:=⟨"slices.reverseRangeCmpFunc[wicket/tree.Member]",by decide,Tryz.func226.trans (congrArg some (by kernel_rfl))⟩
 f25:=⟨"slices.partialInsertionSortCmpFunc[wicket/tree.Member]",by decide,Tryz.func227.trans (congrArg some (by kernel_rfl))⟩
 f26:=⟨"slices.partitionEqualCmpFunc[wicket/tree.Member]",by decide,Tryz.func228.trans (congrArg some (by kernel_rfl))⟩
 f27:=⟨"slices.partitionCmpFunc[wicket/tree.Member]",by decide,Tryz.func229.trans (congrArg some (by kernel_rfl))⟩
 f28:=Tryz.func109.trans (congrArg some (by kernel_rfl))
 f29:=Tryz.func110.trans (congrArg some (by kernel_rfl))
 f46:=⟨"slices.siftDownCmpFunc[wicket/tree.Member]",by decide,Tryz.func240.trans (congrArg some (by kernel_rfl))⟩
 f47:=Tryz.func129.trans (congrArg some (by kernel_rfl))
 f48:=Tryz.func130.trans (congrArg some (by kernel_rfl))
 f49:=⟨"slices.medianAdjacentCmpFunc[wicket/tree.Member]",by decide,Tryz.func241.trans (congrArg some (by kernel_rfl))⟩
 f50:=⟨"slices.medianCmpFunc[wicket/tree.Member]",by decide,Tryz.func242.trans (congrArg some (by kernel_rfl))⟩
 f57:=⟨"slices.order2CmpFunc[wicket/tree.Member]",by decide,Tryz.func256.trans (congrArg some (by kernel_rfl))⟩
 t0:=Tryz.underlying0
 a0:=Tryz.isAgg0
 z0:=Tryz.sizeOf0
 v0:=Tryz.zeroValue0
 t3:=Tryz.underlying3
 a3:=Tryz.isAgg3
 z3:=Tryz.sizeOf3
 v3:=Tryz.zeroValue3
 t4:=Tryz.underlying4
 a4:=Tryz.isAgg4
 z4:=Tryz.sizeOf4
 v4:=Tryz.zeroValue4
 t5:=Tryz.underlying5
 a5:=Tryz.isAgg5
 z5:=Tryz.sizeOf5
 v5:=Tryz.zeroValue5
 t9:=Tryz.underlying9
 a9:=Tryz.isAgg9
 z9:=Tryz.sizeOf9
 v9:=Tryz.zeroValue9
 t22:=Tryz.underlying83
 a22:=Tryz.isAgg83
 z22:=Tryz.sizeOf83
 v22:=Tryz.zeroValue83
 t25:=Tryz.underlying320
 a25:=Tryz.isAgg320
 z25:=Tryz.sizeOf320
 v25:=Tryz.zeroValue320
 t39:=Tryz.underlying147
 a39:=Tryz.isAgg147
 z39:=Tryz.sizeOf147
 v39:=Tryz.zeroValue147
 t45:=Tryz.underlying188
 a45:=Tryz.isAgg188
 z45:=Tryz.sizeOf188
 v45:=Tryz.zeroValue188
 t46:=Tryz.underlying189
 a46:=Tryz.isAgg189
 z46:=Tryz.sizeOf189
 v46:=Tryz.zeroValue189
 t50:=Tryz.underlying162
 a50:=Tryz.isAgg162
 z50:=Tryz.sizeOf162
 v50:=Tryz.zeroValue162
 t53:=Tryz.underlying195
 a53:=Tryz.isAgg195
 z53:=Tryz.sizeOf195
 v53:=Tryz.zeroValue195
 t55:=Tryz.underlying197
 a55:=Tryz.isAgg197
 z55:=Tryz.sizeOf197
 v55:=Tryz.zeroValue197
 t66:=Tryz.underlying221
 a66:=Tryz.isAgg221
 z66:=Tryz.sizeOf221
 v66:=Tryz.zeroValue221
 t70:=Tryz.underlying225
 a70:=Tryz.isAgg225
 z70:=Tryz.sizeOf225
 v70:=Tryz.zeroValue225
 t76:=Tryz.underlying275
 a76:=Tryz.isAgg275
 z76:=Tryz.sizeOf275
 v76:=Tryz.zeroValue275
 t77:=Tryz.underlying276
 a77:=Tryz.isAgg276
 z77:=Tryz.sizeOf276
 v77:=Tryz.zeroValue276
}
def BE (L:List (ByteArray×Value)):Prop:= ∀p∈L,dd p.1/\Eo p.2
open Classical in
noncomputable def Is (p:ByteArray×Value):Mb:=if h:dd p.1/\Eo p.2 then⟨p,h⟩ else default
theorem Fy {p:ByteArray×Value}(h:dd p.1/\Eo p.2):(Is p).1=p:=by unfold Is;rw[dif_pos h]
theorem D0 {L:List (ByteArray×Value)}(hb:BE L){p:ByteArray×Value}(hp:L[i]?=some p):(((L.map Is).toArray)[i]!).1=p:=by
 have hi:=(List.getElem?_eq_some_iff.1 hp).1;have h0:=hb p (Zk hp);have e:((L.map Is).toArray)[i]! =Is p:=by
  rw[getElem!_pos _ i (by simpa using hi)];simp only[List.getElem_toArray,List.getElem_map]
  congr 1
  have:=Zd hi;rw[hp] at this;exact(Zi this).symm
 rw[e];exact Fy h0
def lR (L:List (ByteArray×Value)):Prop:=L.Pairwise fun p q=> ¬iC q.1 p.1
def Ki (w:World)(base g:Nat)(L:List (ByteArray×Value))(e:Ending)(w':World):Prop:= ∃S:List (ByteArray×Value),lR S/\S.Perm L/\e =.returned (.tuple #[])/\IM w' g S/\(∃cur:Array Value,w'.heap[g]?=some (.cells cur 82 (0,0))/\L.length*2<=cur.size)/\Below base w w'
theorem sa {L:List (ByteArray×Value)}(h:vm w base (.slice (some ⟨g,0,none⟩) L.length q) L)(hb:BE L)(hB:base<=w.heap.size)(hl:L.length<=4294967296):Calls Tryz.prog 193 #[.slice (some ⟨g,0,none⟩) L.length q,.func (.func 194) #[] #[]] w (Ki w base g L):=by
 obtain⟨d,hd⟩:∃d:Array Mb,(L.map Is).toArray=d:=⟨_,rfl⟩;have a1:d.size=L.length:=by rw[<-hd];simp
 have b1:∀ (i:Nat) (p:ByteArray×Value),L[i]?=some p->(d[i]!).1=p:=fun i p hp=>by rw[<-hd];exact D0 hb hp
 obtain⟨a9,cur,a0⟩:=ao h rfl;have a9:base<=g:=a9;have b3:=h.read;have b4:L.length*2<=cur.size:=by
  obtain⟨_,⟨e1,_⟩|⟨g',cap,cur',e1,_,a4,h2,h3,h4,h5⟩⟩:=id h
  ·cases e1
  ·obtain⟨e2,-,-⟩:=Value.slice.inj e1;obtain rfl:g=g':=by injection e2 with e2;injection e2
   rw[a0] at a4;obtain rfl:cur=cur':=by injection a4 with a4;injection a4
   rw[h4];omega
 have hH:HoldsK fU 2 w g 0 d:=by
  intro j hj;rw[size_flatK,a1] at hj;obtain⟨p,hp⟩:∃p,L[j/2]?=some p:=⟨_,Zd (by omega)⟩;obtain⟨c1,c2⟩:=b3 _ _ hp;refine⟨?_,al a0 _⟩;rw[get_flatK fU 2 d j (by rw[a1];exact hj)];have hv:=b1 _ _ hp;rw[Nat.zero_add];rcases Nat.mod_two_eq_zero_or_one j with hm|hm
  ·rw[hm,show j= (j/2)*2 by omega];rw[show(j/2)*2/2=j/2 by omega,c1];unfold fU;rw[hv];rfl
  ·rw[hm,show j= (j/2)*2+1 by omega];rw[show((j/2)*2+1)/2=j/2 by omega,c2];unfold fU;rw[hv];rfl
 have eg:∀args w,(callFunc 194 args).run Tryz.prog w =.ok (.enter 194 args) w:=enters_of Tryz.func194 (by kernel_rfl) rfl;have a3:=AnyQ.slices_SortFunc Dg 2 Tryz.isAgg82 Tryz.sizeOf82 fU (fun _=>rfl) (fun x v hv=>by simp[fU] at hv;rcases hv with rfl|rfl;(· rfl);exact x.2.2.one) Iu JT 194 #[] g 0 q d w eg (Cl g 0 d.size w) hH (ak a0) (by rw[a1];omega);change Calls Tryz.prog 193 _ _ _ at a3;rw[a1] at a3;refine a3.mono ?_;rintro e w' ⟨rfl,d',n,os,hp,hs,rfl⟩;have a5:d'.size=L.length:=by rw[hp.1,a1]
 have b0:(putRowK fU 2 (Sort.ahead w n) g 0 d').heap.size=w.heap.size:=by unfold putRowK putRow mapBlock Sort.ahead;simp
 refine⟨d'.toList.map (·.1),?_,?_,rfl,?_,?_,?_⟩
 ·unfold lR;rw[List.pairwise_map,List.pairwise_iff_getElem];intro i j hi hj b2;have h1:=hs i j (Zj _) b2 (by simpa [a5] using hj);rw[Jr] at h1;rw[getElem!_pos d' i (by simpa using hi),getElem!_pos d' j (by simpa using hj)] at h1;simp only[Array.getElem_toList];simpa only[decide_eq_false_iff_not] using h1
 ·have h1:=hp.2.2;rw[<-a1] at h1;have e1:d.extract 0 d.size=d:=by simp
  have e2:d'.extract 0 d.size=d':=by rw[<-hp.1];simp
  rw[e1,e2] at h1;have h2:=h1.map (·.1);have e3:d.toList.map (·.1)=L:=by
   apply List.ext_getElem?
   intro i;rw[List.getElem?_map]
   by_cases hi:i<L.length
   ·obtain⟨p,a2⟩:∃p,L[i]?=some p:=⟨_,Zd hi⟩;have hv:=b1 i p a2;rw[getElem!_pos d i (by omega)] at hv;rw[a2,Zd (by simpa [a1] using hi)];simp only[Array.getElem_toList,Option.map_some,hv]
   ·rw[List.getElem?_eq_none (by simpa [a1] using hi),List.getElem?_eq_none (by omega)];rfl
  rw[e3] at h2;exact h2
 ·have hK:=holdsK_grow fU 2 (putRowK fU 2 (Sort.ahead w n) g 0 d') os g 0 d' (by rw[b0];exact ak a0) (holdsK_putRowK fU 2 (Sort.ahead w n) g 0 d d' (holdsK_ahead fU 2 w n g 0 d hH) hp.1);intro i p a2;rw[List.getElem?_map] at a2;have hi:i<d'.size:=by
   have:=(List.getElem?_eq_some_iff.1 (show(d'.toList.map (·.1))[i]?=some p by rw[List.getElem?_map];exact a2)).1;simpa using this
  have hv:(d'[i]!).1=p:=by
   rw[Zd (by simpa using hi)] at a2;rw[getElem!_pos d' i hi];simpa using a2
  have k1:=hK.cell hi (show 0<2 by decide);have k2:=hK.cell hi (show 1<2 by decide);have e1:((fU d'[i]!)[0]! :Value) =.string p.1:=by unfold fU;rw[hv];rfl
  have e2:((fU d'[i]!)[1]! :Value)=p.2:=by unfold fU;rw[hv];rfl
  have k3:=k1.1;have k4:=k2.1;rw[e1,show 0+i*2+0=i*2 by omega] at k3;rw[e2,show 0+i*2+1=i*2+1 by omega] at k4;exact⟨k3,k4⟩
 ·have hlt:=ak a0;have hg:∃f:Array Value->Array Value,(∀c,(f c).size=c.size)/\(putRowK fU 2 (Sort.ahead w n) g 0 d').heap[g]?=some (.cells (f cur) 82 (0,0)):=by
   refine⟨fun c=>putCells id 0 (flatK fU 2 d') c,fun c=>by unfold putCells;simp,?_⟩;unfold putRowK putRow mapBlock Sort.ahead;simp only;have h':w.heap[g] =.cells cur 82 (0,0):=by simpa [Array.getElem?_eq_getElem hlt] using a0
   rw[Array.getElem?_eq_getElem (by simpa using hlt),Array.getElem_modify_self,h'];rfl
  obtain⟨f,hf,hg⟩:=hg;refine⟨f cur,?_,by rw[hf];exact b4⟩;unfold sortWorldK;rw[heap_grow_old _ os (by rw[b0];exact hlt)];exact hg
 ·have hg:∀k,k<base->(sortWorldK fU 2 w g 0 n d' os).heap[k]?=w.heap[k]?:=by
   intro k hk;unfold sortWorldK;rw[heap_grow_old _ os (by unfold putRowK putRow mapBlock Sort.ahead;simp;omega)];unfold putRowK putRow mapBlock Sort.ahead;simp only;rw[Array.getElem?_modify,if_neg (by omega)]
  refine⟨rfl,rfl,rfl,?_,hg⟩;unfold sortWorldK grow putRowK putRow mapBlock Sort.ahead;simp
theorem uW (w:World):Calls Tryz.prog 110 #[.int .u64 0] w fun e w'=>e =.returned (.int .i64 0)/\w=w':=by
 go_enter Tryz.func110,Tryz.ntmps110;go_wp2_with fail;go_ret;exact⟨by show Ending.returned (.int .i64 (wrap64 (wrap64 (len8 0))))=_;exact congrArg (fun x=>Ending.returned (.int .i64 x)) (by decide +kernel),rfl⟩
theorem Dv (w:World):Calls Tryz.prog 74 #[.int .u64 0] w fun e w'=>e =.returned (.int .i64 0)/\w=w':=by
 have h1:=Qa (fun w=>uW w);go_enter Tryz.func74,Tryz.ntmps74;go_wp2_with fail;refine(h1.out _).mono ?_;rintro e w' ⟨rfl,rfl⟩;go_wp2_with fail;go_ret;exact⟨rfl,rfl⟩
theorem mi (A:Option Addr)(c:Nat)(f:Value)(w:World):Calls Tryz.prog 222 #[.slice A 0 c,.int .i64 0,.int .i64 0,f] w fun e w'=>e =.returned (.tuple #[])/\w=w':=by
 go_enter Tryz.func222,Tryz.ntmps222;go_wp2_with fail
 go_loopg [8] 0 (fun _ s8 wr=>s8 =.int .i64 1/\wr=w)
 case atStart=>exact⟨rfl,rfl⟩
 case round=>
  obtain⟨rfl,rfl⟩:=hrel;go_wp2_with fail;go_end0;exact⟨rfl,rfl⟩
theorem BY (A:Option Addr)(c:Nat)(f:Value)(w:World):Calls Tryz.prog 208 #[.slice A 0 c,.int .i64 0,.int .i64 0,.int .i64 0,f] w fun e w'=>e =.returned (.tuple #[])/\w=w':=by
 have h1:=Qa (fun w=>mi A c f w);go_enter Tryz.func208,Tryz.ntmps208;go_wp2_with fail
 go_loopg [1,2] 0 (fun _ s1 s2 wr=>s1 =.int .i64 0/\s2 =.int .i64 0/\wr=w)
 case atStart=>exact⟨rfl,rfl,rfl⟩
 case round=>
  obtain⟨rfl,rfl,rfl⟩:=hrel;go_wp2_with fail;refine(h1.out _).mono ?_;rintro e w' ⟨rfl,rfl⟩;go_wp2_with fail;(try simp only[Exit.inBlock,Exit.then]);refine Zh (results_none rfl ..) rfl ?_;exact⟨rfl,rfl⟩
theorem zx (A:Option Addr)(c:Nat)(f:Value)(w:World):Calls Tryz.prog 193 #[.slice A 0 c,f] w fun e w'=>e =.returned (.tuple #[])/\w=w':=by
 have h1:=Qa (fun w=>Dv w);have h2:=Qa (fun w=>BY A c f w);go_enter Tryz.func193,Tryz.ntmps193;go_wp2_with fail;refine(h1.out _).mono ?_;rintro e w' ⟨rfl,rfl⟩;go_wp2_with fail;refine(h2.out _).mono ?_;rintro e w' ⟨rfl,rfl⟩;go_wp2_with fail;go_end0;exact⟨rfl,rfl⟩
def Jg (w:World)(n:Nat)(L:List (ByteArray×Value))(e:Ending)(w':World):Prop:= ∃g A c S,e =.returned (.tuple #[.pointer (some ⟨g,0,none⟩),.nilIface])/\Below w.heap.size w w'/\w.heap.size<=g/\w'.heap[g]?=some (.cells #[.slice A n c] 161 (0,0))/\bO (w.heap.size<= ·) w' 82 2 A n c (gn S)/\S.Perm L/\(S.map Prod.fst).Pairwise iC
theorem sF (h:lR S)(hn:(S.map Prod.fst).Nodup):(S.map Prod.fst).Pairwise iC:=by
 rw[List.pairwise_map];rw[List.Nodup,List.pairwise_map] at hn;exact(h.and hn).imp fun ⟨h1,h2⟩=>kd h1 (fun e=>h2 e.symm)
def Rm (w:World)(A:Option Addr)(L:List (ByteArray×Value)):Prop:= ∀ (i:Nat) (p:ByteArray×Value),L[i]?=some p->∃g,A=some ⟨g,0,none⟩/\w.cell? ⟨g,i*2,none⟩=some (.string p.1)/\w.cell? ⟨g,i*2+1,none⟩=some p.2
theorem Rm.below {L:List (ByteArray×Value)}(h:Rm w A L)(hb:Below w.heap.size w w'):Rm w' A L:=fun i p hp=>by
 obtain⟨g,h1,h2,h3⟩:=h i p hp;exact⟨g,h1,Zg hb h2,Zg hb h3⟩
theorem vm.rm {L:List (ByteArray×Value)}(h:vm w base (.slice A n q) L):n=L.length/\Rm w A L:=by
 obtain⟨A',q',e,_,_,hA⟩:=ag h;obtain⟨rfl,rfl,rfl⟩:=Value.slice.inj e;refine⟨rfl,fun i p hp=>?_⟩;obtain⟨g,rfl⟩:=hA (by have:=(List.getElem?_eq_some_iff.1 hp).1;omega);exact⟨g,rfl,h.read i p hp⟩
theorem iM {L:List (ByteArray×Value)}(hv:yz 2 w v n (gn L))(hg:BE L)(b1:(L.map Prod.fst).Nodup)(hl:n<=4294967296):Calls Tryz.prog 172 #[v] w (Jg w n L):=by
 have a9:L.length=n:=by
  have:=hv.1;rw[jT] at this;omega
 obtain⟨hm,d6,A,cap,rfl,hc,hA⟩:=id hv;have Hk:=Qa (nt hv (fun u h=>by
  obtain⟨p,hp,hu⟩:=List.mem_flatMap.1 h;simp at hu;rcases hu with rfl|rfl
  ·rfl
  ·exact(hg p hp).2.one) hl)
 have Hg:=Qa hg;have c4:=Qa b1;clear hv hA hg b1;go_enter Tryz.func172,Tryz.ntmps172;go_wp2_with fail;refine Za Hk ?_;rintro e w1 ⟨A1,c1,rfl,b3,b5⟩;have ho:vm w1 w.heap.size (.slice A1 n c1) L:=by unfold vm;rw[a9];exact b5
 have Ho:=Qa ho;have d5:=Qa b3;have c5:=Qa ho.rm.2;have a3:=Qa a9;clear b5 ho b3 Hk hm a9;go_wp2_with fail
 go_loopg [6,12] n (fun k _ s12 wr=> ∃i:Nat,k+i=n/\s12 =.int .i64 i/\Below w1.heap.size w1 wr)
 case atStart=>exact⟨0,rfl,rfl,Ze _ _⟩
 case round=>
  obtain⟨i,hk,rfl,hb⟩:=hrel;have Hb:=Qa hb
  by_cases hlt:i<n
  ·obtain⟨p,hp⟩:∃p,L[i]?=some p:=⟨_,Zd (by have:=a3.out;omega)⟩;obtain⟨g,rfl,q0,q1⟩:=(c5.out.below hb) i p hp;obtain⟨t,x,hx⟩:=(Hg.out p (Zk hp)).2;rw[hx] at q1;have a0:(i:Int)<n:=by omega
   have Hk:=Qa hk;have qe:∀w,(binOp .eql 80 (.iface t x) .nilIface).run Tryz.prog w =.ok (.bool false) w:=fun w=>pQ w t x
   clear hp hb hx hk;go_wp2_with fail;go_roundg (n - (i+1))
   case measure=>have:=Hk.out;omega
   case rel=>exact⟨i+1,by omega,by go_num,aj Hb.out (aa _ _)⟩
  ·obtain rfl:i=n:=by omega
   have a0:¬ (i:Int)<i:=by omega
   clear hk hb hlt;go_wp2_with fail;have a5:=aj d5.out Hb.out;have a1:=Qa (show vm wr w.heap.size (.slice A1 i c1) L from ai Ho.out Hb.out (Zb _));have d4:=Qa a5;have c0:Calls Tryz.prog 193 #[.slice A1 i c1,.func (.func 194) #[] #[]] wr fun e w'=>e =.returned (.tuple #[])/\Below w.heap.size wr w'/\∃S,S.Perm L/\lR S/\Rm w' A1 S/\bO (w.heap.size<= ·) w' 82 2 A1 i c1 (gn S):=by
    rcases Nat.eq_zero_or_pos i with h0|h0
    ·subst h0;obtain rfl:=List.eq_nil_of_length_eq_zero a3.out;refine(zx A1 c1 _ wr).mono ?_;rintro e w' ⟨rfl,rfl⟩;exact⟨rfl,Ze _ _, [],List.Perm.refl _,List.Pairwise.nil,fun i p h=>by simp at h,bO.of_own a1.out⟩
    ·obtain⟨A',q',e,d2,c8,d1⟩:=ag a1.out;obtain⟨rfl,rfl,rfl⟩:=Value.slice.inj e;obtain⟨g,rfl⟩:=d1 (by have:=a3.out;omega);have c9:=sa a1.out Hg.out a5.size (by have:=a3.out;omega);refine c9.mono ?_;rintro e w' ⟨S,h1,h2,rfl,h3,⟨cur,h4,h5⟩,h6⟩;have d0:S.length=L.length:=h2.length_eq;refine⟨rfl,h6,S,h2,h1,fun i p hp=>⟨g,rfl,h3 i p hp⟩,by rw[jT,d0],d2,by unfold maxLen at c8 ⊢;have:=(ep a1.out);obtain⟨_,⟨e,_⟩|⟨_,_,_,e,_,_,_,h,_⟩⟩:=id a1.out;(· cases e);obtain⟨-,-,rfl⟩:=Value.slice.inj e;exact h,fun _=>⟨g,rfl,(ao a1.out rfl).1,cur,h4,?_⟩⟩;apply List.ext_getElem?;intro j
     by_cases hj:j<L.length*2
     ·rw[List.getElem?_take_of_lt hj,Array.getElem?_toList];obtain⟨p,hp⟩:∃p,S[j/2]?=some p:=⟨_,Zd (by omega)⟩;obtain⟨c1,c2⟩:=h3 _ _ hp;obtain⟨m1,m2⟩:=o7 S _ p hp;unfold World.cell? at c1 c2;simp only[h4] at c1 c2;rcases Nat.mod_two_eq_zero_or_one j with hm|hm
      ·rw[show j/2*2=j by omega] at c1 m1;rw[m1];simpa using c1
      ·rw[show j/2*2+1=j by omega] at c2 m2;rw[m2];simpa using c2
     ·rw[List.getElem?_eq_none (by simp;omega),List.getElem?_eq_none (by rw[jT];omega)]
   refine c0.mono ?_;rintro e w2 ⟨rfl,b4,S,hp,hs,c3,a2⟩;have c6:=Qa (d4.out.trans b4);have Hp:=Qa hp;have Hs:=Qa (sF hs ((hp.map Prod.fst).nodup_iff.2 c4.out));have b2:=Qa c3;have b0:=Qa a2;have a4:=Qa (show S.length=i by rw[hp.length_eq];exact a3.out);clear hp hs c3 a2 b4 c0 a5;go_wp2_with fail
   go_loopg [7] (i - 1) (fun k s7 wr=> ∃j:Nat,k+j=i - 1/\s7 =.int .i64 (j+1:Nat)/\Below w2.heap.size w2 wr)
   case atStart=>exact⟨0,rfl,rfl,Ze _ _⟩
   case round=>
    obtain⟨j,hk,rfl,hb⟩:=hrel;have Hb3:=Qa hb;have Hk:=Qa hk
    by_cases hlt:j+1<i
    ·obtain⟨p,hp⟩:∃p,S[j]?=some p:=⟨_,Zd (by have:=a4.out;omega)⟩;obtain⟨r,hr⟩:∃r,S[j+1]?=some r:=⟨_,Zd (by have:=a4.out;omega)⟩;obtain⟨g,rfl,q0,-⟩:=(b2.out.below hb) j p hp;obtain⟨g',e,r0,-⟩:=(b2.out.below hb) (j+1) r hr;obtain rfl:g=g':=by injection e with e;injection e
     have hne:p.1≠r.1:=by
      refine vu ((List.pairwise_iff_getElem.1 Hs.out) j (j+1) (by simp;have:=a4.out;omega) (by simp;have:=a4.out;omega) (by omega) |> fun h=>?_);simpa [(List.getElem?_eq_some_iff.1 hp).2,(List.getElem?_eq_some_iff.1 hr).2] using h
     have d3:(r.1.toList==p.1.toList)=false:=by rw[eo];simp;exact fun e=>hne e.symm
     have s1:IntKind.i64.wrap (j:Int)= (j:Int):=IntWalk.i64_in _ (by omega);have s2:IntKind.i64.wrap ((j:Int)+1+1)= (j:Int)+1+1:=IntWalk.i64_in _ (by omega);have a0:(j:Int)+1<i:=by omega
     have b9:(j:Int)<i:=by omega
     have d9:((j:Int)+1).toNat=j+1:=by omega
     have c7:(0:Int)<=(j:Int)+1:=by omega
     clear hp hr hb hk hlt hne;go_wp2_with fail;go_quiet (fail);go_wp2_with fail;go_roundg (i - 1 - (j+1))
     case measure=>have:=Hk.out;omega
     case rel=>exact⟨j+1,by omega,by go_num,ap Hb3.out _⟩
    ·have a0:¬ (j:Int)+1<i:=by omega
     clear hb hk hlt;go_wp2_with fail;go_ret2;have b8:=aj c6.out Hb3.out;exact⟨_,A1,c1,S,rfl,aj b8 (aa _ _),b8.size,Zf _ _,b0.out.stay fun g o hp hg _ _=>⟨hp,(Below.heap_alloc _ _ _ (ak (ah hg Hb3.out))).trans (ah hg Hb3.out)⟩,Hp.out,Hs.out⟩
def qp:Go.Shelf.Ren:=⟨fun|171=>161|243=>181|246=>201|283=>211|284=>212|285=>213|286=>214|129=>110|317=>230|318=>231|319=>232|320=>233|337=>243|338=>244|n=>n,fun|3=>3|9=>9|2=>2|4=>4|171=>348|0=>0|53=>197|37=>28|5=>5|173=>350|212=>365|51=>195|20=>20|213=>366|46=>147|232=>390|233=>391|n=>n,fun|17=>21|18=>25|19=>26|n=>n⟩
theorem qD:Go.Proofs.LaysM.n171 Tryz.prog qp:={
 mixed:=by kernel_rfl
 f129:=Tryz.func110.trans (congrArg some (by kernel_rfl))
 f171:=Tryz.func161.trans (congrArg some (by kernel_rfl))
 f243:=Tryz.func181.trans (congrArg some (by kernel_rfl))
 f246:=Tryz.func201.trans (congrArg some (by kernel_rfl))
 f283:=Tryz.func211.trans (congrArg some (by kernel_rfl))
 f284:=Tryz.func212.trans (congrArg some (by kernel_rfl))
 f285:=Tryz.func213.trans (congrArg some (by kernel_rfl))
 f286:=Tryz.func214.trans (congrArg some (by kernel_rfl))
 f317:=Tryz.func230.trans (congrArg some (by kernel_rfl))
 f318:=Tryz.func231.trans (congrArg some (by kernel_rfl))
 f319:=Tryz.func232.trans (congrArg some (by kernel_rfl))
 f320:=Tryz.func233.trans (congrArg some (by kernel_rfl))
 f337:=Tryz.func243.trans (congrArg some (by kernel_rfl))
 f338:=Tryz.func244.trans (congrArg some (by kernel_rfl))
 t0:=Tryz.underlying0
 a0:=Tryz.isAgg0
 z0:=Tryz.sizeOf0
 v0:=Tryz.zeroValue0
 t2:=Tryz.underlying2
 a2:=Tryz.isAgg2
 z2:=Tryz.sizeOf2
 v2:=Tryz.zeroValue2
 t3:=Tryz.underlying3
 a3:=Tryz.isAgg3
 z3:=Tryz.sizeOf3
 v3:=Tryz.zeroValue3
 t4:=Tryz.underlying4
 a4:=Tryz.isAgg4
 z4:=Tryz.sizeOf4
 v4:=Tryz.zeroValue4
 t5:=Tryz.underlying5
 a5:=Tryz.isAgg5
 z5:=Tryz.sizeOf5
 v5:=Tryz.zeroValue5
 t9:=Tryz.underlying9
 a9:=Tryz.isAgg9
 z9:=Tryz.sizeOf9
 v9:=Tryz.zeroValue9
 t20:=Tryz.underlying20
 a20:=Tryz.isAgg20
 z20:=Tryz.sizeOf20
 v20:=Tryz.zeroValue20
 t37:=Tryz.underlying28
 a37:=Tryz.isAgg28
 z37:=Tryz.sizeOf28
 v37:=Tryz.zeroValue28
 t46:=Tryz.underlying147
 a46:=Tryz.isAgg147
 z46:=Tryz.sizeOf147
 v46:=Tryz.zeroValue147
 t51:=Tryz.underlying195
 a51:=Tryz.isAgg195
 z51:=Tryz.sizeOf195
 v51:=Tryz.zeroValue195
 t53:=Tryz.underlying197
 a53:=Tryz.isAgg197
 z53:=Tryz.sizeOf197
 v53:=Tryz.zeroValue197
 t171:=Tryz.underlying348
 a171:=Tryz.isAgg348
 z171:=Tryz.sizeOf348
 v171:=Tryz.zeroValue348
 t173:=Tryz.underlying350
 a173:=Tryz.isAgg350
 z173:=Tryz.sizeOf350
 v173:=Tryz.zeroValue350
 t212:=Tryz.underlying365
 a212:=Tryz.isAgg365
 z212:=Tryz.sizeOf365
 v212:=Tryz.zeroValue365
 t213:=Tryz.underlying366
 a213:=Tryz.isAgg366
 z213:=Tryz.sizeOf366
 t232:=Tryz.underlying390
 a232:=Tryz.isAgg390
 z232:=Tryz.sizeOf390
 v232:=Tryz.zeroValue390
 t233:=Tryz.underlying391
 a233:=Tryz.isAgg391
 z233:=Tryz.sizeOf391
 v233:=Tryz.zeroValue391
 g17:=by kernel_rfl
 g18:=by kernel_rfl
 g19:=by kernel_rfl
 i0:=by kernel_rfl
 i2:=by kernel_rfl
 i3:=by kernel_rfl
 i4:=by kernel_rfl
 i5:=by kernel_rfl
 i9:=by kernel_rfl
 i20:=by kernel_rfl
 i37:=by kernel_rfl
 i46:=by kernel_rfl
 i51:=by kernel_rfl
 i53:=by kernel_rfl
 i171:=by kernel_rfl
 i173:=by kernel_rfl
 i212:=by kernel_rfl
 i232:=by kernel_rfl
 i233:=by kernel_rfl
 m17:=by kernel_rfl
 m18:=by kernel_rfl
 m19:=by kernel_rfl
}
def ek (w:World):Prop:=Lib.TabIs Tryz.prog w "internal/strconv.uint64pow10" .u64 Lib.pow10Tab
theorem ek.below (h:ek w)(hb:Below w.heap.size w w'):ek w':=by
 have hg:Tryz.prog.globalNamed "internal/strconv.uint64pow10" = some 21:=by kernel_rfl
 unfold ek Lib.TabIs World.var? at h ⊢;rw[hg] at h ⊢;simp only[Option.bind_some] at h ⊢;rcases ho:w.heap[(21:Nat)]? with _|o
 ·rw[ho] at h;cases h
 ·rw[hb.block _ (ak ho)];exact h
theorem Au (n:Nat)(h1:n<9223372036854775808)(hT:ek w):Calls Tryz.prog 161 #[.int .i64 n] w fun e w'=>e =.returned (.string ⟨(Lib.itoa n).toArray⟩)/\Below w.heap.size w w':=by
 refine(Any.strconv_Itoa qD n (by omega) (by omega) w hT).mono ?_;rintro e w' ⟨rfl,k,os,rfl⟩;exact⟨rfl,Lib.below_grow _ w (Zb _) k os⟩
theorem qN {xs:List Value}(hg:w.heap[g]?=some (.cells #[.slice A n c] 161 (0,0)))(hr:bO P w 82 2 A n c xs)(i:Nat)(hi:i<n){s:ByteArray}(hs:xs[i*2]?=some (.string s))(hu:xs[i*2+1]?=some u) :
  Calls Tryz.prog 127 #[.pointer (some ⟨g,0,none⟩),.int .i64 i] w fun e w'=>e =.returned (.tuple #[.string s,u])/\Below w.heap.size w w':=by
 have c0:w.cell? ⟨g,0,none⟩=some (.slice A n c):=ac hg (j:=0) rfl;obtain⟨b,rfl,-⟩:=hr.ptr (by omega);have c1:=hr.cell (i*2) (by omega);have c2:=hr.cell (i*2+1) (by omega);rw[hs] at c1;rw[hu] at c2;have hm:=hr.2.2.1;unfold maxLen at hm;have Hl:=Qa (mG hg);clear hg hr hu hs;have h0:¬ (i:Int)<0:=by omega
 have h1:(i:Int)<n:=by omega
 go_enter Tryz.func127,Tryz.ntmps127;go_wp2_with fail;refine Za Hl ?_;rintro e w' ⟨rfl,rfl⟩;go_wp2_with fail;go_quiet (fail);go_wp2_with fail;go_ret2;exact⟨rfl,ap (Ze _ _) nq⟩
theorem o6 (hT:ek w)(hg:w.heap[g]?=some (.cells #[.slice A n c] 273 (0,0)))(hr:bO P w 80 1 A n c us)(i:Nat)(hi:i<n)(hu:us[i]?=some u) :
  Calls Tryz.prog 126 #[.pointer (some ⟨g,0,none⟩),.int .i64 i] w fun e w'=>e =.returned (.tuple #[.string ⟨(Lib.itoa i).toArray⟩,u])/\Below w.heap.size w w':=by
 have a0:=Qa (ut hg hr i hi hu);have a1:n<=c:=hr.2.1;have hm:=hr.2.2.1;unfold maxLen at hm;clear hg hr hu;go_enter Tryz.func126,Tryz.ntmps126;go_wp2_with fail;refine Za a0 ?_;rintro e w' ⟨rfl,rfl⟩;have Hi:=Qa (Au (w:=w) i (by have:=a1;omega) hT);go_wp2_with fail;refine Za Hi ?_;rintro e w' ⟨rfl,hb⟩;go_wp2_with fail;go_ret2;exact⟨rfl,hb⟩
theorem oP:Calls Tryz.prog 330 #[.agg #[]] w fun e w'=>e =.returned (.int .i64 1)/\Below w.heap.size w w':=by
 go_enter Tryz.func330,Tryz.ntmps330;go_wp2_with fail;go_ret;exact⟨rfl,aa w _⟩
theorem oF:Calls Tryz.prog 326 #[x] w fun e w'=>e =.returned (.int .i64 2)/\Below w.heap.size w w':=by
 go_enter Tryz.func326,Tryz.ntmps326;go_wp2_with fail;go_ret;exact⟨rfl,Ze _ _⟩
theorem qG:Calls Tryz.prog 320 #[.agg cs] w fun e w'=>e =.returned (.int .i64 3)/\Below w.heap.size w w':=by
 go_enter Tryz.func320,Tryz.ntmps320;go_wp2_with fail;go_ret;exact⟨rfl,aa w _⟩
theorem oe:Calls Tryz.prog 296 #[x] w fun e w'=>e =.returned (.int .i64 4)/\Below w.heap.size w w':=by
 go_enter Tryz.func296,Tryz.ntmps296;go_wp2_with fail;go_ret;exact⟨rfl,Ze _ _⟩
theorem nH:Calls Tryz.prog 298 #[x] w fun e w'=>e =.returned (.int .i64 5)/\Below w.heap.size w w':=by
 go_enter Tryz.func298,Tryz.ntmps298;go_wp2_with fail;go_ret;exact⟨rfl,Ze _ _⟩
theorem su:Calls Tryz.prog 297 #[x] w fun e w'=>e =.returned (.int .i64 6)/\Below w.heap.size w w':=by
 go_enter Tryz.func297,Tryz.ntmps297;go_wp2_with fail;go_ret;exact⟨rfl,Ze _ _⟩
theorem lN (x:List UInt8):(⟨x.toArray⟩:ByteArray).toList=x:=by rw[ByteArray.toList_eq]
theorem lV {a:ByteArray}:Calls Tryz.prog 112 #[.string a] w fun e w'=>e =.returned (.bool false)/\w=w':=by
 go_enter Tryz.func112,Tryz.ntmps112;go_wp2_with fail;go_ret;exact⟨rfl,rfl⟩
def GJ (x y:List UInt8):Int:=if Op.bytesLess x y then -1 else if x=y then 0 else 1
theorem uz {a b:ByteArray}:Calls Tryz.prog 77 #[.string a,.string b] w fun e w'=>e =.returned (.int .i64 (GJ a.toList b.toList))/\w=w':=by
 have Hs:=Qa (show GJ a.toList b.toList=if Op.bytesLess a.toList b.toList then -1 else if a.toList=b.toList then 0 else 1 from rfl);go_enter Tryz.func77,Tryz.ntmps77;go_wp2_with fail;refine lV.mono ?_;rintro e w' ⟨rfl,rfl⟩;go_wp2_with fail;refine lV.mono ?_;rintro e w' ⟨rfl,rfl⟩;go_wp2_with fail
 ·rename_i h1
  go_ret;refine⟨?_,rfl⟩;rw[Hs.out,if_pos h1];rfl
 ·rename_i h1 _ _ h2
  go_ret;refine⟨?_,rfl⟩;rw[Hs.out,if_neg (by simp[h1]),if_neg (by simpa using h2)];rfl
 ·rename_i h1 h2
  go_ret;refine⟨?_,rfl⟩;rw[Hs.out,if_neg (by simp[h1]),if_pos (by simpa using h2)];rfl
def Kb (d:Dc):Prop:=d.digits.size<=1000000000000/\ -1000000000000<=d.exp/\d.exp<=1000000000000
