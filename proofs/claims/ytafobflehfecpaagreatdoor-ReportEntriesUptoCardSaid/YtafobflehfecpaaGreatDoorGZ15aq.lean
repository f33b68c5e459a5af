import Derived.Test.YtafobflehfecpaaGreatDoorGZ15ap
import Derived.Shelf.SlSortCmp.WholeK
import Derived.Handy
import Derived.Shelf.Strconv.Itoa3
import Derived.Lib.AppendIntMem
set_option linter.unusedVariables false
set_option linter.unusedSimpArgs false
set_option maxHeartbeats 64000000
set_option maxRecDepth 100000
namespace Go.Proofs.YtafobflehfecpaaGreatDoor
open Go.RowKit Go.Shelf
variable {cs:Array Value}{S:List (ByteArray×Value)}{us:List Value}{base base2 c g i n q r:Nat}{P:Nat->Prop}{A:Option Addr}{u v x:Value}{w w':World}
theorem nx (x:Int)(w:World):Calls Tryz.prog 176 #[.int .i32 x] w fun e w'=>e =.returned (.bool false)/\w=w':=by
 go_enter Tryz.func176,Tryz.ntmps176;go_wp2_with fail;go_ret;exact⟨by simp,rfl⟩
def uo (a b:Int):Int:=if a<b then -1 else if b<a then 1 else 0
theorem sE (a b:Int)(w:World):Calls Tryz.prog 148 #[.int .i32 a,.int .i32 b] w fun e w'=>e =.returned (.int .i64 (uo a b))/\w=w':=by
 have h1:=Qa (fun w=>nx a w);have h2:=Qa (fun w=>nx b w);go_enter Tryz.func148,Tryz.ntmps148;go_wp2_with fail;refine(h1.out _).mono ?_;rintro e w' ⟨rfl,rfl⟩;go_wp2_with fail;refine(h2.out _).mono ?_;rintro e w' ⟨rfl,rfl⟩
 by_cases h3:a<b
 ·have Hv:=Qa (show uo a b = -1 from if_pos h3);go_wp2_with fail;go_ret;exact⟨by rw[Hv.out];rfl,rfl⟩
 by_cases h4:b<a
 ·have Hv:=Qa (show uo a b=1 from(if_neg h3).trans (if_pos h4));go_wp2_with fail;go_ret;exact⟨by rw[Hv.out];rfl,rfl⟩
 have Hv:=Qa (show uo a b=0 from(if_neg h3).trans (if_neg h4));go_wp2_with fail;go_ret;exact⟨by rw[Hv.out];rfl,rfl⟩
theorem yd.read {l:List Int}(h:yd w base (.slice A n q) l):n=l.length/\∀ (i:Nat) c,l[i]?=some c->∃g,A=some ⟨g,0,none⟩/\w.cell? ⟨g,i,none⟩=some (.int .i32 c):=by
 obtain⟨A',q',e,_,_,hA⟩:=af h;obtain⟨rfl,rfl,rfl⟩:=Value.slice.inj e;refine⟨rfl,fun i c hc=>?_⟩;obtain⟨_,⟨e1,h0⟩|⟨g,cap,cur,e1,_⟩⟩:=id h
 ·have:=(List.getElem?_eq_some_iff.1 hc).1;omega
 ·obtain⟨rfl,-,rfl⟩:=Value.slice.inj e1;refine⟨g,rfl,?_⟩;rw[aK h rfl i (by have:=(List.getElem?_eq_some_iff.1 hc).1;omega),List.getElem?_map,hc];rfl
theorem gI {B:Option Addr}{m:Nat}{x y:List Int}(hx:yd w base (.slice A n q) x)(hy:yd w base2 (.slice B m r) y)(b1:x.length<=4294967296)(a9:y.length<=4294967296):Calls Tryz.prog 124 #[.slice A n q,.slice B m r] w fun e w'=>e =.returned (.int .i64 (aI x y))/\w=w':=by
 obtain⟨rfl,rx⟩:=hx.read;obtain⟨rfl,ry⟩:=hy.read;have Hx:=Qa rx;have Hy:=Qa ry;clear hx hy rx ry;go_enter Tryz.func124,Tryz.ntmps124;go_wp2_with fail
 go_loopg [11] x.length (fun k s11 wr=> ∃i:Nat,k+i=x.length/\s11 =.int .i64 i/\i<=y.length/\aI (x.drop i) (y.drop i)=aI x y/\wr=w)
 case atStart=>exact⟨0,rfl,rfl,Zj _,rfl,rfl⟩
 case round=>
  obtain⟨i,hk,rfl,b0,hc,rfl⟩:=hrel;have Hc:=Qa hc;have Hk:=Qa hk
  by_cases hlt:i<x.length
  ·obtain⟨a,ha⟩:∃a,x[i]?=some a:=⟨_,Zd hlt⟩;obtain⟨gx,rfl,cx⟩:=Hx.out i a ha;have a5:(i:Int)<x.length:=by omega
   have a0:x.drop i=a::x.drop (i+1):=by rw[List.drop_eq_getElem_cons hlt];congr 1;rw[Zd hlt] at ha;exact Zi ha
   by_cases hly:i<y.length
   ·obtain⟨b,hb⟩:∃b,y[i]?=some b:=⟨_,Zd hly⟩;obtain⟨gy,rfl,cy⟩:=Hy.out i b hb;have a4:y.drop i=b::y.drop (i+1):=by rw[List.drop_eq_getElem_cons hly];congr 1;rw[Zd hly] at hb;exact Zi hb
    have a1:(i:Int)<y.length:=by omega
    have a2:¬ (y.length:Int)<=i:=by omega
    have Hc2:=Qa (show aI x y=if a<b then -1 else if b<a then 1 else aI (x.drop (i+1)) (y.drop (i+1)) by rw[<-Hc.out,a0,a4];rfl);clear hc a0 a4 ha hb hk;have s1:IntKind.i64.wrap ((i:Int)+1)= ((i+1:Nat):Int):=by rw[IntWalk.i64_in _ (by omega)];omega
    go_wp2_with fail;refine(sE a b _).mono ?_;rintro e w' ⟨rfl,rfl⟩
    by_cases h3:a<b
    ·rw[show uo a b = -1 from if_pos h3];rw[if_pos h3] at Hc2;go_wp2_with fail;go_ret;exact⟨by rw[Hc2.out];rfl,rfl⟩
    rw[if_neg h3] at Hc2
    by_cases h4:b<a
    ·rw[show uo a b=1 from(if_neg h3).trans (if_pos h4)];rw[if_pos h4] at Hc2;go_wp2_with fail;go_ret;exact⟨by rw[Hc2.out];rfl,rfl⟩
    rw[show uo a b=0 from(if_neg h3).trans (if_neg h4)];rw[if_neg h4] at Hc2;go_wp2_with fail;go_roundg (x.length - (i+1))
    case measure=>have:=Hk.out;omega
    case rel=>exact⟨i+1,by omega,rfl,by omega,Hc2.out.symm,rfl⟩
   ·have a2:(y.length:Int)<=i:=by omega
    have Hc2:=Qa (show aI x y=1 by rw[<-Hc.out,a0,show y.drop i = [] from List.drop_of_length_le (by omega)];rfl);clear hc a0 ha hk;go_wp2_with fail;go_ret;exact⟨by rw[Hc2.out];rfl,rfl⟩
  ·have a5:¬ (i:Int)<x.length:=by omega
   have a3:i=x.length:=by omega
   have a0:x.drop i = []:=List.drop_of_length_le (by omega)
   by_cases hly:i<y.length
   ·have a1:(x.length:Int)<y.length:=by omega
    have Hc2:=Qa (show aI x y = -1 by rw[<-Hc.out,a0,List.drop_eq_getElem_cons hly];rfl);clear hc a0 hk a3;go_wp2_with fail;go_ret;exact⟨by rw[Hc2.out];rfl,rfl⟩
   ·have a1:¬ (x.length:Int)<y.length:=by omega
    have Hc2:=Qa (show aI x y=0 by rw[<-Hc.out,a0,show y.drop i = [] from List.drop_of_length_le (by omega)];rfl);clear hc a0 hk a3;go_wp2_with fail;go_ret;exact⟨by rw[Hc2.out];rfl,rfl⟩
def eC (s:ByteArray):Prop:=bf s/\s.size<=4294967296
theorem eC.len {s:ByteArray}(h:eC s):(nm s).length<=4294967296:=by
 have h1:=dw h.1.nm.1;rw[h.1.nm.2] at h1;have:s.data.toList.length=s.size:=by simp
 have:=h.2;omega
theorem mW {s t:ByteArray}(hs:eC s)(ht:eC t):Calls Tryz.prog 92 #[.string s,.string t] w fun e w'=>e =.returned (.int .i64 (aI (nm s) (nm t)))/\bo w w':=by
 have H1:=Qa (mQ (w:=w) hs.1 hs.2);have H2:=Qa (fun w=>mQ (w:=w) ht.1 ht.2);have L1:=Qa hs.len;have L2:=Qa ht.len;clear hs ht;go_enter Tryz.func92,Tryz.ntmps92;go_wp2_with fail;refine Za H1 ?_;rintro e w1 ⟨v1,rfl,a1,a3⟩;obtain⟨A1,q1,rfl,-⟩:=af a1;have b0:=Qa a1;have a9:=Qa a3;clear a1 a3;go_wp2_with fail;refine(H2.out w1).mono ?_;rintro e w2 ⟨v2,rfl,a2,a0⟩;obtain⟨A2,q2,rfl,-⟩:=af a2;have b1:=Qa a2;have a5:=Qa (show yd w2 w.heap.size (.slice A1 (nm s).length q1) (nm s) from ai b0.out a0.b (Zb _));have a4:=Qa (a9.out.trans a0);clear a2 a0;go_wp2_with fail;refine(gI a5.out b1.out L1.out L2.out).mono ?_;rintro e w3 ⟨rfl,rfl⟩;go_wp2_with fail;go_ret;exact⟨rfl,a4.out⟩
theorem ug {s t:ByteArray}(hs:eC s)(ht:eC t):Calls Tryz.prog 189 #[.agg #[.string s,u],.agg #[.string t,v]] w fun e w'=>e =.returned (.int .i64 (aI (nm s) (nm t)))/\bo w w':=by
 have H:=Qa (fun w=>mW (w:=w) hs ht);have Hb:=Qa ((bo.alloc w (.cells #[.string s,u] 88)).trans (bo.alloc _ (.cells #[.string t,v] 88)));clear hs ht;go_enter Tryz.func189,Tryz.ntmps189;go_wp2_with fail;refine(H.out _).mono ?_;rintro e w1 ⟨rfl,a0⟩;have a1:=Qa (Hb.out.trans a0);clear a0;go_wp2_with fail;go_ret;exact⟨rfl,a1.out⟩
open Go.Lib Go.Sort
abbrev Mb:={p:ByteArray×Value // eC p.1/\DH p.2}
theorem eC.empty:eC ⟨#[]⟩:=⟨⟨[],by simp,rfl⟩,by decide⟩
instance:Inhabited Mb:=⟨⟨(⟨#[]⟩,.iface 0 undef),eC.empty,0,undef,rfl⟩⟩
def eY (p:Mb):List Value:= [.string p.1.1,p.1.2]
def Fi (x y:Mb):Int:=aI (nm x.1.1) (nm y.1.1)
instance (a b:ByteArray):Decidable (jw a b):=by unfold jw;infer_instance
theorem Ge (x y:Mb):ltOf Fi x y=decide (jw x.1.1 y.1.1):=by
 unfold ltOf Fi jw;rfl
theorem GD:SWO (ltOf Fi) where
 irrefl x:=by rw[Ge];simp[ir]
 trans x y z h1 h2:=by rw[Ge] at *;simp only[decide_eq_true_eq] at *;exact gi h1 h2
 ntrans x y z h1 h2:=by
  rw[Ge] at *;simp only[decide_eq_false_iff_not] at *;intro h
  by_cases e:x.1.1=y.1.1
  ·rw[e] at h;exact h2 h
  ·exact h2 (gi (jy h1 e) h)
theorem zJ (x y:Mb)(w:World):Calls Tryz.prog 189 #[.agg #[.string x.1.1,x.1.2],.agg #[.string y.1.1,y.1.2]] w fun e w'=>e =.returned (.int .i64 (Fi x y))/\∃q os',w'=grow (w.drewN q) os':=
 (ug x.2.1 y.2.1).mono fun _ _ ⟨h1,h2⟩=>⟨h1,h2.grow⟩
theorem AG (blk off size:Nat)(w:World):CmpLays Tryz.prog 189 #[] eY 2 Fi blk off size w:=fun _ _ _ _ x y=>zJ x y _
def oY:Go.Shelf.Ren:=⟨fun|6=>188|15=>85|14=>204|28=>122|29=>123|20=>222|21=>223|22=>224|23=>225|24=>226|25=>227|26=>228|27=>229|46=>242|47=>144|48=>145|49=>243|50=>244|57=>258|n=>n,fun|22=>89|24=>88|25=>317|3=>3|39=>162|0=>0|53=>207|55=>209|4=>4|46=>201|45=>200|50=>168|5=>5|9=>9|66=>251|70=>255|76=>299|77=>300|n=>n,fun|n=>n⟩
theorem yJ:Go.Proofs.SlLaysF0.n6 Tryz.prog oY:={
 mixed:=by kernel_rfl
 f6:=⟨"slices.SortFunc[[]wicket/tree.Member,wicket/tree.Member]",by decide,Tryz.func188.trans (congrArg some (by kernel_rfl))⟩
 f14:=⟨"slices.pdqsortCmpFunc[wicket/tree.Member]",by decide,Tryz.func204.trans (congrArg some (by kernel_rfl))⟩
 f15:=Tryz.func85.trans (congrArg some (by kernel_rfl))
 f20:=⟨"slices.insertionSortCmpFunc[wicket/tree.Member]",by decide,Tryz.func222.trans (congrArg some (by kernel_rfl))⟩
 f21:=⟨"slices.heapSortCmpFunc[wicket/tree.Member]",by decide,Tryz.func223.trans (congrArg some (by kernel_rfl))⟩
 f22:=⟨"slices.breakPatternsCmpFunc[wicket/tree.Member]",by decide,Tryz.func224.trans (congrArg some (by kernel_rfl))⟩
 f23:=⟨"slices.choosePivotCmpFunc[wicket/tree.Member]",by decide,Tryz.func225.trans (congrArg some (by kernel_rfl))⟩
 f24:=⟨"slices.reverseRangeCmpFunc[wicket/tree.Member]",by decide,Tryz.func226.trans (congrArg some (by kernel_rfl))⟩
 f25:=⟨"slices.partialInsertionSortCmpFunc[wicket/tree.Member]",by decide,Tryz.func227.trans (congrArg some (by kernel_rfl))⟩
 f26:=⟨"slices.partitionEqualCmpFunc[wicket/tree.Member]",by decide,Tryz.func228.trans (congrArg some (by kernel_rfl))⟩
 f27:=⟨"slices.partitionCmpFunc[wicket/tree.Member]",by decide,Tryz.func229.trans (congrArg some (by kernel_rfl))⟩
 f28:=Tryz.func122.trans (congrArg some (by kernel_rfl))
 f29:=Tryz.func123.trans (congrArg some (by kernel_rfl))
 f46:=⟨"slices.siftDownCmpFunc[wicket/tree.Member]",by decide,Tryz.func242.trans (congrArg some (by kernel_rfl))⟩
 f47:=Tryz.func144.trans (congrArg some (by kernel_rfl))
 f48:=Tryz.func145.trans (congrArg some (by kernel_rfl))
 f49:=⟨"slices.medianAdjacentCmpFunc[wicket/tree.Member]",by decide,Tryz.func243.trans (congrArg some (by kernel_rfl))⟩
 f50:=⟨"slices.medianCmpFunc[wicket/tree.Member]",by decide,Tryz.func244.trans (congrArg some (by kernel_rfl))⟩
 f57:=⟨"slices.order2CmpFunc[wicket/tree.Member]",by decide,Tryz.func258.trans (congrArg some (by kernel_rfl))⟩
 t0:=Tryz.underlying0
 a0:=Tryz.isAgg0
 z0:=Tryz.sizeOf0
 v0:=Tryz.zeroValue0
 t3:=Tryz.underlying3
 a3:=Tryz.isAgg3
 z3:=Tryz.sizeOf3
 v3:=Tryz.zeroValue3
 t4:=Tryz.underlying4
 a4:=Tryz.isAgg4
 z4:=Tryz.sizeOf4
 v4:=Tryz.zeroValue4
 t5:=Tryz.underlying5
 a5:=Tryz.isAgg5
 z5:=Tryz.sizeOf5
 v5:=Tryz.zeroValue5
 t9:=Tryz.underlying9
 a9:=Tryz.isAgg9
 z9:=Tryz.sizeOf9
 v9:=Tryz.zeroValue9
 t22:=Tryz.underlying89
 a22:=Tryz.isAgg89
 z22:=Tryz.sizeOf89
 v22:=Tryz.zeroValue89
 t25:=Tryz.underlying317
 a25:=Tryz.isAgg317
 z25:=Tryz.sizeOf317
 v25:=Tryz.zeroValue317
 t39:=Tryz.underlying162
 a39:=Tryz.isAgg162
 z39:=Tryz.sizeOf162
 v39:=Tryz.zeroValue162
 t45:=Tryz.underlying200
 a45:=Tryz.isAgg200
 z45:=Tryz.sizeOf200
 v45:=Tryz.zeroValue200
 t46:=Tryz.underlying201
 a46:=Tryz.isAgg201
 z46:=Tryz.sizeOf201
 v46:=Tryz.zeroValue201
 t50:=Tryz.underlying168
 a50:=Tryz.isAgg168
 z50:=Tryz.sizeOf168
 v50:=Tryz.zeroValue168
 t53:=Tryz.underlying207
 a53:=Tryz.isAgg207
 z53:=Tryz.sizeOf207
 v53:=Tryz.zeroValue207
 t55:=Tryz.underlying209
 a55:=Tryz.isAgg209
 z55:=Tryz.sizeOf209
 v55:=Tryz.zeroValue209
 t66:=Tryz.underlying251
 a66:=Tryz.isAgg251
 z66:=Tryz.sizeOf251
 v66:=Tryz.zeroValue251
 t70:=Tryz.underlying255
 a70:=Tryz.isAgg255
 z70:=Tryz.sizeOf255
 v70:=Tryz.zeroValue255
 t76:=Tryz.underlying299
 a76:=Tryz.isAgg299
 z76:=Tryz.sizeOf299
 v76:=Tryz.zeroValue299
 t77:=Tryz.underlying300
 a77:=Tryz.isAgg300
 z77:=Tryz.sizeOf300
 v77:=Tryz.zeroValue300
}
def Bi (L:List (ByteArray×Value)):Prop:= ∀p∈L,eC p.1/\DH p.2
open Classical in
noncomputable def Fc (p:ByteArray×Value):Mb:=if h:eC p.1/\DH p.2 then⟨p,h⟩ else default
theorem C7 {p:ByteArray×Value}(h:eC p.1/\DH p.2):(Fc p).1=p:=by unfold Fc;rw[dif_pos h]
theorem Cq {L:List (ByteArray×Value)}(hb:Bi L){p:ByteArray×Value}(hp:L[i]?=some p):(((L.map Fc).toArray)[i]!).1=p:=by
 have hi:=(List.getElem?_eq_some_iff.1 hp).1;have h0:=hb p (Zk hp);have e:((L.map Fc).toArray)[i]! =Fc p:=by
  rw[getElem!_pos _ i (by simpa using hi)];simp only[List.getElem_toArray,List.getElem_map]
  congr 1
  have:=Zd hi;rw[hp] at this;exact(Zi this).symm
 rw[e];exact C7 h0
def kG (L:List (ByteArray×Value)):Prop:=L.Pairwise fun p q=> ¬jw q.1 p.1
def Ia (w:World)(base g:Nat)(L:List (ByteArray×Value))(e:Ending)(w':World):Prop:= ∃S:List (ByteArray×Value),kG S/\S.Perm L/\e =.returned (.tuple #[])/\F5 w' g S/\(∃cur:Array Value,w'.heap[g]?=some (.cells cur 88 (0,0))/\L.length*2<=cur.size)/\Below base w w'
theorem qr {L:List (ByteArray×Value)}(h:sR w base (.slice (some ⟨g,0,none⟩) L.length q) L)(hb:Bi L)(hB:base<=w.heap.size)(hl:L.length<=4294967296):Calls Tryz.prog 188 #[.slice (some ⟨g,0,none⟩) L.length q,.func (.func 189) #[] #[]] w (Ia w base g L):=by
 obtain⟨d,hd⟩:∃d:Array Mb,(L.map Fc).toArray=d:=⟨_,rfl⟩;have a1:d.size=L.length:=by rw[<-hd];simp
 have b1:∀ (i:Nat) (p:ByteArray×Value),L[i]?=some p->(d[i]!).1=p:=fun i p hp=>by rw[<-hd];exact Cq hb hp
 obtain⟨b0,cur,a0⟩:=al h rfl;have b0:base<=g:=b0;have b2:=h.read;have b4:L.length*2<=cur.size:=by
  obtain⟨_,⟨e1,_⟩|⟨g',cap,cur',e1,_,a4,h2,h3,h4,h5⟩⟩:=id h
  ·cases e1
  ·obtain⟨e2,-,-⟩:=Value.slice.inj e1;obtain rfl:g=g':=by injection e2 with e2;injection e2
   rw[a0] at a4;obtain rfl:cur=cur':=by injection a4 with a4;injection a4
   rw[h4];omega
 have hH:HoldsK eY 2 w g 0 d:=by
  intro j hj;rw[size_flatK,a1] at hj;obtain⟨p,hp⟩:∃p,L[j/2]?=some p:=⟨_,Zd (by omega)⟩;obtain⟨c1,c2⟩:=b2 _ _ hp;refine⟨?_,aj a0 _⟩;rw[get_flatK eY 2 d j (by rw[a1];exact hj)];have hv:=b1 _ _ hp;rw[Nat.zero_add];rcases Nat.mod_two_eq_zero_or_one j with hm|hm
  ·rw[hm,show j= (j/2)*2 by omega];rw[show(j/2)*2/2=j/2 by omega,c1];unfold eY;rw[hv];rfl
  ·rw[hm,show j= (j/2)*2+1 by omega];rw[show((j/2)*2+1)/2=j/2 by omega,c2];unfold eY;rw[hv];rfl
 have eg:∀args w,(callFunc 189 args).run Tryz.prog w =.ok (.enter 189 args) w:=enters_of Tryz.func189 (by kernel_rfl) rfl;have a2:=AnyQ.slices_SortFunc yJ 2 Tryz.isAgg88 Tryz.sizeOf88 eY (fun _=>rfl) (fun x v hv=>by simp[eY] at hv;rcases hv with rfl|rfl;(· rfl);exact x.2.2.one) Fi GD 189 #[] g 0 q d w eg (AG g 0 d.size w) hH (ag a0) (by rw[a1];omega);change Calls Tryz.prog 188 _ _ _ at a2;rw[a1] at a2;refine a2.mono ?_;rintro e w' ⟨rfl,d',n,os,hp,hs,rfl⟩;have a5:d'.size=L.length:=by rw[hp.1,a1]
 have a9:(putRowK eY 2 (Sort.ahead w n) g 0 d').heap.size=w.heap.size:=by unfold putRowK putRow mapBlock Sort.ahead;simp
 refine⟨d'.toList.map (·.1),?_,?_,rfl,?_,?_,?_⟩
 ·unfold kG;rw[List.pairwise_map,List.pairwise_iff_getElem];intro i j hi hj b3;have h1:=hs i j (Zj _) b3 (by simpa [a5] using hj);rw[Ge] at h1;rw[getElem!_pos d' i (by simpa using hi),getElem!_pos d' j (by simpa using hj)] at h1;simp only[Array.getElem_toList];simpa only[decide_eq_false_iff_not] using h1
 ·have h1:=hp.2.2;rw[<-a1] at h1;have e1:d.extract 0 d.size=d:=by simp
  have e2:d'.extract 0 d.size=d':=by rw[<-hp.1];simp
  rw[e1,e2] at h1;have h2:=h1.map (·.1);have e3:d.toList.map (·.1)=L:=by
   apply List.ext_getElem?
   intro i;rw[List.getElem?_map]
   by_cases hi:i<L.length
   ·obtain⟨p,a3⟩:∃p,L[i]?=some p:=⟨_,Zd hi⟩;have hv:=b1 i p a3;rw[getElem!_pos d i (by omega)] at hv;rw[a3,Zd (by simpa [a1] using hi)];simp only[Array.getElem_toList,Option.map_some,hv]
   ·rw[List.getElem?_eq_none (by simpa [a1] using hi),List.getElem?_eq_none (by omega)];rfl
  rw[e3] at h2;exact h2
 ·have hK:=holdsK_grow eY 2 (putRowK eY 2 (Sort.ahead w n) g 0 d') os g 0 d' (by rw[a9];exact ag a0) (holdsK_putRowK eY 2 (Sort.ahead w n) g 0 d d' (holdsK_ahead eY 2 w n g 0 d hH) hp.1);intro i p a3;rw[List.getElem?_map] at a3;have hi:i<d'.size:=by
   have:=(List.getElem?_eq_some_iff.1 (show(d'.toList.map (·.1))[i]?=some p by rw[List.getElem?_map];exact a3)).1;simpa using this
  have hv:(d'[i]!).1=p:=by
   rw[Zd (by simpa using hi)] at a3;rw[getElem!_pos d' i hi];simpa using a3
  have k1:=hK.cell hi (show 0<2 by decide);have k2:=hK.cell hi (show 1<2 by decide);have e1:((eY d'[i]!)[0]! :Value) =.string p.1:=by unfold eY;rw[hv];rfl
  have e2:((eY d'[i]!)[1]! :Value)=p.2:=by unfold eY;rw[hv];rfl
  have k3:=k1.1;have k4:=k2.1;rw[e1,show 0+i*2+0=i*2 by omega] at k3;rw[e2,show 0+i*2+1=i*2+1 by omega] at k4;exact⟨k3,k4⟩
 ·have hlt:=ag a0;have hg:∃f:Array Value->Array Value,(∀c,(f c).size=c.size)/\(putRowK eY 2 (Sort.ahead w n) g 0 d').heap[g]?=some (.cells (f cur) 88 (0,0)):=by
   refine⟨fun c=>putCells id 0 (flatK eY 2 d') c,fun c=>by unfold putCells;simp,?_⟩;unfold putRowK putRow mapBlock Sort.ahead;simp only;have h':w.heap[g] =.cells cur 88 (0,0):=by simpa [Array.getElem?_eq_getElem hlt] using a0
   rw[Array.getElem?_eq_getElem (by simpa using hlt),Array.getElem_modify_self,h'];rfl
  obtain⟨f,hf,hg⟩:=hg;refine⟨f cur,?_,by rw[hf];exact b4⟩;unfold sortWorldK;rw[heap_grow_old _ os (by rw[a9];exact hlt)];exact hg
 ·have hg:∀k,k<base->(sortWorldK eY 2 w g 0 n d' os).heap[k]?=w.heap[k]?:=by
   intro k hk;unfold sortWorldK;rw[heap_grow_old _ os (by unfold putRowK putRow mapBlock Sort.ahead;simp;omega)];unfold putRowK putRow mapBlock Sort.ahead;simp only;rw[Array.getElem?_modify,if_neg (by omega)]
  refine⟨rfl,rfl,rfl,?_,hg⟩;unfold sortWorldK grow putRowK putRow mapBlock Sort.ahead;simp
theorem sL (w:World):Calls Tryz.prog 123 #[.int .u64 0] w fun e w'=>e =.returned (.int .i64 0)/\w=w':=by
 go_enter Tryz.func123,Tryz.ntmps123;go_wp2_with fail;go_ret;exact⟨by show Ending.returned (.int .i64 (wrap64 (wrap64 (len8 0))))=_;exact congrArg (fun x=>Ending.returned (.int .i64 x)) (by decide +kernel),rfl⟩
theorem AQ (w:World):Calls Tryz.prog 85 #[.int .u64 0] w fun e w'=>e =.returned (.int .i64 0)/\w=w':=by
 have h1:=Qa (fun w=>sL w);go_enter Tryz.func85,Tryz.ntmps85;go_wp2_with fail;refine(h1.out _).mono ?_;rintro e w' ⟨rfl,rfl⟩;go_wp2_with fail;go_ret;exact⟨rfl,rfl⟩
theorem lC (A:Option Addr)(c:Nat)(f:Value)(w:World):Calls Tryz.prog 222 #[.slice A 0 c,.int .i64 0,.int .i64 0,f] w fun e w'=>e =.returned (.tuple #[])/\w=w':=by
 go_enter Tryz.func222,Tryz.ntmps222;go_wp2_with fail
 go_loopg [8] 0 (fun _ s8 wr=>s8 =.int .i64 1/\wr=w)
 case atStart=>exact⟨rfl,rfl⟩
 case round=>
  obtain⟨rfl,rfl⟩:=hrel;go_wp2_with fail;go_end0;exact⟨rfl,rfl⟩
theorem yK (A:Option Addr)(c:Nat)(f:Value)(w:World):Calls Tryz.prog 204 #[.slice A 0 c,.int .i64 0,.int .i64 0,.int .i64 0,f] w fun e w'=>e =.returned (.tuple #[])/\w=w':=by
 have h1:=Qa (fun w=>lC A c f w);go_enter Tryz.func204,Tryz.ntmps204;go_wp2_with fail
 go_loopg [1,2] 0 (fun _ s1 s2 wr=>s1 =.int .i64 0/\s2 =.int .i64 0/\wr=w)
 case atStart=>exact⟨rfl,rfl,rfl⟩
 case round=>
  obtain⟨rfl,rfl,rfl⟩:=hrel;go_wp2_with fail;refine(h1.out _).mono ?_;rintro e w' ⟨rfl,rfl⟩;go_wp2_with fail;(try simp only[Exit.inBlock,Exit.then]);refine Zh (results_none rfl ..) rfl ?_;exact⟨rfl,rfl⟩
theorem xi (A:Option Addr)(c:Nat)(f:Value)(w:World):Calls Tryz.prog 188 #[.slice A 0 c,f] w fun e w'=>e =.returned (.tuple #[])/\w=w':=by
 have h1:=Qa (fun w=>AQ w);have h2:=Qa (fun w=>yK A c f w);go_enter Tryz.func188,Tryz.ntmps188;go_wp2_with fail;refine(h1.out _).mono ?_;rintro e w' ⟨rfl,rfl⟩;go_wp2_with fail;refine(h2.out _).mono ?_;rintro e w' ⟨rfl,rfl⟩;go_wp2_with fail;go_end0;exact⟨rfl,rfl⟩
def FD (w:World)(n:Nat)(L:List (ByteArray×Value))(e:Ending)(w':World):Prop:= ∃g A c S,e =.returned (.tuple #[.pointer (some ⟨g,0,none⟩),.nilIface])/\Below w.heap.size w w'/\w.heap.size<=g/\w'.heap[g]?=some (.cells #[.slice A n c] 167 (0,0))/\bF (w.heap.size<= ·) w' 88 2 A n c (fy S)/\S.Perm L/\(S.map Prod.fst).Pairwise jw
theorem qc (h:kG S)(hn:(S.map Prod.fst).Nodup):(S.map Prod.fst).Pairwise jw:=by
 rw[List.pairwise_map];rw[List.Nodup,List.pairwise_map] at hn;exact(h.and hn).imp fun ⟨h1,h2⟩=>jy h1 (fun e=>h2 e.symm)
def Rm (w:World)(A:Option Addr)(L:List (ByteArray×Value)):Prop:= ∀ (i:Nat) (p:ByteArray×Value),L[i]?=some p->∃g,A=some ⟨g,0,none⟩/\w.cell? ⟨g,i*2,none⟩=some (.string p.1)/\w.cell? ⟨g,i*2+1,none⟩=some p.2
theorem Rm.below {L:List (ByteArray×Value)}(h:Rm w A L)(hb:Below w.heap.size w w'):Rm w' A L:=fun i p hp=>by
 obtain⟨g,h1,h2,h3⟩:=h i p hp;exact⟨g,h1,Zg hb h2,Zg hb h3⟩
theorem sR.rm {L:List (ByteArray×Value)}(h:sR w base (.slice A n q) L):n=L.length/\Rm w A L:=by
 obtain⟨A',q',e,_,_,hA⟩:=af h;obtain⟨rfl,rfl,rfl⟩:=Value.slice.inj e;refine⟨rfl,fun i p hp=>?_⟩;obtain⟨g,rfl⟩:=hA (by have:=(List.getElem?_eq_some_iff.1 hp).1;omega);exact⟨g,rfl,h.read i p hp⟩
theorem gW {L:List (ByteArray×Value)}(hv:yB 2 w v n (fy L))(hg:Bi L)(b1:(L.map Prod.fst).Nodup)(hl:n<=4294967296):Calls Tryz.prog 158 #[v] w (FD w n L):=by
 have a9:L.length=n:=by
  have:=hv.1;rw[iW] at this;omega
 obtain⟨hm,d9,A,cap,rfl,hc,hA⟩:=id hv;have Hk:=Qa (mJ hv (fun u h=>by
  obtain⟨p,hp,hu⟩:=List.mem_flatMap.1 h;simp at hu;rcases hu with rfl|rfl
  ·rfl
  ·exact(hg p hp).2.one) hl)
 have Hg:=Qa hg;have c5:=Qa b1;clear hv hA hg b1;go_enter Tryz.func158,Tryz.ntmps158;go_wp2_with fail;refine Za Hk ?_;rintro e w1 ⟨A1,c1,rfl,b2,b9⟩;have ho:sR w1 w.heap.size (.slice A1 n c1) L:=by unfold sR;rw[a9];exact b9
 have Ho:=Qa ho;have c7:=Qa b2;have c8:=Qa ho.rm.2;have a3:=Qa a9;clear b9 ho b2 Hk hm a9;go_wp2_with fail
 go_loopg [6,12] n (fun k _ s12 wr=> ∃i:Nat,k+i=n/\s12 =.int .i64 i/\Below w1.heap.size w1 wr)
 case atStart=>exact⟨0,rfl,rfl,Ze _ _⟩
 case round=>
  obtain⟨i,hk,rfl,hb⟩:=hrel;have Hb:=Qa hb
  by_cases hlt:i<n
  ·obtain⟨p,hp⟩:∃p,L[i]?=some p:=⟨_,Zd (by have:=a3.out;omega)⟩;obtain⟨g,rfl,q0,q1⟩:=(c8.out.below hb) i p hp;obtain⟨t,x,hx⟩:=(Hg.out p (Zk hp)).2;rw[hx] at q1;have a0:(i:Int)<n:=by omega
   have Hk:=Qa hk;have qe:∀w,(binOp .eql 64 (.iface t x) .nilIface).run Tryz.prog w =.ok (.bool false) w:=fun w=>oB w t x
   clear hp hb hx hk;go_wp2_with fail;go_roundg (n - (i+1))
   case measure=>have:=Hk.out;omega
   case rel=>exact⟨i+1,by omega,by go_num,ak Hb.out (ac _ _)⟩
  ·obtain rfl:i=n:=by omega
   have a0:¬ (i:Int)<i:=by omega
   clear hk hb hlt;go_wp2_with fail;have b0:=ak c7.out Hb.out;have a1:=Qa (show sR wr w.heap.size (.slice A1 i c1) L from ai Ho.out Hb.out (Zb _));have d5:=Qa b0;have c3:Calls Tryz.prog 188 #[.slice A1 i c1,.func (.func 189) #[] #[]] wr fun e w'=>e =.returned (.tuple #[])/\Below w.heap.size wr w'/\∃S,S.Perm L/\kG S/\Rm w' A1 S/\bF (w.heap.size<= ·) w' 88 2 A1 i c1 (fy S):=by
    rcases Nat.eq_zero_or_pos i with h0|h0
    ·subst h0;obtain rfl:=List.eq_nil_of_length_eq_zero a3.out;refine(xi A1 c1 _ wr).mono ?_;rintro e w' ⟨rfl,rfl⟩;exact⟨rfl,Ze _ _, [],List.Perm.refl _,List.Pairwise.nil,fun i p h=>by simp at h,bF.of_own a1.out⟩
    ·obtain⟨A',q',e,d1,c9,d0⟩:=af a1.out;obtain⟨rfl,rfl,rfl⟩:=Value.slice.inj e;obtain⟨g,rfl⟩:=d0 (by have:=a3.out;omega);have d3:=qr a1.out Hg.out b0.size (by have:=a3.out;omega);refine d3.mono ?_;rintro e w' ⟨S,h1,h2,rfl,h3,⟨cur,h4,h5⟩,h6⟩;have c6:S.length=L.length:=h2.length_eq;refine⟨rfl,h6,S,h2,h1,fun i p hp=>⟨g,rfl,h3 i p hp⟩,by rw[iW,c6],d1,by unfold maxLen at c9 ⊢;have:=(dI a1.out);obtain⟨_,⟨e,_⟩|⟨_,_,_,e,_,_,_,h,_⟩⟩:=id a1.out;(· cases e);obtain⟨-,-,rfl⟩:=Value.slice.inj e;exact h,fun _=>⟨g,rfl,(al a1.out rfl).1,cur,h4,?_⟩⟩;apply List.ext_getElem?;intro j
     by_cases hj:j<L.length*2
     ·rw[List.getElem?_take_of_lt hj,Array.getElem?_toList];obtain⟨p,hp⟩:∃p,S[j/2]?=some p:=⟨_,Zd (by omega)⟩;obtain⟨c1,c2⟩:=h3 _ _ hp;obtain⟨m1,m2⟩:=oQ S _ p hp;unfold World.cell? at c1 c2;simp only[h4] at c1 c2;rcases Nat.mod_two_eq_zero_or_one j with hm|hm
      ·rw[show j/2*2=j by omega] at c1 m1;rw[m1];simpa using c1
      ·rw[show j/2*2+1=j by omega] at c2 m2;rw[m2];simpa using c2
     ·rw[List.getElem?_eq_none (by simp;omega),List.getElem?_eq_none (by rw[iW];omega)]
   refine c3.mono ?_;rintro e w2 ⟨rfl,b3,S,hp,hs,c0,a2⟩;have d2:=Qa (d5.out.trans b3);have Hp:=Qa hp;have Hs:=Qa (qc hs ((hp.map Prod.fst).nodup_iff.2 c5.out));have b8:=Qa c0;have a5:=Qa a2;have a4:=Qa (show S.length=i by rw[hp.length_eq];exact a3.out);clear hp hs c0 a2 b3 c3 b0;go_wp2_with fail
   go_loopg [7] (i - 1) (fun k s7 wr=> ∃j:Nat,k+j=i - 1/\s7 =.int .i64 (j+1:Nat)/\Below w2.heap.size w2 wr)
   case atStart=>exact⟨0,rfl,rfl,Ze _ _⟩
   case round=>
    obtain⟨j,hk,rfl,hb⟩:=hrel;have Hb3:=Qa hb;have Hk:=Qa hk
    by_cases hlt:j+1<i
    ·obtain⟨p,hp⟩:∃p,S[j]?=some p:=⟨_,Zd (by have:=a4.out;omega)⟩;obtain⟨r,hr⟩:∃r,S[j+1]?=some r:=⟨_,Zd (by have:=a4.out;omega)⟩;obtain⟨g,rfl,q0,-⟩:=(b8.out.below hb) j p hp;obtain⟨g',e,r0,-⟩:=(b8.out.below hb) (j+1) r hr;obtain rfl:g=g':=by injection e with e;injection e
     have hne:p.1≠r.1:=by
      refine up ((List.pairwise_iff_getElem.1 Hs.out) j (j+1) (by simp;have:=a4.out;omega) (by simp;have:=a4.out;omega) (by omega) |> fun h=>?_);simpa [(List.getElem?_eq_some_iff.1 hp).2,(List.getElem?_eq_some_iff.1 hr).2] using h
     have c4:(r.1.toList==p.1.toList)=false:=by rw[dK];simp;exact fun e=>hne e.symm
     have s1:IntKind.i64.wrap (j:Int)= (j:Int):=IntWalk.i64_in _ (by omega);have s2:IntKind.i64.wrap ((j:Int)+1+1)= (j:Int)+1+1:=IntWalk.i64_in _ (by omega);have a0:(j:Int)+1<i:=by omega
     have b5:(j:Int)<i:=by omega
     have d6:((j:Int)+1).toNat=j+1:=by omega
     have d4:(0:Int)<=(j:Int)+1:=by omega
     clear hp hr hb hk hlt hne;go_wp2_with fail;go_quiet (fail);go_wp2_with fail;go_roundg (i - 1 - (j+1))
     case measure=>have:=Hk.out;omega
     case rel=>exact⟨j+1,by omega,by go_num,ap Hb3.out _⟩
    ·have a0:¬ (j:Int)+1<i:=by omega
     clear hb hk hlt;go_wp2_with fail;go_ret2;have b4:=ak d2.out Hb3.out;exact⟨_,A1,c1,S,rfl,ak b4 (ac _ _),b4.size,Zf _ _,a5.out.stay fun g o hp hg _ _=>⟨hp,(Below.heap_alloc _ _ _ (ag (ah hg Hb3.out))).trans (ah hg Hb3.out)⟩,Hp.out,Hs.out⟩
def pf:Go.Shelf.Ren:=⟨fun|171=>136|243=>159|246=>190|283=>205|284=>206|285=>207|286=>208|129=>123|317=>230|318=>231|319=>232|320=>233|337=>245|338=>246|n=>n,fun|3=>3|9=>9|2=>2|4=>4|171=>338|0=>0|53=>209|37=>28|5=>5|173=>340|212=>363|51=>207|20=>20|213=>364|46=>162|232=>390|233=>391|n=>n,fun|17=>21|18=>25|19=>26|n=>n⟩
theorem ql:Go.Proofs.LaysM.n171 Tryz.prog pf:={
 mixed:=by kernel_rfl
 f129:=Tryz.func123.trans (congrArg some (by kernel_rfl))
 f171:=Tryz.func136.trans (congrArg some (by kernel_rfl))
 f243:=Tryz.func159.trans (congrArg some (by kernel_rfl))
 f246:=Tryz.func190.trans (congrArg some (by kernel_rfl))
 f283:=Tryz.func205.trans (congrArg some (by kernel_rfl))
 f284:=Tryz.func206.trans (congrArg some (by kernel_rfl))
 f285:=Tryz.func207.trans (congrArg some (by kernel_rfl))
 f286:=Tryz.func208.trans (congrArg some (by kernel_rfl))
 f317:=Tryz.func230.trans (congrArg some (by kernel_rfl))
 f318:=Tryz.func231.trans (congrArg some (by kernel_rfl))
 f319:=Tryz.func232.trans (congrArg some (by kernel_rfl))
 f320:=Tryz.func233.trans (congrArg some (by kernel_rfl))
 f337:=Tryz.func245.trans (congrArg some (by kernel_rfl))
 f338:=Tryz.func246.trans (congrArg some (by kernel_rfl))
 t0:=Tryz.underlying0
 a0:=Tryz.isAgg0
 z0:=Tryz.sizeOf0
 v0:=Tryz.zeroValue0
 t2:=Tryz.underlying2
 a2:=Tryz.isAgg2
 z2:=Tryz.sizeOf2
 v2:=Tryz.zeroValue2
 t3:=Tryz.underlying3
 a3:=Tryz.isAgg3
 z3:=Tryz.sizeOf3
 v3:=Tryz.zeroValue3
 t4:=Tryz.underlying4
 a4:=Tryz.isAgg4
 z4:=Tryz.sizeOf4
 v4:=Tryz.zeroValue4
 t5:=Tryz.underlying5
 a5:=Tryz.isAgg5
 z5:=Tryz.sizeOf5
 v5:=Tryz.zeroValue5
 t9:=Tryz.underlying9
 a9:=Tryz.isAgg9
 z9:=Tryz.sizeOf9
 v9:=Tryz.zeroValue9
 t20:=Tryz.underlying20
 a20:=Tryz.isAgg20
 z20:=Tryz.sizeOf20
 v20:=Tryz.zeroValue20
 t37:=Tryz.underlying28
 a37:=Tryz.isAgg28
 z37:=Tryz.sizeOf28
 v37:=Tryz.zeroValue28
 t46:=Tryz.underlying162
 a46:=Tryz.isAgg162
 z46:=Tryz.sizeOf162
 v46:=Tryz.zeroValue162
 t51:=Tryz.underlying207
 a51:=Tryz.isAgg207
 z51:=Tryz.sizeOf207
 v51:=Tryz.zeroValue207
 t53:=Tryz.underlying209
 a53:=Tryz.isAgg209
 z53:=Tryz.sizeOf209
 v53:=Tryz.zeroValue209
 t171:=Tryz.underlying338
 a171:=Tryz.isAgg338
 z171:=Tryz.sizeOf338
 v171:=Tryz.zeroValue338
 t173:=Tryz.underlying340
 a173:=Tryz.isAgg340
 z173:=Tryz.sizeOf340
 v173:=Tryz.zeroValue340
 t212:=Tryz.underlying363
 a212:=Tryz.isAgg363
 z212:=Tryz.sizeOf363
 v212:=Tryz.zeroValue363
 t213:=Tryz.underlying364
 a213:=Tryz.isAgg364
 z213:=Tryz.sizeOf364
 t232:=Tryz.underlying390
 a232:=Tryz.isAgg390
 z232:=Tryz.sizeOf390
 v232:=Tryz.zeroValue390
 t233:=Tryz.underlying391
 a233:=Tryz.isAgg391
 z233:=Tryz.sizeOf391
 v233:=Tryz.zeroValue391
 g17:=by kernel_rfl
 g18:=by kernel_rfl
 g19:=by kernel_rfl
 i0:=by kernel_rfl
 i2:=by kernel_rfl
 i3:=by kernel_rfl
 i4:=by kernel_rfl
 i5:=by kernel_rfl
 i9:=by kernel_rfl
 i20:=by kernel_rfl
 i37:=by kernel_rfl
 i46:=by kernel_rfl
 i51:=by kernel_rfl
 i53:=by kernel_rfl
 i171:=by kernel_rfl
 i173:=by kernel_rfl
 i212:=by kernel_rfl
 i232:=by kernel_rfl
 i233:=by kernel_rfl
 m17:=by kernel_rfl
 m18:=by kernel_rfl
 m19:=by kernel_rfl
}
def dE (w:World):Prop:=Lib.TabIs Tryz.prog w "internal/strconv.uint64pow10" .u64 Lib.pow10Tab
theorem dE.below (h:dE w)(hb:Below w.heap.size w w'):dE w':=by
 have hg:Tryz.prog.globalNamed "internal/strconv.uint64pow10" = some 21:=by kernel_rfl
 unfold dE Lib.TabIs World.var? at h ⊢;rw[hg] at h ⊢;simp only[Option.bind_some] at h ⊢;rcases ho:w.heap[(21:Nat)]? with _|o
 ·rw[ho] at h;cases h
 ·rw[hb.block _ (ag ho)];exact h
theorem zy (n:Nat)(h1:n<9223372036854775808)(hT:dE w):Calls Tryz.prog 136 #[.int .i64 n] w fun e w'=>e =.returned (.string ⟨(Lib.itoa n).toArray⟩)/\Below w.heap.size w w':=by
 refine(Any.strconv_Itoa ql n (by omega) (by omega) w hT).mono ?_;rintro e w' ⟨rfl,k,os,rfl⟩;exact⟨rfl,Lib.below_grow _ w (Zb _) k os⟩
theorem ri {xs:List Value}(hg:w.heap[g]?=some (.cells #[.slice A n c] 167 (0,0)))(hr:bF P w 88 2 A n c xs)(i:Nat)(hi:i<n){s:ByteArray}(hs:xs[i*2]?=some (.string s))(hu:xs[i*2+1]?=some u) :
  Calls Tryz.prog 103 #[.pointer (some ⟨g,0,none⟩),.int .i64 i] w fun e w'=>e =.returned (.tuple #[.string s,u])/\Below w.heap.size w w':=by
 have c0:w.cell? ⟨g,0,none⟩=some (.slice A n c):=aa hg (j:=0) rfl;obtain⟨b,rfl,-⟩:=hr.ptr (by omega);have c1:=hr.cell (i*2) (by omega);have c2:=hr.cell (i*2+1) (by omega);rw[hs] at c1;rw[hu] at c2;have hm:=hr.2.2.1;unfold maxLen at hm;have Hl:=Qa (kR hg);clear hg hr hu hs;have h0:¬ (i:Int)<0:=by omega
 have h1:(i:Int)<n:=by omega
 go_enter Tryz.func103,Tryz.ntmps103;go_wp2_with fail;refine Za Hl ?_;rintro e w' ⟨rfl,rfl⟩;go_wp2_with fail;go_quiet (fail);go_wp2_with fail;go_ret2;exact⟨rfl,ap (Ze _ _) nq⟩
theorem oU (hT:dE w)(hg:w.heap[g]?=some (.cells #[.slice A n c] 241 (0,0)))(hr:bF P w 64 1 A n c us)(i:Nat)(hi:i<n)(hu:us[i]?=some u) :
  Calls Tryz.prog 102 #[.pointer (some ⟨g,0,none⟩),.int .i64 i] w fun e w'=>e =.returned (.tuple #[.string ⟨(Lib.itoa i).toArray⟩,u])/\Below w.heap.size w w':=by
 have a0:=Qa (tN hg hr i hi hu);have a1:n<=c:=hr.2.1;have hm:=hr.2.2.1;unfold maxLen at hm;clear hg hr hu;go_enter Tryz.func102,Tryz.ntmps102;go_wp2_with fail;refine Za a0 ?_;rintro e w' ⟨rfl,rfl⟩;have Hi:=Qa (zy (w:=w) i (by have:=a1;omega) hT);go_wp2_with fail;refine Za Hi ?_;rintro e w' ⟨rfl,hb⟩;go_wp2_with fail;go_ret2;exact⟨rfl,hb⟩
theorem xN:Calls Tryz.prog 332 #[.agg #[]] w fun e w'=>e =.returned (.int .i64 1)/\Below w.heap.size w w':=by
 go_enter Tryz.func332,Tryz.ntmps332;go_wp2_with fail;go_ret;exact⟨rfl,ac w _⟩
theorem xo:Calls Tryz.prog 328 #[x] w fun e w'=>e =.returned (.int .i64 2)/\Below w.heap.size w w':=by
 go_enter Tryz.func328,Tryz.ntmps328;go_wp2_with fail;go_ret;exact⟨rfl,Ze _ _⟩
theorem AS:Calls Tryz.prog 322 #[.agg cs] w fun e w'=>e =.returned (.int .i64 3)/\Below w.heap.size w w':=by
 go_enter Tryz.func322,Tryz.ntmps322;go_wp2_with fail;go_ret;exact⟨rfl,ac w _⟩
theorem wL:Calls Tryz.prog 298 #[x] w fun e w'=>e =.returned (.int .i64 4)/\Below w.heap.size w w':=by
 go_enter Tryz.func298,Tryz.ntmps298;go_wp2_with fail;go_ret;exact⟨rfl,Ze _ _⟩
theorem xt:Calls Tryz.prog 300 #[x] w fun e w'=>e =.returned (.int .i64 5)/\Below w.heap.size w w':=by
 go_enter Tryz.func300,Tryz.ntmps300;go_wp2_with fail;go_ret;exact⟨rfl,Ze _ _⟩
theorem z7:Calls Tryz.prog 299 #[x] w fun e w'=>e =.returned (.int .i64 6)/\Below w.heap.size w w':=by
 go_enter Tryz.func299,Tryz.ntmps299;go_wp2_with fail;go_ret;exact⟨rfl,Ze _ _⟩
theorem kK (x:List UInt8):(⟨x.toArray⟩:ByteArray).toList=x:=by rw[ByteArray.toList_eq]
theorem lz {a:ByteArray}:Calls Tryz.prog 105 #[.string a] w fun e w'=>e =.returned (.bool false)/\w=w':=by
 go_enter Tryz.func105,Tryz.ntmps105;go_wp2_with fail;go_ret;exact⟨rfl,rfl⟩
def Ex (x y:List UInt8):Int:=if Op.bytesLess x y then -1 else if x=y then 0 else 1
theorem tV {a b:ByteArray}:Calls Tryz.prog 68 #[.string a,.string b] w fun e w'=>e =.returned (.int .i64 (Ex a.toList b.toList))/\w=w':=by
 have Hs:=Qa (show Ex a.toList b.toList=if Op.bytesLess a.toList b.toList then -1 else if a.toList=b.toList then 0 else 1 from rfl);go_enter Tryz.func68,Tryz.ntmps68;go_wp2_with fail;refine lz.mono ?_;rintro e w' ⟨rfl,rfl⟩;go_wp2_with fail;refine lz.mono ?_;rintro e w' ⟨rfl,rfl⟩;go_wp2_with fail
 ·rename_i h1
  go_ret;refine⟨?_,rfl⟩;rw[Hs.out,if_pos h1];rfl
 ·rename_i h1 _ _ h2
  go_ret;refine⟨?_,rfl⟩;rw[Hs.out,if_neg (by simp[h1]),if_neg (by simpa using h2)];rfl
 ·rename_i h1 h2
  go_ret;refine⟨?_,rfl⟩;rw[Hs.out,if_neg (by simp[h1]),if_pos (by simpa using h2)];rfl
def GQ (d:Dc):Prop:=d.digits.size<=1000000000000/\ -1000000000000<=d.exp/\d.exp<=1000000000000
