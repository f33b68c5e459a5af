import Derived.Test.YtehpfidnpfcniaaGreatDoorGZ14ap
import Derived.Shelf.SlSortCmp.WholeK
import Derived.Handy
import Derived.Shelf.Strconv.Itoa3
import Derived.Lib.AppendIntMem
set_option linter.unusedVariables false
set_option linter.unusedSimpArgs false
set_option maxHeartbeats 64000000
set_option maxRecDepth 100000
namespace Go.Proofs.YtehpfidnpfcniaaGreatDoor
open Go.RowKit Go.Shelf
variable {cs:Array Value}{S:List (ByteArray×Value)}{us:List Value}{base base2 c g i m n q r:Nat}{P:Nat->Prop}{A:Option Addr}{u v x:Value}{w w':World}
theorem nF (x:Int)(w:World):Calls Tryz.prog 182 #[.int .i32 x] w fun e w'=>e =.returned (.bool false)/\w=w':=by
 go_enter Tryz.func182,Tryz.ntmps182;go_wp2_with fail;go_ret;exact⟨by simp,rfl⟩
def tD (a b:Int):Int:=if a<b then -1 else if b<a then 1 else 0
theorem p7 (a b:Int)(w:World):Calls Tryz.prog 154 #[.int .i32 a,.int .i32 b] w fun e w'=>e =.returned (.int .i64 (tD a b))/\w=w':=by
 have h1:=H8 (fun w=>nF a w);have h2:=H8 (fun w=>nF b w);go_enter Tryz.func154,Tryz.ntmps154;go_wp2_with fail;refine(h1.out _).mono ?_;rintro e w' ⟨rfl,rfl⟩;go_wp2_with fail;refine(h2.out _).mono ?_;rintro e w' ⟨rfl,rfl⟩
 by_cases h3:a<b
 ·have Hv:=H8 (show tD a b = -1 from if_pos h3);go_wp2_with fail;go_ret;exact⟨by rw[Hv.out];rfl,rfl⟩
 by_cases h4:b<a
 ·have Hv:=H8 (show tD a b=1 from(if_neg h3).trans (if_pos h4));go_wp2_with fail;go_ret;exact⟨by rw[Hv.out];rfl,rfl⟩
 have Hv:=H8 (show tD a b=0 from(if_neg h3).trans (if_neg h4));go_wp2_with fail;go_ret;exact⟨by rw[Hv.out];rfl,rfl⟩
theorem xp.read {l:List Int}(h:xp w base (.slice A n q) l):n=l.length/\∀ (i:Nat) c,l[i]?=some c->∃g,A=some ⟨g,0,none⟩/\w.cell? ⟨g,i,none⟩=some (.int .i32 c):=by
 obtain⟨A',q',e,_,_,hA⟩:=af h;obtain⟨rfl,rfl,rfl⟩:=Value.slice.inj e;refine⟨rfl,fun i c hc=>?_⟩;obtain⟨_,⟨e1,h0⟩|⟨g,cap,cur,e1,_⟩⟩:=id h
 ·have:=(List.getElem?_eq_some_iff.1 hc).1;omega
 ·obtain⟨rfl,-,rfl⟩:=Value.slice.inj e1;refine⟨g,rfl,?_⟩;rw[aK h rfl i (by have:=(List.getElem?_eq_some_iff.1 hc).1;omega),List.getElem?_map,hc];rfl
theorem gH {B:Option Addr}{x y:List Int}(hx:xp w base (.slice A n q) x)(hy:xp w base2 (.slice B m r) y)(b0:x.length<=4294967296)(a9:y.length<=4294967296):Calls Tryz.prog 124 #[.slice A n q,.slice B m r] w fun e w'=>e =.returned (.int .i64 (aJ x y))/\w=w':=by
 obtain⟨rfl,rx⟩:=hx.read;obtain⟨rfl,ry⟩:=hy.read;have Hx:=H8 rx;have Hy:=H8 ry;clear hx hy rx ry;go_enter Tryz.func124,Tryz.ntmps124;go_wp2_with fail
 go_loopg [11] x.length (fun k s11 wr=> ∃i:Nat,k+i=x.length/\s11 =.int .i64 i/\i<=y.length/\aJ (x.drop i) (y.drop i)=aJ x y/\wr=w)
 case atStart=>exact⟨0,rfl,rfl,Zj _,rfl,rfl⟩
 case round=>
  obtain⟨i,hk,rfl,b1,hc,rfl⟩:=hrel;have Hc:=H8 hc;have Hk:=H8 hk
  by_cases hlt:i<x.length
  ·obtain⟨a,ha⟩:∃a,x[i]?=some a:=⟨_,Zd hlt⟩;obtain⟨gx,rfl,cx⟩:=Hx.out i a ha;have a5:(i:Int)<x.length:=by omega
   have a0:x.drop i=a::x.drop (i+1):=by rw[List.drop_eq_getElem_cons hlt];congr 1;rw[Zd hlt] at ha;exact Zi ha
   by_cases hly:i<y.length
   ·obtain⟨b,hb⟩:∃b,y[i]?=some b:=⟨_,Zd hly⟩;obtain⟨gy,rfl,cy⟩:=Hy.out i b hb;have a3:y.drop i=b::y.drop (i+1):=by rw[List.drop_eq_getElem_cons hly];congr 1;rw[Zd hly] at hb;exact Zi hb
    have a1:(i:Int)<y.length:=by omega
    have a2:¬ (y.length:Int)<=i:=by omega
    have Hc2:=H8 (show aJ x y=if a<b then -1 else if b<a then 1 else aJ (x.drop (i+1)) (y.drop (i+1)) by rw[<-Hc.out,a0,a3];rfl);clear hc a0 a3 ha hb hk;have s1:IntKind.i64.wrap ((i:Int)+1)= ((i+1:Nat):Int):=by rw[IntWalk.i64_in _ (by omega)];omega
    go_wp2_with fail;refine(p7 a b _).mono ?_;rintro e w' ⟨rfl,rfl⟩
    by_cases h3:a<b
    ·rw[show tD a b = -1 from if_pos h3];rw[if_pos h3] at Hc2;go_wp2_with fail;go_ret;exact⟨by rw[Hc2.out];rfl,rfl⟩
    rw[if_neg h3] at Hc2
    by_cases h4:b<a
    ·rw[show tD a b=1 from(if_neg h3).trans (if_pos h4)];rw[if_pos h4] at Hc2;go_wp2_with fail;go_ret;exact⟨by rw[Hc2.out];rfl,rfl⟩
    rw[show tD a b=0 from(if_neg h3).trans (if_neg h4)];rw[if_neg h4] at Hc2;go_wp2_with fail;go_roundg (x.length - (i+1))
    case measure=>have:=Hk.out;omega
    case rel=>exact⟨i+1,by omega,rfl,by omega,Hc2.out.symm,rfl⟩
   ·have a2:(y.length:Int)<=i:=by omega
    have Hc2:=H8 (show aJ x y=1 by rw[<-Hc.out,a0,show y.drop i = [] from List.drop_of_length_le (by omega)];rfl);clear hc a0 ha hk;go_wp2_with fail;go_ret;exact⟨by rw[Hc2.out];rfl,rfl⟩
  ·have a5:¬ (i:Int)<x.length:=by omega
   have a4:i=x.length:=by omega
   have a0:x.drop i = []:=List.drop_of_length_le (by omega)
   by_cases hly:i<y.length
   ·have a1:(x.length:Int)<y.length:=by omega
    have Hc2:=H8 (show aJ x y = -1 by rw[<-Hc.out,a0,List.drop_eq_getElem_cons hly];rfl);clear hc a0 hk a4;go_wp2_with fail;go_ret;exact⟨by rw[Hc2.out];rfl,rfl⟩
   ·have a1:¬ (x.length:Int)<y.length:=by omega
    have Hc2:=H8 (show aJ x y=0 by rw[<-Hc.out,a0,show y.drop i = [] from List.drop_of_length_le (by omega)];rfl);clear hc a0 hk a4;go_wp2_with fail;go_ret;exact⟨by rw[Hc2.out];rfl,rfl⟩
def ey (s:ByteArray):Prop:=bf s/\s.size<=4294967296
theorem ey.len {s:ByteArray}(h:ey s):(nm s).length<=4294967296:=by
 have h1:=dq h.1.nm.1;rw[h.1.nm.2] at h1;have:s.data.toList.length=s.size:=by simp
 have:=h.2;omega
theorem nJ {s t:ByteArray}(hs:ey s)(ht:ey t):Calls Tryz.prog 91 #[.string s,.string t] w fun e w'=>e =.returned (.int .i64 (aJ (nm s) (nm t)))/\bo w w':=by
 have H1:=H8 (nA (w:=w) hs.1 hs.2);have H2:=H8 (fun w=>nA (w:=w) ht.1 ht.2);have L1:=H8 hs.len;have L2:=H8 ht.len;clear hs ht;go_enter Tryz.func91,Tryz.ntmps91;go_wp2_with fail;refine Za H1 ?_;rintro e w1 ⟨v1,rfl,a0,a3⟩;obtain⟨A1,q1,rfl,-⟩:=af a0;have b1:=H8 a0;have a9:=H8 a3;clear a0 a3;go_wp2_with fail;refine(H2.out w1).mono ?_;rintro e w2 ⟨v2,rfl,a1,a2⟩;obtain⟨A2,q2,rfl,-⟩:=af a1;have b0:=H8 a1;have a5:=H8 (show xp w2 w.heap.size (.slice A1 (nm s).length q1) (nm s) from ag b1.out a2.b (Zb _));have a4:=H8 (a9.out.trans a2);clear a1 a2;go_wp2_with fail;refine(gH a5.out b0.out L1.out L2.out).mono ?_;rintro e w3 ⟨rfl,rfl⟩;go_wp2_with fail;go_ret;exact⟨rfl,a4.out⟩
theorem uI {s t:ByteArray}(hs:ey s)(ht:ey t):Calls Tryz.prog 199 #[.agg #[.string s,u],.agg #[.string t,v]] w fun e w'=>e =.returned (.int .i64 (aJ (nm s) (nm t)))/\bo w w':=by
 have H:=H8 (fun w=>nJ (w:=w) hs ht);have Hb:=H8 ((bo.alloc w (.cells #[.string s,u] 87)).trans (bo.alloc _ (.cells #[.string t,v] 87)));clear hs ht;go_enter Tryz.func199,Tryz.ntmps199;go_wp2_with fail;refine(H.out _).mono ?_;rintro e w1 ⟨rfl,a0⟩;have a1:=H8 (Hb.out.trans a0);clear a0;go_wp2_with fail;go_ret;exact⟨rfl,a1.out⟩
open Go.Lib Go.Sort
abbrev Mb:={p:ByteArray×Value // ey p.1/\C5 p.2}
theorem ey.empty:ey ⟨#[]⟩:=⟨⟨[],by simp,rfl⟩,by decide⟩
instance:Inhabited Mb:=⟨⟨(⟨#[]⟩,.iface 0 undef),ey.empty,0,undef,rfl⟩⟩
def eZ (p:Mb):List Value:= [.string p.1.1,p.1.2]
def E4 (x y:Mb):Int:=aJ (nm x.1.1) (nm y.1.1)
instance (a b:ByteArray):Decidable (jy a b):=by unfold jy;infer_instance
theorem F4 (x y:Mb):ltOf E4 x y=decide (jy x.1.1 y.1.1):=by
 unfold ltOf E4 jy;rfl
theorem F7:SWO (ltOf E4) where
 irrefl x:=by rw[F4];simp[im]
 trans x y z h1 h2:=by rw[F4] at *;simp only[decide_eq_true_eq] at *;exact gp h1 h2
 ntrans x y z h1 h2:=by
  rw[F4] at *;simp only[decide_eq_false_iff_not] at *;intro h
  by_cases e:x.1.1=y.1.1
  ·rw[e] at h;exact h2 h
  ·exact h2 (gp (ji h1 e) h)
theorem Be (x y:Mb)(w:World):Calls Tryz.prog 199 #[.agg #[.string x.1.1,x.1.2],.agg #[.string y.1.1,y.1.2]] w fun e w'=>e =.returned (.int .i64 (E4 x y))/\∃q os',w'=grow (w.drewN q) os':=
 (uI x.2.1 y.2.1).mono fun _ _ ⟨h1,h2⟩=>⟨h1,h2.grow⟩
theorem zd (blk off size:Nat)(w:World):CmpLays Tryz.prog 199 #[] eZ 2 E4 blk off size w:=fun _ _ _ _ x y=>Be x y _
def oQ:Go.Shelf.Ren:=⟨fun|6=>198|15=>75|14=>207|28=>111|29=>112|20=>219|21=>220|22=>221|23=>222|24=>223|25=>224|26=>225|27=>226|46=>237|47=>133|48=>134|49=>238|50=>239|57=>253|n=>n,fun|22=>88|24=>87|25=>329|3=>3|39=>149|0=>0|53=>198|55=>200|4=>4|46=>192|45=>191|50=>169|5=>5|9=>9|66=>228|70=>232|76=>275|77=>276|n=>n,fun|n=>n⟩
theorem AC:Go.Proofs.SlLaysF0.n6 Tryz.prog oQ:={
 mixed:=by kernel_rfl
 f6:=⟨"slices.SortFunc[[]wicket/tree.Member,wicket/tree.Member]",by decide,Tryz.func198.trans (congrArg some (by kernel_rfl))⟩
 f14:=⟨"slices.pdqsortCmpFunc[wicket/tree.Member]",by decide,Tryz.func207.trans (congrArg some (by kernel_rfl))⟩
 f15:=Tryz.func75.trans (congrArg some (by kernel_rfl))
 f20:=⟨"slices.insertionSortCmpFunc[wicket/tree.Member]",by decide,Tryz.func219.trans (congrArg some (by kernel_rfl))⟩
 f21:=⟨"slices.heapSortCmpFunc[wicket/tree.Member]",by decide,Tryz.func220.trans (congrArg some (by kernel_rfl))⟩
 f22:=⟨"slices.breakPatternsCmpFunc[wicket/tree.Member]",by decide,Tryz.func221.trans (congrArg some (by kernel_rfl))⟩
 f23:=⟨"slices.choosePivotCmpFunc[wicket/tree.Member]",by decide,Tryz.func222.trans (congrArg some (by kernel_rfl))⟩
 f24:=⟨"slices.reverseRangeCmpFunc[wicket/tree.Member]",by decide,Tryz.func223.trans (congrArg some (by kernel_rfl))⟩
 f25:=⟨"slices.partialInsertionSortCmpFunc[wicket/tree.Member]",by decide,Tryz.func224.trans (congrArg some (by kernel_rfl))⟩
 f26:=⟨"slices.partitionEqualCmpFunc[wicket/tree.Member]",by decide,Tryz.func225.trans (congrArg some (by kernel_rfl))⟩
 f27:=⟨"slices.partitionCmpFunc[wicket/tree.Member]",by decide,Tryz.func226.trans (congrArg some (by kernel_rfl))⟩
 f28:=Tryz.func111.trans (congrArg some (by kernel_rfl))
 f29:=Tryz.func112.trans (congrArg some (by kernel_rfl))
 f46:=⟨"slices.siftDownCmpFunc[wicket/tree.Member]",by decide,Tryz.func237.trans (congrArg some (by kernel_rfl))⟩
 f47:=Tryz.func133.trans (congrArg some (by kernel_rfl))
 f48:=Tryz.func134.trans (congrArg some (by kernel_rfl))
 f49:=⟨"slices.medianAdjacentCmpFunc[wicket/tree.Member]",by decide,Tryz.func238.trans (congrArg some (by kernel_rfl))⟩
 f50:=⟨"slices.medianCmpFunc[wicket/tree.Member]",by decide,Tryz.func239.trans (congrArg some (by kernel_rfl))⟩
 f57:=⟨"slices.order2CmpFunc[wicket/tree.Member]",by decide,Tryz.func253.trans (congrArg some (by kernel_rfl))⟩
 t0:=Tryz.underlying0
 a0:=Tryz.isAgg0
 z0:=Tryz.sizeOf0
 v0:=Tryz.zeroValue0
 t3:=Tryz.underlying3
 a3:=Tryz.isAgg3
 z3:=Tryz.sizeOf3
 v3:=Tryz.zeroValue3
 t4:=Tryz.underlying4
 a4:=Tryz.isAgg4
 z4:=Tryz.sizeOf4
 v4:=Tryz.zeroValue4
 t5:=Tryz.underlying5
 a5:=Tryz.isAgg5
 z5:=Tryz.sizeOf5
 v5:=Tryz.zeroValue5
 t9:=Tryz.underlying9
 a9:=Tryz.isAgg9
 z9:=Tryz.sizeOf9
 v9:=Tryz.zeroValue9
 t22:=Tryz.underlying88
 a22:=Tryz.isAgg88
 z22:=Tryz.sizeOf88
 v22:=Tryz.zeroValue88
 t25:=Tryz.underlying329
 a25:=Tryz.isAgg329
 z25:=Tryz.sizeOf329
 v25:=Tryz.zeroValue329
 t39:=Tryz.underlying149
 a39:=Tryz.isAgg149
 z39:=Tryz.sizeOf149
 v39:=Tryz.zeroValue149
 t45:=Tryz.underlying191
 a45:=Tryz.isAgg191
 z45:=Tryz.sizeOf191
 v45:=Tryz.zeroValue191
 t46:=Tryz.underlying192
 a46:=Tryz.isAgg192
 z46:=Tryz.sizeOf192
 v46:=Tryz.zeroValue192
 t50:=Tryz.underlying169
 a50:=Tryz.isAgg169
 z50:=Tryz.sizeOf169
 v50:=Tryz.zeroValue169
 t53:=Tryz.underlying198
 a53:=Tryz.isAgg198
 z53:=Tryz.sizeOf198
 v53:=Tryz.zeroValue198
 t55:=Tryz.underlying200
 a55:=Tryz.isAgg200
 z55:=Tryz.sizeOf200
 v55:=Tryz.zeroValue200
 t66:=Tryz.underlying228
 a66:=Tryz.isAgg228
 z66:=Tryz.sizeOf228
 v66:=Tryz.zeroValue228
 t70:=Tryz.underlying232
 a70:=Tryz.isAgg232
 z70:=Tryz.sizeOf232
 v70:=Tryz.zeroValue232
 t76:=Tryz.underlying275
 a76:=Tryz.isAgg275
 z76:=Tryz.sizeOf275
 v76:=Tryz.zeroValue275
 t77:=Tryz.underlying276
 a77:=Tryz.isAgg276
 z77:=Tryz.sizeOf276
 v77:=Tryz.zeroValue276
}
def zr (L:List (ByteArray×Value)):Prop:= ∀p∈L,ey p.1/\C5 p.2
open Classical in
noncomputable def E6 (p:ByteArray×Value):Mb:=if h:ey p.1/\C5 p.2 then⟨p,h⟩ else default
theorem CB {p:ByteArray×Value}(h:ey p.1/\C5 p.2):(E6 p).1=p:=by unfold E6;rw[dif_pos h]
theorem Cx {L:List (ByteArray×Value)}(hb:zr L){p:ByteArray×Value}(hp:L[i]?=some p):(((L.map E6).toArray)[i]!).1=p:=by
 have hi:=(List.getElem?_eq_some_iff.1 hp).1;have h0:=hb p (Zk hp);have e:((L.map E6).toArray)[i]! =E6 p:=by
  rw[getElem!_pos _ i (by simpa using hi)];simp only[List.getElem_toArray,List.getElem_map]
  congr 1
  have:=Zd hi;rw[hp] at this;exact(Zi this).symm
 rw[e];exact CB h0
def kG (L:List (ByteArray×Value)):Prop:=L.Pairwise fun p q=> ¬jy q.1 p.1
def GP (w:World)(base g:Nat)(L:List (ByteArray×Value))(e:Ending)(w':World):Prop:= ∃S:List (ByteArray×Value),kG S/\S.Perm L/\e =.returned (.tuple #[])/\FA w' g S/\(∃cur:Array Value,w'.heap[g]?=some (.cells cur 87 (0,0))/\L.length*2<=cur.size)/\Below base w w'
theorem rF {L:List (ByteArray×Value)}(h:uj w base (.slice (some ⟨g,0,none⟩) L.length q) L)(hb:zr L)(hB:base<=w.heap.size)(hl:L.length<=4294967296):Calls Tryz.prog 198 #[.slice (some ⟨g,0,none⟩) L.length q,.func (.func 199) #[] #[]] w (GP w base g L):=by
 obtain⟨d,hd⟩:∃d:Array Mb,(L.map E6).toArray=d:=⟨_,rfl⟩;have a1:d.size=L.length:=by rw[<-hd];simp
 have a9:∀ (i:Nat) (p:ByteArray×Value),L[i]?=some p->(d[i]!).1=p:=fun i p hp=>by rw[<-hd];exact Cx hb hp
 obtain⟨b1,cur,a0⟩:=al h rfl;have b1:base<=g:=b1;have b2:=h.read;have b3:L.length*2<=cur.size:=by
  obtain⟨_,⟨e1,_⟩|⟨g',cap,cur',e1,_,a4,h2,h3,h4,h5⟩⟩:=id h
  ·cases e1
  ·obtain⟨e2,-,-⟩:=Value.slice.inj e1;obtain rfl:g=g':=by injection e2 with e2;injection e2
   rw[a0] at a4;obtain rfl:cur=cur':=by injection a4 with a4;injection a4
   rw[h4];omega
 have hH:HoldsK eZ 2 w g 0 d:=by
  intro j hj;rw[size_flatK,a1] at hj;obtain⟨p,hp⟩:∃p,L[j/2]?=some p:=⟨_,Zd (by omega)⟩;obtain⟨c1,c2⟩:=b2 _ _ hp;refine⟨?_,aj a0 _⟩;rw[get_flatK eZ 2 d j (by rw[a1];exact hj)];have hv:=a9 _ _ hp;rw[Nat.zero_add];rcases Nat.mod_two_eq_zero_or_one j with hm|hm
  ·rw[hm,show j= (j/2)*2 by omega];rw[show(j/2)*2/2=j/2 by omega,c1];unfold eZ;rw[hv];rfl
  ·rw[hm,show j= (j/2)*2+1 by omega];rw[show((j/2)*2+1)/2=j/2 by omega,c2];unfold eZ;rw[hv];rfl
 have eg:∀args w,(callFunc 199 args).run Tryz.prog w =.ok (.enter 199 args) w:=enters_of Tryz.func199 (by kernel_rfl) rfl;have a2:=AnyQ.slices_SortFunc AC 2 Tryz.isAgg87 Tryz.sizeOf87 eZ (fun _=>rfl) (fun x v hv=>by simp[eZ] at hv;rcases hv with rfl|rfl;(· rfl);exact x.2.2.one) E4 F7 199 #[] g 0 q d w eg (zd g 0 d.size w) hH (ah a0) (by rw[a1];omega);change Calls Tryz.prog 198 _ _ _ at a2;rw[a1] at a2;refine a2.mono ?_;rintro e w' ⟨rfl,d',n,os,hp,hs,rfl⟩;have a5:d'.size=L.length:=by rw[hp.1,a1]
 have b0:(putRowK eZ 2 (Sort.ahead w n) g 0 d').heap.size=w.heap.size:=by unfold putRowK putRow mapBlock Sort.ahead;simp
 refine⟨d'.toList.map (·.1),?_,?_,rfl,?_,?_,?_⟩
 ·unfold kG;rw[List.pairwise_map,List.pairwise_iff_getElem];intro i j hi hj b4;have h1:=hs i j (Zj _) b4 (by simpa [a5] using hj);rw[F4] at h1;rw[getElem!_pos d' i (by simpa using hi),getElem!_pos d' j (by simpa using hj)] at h1;simp only[Array.getElem_toList];simpa only[decide_eq_false_iff_not] using h1
 ·have h1:=hp.2.2;rw[<-a1] at h1;have e1:d.extract 0 d.size=d:=by simp
  have e2:d'.extract 0 d.size=d':=by rw[<-hp.1];simp
  rw[e1,e2] at h1;have h2:=h1.map (·.1);have e3:d.toList.map (·.1)=L:=by
   apply List.ext_getElem?
   intro i;rw[List.getElem?_map]
   by_cases hi:i<L.length
   ·obtain⟨p,a3⟩:∃p,L[i]?=some p:=⟨_,Zd hi⟩;have hv:=a9 i p a3;rw[getElem!_pos d i (by omega)] at hv;rw[a3,Zd (by simpa [a1] using hi)];simp only[Array.getElem_toList,Option.map_some,hv]
   ·rw[List.getElem?_eq_none (by simpa [a1] using hi),List.getElem?_eq_none (by omega)];rfl
  rw[e3] at h2;exact h2
 ·have hK:=holdsK_grow eZ 2 (putRowK eZ 2 (Sort.ahead w n) g 0 d') os g 0 d' (by rw[b0];exact ah a0) (holdsK_putRowK eZ 2 (Sort.ahead w n) g 0 d d' (holdsK_ahead eZ 2 w n g 0 d hH) hp.1);intro i p a3;rw[List.getElem?_map] at a3;have hi:i<d'.size:=by
   have:=(List.getElem?_eq_some_iff.1 (show(d'.toList.map (·.1))[i]?=some p by rw[List.getElem?_map];exact a3)).1;simpa using this
  have hv:(d'[i]!).1=p:=by
   rw[Zd (by simpa using hi)] at a3;rw[getElem!_pos d' i hi];simpa using a3
  have k1:=hK.cell hi (show 0<2 by decide);have k2:=hK.cell hi (show 1<2 by decide);have e1:((eZ d'[i]!)[0]! :Value) =.string p.1:=by unfold eZ;rw[hv];rfl
  have e2:((eZ d'[i]!)[1]! :Value)=p.2:=by unfold eZ;rw[hv];rfl
  have k3:=k1.1;have k4:=k2.1;rw[e1,show 0+i*2+0=i*2 by omega] at k3;rw[e2,show 0+i*2+1=i*2+1 by omega] at k4;exact⟨k3,k4⟩
 ·have hlt:=ah a0;have hg:∃f:Array Value->Array Value,(∀c,(f c).size=c.size)/\(putRowK eZ 2 (Sort.ahead w n) g 0 d').heap[g]?=some (.cells (f cur) 87 (0,0)):=by
   refine⟨fun c=>putCells id 0 (flatK eZ 2 d') c,fun c=>by unfold putCells;simp,?_⟩;unfold putRowK putRow mapBlock Sort.ahead;simp only;have h':w.heap[g] =.cells cur 87 (0,0):=by simpa [Array.getElem?_eq_getElem hlt] using a0
   rw[Array.getElem?_eq_getElem (by simpa using hlt),Array.getElem_modify_self,h'];rfl
  obtain⟨f,hf,hg⟩:=hg;refine⟨f cur,?_,by rw[hf];exact b3⟩;unfold sortWorldK;rw[heap_grow_old _ os (by rw[b0];exact hlt)];exact hg
 ·have hg:∀k,k<base->(sortWorldK eZ 2 w g 0 n d' os).heap[k]?=w.heap[k]?:=by
   intro k hk;unfold sortWorldK;rw[heap_grow_old _ os (by unfold putRowK putRow mapBlock Sort.ahead;simp;omega)];unfold putRowK putRow mapBlock Sort.ahead;simp only;rw[Array.getElem?_modify,if_neg (by omega)]
  refine⟨rfl,rfl,rfl,?_,hg⟩;unfold sortWorldK grow putRowK putRow mapBlock Sort.ahead;simp
theorem ua (w:World):Calls Tryz.prog 112 #[.int .u64 0] w fun e w'=>e =.returned (.int .i64 0)/\w=w':=by
 go_enter Tryz.func112,Tryz.ntmps112;go_wp2_with fail;go_ret;exact⟨by show Ending.returned (.int .i64 (wrap64 (wrap64 (len8 0))))=_;exact congrArg (fun x=>Ending.returned (.int .i64 x)) (by decide +kernel),rfl⟩
theorem yM (w:World):Calls Tryz.prog 75 #[.int .u64 0] w fun e w'=>e =.returned (.int .i64 0)/\w=w':=by
 have h1:=H8 (fun w=>ua w);go_enter Tryz.func75,Tryz.ntmps75;go_wp2_with fail;refine(h1.out _).mono ?_;rintro e w' ⟨rfl,rfl⟩;go_wp2_with fail;go_ret;exact⟨rfl,rfl⟩
theorem l8 (A:Option Addr)(c:Nat)(f:Value)(w:World):Calls Tryz.prog 219 #[.slice A 0 c,.int .i64 0,.int .i64 0,f] w fun e w'=>e =.returned (.tuple #[])/\w=w':=by
 go_enter Tryz.func219,Tryz.ntmps219;go_wp2_with fail
 go_loopg [8] 0 (fun _ s8 wr=>s8 =.int .i64 1/\wr=w)
 case atStart=>exact⟨rfl,rfl⟩
 case round=>
  obtain⟨rfl,rfl⟩:=hrel;go_wp2_with fail;go_end0;exact⟨rfl,rfl⟩
theorem yx (A:Option Addr)(c:Nat)(f:Value)(w:World):Calls Tryz.prog 207 #[.slice A 0 c,.int .i64 0,.int .i64 0,.int .i64 0,f] w fun e w'=>e =.returned (.tuple #[])/\w=w':=by
 have h1:=H8 (fun w=>l8 A c f w);go_enter Tryz.func207,Tryz.ntmps207;go_wp2_with fail
 go_loopg [1,2] 0 (fun _ s1 s2 wr=>s1 =.int .i64 0/\s2 =.int .i64 0/\wr=w)
 case atStart=>exact⟨rfl,rfl,rfl⟩
 case round=>
  obtain⟨rfl,rfl,rfl⟩:=hrel;go_wp2_with fail;refine(h1.out _).mono ?_;rintro e w' ⟨rfl,rfl⟩;go_wp2_with fail;(try simp only[Exit.inBlock,Exit.then]);refine Zh (results_none rfl ..) rfl ?_;exact⟨rfl,rfl⟩
theorem xD (A:Option Addr)(c:Nat)(f:Value)(w:World):Calls Tryz.prog 198 #[.slice A 0 c,f] w fun e w'=>e =.returned (.tuple #[])/\w=w':=by
 have h1:=H8 (fun w=>yM w);have h2:=H8 (fun w=>yx A c f w);go_enter Tryz.func198,Tryz.ntmps198;go_wp2_with fail;refine(h1.out _).mono ?_;rintro e w' ⟨rfl,rfl⟩;go_wp2_with fail;refine(h2.out _).mono ?_;rintro e w' ⟨rfl,rfl⟩;go_wp2_with fail;go_end0;exact⟨rfl,rfl⟩
def FF (w:World)(n:Nat)(L:List (ByteArray×Value))(e:Ending)(w':World):Prop:= ∃g A c S,e =.returned (.tuple #[.pointer (some ⟨g,0,none⟩),.nilIface])/\Below w.heap.size w w'/\w.heap.size<=g/\w'.heap[g]?=some (.cells #[.slice A n c] 168 (0,0))/\bG (w.heap.size<= ·) w' 87 2 A n c (ft S)/\S.Perm L/\(S.map Prod.fst).Pairwise jy
theorem rD (h:kG S)(hn:(S.map Prod.fst).Nodup):(S.map Prod.fst).Pairwise jy:=by
 rw[List.pairwise_map];rw[List.Nodup,List.pairwise_map] at hn;exact(h.and hn).imp fun ⟨h1,h2⟩=>ji h1 (fun e=>h2 e.symm)
def Rm (w:World)(A:Option Addr)(L:List (ByteArray×Value)):Prop:= ∀ (i:Nat) (p:ByteArray×Value),L[i]?=some p->∃g,A=some ⟨g,0,none⟩/\w.cell? ⟨g,i*2,none⟩=some (.string p.1)/\w.cell? ⟨g,i*2+1,none⟩=some p.2
theorem Rm.below {L:List (ByteArray×Value)}(h:Rm w A L)(hb:Below w.heap.size w w'):Rm w' A L:=fun i p hp=>by
 obtain⟨g,h1,h2,h3⟩:=h i p hp;exact⟨g,h1,Zg hb h2,Zg hb h3⟩
theorem uj.rm {L:List (ByteArray×Value)}(h:uj w base (.slice A n q) L):n=L.length/\Rm w A L:=by
 obtain⟨A',q',e,_,_,hA⟩:=af h;obtain⟨rfl,rfl,rfl⟩:=Value.slice.inj e;refine⟨rfl,fun i p hp=>?_⟩;obtain⟨g,rfl⟩:=hA (by have:=(List.getElem?_eq_some_iff.1 hp).1;omega);exact⟨g,rfl,h.read i p hp⟩
theorem gS {L:List (ByteArray×Value)}(hv:xg 2 w v n (ft L))(hg:zr L)(b2:(L.map Prod.fst).Nodup)(hl:n<=4294967296):Calls Tryz.prog 181 #[v] w (FF w n L):=by
 have a5:L.length=n:=by
  have:=hv.1;rw[iD] at this;omega
 obtain⟨hm,d9,A,cap,rfl,hc,hA⟩:=id hv;have Hk:=H8 (ml hv (fun u h=>by
  obtain⟨p,hp,hu⟩:=List.mem_flatMap.1 h;simp at hu;rcases hu with rfl|rfl
  ·rfl
  ·exact(hg p hp).2.one) hl)
 have Hg:=H8 hg;have d2:=H8 b2;clear hv hA hg b2;go_enter Tryz.func181,Tryz.ntmps181;go_wp2_with fail;refine Za Hk ?_;rintro e w1 ⟨A1,c1,rfl,b4,b5⟩;have ho:uj w1 w.heap.size (.slice A1 n c1) L:=by unfold uj;rw[a5];exact b5
 have Ho:=H8 ho;have c6:=H8 b4;have d0:=H8 ho.rm.2;have a2:=H8 a5;clear b5 ho b4 Hk hm a5;go_wp2_with fail
 go_loopg [6,12] n (fun k _ s12 wr=> ∃i:Nat,k+i=n/\s12 =.int .i64 i/\Below w1.heap.size w1 wr)
 case atStart=>exact⟨0,rfl,rfl,Ze _ _⟩
 case round=>
  obtain⟨i,hk,rfl,hb⟩:=hrel;have Hb:=H8 hb
  by_cases hlt:i<n
  ·obtain⟨p,hp⟩:∃p,L[i]?=some p:=⟨_,Zd (by have:=a2.out;omega)⟩;obtain⟨g,rfl,q0,q1⟩:=(d0.out.below hb) i p hp;obtain⟨t,x,hx⟩:=(Hg.out p (Zk hp)).2;rw[hx] at q1;have a0:(i:Int)<n:=by omega
   have Hk:=H8 hk;have qe:∀w,(binOp .eql 85 (.iface t x) .nilIface).run Tryz.prog w =.ok (.bool false) w:=fun w=>oq w t x
   clear hp hb hx hk;go_wp2_with fail;go_roundg (n - (i+1))
   case measure=>have:=Hk.out;omega
   case rel=>exact⟨i+1,by omega,by go_num,ak Hb.out (ac _ _)⟩
  ·obtain rfl:i=n:=by omega
   have a0:¬ (i:Int)<i:=by omega
   clear hk hb hlt;go_wp2_with fail;have b0:=ak c6.out Hb.out;have a1:=H8 (show uj wr w.heap.size (.slice A1 i c1) L from ag Ho.out Hb.out (Zb _));have d1:=H8 b0;have c0:Calls Tryz.prog 198 #[.slice A1 i c1,.func (.func 199) #[] #[]] wr fun e w'=>e =.returned (.tuple #[])/\Below w.heap.size wr w'/\∃S,S.Perm L/\kG S/\Rm w' A1 S/\bG (w.heap.size<= ·) w' 87 2 A1 i c1 (ft S):=by
    rcases Nat.eq_zero_or_pos i with h0|h0
    ·subst h0;obtain rfl:=List.eq_nil_of_length_eq_zero a2.out;refine(xD A1 c1 _ wr).mono ?_;rintro e w' ⟨rfl,rfl⟩;exact⟨rfl,Ze _ _, [],List.Perm.refl _,List.Pairwise.nil,fun i p h=>by simp at h,bG.of_own a1.out⟩
    ·obtain⟨A',q',e,c9,d3,c5⟩:=af a1.out;obtain⟨rfl,rfl,rfl⟩:=Value.slice.inj e;obtain⟨g,rfl⟩:=c5 (by have:=a2.out;omega);have c7:=rF a1.out Hg.out b0.size (by have:=a2.out;omega);refine c7.mono ?_;rintro e w' ⟨S,h1,h2,rfl,h3,⟨cur,h4,h5⟩,h6⟩;have c8:S.length=L.length:=h2.length_eq;refine⟨rfl,h6,S,h2,h1,fun i p hp=>⟨g,rfl,h3 i p hp⟩,by rw[iD,c8],c9,by unfold maxLen at d3 ⊢;have:=(dL a1.out);obtain⟨_,⟨e,_⟩|⟨_,_,_,e,_,_,_,h,_⟩⟩:=id a1.out;(· cases e);obtain⟨-,-,rfl⟩:=Value.slice.inj e;exact h,fun _=>⟨g,rfl,(al a1.out rfl).1,cur,h4,?_⟩⟩;apply List.ext_getElem?;intro j
     by_cases hj:j<L.length*2
     ·rw[List.getElem?_take_of_lt hj,Array.getElem?_toList];obtain⟨p,hp⟩:∃p,S[j/2]?=some p:=⟨_,Zd (by omega)⟩;obtain⟨c1,c2⟩:=h3 _ _ hp;obtain⟨m1,m2⟩:=oI S _ p hp;unfold World.cell? at c1 c2;simp only[h4] at c1 c2;rcases Nat.mod_two_eq_zero_or_one j with hm|hm
      ·rw[show j/2*2=j by omega] at c1 m1;rw[m1];simpa using c1
      ·rw[show j/2*2+1=j by omega] at c2 m2;rw[m2];simpa using c2
     ·rw[List.getElem?_eq_none (by simp;omega),List.getElem?_eq_none (by rw[iD];omega)]
   refine c0.mono ?_;rintro e w2 ⟨rfl,b8,S,hp,hs,b3,a3⟩;have c4:=H8 (d1.out.trans b8);have Hp:=H8 hp;have Hs:=H8 (rD hs ((hp.map Prod.fst).nodup_iff.2 d2.out));have b9:=H8 b3;have a9:=H8 a3;have a4:=H8 (show S.length=i by rw[hp.length_eq];exact a2.out);clear hp hs b3 a3 b8 c0 b0;go_wp2_with fail
   go_loopg [7] (i - 1) (fun k s7 wr=> ∃j:Nat,k+j=i - 1/\s7 =.int .i64 (j+1:Nat)/\Below w2.heap.size w2 wr)
   case atStart=>exact⟨0,rfl,rfl,Ze _ _⟩
   case round=>
    obtain⟨j,hk,rfl,hb⟩:=hrel;have Hb3:=H8 hb;have Hk:=H8 hk
    by_cases hlt:j+1<i
    ·obtain⟨p,hp⟩:∃p,S[j]?=some p:=⟨_,Zd (by have:=a4.out;omega)⟩;obtain⟨r,hr⟩:∃r,S[j+1]?=some r:=⟨_,Zd (by have:=a4.out;omega)⟩;obtain⟨g,rfl,q0,-⟩:=(b9.out.below hb) j p hp;obtain⟨g',e,r0,-⟩:=(b9.out.below hb) (j+1) r hr;obtain rfl:g=g':=by injection e with e;injection e
     have hne:p.1≠r.1:=by
      refine tu ((List.pairwise_iff_getElem.1 Hs.out) j (j+1) (by simp;have:=a4.out;omega) (by simp;have:=a4.out;omega) (by omega) |> fun h=>?_);simpa [(List.getElem?_eq_some_iff.1 hp).2,(List.getElem?_eq_some_iff.1 hr).2] using h
     have d4:(r.1.toList==p.1.toList)=false:=by rw[dJ];simp;exact fun e=>hne e.symm
     have s1:IntKind.i64.wrap (j:Int)= (j:Int):=IntWalk.i64_in _ (by omega);have s2:IntKind.i64.wrap ((j:Int)+1+1)= (j:Int)+1+1:=IntWalk.i64_in _ (by omega);have a0:(j:Int)+1<i:=by omega
     have c3:(j:Int)<i:=by omega
     have d6:((j:Int)+1).toNat=j+1:=by omega
     have d5:(0:Int)<=(j:Int)+1:=by omega
     clear hp hr hb hk hlt hne;go_wp2_with fail;go_quiet (fail);go_wp2_with fail;go_roundg (i - 1 - (j+1))
     case measure=>have:=Hk.out;omega
     case rel=>exact⟨j+1,by omega,by go_num,ap Hb3.out _⟩
    ·have a0:¬ (j:Int)+1<i:=by omega
     clear hb hk hlt;go_wp2_with fail;go_ret2;have b1:=ak c4.out Hb3.out;exact⟨_,A1,c1,S,rfl,ak b1 (ac _ _),b1.size,Zf _ _,a9.out.stay fun g o hp hg _ _=>⟨hp,(Below.heap_alloc _ _ _ (ah (ai hg Hb3.out))).trans (ai hg Hb3.out)⟩,Hp.out,Hs.out⟩
def pd:Go.Shelf.Ren:=⟨fun|171=>164|243=>184|246=>200|283=>208|284=>209|285=>210|286=>211|129=>112|317=>227|318=>228|319=>229|320=>230|337=>240|338=>241|n=>n,fun|3=>3|9=>9|2=>2|4=>4|171=>347|0=>0|53=>200|37=>28|5=>5|173=>349|212=>364|51=>198|20=>20|213=>365|46=>149|232=>389|233=>390|n=>n,fun|17=>21|18=>25|19=>26|n=>n⟩
theorem ru:Go.Proofs.LaysM.n171 Tryz.prog pd:={
 mixed:=by kernel_rfl
 f129:=Tryz.func112.trans (congrArg some (by kernel_rfl))
 f171:=Tryz.func164.trans (congrArg some (by kernel_rfl))
 f243:=Tryz.func184.trans (congrArg some (by kernel_rfl))
 f246:=Tryz.func200.trans (congrArg some (by kernel_rfl))
 f283:=Tryz.func208.trans (congrArg some (by kernel_rfl))
 f284:=Tryz.func209.trans (congrArg some (by kernel_rfl))
 f285:=Tryz.func210.trans (congrArg some (by kernel_rfl))
 f286:=Tryz.func211.trans (congrArg some (by kernel_rfl))
 f317:=Tryz.func227.trans (congrArg some (by kernel_rfl))
 f318:=Tryz.func228.trans (congrArg some (by kernel_rfl))
 f319:=Tryz.func229.trans (congrArg some (by kernel_rfl))
 f320:=Tryz.func230.trans (congrArg some (by kernel_rfl))
 f337:=Tryz.func240.trans (congrArg some (by kernel_rfl))
 f338:=Tryz.func241.trans (congrArg some (by kernel_rfl))
 t0:=Tryz.underlying0
 a0:=Tryz.isAgg0
 z0:=Tryz.sizeOf0
 v0:=Tryz.zeroValue0
 t2:=Tryz.underlying2
 a2:=Tryz.isAgg2
 z2:=Tryz.sizeOf2
 v2:=Tryz.zeroValue2
 t3:=Tryz.underlying3
 a3:=Tryz.isAgg3
 z3:=Tryz.sizeOf3
 v3:=Tryz.zeroValue3
 t4:=Tryz.underlying4
 a4:=Tryz.isAgg4
 z4:=Tryz.sizeOf4
 v4:=Tryz.zeroValue4
 t5:=Tryz.underlying5
 a5:=Tryz.isAgg5
 z5:=Tryz.sizeOf5
 v5:=Tryz.zeroValue5
 t9:=Tryz.underlying9
 a9:=Tryz.isAgg9
 z9:=Tryz.sizeOf9
 v9:=Tryz.zeroValue9
 t20:=Tryz.underlying20
 a20:=Tryz.isAgg20
 z20:=Tryz.sizeOf20
 v20:=Tryz.zeroValue20
 t37:=Tryz.underlying28
 a37:=Tryz.isAgg28
 z37:=Tryz.sizeOf28
 v37:=Tryz.zeroValue28
 t46:=Tryz.underlying149
 a46:=Tryz.isAgg149
 z46:=Tryz.sizeOf149
 v46:=Tryz.zeroValue149
 t51:=Tryz.underlying198
 a51:=Tryz.isAgg198
 z51:=Tryz.sizeOf198
 v51:=Tryz.zeroValue198
 t53:=Tryz.underlying200
 a53:=Tryz.isAgg200
 z53:=Tryz.sizeOf200
 v53:=Tryz.zeroValue200
 t171:=Tryz.underlying347
 a171:=Tryz.isAgg347
 z171:=Tryz.sizeOf347
 v171:=Tryz.zeroValue347
 t173:=Tryz.underlying349
 a173:=Tryz.isAgg349
 z173:=Tryz.sizeOf349
 v173:=Tryz.zeroValue349
 t212:=Tryz.underlying364
 a212:=Tryz.isAgg364
 z212:=Tryz.sizeOf364
 v212:=Tryz.zeroValue364
 t213:=Tryz.underlying365
 a213:=Tryz.isAgg365
 z213:=Tryz.sizeOf365
 t232:=Tryz.underlying389
 a232:=Tryz.isAgg389
 z232:=Tryz.sizeOf389
 v232:=Tryz.zeroValue389
 t233:=Tryz.underlying390
 a233:=Tryz.isAgg390
 z233:=Tryz.sizeOf390
 v233:=Tryz.zeroValue390
 g17:=by kernel_rfl
 g18:=by kernel_rfl
 g19:=by kernel_rfl
 i0:=by kernel_rfl
 i2:=by kernel_rfl
 i3:=by kernel_rfl
 i4:=by kernel_rfl
 i5:=by kernel_rfl
 i9:=by kernel_rfl
 i20:=by kernel_rfl
 i37:=by kernel_rfl
 i46:=by kernel_rfl
 i51:=by kernel_rfl
 i53:=by kernel_rfl
 i171:=by kernel_rfl
 i173:=by kernel_rfl
 i212:=by kernel_rfl
 i232:=by kernel_rfl
 i233:=by kernel_rfl
 m17:=by kernel_rfl
 m18:=by kernel_rfl
 m19:=by kernel_rfl
}
def dI (w:World):Prop:=Lib.TabIs Tryz.prog w "internal/strconv.uint64pow10" .u64 Lib.pow10Tab
theorem dI.below (h:dI w)(hb:Below w.heap.size w w'):dI w':=by
 have hg:Tryz.prog.globalNamed "internal/strconv.uint64pow10" = some 21:=by kernel_rfl
 unfold dI Lib.TabIs World.var? at h ⊢;rw[hg] at h ⊢;simp only[Option.bind_some] at h ⊢;rcases ho:w.heap[(21:Nat)]? with _|o
 ·rw[ho] at h;cases h
 ·rw[hb.block _ (ah ho)];exact h
theorem zU (n:Nat)(h1:n<9223372036854775808)(hT:dI w):Calls Tryz.prog 164 #[.int .i64 n] w fun e w'=>e =.returned (.string ⟨(Lib.itoa n).toArray⟩)/\Below w.heap.size w w':=by
 refine(Any.strconv_Itoa ru n (by omega) (by omega) w hT).mono ?_;rintro e w' ⟨rfl,k,os,rfl⟩;exact⟨rfl,Lib.below_grow _ w (Zb _) k os⟩
theorem qI {xs:List Value}(hg:w.heap[g]?=some (.cells #[.slice A n c] 168 (0,0)))(hr:bG P w 87 2 A n c xs)(i:Nat)(hi:i<n){s:ByteArray}(hs:xs[i*2]?=some (.string s))(hu:xs[i*2+1]?=some u) :
  Calls Tryz.prog 131 #[.pointer (some ⟨g,0,none⟩),.int .i64 i] w fun e w'=>e =.returned (.tuple #[.string s,u])/\Below w.heap.size w w':=by
 have c0:w.cell? ⟨g,0,none⟩=some (.slice A n c):=aa hg (j:=0) rfl;obtain⟨b,rfl,-⟩:=hr.ptr (by omega);have c1:=hr.cell (i*2) (by omega);have c2:=hr.cell (i*2+1) (by omega);rw[hs] at c1;rw[hu] at c2;have hm:=hr.2.2.1;unfold maxLen at hm;have Hl:=H8 (kT hg);clear hg hr hu hs;have h0:¬ (i:Int)<0:=by omega
 have h1:(i:Int)<n:=by omega
 go_enter Tryz.func131,Tryz.ntmps131;go_wp2_with fail;refine Za Hl ?_;rintro e w' ⟨rfl,rfl⟩;go_wp2_with fail;go_quiet (fail);go_wp2_with fail;go_ret2;exact⟨rfl,ap (Ze _ _) nq⟩
theorem nP (hT:dI w)(hg:w.heap[g]?=some (.cells #[.slice A n c] 273 (0,0)))(hr:bG P w 85 1 A n c us)(i:Nat)(hi:i<n)(hu:us[i]?=some u) :
  Calls Tryz.prog 130 #[.pointer (some ⟨g,0,none⟩),.int .i64 i] w fun e w'=>e =.returned (.tuple #[.string ⟨(Lib.itoa i).toArray⟩,u])/\Below w.heap.size w w':=by
 have a0:=H8 (sR hg hr i hi hu);have a1:n<=c:=hr.2.1;have hm:=hr.2.2.1;unfold maxLen at hm;clear hg hr hu;go_enter Tryz.func130,Tryz.ntmps130;go_wp2_with fail;refine Za a0 ?_;rintro e w' ⟨rfl,rfl⟩;have Hi:=H8 (zU (w:=w) i (by have:=a1;omega) hT);go_wp2_with fail;refine Za Hi ?_;rintro e w' ⟨rfl,hb⟩;go_wp2_with fail;go_ret2;exact⟨rfl,hb⟩
theorem wY:Calls Tryz.prog 327 #[.agg #[]] w fun e w'=>e =.returned (.int .i64 1)/\Below w.heap.size w w':=by
 go_enter Tryz.func327,Tryz.ntmps327;go_wp2_with fail;go_ret;exact⟨rfl,ac w _⟩
theorem xY:Calls Tryz.prog 323 #[x] w fun e w'=>e =.returned (.int .i64 2)/\Below w.heap.size w w':=by
 go_enter Tryz.func323,Tryz.ntmps323;go_wp2_with fail;go_ret;exact⟨rfl,Ze _ _⟩
theorem yH:Calls Tryz.prog 317 #[.agg cs] w fun e w'=>e =.returned (.int .i64 3)/\Below w.heap.size w w':=by
 go_enter Tryz.func317,Tryz.ntmps317;go_wp2_with fail;go_ret;exact⟨rfl,ac w _⟩
theorem wS:Calls Tryz.prog 294 #[x] w fun e w'=>e =.returned (.int .i64 4)/\Below w.heap.size w w':=by
 go_enter Tryz.func294,Tryz.ntmps294;go_wp2_with fail;go_ret;exact⟨rfl,Ze _ _⟩
theorem wT:Calls Tryz.prog 296 #[x] w fun e w'=>e =.returned (.int .i64 5)/\Below w.heap.size w w':=by
 go_enter Tryz.func296,Tryz.ntmps296;go_wp2_with fail;go_ret;exact⟨rfl,Ze _ _⟩
theorem BC:Calls Tryz.prog 295 #[x] w fun e w'=>e =.returned (.int .i64 6)/\Below w.heap.size w w':=by
 go_enter Tryz.func295,Tryz.ntmps295;go_wp2_with fail;go_ret;exact⟨rfl,Ze _ _⟩
theorem kA (x:List UInt8):(⟨x.toArray⟩:ByteArray).toList=x:=by rw[ByteArray.toList_eq]
theorem li {a:ByteArray}:Calls Tryz.prog 114 #[.string a] w fun e w'=>e =.returned (.bool false)/\w=w':=by
 go_enter Tryz.func114,Tryz.ntmps114;go_wp2_with fail;go_ret;exact⟨rfl,rfl⟩
def EI (x y:List UInt8):Int:=if Op.bytesLess x y then -1 else if x=y then 0 else 1
theorem tc {a b:ByteArray}:Calls Tryz.prog 78 #[.string a,.string b] w fun e w'=>e =.returned (.int .i64 (EI a.toList b.toList))/\w=w':=by
 have Hs:=H8 (show EI a.toList b.toList=if Op.bytesLess a.toList b.toList then -1 else if a.toList=b.toList then 0 else 1 from rfl);go_enter Tryz.func78,Tryz.ntmps78;go_wp2_with fail;refine li.mono ?_;rintro e w' ⟨rfl,rfl⟩;go_wp2_with fail;refine li.mono ?_;rintro e w' ⟨rfl,rfl⟩;go_wp2_with fail
 ·rename_i h1
  go_ret;refine⟨?_,rfl⟩;rw[Hs.out,if_pos h1];rfl
 ·rename_i h1 _ _ h2
  go_ret;refine⟨?_,rfl⟩;rw[Hs.out,if_neg (by simp[h1]),if_neg (by simpa using h2)];rfl
 ·rename_i h1 h2
  go_ret;refine⟨?_,rfl⟩;rw[Hs.out,if_neg (by simp[h1]),if_pos (by simpa using h2)];rfl
def GH (d:Dc):Prop:=d.digits.size<=1000000000000/\ -1000000000000<=d.exp/\d.exp<=1000000000000
