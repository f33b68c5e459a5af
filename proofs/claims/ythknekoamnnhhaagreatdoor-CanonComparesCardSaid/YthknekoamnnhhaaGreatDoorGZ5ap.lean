import Derived.Test.YthknekoamnnhhaaGreatDoorGZ5ao
import Derived.Shelf.SlSortCmp.WholeK
import Derived.Handy
import Derived.Shelf.Strconv.Itoa3
import Derived.Lib.AppendIntMem
set_option linter.unusedVariables false
set_option linter.unusedSimpArgs false
set_option maxHeartbeats 64000000
set_option maxRecDepth 100000
namespace Go.Proofs.YthknekoamnnhhaaGreatDoor
open Go.RowKit Go.Shelf
variable {aE aU:Addr}{cs:Array Value}{d:Dc}{j:JV}{L S:List (ByteArray×Value)}{ns:List ByteArray}{y:List Int}{ks:List JV}{xs ys zs:List UInt8}{us:List Value}{base c g g1 g2 i m n q:Nat}{P:Nat->Prop}{A:Option Addr}{u v x:Value}{W w w' w1 w2:World}
theorem qf (x:Int)(w:World):Calls Tryz.prog 198 #[.int .i32 x] w fun e w'=>e =.returned (.bool false)/\w=w':=by
 go_enter Tryz.func198,Tryz.ntmps198;go_wp2_with fail;go_ret;exact⟨by simp,rfl⟩
def yd (a b:Int):Int:=if a<b then -1 else if b<a then 1 else 0
theorem we (a b:Int)(w:World):Calls Tryz.prog 165 #[.int .i32 a,.int .i32 b] w fun e w'=>e =.returned (.int .i64 (yd a b))/\w=w':=by
 have h1:=Qa (fun w=>qf a w);have h2:=Qa (fun w=>qf b w);go_enter Tryz.func165,Tryz.ntmps165;go_wp2_with fail;(with_reducible refine(h1.out _).mono ?_);rintro e w' ⟨rfl,rfl⟩;go_wp2_with fail;(with_reducible refine(h2.out _).mono ?_);rintro e w' ⟨rfl,rfl⟩
 by_cases h3:a<b
 ·have Hv:=Qa (show yd a b = -1 from if_pos h3);go_wp2_with fail;go_ret;exact⟨by rw[Hv.out];rfl,rfl⟩
 by_cases h4:b<a
 ·have Hv:=Qa (show yd a b=1 from(if_neg h3).trans (if_pos h4));go_wp2_with fail;go_ret;exact⟨by rw[Hv.out];rfl,rfl⟩
 have Hv:=Qa (show yd a b=0 from(if_neg h3).trans (if_neg h4));go_wp2_with fail;go_ret;exact⟨by rw[Hv.out];rfl,rfl⟩
theorem qy.read {l:List Int}(h:qy w base (.slice A n q) l):n=l.length/\∀ (i:Nat) c,l[i]?=some c->∃g,A=some ⟨g,0,none⟩/\w.cell? ⟨g,i,none⟩=some (.int .i32 c):=by
 obtain⟨A',q',e,_,_,hA⟩:=ah h;obtain⟨rfl,rfl,rfl⟩:=Value.slice.inj e;refine⟨rfl,fun i c hc=>?_⟩;obtain⟨_,⟨e1,h0⟩|⟨g,cap,cur,e1,_⟩⟩:=id h
 ·have:=(List.getElem?_eq_some_iff.1 hc).1;omega
 ·obtain⟨rfl,-,rfl⟩:=Value.slice.inj e1;refine⟨g,rfl,?_⟩;rw[aA h rfl i (by have:=(List.getElem?_eq_some_iff.1 hc).1;omega),List.getElem?_map,hc];rfl
theorem pf {B:Option Addr}{r base2:Nat}{x:List Int}(hx:qy w base (.slice A n q) x)(hy:qy w base2 (.slice B m r) y)(a9:x.length<=4294967296)(a7:y.length<=4294967296):Calls Tryz.prog 124 #[.slice A n q,.slice B m r] w fun e w'=>e =.returned (.int .i64 (ay x y))/\w=w':=by
 obtain⟨rfl,rx⟩:=hx.read;obtain⟨rfl,ry⟩:=hy.read;have Hx:=Qa rx;have Hy:=Qa ry;clear hx hy rx ry;go_enter Tryz.func124,Tryz.ntmps124;go_wp2_with fail
 go_loopg [11] x.length (fun k s11 wr=> ∃i:Nat,k+i=x.length/\s11 =.int .i64 i/\i<=y.length/\ay (x.drop i) (y.drop i)=ay x y/\wr=w)
 case atStart=>exact⟨0,rfl,rfl,Zj _,rfl,rfl⟩
 case round=>
  obtain⟨i,hk,rfl,a6,hc,rfl⟩:=hrel;have Hc:=Qa hc;have Hk:=Qa hk
  by_cases hlt:i<x.length
  ·obtain⟨a,ha⟩:∃a,x[i]?=some a:=⟨_,Zc hlt⟩;obtain⟨gx,rfl,cx⟩:=Hx.out i a ha;have a5:(i:Int)<x.length:=by omega
   have a0:x.drop i=a::x.drop (i+1):=by rw[List.drop_eq_getElem_cons hlt];congr 1;rw[Zc hlt] at ha;exact Zh ha
   by_cases hly:i<y.length
   ·obtain⟨b,hb⟩:∃b,y[i]?=some b:=⟨_,Zc hly⟩;obtain⟨gy,rfl,cy⟩:=Hy.out i b hb;have a4:y.drop i=b::y.drop (i+1):=by rw[List.drop_eq_getElem_cons hly];congr 1;rw[Zc hly] at hb;exact Zh hb
    have a1:(i:Int)<y.length:=by omega
    have a2:¬ (y.length:Int)<=i:=by omega
    have Hc2:=Qa (show ay x y=if a<b then -1 else if b<a then 1 else ay (x.drop (i+1)) (y.drop (i+1)) by rw[<-Hc.out,a0,a4];rfl);clear hc a0 a4 ha hb hk;have s1:IntKind.i64.wrap ((i:Int)+1)= ((i+1:Nat):Int):=by rw[IntWalk.i64_in _ (by omega)];omega
    go_wp2_with fail;(with_reducible refine(we a b _).mono ?_);rintro e w' ⟨rfl,rfl⟩
    by_cases h3:a<b
    ·rw[show yd a b = -1 from if_pos h3];rw[if_pos h3] at Hc2;go_wp2_with fail;go_ret;exact⟨by rw[Hc2.out];rfl,rfl⟩
    rw[if_neg h3] at Hc2
    by_cases h4:b<a
    ·rw[show yd a b=1 from(if_neg h3).trans (if_pos h4)];rw[if_pos h4] at Hc2;go_wp2_with fail;go_ret;exact⟨by rw[Hc2.out];rfl,rfl⟩
    rw[show yd a b=0 from(if_neg h3).trans (if_neg h4)];rw[if_neg h4] at Hc2;go_wp2_with fail;go_roundg (x.length - (i+1))
    case measure=>have:=Hk.out;omega
    case rel=>exact⟨i+1,by omega,rfl,by omega,Hc2.out.symm,rfl⟩
   ·have a2:(y.length:Int)<=i:=by omega
    have Hc2:=Qa (show ay x y=1 by rw[<-Hc.out,a0,show y.drop i = [] from List.drop_of_length_le (by omega)];rfl);clear hc a0 ha hk;go_wp2_with fail;go_ret;exact⟨by rw[Hc2.out];rfl,rfl⟩
  ·have a5:¬ (i:Int)<x.length:=by omega
   have a3:i=x.length:=by omega
   have a0:x.drop i = []:=List.drop_of_length_le (by omega)
   by_cases hly:i<y.length
   ·have a1:(x.length:Int)<y.length:=by omega
    have Hc2:=Qa (show ay x y = -1 by rw[<-Hc.out,a0,List.drop_eq_getElem_cons hly];rfl);clear hc a0 hk a3;go_wp2_with fail;go_ret;exact⟨by rw[Hc2.out];rfl,rfl⟩
   ·have a1:¬ (x.length:Int)<y.length:=by omega
    have Hc2:=Qa (show ay x y=0 by rw[<-Hc.out,a0,show y.drop i = [] from List.drop_of_length_le (by omega)];rfl);clear hc a0 hk a3;go_wp2_with fail;go_ret;exact⟨by rw[Hc2.out];rfl,rfl⟩
def kf (s:ByteArray):Prop:=dB s/\s.size<=4294967296
theorem kf.len {s:ByteArray}(h:kf s):(nm s).length<=4294967296:=by
 have h1:=jj h.1.nm.1;rw[h.1.nm.2] at h1;have:s.data.toList.length=s.size:=by simp
 have:=h.2;omega
theorem AF {s t:ByteArray}(hs:kf s)(ht:kf t):Calls Tryz.prog 94 #[.string s,.string t] w fun e w'=>e =.returned (.int .i64 (ay (nm s) (nm t)))/\bX w w':=by
 have H1:=Qa (qD (w:=w) hs.1 hs.2);have H2:=Qa (fun w=>qD (w:=w) ht.1 ht.2);have L1:=Qa hs.len;have L2:=Qa ht.len;clear hs ht;go_enter Tryz.func94,Tryz.ntmps94;go_wp2_with fail;(with_reducible refine H1.out.mono ?_);rintro e w1 ⟨v1,rfl,a1,a3⟩;obtain⟨A1,q1,rfl,-⟩:=ah a1;have a6:=Qa a1;have a9:=Qa a3;clear a1 a3;go_wp2_with fail;(with_reducible refine(H2.out w1).mono ?_);rintro e w2 ⟨v2,rfl,a2,a0⟩;obtain⟨A2,q2,rfl,-⟩:=ah a2;have a7:=Qa a2;have a5:=Qa (show qy w2 w.heap.size (.slice A1 (nm s).length q1) (nm s) from aq a6.out a0.b (Za _));have a4:=Qa (a9.out.trans a0);clear a2 a0;go_wp2_with fail;(with_reducible refine(pf a5.out a7.out L1.out L2.out).mono ?_);rintro e w3 ⟨rfl,rfl⟩;go_wp2_with fail;go_ret;exact⟨rfl,a4.out⟩
theorem xO {s t:ByteArray}(hs:kf s)(ht:kf t):Calls Tryz.prog 93 #[.agg #[.string s,u],.agg #[.string t,v]] w fun e w'=>e =.returned (.int .i64 (ay (nm s) (nm t)))/\bX w w':=by
 have H:=Qa (fun w=>AF (w:=w) hs ht);have Hb:=Qa ((bX.alloc w (.cells #[.string s,u] 111)).trans (bX.alloc _ (.cells #[.string t,v] 111)));clear hs ht;go_enter Tryz.func93,Tryz.ntmps93;go_wp2_with fail;(with_reducible refine(H.out _).mono ?_);rintro e w1 ⟨rfl,a0⟩;have a1:=Qa (Hb.out.trans a0);clear a0;go_wp2_with fail;go_ret;exact⟨rfl,a1.out⟩
open Go.Lib Go.Sort
abbrev Mb:={p:ByteArray×Value // kf p.1/\ET p.2}
theorem kf.empty:kf ⟨#[]⟩:=⟨⟨[],by simp,rfl⟩,by decide⟩
instance:Inhabited Mb:=⟨⟨(⟨#[]⟩,.iface 0 undef),kf.empty,0,undef,rfl⟩⟩
def iq (p:Mb):List Value:= [.string p.1.1,p.1.2]
def Ih (x y:Mb):Int:=ay (nm x.1.1) (nm y.1.1)
instance (a b:ByteArray):Decidable (fN a b):=by unfold fN;infer_instance
theorem Je (x y:Mb):ltOf Ih x y=decide (fN x.1.1 y.1.1):=by
 unfold ltOf Ih fN;rfl
theorem Jt:SWO (ltOf Ih) where
 irrefl x:=by rw[Je];simp[kn]
 trans x y z h1 h2:=by rw[Je] at *;simp only[decide_eq_true_eq] at *;exact gT h1 h2
 ntrans x y z h1 h2:=by
  rw[Je] at *;simp only[decide_eq_false_iff_not] at *;intro h
  by_cases e:x.1.1=y.1.1
  ·rw[e] at h;exact h2 h
  ·exact h2 (gT (jI h1 e) h)
theorem Co (x y:Mb)(w:World):Calls Tryz.prog 93 #[.agg #[.string x.1.1,x.1.2],.agg #[.string y.1.1,y.1.2]] w fun e w'=>e =.returned (.int .i64 (Ih x y))/\∃q os',w'=grow (w.drewN q) os':=
 (xO x.2.1 y.2.1).mono fun _ _ ⟨h1,h2⟩=>⟨h1,h2.grow⟩
theorem BM (blk off size:Nat)(w:World):CmpLays Tryz.prog 93 #[] iq 2 Ih blk off size w:=fun _ _ _ _ x y=>Co x y _
def rT:Go.Shelf.Ren:=⟨fun|6=>92|15=>123|14=>122|28=>163|29=>164|20=>155|21=>156|22=>157|23=>158|24=>159|25=>160|26=>161|27=>162|46=>193|47=>194|48=>195|49=>196|50=>197|57=>227|n=>n,fun|22=>102|24=>111|25=>176|3=>3|39=>200|0=>0|53=>275|55=>277|4=>4|46=>269|45=>268|50=>254|5=>5|9=>9|66=>321|70=>325|76=>351|77=>183|n=>n,fun|n=>n⟩
theorem Dj:Go.Proofs.SlLaysF0.n6 Tryz.prog rT:={
 mixed:=by kernel_rfl
 f6:=⟨"slices.SortFunc[[]wicket/tree.Member,wicket/tree.Member]",by decide,Tryz.func92.trans (congrArg some (by kernel_rfl))⟩
 f14:=⟨"slices.pdqsortCmpFunc[wicket/tree.Member]",by decide,Tryz.func122.trans (congrArg some (by kernel_rfl))⟩
 f15:=Tryz.func123.trans (congrArg some (by kernel_rfl))
 f20:=⟨"slices.insertionSortCmpFunc[wicket/tree.Member]",by decide,Tryz.func155.trans (congrArg some (by kernel_rfl))⟩
 f21:=⟨"slices.heapSortCmpFunc[wicket/tree.Member]",by decide,Tryz.func156.trans (congrArg some (by kernel_rfl))⟩
 f22:=⟨"slices.breakPatternsCmpFunc[wicket/tree.Member]",by decide,Tryz.func157.trans (congrArg some (by kernel_rfl))⟩
 f23:=⟨"slices.choosePivotCmpFunc[wicket/tree.Member]",by decide,Tryz.func158.trans (congrArg some (by kernel_rfl))⟩
 f24:=⟨"slices.reverseRangeCmpFunc[wicket/tree.Member]",by decide,Tryz.func159.trans (congrArg some (by kernel_rfl))⟩
 f25:=⟨"slices.partialInsertionSortCmpFunc[wicket/tree.Member]",by decide,Tryz.func160.trans (congrArg some (by kernel_rfl))⟩
 f26:=⟨"slices.partitionEqualCmpFunc[wicket/tree.Member]",by decide,Tryz.func161.trans (congrArg some (by kernel_rfl))⟩
 f27:=⟨"slices.partitionCmpFunc[wicket/tree.Member]",by decide,Tryz.func162.trans (congrArg some (by kernel_rfl))⟩
 f28:=Tryz.func163.trans (congrArg some (by kernel_rfl))
 f29:=Tryz.func164.trans (congrArg some (by kernel_rfl))
 f46:=⟨"slices.siftDownCmpFunc[wicket/tree.Member]",by decide,Tryz.func193.trans (congrArg some (by kernel_rfl))⟩
 f47:=Tryz.func194.trans (congrArg some (by kernel_rfl))
 f48:=Tryz.func195.trans (congrArg some (by kernel_rfl))
 f49:=⟨"slices.medianAdjacentCmpFunc[wicket/tree.Member]",by decide,Tryz.func196.trans (congrArg some (by kernel_rfl))⟩
 f50:=⟨"slices.medianCmpFunc[wicket/tree.Member]",by decide,Tryz.func197.trans (congrArg some (by kernel_rfl))⟩
 f57:=⟨"slices.order2CmpFunc[wicket/tree.Member]",by decide,Tryz.func227.trans (congrArg some (by kernel_rfl))⟩
 t0:=Tryz.underlying0
 a0:=Tryz.isAgg0
 z0:=Tryz.sizeOf0
 v0:=Tryz.zeroValue0
 t3:=Tryz.underlying3
 a3:=Tryz.isAgg3
 z3:=Tryz.sizeOf3
 v3:=Tryz.zeroValue3
 t4:=Tryz.underlying4
 a4:=Tryz.isAgg4
 z4:=Tryz.sizeOf4
 v4:=Tryz.zeroValue4
 t5:=Tryz.underlying5
 a5:=Tryz.isAgg5
 z5:=Tryz.sizeOf5
 v5:=Tryz.zeroValue5
 t9:=Tryz.underlying9
 a9:=Tryz.isAgg9
 z9:=Tryz.sizeOf9
 v9:=Tryz.zeroValue9
 t22:=Tryz.underlying102
 a22:=Tryz.isAgg102
 z22:=Tryz.sizeOf102
 v22:=Tryz.zeroValue102
 t25:=Tryz.underlying176
 a25:=Tryz.isAgg176
 z25:=Tryz.sizeOf176
 v25:=Tryz.zeroValue176
 t39:=Tryz.underlying200
 a39:=Tryz.isAgg200
 z39:=Tryz.sizeOf200
 v39:=Tryz.zeroValue200
 t45:=Tryz.underlying268
 a45:=Tryz.isAgg268
 z45:=Tryz.sizeOf268
 v45:=Tryz.zeroValue268
 t46:=Tryz.underlying269
 a46:=Tryz.isAgg269
 z46:=Tryz.sizeOf269
 v46:=Tryz.zeroValue269
 t50:=Tryz.underlying254
 a50:=Tryz.isAgg254
 z50:=Tryz.sizeOf254
 v50:=Tryz.zeroValue254
 t53:=Tryz.underlying275
 a53:=Tryz.isAgg275
 z53:=Tryz.sizeOf275
 v53:=Tryz.zeroValue275
 t55:=Tryz.underlying277
 a55:=Tryz.isAgg277
 z55:=Tryz.sizeOf277
 v55:=Tryz.zeroValue277
 t66:=Tryz.underlying321
 a66:=Tryz.isAgg321
 z66:=Tryz.sizeOf321
 v66:=Tryz.zeroValue321
 t70:=Tryz.underlying325
 a70:=Tryz.isAgg325
 z70:=Tryz.sizeOf325
 v70:=Tryz.zeroValue325
 t76:=Tryz.underlying351
 a76:=Tryz.isAgg351
 z76:=Tryz.sizeOf351
 v76:=Tryz.zeroValue351
 t77:=Tryz.underlying183
 a77:=Tryz.isAgg183
 z77:=Tryz.sizeOf183
 v77:=Tryz.zeroValue183
}
def CG (L:List (ByteArray×Value)):Prop:= ∀p∈L,kf p.1/\ET p.2
open Classical in
noncomputable def Ik (p:ByteArray×Value):Mb:=if h:kf p.1/\ET p.2 then⟨p,h⟩ else default
theorem En {p:ByteArray×Value}(h:kf p.1/\ET p.2):(Ik p).1=p:=by unfold Ik;rw[dif_pos h]
theorem FE (hb:CG L){p:ByteArray×Value}(hp:L[i]?=some p):(((L.map Ik).toArray)[i]!).1=p:=by
 have hi:=(List.getElem?_eq_some_iff.1 hp).1;have h0:=hb p (Zk hp);have e:((L.map Ik).toArray)[i]! =Ik p:=by
  rw[getElem!_pos _ i (by simpa using hi)];simp only[List.getElem_toArray,List.getElem_map]
  congr 1
  have:=Zc hi;rw[hp] at this;exact(Zh this).symm
 rw[e];exact En h0
def m8 (L:List (ByteArray×Value)):Prop:=L.Pairwise fun p q=> ¬fN q.1 p.1
def JX (w:World)(base g:Nat)(L:List (ByteArray×Value))(e:Ending)(w':World):Prop:= ∃S:List (ByteArray×Value),m8 S/\S.Perm L/\e =.returned (.tuple #[])/\II w' g S/\(∃cur:Array Value,w'.heap[g]?=some (.cells cur 111 (0,0))/\L.length*2<=cur.size)/\Below base w w'
theorem tG (h:xW w base (.slice (some ⟨g,0,none⟩) L.length q) L)(hb:CG L)(hB:base<=w.heap.size)(hl:L.length<=4294967296):Calls Tryz.prog 92 #[.slice (some ⟨g,0,none⟩) L.length q,.func (.func 93) #[] #[]] w (JX w base g L):=by
 obtain⟨d,hd⟩:∃d:Array Mb,(L.map Ik).toArray=d:=⟨_,rfl⟩;have a1:d.size=L.length:=by rw[<-hd];simp
 have a6:∀ (i:Nat) (p:ByteArray×Value),L[i]?=some p->(d[i]!).1=p:=fun i p hp=>by rw[<-hd];exact FE hb hp
 obtain⟨a7,cur,a0⟩:=al h rfl;have a7:base<=g:=a7;have b0:=h.read;have b1:L.length*2<=cur.size:=by
  obtain⟨_,⟨e1,_⟩|⟨g',cap,cur',e1,_,a4,h2,h3,h4,h5⟩⟩:=id h
  ·cases e1
  ·obtain⟨e2,-,-⟩:=Value.slice.inj e1;obtain rfl:g=g':=by injection e2 with e2;injection e2
   rw[a0] at a4;obtain rfl:cur=cur':=by injection a4 with a4;injection a4
   rw[h4];omega
 have hH:HoldsK iq 2 w g 0 d:=by
  intro j hj;rw[size_flatK,a1] at hj;obtain⟨p,hp⟩:∃p,L[j/2]?=some p:=⟨_,Zc (by omega)⟩;obtain⟨c1,c2⟩:=b0 _ _ hp;refine⟨?_,am a0 _⟩;rw[get_flatK iq 2 d j (by rw[a1];exact hj)];have hv:=a6 _ _ hp;rw[Nat.zero_add];rcases Nat.mod_two_eq_zero_or_one j with hm|hm
  ·rw[hm,show j= (j/2)*2 by omega];rw[show(j/2)*2/2=j/2 by omega,c1];unfold iq;rw[hv];rfl
  ·rw[hm,show j= (j/2)*2+1 by omega];rw[show((j/2)*2+1)/2=j/2 by omega,c2];unfold iq;rw[hv];rfl
 have eg:∀args w,(callFunc 93 args).run Tryz.prog w =.ok (.enter 93 args) w:=enters_of Tryz.func93 (by kernel_rfl) rfl;have a3:=AnyQ.slices_SortFunc Dj 2 Tryz.isAgg111 Tryz.sizeOf111 iq (fun _=>rfl) (fun x v hv=>by simp[iq] at hv;rcases hv with rfl|rfl;(· rfl);exact x.2.2.one) Ih Jt 93 #[] g 0 q d w eg (BM g 0 d.size w) hH (ae a0) (by rw[a1];omega);change Calls Tryz.prog 92 _ _ _ at a3;rw[a1] at a3;refine a3.mono ?_;rintro e w' ⟨rfl,d',n,os,hp,hs,rfl⟩;have a5:d'.size=L.length:=by rw[hp.1,a1]
 have hsz:(putRowK iq 2 (Sort.ahead w n) g 0 d').heap.size=w.heap.size:=by unfold putRowK putRow mapBlock Sort.ahead;simp
 refine⟨d'.toList.map (·.1),?_,?_,rfl,?_,?_,?_⟩
 ·unfold m8;rw[List.pairwise_map,List.pairwise_iff_getElem];intro i j hi hj a9;have h1:=hs i j (Zj _) a9 (by simpa [a5] using hj);rw[Je] at h1;rw[getElem!_pos d' i (by simpa using hi),getElem!_pos d' j (by simpa using hj)] at h1;simp only[Array.getElem_toList];simpa only[decide_eq_false_iff_not] using h1
 ·have h1:=hp.2.2;rw[<-a1] at h1;have e1:d.extract 0 d.size=d:=by simp
  have e2:d'.extract 0 d.size=d':=by rw[<-hp.1];simp
  rw[e1,e2] at h1;have h2:=h1.map (·.1);have e3:d.toList.map (·.1)=L:=by
   apply List.ext_getElem?
   intro i;rw[List.getElem?_map]
   by_cases hi:i<L.length
   ·obtain⟨p,a2⟩:∃p,L[i]?=some p:=⟨_,Zc hi⟩;have hv:=a6 i p a2;rw[getElem!_pos d i (by omega)] at hv;rw[a2,Zc (by simpa [a1] using hi)];simp only[Array.getElem_toList,Option.map_some,hv]
   ·rw[List.getElem?_eq_none (by simpa [a1] using hi),List.getElem?_eq_none (by omega)];rfl
  rw[e3] at h2;exact h2
 ·have hK:=holdsK_grow iq 2 (putRowK iq 2 (Sort.ahead w n) g 0 d') os g 0 d' (by rw[hsz];exact ae a0) (holdsK_putRowK iq 2 (Sort.ahead w n) g 0 d d' (holdsK_ahead iq 2 w n g 0 d hH) hp.1);intro i p a2;rw[List.getElem?_map] at a2;have hi:i<d'.size:=by
   have:=(List.getElem?_eq_some_iff.1 (show(d'.toList.map (·.1))[i]?=some p by rw[List.getElem?_map];exact a2)).1;simpa using this
  have hv:(d'[i]!).1=p:=by
   rw[Zc (by simpa using hi)] at a2;rw[getElem!_pos d' i hi];simpa using a2
  have k1:=hK.cell hi (show 0<2 by decide);have k2:=hK.cell hi (show 1<2 by decide);have e1:((iq d'[i]!)[0]! :Value) =.string p.1:=by unfold iq;rw[hv];rfl
  have e2:((iq d'[i]!)[1]! :Value)=p.2:=by unfold iq;rw[hv];rfl
  have k3:=k1.1;have k4:=k2.1;rw[e1,show 0+i*2+0=i*2 by omega] at k3;rw[e2,show 0+i*2+1=i*2+1 by omega] at k4;exact⟨k3,k4⟩
 ·have hlt:=ae a0;have hg:∃f:Array Value->Array Value,(∀c,(f c).size=c.size)/\(putRowK iq 2 (Sort.ahead w n) g 0 d').heap[g]?=some (.cells (f cur) 111 (0,0)):=by
   refine⟨fun c=>putCells id 0 (flatK iq 2 d') c,fun c=>by unfold putCells;simp,?_⟩;unfold putRowK putRow mapBlock Sort.ahead;simp only;have h':w.heap[g] =.cells cur 111 (0,0):=by simpa [Array.getElem?_eq_getElem hlt] using a0
   rw[Array.getElem?_eq_getElem (by simpa using hlt),Array.getElem_modify_self,h'];rfl
  obtain⟨f,hf,hg⟩:=hg;refine⟨f cur,?_,by rw[hf];exact b1⟩;unfold sortWorldK;rw[heap_grow_old _ os (by rw[hsz];exact hlt)];exact hg
 ·have hg:∀k,k<base->(sortWorldK iq 2 w g 0 n d' os).heap[k]?=w.heap[k]?:=by
   intro k hk;unfold sortWorldK;rw[heap_grow_old _ os (by unfold putRowK putRow mapBlock Sort.ahead;simp;omega)];unfold putRowK putRow mapBlock Sort.ahead;simp only;rw[Array.getElem?_modify,if_neg (by omega)]
  refine⟨rfl,rfl,rfl,?_,hg⟩;unfold sortWorldK grow putRowK putRow mapBlock Sort.ahead;simp
theorem xm (w:World):Calls Tryz.prog 164 #[.int .u64 0] w fun e w'=>e =.returned (.int .i64 0)/\w=w':=by
 go_enter Tryz.func164,Tryz.ntmps164;go_wp2_with fail;go_ret;exact⟨by show Ending.returned (.int .i64 (wrap64 (wrap64 (len8 0))))=_;exact congrArg (fun x=>Ending.returned (.int .i64 x)) (by decide +kernel),rfl⟩
theorem DL (w:World):Calls Tryz.prog 123 #[.int .u64 0] w fun e w'=>e =.returned (.int .i64 0)/\w=w':=by
 have h1:=Qa (fun w=>xm w);go_enter Tryz.func123,Tryz.ntmps123;go_wp2_with fail;(with_reducible refine(h1.out _).mono ?_);rintro e w' ⟨rfl,rfl⟩;go_wp2_with fail;go_ret;exact⟨rfl,rfl⟩
theorem oQ (A:Option Addr)(c:Nat)(f:Value)(w:World):Calls Tryz.prog 155 #[.slice A 0 c,.int .i64 0,.int .i64 0,f] w fun e w'=>e =.returned (.tuple #[])/\w=w':=by
 go_enter Tryz.func155,Tryz.ntmps155;go_wp2_with fail
 go_loopg [8] 0 (fun _ s8 wr=>s8 =.int .i64 1/\wr=w)
 case atStart=>exact⟨rfl,rfl⟩
 case round=>
  obtain⟨rfl,rfl⟩:=hrel;go_wp2_with fail;go_end0;exact⟨rfl,rfl⟩
theorem CI (A:Option Addr)(c:Nat)(f:Value)(w:World):Calls Tryz.prog 122 #[.slice A 0 c,.int .i64 0,.int .i64 0,.int .i64 0,f] w fun e w'=>e =.returned (.tuple #[])/\w=w':=by
 have h1:=Qa (fun w=>oQ A c f w);go_enter Tryz.func122,Tryz.ntmps122;go_wp2_with fail
 go_loopg [1,2] 0 (fun _ s1 s2 wr=>s1 =.int .i64 0/\s2 =.int .i64 0/\wr=w)
 case atStart=>exact⟨rfl,rfl,rfl⟩
 case round=>
  obtain⟨rfl,rfl,rfl⟩:=hrel;go_wp2_with fail;(with_reducible refine(h1.out _).mono ?_);rintro e w' ⟨rfl,rfl⟩;go_wp2_with fail;(try simp only[Exit.inBlock,Exit.then]);refine Zg (results_none rfl ..) rfl ?_;exact⟨rfl,rfl⟩
theorem Aj (A:Option Addr)(c:Nat)(f:Value)(w:World):Calls Tryz.prog 92 #[.slice A 0 c,f] w fun e w'=>e =.returned (.tuple #[])/\w=w':=by
 have h1:=Qa (fun w=>DL w);have h2:=Qa (fun w=>CI A c f w);go_enter Tryz.func92,Tryz.ntmps92;go_wp2_with fail;(with_reducible refine(h1.out _).mono ?_);rintro e w' ⟨rfl,rfl⟩;go_wp2_with fail;(with_reducible refine(h2.out _).mono ?_);rintro e w' ⟨rfl,rfl⟩;go_wp2_with fail;go_end0;exact⟨rfl,rfl⟩
def I3 (w:World)(n:Nat)(L:List (ByteArray×Value))(e:Ending)(w':World):Prop:= ∃g A c S,e =.returned (.tuple #[.pointer (some ⟨g,0,none⟩),.nilIface])/\Below w.heap.size w w'/\w.heap.size<=g/\w'.heap[g]?=some (.cells #[.slice A n c] 178 (0,0))/\cv (w.heap.size<= ·) w' 111 2 A n c (ga S)/\S.Perm L/\(S.map Prod.fst).Pairwise fN
theorem tB (h:m8 S)(hn:(S.map Prod.fst).Nodup):(S.map Prod.fst).Pairwise fN:=by
 rw[List.pairwise_map];rw[List.Nodup,List.pairwise_map] at hn;exact(h.and hn).imp fun ⟨h1,h2⟩=>jI h1 (fun e=>h2 e.symm)
def Rm (w:World)(A:Option Addr)(L:List (ByteArray×Value)):Prop:= ∀ (i:Nat) (p:ByteArray×Value),L[i]?=some p->∃g,A=some ⟨g,0,none⟩/\w.cell? ⟨g,i*2,none⟩=some (.string p.1)/\w.cell? ⟨g,i*2+1,none⟩=some p.2
theorem Rm.below (h:Rm w A L)(hb:Below w.heap.size w w'):Rm w' A L:=fun i p hp=>by
 obtain⟨g,h1,h2,h3⟩:=h i p hp;exact⟨g,h1,Zf hb h2,Zf hb h3⟩
theorem xW.rm (h:xW w base (.slice A n q) L):n=L.length/\Rm w A L:=by
 obtain⟨A',q',e,_,_,hA⟩:=ah h;obtain⟨rfl,rfl,rfl⟩:=Value.slice.inj e;refine⟨rfl,fun i p hp=>?_⟩;obtain⟨g,rfl⟩:=hA (by have:=(List.getElem?_eq_some_iff.1 hp).1;omega);exact⟨g,rfl,h.read i p hp⟩
theorem gL (hv:zd 2 w v n (ga L))(hg:CG L)(b0:(L.map Prod.fst).Nodup)(hl:n<=4294967296):Calls Tryz.prog 55 #[v] w (I3 w n L):=by
 have a6:L.length=n:=by
  have:=hv.1;rw[kM] at this;omega
 obtain⟨hm,d1,A,cap,rfl,hc,hA⟩:=id hv;have Hk:=Qa (pm hv (fun u h=>by
  obtain⟨p,hp,hu⟩:=List.mem_flatMap.1 h;simp at hu;rcases hu with rfl|rfl
  ·rfl
  ·exact(hg p hp).2.one) hl)
 have Hg:=Qa hg;have c3:=Qa b0;clear hv hA hg b0;go_enter Tryz.func55,Tryz.ntmps55;go_wp2_with fail;(with_reducible refine Hk.out.mono ?_);rintro e w1 ⟨A1,c1,rfl,a9,b1⟩;have ho:xW w1 w.heap.size (.slice A1 n c1) L:=by unfold xW;rw[a6];exact b1
 have Ho:=Qa ho;have c9:=Qa a9;have c0:=Qa ho.rm.2;have a2:=Qa a6;clear b1 ho a9 Hk hm a6;go_wp2_with fail
 go_loopg [6,12] n (fun k _ s12 wr=> ∃i:Nat,k+i=n/\s12 =.int .i64 i/\Below w1.heap.size w1 wr)
 case atStart=>exact⟨0,rfl,rfl,Zd _ _⟩
 case round=>
  obtain⟨i,hk,rfl,hb⟩:=hrel;have Hb:=Qa hb
  by_cases hlt:i<n
  ·obtain⟨p,hp⟩:∃p,L[i]?=some p:=⟨_,Zc (by have:=a2.out;omega)⟩;obtain⟨g,rfl,q0,q1⟩:=(c0.out.below hb) i p hp;obtain⟨t,x,hx⟩:=(Hg.out p (Zk hp)).2;rw[hx] at q1;have a0:(i:Int)<n:=by omega
   have Hk:=Qa hk;have qe:∀w,(binOp .eql 32 (.iface t x) .nilIface).run Tryz.prog w =.ok (.bool false) w:=fun w=>sB w t x
   clear hp hb hx hk;go_wp2_with fail;go_roundg (n - (i+1))
   case measure=>have:=Hk.out;omega
   case rel=>exact⟨i+1,by omega,by go_num,bE Hb.out (ac _ _)⟩
  ·obtain rfl:i=n:=by omega
   have a0:¬ (i:Int)<i:=by omega
   clear hk hb hlt;go_wp2_with fail;have a5:=bE c9.out Hb.out;have a1:=Qa (show xW wr w.heap.size (.slice A1 i c1) L from aq Ho.out Hb.out (Za _));have c7:=Qa a5;have b6:Calls Tryz.prog 92 #[.slice A1 i c1,.func (.func 93) #[] #[]] wr fun e w'=>e =.returned (.tuple #[])/\Below w.heap.size wr w'/\∃S,S.Perm L/\m8 S/\Rm w' A1 S/\cv (w.heap.size<= ·) w' 111 2 A1 i c1 (ga S):=by
    rcases Nat.eq_zero_or_pos i with h0|h0
    ·subst h0;obtain rfl:=List.eq_nil_of_length_eq_zero a2.out;refine(Aj A1 c1 _ wr).mono ?_;rintro e w' ⟨rfl,rfl⟩;exact⟨rfl,Zd _ _, [],List.Perm.refl _,List.Pairwise.nil,fun i p h=>by simp at h,cv.of_own a1.out⟩
    ·obtain⟨A',q',e,hcc,d0,c6⟩:=ah a1.out;obtain⟨rfl,rfl,rfl⟩:=Value.slice.inj e;obtain⟨g,rfl⟩:=c6 (by have:=a2.out;omega);have b8:=tG a1.out Hg.out a5.size (by have:=a2.out;omega);refine b8.mono ?_;rintro e w' ⟨S,h1,h2,rfl,h3,⟨cur,h4,h5⟩,h6⟩;have b9:S.length=L.length:=h2.length_eq;refine⟨rfl,h6,S,h2,h1,fun i p hp=>⟨g,rfl,h3 i p hp⟩,by rw[kM,b9],hcc,by unfold maxLen at d0 ⊢;have:=(bU a1.out);obtain⟨_,⟨e,_⟩|⟨_,_,_,e,_,_,_,h,_⟩⟩:=id a1.out;(· cases e);obtain⟨-,-,rfl⟩:=Value.slice.inj e;exact h,fun _=>⟨g,rfl,(al a1.out rfl).1,cur,h4,?_⟩⟩;apply List.ext_getElem?;intro j
     by_cases hj:j<L.length*2
     ·rw[List.getElem?_take_of_lt hj,Array.getElem?_toList];obtain⟨p,hp⟩:∃p,S[j/2]?=some p:=⟨_,Zc (by omega)⟩;obtain⟨c1,c2⟩:=h3 _ _ hp;obtain⟨m1,m2⟩:=rj S _ p hp;unfold World.cell? at c1 c2;simp only[h4] at c1 c2;rcases Nat.mod_two_eq_zero_or_one j with hm|hm
      ·rw[show j/2*2=j by omega] at c1 m1;rw[m1];simpa using c1
      ·rw[show j/2*2+1=j by omega] at c2 m2;rw[m2];simpa using c2
     ·rw[List.getElem?_eq_none (by simp;omega),List.getElem?_eq_none (by rw[kM];omega)]
   (with_reducible refine b6.mono ?_);rintro e w2 ⟨rfl,b7,S,hp,hs,b4,a3⟩;have c5:=Qa (c7.out.trans b7);have Hp:=Qa hp;have Hs:=Qa (tB hs ((hp.map Prod.fst).nodup_iff.2 c3.out));have b2:=Qa b4;have a7:=Qa a3;have a4:=Qa (show S.length=i by rw[hp.length_eq];exact a2.out);clear hp hs b4 a3 b7 b6 a5;go_wp2_with fail
   go_loopg [7] (i - 1) (fun k s7 wr=> ∃j:Nat,k+j=i - 1/\s7 =.int .i64 (j+1:Nat)/\Below w2.heap.size w2 wr)
   case atStart=>exact⟨0,rfl,rfl,Zd _ _⟩
   case round=>
    obtain⟨j,hk,rfl,hb⟩:=hrel;have Hb3:=Qa hb;have Hk:=Qa hk
    by_cases hlt:j+1<i
    ·obtain⟨p,hp⟩:∃p,S[j]?=some p:=⟨_,Zc (by have:=a4.out;omega)⟩;obtain⟨r,hr⟩:∃r,S[j+1]?=some r:=⟨_,Zc (by have:=a4.out;omega)⟩;obtain⟨g,rfl,q0,-⟩:=(b2.out.below hb) j p hp;obtain⟨g',e,r0,-⟩:=(b2.out.below hb) (j+1) r hr;obtain rfl:g=g':=by injection e with e;injection e
     have hne:p.1≠r.1:=by
      refine nF ((List.pairwise_iff_getElem.1 Hs.out) j (j+1) (by simp;have:=a4.out;omega) (by simp;have:=a4.out;omega) (by omega) |> fun h=>?_);simpa [(List.getElem?_eq_some_iff.1 hp).2,(List.getElem?_eq_some_iff.1 hr).2] using h
     have c4:(r.1.toList==p.1.toList)=false:=by rw[gj];simp;exact fun e=>hne e.symm
     have s1:IntKind.i64.wrap (j:Int)= (j:Int):=IntWalk.i64_in _ (by omega);have s2:IntKind.i64.wrap ((j:Int)+1+1)= (j:Int)+1+1:=IntWalk.i64_in _ (by omega);have a0:(j:Int)+1<i:=by omega
     have b5:(j:Int)<i:=by omega
     have d2:((j:Int)+1).toNat=j+1:=by omega
     have c8:(0:Int)<=(j:Int)+1:=by omega
     clear hp hr hb hk hlt hne;go_wp2_with fail;go_quiet (fail);go_wp2_with fail;go_roundg (i - 1 - (j+1))
     case measure=>have:=Hk.out;omega
     case rel=>exact⟨j+1,by omega,by go_num,az Hb3.out _⟩
    ·have a0:¬ (j:Int)+1<i:=by omega
     clear hb hk hlt;go_wp2_with fail;go_ret2;have b3:=bE c5.out Hb3.out;exact⟨_,A1,c1,S,rfl,bE b3 (ac _ _),b3.size,Ze _ _,a7.out.stay fun g o hp hg _ _=>⟨hp,(Below.heap_alloc _ _ _ (ae (aj hg Hb3.out))).trans (aj hg Hb3.out)⟩,Hp.out,Hs.out⟩
def r9:Go.Shelf.Ren:=⟨fun|171=>111|243=>141|246=>182|283=>215|284=>216|285=>217|286=>218|129=>164|317=>233|318=>234|319=>235|320=>236|337=>246|338=>247|n=>n,fun|3=>3|9=>9|2=>2|4=>4|171=>340|0=>0|53=>277|37=>22|5=>5|173=>342|212=>367|51=>275|20=>20|213=>368|46=>200|232=>392|233=>393|n=>n,fun|17=>11|18=>16|19=>17|n=>n⟩
theorem vM:Go.Proofs.LaysM.n171 Tryz.prog r9:={
 mixed:=by kernel_rfl
 f129:=Tryz.func164.trans (congrArg some (by kernel_rfl))
 f171:=Tryz.func111.trans (congrArg some (by kernel_rfl))
 f243:=Tryz.func141.trans (congrArg some (by kernel_rfl))
 f246:=Tryz.func182.trans (congrArg some (by kernel_rfl))
 f283:=Tryz.func215.trans (congrArg some (by kernel_rfl))
 f284:=Tryz.func216.trans (congrArg some (by kernel_rfl))
 f285:=Tryz.func217.trans (congrArg some (by kernel_rfl))
 f286:=Tryz.func218.trans (congrArg some (by kernel_rfl))
 f317:=Tryz.func233.trans (congrArg some (by kernel_rfl))
 f318:=Tryz.func234.trans (congrArg some (by kernel_rfl))
 f319:=Tryz.func235.trans (congrArg some (by kernel_rfl))
 f320:=Tryz.func236.trans (congrArg some (by kernel_rfl))
 f337:=Tryz.func246.trans (congrArg some (by kernel_rfl))
 f338:=Tryz.func247.trans (congrArg some (by kernel_rfl))
 t0:=Tryz.underlying0
 a0:=Tryz.isAgg0
 z0:=Tryz.sizeOf0
 v0:=Tryz.zeroValue0
 t2:=Tryz.underlying2
 a2:=Tryz.isAgg2
 z2:=Tryz.sizeOf2
 v2:=Tryz.zeroValue2
 t3:=Tryz.underlying3
 a3:=Tryz.isAgg3
 z3:=Tryz.sizeOf3
 v3:=Tryz.zeroValue3
 t4:=Tryz.underlying4
 a4:=Tryz.isAgg4
 z4:=Tryz.sizeOf4
 v4:=Tryz.zeroValue4
 t5:=Tryz.underlying5
 a5:=Tryz.isAgg5
 z5:=Tryz.sizeOf5
 v5:=Tryz.zeroValue5
 t9:=Tryz.underlying9
 a9:=Tryz.isAgg9
 z9:=Tryz.sizeOf9
 v9:=Tryz.zeroValue9
 t20:=Tryz.underlying20
 a20:=Tryz.isAgg20
 z20:=Tryz.sizeOf20
 v20:=Tryz.zeroValue20
 t37:=Tryz.underlying22
 a37:=Tryz.isAgg22
 z37:=Tryz.sizeOf22
 v37:=Tryz.zeroValue22
 t46:=Tryz.underlying200
 a46:=Tryz.isAgg200
 z46:=Tryz.sizeOf200
 v46:=Tryz.zeroValue200
 t51:=Tryz.underlying275
 a51:=Tryz.isAgg275
 z51:=Tryz.sizeOf275
 v51:=Tryz.zeroValue275
 t53:=Tryz.underlying277
 a53:=Tryz.isAgg277
 z53:=Tryz.sizeOf277
 v53:=Tryz.zeroValue277
 t171:=Tryz.underlying340
 a171:=Tryz.isAgg340
 z171:=Tryz.sizeOf340
 v171:=Tryz.zeroValue340
 t173:=Tryz.underlying342
 a173:=Tryz.isAgg342
 z173:=Tryz.sizeOf342
 v173:=Tryz.zeroValue342
 t212:=Tryz.underlying367
 a212:=Tryz.isAgg367
 z212:=Tryz.sizeOf367
 v212:=Tryz.zeroValue367
 t213:=Tryz.underlying368
 a213:=Tryz.isAgg368
 z213:=Tryz.sizeOf368
 t232:=Tryz.underlying392
 a232:=Tryz.isAgg392
 z232:=Tryz.sizeOf392
 v232:=Tryz.zeroValue392
 t233:=Tryz.underlying393
 a233:=Tryz.isAgg393
 z233:=Tryz.sizeOf393
 v233:=Tryz.zeroValue393
 g17:=by kernel_rfl
 g18:=by kernel_rfl
 g19:=by kernel_rfl
 i0:=by kernel_rfl
 i2:=by kernel_rfl
 i3:=by kernel_rfl
 i4:=by kernel_rfl
 i5:=by kernel_rfl
 i9:=by kernel_rfl
 i20:=by kernel_rfl
 i37:=by kernel_rfl
 i46:=by kernel_rfl
 i51:=by kernel_rfl
 i53:=by kernel_rfl
 i171:=by kernel_rfl
 i173:=by kernel_rfl
 i212:=by kernel_rfl
 i232:=by kernel_rfl
 i233:=by kernel_rfl
 m17:=by kernel_rfl
 m18:=by kernel_rfl
 m19:=by kernel_rfl
}
def du (w:World):Prop:=Lib.TabIs Tryz.prog w "internal/strconv.uint64pow10" .u64 Lib.pow10Tab
theorem du.below (h:du w)(hb:Below w.heap.size w w'):du w':=by
 have hg:Tryz.prog.globalNamed "internal/strconv.uint64pow10" = some 11:=by kernel_rfl
 unfold du Lib.TabIs World.var? at h ⊢;rw[hg] at h ⊢;simp only[Option.bind_some] at h ⊢;rcases ho:w.heap[(11:Nat)]? with _|o
 ·rw[ho] at h;cases h
 ·rw[hb.block _ (ae ho)];exact h
theorem BQ (n:Nat)(h1:n<9223372036854775808)(hT:du w):Calls Tryz.prog 111 #[.int .i64 n] w fun e w'=>e =.returned (.string ⟨(Lib.itoa n).toArray⟩)/\Below w.heap.size w w':=by
 refine(Any.strconv_Itoa vM n (by omega) (by omega) w hT).mono ?_;rintro e w' ⟨rfl,k,os,rfl⟩;exact⟨rfl,Lib.below_grow _ w (Za _) k os⟩
theorem uF {xs:List Value}(hg:w.heap[g]?=some (.cells #[.slice A n c] 178 (0,0)))(hr:cv P w 111 2 A n c xs)(i:Nat)(hi:i<n){s:ByteArray}(hs:xs[i*2]?=some (.string s))(hu:xs[i*2+1]?=some u) :
  Calls Tryz.prog 85 #[.pointer (some ⟨g,0,none⟩),.int .i64 i] w fun e w'=>e =.returned (.tuple #[.string s,u])/\Below w.heap.size w w':=by
 have c0:w.cell? ⟨g,0,none⟩=some (.slice A n c):=aa hg (j:=0) rfl;obtain⟨b,rfl,-⟩:=hr.ptr (by omega);have c1:=hr.cell (i*2) (by omega);have c2:=hr.cell (i*2+1) (by omega);rw[hs] at c1;rw[hu] at c2;have hm:=hr.2.2.1;unfold maxLen at hm;have Hl:=Qa (nW hg);clear hg hr hu hs;have h0:¬ (i:Int)<0:=by omega
 have h1:(i:Int)<n:=by omega
 go_enter Tryz.func85,Tryz.ntmps85;go_wp2_with fail;(with_reducible refine Hl.out.mono ?_);rintro e w' ⟨rfl,rfl⟩;go_wp2_with fail;go_quiet (fail);go_wp2_with fail;go_ret2;exact⟨rfl,az (Zd _ _) nq⟩
theorem rL (hT:du w)(hg:w.heap[g]?=some (.cells #[.slice A n c] 173 (0,0)))(hr:cv P w 32 1 A n c us)(i:Nat)(hi:i<n)(hu:us[i]?=some u) :
  Calls Tryz.prog 83 #[.pointer (some ⟨g,0,none⟩),.int .i64 i] w fun e w'=>e =.returned (.tuple #[.string ⟨(Lib.itoa i).toArray⟩,u])/\Below w.heap.size w w':=by
 have a1:=Qa (xS hg hr i hi hu);have a0:n<=c:=hr.2.1;have hm:=hr.2.2.1;unfold maxLen at hm;clear hg hr hu;go_enter Tryz.func83,Tryz.ntmps83;go_wp2_with fail;(with_reducible refine a1.out.mono ?_);rintro e w' ⟨rfl,rfl⟩;have Hi:=Qa (BQ (w:=w) i (by have:=a0;omega) hT);go_wp2_with fail;(with_reducible refine Hi.out.mono ?_);rintro e w' ⟨rfl,hb⟩;go_wp2_with fail;go_ret2;exact⟨rfl,hb⟩
theorem gR:Calls Tryz.prog 65 #[.agg #[]] w fun e w'=>e =.returned (.int .i64 1)/\Below w.heap.size w w':=by
 go_enter Tryz.func65,Tryz.ntmps65;go_wp2_with fail;go_ret;exact⟨rfl,ac w _⟩
theorem ik:Calls Tryz.prog 67 #[x] w fun e w'=>e =.returned (.int .i64 2)/\Below w.heap.size w w':=by
 go_enter Tryz.func67,Tryz.ntmps67;go_wp2_with fail;go_ret;exact⟨rfl,Zd _ _⟩
theorem i1:Calls Tryz.prog 70 #[.agg cs] w fun e w'=>e =.returned (.int .i64 3)/\Below w.heap.size w w':=by
 go_enter Tryz.func70,Tryz.ntmps70;go_wp2_with fail;go_ret;exact⟨rfl,ac w _⟩
theorem gQ:Calls Tryz.prog 72 #[x] w fun e w'=>e =.returned (.int .i64 4)/\Below w.heap.size w w':=by
 go_enter Tryz.func72,Tryz.ntmps72;go_wp2_with fail;go_ret;exact⟨rfl,Zd _ _⟩
theorem io:Calls Tryz.prog 74 #[.agg #[]] w fun e w'=>e =.returned (.int .i64 7)/\Below w.heap.size w w':=by
 go_enter Tryz.func74,Tryz.ntmps74;go_wp2_with fail;go_ret;exact⟨rfl,ac w _⟩
theorem eB:Calls Tryz.prog 105 #[x] w fun e w'=>e =.returned (.int .i64 5)/\Below w.heap.size w w':=by
 go_enter Tryz.func105,Tryz.ntmps105;go_wp2_with fail;go_ret;exact⟨rfl,Zd _ _⟩
theorem gU:Calls Tryz.prog 107 #[x] w fun e w'=>e =.returned (.int .i64 6)/\Below w.heap.size w w':=by
 go_enter Tryz.func107,Tryz.ntmps107;go_wp2_with fail;go_ret;exact⟨rfl,Zd _ _⟩
def sg (a b:Int):Int:=if a<b then -1 else if b<a then 1 else 0
theorem eM {a:Int}:Calls Tryz.prog 98 #[.int .i64 a] w fun e w'=>e =.returned (.bool false)/\w=w':=by
 go_enter Tryz.func98,Tryz.ntmps98;go_wp2_with fail;go_ret;simp
theorem bj {a b:Int}:Calls Tryz.prog 58 #[.int .i64 a,.int .i64 b] w fun e w'=>e =.returned (.int .i64 (sg a b))/\w=w':=by
 unfold sg;rcases Int.lt_trichotomy a b with h|h|h
 ·rw[if_pos h];go_enter Tryz.func58,Tryz.ntmps58;go_wp2_with fail;(with_reducible refine eM.mono ?_);rintro e w' ⟨rfl,rfl⟩;go_wp2_with fail;(with_reducible refine eM.mono ?_);rintro e w' ⟨rfl,rfl⟩;go_wp2_with fail;go_ret;exact⟨rfl,rfl⟩
 ·subst h;rw[if_neg (Int.lt_irrefl _),if_neg (Int.lt_irrefl _)];go_enter Tryz.func58,Tryz.ntmps58;go_wp2_with fail;(with_reducible refine eM.mono ?_);rintro e w' ⟨rfl,rfl⟩;go_wp2_with fail;(with_reducible refine eM.mono ?_);rintro e w' ⟨rfl,rfl⟩;go_wp2_with fail;go_ret;exact⟨rfl,rfl⟩
 ·have h':¬a<b:=by omega
  rw[if_neg h',if_pos h];go_enter Tryz.func58,Tryz.ntmps58;go_wp2_with fail;(with_reducible refine eM.mono ?_);rintro e w' ⟨rfl,rfl⟩;go_wp2_with fail;(with_reducible refine eM.mono ?_);rintro e w' ⟨rfl,rfl⟩;go_wp2_with fail;go_ret;exact⟨rfl,rfl⟩
theorem rK (x:List UInt8):(⟨x.toArray⟩:ByteArray).toList=x:=by rw[ByteArray.toList_eq]
theorem FX (a:ByteArray)(x:List UInt8):(a.toList==x)=decide (a= ⟨x.toArray⟩):=by
 rw[Bool.eq_iff_iff];simp only[beq_iff_eq,decide_eq_true_eq]
 constructor
 ·intro h;subst h;rw[ByteArray.toList_eq]
 ·intro h;subst h;exact rK x
theorem mh:Calls Tryz.prog 168 #[.agg #[.bool d.neg,.string d.digits,.int .i64 d.exp]] w fun e w'=>e =.returned (.bool (decide (d.digits= ⟨#[48]⟩)))/\Below w.heap.size w w':=by
 go_enter Tryz.func168,Tryz.ntmps168;go_wp2_with fail;go_ret;refine⟨?_,ac w _⟩
 show Ending.returned (.bool (d.digits.toList == [48]))=_
 rw[FX]
theorem mg:Calls Tryz.prog 127 #[.agg #[.bool d.neg,.string d.digits,.int .i64 d.exp]] w fun e w'=>e =.returned (.int .i64 (fY d))/\Below w.heap.size w w':=by
 have a0:=Qa (ac w (.cells #[.bool d.neg,.string d.digits,.int .i64 d.exp] 124));have h0:=Ze w (.cells #[.bool d.neg,.string d.digits,.int .i64 d.exp] 124)
 by_cases hz:d.digits= ⟨#[48]⟩
 ·have hs:=Qa (show fY d=0 by unfold fY;rw[if_pos hz]);have hd:decide (d.digits= ⟨#[48]⟩)=true:=by simpa using hz
  have Hz:=Qa hd;clear hz hd;go_enter Tryz.func127,Tryz.ntmps127;go_wp2_with fail;(with_reducible refine mh.mono ?_);rintro e w1 ⟨rfl,a1⟩;rw[Hz.out];have B1:=Qa (a0.out.trans (a1.mono a0.out.size));go_wp2_with fail;go_ret;rw[hs.out];exact⟨rfl,B1.out⟩
 ·have hd:decide (d.digits= ⟨#[48]⟩)=false:=by simpa using hz
  have Hz:=Qa hd;have hs:=Qa (show fY d=if d.neg then -1 else 1 by unfold fY;rw[if_neg hz]);clear hz hd;go_enter Tryz.func127,Tryz.ntmps127;go_wp2_with fail;(with_reducible refine mh.mono ?_);rintro e w1 ⟨rfl,a1⟩;rw[Hz.out];have B1:=Qa (a0.out.trans (a1.mono a0.out.size));have c0:w1.cell? ⟨w.heap.size,0,none⟩=some (.bool d.neg):=aa ((a1.block _ (ae h0)).trans h0) (j:=0) rfl;rcases hn:d.neg with _|_
  all_goals
   rw[hn] at c0;have Hn:=Qa hn;clear hn;go_wp2_with fail;go_ret;rw[hs.out,Hn.out];exact⟨rfl,B1.out⟩
theorem oe {a:ByteArray}:Calls Tryz.prog 206 #[.string a] w fun e w'=>e =.returned (.bool false)/\w=w':=by
 go_enter Tryz.func206,Tryz.ntmps206;go_wp2_with fail;go_ret;exact⟨rfl,rfl⟩
def lr (x y:List UInt8):Int:=if Op.bytesLess x y then -1 else if x=y then 0 else 1
theorem sU {s:Int}(hs:s=1\/s = -1):∀ (x y:List UInt8),ay (kZ s x) (kZ s y)=s*lr x y
 | [], []=>by
  have:lr [] []=0:=rfl;rw[this,Int.mul_zero];exact fD _
 | [],b::y=>by
  have e:lr [] (b::y) = -1:=by simp[lr,Op.bytesLess]
  rw[e];unfold kZ;rw[aZ];rcases hs with rfl|rfl
  ·rw[if_pos (by omega)];rfl
  ·rw[if_neg (by omega),if_pos (by omega)];rfl
 |a::x, []=>by
  have e:lr (a::x) []=1:=by simp[lr,Op.bytesLess]
  rw[e];unfold kZ;rw[aZ];rcases hs with rfl|rfl
  ·rw[if_neg (by omega),if_pos (by omega)];rfl
  ·rw[if_pos (by omega)];rfl
 |a::x,b::y=>by
  have ih:=sU hs x y;unfold kZ;rw[aZ];rcases Nat.lt_trichotomy a.toNat b.toNat with h|h|h
  ·have e:lr (a::x) (b::y) = -1:=by unfold lr;rw[if_pos (jK h).1]
   rw[e];rcases hs with rfl|rfl
   ·rw[if_pos (by omega)];rfl
   ·rw[if_neg (by omega),if_pos (by omega)];rfl
  ·obtain rfl:=UInt8.toNat_inj.1 h;rw[if_neg (by omega),if_neg (by omega),ih]
   congr 1
   simp[lr,Op.bytesLess]
  ·have e:lr (a::x) (b::y)=1:=by
    unfold lr;rw[if_neg (by simp[(jK h).2]),if_neg (by intro e;injection e with e _;subst e;omega)]
   rw[e];rcases hs with rfl|rfl
   ·rw[if_neg (by omega),if_pos (by omega)];rfl
   ·rw[if_pos (by omega)];rfl
theorem yz {a b:ByteArray}:Calls Tryz.prog 169 #[.string a,.string b] w fun e w'=>e =.returned (.int .i64 (lr a.toList b.toList))/\w=w':=by
 have Hs:=Qa (show lr a.toList b.toList=if Op.bytesLess a.toList b.toList then -1 else if a.toList=b.toList then 0 else 1 from rfl);go_enter Tryz.func169,Tryz.ntmps169;go_wp2_with fail;(with_reducible refine oe.mono ?_);rintro e w' ⟨rfl,rfl⟩;go_wp2_with fail;(with_reducible refine oe.mono ?_);rintro e w' ⟨rfl,rfl⟩;go_wp2_with fail
 ·rename_i h1
  go_ret;refine⟨?_,rfl⟩;rw[Hs.out,if_pos h1];rfl
 ·rename_i h1 _ _ h2
  go_ret;refine⟨?_,rfl⟩;rw[Hs.out,if_neg (by simp[h1]),if_neg (by simpa using h2)];rfl
 ·rename_i h1 h2
  go_ret;refine⟨?_,rfl⟩;rw[Hs.out,if_neg (by simp[h1]),if_pos (by simpa using h2)];rfl
def sZ (d:Dc):Prop:=d.digits.size<=1000000000000/\ -1000000000000<=d.exp/\d.exp<=1000000000000
theorem BO {a b s:Int}(hs:s=1\/s = -1)(x y:List Int):ay (s*a::x) (s*b::y)=if sg a b=0 then ay x y else s*sg a b:=by
 rw[aZ];unfold sg;rcases hs with rfl|rfl <;> (repeat' split) <;> first|rfl|omega
def kV (a b:Dc):Int:=if sg (a.digits.size+a.exp) (b.digits.size+b.exp)=0 then lr a.digits.toList b.digits.toList else sg (a.digits.size+a.exp) (b.digits.size+b.exp)
theorem ue (a b:Dc):ay (ey a) (ey b)=if fY a=fY b/\fY a≠0 then fY a*kV a b else sg (fY a) (fY b):=by
 unfold ey;rcases fH a with h|h|h <;> rcases fH b with k|k|k <;> simp only[h,k,if_true] <;> try (simp[aZ,ay,sg];done)
 ·rw[if_neg (by decide),if_neg (by decide),if_pos (by decide),aZ,if_neg (by omega),if_neg (by omega),BO (.inr rfl),sU (.inr rfl),<-ByteArray.toList_eq,<-ByteArray.toList_eq];unfold kV;split <;> simp[*]
 ·rw[if_neg (by decide),if_neg (by decide),if_pos (by decide),aZ,if_neg (by omega),if_neg (by omega),BO (.inl rfl),sU (.inl rfl),<-ByteArray.toList_eq,<-ByteArray.toList_eq];unfold kV;split <;> simp[*]
theorem nu {x:Int}(h:n<=1000000000000)(h1: -1000000000000<=x)(h2:x<=1000000000000):IntKind.i64.wrap ((n:Int)+x)= (n:Int)+x:=by
 rw[IntKind.wrap_i64];omega
theorem yW {a b:Dc}(ha:sZ a)(hb:sZ b):Calls Tryz.prog 128 #[.agg #[.bool a.neg,.string a.digits,.int .i64 a.exp],.agg #[.bool b.neg,.string b.digits,.int .i64 b.exp]] w fun e w'=>e =.returned (.int .i64 (kV a b))/\Below w.heap.size w w':=by
 obtain⟨a1,a2,a3⟩:=ha;obtain⟨b1,b2,b3⟩:=hb;have w1:=nu a1 a2 a3;have w2:=nu b1 b2 b3;obtain⟨v,hv⟩:∃v,sg (a.digits.size+a.exp) (b.digits.size+b.exp)=v:=⟨_,rfl⟩;have Ha:=Qa (show kV a b=if v=0 then lr a.digits.toList b.digits.toList else v by rw[<-hv];rfl);have Hv:=Qa hv;have Hw:=Qa (show Below w.heap.size w ((w.alloc (.cells #[.bool a.neg,.string a.digits,.int .i64 a.exp] 124)).alloc (.cells #[.bool b.neg,.string b.digits,.int .i64 b.exp] 124)) from((Zd _ _).alloc (Za _) _).alloc (by simp) _);clear hv a1 a2 a3 b1 b2 b3
 by_cases h0:v=0
 ·subst h0;have a0:=Qa (show kV a b=lr a.digits.toList b.digits.toList from Ha.out);clear Ha;go_enter Tryz.func128,Tryz.ntmps128;go_wp2_with fail;(with_reducible refine bj.mono ?_);rintro e w' ⟨rfl,rfl⟩;rw[Hv.out];go_wp2_with fail;(with_reducible refine yz.mono ?_);rintro e w' ⟨rfl,rfl⟩;go_wp2_with fail;go_ret;rw[a0.out];exact⟨rfl,Hw.out⟩
 ·have a0:=Qa (show kV a b=v from Ha.out.trans (if_neg h0));clear Ha;go_enter Tryz.func128,Tryz.ntmps128;go_wp2_with fail;(with_reducible refine bj.mono ?_);rintro e w' ⟨rfl,rfl⟩;rw[Hv.out];go_wp2_with fail;go_ret;rw[a0.out];exact⟨rfl,Hw.out⟩
abbrev JR (d:Dc):Obj:=.cells #[.bool d.neg,.string d.digits,.int .i64 d.exp] 124 (0,0)
def vG (w:World)(g1 g2:Nat)(a b:Dc)(w':World):Prop:=w'.heap[g1]?=some (JR a)/\w'.heap[g2]?=some (JR b)/\Below w.heap.size w w'
theorem vG.below {a b:Dc}(h:vG w g1 g2 a b w1)(hb:Below w1.heap.size w1 w2):vG w g1 g2 a b w2:=⟨aj h.1 hb,aj h.2.1 hb,h.2.2.trans (hb.mono h.2.2.size)⟩
theorem vG.c1 {a b:Dc}(h:vG w g1 g2 a b w'):w'.cell? ⟨g1,0,none⟩=some (.bool a.neg)/\w'.cell? ⟨g1,1,none⟩=some (.string a.digits)/\w'.cell? ⟨g1,2,none⟩=some (.int .i64 a.exp):=⟨aa h.1 (j:=0) rfl,aa h.1 (j:=1) rfl,aa h.1 (j:=2) rfl⟩
theorem vG.c2 {a b:Dc}(h:vG w g1 g2 a b w'):w'.cell? ⟨g2,0,none⟩=some (.bool b.neg)/\w'.cell? ⟨g2,1,none⟩=some (.string b.digits)/\w'.cell? ⟨g2,2,none⟩=some (.int .i64 b.exp):=⟨aa h.2.1 (j:=0) rfl,aa h.2.1 (j:=1) rfl,aa h.2.1 (j:=2) rfl⟩
theorem xf (w:World)(a b:Dc):vG w w.heap.size (w.heap.size+1) a b ((w.alloc (.cells #[.bool a.neg,.string a.digits,.int .i64 a.exp] 124)).alloc (.cells #[.bool b.neg,.string b.digits,.int .i64 b.exp] 124)):=by
 refine⟨aj (Ze w _) (ac _ _),?_,((Zd _ _).alloc (Za _) _).alloc (by simp) _⟩;have:=Ze (w.alloc (.cells #[.bool a.neg,.string a.digits,.int .i64 a.exp] 124)) (.cells #[.bool b.neg,.string b.digits,.int .i64 b.exp] 124);have e:(w.alloc (.cells #[.bool a.neg,.string a.digits,.int .i64 a.exp] 124)).heap.size=w.heap.size+1:=by show(w.heap.push _).size=_;rw[Array.size_push]
 rwa[e] at this
theorem xE {a b:Dc}(ha:sZ a)(hb:sZ b):Calls Tryz.prog 99 #[.agg #[.bool a.neg,.string a.digits,.int .i64 a.exp],.agg #[.bool b.neg,.string b.digits,.int .i64 b.exp]] w fun e w'=>e =.returned (.int .i64 (ay (ey a) (ey b)))/\Below w.heap.size w w':=by
 have Hc:=Qa (ue a b);have Ha:=Qa ha;have Hb:=Qa hb;have HT:=Qa (xf w a b);clear ha hb;go_enter Tryz.func99,Tryz.ntmps99;go_wp2_with fail;obtain⟨w0,b1⟩:∃w0:World,w0= ((w.alloc (.cells #[.bool a.neg,.string a.digits,.int .i64 a.exp] 124)).alloc (.cells #[.bool b.neg,.string b.digits,.int .i64 b.exp] 124)):=⟨_,rfl⟩;rw[<-b1] at HT ⊢;clear b1;have hs:=HT.out.c1;have ht:=HT.out.c2;have a9:=HT.out.2.2;clear HT;generalize w.heap.size+1=g2 at *;obtain⟨g1,a5⟩:∃g1,g1=w.heap.size:=⟨_,rfl⟩;rw[<-a5] at hs ⊢;have a4:=Qa a9;have b4:=Qa a5;clear a9 a5;refine aR (fun w'=>(w'.cell? ⟨g1,0,none⟩=some (.bool a.neg)/\w'.cell? ⟨g1,1,none⟩=some (.string a.digits)/\w'.cell? ⟨g1,2,none⟩=some (.int .i64 a.exp))/\(w'.cell? ⟨g2,0,none⟩=some (.bool b.neg)/\w'.cell? ⟨g2,1,none⟩=some (.string b.digits)/\w'.cell? ⟨g2,2,none⟩=some (.int .i64 b.exp))) (⟨hs,ht⟩) fun a0=>?_
 refine tH 0 a0 ?_;refine tH 2 a0 ?_
 try simp only[Act.put,jP,jQ,jR]
 refine rH 1 fun K hK=>?_
 go_simp;(with_reducible refine mg.mono ?_);rintro e w1 ⟨rfl,a1⟩;refine hK.out _ _ (⟨⟨Zf a1 a0.1.1,Zf a1 a0.1.2.1,Zf a1 a0.1.2.2⟩,⟨Zf a1 a0.2.1,Zf a1 a0.2.2.1,Zf a1 a0.2.2.2⟩⟩) (fun a0=>?_);clear hK K
 try simp only[Act.put,jP,jQ,jR]
 refine rH 3 fun K hK=>?_
 go_simp;(with_reducible refine mg.mono ?_);rintro e w2 ⟨rfl,a2⟩;refine hK.out _ _ (⟨⟨Zf a2 a0.1.1,Zf a2 a0.1.2.1,Zf a2 a0.1.2.2⟩,⟨Zf a2 a0.2.1,Zf a2 a0.2.2.1,Zf a2 a0.2.2.2⟩⟩) (fun a0=>?_);clear hK K
 try simp only[Act.put,jP,jQ,jR]
 refine tH 4 a0 ?_;refine tH 5 a0 ?_
 try simp only[Act.put,jP,jQ,jR]
 refine wpAnyH_done (by kernel_rfl) (NoPanic.normal ?_) _;obtain⟨⟨s0,s1,s2⟩,t0,t1,t2⟩:=a0;have b0:Below w.heap.size w w2:=by
  have h1:Below w.heap.size w w1:=a4.out.drew.trans (a1.mono (show w.heap.size<=w0.drew.heap.size from a4.out.size));exact h1.trans (a2.mono h1.size)
 clear hs ht a1 a2 a4 b4;have Hw:=Qa b0;have a3:=fH a;have a6:=fH b;have a7:=Qa (yW (w:=w2) Ha.out Hb.out);have Hd:Hid (kV a b=0\/kV a b=1\/kV a b = -1):=Qa (by unfold kV sg lr;(repeat' split) <;> simp);generalize hz:kV a b=z at *;generalize hsa:fY a=sa at *;generalize hsb:fY b=sb at *;clear hz hsa hsb b0 Ha Hb
 by_cases hq:sa=sb/\sa≠0
 ·obtain⟨rfl,h0⟩:=hq;have Hv:=Qa (show ay (ey a) (ey b)=sa*z from Hc.out.trans (if_pos ⟨rfl,h0⟩));have hin: -1<=sa*z/\sa*z<=1:=by
   rcases a3 with h|h|h <;> rcases Hd.out with k|k|k <;> rw[h,k] <;> omega
  have hw:IntKind.i64.wrap (sa*z)=sa*z:=IntWalk.i64_in _ (by omega);have b5:=Qa hin;clear hin Hc Hd a3 a6;have b6:(sa==0)=false:=by simpa using h0
  clear h0;go_wp2_with fail;(with_reducible refine a7.out.mono ?_);rintro e w3 ⟨rfl,b2⟩;have b3:=Qa (Hw.out.trans (b2.mono Hw.out.size));go_wp2_with fail;go_ret;rw[Hv.out];exact⟨rfl,b3.out⟩
 ·have Hv:=Qa (show ay (ey a) (ey b)=sg sa sb from Hc.out.trans (if_neg hq));clear Hc Hd a7
  by_cases he:sa=sb
  ·subst he;obtain rfl:sa=0:=by
    rcases a3 with h|h|h
    ·exact h
    all_goals exact absurd ⟨rfl,by rw[h];decide⟩ hq
   clear hq a3 a6;go_wp2_with fail;(with_reducible refine bj.mono ?_);rintro e w3 ⟨rfl,rfl⟩;go_wp2_with fail;go_ret;rw[Hv.out];exact⟨rfl,Hw.out⟩
  ·have b7:(sa==sb)=false:=by simpa using he
   clear hq a3 a6 he;go_wp2_with fail;(with_reducible refine bj.mono ?_);rintro e w3 ⟨rfl,rfl⟩;go_wp2_with fail;go_ret;rw[Hv.out];exact⟨rfl,Hw.out⟩
theorem vv {a b:Dc}(ha:sZ a)(hb:sZ b):Calls Tryz.prog 60 #[.agg #[.bool a.neg,.string a.digits,.int .i64 a.exp],.agg #[.bool b.neg,.string b.digits,.int .i64 b.exp]] w fun e w'=>e =.returned (.int .i64 (ay (ey a) (ey b)))/\Below w.heap.size w w':=by
 have Hw:=Qa (show Below w.heap.size w ((w.alloc (.cells #[.bool a.neg,.string a.digits,.int .i64 a.exp] 127)).alloc (.cells #[.bool b.neg,.string b.digits,.int .i64 b.exp] 127)) from((Zd _ _).alloc (Za _) _).alloc (by simp) _);go_enter Tryz.func60,Tryz.ntmps60;go_wp2_with fail;(with_reducible refine(xE ha hb).mono ?_);rintro e w' ⟨rfl,a0⟩;have a1:=Qa (Hw.out.trans (a0.mono Hw.out.size));go_wp2_with fail;go_ret;exact⟨rfl,a1.out⟩
def xR (xs:List UInt8):Int:=if(bF xs).2.2=0 then((bF xs).1:Int) else dD (xs.headD 0)
def pw (xs:List UInt8):Nat:=if(bF xs).2.2=0 then(bF xs).2.1 else 1
theorem jC (h:xs≠ []):be dD xs=xR xs::be dD (xs.drop (pw xs)):=by
 unfold xR pw
 by_cases h0:(bF xs).2.2=0
 ·rw[if_pos h0,if_pos h0,dA h h0]
 ·rw[if_neg h0,if_neg h0]
  cases xs with
  |nil=>exact absurd rfl h
  |cons x t=>rw[eL h0];rfl
theorem I6 (h:(bF xs).2.2=0):(bF xs).1<2097152:=by
 have:=(iL h).2;unfold dO at this;simp at this;omega
theorem zl (h:xs≠ []):1<=pw xs/\pw xs<=xs.length:=by
 unfold pw
 by_cases h0:(bF xs).2.2=0
 ·rw[if_pos h0];exact⟨eO h0,lG xs⟩
 ·rw[if_neg h0]
  cases xs with
  |nil=>exact absurd rfl h
  |cons x t=>simp
theorem j7 (hb:Bs w v xs)(h0:xs≠ [])(hG:cR w aU aE):Calls Tryz.prog 100 #[v] w fun e w'=>e =.returned (.tuple #[.int .i64 (xR xs),.int .i64 (pw xs)])/\Below w.heap.size w w':=by
 obtain⟨x,t,rfl⟩:∃x t,xs=x::t:=by cases xs with|nil=>exact absurd rfl h0|cons x t=>exact⟨x,t,rfl⟩
 obtain⟨hm,A,c,rfl,hc,a0⟩:=id hb;obtain⟨b,o,rfl,a1⟩:=a0 (by simp);have c0:=a1 0 (by simp);rw[show ap (x::t) 0=x.toNat from rfl,Nat.add_zero] at c0;have Hd:=Qa (iC hb hG);have a5:=(nV (x::t)).2;have hC:=Qa (show xR (x::t)=if(bF (x::t)).2.2=0 then((bF (x::t)).1:Int) else dD x from rfl);have hN:=Qa (show pw (x::t)=if(bF (x::t)).2.2=0 then(bF (x::t)).2.1 else 1 from rfl);have hx:=x.toNat_lt;have a6:=(nV (x::t)).1;have hn:(x::t).length= (x::t).length:=rfl;generalize hr:bF (x::t)=r at *;obtain⟨r1,r2,r3⟩:=r
 dsimp only at *
 generalize xR (x::t)=lc at *;generalize pw (x::t)=ln at *;have a2:=Qa hr;clear hr hb hG a0 a1 h0 hm;generalize hl:(x::t).length=n at *;have a4:0<n:=by rw[<-hl];simp
 have Hl:=Qa hl;clear hl hn;have w1:IntKind.i64.wrap (1114112+ (x.toNat:Int))=1114112+ (x.toNat:Int):=IntWalk.i64_in _ (by omega);rcases(by omega:r3=0\/r3=1\/r3=2) with rfl|rfl|rfl
 ·have hD:=Qa (show rc (co aU) (co aE) (r1,r2,0) =.tuple #[.int .i32 r1,.int .i64 r2,.nilIface] from rfl);have HC:=Qa (show lc= (r1:Int) from hC.out);have HN:=Qa (show ln=r2 from hN.out);have a3:wrap64 (r1:Int)= (r1:Int):=by
   have h:=I6 (xs:=x::t) (by rw[a2.out]);rw[a2.out] at h
   dsimp only at h
   exact IntWalk.wrap64_in _ ⟨by omega,by omega⟩
  clear hC hN;go_enter Tryz.func100,Tryz.ntmps100;go_wp2_with fail;(with_reducible refine Hd.out.mono ?_);rintro e w' ⟨rfl,m,rfl⟩;rw[hD.out];go_wp2_with fail;go_ret2;rw[HC.out,HN.out];refine⟨?_,az (Zd _ _) m⟩
  show Ending.returned (.tuple #[.int .i64 (wrap64 (r1:Int)),.int .i64 r2])=_
  rw[a3]
 ·have hD:=Qa (show rc (co aU) (co aE) (r1,r2,1) =.tuple #[.int .i32 r1,.int .i64 r2,co aE] from rfl);have HC:=Qa (show lc=dD x from hC.out);have HN:=Qa (show ln=1 from hN.out);clear hC hN;go_enter Tryz.func100,Tryz.ntmps100;go_wp2_with fail;(with_reducible refine Hd.out.mono ?_);rintro e w' ⟨rfl,m,rfl⟩;rw[hD.out];go_wp2_with fail;go_ret2;rw[HC.out,HN.out];exact⟨rfl,az (Zd _ _) m⟩
 ·have hD:=Qa (show rc (co aU) (co aE) (r1,r2,2) =.tuple #[.int .i32 r1,.int .i64 r2,co aU] from rfl);have HC:=Qa (show lc=dD x from hC.out);have HN:=Qa (show ln=1 from hN.out);clear hC hN;go_enter Tryz.func100,Tryz.ntmps100;go_wp2_with fail;(with_reducible refine Hd.out.mono ?_);rintro e w' ⟨rfl,m,rfl⟩;rw[hD.out];go_wp2_with fail;go_ret2;rw[HC.out,HN.out];exact⟨rfl,az (Zd _ _) m⟩
theorem zn {k:Nat}(h:Bs W (.slice A n c) xs)(hk:k<=xs.length)(e:c=k):Bs W (.slice A (xs.length - k) 0) (xs.drop k):=by
 obtain⟨hm,A',c',e',hc,-⟩:=h;injection e' with e1 e2 e3
 subst e1 e3;have h0:(xs.drop k).length=0:=by rw[List.length_drop];omega
 exact⟨by omega,A,0,by rw[List.length_drop],by omega,fun h=>by omega⟩
def GA (W:World)(k:Int)(s5 s6:Value)(wr:World):Prop:= ∃ (ys zs:List UInt8) (A B:Option Addr) (c d:Nat),s5 =.slice A ys.length c/\s6 =.slice B zs.length d/\Bs W (.slice A ys.length c) ys/\Bs W (.slice B zs.length d) zs/\k=ay (be dD ys) (be dD zs)/\Below W.heap.size W wr
theorem ym (h:ys = []\/zs = []):ay (be dD ys) (be dD zs)=sg ys.length zs.length:=by
 cases ys with
 |nil=>
  cases zs with
  |nil=>rfl
  |cons z t=>rw[jC (xs:=z::t) (by simp),jy];simp[ay,sg]
 |cons y s=>
  obtain rfl:zs = []:=by simpa using h
  rw[jC (xs:=y::s) (by simp),jy];simp only[ay,sg,List.length_cons,List.length_nil];rw[if_neg (by omega),if_pos (by omega)]
theorem jq {a b:ByteArray}(ha:a.size<=9223372036854775807)(hb:b.size<=9223372036854775807)(hG:cR w aU aE):Calls Tryz.prog 61 #[.string a,.string b] w fun e w'=>e =.returned (.int .i64 (ay (nm a) (nm b)))/\Below w.heap.size w w':=by
 obtain⟨W1,cap1,a2,b3,a5⟩:=iy w a ha;obtain⟨W2,cap2,a3,b5,a4⟩:=iy W1 b hb;have c5:a.data.toList.length=a.size:=by simp
 have c3:b.data.toList.length=b.size:=by simp
 rw[<-c5] at a2 a5;rw[<-c3] at a3 a4;unfold nm;generalize a.data.toList=xs at *;generalize b.data.toList=ys at *;have b4:=Qa (b3.trans (b5.mono b3.size));have c0:=Qa ((hG.below b3).below b5);have Hbs1:=Qa (a5.below b5);have Hbs2:=Qa a4;clear b3 b5 hG a5 a4 ha hb c5 c3;go_enter Tryz.func61,Tryz.ntmps61;go_wp2_with fail
 go_loopw [5,6,7,8,9,10,23,28] (fun s5 s6 _ _ _ _ _ _ wr=>GA W2 (ay (be dD xs) (be dD ys)) s5 s6 wr) (fun v _ _ _ _ _ _ _ _=>match v with | .slice _ n _=>n|_=>0)
 case atStart=>exact⟨xs,ys,_,_,_,_,rfl,rfl,Hbs1.out,Hbs2.out,rfl,Zd _ _⟩
 case round=>
  obtain⟨ps,qs,A,B,c,d,rfl,rfl,hp,hq,he,a9⟩:=hrel;have Hp:=Qa hp;have Hq:=Qa hq;have He:=Qa he;have a0:=Qa a9;obtain⟨-,_,_,e1,hc,b7⟩:=id hp;injection e1 with e1 e2 e3
  subst e1 e3;obtain⟨-,_,_,e1,hd,b9⟩:=id hq;injection e1 with e1 e2 e3
  subst e1 e3;clear hp hq he a9 e2
  by_cases h0:ps = []\/qs = []
  ·have Hz:=Qa (show ay (be dD xs) (be dD ys)=sg ps.length qs.length from He.out.trans (ym h0));have Hw:=Qa (b4.out.trans (a0.out.mono b4.out.size));clear He b7 b9
   by_cases h1:ps = []
   ·subst h1;clear h0;go_wp2_with fail;(with_reducible refine bj.mono ?_);rintro e w3 ⟨rfl,rfl⟩;go_wp2_with fail;go_ret;rw[Hz.out];exact⟨rfl,Hw.out⟩
   ·obtain rfl:qs = []:=h0.resolve_left h1;have c9:(0:Int)<ps.length:=by cases ps with|nil=>exact absurd rfl h1|cons _ _=>simp
    clear h0 h1;go_wp2_with fail;(with_reducible refine bj.mono ?_);rintro e w3 ⟨rfl,rfl⟩;go_wp2_with fail;go_ret;rw[Hz.out];exact⟨rfl,Hw.out⟩
  ·have a7:ps≠ []:=fun e=>h0 (.inl e)
   have b0:qs≠ []:=fun e=>h0 (.inr e)
   have lp:0<ps.length:=by cases ps with|nil=>exact absurd rfl a7|cons _ _=>simp
   have lq:0<qs.length:=by cases qs with|nil=>exact absurd rfl b0|cons _ _=>simp
   have lpi:(0:Int)<ps.length:=by omega
   have lqi:(0:Int)<qs.length:=by omega
   obtain⟨bp,op,rfl,-⟩:=b7 lp;obtain⟨bq,oq,rfl,-⟩:=b9 lq;have np:=zl a7;have nq:=zl b0;have c6:=Qa (Hp.out.cut np.2);have c7:=Qa (Hq.out.cut nq.2);have c4:=Qa (j7 (Hp.out.below a0.out) a7 (c0.out.below a0.out));have c2:=Qa (fun w5 (h:Below wr.heap.size wr w5)=>j7 ((Hq.out.below a0.out).below h) b0 ((c0.out.below a0.out).below h));have a6:=He.out;rw[jC a7,jC b0,aZ] at a6;clear h0 a7 b0 b7 b9 He;generalize xR ps=cp at *;generalize xR qs=cq at *;generalize pw ps=mp at *;generalize pw qs=mq at *;obtain⟨np1,np2⟩:=np;obtain⟨nq1,nq2⟩:=nq
   by_cases hcc:cp=cq
   ·subst hcc;rw[if_neg (Int.lt_irrefl _),if_neg (Int.lt_irrefl _)] at a6;have He:=Qa a6;clear a6;go_wp2_with fail;(with_reducible refine c4.out.mono ?_);rintro e w3 ⟨rfl,a1⟩;have b2:=Qa a1;have b6:=Qa (c2.out w3 a1);clear a1;go_wp2_with fail;(with_reducible refine b6.out.mono ?_);rintro e w4 ⟨rfl,b1⟩;have b8:=Qa (a0.out.trans ((b2.out.trans (b1.mono b2.out.size)).mono a0.out.size));clear b1;go_wp2_with fail
    by_cases e1:c=mp <;> by_cases e2:d=mq
    all_goals
     go_quiet (fail);go_wp2_with fail;refine⟨⟨ps.drop mp,qs.drop mq,_,_,_,_,by rw[List.length_drop],by rw[List.length_drop],by rw[List.length_drop];first|exact zn Hp.out np2 e1|exact c6.out,by rw[List.length_drop];first|exact zn Hq.out nq2 e2|exact c7.out,He.out,az b8.out _⟩,?_⟩
     show ps.length - mp<ps.length
     omega
   ·have c8:(cp==cq)=false:=by simpa using hcc
    have c1:ay (be dD xs) (be dD ys)=sg cp cq:=by
     rw[a6];unfold sg
     by_cases h1:cp<cq
     ·rw[if_pos h1,if_pos h1]
     ·rw[if_neg h1,if_pos (by omega),if_neg h1,if_pos (by omega)]
    have He:=Qa c1;clear a6 c1 hcc;go_wp2_with fail;(with_reducible refine c4.out.mono ?_);rintro e w3 ⟨rfl,a1⟩;have b2:=Qa a1;have b6:=Qa (c2.out w3 a1);clear a1;go_wp2_with fail;(with_reducible refine b6.out.mono ?_);rintro e w4 ⟨rfl,b1⟩;have b8:=Qa (b4.out.trans ((a0.out.trans ((b2.out.trans (b1.mono b2.out.size)).mono a0.out.size)).mono b4.out.size));clear b1;go_wp2_with fail;(with_reducible refine bj.mono ?_);rintro e w5 ⟨rfl,rfl⟩;go_wp2_with fail;go_ret;rw[He.out];exact⟨rfl,b8.out⟩
theorem gJ:Calls Tryz.prog 59 #[.nilIface] w fun e w'=>e =.returned (.int .i64 0)/\Below w.heap.size w w':=by
 go_enter Tryz.func59,Tryz.ntmps59;go_wp2_with fail;go_ret;exact⟨rfl,Zd _ _⟩
theorem et (h:VW P w v j):Calls Tryz.prog 59 #[v] w fun e w'=>e =.returned (.int .i64 j.kindOf)/\Below w.heap.size w w':=by
 cases h with
 |null=>
  go_enter Tryz.func59,Tryz.ntmps59;go_wp2_with fail;(with_reducible refine gR.mono ?_);rintro e w1 ⟨rfl,hb⟩;go_wp2_with fail;go_ret;exact⟨rfl,hb⟩
 |bool b=>
  go_enter Tryz.func59,Tryz.ntmps59;go_wp2_with fail;(with_reducible refine ik.mono ?_);rintro e w1 ⟨rfl,hb⟩;go_wp2_with fail;go_ret;exact⟨rfl,hb⟩
 |num d=>
  go_enter Tryz.func59,Tryz.ntmps59;go_wp2_with fail;(with_reducible refine i1.mono ?_);rintro e w1 ⟨rfl,hb⟩;go_wp2_with fail;go_ret;exact⟨rfl,hb⟩
 |text s=>
  go_enter Tryz.func59,Tryz.ntmps59;go_wp2_with fail;(with_reducible refine gQ.mono ?_);rintro e w1 ⟨rfl,hb⟩;go_wp2_with fail;go_ret;exact⟨rfl,hb⟩
 |hole=>
  go_enter Tryz.func59,Tryz.ntmps59;go_wp2_with fail;(with_reducible refine io.mono ?_);rintro e w1 ⟨rfl,hb⟩;go_wp2_with fail;go_ret;exact⟨rfl,hb⟩
 |bare=>
  go_enter Tryz.func59,Tryz.ntmps59;go_wp2_with fail;(with_reducible refine eB.mono ?_);rintro e w1 ⟨rfl,hb⟩;go_wp2_with fail;go_ret;exact⟨rfl,hb⟩
 |list g A c us ks _ _ _ _ _=>
  go_enter Tryz.func59,Tryz.ntmps59;go_wp2_with fail;(with_reducible refine eB.mono ?_);rintro e w1 ⟨rfl,hb⟩;go_wp2_with fail;go_ret;exact⟨rfl,hb⟩
 |obj g A c us ns ks _ _ _ _ _ _=>
  go_enter Tryz.func59,Tryz.ntmps59;go_wp2_with fail;(with_reducible refine gU.mono ?_);rintro e w1 ⟨rfl,hb⟩;go_wp2_with fail;go_ret;exact⟨rfl,hb⟩
def dl (P:Nat->Prop)(w:World)(A:Option Addr)(us:List Value)(ks:List JV):Prop:=
 (A=none/\us = []/\ks = [])\/∃g R c,A=some ⟨g,0,none⟩/\w.heap[g]?=some (.cells #[.slice R us.length c] 173 (0,0))/\cv P w 32 1 R us.length c us/\us.length=ks.length
def uv (P:Nat->Prop)(w:World)(us:List Value)(ks:List JV):Prop:= ∀ (i:Nat) u k,us[i]?=some u->ks[i]?=some k->VW P w u k
theorem dl.len (h:dl P w A us ks):us.length=ks.length:=by
 rcases h with ⟨-,rfl,rfl⟩|⟨_,_,_,_,_,_,h⟩
 ·rfl
 ·exact h
theorem dl.below (h:dl P w A us ks)(hb:Below w.heap.size w w'):dl P w' A us ks:=by
 rcases h with h|⟨g,R,c,e,hg,hr,hl⟩
 ·exact .inl h
 ·exact .inr ⟨g,R,c,e,aj hg hb,hr.stay fun g o hp hg _ _=>⟨hp,(hb.block g (ae hg)).trans hg⟩,hl⟩
theorem uv.below (h:uv P w us ks)(hb:Below w.heap.size w w'):uv P w' us ks:=fun i u k h1 h2=>(h i u k h1 h2).later hb
theorem VW.asList {t:Bool}{x:ByteArray}(h:VW P w v (.mk 5 t x d ns ks)):∃A us,v =.iface 57 (.pointer A)/\dl P w A us ks/\uv P w us ks:=by
 cases h with
 |bare=>exact⟨none, [],rfl,.inl ⟨rfl,rfl,rfl⟩,fun i u k h _=>by simp at h⟩
 |list g A c us ks hp hg hr hl hk=>exact⟨_,us,rfl,.inr ⟨g,A,c,rfl,hg,hr,hl⟩,hk⟩
def fa (P:Nat->Prop)(w:World)(A:Option Addr)(us:List Value)(ns:List ByteArray)(ks:List JV):Prop:=
 ∃g R c,A=some ⟨g,0,none⟩/\w.heap[g]?=some (.cells #[.slice R us.length c] 178 (0,0))/\cv P w 111 2 R us.length c (zT ns us)/\us.length=ks.length/\ns.length=ks.length
theorem fa.below (h:fa P w A us ns ks)(hb:Below w.heap.size w w'):fa P w' A us ns ks:=by
 obtain⟨g,R,c,e,hg,hr,hl⟩:=h;exact⟨g,R,c,e,aj hg hb,hr.stay fun g o hp hg _ _=>⟨hp,(hb.block g (ae hg)).trans hg⟩,hl⟩
theorem VW.asObj {t:Bool}{x:ByteArray}(h:VW P w v (.mk 6 t x d ns ks)):∃A us,v =.iface 130 (.pointer A)/\fa P w A us ns ks/\uv P w us ks:=by
 cases h with
 |obj g A c us ns ks hp hg hr hl hn hk=>exact⟨_,us,rfl,⟨g,A,c,rfl,hg,hr,hl,hn⟩,hk⟩
theorem d8 (h:dl P w A us ks):Calls Tryz.prog 82 #[.pointer A] w fun e w'=>e =.returned (.int .i64 us.length)/\w=w':=by
 rcases h with ⟨rfl,rfl,rfl⟩|⟨g,R,c,rfl,hg,hr,hl⟩
 ·exact uc w
 ·exact mx hg
theorem eN (h:dl P w A us ks)(hT:du w)(i:Nat)(hu:us[i]?=some u):Calls Tryz.prog 83 #[.pointer A,.int .i64 i] w fun e w'=>e =.returned (.tuple #[.string ⟨(Lib.itoa i).toArray⟩,u])/\Below w.heap.size w w':=by
 have hi:=(List.getElem?_eq_some_iff.1 hu).1;rcases h with ⟨rfl,rfl,rfl⟩|⟨g,R,c,rfl,hg,hr,hl⟩
 ·simp at hi
 ·exact rL hT hg hr i hi hu
theorem eX (h:fa P w A us ns ks):Calls Tryz.prog 84 #[.pointer A] w fun e w'=>e =.returned (.int .i64 us.length)/\w=w':=by
 obtain⟨g,R,c,rfl,hg,hr,hl⟩:=h;exact nW hg
theorem fE (h:fa P w A us ns ks)(i:Nat){n:ByteArray}(hu:us[i]?=some u)(hn:ns[i]?=some n):Calls Tryz.prog 85 #[.pointer A,.int .i64 i] w fun e w'=>e =.returned (.tuple #[.string n,u])/\Below w.heap.size w w':=by
 have hi:=(List.getElem?_eq_some_iff.1 hu).1;obtain⟨g,R,c,rfl,hg,hr,hl⟩:=h;have hm:=zH ns us i n u hn hu;exact uF hg hr i hi hm.1 hm.2
inductive JB:JV->Prop
 |mk (k:Int) (t:Bool) (x:ByteArray) (d:Dc) (ns:List ByteArray) (ks:List JV):x.size<=9223372036854775807->sZ d->(∀n∈ns,n.size<=9223372036854775807)->(∀u∈ks,JB u)->JB (.mk k t x d ns ks)
