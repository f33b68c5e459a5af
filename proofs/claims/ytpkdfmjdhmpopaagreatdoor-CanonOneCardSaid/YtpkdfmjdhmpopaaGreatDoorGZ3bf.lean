import Derived.Test.YtpkdfmjdhmpopaaGreatDoorGZ3be
import Derived.Shelf.SlSortCmp.WholeK
set_option linter.unusedVariables false
set_option linter.unusedSimpArgs false
set_option maxHeartbeats 64000000
set_option maxRecDepth 100000
namespace Go.Proofs.YtpkdfmjdhmpopaaGreatDoor
open Go.RowKit Go.Shelf
variable {s : ByteArray} {L S : List (ByteArray × Value)} {y : List Int} {ks : List JV} {us : List Value} {base c g i m n q : Nat} {Q : Nat -> Prop} {A : Option Addr} {u v : Value} {w w' : World}
theorem pc (x:Int)(w:World):Calls Tryz.prog 171 #[.int .i32 x] w fun e w'=>e = .returned (.bool false)/\w=w':=by
 go_enter Tryz.func171,Tryz.ntmps171;go_wp2_with fail;go_ret;exact⟨by simp,rfl⟩
def va (a b:Int):Int:=if a<b then -1 else if b<a then 1 else 0
theorem ss (a b:Int)(w:World):Calls Tryz.prog 135 #[.int .i32 a, .int .i32 b] w fun e w'=>e = .returned (.int .i64 (va a b))/\w=w':=by
 have h1:=Qa (fun w=>pc a w);have h2:=Qa (fun w=>pc b w);go_enter Tryz.func135,Tryz.ntmps135;go_wp2_with fail;(with_reducible refine(h1.out _).mono ?_);rintro e w' ⟨rfl,rfl⟩;go_wp2_with fail;(with_reducible refine(h2.out _).mono ?_);rintro e w' ⟨rfl,rfl⟩
 by_cases h3:a<b
 ·have Hv:=Qa (show va a b = -1 from if_pos h3)
  go_wp2_with fail;go_ret;exact⟨by rw [Hv.out];rfl,rfl⟩
 by_cases h4:b<a
 ·have Hv:=Qa (show va a b=1 from(if_neg h3).trans (if_pos h4))
  go_wp2_with fail;go_ret;exact⟨by rw [Hv.out];rfl,rfl⟩
 have Hv:=Qa (show va a b=0 from(if_neg h3).trans (if_neg h4));go_wp2_with fail;go_ret;exact⟨by rw [Hv.out];rfl,rfl⟩
theorem qj.read {l:List Int}(h:qj w base (.slice A n q) l):n=l.length/\∀ (i:Nat) c,l[i]?=some c->∃g,A=some ⟨g,0,none⟩/\w.cell? ⟨g,i,none⟩=some (.int .i32 c):=by
 obtain⟨A',q',e,_,_,hA⟩:=ag h;obtain⟨rfl,rfl,rfl⟩:=Value.slice.inj e;refine⟨rfl,fun i c hc=> ?_⟩;obtain⟨_,⟨e1,h0⟩ | ⟨g,cap,cur,e1,_⟩⟩:=id h
 ·have:=(List.getElem?_eq_some_iff.1 hc).1;omega
 ·obtain⟨rfl, -,rfl⟩:=Value.slice.inj e1
  refine⟨g,rfl, ?_⟩;rw [bg h rfl i (by have:=(List.getElem?_eq_some_iff.1 hc).1;omega),List.getElem?_map,hc];rfl
theorem oM {B:Option Addr}{r base2:Nat}{x:List Int}(hx:qj w base (.slice A n q) x)(hy:qj w base2 (.slice B m r) y)(a6:x.length<=4294967296)(a7:y.length<=4294967296):Calls Tryz.prog 98 #[.slice A n q, .slice B m r] w fun e w'=>e = .returned (.int .i64 (aG x y))/\w=w':=by
 obtain⟨rfl,rx⟩:=hx.read;obtain⟨rfl,ry⟩:=hy.read;have Hx:=Qa rx;have Hy:=Qa ry;clear hx hy rx ry;go_enter Tryz.func98,Tryz.ntmps98;go_wp2_with fail
 go_loopg [11] x.length (fun k s11 wr=> ∃i:Nat,k+i=x.length/\s11 = .int .i64 i/\i<=y.length/\aG (x.drop i) (y.drop i)=aG x y/\wr=w)
 case atStart=>exact⟨0,rfl,rfl,Zj _,rfl,rfl⟩
 case round=>
  obtain⟨i,hk,rfl,a9,hc,rfl⟩:=hrel;have Hc:=Qa hc;have Hk:=Qa hk
  by_cases hlt:i<x.length
  ·obtain⟨a,ha⟩:∃a,x[i]?=some a:=⟨_,Zc hlt⟩
   obtain⟨gx,rfl,cx⟩:=Hx.out i a ha;have a5: (i:Int)<x.length:=by omega
   have a0:x.drop i=a::x.drop (i+1):=by rw [List.drop_eq_getElem_cons hlt];congr 1;rw [Zc hlt] at ha;exact Zh ha
   by_cases hly:i<y.length
   ·obtain⟨b,hb⟩:∃b,y[i]?=some b:=⟨_,Zc hly⟩
    obtain⟨gy,rfl,cy⟩:=Hy.out i b hb;have a4:y.drop i=b::y.drop (i+1):=by rw [List.drop_eq_getElem_cons hly];congr 1;rw [Zc hly] at hb;exact Zh hb
    have a1: (i:Int)<y.length:=by omega
    have a2:¬ (y.length:Int)<=i:=by omega
    have Hc2:=Qa (show aG x y=if a<b then -1 else if b<a then 1 else aG (x.drop (i+1)) (y.drop (i+1)) by rw [<- Hc.out,a0,a4];rfl);clear hc a0 a4 ha hb hk;have s1:IntKind.i64.wrap ((i:Int)+1)= ((i+1:Nat):Int):=by rw [IntWalk.i64_in _ (by omega)];omega
    go_wp2_with fail;(with_reducible refine(ss a b _).mono ?_);rintro e w' ⟨rfl,rfl⟩
    by_cases h3:a<b
    ·rw [show va a b = -1 from if_pos h3]
     rw [if_pos h3] at Hc2;go_wp2_with fail;go_ret;exact⟨by rw [Hc2.out];rfl,rfl⟩
    rw [if_neg h3] at Hc2
    by_cases h4:b<a
    ·rw [show va a b=1 from(if_neg h3).trans (if_pos h4)]
     rw [if_pos h4] at Hc2;go_wp2_with fail;go_ret;exact⟨by rw [Hc2.out];rfl,rfl⟩
    rw [show va a b=0 from(if_neg h3).trans (if_neg h4)];rw [if_neg h4] at Hc2;go_wp2_with fail;go_roundg (x.length - (i+1))
    case measure=>have:=Hk.out;omega
    case rel=>exact⟨i+1,by omega,rfl,by omega,Hc2.out.symm,rfl⟩
   ·have a2: (y.length:Int)<=i:=by omega
    have Hc2:=Qa (show aG x y=1 by rw [<- Hc.out,a0,show y.drop i = [] from List.drop_of_length_le (by omega)];rfl);clear hc a0 ha hk;go_wp2_with fail;go_ret;exact⟨by rw [Hc2.out];rfl,rfl⟩
  ·have a5:¬ (i:Int)<x.length:=by omega
   have a3:i=x.length:=by omega
   have a0:x.drop i = []:=List.drop_of_length_le (by omega)
   by_cases hly:i<y.length
   ·have a1: (x.length:Int)<y.length:=by omega
    have Hc2:=Qa (show aG x y = -1 by rw [<- Hc.out,a0,List.drop_eq_getElem_cons hly];rfl);clear hc a0 hk a3;go_wp2_with fail;go_ret;exact⟨by rw [Hc2.out];rfl,rfl⟩
   ·have a1:¬ (x.length:Int)<y.length:=by omega
    have Hc2:=Qa (show aG x y=0 by rw [<- Hc.out,a0,show y.drop i = [] from List.drop_of_length_le (by omega)];rfl);clear hc a0 hk a3;go_wp2_with fail;go_ret;exact⟨by rw [Hc2.out];rfl,rfl⟩
def jU (s:ByteArray):Prop:=dy s/\s.size<=4294967296
theorem jU.len (h:jU s): (nm s).length<=4294967296:=by
 have h1:=iU h.1.nm.1;rw [h.1.nm.2] at h1;have:s.data.toList.length=s.size:=by simp
 have:=h.2;omega
theorem yE {t:ByteArray}(hs:jU s)(ht:jU t):Calls Tryz.prog 70 #[.string s, .string t] w fun e w'=>e = .returned (.int .i64 (aG (nm s) (nm t)))/\bQ w w':=by
 have H1:=Qa (pj (w:=w) hs.1 hs.2);have H2:=Qa (fun w=>pj (w:=w) ht.1 ht.2);have L1:=Qa hs.len;have L2:=Qa ht.len;clear hs ht;go_enter Tryz.func70,Tryz.ntmps70;go_wp2_with fail;(with_reducible refine H1.out.mono ?_);rintro e w1 ⟨v1,rfl,a1,a3⟩;obtain⟨A1,q1,rfl, -⟩:=ag a1;have a6:=Qa a1;have a7:=Qa a3;clear a1 a3;go_wp2_with fail;(with_reducible refine(H2.out w1).mono ?_);rintro e w2 ⟨v2,rfl,a0,a2⟩;obtain⟨A2,q2,rfl, -⟩:=ag a0;have a4:=Qa a0;have a9:=Qa (show qj w2 w.heap.size (.slice A1 (nm s).length q1) (nm s) from ap a6.out a2.b (Za _));have a5:=Qa (a7.out.trans a2);clear a0 a2;go_wp2_with fail;(with_reducible refine(oM a9.out a4.out L1.out L2.out).mono ?_);rintro e w3 ⟨rfl,rfl⟩;go_wp2_with fail;go_ret;exact⟨rfl,a5.out⟩
theorem vZ {t:ByteArray}(hs:jU s)(ht:jU t):Calls Tryz.prog 69 #[.agg #[.string s,u], .agg #[.string t,v]] w fun e w'=>e = .returned (.int .i64 (aG (nm s) (nm t)))/\bQ w w':=by
 have H:=Qa (fun w=>yE (w:=w) hs ht);have Hb:=Qa ((bQ.alloc w (.cells #[.string s,u] 109)).trans (bQ.alloc _ (.cells #[.string t,v] 109)));clear hs ht;go_enter Tryz.func69,Tryz.ntmps69;go_wp2_with fail;(with_reducible refine(H.out _).mono ?_);rintro e w1 ⟨rfl,a0⟩;have a1:=Qa (Hb.out.trans a0);clear a0;go_wp2_with fail;go_ret;exact⟨rfl,a1.out⟩
open Go.Lib Go.Sort
abbrev Mb:={p:ByteArray×Value // jU p.1/\Dn p.2}
theorem jU.empty:jU ⟨#[]⟩:=⟨⟨[],by simp,rfl⟩,by decide⟩
instance:Inhabited Mb:=⟨⟨(⟨#[]⟩, .iface 0 undef),jU.empty,0,undef,rfl⟩⟩
def gX (p:Mb):List Value:= [.string p.1.1,p.1.2]
def F2 (x y:Mb):Int:=aG (nm x.1.1) (nm y.1.1)
instance (a b:ByteArray):Decidable (fM a b):=by unfold fM;infer_instance
theorem GT (x y:Mb):ltOf F2 x y=decide (fM x.1.1 y.1.1):=by
 unfold ltOf F2 fM;rfl
theorem Ia:SWO (ltOf F2) where
 irrefl x:=by rw [GT];simp [j4]
 trans x y z h1 h2:=by rw [GT] at *;simp only [decide_eq_true_eq] at *;exact gO h1 h2
 ntrans x y z h1 h2:=by
  rw [GT] at *;simp only [decide_eq_false_iff_not] at *;intro h
  by_cases e:x.1.1=y.1.1
  ·rw [e] at h;exact h2 h
  ·exact h2 (gO (js h1 e) h)
theorem zM (x y:Mb)(w:World):Calls Tryz.prog 69 #[.agg #[.string x.1.1,x.1.2], .agg #[.string y.1.1,y.1.2]] w fun e w'=>e = .returned (.int .i64 (F2 x y))/\∃q os',w'=grow (w.drewN q) os':=
 (vZ x.2.1 y.2.1).mono fun _ _ ⟨h1,h2⟩=>⟨h1,h2.grow⟩
theorem zN (blk off size:Nat)(w:World):CmpLays Tryz.prog 69 #[] gX 2 F2 blk off size w:=fun _ _ _ _ x y=>zM x y _
def qZ:Go.Shelf.Ren:=⟨fun | 6=>68 | 15=>97 | 14=>96 | 28=>133 | 29=>134 | 20=>125 | 21=>126 | 22=>127 | 23=>128 | 24=>129 | 25=>130 | 26=>131 | 27=>132 | 46=>166 | 47=>167 | 48=>168 | 49=>169 | 50=>170 | 57=>193 | n=>n,fun | 22=>100 | 24=>109 | 25=>163 | 3=>3 | 39=>199 | 0=>0 | 53=>271 | 55=>273 | 4=>4 | 46=>265 | 45=>264 | 50=>220 | 5=>5 | 9=>9 | 66=>303 | 70=>307 | 76=>337 | 77=>171 | n=>n,fun | n=>n⟩
theorem Ba:Go.Proofs.SlLaysF0.n6 Tryz.prog qZ:={
 mixed:=by kernel_rfl
 f6:=⟨"slices.SortFunc[[]wicket/tree.Member,wicket/tree.Member]",by decide,Tryz.func68.trans (congrArg some (by kernel_rfl))⟩
 f14:=⟨"slices.pdqsortCmpFunc[wicket/tree.Member]",by decide,Tryz.func96.trans (congrArg some (by kernel_rfl))⟩
 f15:=Tryz.func97.trans (congrArg some (by kernel_rfl))
 f20:=⟨"slices.insertionSortCmpFunc[wicket/tree.Member]",by decide,Tryz.func125.trans (congrArg some (by kernel_rfl))⟩
 f21:=⟨"slices.heapSortCmpFunc[wicket/tree.Member]",by decide,Tryz.func126.trans (congrArg some (by kernel_rfl))⟩
 f22:=⟨"slices.breakPatternsCmpFunc[wicket/tree.Member]",by decide,Tryz.func127.trans (congrArg some (by kernel_rfl))⟩
 f23:=⟨"slices.choosePivotCmpFunc[wicket/tree.Member]",by decide,Tryz.func128.trans (congrArg some (by kernel_rfl))⟩
 f24:=⟨"slices.reverseRangeCmpFunc[wicket/tree.Member]",by decide,Tryz.func129.trans (congrArg some (by kernel_rfl))⟩
 f25:=⟨"slices.partialInsertionSortCmpFunc[wicket/tree.Member]",by decide,Tryz.func130.trans (congrArg some (by kernel_rfl))⟩
 f26:=⟨"slices.partitionEqualCmpFunc[wicket/tree.Member]",by decide,Tryz.func131.trans (congrArg some (by kernel_rfl))⟩
 f27:=⟨"slices.partitionCmpFunc[wicket/tree.Member]",by decide,Tryz.func132.trans (congrArg some (by kernel_rfl))⟩
 f28:=Tryz.func133.trans (congrArg some (by kernel_rfl))
 f29:=Tryz.func134.trans (congrArg some (by kernel_rfl))
 f46:=⟨"slices.siftDownCmpFunc[wicket/tree.Member]",by decide,Tryz.func166.trans (congrArg some (by kernel_rfl))⟩
 f47:=Tryz.func167.trans (congrArg some (by kernel_rfl))
 f48:=Tryz.func168.trans (congrArg some (by kernel_rfl))
 f49:=⟨"slices.medianAdjacentCmpFunc[wicket/tree.Member]",by decide,Tryz.func169.trans (congrArg some (by kernel_rfl))⟩
 f50:=⟨"slices.medianCmpFunc[wicket/tree.Member]",by decide,Tryz.func170.trans (congrArg some (by kernel_rfl))⟩
 f57:=⟨"slices.order2CmpFunc[wicket/tree.Member]",by decide,Tryz.func193.trans (congrArg some (by kernel_rfl))⟩
 t0:=Tryz.underlying0
 a0:=Tryz.isAgg0
 z0:=Tryz.sizeOf0
 v0:=Tryz.zeroValue0
 t3:=Tryz.underlying3
 a3:=Tryz.isAgg3
 z3:=Tryz.sizeOf3
 v3:=Tryz.zeroValue3
 t4:=Tryz.underlying4
 a4:=Tryz.isAgg4
 z4:=Tryz.sizeOf4
 v4:=Tryz.zeroValue4
 t5:=Tryz.underlying5
 a5:=Tryz.isAgg5
 z5:=Tryz.sizeOf5
 v5:=Tryz.zeroValue5
 t9:=Tryz.underlying9
 a9:=Tryz.isAgg9
 z9:=Tryz.sizeOf9
 v9:=Tryz.zeroValue9
 t22:=Tryz.underlying100
 a22:=Tryz.isAgg100
 z22:=Tryz.sizeOf100
 v22:=Tryz.zeroValue100
 t25:=Tryz.underlying163
 a25:=Tryz.isAgg163
 z25:=Tryz.sizeOf163
 v25:=Tryz.zeroValue163
 t39:=Tryz.underlying199
 a39:=Tryz.isAgg199
 z39:=Tryz.sizeOf199
 v39:=Tryz.zeroValue199
 t45:=Tryz.underlying264
 a45:=Tryz.isAgg264
 z45:=Tryz.sizeOf264
 v45:=Tryz.zeroValue264
 t46:=Tryz.underlying265
 a46:=Tryz.isAgg265
 z46:=Tryz.sizeOf265
 v46:=Tryz.zeroValue265
 t50:=Tryz.underlying220
 a50:=Tryz.isAgg220
 z50:=Tryz.sizeOf220
 v50:=Tryz.zeroValue220
 t53:=Tryz.underlying271
 a53:=Tryz.isAgg271
 z53:=Tryz.sizeOf271
 v53:=Tryz.zeroValue271
 t55:=Tryz.underlying273
 a55:=Tryz.isAgg273
 z55:=Tryz.sizeOf273
 v55:=Tryz.zeroValue273
 t66:=Tryz.underlying303
 a66:=Tryz.isAgg303
 z66:=Tryz.sizeOf303
 v66:=Tryz.zeroValue303
 t70:=Tryz.underlying307
 a70:=Tryz.isAgg307
 z70:=Tryz.sizeOf307
 v70:=Tryz.zeroValue307
 t76:=Tryz.underlying337
 a76:=Tryz.isAgg337
 z76:=Tryz.sizeOf337
 v76:=Tryz.zeroValue337
 t77:=Tryz.underlying171
 a77:=Tryz.isAgg171
 z77:=Tryz.sizeOf171
 v77:=Tryz.zeroValue171
}
def AJ (L:List (ByteArray×Value)):Prop:= ∀p∈L,jU p.1/\Dn p.2
open Classical in
noncomputable def F6 (p:ByteArray×Value):Mb:=if h:jU p.1/\Dn p.2 then⟨p,h⟩ else default
theorem Dw {p:ByteArray×Value}(h:jU p.1/\Dn p.2): (F6 p).1=p:=by unfold F6;rw [dif_pos h]
theorem CA (hb:AJ L){p:ByteArray×Value}(hp:L[i]?=some p): (((L.map F6).toArray)[i]!).1=p:=by
 have hi:=(List.getElem?_eq_some_iff.1 hp).1;have h0:=hb p (Zk hp);have e: ((L.map F6).toArray)[i]! =F6 p:=by
  rw [getElem!_pos _ i (by simpa using hi)];simp only [List.getElem_toArray,List.getElem_map]
  congr 1
  have:=Zc hi;rw [hp] at this;exact(Zh this).symm
 rw [e];exact Dw h0
def mz (L:List (ByteArray×Value)):Prop:=L.Pairwise fun p q=> ¬fM q.1 p.1
def IK (w:World)(base g:Nat)(L:List (ByteArray×Value))(e:Ending)(w':World):Prop:= ∃S:List (ByteArray×Value),mz S/\S.Perm L/\e = .returned (.tuple #[])/\GQ w' g S/\(∃cur:Array Value,w'.heap[g]?=some (.cells cur 109 (0,0))/\L.length*2<=cur.size)/\Below base w w'
theorem tO (h:xa w base (.slice (some ⟨g,0,none⟩) L.length q) L)(hb:AJ L)(hB:base<=w.heap.size)(hl:L.length<=4294967296):Calls Tryz.prog 68 #[.slice (some ⟨g,0,none⟩) L.length q, .func (.func 69) #[] #[]] w (IK w base g L):=by
 obtain⟨d,hd⟩:∃d:Array Mb,(L.map F6).toArray=d:=⟨_,rfl⟩;have a1:d.size=L.length:=by rw [<- hd];simp
 have a6:∀ (i:Nat) (p:ByteArray×Value),L[i]?=some p->(d[i]!).1=p:=fun i p hp=>by rw [<- hd];exact CA hb hp
 obtain⟨a9,cur,a0⟩:=ak h rfl;have a9:base<=g:=a9;have b1:=h.read;have b2:L.length*2<=cur.size:=by
  obtain⟨_,⟨e1,_⟩ | ⟨g',cap,cur',e1,_,a4,h2,h3,h4,h5⟩⟩:=id h
  ·cases e1
  ·obtain⟨e2, -, -⟩:=Value.slice.inj e1
   obtain rfl:g=g':=by injection e2 with e2;injection e2
   rw [a0] at a4;obtain rfl:cur=cur':=by injection a4 with a4;injection a4
   rw [h4];omega
 have hH:HoldsK gX 2 w g 0 d:=by
  intro j hj;rw [size_flatK,a1] at hj;obtain⟨p,hp⟩:∃p,L[j/2]?=some p:=⟨_,Zc (by omega)⟩;obtain⟨c1,c2⟩:=b1 _ _ hp;refine⟨?_,aj a0 _⟩;rw [get_flatK gX 2 d j (by rw [a1];exact hj)];have hv:=a6 _ _ hp;rw [Nat.zero_add];rcases Nat.mod_two_eq_zero_or_one j with hm | hm
  ·rw [hm,show j= (j/2)*2 by omega]
   rw [show(j/2)*2/2=j/2 by omega,c1];unfold gX;rw [hv];rfl
  ·rw [hm,show j= (j/2)*2+1 by omega]
   rw [show((j/2)*2+1)/2=j/2 by omega,c2];unfold gX;rw [hv];rfl
 have eg:∀args w,(callFunc 69 args).run Tryz.prog w = .ok (.enter 69 args) w:=enters_of Tryz.func69 (by kernel_rfl) rfl;have a3:=AnyQ.slices_SortFunc Ba 2 Tryz.isAgg109 Tryz.sizeOf109 gX (fun _=>rfl) (fun x v hv=>by simp [gX] at hv;rcases hv with rfl | rfl;(· rfl);exact x.2.2.one) F2 Ia 69 #[] g 0 q d w eg (zN g 0 d.size w) hH (ae a0) (by rw [a1];omega);change Calls Tryz.prog 68 _ _ _ at a3;rw [a1] at a3;refine a3.mono ?_;rintro e w' ⟨rfl,d',n,os,hp,hs,rfl⟩;have a5:d'.size=L.length:=by rw [hp.1,a1]
 have a7: (putRowK gX 2 (Sort.ahead w n) g 0 d').heap.size=w.heap.size:=by unfold putRowK putRow mapBlock Sort.ahead;simp
 refine⟨d'.toList.map (·.1), ?_, ?_,rfl, ?_, ?_, ?_⟩
 ·unfold mz
  rw [List.pairwise_map,List.pairwise_iff_getElem];intro i j hi hj b0;have h1:=hs i j (Zj _) b0 (by simpa [a5] using hj);rw [GT] at h1;rw [getElem!_pos d' i (by simpa using hi),getElem!_pos d' j (by simpa using hj)] at h1;simp only [Array.getElem_toList];simpa only [decide_eq_false_iff_not] using h1
 ·have h1:=hp.2.2
  rw [<- a1] at h1;have e1:d.extract 0 d.size=d:=by simp
  have e2:d'.extract 0 d.size=d':=by rw [<- hp.1];simp
  rw [e1,e2] at h1;have h2:=h1.map (·.1);have e3:d.toList.map (·.1)=L:=by
   apply List.ext_getElem?
   intro i;rw [List.getElem?_map]
   by_cases hi:i<L.length
   ·obtain⟨p,a2⟩:∃p,L[i]?=some p:=⟨_,Zc hi⟩
    have hv:=a6 i p a2;rw [getElem!_pos d i (by omega)] at hv;rw [a2,Zc (by simpa [a1] using hi)];simp only [Array.getElem_toList,Option.map_some,hv]
   ·rw [List.getElem?_eq_none (by simpa [a1] using hi),List.getElem?_eq_none (by omega)]
    rfl
  rw [e3] at h2;exact h2
 ·have hK:=holdsK_grow gX 2 (putRowK gX 2 (Sort.ahead w n) g 0 d') os g 0 d' (by rw [a7];exact ae a0) (holdsK_putRowK gX 2 (Sort.ahead w n) g 0 d d' (holdsK_ahead gX 2 w n g 0 d hH) hp.1)
  intro i p a2;rw [List.getElem?_map] at a2;have hi:i<d'.size:=by
   have:=(List.getElem?_eq_some_iff.1 (show(d'.toList.map (·.1))[i]?=some p by rw [List.getElem?_map];exact a2)).1;simpa using this
  have hv: (d'[i]!).1=p:=by
   rw [Zc (by simpa using hi)] at a2;rw [getElem!_pos d' i hi];simpa using a2
  have k1:=hK.cell hi (show 0<2 by decide);have k2:=hK.cell hi (show 1<2 by decide);have e1: ((gX d'[i]!)[0]! :Value) = .string p.1:=by unfold gX;rw [hv];rfl
  have e2: ((gX d'[i]!)[1]! :Value)=p.2:=by unfold gX;rw [hv];rfl
  have k3:=k1.1;have k4:=k2.1;rw [e1,show 0+i*2+0=i*2 by omega] at k3;rw [e2,show 0+i*2+1=i*2+1 by omega] at k4;exact⟨k3,k4⟩
 ·have hlt:=ae a0
  have hg:∃f:Array Value->Array Value,(∀c,(f c).size=c.size)/\(putRowK gX 2 (Sort.ahead w n) g 0 d').heap[g]?=some (.cells (f cur) 109 (0,0)):=by
   refine⟨fun c=>putCells id 0 (flatK gX 2 d') c,fun c=>by unfold putCells;simp, ?_⟩;unfold putRowK putRow mapBlock Sort.ahead;simp only;have h':w.heap[g] = .cells cur 109 (0,0):=by simpa [Array.getElem?_eq_getElem hlt] using a0
   rw [Array.getElem?_eq_getElem (by simpa using hlt),Array.getElem_modify_self,h'];rfl
  obtain⟨f,hf,hg⟩:=hg;refine⟨f cur, ?_,by rw [hf];exact b2⟩;unfold sortWorldK;rw [heap_grow_old _ os (by rw [a7];exact hlt)];exact hg
 ·have hg:∀k,k<base->(sortWorldK gX 2 w g 0 n d' os).heap[k]?=w.heap[k]?:=by
   intro k hk;unfold sortWorldK;rw [heap_grow_old _ os (by unfold putRowK putRow mapBlock Sort.ahead;simp;omega)];unfold putRowK putRow mapBlock Sort.ahead;simp only;rw [Array.getElem?_modify,if_neg (by omega)]
  refine⟨rfl,rfl,rfl, ?_,hg⟩;unfold sortWorldK grow putRowK putRow mapBlock Sort.ahead;simp
theorem wU (w:World):Calls Tryz.prog 134 #[.int .u64 0] w fun e w'=>e = .returned (.int .i64 0)/\w=w':=by
 go_enter Tryz.func134,Tryz.ntmps134;go_wp2_with fail;go_ret;exact⟨by show Ending.returned (.int .i64 (wrap64 (wrap64 (len8 0))))=_;exact congrArg (fun x=>Ending.returned (.int .i64 x)) (by decide +kernel),rfl⟩
theorem Bd (w:World):Calls Tryz.prog 97 #[.int .u64 0] w fun e w'=>e = .returned (.int .i64 0)/\w=w':=by
 have h1:=Qa (fun w=>wU w);go_enter Tryz.func97,Tryz.ntmps97;go_wp2_with fail;(with_reducible refine(h1.out _).mono ?_);rintro e w' ⟨rfl,rfl⟩;go_wp2_with fail;go_ret;exact⟨rfl,rfl⟩
theorem mO (A:Option Addr)(c:Nat)(f:Value)(w:World):Calls Tryz.prog 125 #[.slice A 0 c, .int .i64 0, .int .i64 0,f] w fun e w'=>e = .returned (.tuple #[])/\w=w':=by
 go_enter Tryz.func125,Tryz.ntmps125;go_wp2_with fail
 go_loopg [8] 0 (fun _ s8 wr=>s8 = .int .i64 1/\wr=w)
 case atStart=>exact⟨rfl,rfl⟩
 case round=>
  obtain⟨rfl,rfl⟩:=hrel;go_wp2_with fail;go_end0;exact⟨rfl,rfl⟩
theorem BF (A:Option Addr)(c:Nat)(f:Value)(w:World):Calls Tryz.prog 96 #[.slice A 0 c, .int .i64 0, .int .i64 0, .int .i64 0,f] w fun e w'=>e = .returned (.tuple #[])/\w=w':=by
 have h1:=Qa (fun w=>mO A c f w);go_enter Tryz.func96,Tryz.ntmps96;go_wp2_with fail
 go_loopg [1,2] 0 (fun _ s1 s2 wr=>s1 = .int .i64 0/\s2 = .int .i64 0/\wr=w)
 case atStart=>exact⟨rfl,rfl,rfl⟩
 case round=>
  obtain⟨rfl,rfl,rfl⟩:=hrel;go_wp2_with fail;(with_reducible refine(h1.out _).mono ?_);rintro e w' ⟨rfl,rfl⟩;go_wp2_with fail;(try simp only [Exit.inBlock,Exit.then]);refine Zg (results_none rfl _ _ _) rfl ?_;exact⟨rfl,rfl⟩
theorem yN (A:Option Addr)(c:Nat)(f:Value)(w:World):Calls Tryz.prog 68 #[.slice A 0 c,f] w fun e w'=>e = .returned (.tuple #[])/\w=w':=by
 have h1:=Qa (fun w=>Bd w);have h2:=Qa (fun w=>BF A c f w);go_enter Tryz.func68,Tryz.ntmps68;go_wp2_with fail;(with_reducible refine(h1.out _).mono ?_);rintro e w' ⟨rfl,rfl⟩;go_wp2_with fail;(with_reducible refine(h2.out _).mono ?_);rintro e w' ⟨rfl,rfl⟩;go_wp2_with fail;go_end0;exact⟨rfl,rfl⟩
def F8 (w:World)(n:Nat)(L:List (ByteArray×Value))(e:Ending)(w':World):Prop:= ∃g A c S,e = .returned (.tuple #[.pointer (some ⟨g,0,none⟩), .nilIface])/\Below w.heap.size w w'/\w.heap.size<=g/\w'.heap[g]?=some (.cells #[.slice A n c] 165 (0,0))/\cf (w.heap.size<= ·) w' 109 2 A n c (fd S)/\S.Perm L/\(S.map Prod.fst).Pairwise fM
theorem r9 (h:mz S)(hn: (S.map Prod.fst).Nodup): (S.map Prod.fst).Pairwise fM:=by
 rw [List.pairwise_map];rw [List.Nodup,List.pairwise_map] at hn;exact(h.and hn).imp fun ⟨h1,h2⟩=>js h1 (fun e=>h2 e.symm)
def Rm (w:World)(A:Option Addr)(L:List (ByteArray×Value)):Prop:= ∀ (i:Nat) (p:ByteArray×Value),L[i]?=some p->∃g,A=some ⟨g,0,none⟩/\w.cell? ⟨g,i*2,none⟩=some (.string p.1)/\w.cell? ⟨g,i*2+1,none⟩=some p.2
theorem Rm.below (h:Rm w A L)(hb:Below w.heap.size w w'):Rm w' A L:=fun i p hp=>by
 obtain⟨g,h1,h2,h3⟩:=h i p hp;exact⟨g,h1,Zf hb h2,Zf hb h3⟩
theorem xa.rm (h:xa w base (.slice A n q) L):n=L.length/\Rm w A L:=by
 obtain⟨A',q',e,_,_,hA⟩:=ag h;obtain⟨rfl,rfl,rfl⟩:=Value.slice.inj e;refine⟨rfl,fun i p hp=> ?_⟩;obtain⟨g,rfl⟩:=hA (by have:=(List.getElem?_eq_some_iff.1 hp).1;omega);exact⟨g,rfl,h.read i p hp⟩
theorem gw (hv:xW 2 w v n (fd L))(hg:AJ L)(b3: (L.map Prod.fst).Nodup)(hl:n<=4294967296):Calls Tryz.prog 44 #[v] w (F8 w n L):=by
 have a6:L.length=n:=by
  have:=hv.1;rw [kJ] at this;omega
 obtain⟨hm,d2,A,cap,rfl,hc,hA⟩:=id hv;have Hk:=Qa (oW hv (fun u h=>by
  obtain⟨p,hp,hu⟩:=List.mem_flatMap.1 h;simp at hu;rcases hu with rfl | rfl
  ·rfl
  ·exact(hg p hp).2.one) hl)
 have Hg:=Qa hg;have c7:=Qa b3;clear hv hA hg b3;go_enter Tryz.func44,Tryz.ntmps44;go_wp2_with fail;(with_reducible refine Hk.out.mono ?_);rintro e w1 ⟨A1,c1,rfl,b5,b4⟩;have ho:xa w1 w.heap.size (.slice A1 n c1) L:=by unfold xa;rw [a6];exact b4
 have Ho:=Qa ho;have c5:=Qa b5;have c3:=Qa ho.rm.2;have a3:=Qa a6;clear b4 ho b5 Hk hm a6;go_wp2_with fail
 go_loopg [6,12] n (fun k _ s12 wr=> ∃i:Nat,k+i=n/\s12 = .int .i64 i/\Below w1.heap.size w1 wr)
 case atStart=>exact⟨0,rfl,rfl,Zd _ _⟩
 case round=>
  obtain⟨i,hk,rfl,hb⟩:=hrel;have Hb:=Qa hb
  by_cases hlt:i<n
  ·obtain⟨p,hp⟩:∃p,L[i]?=some p:=⟨_,Zc (by have:=a3.out;omega)⟩
   obtain⟨g,rfl,q0,q1⟩:=(c3.out.below hb) i p hp;obtain⟨t,x,hx⟩:=(Hg.out p (Zk hp)).2;rw [hx] at q1;have a0: (i:Int)<n:=by omega
   have Hk:=Qa hk;have qe:∀w,(binOp .eql 32 (.iface t x) .nilIface).run Tryz.prog w = .ok (.bool false) w:=fun w=>rC w t x
   clear hp hb hx hk;go_wp2_with fail;go_roundg (n - (i+1))
   case measure=>have:=Hk.out;omega
   case rel=>exact⟨i+1,by omega,by go_num,bo Hb.out (ac _ _)⟩
  ·obtain rfl:i=n:=by omega
   have a0:¬ (i:Int)<i:=by omega
   clear hk hb hlt;go_wp2_with fail;have a7:=bo c5.out Hb.out;have a1:=Qa (show xa wr w.heap.size (.slice A1 i c1) L from ap Ho.out Hb.out (Za _));have d0:=Qa a7;have b7:Calls Tryz.prog 68 #[.slice A1 i c1, .func (.func 69) #[] #[]] wr fun e w'=>e = .returned (.tuple #[])/\Below w.heap.size wr w'/\∃S,S.Perm L/\mz S/\Rm w' A1 S/\cf (w.heap.size<= ·) w' 109 2 A1 i c1 (fd S):=by
    rcases Nat.eq_zero_or_pos i with h0 | h0
    ·subst h0
     obtain rfl:=List.eq_nil_of_length_eq_zero a3.out;refine(yN A1 c1 _ wr).mono ?_;rintro e w' ⟨rfl,rfl⟩;exact⟨rfl,Zd _ _, [],List.Perm.refl _,List.Pairwise.nil,fun i p h=>by simp at h,cf.of_own a1.out⟩
    ·obtain⟨A',q',e,hcc,c8,c9⟩:=ag a1.out
     obtain⟨rfl,rfl,rfl⟩:=Value.slice.inj e;obtain⟨g,rfl⟩:=c9 (by have:=a3.out;omega);have b8:=tO a1.out Hg.out a7.size (by have:=a3.out;omega);refine b8.mono ?_;rintro e w' ⟨S,h1,h2,rfl,h3,⟨cur,h4,h5⟩,h6⟩;have c4:S.length=L.length:=h2.length_eq;refine⟨rfl,h6,S,h2,h1,fun i p hp=>⟨g,rfl,h3 i p hp⟩,by rw [kJ,c4],hcc,by unfold maxLen at c8 ⊢;have:=(bR a1.out);obtain⟨_,⟨e,_⟩ | ⟨_,_,_,e,_,_,_,h,_⟩⟩:=id a1.out;(· cases e);obtain⟨-, -,rfl⟩:=Value.slice.inj e;exact h,fun _=>⟨g,rfl,(ak a1.out rfl).1,cur,h4, ?_⟩⟩;apply List.ext_getElem?;intro j
     by_cases hj:j<L.length*2
     ·rw [List.getElem?_take_of_lt hj,Array.getElem?_toList]
      obtain⟨p,hp⟩:∃p,S[j/2]?=some p:=⟨_,Zc (by omega)⟩;obtain⟨c1,c2⟩:=h3 _ _ hp;obtain⟨m1,m2⟩:=rg S _ p hp;unfold World.cell? at c1 c2;simp only [h4] at c1 c2;rcases Nat.mod_two_eq_zero_or_one j with hm | hm
      ·rw [show j/2*2=j by omega] at c1 m1
       rw [m1];simpa using c1
      ·rw [show j/2*2+1=j by omega] at c2 m2
       rw [m2];simpa using c2
     ·rw [List.getElem?_eq_none (by simp;omega),List.getElem?_eq_none (by rw [kJ];omega)]
   (with_reducible refine b7.mono ?_);rintro e w2 ⟨rfl,b2,S,hp,hs,b6,a2⟩;have b9:=Qa (d0.out.trans b2);have Hp:=Qa hp;have Hs:=Qa (r9 hs ((hp.map Prod.fst).nodup_iff.2 c7.out));have a9:=Qa b6;have a5:=Qa a2;have a4:=Qa (show S.length=i by rw [hp.length_eq];exact a3.out);clear hp hs b6 a2 b2 b7 a7;go_wp2_with fail
   go_loopg [7] (i - 1) (fun k s7 wr=> ∃j:Nat,k+j=i - 1/\s7 = .int .i64 (j+1:Nat)/\Below w2.heap.size w2 wr)
   case atStart=>exact⟨0,rfl,rfl,Zd _ _⟩
   case round=>
    obtain⟨j,hk,rfl,hb⟩:=hrel;have Hb3:=Qa hb;have Hk:=Qa hk
    by_cases hlt:j+1<i
    ·obtain⟨p,hp⟩:∃p,S[j]?=some p:=⟨_,Zc (by have:=a4.out;omega)⟩
     obtain⟨r,hr⟩:∃r,S[j+1]?=some r:=⟨_,Zc (by have:=a4.out;omega)⟩;obtain⟨g,rfl,q0, -⟩:=(a9.out.below hb) j p hp;obtain⟨g',e,r0, -⟩:=(a9.out.below hb) (j+1) r hr;obtain rfl:g=g':=by injection e with e;injection e
     have hne:p.1≠r.1:=by
      refine nP ((List.pairwise_iff_getElem.1 Hs.out) j (j+1) (by simp;have:=a4.out;omega) (by simp;have:=a4.out;omega) (by omega) |> fun h=> ?_);simpa [(List.getElem?_eq_some_iff.1 hp).2,(List.getElem?_eq_some_iff.1 hr).2] using h
     have c0: (r.1.toList==p.1.toList)=false:=by rw [jv];simp;exact fun e=>hne e.symm
     have s1:IntKind.i64.wrap (j:Int)= (j:Int):=IntWalk.i64_in _ (by omega);have s2:IntKind.i64.wrap ((j:Int)+1+1)= (j:Int)+1+1:=IntWalk.i64_in _ (by omega);have a0: (j:Int)+1<i:=by omega
     have b0: (j:Int)<i:=by omega
     have d1: ((j:Int)+1).toNat=j+1:=by omega
     have c6: (0:Int)<=(j:Int)+1:=by omega
     clear hp hr hb hk hlt hne;go_wp2_with fail;go_quiet (fail);go_wp2_with fail;go_roundg (i - 1 - (j+1))
     case measure=>have:=Hk.out;omega
     case rel=>exact⟨j+1,by omega,by go_num,aD Hb3.out _⟩
    ·have a0:¬ (j:Int)+1<i:=by omega
     clear hb hk hlt;go_wp2_with fail;go_ret2;have b1:=bo b9.out Hb3.out;exact⟨_,A1,c1,S,rfl,bo b1 (ac _ _),b1.size,Ze _ _,a5.out.stay fun g o hp hg _ _=>⟨hp,(Below.heap_alloc _ _ _ (ae (ai hg Hb3.out))).trans (ai hg Hb3.out)⟩,Hp.out,Hs.out⟩
theorem yk {α β:Type}{f:α->β}{S L:List β}(hp:S.Perm L):∀ {Z:List α},Z.map f=L->∃Z':List α,Z'.Perm Z/\Z'.map f=S:=by
 induction hp with
 | nil=>intro Z h;exact⟨Z,List.Perm.refl _,h⟩
 | cons x _ ih=>
  intro Z h
  cases Z with
  | nil=>cases h
  | cons z Z=>
   rw [List.map_cons] at h;injection h with h1 h2
   obtain⟨Z',h3,h4⟩:=ih h2;exact⟨z::Z',h3.cons z,by rw [List.map_cons,h1,h4]⟩
 | swap x y l=>
  intro Z h
  match Z,h with
  | a::b::Z,h=>
   simp only [List.map_cons] at h;injection h with h1 h2
   injection h2 with h2 h3
   exact⟨b::a::Z,List.Perm.swap a b Z,by simp [h1,h2,h3]⟩
 | trans _ _ ih1 ih2=>
  intro Z h;obtain⟨Z1,h1,h2⟩:=ih2 h;obtain⟨Z2,h3,h4⟩:=ih1 h2;exact⟨Z2,h3.trans h1,h4⟩
theorem Fz (S:List (ByteArray×Value)):fd S=zt (S.map Prod.fst) (S.map Prod.snd):=by
 unfold fd zt
 congr 1
 induction S with
 | nil=>rfl
 | cons p S ih=>simp [<- ih]
theorem wv {ms:List (ByteArray×JV)}(hg:w.heap[g]?=some (.cells #[.slice A S.length c] 165 (0,0)))(hr:cf Q w 109 2 A S.length c (fd S))(hQ:Q g)(hp:S.Perm L)(hs: (S.map Prod.fst).Pairwise fM)
  (hn:L.map Prod.fst=ms.map Prod.fst) (hv:bB (VW Q w) (L.map Prod.snd) (ms.map Prod.snd)):VW Q w (.iface 119 (.pointer (some ⟨g,0,none⟩))) (kG (fB ms)):=by
 have hl:L.length=ms.length:=by have:=congrArg List.length hn;simpa using this
 have hz: (L.zip ms).map Prod.fst=L:=List.map_fst_zip (by omega);have a4: (L.zip ms).map Prod.snd=ms:=List.map_snd_zip (by omega);obtain⟨Z,hZ,a1⟩:=yk hp hz;have a0:∀z∈L.zip ms,z.1.1=z.2.1/\VW Q w z.1.2 z.2.2:=by
  intro z hz;obtain⟨i,hi,rfl⟩:=List.getElem_of_mem hz;rw [List.length_zip] at hi;have h1:L[i]?=some L[i]:=Zc (by omega);have h2:ms[i]?=some ms[i]:=Zc (by omega);rw [List.getElem_zip];refine⟨?_,hv.2 i _ _ (by rw [List.getElem?_map,h1];rfl) (by rw [List.getElem?_map,h2];rfl)⟩;have:=congrArg (·[i]?) hn;simp only [List.getElem?_map,h1,h2,Option.map_some] at this;exact Zh this
 have a5:fB ms=Z.map Prod.snd:=by
  refine BC ?_ ?_
  ·have:=(hZ.map Prod.snd).symm
   rwa [a4] at this
  ·have e: (Z.map Prod.snd).map Prod.fst=S.map Prod.fst:=by
    rw [<- a1,List.map_map,List.map_map];exact List.map_congr_left fun z hz=>(a0 z (hZ.mem_iff.1 hz)).1.symm
   rw [e];exact hs
 rw [a5];have a2:S.map Prod.fst= (Z.map Prod.snd).map Prod.fst:=by
  rw [<- a1,List.map_map,List.map_map];exact List.map_congr_left fun z hz=>(a0 z (hZ.mem_iff.1 hz)).1
 have a3:S.length=Z.length:=by rw [<- a1];simp
 unfold kG;rw [<- a2];refine VW.obj g A c (S.map Prod.snd) (S.map Prod.fst) _ hQ (by rw [List.length_map];exact hg) (by rw [List.length_map,<- Fz];exact hr) (by simp [a3]) (by simp [a3]) fun i u k h1 h2=> ?_
 rw [List.getElem?_map,<- a1,List.getElem?_map] at h1;rw [List.getElem?_map,List.getElem?_map] at h2
 cases hz3:Z[i]? with
 | none=>rw [hz3] at h1;cases h1
 | some z=>
  rw [hz3] at h1 h2;obtain rfl:=Zh h1;obtain rfl:=Zh h2;exact(a0 z (hZ.mem_iff.1 (Zk hz3))).2
theorem x9 (hg:w.heap[g]?=some (.cells #[.slice A us.length c] 160 (0,0)))(hr:cf Q w 32 1 A us.length c us)(hQ:Q g)(hv:bB (VW Q w) us ks):VW Q w (.iface 57 (.pointer (some ⟨g,0,none⟩))) (dl ks):=
 VW.list g A c us ks hQ hg hr hv.1 fun i u k h1 h2=>hv.2 i u k h1 h2
