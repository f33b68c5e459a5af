import Derived.Test.YtohibglohlfjfaaGreatDoorGZ6bi
set_option linter.unusedVariables false
set_option linter.unusedSimpArgs false
set_option maxHeartbeats 64000000
set_option maxRecDepth 100000
namespace Go.Proofs.YtohibglohlfjfaaGreatDoor
open Go.RowKit Go.Shelf
variable {aE aU:Addr}{r:Bool}{d:Dc}{j x0:JV}{ns ns':List ByteArray}{ks ks':List JV}{us us':List Value}{base cap gt i m n p:Nat}{P Q:Nat->Prop}{A:Option Addr}{t0 t1:TypeId}{v x1:Value}{w w2:World}
theorem vW (p q:Value)(w:World):CallsD Tryz.prog 31 #[p,q] .returning w fun e u' w'=>e =.returned (.tuple #[])/\u' =.returning/\w'=w:=by
 refine callsD_of_wpS Tryz.func31 rfl fun c₀ cs hu=>?_
 apply wpS_seq
 apply wpS_region
 simp[wpOpsS,go_sem,recoverD,hu,Tryz.ntmps31,Exit.thenS];apply wpS_seq;apply wpS_region;simp[wpOpsS,go_sem,Exit.thenS];refine wpS_cond (t:=false) (by simp[Act.eval,Array.replicate]) ?_;simp only[Bool.false_eq_true,if_false];refine wpS_of_wp (wp_skip ?_)
 cases c₀
 simp_all [bodyPostS,results,Tryz.results31]
theorem qz {x0:Value}(h0:w2.heap[w.heap.size]?=some (.cells #[x0] t0 (0,0)))(h1:w2.heap[w.heap.size+1]?=some (.cells #[x1] t1 (0,0)))(hb:Below w.heap.size w w2)(y0 y1:Value) :
  Below w.heap.size w ((w2.setCell ⟨w.heap.size,0,none⟩ y0).setCell ⟨w.heap.size+1,0,none⟩ y1)/\((w2.setCell ⟨w.heap.size,0,none⟩ y0).setCell ⟨w.heap.size+1,0,none⟩ y1).cell? ⟨w.heap.size,0,none⟩=some y0/\
   ((w2.setCell ⟨w.heap.size,0,none⟩ y0).setCell ⟨w.heap.size+1,0,none⟩ y1).cell? ⟨w.heap.size+1,0,none⟩=some y1:=by
 have a0:=au h0 0 y0;have a1:=ar w2 (w.heap.size+1) w.heap.size 0 y0 _ _ (by omega) h1;have b0:=ar _ w.heap.size (w.heap.size+1) 0 y1 _ _ (by omega) a0;have b1:=au a1 0 y1;exact⟨(hb.setCell (p:=⟨w.heap.size,0,none⟩) (Zb _) _).setCell (p:=⟨w.heap.size+1,0,none⟩) (Nat.le_succ _) _,aa b0 (j:=0) rfl,aa b1 (j:=0) rfl⟩
def GG (l:List UInt8)(w:World)(e:Ending)(w':World):Prop:= ∃v,e =.returned (.tuple #[v,.nilIface])/\aq w' w.heap.size v l/\Below w.heap.size w w'
theorem ji (h:VW P w v j)(hT:cG w)(hG:ce w aU aE)(tx:Tx j)(sz:Sz j)(hl:(JV.txt j).length<=140737488355328):Calls Tryz.prog 11 #[v] w (GG (JV.txt j) w):=by
 have b2:∀ (fn:Fn) (first cap:Array Value) (w:World),(Instr.makeFunc fn first cap).run Tryz.prog w =.ok (.func fn first cap) w:=fun _ _ _ _=>rfl
 have a5:Below w.heap.size w ((w.alloc (.cells #[.slice none 0 0] 22)).alloc (.cells #[.nilIface] 40)):=((Ze _ _).alloc (Zb _) _).alloc (by simp) _;have h0:((w.alloc (.cells #[.slice none 0 0] 22)).alloc (.cells #[.nilIface] 40)).heap[w.heap.size]?=some (.cells #[.slice none 0 0] 22 (0,0)):=(Below.heap_alloc _ _ _ (by simp)).trans (Zf w _);have h1:((w.alloc (.cells #[.slice none 0 0] 22)).alloc (.cells #[.nilIface] 40)).heap[w.heap.size+1]?=some (.cells #[.nilIface] 40 (0,0)):=by
  have:=Zf (w.alloc (.cells #[.slice none 0 0] 22)) (.cells #[.nilIface] 40)
  rwa[World.size_alloc] at this
 have hz:((w.alloc (.cells #[.slice none 0 0] 22)).alloc (.cells #[.nilIface] 40)).heap.size=w.heap.size+2:=by simp
 have a2:=Qa a5;have H0:=Qa h0;have H1:=Qa h1;have Hz:=Qa hz;have a9:=Qa (fun w1 (hw:Below w.heap.size w w1)=>zO h hT tx w1 hw);have a3:=Qa (fun w1 (hw:Below w.heap.size w w1)=>CK (h.later hw) (hT.below hw) (hG.below hw) tx sz w1 (.slice none 0 0) [] (Ze _ _) (aq.nil _ _) (by simpa using hl));obtain⟨t1,x1,rfl⟩:=h.iface;clear a5 h0 h1 hz h hT hG tx sz hl;generalize JV.txt j=tl at *;go_enter_defers Tryz.func11,Tryz.ntmps11;go_wp2_with fail;generalize (w.alloc (.cells #[.slice none 0 0] 22)).alloc (.cells #[.nilIface] 40)=w1 at *;refine(a9.out w1 a2.out).mono ?_;rintro e w2 ⟨rfl,a0⟩;have a4:=Qa (a2.out.trans (a0.mono a2.out.size));have G0:=Qa (ai H0.out a0);have G1:=Qa (ai H1.out a0);have a6:=Qa (show w.heap.size+2<=w2.heap.size by have:=Hz.out;have:=a0.size;omega);clear a0;go_wp2_with fail;refine(a3.out w2 a4.out).mono ?_;rintro e w3 ⟨v,rfl,ho,a1⟩;rw[List.nil_append] at ho;have Ho:=Qa ho;have b1:=Qa (a4.out.trans (a1.mono a4.out.size));have g0:=ai G0.out a1;have g1:=ai G1.out a1;have G03:=Qa g0;have G13:=Qa g1;have c0:=aa g0 (j:=0) (u:=.slice none 0 0) rfl;have f0:=ak g0 0;have c1:=aa g1 (j:=0) (u:=.nilIface) rfl;have f1:=ak g1 0;obtain⟨A,q,rfl,-⟩:=ag ho;clear g0 g1 a1 ho;go_wp2_with fail;obtain⟨b0,d0,d1⟩:=qz G03.out G13.out b1.out (.slice A tl.length q) .nilIface;have a7:aq ((w3.setCell ⟨w.heap.size,0,none⟩ (.slice A tl.length q)).setCell ⟨w.heap.size+1,0,none⟩ .nilIface) w.heap.size (.slice A tl.length q) tl:=by
  have hz:=a6.out;have h1:=Ho.out.stayB (aZ.set w.heap.size 0 (.slice A tl.length q)) (fun b hb e=>by have:=(aq.blk Ho.out hb).1;omega);have h2:=h1.stayB (aZ.set (w.heap.size+1) 0 .nilIface) (fun b hb e=>by have:=(aq.blk h1 hb).1;omega);exact bV h2 (by omega)
 clear c0 c1 f0 f1;generalize (w3.setCell ⟨w.heap.size,0,none⟩ (.slice A tl.length q)).setCell ⟨w.heap.size+1,0,none⟩ .nilIface=w4 at *;refine leaves_cons (f:=31) (args:= #[.pointer (some ⟨w.heap.size,0,none⟩),.pointer (some ⟨w.heap.size+1,0,none⟩)]) (by simp) (by simp[go_sem]) ?_;refine(vW _ _ _).mono ?_;rintro e u' w'' ⟨rfl,rfl,rfl⟩;simp[Leaves,settle,results,Tryz.results11,go_sem,d0,d1];exact⟨_,rfl,a7,b0⟩
open Classical in
noncomputable def sW (a b:JV):Bool:=decide (a=b)
theorem cX {a b:JV}:sW a b=true↔a=b:=by unfold sW;simp
theorem jt {a b:JV}:sW a b=false↔a≠b:=by unfold sW;simp
theorem lz {α:Type}{l m:List α}{x:α}(h:l.take i=m.take i)(h1:l[i]?=some x)(h2:m[i]?=some x):l.take (i+1)=m.take (i+1):=by
 rw[List.take_add_one,List.take_add_one,h,h1,h2]
def IM (W:World)(ks ks':List JV)(s17:Value)(wr:World):Prop:= ∃i:Nat,s17 =.int .i64 i/\i<=ks.length/\ks.take i=ks'.take i/\Below W.heap.size W wr
theorem qS {B:Option Addr}(ha:de P w A us ks)(hb:de Q w B us' ks')(hT:cG w)(hr:r=true↔ks=ks')
  (H:∀ (i:Nat) u u' k k',us[i]?=some u->ks[i]?=some k->us'[i]?=some u'->ks'[i]?=some k'->∀w1,Below w.heap.size w w1->Calls Tryz.prog 25 #[u,u'] w1 fun e w'=>e =.returned (.bool (sW k k'))/\Below w1.heap.size w1 w') :
  Calls Tryz.prog 49 #[.iface 48 (.pointer A),.iface 48 (.pointer B)] w fun e w'=>e =.returned (.bool r)/\Below w.heap.size w w':=by
 have la:=ha.len;have lb:=hb.len;have hl:=ha.bd;have c5:=hb.bd;unfold maxLen at hl c5;have Ha:=Qa ha;have Hb:=Qa hb;have HT:=Qa hT;have HH:=Qa H;have Hr:=Qa hr;clear ha hb hT H hr;have Hl:=Qa (dR Ha.out);have b6:=Qa (dR Hb.out);have b5:=Qa la;have b9:=Qa lb;generalize hn:us.length=n at *;generalize hn':us'.length=n' at *;have Hn:=Qa hn;have c1:=Qa hn';clear hn hn' la lb
 by_cases hne:n=n'
 ·subst hne;go_enter Tryz.func49,Tryz.ntmps49;go_wp2_with fail;refine Za Hl ?_;rintro e w3 ⟨rfl,rfl⟩;go_wp2_with fail;refine Za b6 ?_;rintro e w3 ⟨rfl,rfl⟩;go_wp2_with fail;refine Za Hl ?_;rintro e w3 ⟨rfl,rfl⟩;go_wp2_with fail;clear Hl b6
  go_loopw [17] (fun s17 wr=>IM w ks ks' s17 wr) (fun s17 _=>n - (intOf s17).toNat)
  case atStart=>exact⟨0,rfl,Zk _,rfl,Ze _ _⟩
  case round=>
   obtain⟨i,rfl,c0,he,a0⟩:=hrel;have a1:=Qa a0;have He:=Qa he;have Hi:=Qa c0;clear he c0;have c3:=Qa (Ha.out.below a0);have c4:=Qa (Hb.out.below a0);have c2:=Qa (HT.out.below a0);clear a0
   by_cases h:i<n
   ·have b3:i<us.length:=by have:=Hn.out;omega
    have b2:i<us'.length:=by have:=c1.out;omega
    have b0:i<ks.length:=by have:=b5.out;have:=Hn.out;omega
    have b8:i<ks'.length:=by have:=b9.out;have:=c1.out;omega
    obtain⟨u,hu⟩:∃u,us[i]?=some u:=⟨_,Zd b3⟩;obtain⟨u',a9⟩:∃u,us'[i]?=some u:=⟨_,Zd b2⟩;obtain⟨k,hk⟩:∃u,ks[i]?=some u:=⟨_,Zd b0⟩;obtain⟨k',a6⟩:∃u,ks'[i]?=some u:=⟨_,Zd b8⟩;have Hp:=Qa (ew c3.out c2.out i hu);have Hq:=Qa (fun w5 (h:Below wr.heap.size wr w5)=>ew (c4.out.below h) (c2.out.below h) i a9);have Hc:=Qa (HH.out i u u' k k' hu hk a9 a6);have Hk:=Qa b0;have h':(i:Int)<n:=by omega
    have w1:IntKind.i64.wrap ((i:Int)+1)= (i:Int)+1:=IntWalk.i64_in _ (by omega)
    by_cases hkk:k=k'
    ·have Hs:=Qa (lz He.out hk (hkk▸a6));rw[cX.2 hkk] at Hc;clear b3 b2 b0 b8 hu a9 hk a6 He hkk;go_wp2_with fail;refine Za Hp ?_;rintro e w3 ⟨rfl,a2⟩;have a5:=Qa a2;have b1:=Qa (Hq.out w3 a2);clear a2;go_wp2_with fail;refine Za b1 ?_;rintro e w4 ⟨rfl,a4⟩;have a3:=Qa (a1.out.trans ((a5.out.trans (a4.mono a5.out.size)).mono a1.out.size));have b7:=Qa (Hc.out w4 a3.out);clear a4;go_wp2_with fail;refine Za b7 ?_;rintro e w5 ⟨rfl,a7⟩;have b4:=Qa (a3.out.trans (a7.mono a3.out.size));clear a7;go_wp2_with fail;refine⟨⟨i+1,rfl,Hk.out,Hs.out,b4.out⟩,?_⟩
     show n - ((i:Int)+1).toNat<n - ((i:Int)).toNat
     omega
    ·have Hs:Hid (r=false):=Qa (by
      rw[Bool.eq_false_iff];intro e;have:=Hr.out.1 e;rw[this,a6] at hk;exact hkk (Zi hk).symm)
     rw[jt.2 hkk] at Hc;clear b3 b2 b0 b8 hu a9 hk a6 He hkk;go_wp2_with fail;refine Za Hp ?_;rintro e w3 ⟨rfl,a2⟩;have a5:=Qa a2;have b1:=Qa (Hq.out w3 a2);clear a2;go_wp2_with fail;refine Za b1 ?_;rintro e w4 ⟨rfl,a4⟩;have a3:=Qa (a1.out.trans ((a5.out.trans (a4.mono a5.out.size)).mono a1.out.size));have b7:=Qa (Hc.out w4 a3.out);clear a4;go_wp2_with fail;refine Za b7 ?_;rintro e w5 ⟨rfl,a7⟩;have b4:=Qa (a3.out.trans (a7.mono a3.out.size));clear a7;go_wp2_with fail;go_ret;rw[Hs.out];exact⟨rfl,b4.out⟩
   ·have h':¬ (i:Int)<n:=by omega
    have Hs:Hid (r=true):=Qa (Hr.out.2 (by
     have h1:=He.out;have h2:=b5.out;have h3:=b9.out;have h4:=Hi.out
     rwa[List.take_of_length_le (by omega),List.take_of_length_le (by omega)] at h1))
    clear He;go_wp2_with fail;go_ret;rw[Hs.out];exact⟨rfl,a1.out⟩
 ·have Hs:Hid (r=false):=Qa (by
   rw[Bool.eq_false_iff];intro e;have:=Hr.out.1 e;subst this;exact hne (b5.out.trans b9.out.symm))
  have c6:((n:Int)==n')=false:=by simp only[beq_eq_false_iff_ne];omega
  clear hne Ha Hb Hr;go_enter Tryz.func49,Tryz.ntmps49;go_wp2_with fail;refine Za Hl ?_;rintro e w3 ⟨rfl,rfl⟩;go_wp2_with fail;refine Za b6 ?_;rintro e w3 ⟨rfl,rfl⟩;go_wp2_with fail;go_ret;rw[Hs.out];exact⟨rfl,Ze _ _⟩
def HF (W:World)(ns ns':List ByteArray)(ks ks':List JV)(s17:Value)(wr:World):Prop:= ∃i:Nat,s17 =.int .i64 i/\i<=ks.length/\(ns.take i=ns'.take i/\ks.take i=ks'.take i)/\Below W.heap.size W wr
theorem sY {B:Option Addr}(ha:eD P w A us ns ks)(hb:eD Q w B us' ns' ks')(hr:r=true↔ns=ns'/\ks=ks')
  (H:∀ (i:Nat) u u' k k',us[i]?=some u->ks[i]?=some k->us'[i]?=some u'->ks'[i]?=some k'->∀w1,Below w.heap.size w w1->Calls Tryz.prog 25 #[u,u'] w1 fun e w'=>e =.returned (.bool (sW k k'))/\Below w1.heap.size w1 w') :
  Calls Tryz.prog 49 #[.iface 116 (.pointer A),.iface 116 (.pointer B)] w fun e w'=>e =.returned (.bool r)/\Below w.heap.size w w':=by
 have la:=ha.len;have lb:=hb.len;have c4:=Qa ha.names;have c6:=Qa hb.names;have hl:=ha.bd;have d0:=hb.bd;unfold maxLen at hl d0;have Ha:=Qa ha;have Hb:=Qa hb;have HH:=Qa H;have Hr:=Qa hr;clear ha hb H hr;have Hl:=Qa (eN Ha.out);have c0:=Qa (eN Hb.out);have b9:=Qa la;have c2:=Qa lb;generalize hn:us.length=n at *;generalize hn':us'.length=n' at *;have Hn:=Qa hn;have c5:=Qa hn';clear hn hn' la lb
 by_cases hne:n=n'
 ·subst hne;go_enter Tryz.func49,Tryz.ntmps49;go_wp2_with fail;refine Za Hl ?_;rintro e w3 ⟨rfl,rfl⟩;go_wp2_with fail;refine Za c0 ?_;rintro e w3 ⟨rfl,rfl⟩;go_wp2_with fail;refine Za Hl ?_;rintro e w3 ⟨rfl,rfl⟩;go_wp2_with fail;clear Hl c0
  go_loopw [17] (fun s17 wr=>HF w ns ns' ks ks' s17 wr) (fun s17 _=>n - (intOf s17).toNat)
  case atStart=>exact⟨0,rfl,Zk _,⟨rfl,rfl⟩,Ze _ _⟩
  case round=>
   obtain⟨i,rfl,c3,he,a2⟩:=hrel;have a0:=Qa a2;have He:=Qa he;have Hi:=Qa c3;clear he c3;have c7:=Qa (Ha.out.below a2);have c8:=Qa (Hb.out.below a2);clear a2
   by_cases h:i<n
   ·have b6:i<us.length:=by have:=Hn.out;omega
    have b5:i<us'.length:=by have:=c5.out;omega
    have b1:i<ks.length:=by have:=b9.out;have:=Hn.out;omega
    have b7:i<ks'.length:=by have:=c2.out;have:=c5.out;omega
    obtain⟨u,hu⟩:∃u,us[i]?=some u:=⟨_,Zd b6⟩;obtain⟨u',b0⟩:∃u,us'[i]?=some u:=⟨_,Zd b5⟩;obtain⟨k,hk⟩:∃u,ks[i]?=some u:=⟨_,Zd b1⟩;obtain⟨k',a6⟩:∃u,ks'[i]?=some u:=⟨_,Zd b7⟩;have b3:i<ns.length:=by have:=c4.out;omega
    have b4:i<ns'.length:=by have:=c6.out;omega
    obtain⟨s,hs⟩:∃u,ns[i]?=some u:=⟨_,Zd b3⟩;obtain⟨s',a7⟩:∃u,ns'[i]?=some u:=⟨_,Zd b4⟩;have Hp:=Qa (fe c7.out i hu hs);have Hq:=Qa (fun w5 (h:Below wr.heap.size wr w5)=>fe (c8.out.below h) i b0 a7);have Hc:=Qa (HH.out i u u' k k' hu hk b0 a6);have Hk:=Qa b1;have h':(i:Int)<n:=by omega
    have w1:IntKind.i64.wrap ((i:Int)+1)= (i:Int)+1:=IntWalk.i64_in _ (by omega)
    by_cases hss:s=s'
    ·subst hss
     by_cases hkk:k=k'
     ·have Hs:=Qa (And.intro (lz He.out.1 hs a7) (lz He.out.2 hk (hkk▸a6)));rw[cX.2 hkk] at Hc;clear b6 b5 b1 b7 hu b0 hk a6 hs a7 b3 b4 He hkk;go_wp2_with fail;refine Za Hp ?_;rintro e w3 ⟨rfl,a1⟩;have a5:=Qa a1;have a9:=Qa (Hq.out w3 a1);clear a1;go_wp2_with fail;refine Za a9 ?_;rintro e w4 ⟨rfl,a4⟩;have a3:=Qa (a0.out.trans ((a5.out.trans (a4.mono a5.out.size)).mono a0.out.size));have c1:=Qa (Hc.out w4 a3.out);clear a4;go_wp2_with fail;refine Za c1 ?_;rintro e w5 ⟨rfl,b2⟩;have b8:=Qa (a3.out.trans (b2.mono a3.out.size));clear b2;go_wp2_with fail;refine⟨⟨i+1,rfl,Hk.out,Hs.out,b8.out⟩,?_⟩
      show n - ((i:Int)+1).toNat<n - ((i:Int)).toNat
      omega
     ·have Hs:Hid (r=false):=Qa (by
       rw[Bool.eq_false_iff];intro e;have:=Hr.out.1 e;rw[this.2,a6] at hk;exact hkk (Zi hk).symm)
      rw[jt.2 hkk] at Hc;clear b6 b5 b1 b7 hu b0 hk a6 hs a7 b3 b4 He hkk;go_wp2_with fail;refine Za Hp ?_;rintro e w3 ⟨rfl,a1⟩;have a5:=Qa a1;have a9:=Qa (Hq.out w3 a1);clear a1;go_wp2_with fail;refine Za a9 ?_;rintro e w4 ⟨rfl,a4⟩;have a3:=Qa (a0.out.trans ((a5.out.trans (a4.mono a5.out.size)).mono a0.out.size));have c1:=Qa (Hc.out w4 a3.out);clear a4;go_wp2_with fail;refine Za c1 ?_;rintro e w5 ⟨rfl,b2⟩;have b8:=Qa (a3.out.trans (b2.mono a3.out.size));clear b2;go_wp2_with fail;go_ret;rw[Hs.out];exact⟨rfl,b8.out⟩
    ·have Hs:Hid (r=false):=Qa (by
      rw[Bool.eq_false_iff];intro e;have:=Hr.out.1 e;rw[this.1,a7] at hs;exact hss (Zi hs).symm)
     have c9:(s.toList==s'.toList)=false:=by
      simp only[beq_eq_false_iff_ne,ByteArray.toList_eq];intro e;apply hss
      cases s with|mk a=>cases s' with|mk b=>simp only at e;rw[Array.toList_inj.1 e]
     clear b6 b5 b1 b7 hu b0 hk a6 hs a7 b3 b4 He hss;go_wp2_with fail;refine Za Hp ?_;rintro e w3 ⟨rfl,a1⟩;have a5:=Qa a1;have a9:=Qa (Hq.out w3 a1);clear a1;go_wp2_with fail;refine Za a9 ?_;rintro e w4 ⟨rfl,a4⟩;have a3:=Qa (a0.out.trans ((a5.out.trans (a4.mono a5.out.size)).mono a0.out.size));clear a4;go_wp2_with fail;go_ret;rw[Hs.out];exact⟨rfl,a3.out⟩
   ·have h':¬ (i:Int)<n:=by omega
    have Hs:Hid (r=true):=Qa (Hr.out.2 (by
     have h1:=He.out;have h2:=b9.out;have h3:=c2.out;have h4:=Hi.out;have h5:=c4.out;have h6:=c6.out
     rwa[List.take_of_length_le (by omega),List.take_of_length_le (by omega),List.take_of_length_le (by omega),List.take_of_length_le (by omega)] at h1))
    clear He;go_wp2_with fail;go_ret;rw[Hs.out];exact⟨rfl,a0.out⟩
 ·have Hs:Hid (r=false):=Qa (by
   rw[Bool.eq_false_iff];intro e;have:=(Hr.out.1 e).2;subst this;exact hne (b9.out.trans c2.out.symm))
  have c9:((n:Int)==n')=false:=by simp only[beq_eq_false_iff_ne];omega
  clear hne Ha Hb Hr;go_enter Tryz.func49,Tryz.ntmps49;go_wp2_with fail;refine Za Hl ?_;rintro e w3 ⟨rfl,rfl⟩;go_wp2_with fail;refine Za c0 ?_;rintro e w3 ⟨rfl,rfl⟩;go_wp2_with fail;go_ret;rw[Hs.out];exact⟨rfl,Ze _ _⟩
theorem ED (hr:∀W,(binOp .eql 32 (.iface 49 (.agg #[])) (.iface 49 (.agg #[]))).run Tryz.prog W =.ok (.bool r) W):Calls Tryz.prog 25 #[.iface 49 (.agg #[]),.iface 49 (.agg #[])] w fun e w'=>e =.returned (.bool r)/\Below w.heap.size w w':=by
 have k1:=iE;go_enter Tryz.func25,Tryz.ntmps25;go_wp2_with fail;refine gP.mono ?_;rintro e w1 ⟨rfl,a1⟩;have a0:=Qa a1;clear a1;go_wp2_with fail;refine gP.mono ?_;rintro e w2 ⟨rfl,a2⟩;have a3:=Qa (a0.out.trans (a2.mono a0.out.size));clear a2;go_wp2_with fail;go_ret;exact⟨rfl,a3.out⟩
theorem FM (hr:∀W,(binOp .eql 32 (.iface 45 (.agg #[])) (.iface 45 (.agg #[]))).run Tryz.prog W =.ok (.bool r) W):Calls Tryz.prog 25 #[.iface 45 (.agg #[]),.iface 45 (.agg #[])] w fun e w'=>e =.returned (.bool r)/\Below w.heap.size w w':=by
 have k1:=lJ;go_enter Tryz.func25,Tryz.ntmps25;go_wp2_with fail;refine gV.mono ?_;rintro e w1 ⟨rfl,a1⟩;have a0:=Qa a1;clear a1;go_wp2_with fail;refine gV.mono ?_;rintro e w2 ⟨rfl,a2⟩;have a3:=Qa (a0.out.trans (a2.mono a0.out.size));clear a2;go_wp2_with fail;go_ret;exact⟨rfl,a3.out⟩
theorem Fb (a b:Bool)(hr:∀W,(binOp .eql 32 (.iface 50 (.bool a)) (.iface 50 (.bool b))).run Tryz.prog W =.ok (.bool r) W):Calls Tryz.prog 25 #[.iface 50 (.bool a),.iface 50 (.bool b)] w fun e w'=>e =.returned (.bool r)/\Below w.heap.size w w':=by
 have k1:=mj;go_enter Tryz.func25,Tryz.ntmps25;go_wp2_with fail;refine gD.mono ?_;rintro e w1 ⟨rfl,a1⟩;have a0:=Qa a1;clear a1;go_wp2_with fail;refine gD.mono ?_;rintro e w2 ⟨rfl,a2⟩;have a3:=Qa (a0.out.trans (a2.mono a0.out.size));clear a2;go_wp2_with fail;go_ret;exact⟨rfl,a3.out⟩
theorem EC (a b:ByteArray)(hr:∀W,(binOp .eql 32 (.iface 51 (.string a)) (.iface 51 (.string b))).run Tryz.prog W =.ok (.bool r) W):Calls Tryz.prog 25 #[.iface 51 (.string a),.iface 51 (.string b)] w fun e w'=>e =.returned (.bool r)/\Below w.heap.size w w':=by
 have k1:=lM;go_enter Tryz.func25,Tryz.ntmps25;go_wp2_with fail;refine gT.mono ?_;rintro e w1 ⟨rfl,a1⟩;have a0:=Qa a1;clear a1;go_wp2_with fail;refine gT.mono ?_;rintro e w2 ⟨rfl,a2⟩;have a3:=Qa (a0.out.trans (a2.mono a0.out.size));clear a2;go_wp2_with fail;go_ret;exact⟨rfl,a3.out⟩
theorem GA (a b:Dc)(hr:∀W,(binOp .eql 32 (.iface 113 (.agg #[.bool a.neg,.string a.digits,.int .i64 a.exp])) (.iface 113 (.agg #[.bool b.neg,.string b.digits,.int .i64 b.exp]))).run Tryz.prog W =.ok (.bool r) W):Calls Tryz.prog 25 #[.iface 113 (.agg #[.bool a.neg,.string a.digits,.int .i64 a.exp]),.iface 113 (.agg #[.bool b.neg,.string b.digits,.int .i64 b.exp])] w fun e w'=>e =.returned (.bool r)/\Below w.heap.size w w':=by
 have k1:=mZ;go_enter Tryz.func25,Tryz.ntmps25;go_wp2_with fail;refine iP.mono ?_;rintro e w1 ⟨rfl,a1⟩;have a0:=Qa a1;clear a1;go_wp2_with fail;refine iP.mono ?_;rintro e w2 ⟨rfl,a2⟩;have a3:=Qa (a0.out.trans (a2.mono a0.out.size));clear a2;go_wp2_with fail;go_ret;exact⟨rfl,a3.out⟩
theorem EO {B:Option Addr}(HP:∀w1,Below w.heap.size w w1->Calls Tryz.prog 49 #[.iface 48 (.pointer A),.iface 48 (.pointer B)] w1 fun e w'=>e =.returned (.bool r)/\Below w1.heap.size w1 w'):Calls Tryz.prog 25 #[.iface 48 (.pointer A),.iface 48 (.pointer B)] w fun e w'=>e =.returned (.bool r)/\Below w.heap.size w w':=by
 have k4:=iL;have k5:=l8;have HL:=Qa HP;clear HP;go_enter Tryz.func25,Tryz.ntmps25;go_wp2_with fail;refine et.mono ?_;rintro e w1 ⟨rfl,a4⟩;have a1:=Qa a4;clear a4;go_wp2_with fail;refine et.mono ?_;rintro e w2 ⟨rfl,a2⟩;have a0:=Qa (a1.out.trans (a2.mono a1.out.size));clear a2;go_wp2_with fail;refine(HL.out w2 a0.out).mono ?_;rintro e w4 ⟨rfl,a3⟩;have a5:=Qa (a0.out.trans (a3.mono a0.out.size));clear a3;go_wp2_with fail;go_ret;exact⟨rfl,a5.out⟩
theorem Ie {B:Option Addr}(HP:∀w1,Below w.heap.size w w1->Calls Tryz.prog 49 #[.iface 116 (.pointer A),.iface 116 (.pointer B)] w1 fun e w'=>e =.returned (.bool r)/\Below w1.heap.size w1 w'):Calls Tryz.prog 25 #[.iface 116 (.pointer A),.iface 116 (.pointer B)] w fun e w'=>e =.returned (.bool r)/\Below w.heap.size w w':=by
 have k4:=kc;have k5:=nz;have HL:=Qa HP;clear HP;go_enter Tryz.func25,Tryz.ntmps25;go_wp2_with fail;refine gE.mono ?_;rintro e w1 ⟨rfl,a4⟩;have a1:=Qa a4;clear a4;go_wp2_with fail;refine gE.mono ?_;rintro e w2 ⟨rfl,a2⟩;have a0:=Qa (a1.out.trans (a2.mono a1.out.size));clear a2;go_wp2_with fail;refine(HL.out w2 a0.out).mono ?_;rintro e w4 ⟨rfl,a3⟩;have a5:=Qa (a0.out.trans (a3.mono a0.out.size));clear a3;go_wp2_with fail;go_ret;exact⟨rfl,a5.out⟩
theorem Ek {c:Int}(h:dF c=true):(cJ c).length<=6* (bE c).length:=by
 have h1:1<=(bE c).length:=by rcases hl:bE c with _|⟨x,l⟩;exact absurd hl (nY h);simp
 unfold cJ
 repeat' split
 all_goals first|(simp only[List.length_cons,List.length_nil];omega)|omega
theorem vc {s:ByteArray}(h:du s):(ea s).length<=6*s.size+2:=by
 have hn:=h.nm;have key:∀cs:List Int,(∀c∈cs,dF c=true)->(cs.flatMap cJ).length<=6* (cs.flatMap bE).length:=by
  intro cs
  induction cs with
  |nil=>intro _;simp
  |cons c cs ih=>
   intro hc;have h1:=Ek (hc c (by simp));have h2:=ih (fun c h=>hc c (Zm _ h));rw[List.flatMap_cons,List.flatMap_cons,List.length_append,List.length_append];omega
 have h1:=key _ hn.1;rw[hn.2] at h1;have h2:s.data.toList.length=s.size:=by simp
 unfold ea lx;rw[List.length_cons,List.length_append];simp only[List.length_cons,List.length_nil];omega
theorem BN {x:Int}(h: -1000000000<=x/\x<=1000000000):(fJ x).length<=12:=by
 unfold fJ
 split
 ·simp
 ·rcases Int.lt_or_le x 0 with hn|hn
  ·obtain⟨m,rfl⟩:∃m:Nat,x = -(m:Int):=⟨x.natAbs,by omega⟩;rw[Lib.itoa_neg m (by omega)];have:=gg (u:=m) (by omega);simp;omega
  ·obtain⟨m,rfl⟩:∃m:Nat,x= (m:Int):=⟨x.natAbs,by omega⟩;rw[Lib.itoa_nonneg m];have:=gg (u:=m) (by omega);simp;omega
inductive Eu (L:Nat):JV->Prop
 |null:Eu L jK
 |bool (b:Bool):Eu L (fm b)
 |num (d:Dc):d.digits.size<=L+1-> -1000000000<=d.exp/\d.exp<=1000000000->Eu L (dW d)
 |text (s:ByteArray):du s->s.size<=L->Eu L (eQ s)
 |list (ks:List JV):(∀u∈ks,Eu L u)->Eu L (dJ ks)
 |obj (ns:List ByteArray) (ks:List JV):ns.length=ks.length->(∀s∈ns,du s/\s.size<=L)->(∀u∈ks,Eu L u)->Eu L (.mk 6 false ⟨#[]⟩ ⟨false,⟨#[]⟩,0⟩ ns ks)
theorem uA {L:Nat}(h:∀u∈ks,(u.txt).length+6*L+10<=u.size* (12*L+40))(o:Bool):∀ (first:Bool) (ns:List ByteArray),ns.length=ks.length\/o=false->(∀s∈ns,du s/\s.size<=L)->(JV.txts o first ns ks).length<=JV.sizes ks* (12*L+40):=by
 induction ks with
 |nil=>intro first ns _ _;simp[JV.txts]
 |cons v vs ih=>
  intro first ns hl hs;have h1:=h v (by simp);have a0:∀s∈ns.tail,du s/\s.size<=L:=fun s h=>hs s (List.mem_of_mem_tail h)
  have h2:=ih (fun u hu=>h u (Zm _ hu)) false ns.tail (hl.imp (fun e=>by cases ns <;> simp at e ⊢;omega) id) a0;simp only[JV.txts,JV.sizes,List.length_append];have h3:(if first then([]:List UInt8) else [44]).length<=1:=by cases first <;> simp
  have h4:(if o then ea (ns.headD ⟨#[]⟩) ++ [58] else []).length<=6*L+3:=by
   cases o with
   |false=>simp
   |true=>
    cases ns with
    |nil=>simp at hl
    |cons a ns=>
     obtain⟨q1,q2⟩:=hs a (by simp);have:=vc q1;simp only[if_true,List.headD_cons,List.length_append,List.length_cons,List.length_nil];omega
  rw[Nat.add_mul];omega
theorem Eu.len {L:Nat}(h:Eu L j):j.txt.length+6*L+10<=j.size* (12*L+40):=by
 induction h with
 |null=>simp[jK,JV.txt,JV.size,JV.sizes];omega
 |bool b=>cases b <;> simp[fm,JV.txt,JV.size,JV.sizes] <;> omega
 |num d h1 h2=>
  have:=BN h2;have e:(dW d).txt=eT d:=by simp[dW,JV.txt]
  have e2:(dW d).size=1:=by simp[dW,JV.size,JV.sizes]
  have e3:d.digits.data.toList.length=d.digits.size:=by simp
  rw[e,e2];unfold eT;rw[List.length_append,List.length_append,e3];have e4:(if d.neg then [45] else([]:List UInt8)).length<=1:=by split <;> simp
  omega
 |text s h1 h2=>
  have:=vc h1;have e:(eQ s).txt=ea s:=by simp[eQ,JV.txt]
  have e2:(eQ s).size=1:=by simp[eQ,JV.size,JV.sizes]
  rw[e,e2];omega
 |list ks _ ih=>
  have h1:=uA ih false true [] (.inr rfl) (by simp);have e:(dJ ks).txt.length= (JV.txts false true [] ks).length+2:=by simp[dJ,JV.txt]
  have e2:(dJ ks).size=1+JV.sizes ks:=by simp[dJ,JV.size]
  rw[e,e2,Nat.add_mul];omega
 |obj ns ks hl hs _ ih=>
  have h1:=uA ih true true ns (.inl hl) hs;have e:(JV.mk 6 false ⟨#[]⟩ ⟨false,⟨#[]⟩,0⟩ ns ks).txt.length= (JV.txts true true ns ks).length+2:=by simp[JV.txt]
  have e2:(JV.mk 6 false ⟨#[]⟩ ⟨false,⟨#[]⟩,0⟩ ns ks).size=1+JV.sizes ks:=by simp[JV.size]
  rw[e,e2,Nat.add_mul];omega
theorem D5 (h:up d):jM d:=by
 rcases h with rfl|⟨h0,hd,hf,hl,h1,h2⟩
 ·exact .inl rfl
 ·have hz:d.digits.data.toList.length=d.digits.size:=Array.length_toList;refine .inr ⟨⟨fun c hc=>?_,fun e=>?_,fun c hc=>?_,fun c hc=>?_⟩,h1,h2⟩
  ·obtain⟨i,hi,rfl⟩:=List.getElem_of_mem hc;have:=hd i (by omega);unfold eG;exact decide_eq_true this
  ·rw[e] at hz;simp at hz;omega
  ·rw[List.head?_eq_getElem?,Zd (by omega)] at hc;rw[<-Zi hc];exact fun e=>hf h0 (congrArg UInt8.toNat e)
  ·rw[List.getLast?_eq_getElem?,Zd (by omega)] at hc;rw[<-Zi hc];intro e;have:=congrArg UInt8.toNat e;simp only[hz] at this;exact hl (by omega) this
def Et (b:Nat)(s:ByteArray):Prop:=s.size<=b
theorem Ok.imp {h:Prop}{T U:ByteArray->Prop}(hT:∀s,T s->U s)(g:Ok h T j):Ok h U j:=by
 induction g with
 |null=>exact .null
 |bool b=>exact .bool b
 |num d hd hn=>exact .num d hd hn
 |text s hs=>exact .text s (hT s hs)
 |hole e=>exact .hole e
 |list ks _ ih=>exact .list ks ih
 |obj ns ks h1 h2 h3 _ ih=>exact .obj ns ks h1 h2 h3 ih
theorem Ok.sits {h:Prop}{T:ByteArray->Prop}{v:JV}{a:Nat}(hs:dV v p a x0):Ok h T v->Ok h T x0:=by
 induction hs with
 |here v p=>exact id
 | @down k t x n ns pre post u0 p a x0 hs ih=>
  intro g;refine ih ?_;generalize hl:pre++u0::post=l at g
  cases g with
  |null=>simp at hl
  |bool b=>simp at hl
  |num d hd hn=>simp at hl
  |text s hs=>simp at hl
  |hole e=>simp at hl
  |list ks hks=>subst hl;exact hks u0 (by simp)
  |obj ns' ks h1 h2 h3 hks=>subst hl;exact hks u0 (by simp)
theorem EG {b:Nat}{nd:Nd}(hn:(j.flat 0)[m]?=some nd)(hk:nd.kind=4)(a2:Ok True (Et b) j):nd.text.size<=b/\∃j':JV,j'.size=j.size/\Ok True (Et (b+1)) j'/\j'.flat 0= (j.flat 0).set m {nd with text:=nd.text++ ⟨#[255]⟩}:=by
 have hm:m<j.size:=by have:=(List.getElem?_eq_some_iff.1 hn).1;rwa[JV.flat_len] at this
 obtain⟨x0,hs⟩:=yx j 0 m (Zk _) (by omega);have hx:=a2.sits hs;obtain⟨k,t,x,d,ns,ks⟩:=x0;have a0:=hs.node;rw[Nat.sub_zero,hn] at a0;obtain rfl:=Zi a0;simp only at hk;subst hk
 cases hx with
 |text s hsz=>
  refine⟨hsz,?_⟩;obtain⟨j',a1⟩:=vB.of_sits hs (.mk 4 false (x++ ⟨#[255]⟩) j8 [] []);have e1:=a1.size;obtain⟨A,B,h1,h2,h3⟩:=a1.flat;have hz:∀y:ByteArray,(JV.mk 4 false y j8 [] []).size=1:=fun y=>by simp[JV.size,JV.sizes]
  have a3:∀y:ByteArray,(JV.mk 4 false y j8 [] []).flat m = [⟨4,false,y,j8, [], []⟩]:=fun y=>by simp[JV.flat,aV,JV.flats]
  rw[hz,hz] at e1 h3;rw[a3] at h1 h3;have a4:mx (m+1) 1 1=id:=by funext q;unfold mx;simp only[id];split <;> omega
  have a5:Nd.mv (id:Nat->Nat)=id:=by funext y;simp[Nd.mv]
  rw[a4,a5,List.map_id,List.map_id] at h3;refine⟨j',by omega,Ok.put a1 (a2.imp fun s h=>Nat.le_succ_of_le h) (.text _ ?_),?_⟩
  ·have:Et b x:=hsz;unfold Et at *;rw[ByteArray.size_append]
   show x.size+1<=b+1
   omega
  ·rw[h3,h1];have hA:A.length=m:=by omega
   rw[List.append_assoc,List.append_assoc,List.set_append_right _ _ (by omega),hA,Nat.sub_self];simp[aV]
theorem lO (u:Value):∀ (us:List (List Value)) (i j:Nat) (x:List Value),(∀y∈us,y.length=n)->j<n->us[i]?=some x->us.flatten.set (i*n+j) u= (us.set i (x.set j u)).flatten
 | [],_,_,_,_,_,h=>by simp at h
 |a::l,0,j,x,hl,hj,h=>by
  simp at h;subst h;have:=hl a (by simp);rw[List.flatten_cons,List.set_append_left _ _ (by omega)];simp
 |a::l,i+1,j,x,hl,hj,h=>by
  have ha:=hl a (by simp);rw[List.flatten_cons,List.set_append_right _ _ (by rw[ha,Nat.succ_mul];omega),ha,show(i+1)*n+j - n=i*n+j by rw[Nat.succ_mul];omega,lO u l i j x (fun y hy=>hl y (Zm _ hy)) hj (by simpa using h)];simp
theorem bo.set {α β:Type}{R:α->β->Prop}{l:List α}{m:List β}(h:bo R l m)(k:Nat){a:α}{b:β}(hr:R a b):bo R (l.set k a) (m.set k b):=by
 refine⟨by simp[h.1],fun i x y h1 h2=>?_⟩;rw[List.getElem?_set] at h1 h2
 by_cases hki:k=i
 ·rw[if_pos hki] at h1 h2
  split at h1
  ·split at h2
   ·cases h1;cases h2;exact hr
   ·cases h2
  ·cases h1
 ·rw[if_neg hki] at h1 h2;exact h.2 i x y h1 h2
theorem bj.setText {ns:List Nd}{nd:Nd}(s':ByteArray)(h:bj P w base (.slice (some ⟨gt,0,none⟩) n cap) ns)(hm:ns[m]?=some nd):bj P (w.setCell ⟨gt,m*8+2,none⟩ (.string s')) base (.slice (some ⟨gt,0,none⟩) n cap) (ns.set m {nd with text:=s'})/\w.frozen? ⟨gt,m*8+2,none⟩=false/\lV w gt 70/\base<=gt:=by
 obtain⟨us,h1,h2,h3⟩:=h;have hn:n=ns.length:=by
  rcases bN h1 with ⟨e,_⟩|⟨_,_,e,_⟩
  ·cases e
  ·injection e
 subst hn;obtain⟨u0,a0,vn,vk,rfl,hs,hk⟩:=h2.get hm;obtain⟨s1,s2⟩:=World.ownsRow.stored h1 (m*8+2) (.string s');have ht:=cj h1;rw[lO (n:=8) (.string s') us m 2 _ h2.lens (by decide) a0] at s1;have e:(ay nd vn vk).set 2 (.string s')=ay {nd with text:=s'} vn vk:=rfl;rw[e] at s1;refine⟨⟨us.set m (ay {nd with text:=s'} vn vk),by rw[List.length_set];exact s1,(h2.mono fun _ _ h=>fj s2 ht h).set m ?_,fun u hu g e=>?_⟩,World.ownsRow.frozenAt h1 _,ht gt rfl,(aj h1 rfl).1⟩
 ·exact fj s2 ht ⟨vn,vk,rfl,hs,hk⟩
 ·rcases List.mem_or_eq_of_mem_set hu with hu|rfl
  ·exact h3 u hu g e
  ·exact h3 _ (Zl a0) g (by simpa [ay] using e)
