import Derived.Test.YthknekoamnnhhaaGreatDoorGZ5af
set_option linter.unusedVariables false
set_option linter.unusedSimpArgs false
set_option maxHeartbeats 64000000
set_option maxRecDepth 100000
namespace Go.Proofs.YthknekoamnnhhaaGreatDoor
open Go.RowKit
variable {c4:Int}{ns:List ByteArray}{ts:List JV}{so:List Nat}{xs:List UInt8}{us vs:List Value}{B at4 at_ i k1 k2 k4 n q rb:Nat}{A:Option Addr}{v:Value}{W W' W2 w w1 w2:World}
theorem nj:dE 38 28 (.slice none 0 0) 1 24:=⟨Tryz.underlying38,by kernel_rfl,rfl,by decide⟩
theorem mt {t:JV}(h:t∈ts):t.size<=JV.sizes ts:=by
 obtain⟨i,hi,rfl⟩:=List.getElem_of_mem h;have:=kh (Zc hi);omega
def zM (asc:List ByteArray->Prop)(xs:List UInt8)(rb:Nat)(w:World)(at_:Nat)(e:Nat)(s5:Value)(wx:World):Prop:= ∃ (A:Option Addr) (n q:Nat) (vs:List Value) (ts:List JV) (at' k':Nat) (c:Int),s5 =.slice A n q/\wx.ownsRow w.heap.size 28 1 (.slice A n q) n vs/\n<=at'/\Rd xs rb wx at' k' c/\Rk rb w wx/\at_<=at'/\
 (c=0->(∀u∈ts,cK asc u)/\bB (fun v ns=>dI wx rb v ns) vs (ts.map (JV.flat 0))/\JV.sizes ts+at_<=at'/\k'+e<=at')
theorem Rd.grownTree {k:Nat}{c:Int}(h:Rd xs rb W at_ k c)(hv:W.ownsRow B 28 1 v n vs)(hB:rb<B)(a9:B<=W.heap.size)(hg:W.grownBy W' v.ownBlock):Rd xs rb W' at_ k c:=by
 have hlt:=h.lt;have hb:Below B W W':=aL (Zd B W) hv a9 hg;obtain⟨a1,a2,a3,a4,a5,a6,a7,L,m,hh,l,us,w0,h1,h2,h3,h4,h5,h6⟩:=h;refine⟨a1,a2,a3,a4,a5,a6,a7,L,m,hh,l,us,w0,(hb.block rb hB).trans h1,h2,h3,h4.trans (hb.mono (Zi hB)),World.ownsRow.kept h5 hg ?_,h6⟩
 cases hb:(Value.slice a3 k a4).ownBlock with
 |none=>exact .inl rfl
 |some x=>
  obtain⟨_,cur,hx⟩:=al h5 hb;refine .inr (fun e=>?_);obtain⟨_,cur2,a0⟩:=al hv e.symm;rw[hx] at a0;injection a0 with a0;injection a0 with _ a0;exact absurd a0 (by decide)
theorem Rk.grownFresh (h:Rk rb w W){row:Option Nat}(hg:W.grownBy W' row)(hr:∀g,row=some g->w.heap.size<=g)(hrb:rb<=w.heap.size):Rk rb w W':=
 ⟨h.1.grown hg (Zb hrb h.2.1) (fun g e=>Zb hrb (hr g e)),Zb h.2.1 hg.size,fun g cs e z hh he=>by
  have hlt:=ae hh;have:=h.2.2 g cs e z hh he;exact(hg.block g (ae this) (fun e'=>by have:=hr g e'.symm;omega)).trans this⟩
def LS (asc:List ByteArray->Prop)(xs:List UInt8)(rb:Nat)(w:World)(at_ tb lo:Nat)(p:Prop)(at' k':Nat)(c:Int)(s5:Value)(t:Tk)(wx:World):Prop:= ∃ (A:Option Addr) (n q:Nat) (vs:List Value) (ts:List JV),s5 =.slice A n q/\wx.ownsRow w.heap.size 28 1 (.slice A n q) n vs/\(n<=lo/\lo<=at')/\Rd xs rb wx at' k' c/\Rk rb w wx/\at_<=lo/\
 wx.heap[tb]?=some (.cells (eJ t) 205 (0,0))/\w.heap.size<=tb/\rb<w.heap.size/\(p->(∀u∈ts,cK asc u)/\bB (fun v ns=>dI wx rb v ns) vs (ts.map (JV.flat 0))/\JV.sizes ts+at_<=lo)
section
variable {asc:List ByteArray->Prop}{xs:List UInt8}{rb:Nat}{w wx:World}{at_ tb lo at' k':Nat}{p:Prop}{c:Int}{s5:Value}{t:Tk}
theorem LS.rd (h:LS asc xs rb w at_ tb lo p at' k' c s5 t wx):Rd xs rb wx at' k' c:=by obtain⟨_,_,_,_,_,_,_,_,h,_⟩:=h;exact h
theorem LS.shape (h:LS asc xs rb w at_ tb lo p at' k' c s5 t wx):∃A n q,s5 =.slice A n q:=by obtain⟨A,n,q,_,_,h,_⟩:=h;exact⟨A,n,q,h⟩
theorem Rd.kle {k:Nat}(h:Rd xs rb w at_ k c):k<=at_:=by obtain⟨_,_,_,_,_,_,_,_,_,_,_,_,_,_,_,_,_,_,_,h⟩:=h;exact h
theorem Rd.atle {k:Nat}(h:Rd xs rb w at_ k c):at_<=xs.length:=by obtain⟨_,_,_,_,_,_,_,_,_,_,_,_,_,_,_,_,_,_,h,_⟩:=h;exact h
theorem Rd.mu_lt {iO kH:Nat}{c2:Int}(h1:Rd xs rb w1 iO k1 0)(h2:Rd xs rb w2 kH k2 c2)(h:iO+1<=kH):mL xs.length rb w2<mL xs.length rb w1:=by
 rw[h1.mu,h2.mu];have:=h2.atle;split <;> simp <;> omega
theorem LS.tok (h:LS asc xs rb w at_ tb lo p at' k' c s5 t wx):wx.heap[tb]?=some (.cells (eJ t) 205 (0,0)):=by obtain⟨_,_,_,_,_,_,_,_,_,_,_,h,_⟩:=h;exact h
theorem LS.step {kH:Nat}{c2:Int}(h:LS asc xs rb w at_ tb lo p at' k' c s5 t wx)(hR:Rd xs rb w2 kH k2 c2)(hk:Rk rb wx w2)(hat:at'<=kH):LS asc xs rb w at_ tb lo p kH k2 c2 s5 t w2:=by
 obtain⟨A,n,q,vs,ts,rfl,h1,h2,h3,h4,h5,h6,h7,h8,h9⟩:=h;refine⟨A,n,q,vs,ts,rfl,ao h1 hk.2 (by unfold TR;decide),⟨h2.1,by omega⟩,hR,h4.trans hk,h5,hk.row h6 cM,h7,h8,fun e=>?_⟩;obtain⟨g1,g2,g3⟩:=h9 e;exact⟨g1,g2.mono fun _ _ h=>h.keeps hk.2 ij lk lg,g3⟩
theorem LS.put (h:LS asc xs rb w at_ tb lo p at' k' c s5 t wx)(t2:Tk):LS asc xs rb w at_ tb lo p at' k' c s5 t2 (wx.setRow tb (eJ t2)):=by
 obtain⟨A,n,q,vs,ts,rfl,h1,h2,h3,h4,h5,h6,h7,h8,h9⟩:=h;have a0:aJ (fun e=>e=205) wx (wx.setRow tb (eJ t2)):=aJ.of_grown (ai ..) (fun g e cs T z hh=>by cases e;rw[h6] at hh;injection hh with hh;injection hh with _ hh;exact hh.symm);refine⟨A,n,q,vs,ts,rfl,ao h1 a0 (by decide),h2,h3.other h6 cM (by omega) _,h4.fresh h7 (Zi h8) _,h5,setRow_heap _ _ _ _ _ _ h6,h7,h8,fun e=>?_⟩;obtain⟨g1,g2,g3⟩:=h9 e;exact⟨g1,g2.mono fun _ _ h=>h.keeps a0 (by decide) (by decide) (by decide),g3⟩
theorem LS.below (h:LS asc xs rb w at_ tb lo p at' k' c s5 t wx)(hb:Below wx.heap.size wx w2):LS asc xs rb w at_ tb lo p at' k' c s5 t w2:=
 h.step (h.rd.below hb) (Rk.of_below hb (Zi h.rd.lt)) (Za _)
theorem LS.open (h:LS asc xs rb w at_ tb lo p at' k' c (.slice A n q) t wx):∃vs ts,wx.ownsRow w.heap.size 28 1 (.slice A n q) n vs/\n<=lo/\(p->(∀u∈ts,cK asc u)/\bB (fun v ns=>dI wx rb v ns) vs (ts.map (JV.flat 0))/\JV.sizes ts+at_<=lo):=by
 obtain⟨_,_,_,vs,ts,e,h1,h2,_,_,_,_,_,_,h9⟩:=h;injection e with e1 e2 e3
 subst e1 e2 e3;exact⟨vs,ts,h1,h2.1,h9⟩
theorem LS.rk (h:LS asc xs rb w at_ tb lo p at' k' c s5 t wx):Rk rb w wx/\at_<=lo/\lo<=at'/\w.heap.size<=tb/\rb<w.heap.size:=by
 obtain⟨_,_,_,vs,ts,e,h1,h2,_,h4,h5,h6,h7,h8,h9⟩:=h;exact⟨h4,h5,h2.2,h7,h8⟩
theorem LS.push {W4:World}{A4:Option Addr}{a4n a4q:Nat}(h1:wx.ownsRow w.heap.size 28 1 (.slice A n q) n vs)(h2:n+1<=at4)(h4:Rk rb w wx)(h6:wx.heap[tb]?=some (.cells (eJ t) 205 (0,0)))(h7:w.heap.size<=tb)(h8:rb<w.heap.size)
  (h9:p->(∀u∈ts,cK asc u)/\bB (fun v ns=>dI wx rb v ns) vs (ts.map (JV.flat 0))/\JV.sizes ts+at_<=lo) (hat:at_<=at4)
  (hR:Rd xs rb W4 at4 k4 c4) (hk:Rk rb wx W4) (hj:c4=0->p/\∃j:JV,cK asc j/\dI W4 rb (.slice A4 a4n a4q) (j.flat 0)/\j.size+lo<=at4) {v':Value}
  (hv:W2.ownsRow w.heap.size 28 1 v' (n+1) (vs ++ [.slice A4 a4n a4q])) (hg:(W4.alloc (.cells #[.slice A4 a4n a4q] 28)).grownBy W2 (Value.slice A n q).ownBlock):LS asc xs rb w at_ tb at4 (c4=0) at4 k4 c4 v' t W2:=by
 obtain⟨A',q',rfl,-⟩:=ah hv;have a3:=ac W4 (.cells #[.slice A4 a4n a4q] 28);have a1:Rk rb wx (W4.alloc (.cells #[.slice A4 a4n a4q] 28)):=hk.trans (Rk.of_below a3 (Zi hR.lt));have hw:=h4.2.1;have a0:=ao h1 a1.2 (by unfold TR;decide);have a4:=Zb hw a1.2.1;have a2:aJ (fun e=>e=28) (W4.alloc (.cells #[.slice A4 a4n a4q] 28)) W2:=aJ.of_grown hg (fun g e cs T z hh=>by obtain⟨cs',z',h'⟩:=cm a0 g e;rw[h'] at hh;injection hh with hh;injection hh with _ hh;exact hh.symm);refine⟨A',n+1,q',vs ++ [.slice A4 a4n a4q],(@dite _ (c4=0) (Classical.propDecidable _) (fun h=>ts ++ [Classical.choose (hj h).2]) (fun _=> [])),rfl,hv,⟨h2,Za _⟩,(hR.below a3).grownTree a0 h8 a4 hg,(h4.trans a1).grownFresh hg (fun g e=>(al a0 e).1) (Zi h8),hat,a2.2 _ _ _ _ (a1.row h6 cM) (by decide),h7,h8,fun e=>?_⟩;simp only[dif_pos e];obtain⟨g1,g2,g3⟩:=h9 (hj e).1;obtain⟨q1,q2,q3⟩:=Classical.choose_spec (hj e).2;generalize Classical.choose (hj e).2=j at *;refine⟨fun u hu=>?_,?_,?_⟩
 ·rcases List.mem_append.1 hu with hu|hu
  ·exact g1 u hu
  ·rw[List.mem_singleton] at hu;subst hu;exact q1
 ·rw[List.map_append];exact(g2.mono fun _ _ h=>(h.keeps a1.2 ij lk lg).keeps a2 (by decide) (by decide) (by decide)).snoc ((q2.below a3 (Za _)).keeps a2 (by decide) (by decide) (by decide))
 ·rw[cY];simp only[JV.sizes];omega
def J0 (asc:List ByteArray->Prop)(xs:List UInt8)(rb:Nat)(w:World)(at_ tb:Nat)(s5:Value)(wx:World):Prop:= ∃at' k' c t,LS asc xs rb w at_ tb at' (c=0) at' k' c s5 t wx
theorem LS.list (h:LS asc xs rb w at_ tb lo p at' k' c s5 t wx)(e:Nat)(he:c=0->p/\k'+e<=at'):zM asc xs rb w at_ e s5 wx:=by
 obtain⟨A,n,q,vs,ts,rfl,h1,h2,h3,h4,h5,h6,h7,h8,h9⟩:=h;exact⟨A,n,q,vs,ts,at',k',c,rfl,h1,by omega,h3,h4,by omega,fun e=>by obtain⟨g1,g2,g3⟩:=h9 (he e).1;exact⟨g1,g2,by omega,(he e).2⟩⟩
end
theorem zZ (asc:List ByteArray->Prop)(hl:xs.length<=6000)
  (hV:∀ (iO:Nat) (t:Tk) (w:World) (k:Nat) (c:Int) (d:Int),(c=0->t.kind≠5->at_+1<=iO)->Rd xs rb w iO k c->(c=0->(t.kind≠5->k+1<=iO)/\jO t)->
   Calls Tryz.prog 117 #[.pointer (some ⟨rb,0,none⟩),kE t,.int .i64 d] w (jU asc xs rb w iO (t.kind≠5)))
  {w:World} {k:Nat} (d:Int) (h:Rd xs rb w at_ k 0) (hk:k+1<=at_):Calls Tryz.prog 150 #[.pointer (some ⟨rb,0,none⟩),.int .i64 d] w (jU asc xs rb w at_ True):=by
 have HR:=Qa h;have Hk:=Qa hk;have HV:=Qa hV;clear hV hk h;have b9:=ac w (.cells #[.int .i64 1,.int .i64 d,.int .i64 5,.string es,.slice none 0 0] 264);have b4:=HR.out.lt;obtain⟨a1,a2,a3,a4,a5,a6,a7,L,m,hh,l,us,w0,h1,h2,h3,h4,h5,h6,h7⟩:=HR.out;have c12:=aa h1 (j:=12) (u:=.slice a3 _ a4) rfl;have g1:=(b9.block _ b4).trans h1;have H:=Qa (And.intro g1 (And.intro h2 (And.intro h3 (And.intro (h4.trans (b9.mono (Zi b4))) (And.intro (aq h5 b9 (Za _)) h6)))));have g6:=Qa (ar w [.int .i64 1,.int .i64 d,.int .i64 5,.string es,.slice none 0 0] 264);have d3:=Qa b9;have f9:=Qa (show rb+1<=w.heap.size from b4);have c1:=Qa h6;clear h1 h2 h3 h4 h5 h6 h7 b9 g1 b4;go_enter Tryz.func150,Tryz.ntmps150;go_wp2_with (at_builtin;refine dc jL rfl (.tmp 11) (.tmp 14) rfl (rb+1) (.slice a3 k a4) k w.heap.size 1 1 us [.int .i64 1,.int .i64 d,.int .i64 5,.string es,.slice none 0 0] (by simp[Act.eval]) H.out.2.2.2.2.1 (by simp[Act.eval]) rfl g6.out (by simp[Value.oneCell']) (by have:=Hk.out;have:=c1.out;unfold maxLen;omega) (by have:=Hk.out;have:=c1.out;omega) (Zb f9.out d3.out.size) ?_;intro v' w1 p1 p2 p3;have d2:=Qa p1;have c6:=Qa p2;(obtain⟨A',c',he,-⟩:=ah p1);subst he;have a0:=jF H.out.1 H.out.2.1 H.out.2.2.1 H.out.2.2.2.1 H.out.2.2.2.2.1 H.out.2.2.2.2.2 Hk.out d2.out c6.out;have r12:=aa a0.1 (j:=12) (u:=.slice a3 k a4) rfl;have f12:=am a0.1 12;have c0:=Qa a0;clear p1 p2 p3 a0);refine(df c0.out.2.1 (by omega)).mono ?_;rintro e w2 ⟨t,kH,c,rfl,l3,k3,hat2,k2⟩;have g9:=Qa l3;have i2:=Qa (((Rk.of_below d3.out (Zi HR.out.lt)).trans c0.out.2.2).trans k3);have Ht2:=Qa k2;obtain⟨tk,ta,tm,ts,⟨dn,dd,dx⟩⟩:=t;rw[show kE ⟨tk,ta,tm,ts,⟨dn,dd,dx⟩⟩ =.agg #[.int .i64 tk,.int .i64 ta,.int .u8 tm,.string ts,.bool dn,.string dd,.int .i64 dx] from rfl];have c4:=ac w2 (.cells #[.int .i64 tk,.int .i64 ta,.int .u8 tm,.string ts,.bool dn,.string dd,.int .i64 dx] 205);have i9:=Qa (Ze w2 (.cells #[.int .i64 tk,.int .i64 ta,.int .u8 tm,.string ts,.bool dn,.string dd,.int .i64 dx] 205));have i3:=Qa (g9.out.below c4);have m9:=Qa (i2.out.trans (Rk.of_below c4 (Zi g9.out.lt)));have m3:=Qa (show w.heap.size<=w2.heap.size from i2.out.2.1);have m5:=Qa HR.out.lt;clear l3 k3 k2 c4 g9 i2 c12 r12 f12;have mk:∀ (X:Int) (W:World),Calls Tryz.prog 148 #[.agg #[.int .i64 tk,.int .i64 ta,.int .u8 tm,.string ts,.bool dn,.string dd,.int .i64 dx],.int .u8 X] W fun e w'=>iM ⟨tk,ta,tm,ts,⟨dn,dd,dx⟩⟩ X W e w':=fun X W=>fF ⟨tk,ta,tm,ts,⟨dn,dd,dx⟩⟩ X W
 have Mk:=Qa mk;clear mk;go_upto_region 4 with fail
 generalize (w2.alloc (.cells #[.int .i64 tk,.int .i64 ta,.int .u8 tm,.string ts,.bool dn,.string dd,.int .i64 dx] 205))=w3 at *;generalize w2.heap.size=tb at *;go_cut [30] (fun s30 wx=>(∃b:Bool,s30 =.bool b/\(b=false->c=0->tk=1)/\(b=true->c=0))/\Below w3.heap.size w3 wx)
 case first=>
  have cc:=i3.out.code;obtain⟨t0,t1,t2,t3,t4,t5,t6⟩:=a8 (t:=⟨tk,ta,tm,ts,⟨dn,dd,dx⟩⟩) i9.out
  by_cases hc:c=0
  ·have Hc:=Qa hc;subst hc;go_wp2_with fail;refine(Mk.out 93 w3).mono ?_;rintro e w4 ⟨b,rfl,hm,k1⟩;have Hm:=Qa hm;have Hb4:=Qa k1;clear hm k1 t0 t1 t2 t3 t4 t5 t6 cc
   cases b
   ·go_wp2_with fail;go_meet
    case rel=>exact⟨⟨_,rfl,(fun h=>absurd h (by decide)),(fun _=>by trivial)⟩,Hb4.out⟩
   ·have Hm1:=Qa (Hm.out rfl);go_wp2_with fail;go_meet
    case rel=>exact⟨⟨_,rfl,(fun _ _=>Hm1.out),(fun h=>absurd h (by decide))⟩,Hb4.out⟩
  ·have i5:(c==0)=false:=by simpa using hc
   have Hc:=Qa hc;clear hc;go_wp2_with fail;go_meet
   case rel=>exact⟨⟨_,rfl,(fun _ h=>absurd h Hc.out),(fun h=>absurd h (by decide))⟩,Zd _ _⟩
 case rest=>
  obtain⟨⟨b,rfl,l1,l2⟩,f6⟩:=hcut;have Hq1:=Qa l1;have g8:=Qa l2;have HR4:=Qa (i3.out.below f6);have Hk4:=Qa (m9.out.trans (Rk.of_below f6 (Zi i3.out.lt)));have c8:=Qa ((f6.block _ (ae i9.out)).trans i9.out);clear l1 l2 f6;obtain⟨w4,l4⟩:∃x,wc=x:=⟨_,rfl⟩;rw[l4] at HR4 Hk4 c8 ⊢;clear l4;go_upto_if 30 with fail
  go_cut [5] (fun s5 wx=>zM asc xs rb w at_ 1 s5 wx)
  case first=>
   cases b
   ·go_wp2_with fail;go_meet
    case rel=>exact⟨none,0,0, [], [],kH,k+1,c,rfl,⟨rfl,.inl ⟨rfl,rfl⟩⟩,by omega,HR4.out,Hk4.out,hat2,fun h=>⟨by simp,⟨rfl,fun i u v hu=>by simp at hu⟩,by simp[JV.sizes];exact hat2,by have e1:tk=1:=(by first|exact Hq1.out rfl h|exact Hq1.out h|exact Hq1.out trivial h);have:=(Ht2.out h).1 (by show ¬tk=5;omega);have:=Hk.out;omega⟩⟩
   ·have m1:c=0:=(by first|exact g8.out rfl|exact g8.out trivial|exact g8.out);subst m1;have hv:=fun (dd':Int)=>HV.out kH ⟨tk,ta,tm,ts,⟨dn,dd,dx⟩⟩ w4 (k+1) 0 dd' (fun _ h=>(Ht2.out rfl).1 h) HR4.out (fun _=>⟨fun h=>by have:=(Ht2.out rfl).1 h;have:=Hk.out;omega,(Ht2.out rfl).2⟩)
    have Hv:=Qa hv;clear hv;obtain⟨t0,t1,t2,t3,t4,t5,t6⟩:=a8 (t:=⟨tk,ta,tm,ts,⟨dn,dd,dx⟩⟩) c8.out;go_wp2_with fail;refine(Hv.out _).mono ?_;rintro e w5 ⟨A,n,q,at5,k5,c5,rfl,g0,g7,e6,k0⟩;have n6:=Qa (g0.below (ac w5 (.cells #[.slice A n q] 28)));have n2:=Qa ((Hk4.out.trans g7).trans (Rk.of_below (ac w5 (.cells #[.slice A n q] 28)) (Zi g0.lt)));have m0:=Qa k0;have i4:=Qa (ar w5 [.slice A n q] 28);have j0:=Qa g0;have h8:=Qa g7;have e7:=Qa e6;clear g0 g7 k0 e6 t0 t1 t2 t3 t4 t5 t6;go_wp2_with (at_builtin;refine dc nj rfl (.tmp 31) (.tmp 37) rfl w.heap.size (.slice none 0 0) 0 w5.heap.size 1 1 [] [.slice A n q] (by simp[Act.eval]) ⟨rfl,.inl ⟨rfl,rfl⟩⟩ (by simp[Act.eval]) rfl i4.out (by simp[Value.oneCell']) (by unfold maxLen;omega) (by omega) (n2.out.2.1) ?_;intro v' w6 p1 p2 p3;have d2:=Qa p1;have c6:=Qa p2;clear p1 p2 p3);have e3:=LS.push (at_:=at_) (t:=⟨tk,ta,tm,ts,⟨dn,dd,dx⟩⟩) (vs:= []) (ts:= []) (lo:=at_) (p:=True) (n:=0) ⟨rfl,.inl ⟨rfl,rfl⟩⟩ (by have:=Hk.out;have:=e7.out;omega) Hk4.out c8.out m3.out m5.out (fun _=>⟨by simp,bB.nil _,by simp[JV.sizes]⟩) (by have:=e7.out;omega) j0.out h8.out (fun h=>by obtain⟨hn,j,g1,g2,g3⟩:=m0.out h;have:=(Ht2.out (by trivial)).1 hn;exact⟨trivial,j,g1,g2.flat,by omega⟩) d2.out c6.out;have HLS0:=Qa e3;clear e3
    go_loopw [5] (fun s5 wx=>J0 asc xs rb w at_ tb s5 wx) (fun _ wx=>mL xs.length rb wx)
    case atStart=>exact⟨_,_,_,_,HLS0.out⟩
    case round=>
     obtain⟨at',k',c',tt,f8⟩:=hrel;have cc:=f8.rd.code;obtain⟨A,n,q,rfl⟩:=f8.shape;have HLS:=Qa f8;clear f8
     by_cases hc:c'=0
     case neg=>
      have i5:(c'==0)=false:=by simpa using hc
      have Hc:=Qa hc;clear hc;go_wp2_with fail;go_meet
      case rel=>exact HLS.out.list 1 (fun h=>absurd h Hc.out)
     subst hc;go_wp2_with fail;refine(df HLS.out.rd (by omega)).mono ?_;rintro e wn7 ⟨tn,at7,c7,rfl,f4,f5,b5,d6⟩;have b3:=Qa (HLS.out.step f4 f5 b5);have n1:=Qa b5;obtain⟨tk7,ta7,tm7,ts7,⟨dn7,dd7,dx7⟩⟩:=tn;have Ht7:=Qa d6;clear f4 f5 b5 d6;rw[show kE ⟨tk7,ta7,tm7,ts7,⟨dn7,dd7,dx7⟩⟩ =.agg #[.int .i64 tk7,.int .i64 ta7,.int .u8 tm7,.string ts7,.bool dn7,.string dd7,.int .i64 dx7] from rfl];have HLS7:=Qa (b3.out.put ⟨tk7,ta7,tm7,ts7,⟨dn7,dd7,dx7⟩⟩);clear cc
     by_cases hc7:c7=0
     case neg=>
      have i5:(c7 !=0)=true:=by simpa using hc7
      have Hc:=Qa hc7;clear hc7;go_wp2_with (refine wpList_store_rowTo rfl 205 (.tmp 6) (.tmp 46) rfl rfl tb (eJ ⟨tk7,ta7,tm7,ts7,⟨dn7,dd7,dx7⟩⟩) (by simp[Act.eval]) (by simp[Act.eval,eJ]) 205 _ b3.out.tok de rfl (fv ..) ?_;generalize wn7.setRow tb (eJ ⟨tk7,ta7,tm7,ts7,⟨dn7,dd7,dx7⟩⟩)=w7 at *;have cc:=HLS7.out.rd.code;obtain⟨t0,t1,t2,t3,t4,t5,t6⟩:=a8 HLS7.out.tok;clear b3);go_meet
      case rel=>exact HLS7.out.list 1 (fun h=>absurd h Hc.out)
     subst hc7;have Hkle:=Qa HLS.out.rd.kle;go_wp2_with (refine wpList_store_rowTo rfl 205 (.tmp 6) (.tmp 46) rfl rfl tb (eJ ⟨tk7,ta7,tm7,ts7,⟨dn7,dd7,dx7⟩⟩) (by simp[Act.eval]) (by simp[Act.eval,eJ]) 205 _ b3.out.tok de rfl (fv ..) ?_;generalize wn7.setRow tb (eJ ⟨tk7,ta7,tm7,ts7,⟨dn7,dd7,dx7⟩⟩)=w7 at *;have cc:=HLS7.out.rd.code;obtain⟨t0,t1,t2,t3,t4,t5,t6⟩:=a8 HLS7.out.tok;clear b3);have mk7:∀ (X:Int) (W:World),Calls Tryz.prog 148 #[.agg #[.int .i64 tk7,.int .i64 ta7,.int .u8 tm7,.string ts7,.bool dn7,.string dd7,.int .i64 dx7],.int .u8 X] W fun e w'=>iM ⟨tk7,ta7,tm7,ts7,⟨dn7,dd7,dx7⟩⟩ X W e w':=fun X W=>fF ⟨tk7,ta7,tm7,ts7,⟨dn7,dd7,dx7⟩⟩ X W
     have Mk7:=Qa mk7;clear mk7;refine(Mk7.out 93 w7).mono ?_;rintro e w8 ⟨b1,rfl,k6,d4⟩;have HLS8:=Qa (HLS7.out.below d4);have Hm1:=Qa k6;clear cc t0 t1 t2 t3 t4 t5 t6 k6 d4;have cc:=HLS8.out.rd.code;obtain⟨t0,t1,t2,t3,t4,t5,t6⟩:=a8 HLS8.out.tok
     cases b1
     case true=>
      have Hm:=Qa (Hm1.out rfl);go_wp2_with fail;go_meet
      case rel=>exact HLS8.out.list 1 (fun _=>⟨by trivial,by have h1:=(Ht7.out (by trivial)).1;have h2:=Hm.out;have h3:=Hkle.out;have h4:at'+1<=at7:=h1 (by show ¬tk7=5;have:tk7=1:=h2;omega);omega⟩)
     go_wp2_with fail;refine(Mk7.out 44 w8).mono ?_;rintro e w9 ⟨b2,rfl,l0,j3⟩;have b6:=Qa (HLS8.out.below j3);have k4:=Qa l0;clear cc t0 t1 t2 t3 t4 t5 t6 l0 j3;have cc:=b6.out.rd.code;obtain⟨t0,t1,t2,t3,t4,t5,t6⟩:=a8 b6.out.tok
     cases b2
     case false=>
      have wr:Calls Tryz.prog 118 #[.pointer (some ⟨rb,0,none⟩),.agg #[.int .i64 tk7,.int .i64 ta7,.int .u8 tm7,.string ts7,.bool dn7,.string dd7,.int .i64 dx7]] w9 (kt xs rb w9 at7 k'):=fJ b6.out.rd ⟨tk7,ta7,tm7,ts7,⟨dn7,dd7,dx7⟩⟩;have Wr:=Qa wr;clear wr;go_wp2_with fail;refine Wr.out.mono ?_;rintro e w10 ⟨⟨v,rfl⟩,c10,e8,e4,d9⟩;have HLS10:=Qa (b6.out.step e4 d9 (Za _));have Hc10:=Qa e8;clear e4 d9 e8;go_wp2_with fail;go_meet
      case rel=>exact HLS10.out.list 1 (fun h=>absurd h Hc10.out)
     have b7:=Qa (show at'+1<=at7 from(Ht7.out (by trivial)).1 (by show ¬tk7=5;have:tk7=1:=k4.out rfl;omega));clear Mk7 Hm1 k4 Ht7;go_wp2_with fail;refine(df b6.out.rd (by omega)).mono ?_;rintro e wn11 ⟨tn,at11,c11,rfl,f4,f5,b5,d6⟩;have b3:=Qa (b6.out.step f4 f5 b5);have a9:=Qa b5;obtain⟨tk11,ta11,tm11,ts11,⟨dn11,dd11,dx11⟩⟩:=tn;have i0:=Qa d6;clear f4 f5 b5 d6;rw[show kE ⟨tk11,ta11,tm11,ts11,⟨dn11,dd11,dx11⟩⟩ =.agg #[.int .i64 tk11,.int .i64 ta11,.int .u8 tm11,.string ts11,.bool dn11,.string dd11,.int .i64 dx11] from rfl];have b0:=Qa (b3.out.put ⟨tk11,ta11,tm11,ts11,⟨dn11,dd11,dx11⟩⟩);clear cc t0 t1 t2 t3 t4 t5 t6;go_wp2_with (refine wpList_store_rowTo rfl 205 (.tmp 6) (.tmp 64) rfl rfl tb (eJ ⟨tk11,ta11,tm11,ts11,⟨dn11,dd11,dx11⟩⟩) (by simp[Act.eval]) (by simp[Act.eval,eJ]) 205 _ b3.out.tok de rfl (fv ..) ?_;generalize wn11.setRow tb (eJ ⟨tk11,ta11,tm11,ts11,⟨dn11,dd11,dx11⟩⟩)=w11 at *;have cc:=b0.out.rd.code;obtain⟨t0,t1,t2,t3,t4,t5,t6⟩:=a8 b0.out.tok;clear b3);have hv:∀dd',Calls Tryz.prog 117 #[.pointer (some ⟨rb,0,none⟩),.agg #[.int .i64 tk11,.int .i64 ta11,.int .u8 tm11,.string ts11,.bool dn11,.string dd11,.int .i64 dx11],.int .i64 dd'] w11 (jU asc xs rb w11 at11 (¬tk11=5)):=fun dd'=>HV.out at11 ⟨tk11,ta11,tm11,ts11,⟨dn11,dd11,dx11⟩⟩ w11 k' c11 dd' (fun _ _=>by have:=b7.out;have:=a9.out;have:=HLS.out.rk.2.1;omega) b0.out.rd (fun h=>⟨fun _=>by have:=b7.out;have:=a9.out;have:=Hkle.out;omega,(i0.out h).2⟩)
     refine(hv _).mono ?_;rintro e w12 ⟨A4,n4,q4,at12,k12,c12,rfl,d1,f2,c2,d5⟩;have j1:=Qa d1;have c3:=Qa f2;have b8:=Qa c2;have i8:=Qa d5;have f0:=Qa (ar w12 [.slice A4 n4 q4] 28);obtain⟨vs,ts,h1,h2,h9⟩:=b0.out.open;have c1:=Qa d1.atle;clear d1 f2 d5 c2 hv cc t0 t1 t2 t3 t4 t5 t6;have H1:=Qa h1;have H2:=Qa h2;have H9:=Qa h9;have f3:=Qa b0.out.rk;have d0:=Qa (aq (ao h1 c3.out.2 (by unfold TR;decide)) (ac w12 (.cells #[.slice A4 n4 q4] 28)) (Za _));clear h1 h2 h9;have n3:n+1<=at12:=by have:=H2.out;have:=b8.out;have:=a9.out;have:=b7.out;omega
     have n5:at12<=100000:=by have:=c1.out;omega
     go_wp2_with (at_builtin;refine dc nj rfl (.tmp 65) (.tmp 71) rfl w.heap.size (.slice A n q) n w12.heap.size 1 1 vs [.slice A4 n4 q4] (by simp[Act.eval]) d0.out (by simp[Act.eval]) rfl f0.out (by simp[Value.oneCell']) (by unfold maxLen;omega) (by omega) (by have:=f3.out.1.2.1;have:=c3.out.2.1;simp;omega) ?_;intro v' w13 p1 p2 p3;have d2:=Qa p1;have c6:=Qa p2;clear p1 p2 p3);have hend:=LS.push (at_:=at_) (t:=⟨tk11,ta11,tm11,ts11,⟨dn11,dd11,dx11⟩⟩) H1.out n3 f3.out.1 b0.out.tok f3.out.2.2.2.1 f3.out.2.2.2.2 H9.out (by have:=f3.out.2.1;have:=H2.out;have:=b8.out;have:=a9.out;have:=b7.out;omega) j1.out c3.out (fun h=>⟨by trivial,by obtain⟨hn,j,g1,g2,g3⟩:=i8.out h;exact⟨j,g1,g2.flat,by have:=a9.out;have:=b7.out;omega⟩⟩) d2.out c6.out;exact⟨⟨_,_,_,_,hend⟩,by show mL xs.length rb _<mL xs.length rb _;exact HLS.out.rd.mu_lt hend.rd (by have:=b8.out;have:=a9.out;have:=b7.out;omega)⟩
  case rest=>
   obtain⟨A,n,q,vs,ts,at9,k9,c9,rfl,h1,h2,h3,h4,h5,h6⟩:=hcut;have HT:=Qa h6;have f1:=Qa h3;have h0:=Qa h4;have d0:=Qa h1;have e2:=Qa h5;have cc:=h3.code;clear h1 h2 h3 h4 h5 h6
   by_cases hc:c9=0
   case neg=>
    have i5:(c9 !=0)=true:=by simpa using hc
    have Hc:=Qa hc;clear hc;go_wp2_with fail;go_ret;exact⟨none,0,0,at9,k9,c9,rfl,f1.out,h0.out,e2.out,fun h=>absurd h Hc.out⟩
   subst hc;obtain⟨g1,g2,g3,g4⟩:=HT.out rfl;have G1:=Qa g1;have G2:=Qa g2;have G3:=Qa g3;have G4:=Qa g4;clear g1 g2 g3 g4 HT H g6 d3 f9 c1 c0;have b9:=ac wc (.cells #[.int .i64 4,.int .i64 d,.int .i64 5,.string es,.slice none 0 0] 264);have b4:=f1.out.lt;obtain⟨a1,a2,a3,a4,a5,a6,a7,L,m,hh,l,us,w0,h1,h2,h3,h4,h5,h6,h7⟩:=f1.out;have c12:=aa h1 (j:=12) (u:=.slice a3 _ a4) rfl;have g1:=(b9.block _ b4).trans h1;have H:=Qa (And.intro g1 (And.intro h2 (And.intro h3 (And.intro (h4.trans (b9.mono (Zi b4))) (And.intro (aq h5 b9 (Za _)) h6)))));have g6:=Qa (ar wc [.int .i64 4,.int .i64 d,.int .i64 5,.string es,.slice none 0 0] 264);have d3:=Qa b9;have f9:=Qa (show rb+1<=wc.heap.size from b4);have c1:=Qa h6;clear h1 h2 h3 h4 h5 h6 h7 b9 g1 b4;go_wp2_with (at_builtin;refine dc jL rfl (.tmp 83) (.tmp 86) rfl (rb+1) (.slice a3 k9 a4) k9 wc.heap.size 1 1 us [.int .i64 4,.int .i64 d,.int .i64 5,.string es,.slice none 0 0] (by simp[Act.eval]) H.out.2.2.2.2.1 (by simp[Act.eval]) rfl g6.out (by simp[Value.oneCell']) (by have:=G4.out;have:=c1.out;unfold maxLen;omega) (by have:=G4.out;have:=c1.out;omega) (Zb f9.out d3.out.size) ?_;intro v' w7 p1 p2 p3;have d2:=Qa p1;have c6:=Qa p2;(obtain⟨A',c',he,-⟩:=ah p1);subst he;have a0:=jF H.out.1 H.out.2.1 H.out.2.2.1 H.out.2.2.2.1 H.out.2.2.2.2.1 H.out.2.2.2.2.2 G4.out d2.out c6.out;have r12:=aa a0.1 (j:=12) (u:=.slice a3 k9 a4) rfl;have f12:=am a0.1 12;have c0:=Qa a0;clear p1 p2 p3 a0);have g5:=(Rk.of_below d3.out (Zi f1.out.lt)).trans c0.out.2.2;have j5:=Qa g5;have e0:=Qa (ao d0.out g5.2 (by unfold TR;decide));have n0:=Qa (G2.out.mono fun _ _ h=>h.keeps g5.2 ij lk lg);have hsz:JV.sizes ts<=100000:=by have:=G3.out;have:=f1.out.atle;omega
   clear g5 c12 r12 f12;refine(wJ ⟨vs,Sl.of_own e0.out,n0.out.mono fun _ _ h=>h.low (Zj _)⟩ (by omega) (fun t ht x hx=>?_)).mono ?_
   ·obtain⟨q1,q2⟩:=oN (G1.out t ht) 0 x hx;have:=mt ht;exact⟨by omega,fun z hz=>by have:=q2 z hz;omega⟩
   rintro e w8 ⟨v,rfl,d4,j2⟩;have e5:∃A n q,v =.slice A n q:=by obtain⟨A,q,e,_⟩:=j2.form;exact⟨_,_,_,e⟩
   obtain⟨A8,n8,q8,rfl⟩:=e5;have m2:=Qa (c0.out.2.1.below d4);have l5:=Qa ((h0.out.trans j5.out).trans (Rk.of_below d4 (Zi c0.out.2.1.lt)));have m4:=Qa ((j2.low (Zi c0.out.2.1.lt)).imp (Q:=(w.heap.size<= ·)) (fun g h _=>Zb (h0.out.trans j5.out).2.1 h));clear d4 j2;go_wp2_with fail;go_ret;exact⟨A8,n8,q8,at9,k9+1,0,rfl,m2.out,l5.out,e2.out,fun _=>⟨trivial,.mk 5 false es kr [] ts,.list _ G1.out,m4.out,by have:=G3.out;simp only[JV.size];omega⟩⟩
def JO (asc:List ByteArray->Prop)(xs:List UInt8)(rb:Nat)(w:World)(at_:Nat)(names:List ByteArray)(e:Ending)(w':World):Prop:= ∃ (s:ByteArray) (A:Option Addr) (n q at' k':Nat) (c:Int),e =.returned (.tuple #[.string s,.slice A n q])/\Rd xs rb w' at' k' c/\Rk rb w w'/\at_<=at'/\
 (c=0->at_+1<=at'/\i6 s/\s∉names/\∃j:JV,cK asc j/\bu (w.heap.size<= ·) w' rb (.slice A n q) (j.flat 0)/\j.size+at_<=at')
theorem Fz {k:Nat}(h:W.ownsRow B 264 5 v k us)(hg:W.grownBy W' v.ownBlock):aJ (fun e=>e=264) W W':=
 aJ.of_grown hg (fun g e cs t z hh=>by obtain⟨cs',z',h'⟩:=cm h g e;rw[h'] at hh;injection hh with hh;injection hh with _ hh;exact hh.symm)
def CN (w1:World)(s:ByteArray)(names:List ByteArray)(s10:Value)(wr:World):Prop:= ∃i:Nat,i<=names.length/\s10 =.int .i64 i/\Below w1.heap.size w1 wr/\s∉names.take i
theorem wv (asc:List ByteArray->Prop)(hl:xs.length<=6000){uB:Nat}
  (hV:∀ (iO:Nat) (t:Tk) (w:World) (k:Nat) (c:Int) (d:Int),(c=0->t.kind≠5->uB+1<=iO)->Rd xs rb w iO k c->(c=0->(t.kind≠5->k+1<=iO)/\jO t)->
   Calls Tryz.prog 117 #[.pointer (some ⟨rb,0,none⟩),kE t,.int .i64 d] w (jU asc xs rb w iO (t.kind≠5)))
  {w:World} {k:Nat} {c:Int} (t:Tk) (d:Int) {vn:Value} {B:Nat} {names:List ByteArray} (h:Rd xs rb w at_ k c) (hn:cJ w B vn names) (hat:uB<=at_) (hk:c=0->(t.kind≠5->k+1<=at_)/\jO t) :
  Calls Tryz.prog 191 #[.pointer (some ⟨rb,0,none⟩),kE t,.int .i64 d,vn] w (JO asc xs rb w at_ names):=by
 have m3:=Qa hk;have HV:=Qa hV;obtain⟨An,cn,rfl,hcn,q1,n1⟩:=ah hn;unfold maxLen at q1;have o2:=Qa n1;have b7:=ac w (.cells (eJ t) 205);have Hn:=Qa (hn.below b7 (Za _));have i3:=Qa (Ze w (.cells (eJ t) 205));have HR:=Qa (h.below b7);have h9:=Qa (Rk.of_below b7 (Zi h.lt));have hrb:=h.lt;have cc:=(h.below b7).code;clear hk hV h hn n1 b7;obtain⟨tk,ta,tm,ts,⟨dn,dd,dx⟩⟩:=t;unfold kE;simp only[eJ] at HR i3 h9 Hn cc;go_enter Tryz.func191,Tryz.ntmps191
 by_cases hc:c=0
 case neg=>
  have k0:(c !=0)=true:=by simpa using hc
  have Hc:=Qa hc;clear hc;go_wp2_with fail;go_ret2;exact⟨es,none,0,0,at_,k,c,rfl,HR.out,h9.out,Za _,fun h=>absurd h Hc.out⟩
 subst hc;obtain⟨hk,h8⟩:=m3.out rfl;have Hk:=Qa hk;have H8:=Qa h8;clear hk h8 m3;obtain⟨t0,t1,t2,t3,t4,t5,t6⟩:=a8 (t:=⟨tk,ta,tm,ts,⟨dn,dd,dx⟩⟩) i3.out
 by_cases h4:tk=4
 case neg=>
  have q3:(tk !=4)=true:=by simpa using h4
  clear h4;have wr:∀W,Rd xs rb W at_ k 0->Calls Tryz.prog 118 #[.pointer (some ⟨rb,0,none⟩),.agg #[.int .i64 tk,.int .i64 ta,.int .u8 tm,.string ts,.bool dn,.string dd,.int .i64 dx]] W (kt xs rb W at_ k):=fun W h=>fJ h ⟨tk,ta,tm,ts,⟨dn,dd,dx⟩⟩
  have Wr:=Qa wr;clear wr;go_wp2_with fail;refine(Wr.out _ HR.out).mono ?_;rintro e w3 ⟨⟨v,rfl⟩,c3,l1,l3,m5⟩;have Hc:=Qa l1;have j1:=Qa l3;have j5:=Qa (h9.out.trans m5);clear l1 l3 m5;go_wp2_with fail;go_ret2;exact⟨es,none,0,0,at_,k,c3,rfl,j1.out,j5.out,Za _,fun h=>absurd h Hc.out⟩
 subst h4;have m4:=Hk.out (by show ¬ (4:Int)=5;decide);have m1:=H8.out.1 rfl;have i0:=Qa m4;have p0:=Qa m1;clear m4 m1 Hk H8;go_upto_region 6 with fail
 generalize (w.alloc (.cells #[.int .i64 4,.int .i64 ta,.int .u8 tm,.string ts,.bool dn,.string dd,.int .i64 dx] 205))=w1 at *;go_wp2_with fail
 go_loopw [10] (CN w1 ts names) (fun i _=>names.length - (intOf i).toNat)
 case atStart=>exact⟨0,Zj _,rfl,Zd _ _,by simp⟩
 case round=>
  obtain⟨i,hi,rfl,hb,g5⟩:=hrel;have Hb:=Qa hb;have d6:=Qa g5;have f0:=Qa (HR.out.below hb);have g6:=Qa ((hb.block _ (ae i3.out)).trans i3.out);have o1:=Qa (Hn.out.below hb (Za _));have f6:=Qa (h9.out.trans (Rk.of_below hb (Zb (Zi hrb) h9.out.2.1)));clear cc t0 t1 t2 t3 t4 t5 t6 hb g5;obtain⟨t0,t1,t2,t3,t4,t5,t6⟩:=a8 (t:=⟨4,ta,tm,ts,⟨dn,dd,dx⟩⟩) g6.out;have cc:=f0.out.code
  by_cases hlt:i<names.length
  ·obtain⟨gn,rfl⟩:=o2.out (by omega);obtain⟨s,hs⟩:∃s,names[i]?=some s:=⟨_,Zc hlt⟩;have cn:=aA o1.out rfl i (by omega);rw[List.getElem?_map,hs] at cn;simp only[Option.map_some,dR] at cn;have Hs:=Qa (show names.take (i+1)=names.take i ++ [s] from cf hs);have q2:(i:Int)<names.length:=by omega
   clear hs
   by_cases he:s=ts
   ·have p4:(s.toList==ts.toList)=true:=by rw[gj];simp[he]
    clear he;go_wp2_with fail;go_quiet (fail);go_wp2_with fail;refine(cG 112 ta _).mono ?_;rintro e w2 ⟨u,rfl,⟨fh,fl,fs,rfl,n0⟩,m2⟩;obtain⟨fA,fq,fr,rfl,-⟩:=n0.slice;have i5:Below wr.heap.size wr w2:=(az (Zd _ _) _).trans m2;have j1:=Qa (f0.out.below i5);have j5:=Qa (f6.out.trans (Rk.of_below i5 (Zi f0.out.lt)));clear n0 m2 i5 cc t0 t1 t2 t3 t4 t5 t6;go_wp2_with fail;refine(eD j1.out 112 fh fl fA fq fr).mono ?_;rintro e w4 ⟨⟨b,rfl⟩,k9,n2,-⟩;rw[if_pos rfl] at k9;have q0:=Qa k9;have n9:=Qa (j5.out.trans n2);clear k9 n2;go_wp2_with fail;go_ret2;exact⟨es,none,0,0,at_,k,112,rfl,q0.out,n9.out,Za _,fun h=>absurd h (by decide)⟩
   ·have p4:(s.toList==ts.toList)=false:=by rw[gj];simp[he]
    have He:=Qa he;clear he;go_wp2_with fail;go_quiet (fail);go_wp2_with fail;exact⟨⟨i+1,by omega,by go_num,az Hb.out _,by rw[Hs.out];intro hm;rcases List.mem_append.1 hm with hm|hm;exact d6.out hm;exact He.out (List.mem_singleton.1 hm).symm⟩,by simp[intOf];omega⟩
  ·obtain rfl:i=names.length:=by omega
   rw[List.take_length] at d6;go_wp2_with fail;have c4:=Qa (show Rd xs rb wr.drew at_ k 0 from f0.out.below (Zd wr.heap.size wr).drew);have a9:=Qa (show wr.drew.heap[w.heap.size]?=_ from g6.out);have b2:=Qa (f6.out.trans (Rk.of_below (Zd wr.heap.size wr).drew (Zi f0.out.lt)));have i9:=Qa (show wr.drew.cell? ⟨w.heap.size,3,none⟩=some (.string ts) from t3);clear cc t0 t1 t2 t3 t4 t5 t6;generalize hwq:wr.drew=wq at c4 a9 b2 i9;have f4:=ac wq (.cells #[.int .i64 2,.int .i64 d,.int .i64 0,.string ts,.slice none 0 0] 264);have c7:=c4.out.lt;obtain⟨a1,a2,a3,a4,a5,a6,a7,L,m,hh,l,us,w0,h1,h2,h3,h4,h5,h6,h7⟩:=c4.out;have c12:=aa h1 (j:=12) (u:=.slice a3 _ a4) rfl;have g1:=(f4.block _ c7).trans h1;have H:=Qa (And.intro g1 (And.intro h2 (And.intro h3 (And.intro (h4.trans (f4.mono (Zi c7))) (And.intro (aq h5 f4 (Za _)) h6)))));have n8:=Qa (ar wq [.int .i64 2,.int .i64 d,.int .i64 0,.string ts,.slice none 0 0] 264);have d5:=Qa f4;have l4:=Qa (show rb+1<=wq.heap.size from c7);have k2:=Qa h6;clear h1 h2 h3 h4 h5 h6 h7 f4 g1 c7;have C12:=Qa c12;clear c12;refine dj (fun w'=>w'.cell? ⟨rb,12,none⟩=some (.slice a3 k a4)/\w'.cell? ⟨w.heap.size,3,none⟩=some (.string ts)) 13 ((by rw[hwq];exact⟨C12.out,i9.out⟩)) fun a0=>?_
   rw[hwq] at a0 ⊢;clear hwq;refine tZ 0 a0 ?_;refine tZ 1 a0 ?_;refine tZ 2 a0 ?_;refine tZ 3 a0 ?_;refine tZ 4 a0 ?_;refine tZ 5 a0 ?_
   try simp only[Act.put,jP,jQ,jR]
   refine tZ 6 a0 ?_;refine tZ 7 a0 ?_;refine tZ 8 a0 ?_
   try simp only[Act.put,jP,jQ,jR]
   refine rZ 9 fun K hK=>?_
   go_simp;refine hK.out _ _ (fun _=>⟨Zf d5.out a0.1,Zf d5.out a0.2⟩) (fun a0=>?_);clear hK K;have a0:=a0 (by decide)
   try simp only[Act.put,jP,jQ,jR]
   refine rZ 10 fun K hK=>?_
   refine xh jL H.out.2.2.2.2.1 n8.out (Zb l4.out d5.out.size) ?_ (hlen:=(by have:=i0.out;have:=k2.out;unfold maxLen;omega)) (hby:=(by have:=i0.out;have:=k2.out;omega));intro v' w7 p1 p2 p3;have n5:=Qa p1;have j3:=Qa p2;(obtain⟨A',c',he,-⟩:=ah p1);subst he;have b5:=jF H.out.1 H.out.2.1 H.out.2.2.1 H.out.2.2.2.1 H.out.2.2.2.2.1 H.out.2.2.2.2.2 i0.out n5.out j3.out;have r12:=aa b5.1 (j:=12) (u:=.slice a3 k a4) rfl;have f12:=am b5.1 12;have i2:=Qa b5;clear p1 p2 p3 b5;have m0:=Qa ((Fz H.out.2.2.2.2.1 j3.out).2 _ _ _ _ ((d5.out.block _ (ae a9.out)).trans a9.out) (by decide));refine hK.out _ _ (fun _=>⟨r12,aa m0.out (j:=3) rfl⟩) (fun a0=>?_);clear hK K;have a0:=a0 (by decide)
   try simp only[Act.put,jP,jQ,jR]
   refine rZ 11 fun K hK=>?_
   go_simp;refine hK.out _ _ (fun _=>a0) (fun a0=>?_);clear hK K;have a0:=a0 (by decide)
   try simp only[Act.put,jP,jQ,jR]
   refine tZ 12 a0 ?_
   try simp only[Act.put,jP,jQ,jR]
   refine rZ 13 fun K hK=>?_
   go_simp;refine hK.out _ _ (fun h=>absurd rfl h) (fun _=>?_);clear hK K
   try simp only[Act.put,jP,jQ,jR]
   refine bi (by kernel_rfl) (NoPanic.normal ?_) _;clear a0 r12 f12;have l5:=Qa (b2.out.trans ((Rk.of_below d5.out (Zi c4.out.lt)).trans i2.out.2.2));have m9:=Qa i2.out.2.1;have h0:=Qa (((Rk.of_below d5.out (Zi c4.out.lt)).trans i2.out.2.2).row a9.out cM);clear i2 n5 j3 m0 H n8 d5 l4 k2 i9 a9 c4 b2 C12;go_wp2_with fail;generalize (w7.setCell ⟨rb,12,none⟩ (.slice A' (k+1) c'))=w8 at *;refine(df m9.out (by omega)).mono ?_;rintro e w9 ⟨t9,at9,c9,rfl,n6,k3,f8,n3⟩;have k6:=Qa n6;have l0:=Qa (l5.out.trans k3);have e0:=Qa (k3.row h0.out cM);have l2:=Qa n3;have d9:=Qa f8;obtain⟨tk9,ta9,tm9,ts9,⟨dn9,dd9,dx9⟩⟩:=t9;rw[show kE ⟨tk9,ta9,tm9,ts9,⟨dn9,dd9,dx9⟩⟩ =.agg #[.int .i64 tk9,.int .i64 ta9,.int .u8 tm9,.string ts9,.bool dn9,.string dd9,.int .i64 dx9] from rfl];have c6:=ac w9 (.cells #[.int .i64 tk9,.int .i64 ta9,.int .u8 tm9,.string ts9,.bool dn9,.string dd9,.int .i64 dx9] 205);have b3:=Qa (Ze w9 (.cells #[.int .i64 tk9,.int .i64 ta9,.int .u8 tm9,.string ts9,.bool dn9,.string dd9,.int .i64 dx9] 205));have d0:=Qa (k6.out.below c6);have g0:=Qa (l0.out.trans (Rk.of_below c6 (Zi k6.out.lt)));have c1:=Qa ((c6.block _ (ae e0.out)).trans e0.out);clear n6 k3 f8 n3 c6 k6 l0 e0 m9 l5 h0;have mk:∀ (X:Int) (W:World),Calls Tryz.prog 148 #[.agg #[.int .i64 tk9,.int .i64 ta9,.int .u8 tm9,.string ts9,.bool dn9,.string dd9,.int .i64 dx9],.int .u8 X] W fun e w'=>iM ⟨tk9,ta9,tm9,ts9,⟨dn9,dd9,dx9⟩⟩ X W e w':=fun X W=>fF ⟨tk9,ta9,tm9,ts9,⟨dn9,dd9,dx9⟩⟩ X W
   have Mk:=Qa mk;clear mk;go_upto_region 14 with fail
   generalize (w9.alloc (.cells #[.int .i64 tk9,.int .i64 ta9,.int .u8 tm9,.string ts9,.bool dn9,.string dd9,.int .i64 dx9] 205))=w10 at *;generalize w9.heap.size=tb at *;go_cut [68] (fun s68 wx=>(∃b:Bool,s68 =.bool b/\(b=false->c9=0->tk9=1))/\Below w10.heap.size w10 wx)
   case first=>
    have cc:=d0.out.code;obtain⟨t0,t1,t2,t3,t4,t5,t6⟩:=a8 (t:=⟨tk9,ta9,tm9,ts9,⟨dn9,dd9,dx9⟩⟩) b3.out
    by_cases hc:c9=0
    ·have Hc:=Qa hc;subst hc;go_wp2_with fail;refine(Mk.out 58 w10).mono ?_;rintro e w11 ⟨b,rfl,hm,b1⟩;have Hm:=Qa hm;have Hb11:=Qa b1;clear hm b1 t0 t1 t2 t3 t4 t5 t6 cc
     cases b
     ·go_wp2_with fail;go_meet
      case rel=>exact⟨⟨_,rfl,(fun h=>absurd h (by decide))⟩,Hb11.out⟩
     ·have Hm1:=Qa (Hm.out rfl);go_wp2_with fail;go_meet
      case rel=>exact⟨⟨_,rfl,(fun _ _=>Hm1.out)⟩,Hb11.out⟩
    ·have k0:(c9==0)=false:=by simpa using hc
     have Hc:=Qa hc;clear hc;go_wp2_with fail;go_meet
     case rel=>exact⟨⟨_,rfl,(fun _ h=>absurd h Hc.out)⟩,Zd _ _⟩
   case rest=>
    obtain⟨⟨b,rfl,hq⟩,b1⟩:=hcut;have Hq:=Qa hq;have b6:=Qa (d0.out.below b1);have b9:=Qa (g0.out.trans (Rk.of_below b1 (Zi d0.out.lt)));have c0:=Qa ((b1.block _ (ae c1.out)).trans c1.out);have c2:=Qa ((b1.block _ (ae b3.out)).trans b3.out);clear hq b1 d0 g0 c1 b3;obtain⟨w11,e7⟩:∃x,wc=x:=⟨_,rfl⟩;rw[e7] at b6 b9 c0 c2 ⊢;clear e7;obtain⟨t0,t1,t2,t3,t4,t5,t6⟩:=a8 (t:=⟨tk9,ta9,tm9,ts9,⟨dn9,dd9,dx9⟩⟩) c2.out;have cc:=b6.out.code
    cases b
    case true=>
     have wr:Calls Tryz.prog 118 #[.pointer (some ⟨rb,0,none⟩),.agg #[.int .i64 tk9,.int .i64 ta9,.int .u8 tm9,.string ts9,.bool dn9,.string dd9,.int .i64 dx9]] w11 (kt xs rb w11 at9 (k+1)):=fJ b6.out ⟨tk9,ta9,tm9,ts9,⟨dn9,dd9,dx9⟩⟩;have Wr:=Qa wr;clear wr;go_wp2_with fail;refine Wr.out.mono ?_;rintro e w12 ⟨⟨v,rfl⟩,c12,e4,e6,g8⟩;have k5:=Qa e6;have j0:=Qa (b9.out.trans g8);have i8:=Qa e4;have k0:(c12 !=0)=true:=by simpa using e4
     clear cc t0 t1 t2 t3 t4 t5 t6;have cc:=e6.code;clear e6 g8 e4;go_wp2_with fail;go_ret2;exact⟨es,none,0,0,at9,k+1,c12,rfl,k5.out,j0.out,d9.out,fun h=>absurd h i8.out⟩
    by_cases hc:c9=0
    case neg=>
     have k0:(c9 !=0)=true:=by simpa using hc
     have Hc:=Qa hc;clear hc;go_wp2_with fail;go_ret2;exact⟨es,none,0,0,at9,k+1,c9,rfl,b6.out,b9.out,d9.out,fun h=>absurd h Hc.out⟩
    have g4:=Qa (Hq.out rfl hc);subst hc;have c8:=Qa (show at_+1<=at9 from(l2.out (by trivial)).1 (by show ¬tk9=5;have:=g4.out;omega));clear g4 Hq l2 Mk t0 t1 t2 t3 t4 t5 t6;go_wp2_with fail;refine(df b6.out (by omega)).mono ?_;rintro e w12 ⟨t13,at13,c13,rfl,g7,e2,d4,f3⟩;have e5:=Qa g7;have e8:=Qa (b9.out.trans e2);have b8:=Qa (e2.row c0.out cM);have j2:=Qa f3;have b0:=Qa d4;obtain⟨tk13,ta13,tm13,ts13,⟨dn13,dd13,dx13⟩⟩:=t13;rw[show kE ⟨tk13,ta13,tm13,ts13,⟨dn13,dd13,dx13⟩⟩ =.agg #[.int .i64 tk13,.int .i64 ta13,.int .u8 tm13,.string ts13,.bool dn13,.string dd13,.int .i64 dx13] from rfl];have b4:=ac w12 (.cells #[.int .i64 tk13,.int .i64 ta13,.int .u8 tm13,.string ts13,.bool dn13,.string dd13,.int .i64 dx13] 205);have b3:=Qa (Ze w12 (.cells #[.int .i64 tk13,.int .i64 ta13,.int .u8 tm13,.string ts13,.bool dn13,.string dd13,.int .i64 dx13] 205));have e1:=Qa (e5.out.below b4);have f9:=Qa (e8.out.trans (Rk.of_below b4 (Zi e5.out.lt)));have d2:=Qa ((b4.block _ (ae b8.out)).trans b8.out);clear g7 e2 d4 f3 b4 e5 e8 b8 b6 b9 c0 c2 cc;go_upto_region 19 with fail
    generalize (w12.alloc (.cells #[.int .i64 tk13,.int .i64 ta13,.int .u8 tm13,.string ts13,.bool dn13,.string dd13,.int .i64 dx13] 205))=w14 at *;generalize w12.heap.size=tv at *;have c4:=Qa (show Rd xs rb w14.drew at13 (k+1) c13 from e1.out.below (Zd w14.heap.size w14).drew);have a9:=Qa (show w14.drew.heap[w.heap.size]?=_ from d2.out);have e3:=Qa (show w14.drew.heap[tv]?=_ from b3.out);have b2:=Qa (f9.out.trans (Rk.of_below (Zd w14.heap.size w14).drew (Zi e1.out.lt)));clear e1 d2 b3 f9;generalize hwq:w14.drew=wq at c4 a9 b2 e3;have hv:∀dd',Calls Tryz.prog 117 #[.pointer (some ⟨rb,0,none⟩),.agg #[.int .i64 tk13,.int .i64 ta13,.int .u8 tm13,.string ts13,.bool dn13,.string dd13,.int .i64 dx13],.int .i64 dd'] wq (jU asc xs rb wq at13 (¬tk13=5)):=fun dd'=>HV.out at13 ⟨tk13,ta13,tm13,ts13,⟨dn13,dd13,dx13⟩⟩ wq (k+1) c13 dd' (fun _ _=>by have:=c8.out;have:=b0.out;omega) c4.out (fun h=>⟨fun _=>by have:=c8.out;have:=b0.out;have:=i0.out;omega,(j2.out h).2⟩)
    have Hv:=Qa hv;clear hv;refine aR (fun w'=>w'.cell? ⟨w.heap.size,3,none⟩=some (.string ts)/\w'.cell? ⟨tv,0,none⟩=some (.int .i64 tk13)/\w'.cell? ⟨tv,1,none⟩=some (.int .i64 ta13)/\w'.cell? ⟨tv,2,none⟩=some (.int .u8 tm13)/\w'.cell? ⟨tv,3,none⟩=some (.string ts13)/\w'.cell? ⟨tv,4,none⟩=some (.bool dn13)/\w'.cell? ⟨tv,5,none⟩=some (.string dd13)/\w'.cell? ⟨tv,6,none⟩=some (.int .i64 dx13)) ((by rw[hwq];exact⟨aa a9.out (j:=3) rfl,a8 (t:=⟨tk13,ta13,tm13,ts13,⟨dn13,dd13,dx13⟩⟩) e3.out⟩)) fun a0=>?_
    refine tH 0 a0 ?_;refine tH 1 a0 ?_;refine tH 2 a0 ?_;refine tH 3 a0 ?_;refine tH 4 a0 ?_;refine tH 5 a0 ?_
    try simp only[Act.put,jP,jQ,jR]
    refine rH 6 fun K hK=>?_
    go_simp;refine(Hv.out _).mono ?_;rintro e w15 ⟨A4,n4,q4,at15,k15,c15,rfl,f5,c5,d1,g9⟩;have k1:=Qa f5;have i4:=Qa (b2.out.trans c5);have d3:=Qa d1;have k4:=Qa g9;have f1:=Qa (c5.row a9.out cM);have f2:=Qa (c5.row e3.out cM);clear f5 c5 d1 g9;go_simp;refine hK.out _ _ (⟨aa f1.out (j:=3) rfl,a8 (t:=⟨tk13,ta13,tm13,ts13,⟨dn13,dd13,dx13⟩⟩) f2.out⟩) (fun a0=>?_);clear hK K
    try simp only[Act.put,jP,jQ,jR]
    refine tH 7 a0 ?_;refine tH 8 a0 ?_
    try simp only[Act.put,jP,jQ,jR]
    refine wpAnyH_done (by kernel_rfl) (NoPanic.normal ?_) _;clear a0;go_wp2_with fail;go_ret2;exact⟨ts,A4,n4,q4,at15,k15,c15,rfl,k1.out,i4.out,by have:=d3.out;have:=b0.out;have:=d9.out;omega,fun h=>⟨by have:=d3.out;have:=b0.out;have:=c8.out;omega,p0.out,d6.out,by obtain⟨_,j,g1,g2,g3⟩:=k4.out h;exact⟨j,g1,g2.imp (fun g h _=>Zb b2.out.2.1 h),by have:=b0.out;have:=c8.out;omega⟩⟩⟩
def fi (bad:UInt8->Int):Nat->List UInt8->List Int
 |0,_=> []
 |_+1, []=> []
 |f+1,x::t=>if(bF (x::t)).2.2=0 then((bF (x::t)).1:Int)::fi bad f ((x::t).drop (bF (x::t)).2.1) else bad x::fi bad f t
def be (bad:UInt8->Int)(xs:List UInt8):List Int:=fi bad xs.length xs
theorem lH (bad:UInt8->Int):∀ (f g:Nat) (xs:List UInt8),xs.length<=f->xs.length<=g->fi bad f xs=fi bad g xs
 |0,g,xs,h,_=>by
  obtain rfl:xs = []:=List.eq_nil_of_length_eq_zero (by omega)
  cases g <;> rfl
 |f+1,g, [],_,_=>by cases g <;> rfl
 |f+1,0,x::t,_,h=>by simp at h
 |f+1,g+1,x::t,h1,h2=>by
  simp only[List.length_cons] at h1 h2;unfold fi
  split
  ·rename_i h
   have hp:=eO h;rw[lH bad f g _ (by rw[List.length_drop,List.length_cons];omega) (by rw[List.length_drop,List.length_cons];omega)]
  ·rw[lH bad f g t (by omega) (by omega)]
theorem jy (bad:UInt8->Int):be bad [] = []:=rfl
theorem dA {bad:UInt8->Int}(h0:xs≠ [])(h:(bF xs).2.2=0):be bad xs= ((bF xs).1:Int)::be bad (xs.drop (bF xs).2.1):=by
 cases xs with
 |nil=>exact absurd rfl h0
 |cons x t=>
  have hp:=eO h;unfold be;rw[List.length_cons,fi,if_pos h,lH bad t.length _ _ (by rw[List.length_drop,List.length_cons];omega) (Za _)]
theorem eL {bad:UInt8->Int}{x:UInt8}{t:List UInt8}(h:(bF (x::t)).2.2≠0):be bad (x::t)=bad x::be bad t:=by
 unfold be;rw[List.length_cons,fi,if_neg h]
theorem ir (bad:UInt8->Int):∀ {cs:List Int},(∀c∈cs,dO c=true)->be bad (cs.flatMap bG)=cs
 | [],_=>rfl
 |c::cs,h=>by
  have hc:=h c (by simp);have h0:=em hc;obtain⟨n,rfl⟩:∃n:Nat,c=n:=⟨c.toNat,by omega⟩;have hd:=ix n hc (cs.flatMap bG);rw[List.flatMap_cons,dA (by simp[nE hc]) (by rw[hd]),hd];simp only[List.drop_left];rw[ir bad (fun c hm=>h c (Zl _ hm))]
theorem pH {bad bad':UInt8->Int}(h:fM xs):be bad xs=be bad' xs:=by
 obtain⟨cs,h1,rfl⟩:=h;rw[ir bad h1,ir bad' h1]
def dD (x:UInt8):Int:=1114112+x.toNat
def Js (c:Int):List UInt8:=if c<1114112 then bG c else [UInt8.ofNat (c - 1114112).toNat]
theorem iG:∀ (n:Nat) (xs:List UInt8),xs.length<=n->(be dD xs).flatMap Js=xs
 |_, [],_=>rfl
 |0,x::t,h=>by simp at h
 |n+1,x::t,h=>by
  simp only[List.length_cons] at h
  by_cases hd:(bF (x::t)).2.2=0
  ·have ⟨h1,h2⟩:=iL hd;have hp:=eO hd;rw[dA (by simp) hd,List.flatMap_cons,iG n _ (by rw[List.length_drop,List.length_cons];omega)];unfold Js;rw[if_pos (by have:=Ci h2;omega),h1,List.take_append_drop]
  ·rw[eL hd,List.flatMap_cons,iG n t (by omega)];unfold Js dD;rw[if_neg (by have:=x.toNat_lt;omega),show(1114112+ (x.toNat:Int) - 1114112).toNat=x.toNat by omega,UInt8.ofNat_toNat];rfl
def nm (s:ByteArray):List Int:=be dD s.data.toList
theorem Ed {s t:ByteArray}(h:nm s=nm t):s=t:=by
 have h1:=iG _ s.data.toList (Za _);have h2:=iG _ t.data.toList (Za _);unfold nm at h;rw[h,h2] at h1
 cases s with|mk s=>cases t with|mk t=>simp at h1;simp[h1]
def ay:List Int->List Int->Int
 | [], []=>0
 | [],_::_=> -1
 |_::_, []=>1
 |a::x,b::y=>if a<b then -1 else if b<a then 1 else ay x y
theorem zf:∀ {x y:List Int},ay x y=0->x=y
 | [], [],_=>rfl
 | [],_::_,h=>by simp[ay] at h
 |_::_, [],h=>by simp[ay] at h
 |a::x,b::y,h=>by
  unfold ay at h
  split at h
  ·simp at h
  ·split at h
   ·simp at h
   ·rw[zf h,show a=b by omega]
theorem fD:∀x:List Int,ay x x=0
 | []=>rfl
 |a::x=>by unfold ay;rw[if_neg (by omega),if_neg (by omega),fD x]
theorem lS:∀x y:List Int,ay y x = - ay x y
 | [], []=>rfl
 | [],_::_=>rfl
 |_::_, []=>rfl
 |a::x,b::y=>by
  unfold ay
  by_cases h1:a<b
  ·rw[if_neg (by omega),if_pos h1,if_pos h1];rfl
  ·by_cases h2:b<a
   ·rw[if_pos h2,if_neg h1,if_pos h2];try rfl
   ·rw[if_neg h2,if_neg h1,if_neg h1,if_neg h2,lS x y]
theorem zE:∀x y:List Int,-1<=ay x y/\ay x y<=1
 | [], []=>by simp[ay]
 | [],_::_=>by simp[ay]
 |_::_, []=>by simp[ay]
 |a::x,b::y=>by
  unfold ay
  split
  ·omega
  ·split
   ·omega
   ·exact zE x y
theorem oF:∀ {x y z:List Int},ay x y<0->ay y z<0->ay x z<0
 | [],y, [],h1,h2=>by cases y <;> simp[ay] at h1 h2
 | [],_,_::_,_,_=>by simp[ay]
 |_::_, [],_,h1,_=>by simp[ay] at h1
 |_::_,_::_, [],_,h2=>by simp[ay] at h2
 |a::x,b::y,c::z,h1,h2=>by
  unfold ay at h1 h2 ⊢
  by_cases ab:a<b
  ·rw[if_pos ab] at h1
   by_cases bc:b<c
   ·rw[if_pos (by omega)];omega
   ·rw[if_neg bc] at h2
    by_cases cb:c<b
    ·rw[if_pos cb] at h2;omega
    ·rw[if_pos (by omega)];omega
  ·rw[if_neg ab] at h1
   by_cases ba:b<a
   ·rw[if_pos ba] at h1;omega
   ·rw[if_neg ba] at h1
    by_cases bc:b<c
    ·rw[if_pos (by omega)];omega
    ·rw[if_neg bc] at h2
     by_cases cb:c<b
     ·rw[if_pos cb] at h2;omega
     ·rw[if_neg cb] at h2;rw[if_neg (by omega),if_neg (by omega)];exact oF h1 h2
def fN (a b:ByteArray):Prop:=ay (nm a) (nm b)<0
theorem gT {a b c:ByteArray}(h1:fN a b)(h2:fN b c):fN a c:=oF h1 h2
theorem kn (a:ByteArray):¬fN a a:=by unfold fN;rw[fD];omega
theorem jI {a b:ByteArray}(h:¬fN a b)(hne:a≠b):fN b a:=by
 unfold fN at *;have h1:=lS (nm a) (nm b)
 by_cases h0:ay (nm a) (nm b)=0
 ·exact absurd (Ed (zf h0)) hne
 ·omega
theorem nF {a b:ByteArray}(h:fN a b):a≠b:=fun e=>by subst e;exact kn _ h
def gO (ns:List ByteArray):Prop:=ns.Pairwise fN
theorem qr {α:Type}{f:α->ByteArray}:∀ {l m:List α},l.Perm m->(l.map f).Pairwise fN->(m.map f).Pairwise fN->l=m
 | [],m,hp,_,_=>by have:=hp.length_eq;simp at this;rw[List.eq_nil_of_length_eq_zero this.symm]
 |a::l, [],hp,_,_=>by have:=hp.length_eq;simp at this
 |a::l,b::m,hp,h1,h2=>by
  simp only[List.map_cons,List.pairwise_cons] at h1 h2
  by_cases hab:a=b
  ·subst hab;rw[qr (List.Perm.cons_inv hp) h1.2 h2.2]
  ·have hb:b∈a::l:=hp.mem_iff.2 (by simp);have ha:a∈b::m:=hp.mem_iff.1 (by simp);have a1:b∈l:=by rcases List.mem_cons.1 hb with e|h;exact absurd e.symm hab;exact h
   have a0:a∈m:=by rcases List.mem_cons.1 ha with e|h;exact absurd e hab;exact h
   exact absurd (gT (h1.1 (f b) (List.mem_map_of_mem a1)) (h2.1 (f a) (List.mem_map_of_mem a0))) (kn _)
theorem vK (a:Nat)(h:so.Perm (List.range i)):(so.take a ++ [i]++so.drop a).Perm (List.range (i+1)):=by
 rw[List.range_succ];refine List.Perm.trans ?_ (h.append_right [i]);rw[List.append_assoc];refine(List.perm_append_comm_assoc (so.take a) [i] (so.drop a)).trans ?_;refine List.Perm.trans ?_ (List.perm_append_comm);rw[List.take_append_drop]
theorem up {f:Nat->ByteArray}{a:Nat}(hp:(so.map f).Pairwise fN)(h1:∀j x,j<a->so[j]?=some x->fN (f x) (f i))(h2:∀x,so[a]?=some x->fN (f i) (f x)) :
  ((so.take a ++ [i]++so.drop a).map f).Pairwise fN:=by
 have a0:=hp;rw[<-List.take_append_drop a so,List.map_append,List.pairwise_append] at a0;obtain⟨p1,p2,p3⟩:=a0;have hd:∀y∈so.drop a,fN (f i) (f y):=by
  intro y hy
  cases hx:so[a]? with
  |none=>
   have:so.length<=a:=List.getElem?_eq_none_iff.1 hx;rw[List.drop_eq_nil_of_le this] at hy
   cases hy
  |some x=>
   obtain⟨hlt,a2⟩:=List.getElem?_eq_some_iff.1 hx;rw[List.drop_eq_getElem_cons hlt,a2] at hy p2;rcases List.mem_cons.1 hy with rfl|hy
   ·exact h2 _ hx
   ·rw[List.map_cons,List.pairwise_cons] at p2;exact gT (h2 x hx) (p2.1 _ (List.mem_map_of_mem hy))
 have ht:∀y∈so.take a,fN (f y) (f i):=by
  intro y hy;obtain⟨j,hj,rfl⟩:=List.getElem_of_mem hy;have a1:j<a/\j<so.length:=by rw[List.length_take] at hj;omega
  refine h1 j _ a1.1 ?_;rw[List.getElem_take,Zc a1.2]
 rw[List.map_append,List.map_append,List.pairwise_append,List.pairwise_append];refine⟨⟨p1,by simp,?_⟩,p2,?_⟩
 ·intro x hx y hy;obtain⟨x',a3,rfl⟩:=List.mem_map.1 hx;simp at hy;subst hy;exact ht _ a3
 ·intro x hx y hy;obtain⟨y',a4,rfl⟩:=List.mem_map.1 hy;rcases List.mem_append.1 hx with hx|hx
  ·exact p3 x hx _ hy
  ·simp at hx;subst hx;exact hd _ a4
def d0:ByteArray×JV:=(⟨#[]⟩,.mk 0 false ⟨#[]⟩ ⟨false,⟨#[]⟩,0⟩ [] [])
def fm (names:List ByteArray)(ts:List JV)(k:Nat):ByteArray×JV:=(names.zip ts).getD k d0
theorem jr {α:Type}(l:List α)(d:α):(List.range l.length).map (fun k=>l.getD k d)=l:=by
 apply List.ext_getElem
 ·simp
 ·intro i h1 h2;simp[List.getD_eq_getElem?_getD,Zc h2]
theorem yP {names:List ByteArray}(h:so.Perm (List.range (names.zip ts).length)):(so.map (fm names ts)).Perm (names.zip ts):=by
 have:=h.map (fm names ts);unfold fm at this
 rwa[jr] at this
theorem DR {names:List ByteArray}(hl:names.length=ts.length){k:Nat}(hk:k<names.length):(fm names ts k).1=names.getD k ⟨#[]⟩:=by
 unfold fm;rw[List.getD_eq_getElem?_getD,List.getD_eq_getElem?_getD,Zc (by simp;omega),Zc hk];simp
theorem Ee {names:List ByteArray}(hl:names.length=ts.length){k:Nat}{t:JV}(hk:ts[k]?=some t):(fm names ts k).2=t:=by
 obtain⟨h1,h2⟩:=List.getElem?_eq_some_iff.1 hk;unfold fm;rw[List.getD_eq_getElem?_getD,Zc (by simp;omega)];simp[h2]
theorem wO (h:ns.Pairwise fN):ns.Nodup:=h.imp (fun h=>nF h)
theorem wm {names:List ByteArray}(h:so.Perm (List.range names.length))(hr:(so.map (fun k=>names.getD k ⟨#[]⟩)).Pairwise fN):names.Nodup:=by
 have h1:=h.map (fun k=>names.getD k (⟨#[]⟩:ByteArray));rw[jr] at h1;exact h1.nodup_iff.1 (wO hr)
theorem Bq {names:List ByteArray}(h:names.Nodup){j:Nat}{s:ByteArray}(hi:names[i]?=some s)(hj:names[j]?=some s):i=j:=by
 obtain⟨h1,h2⟩:=List.getElem?_eq_some_iff.1 hi;obtain⟨h3,h4⟩:=List.getElem?_eq_some_iff.1 hj;exact(List.getElem_inj h).1 (h2.trans h4.symm)
def lz (names:List ByteArray)(ts:List JV)(ps:List (ByteArray×JV)):Prop:=ps.Perm (names.zip ts)/\gO (ps.map Prod.fst)
theorem lz.sizes {names:List ByteArray}{ps:List (ByteArray×JV)}(hl:names.length=ts.length)(h:lz names ts ps):JV.sizes (ps.map Prod.snd)=JV.sizes ts/\(ps.map Prod.snd).Perm ts/\(ps.map Prod.fst).Perm names:=by
 have h1:(ps.map Prod.snd).Perm ts:=by have:=h.1.map Prod.snd;rwa[List.map_snd_zip (by omega)] at this
 have h2:(ps.map Prod.fst).Perm names:=by have:=h.1.map Prod.fst;rwa[List.map_fst_zip (by omega)] at this
 refine⟨?_,h1,h2⟩;have hs:∀l m:List JV,l.Perm m->JV.sizes l=JV.sizes m:=by
  intro l m hp
  induction hp with
  |nil=>rfl
  |cons x _ ih=>simp[JV.sizes,ih]
  |swap x y l=>simp[JV.sizes];omega
  |trans _ _ ih1 ih2=>exact ih1.trans ih2
 exact hs _ _ h1
def BT (n:Nat)(f:Nat->Nat):Nat×Nat:=
 if f 0<128 then(f 0,1)
 else if f 0/32=6/\(1<n/\f 1/64=2) then(if(f 0 % 32)*64+f 1 % 64 ≥ 128 then((f 0 % 32)*64+f 1 % 64,2) else(65533,1))
 else if(f 0/16=14/\(1<n/\f 1/64=2))/\(2<n/\f 2/64=2) then
  (if(f 0 % 16)*4096+ (f 1 % 64)*64+f 2 % 64 ≥ 2048/\Utf8.valid (((f 0 % 16)*4096+ (f 1 % 64)*64+f 2 % 64:Nat):Int)=true then((f 0 % 16)*4096+ (f 1 % 64)*64+f 2 % 64,3) else(65533,1))
 else if((f 0/8=30/\(1<n/\f 1/64=2))/\(2<n/\f 2/64=2))/\(3<n/\f 3/64=2) then
  (if(f 0 % 8)*262144+ (f 1 % 64)*4096+ (f 2 % 64)*64+f 3 % 64 ≥ 65536/\Utf8.valid (((f 0 % 8)*262144+ (f 1 % 64)*4096+ (f 2 % 64)*64+f 3 % 64:Nat):Int)=true then((f 0 % 8)*262144+ (f 1 % 64)*4096+ (f 2 % 64)*64+f 3 % 64,4) else(65533,1))
 else(65533,1)
theorem yV (s:ByteArray)(i k:Nat):(s.get! (i+k)).toNat=ap (s.data.toList.drop i) k:=by
 rw[i7];unfold ap
 show(s.data[i+k]!).toNat=_
 rw[List.getD_eq_getElem?_getD,Array.getElem?_toList,getElem!_def]
 cases s.data[i+k]? <;> rfl
theorem wg (s:ByteArray)(i:Nat):Utf8.decode s i=BT (s.data.toList.drop i).length (ap (s.data.toList.drop i)):=by
 have hn:∀k,(i+k<s.size)= (k< (s.data.toList.drop i).length):=by
  intro k;rw[List.length_drop,Array.length_toList];show(i+k<s.data.size)=_;exact propext ⟨fun h=>by omega,fun h=>by omega⟩
 unfold Utf8.decode BT;simp only[yV,hn,Utf8.runeError,Bool.and_eq_true,decide_eq_true_eq,beq_iff_eq,and_assoc]
theorem ly (n:Nat):Utf8.valid (n:Int)=true↔n<=1114111/\¬ (55296<=n/\n<=57343):=by
 unfold Utf8.valid;simp;omega
theorem DK (h0:xs≠ []):BT xs.length (ap xs)=if(bF xs).2.2=0 then((bF xs).1,(bF xs).2.1) else(65533,1):=by
 by_cases hd:(bF xs).2.2=0
 ·rw[if_pos hd];rcases lT hd with ⟨a,t,rfl,h1,e⟩|⟨a,b,t,rfl,h1,hs,e⟩|⟨a,b,c,t,rfl,h1,hs,ht,e⟩|⟨a,b,c,d,t,rfl,h1,hs,ht,a0,e⟩ <;> rw[e] <;> unfold BT <;> simp only[ly]
  ·rw[uB,if_pos h1]
  ·unfold jh at hs;have hb:=b8 b;rw[uB,iO,if_neg (by omega),if_pos ⟨by omega,by simp,by omega⟩,if_pos (by omega)]
  ·unfold jh at hs;unfold tl at ht;have hb:=b8 b;have hc:=b8 c;rw[uB,iO,kH,if_neg (by omega),if_neg (by omega),if_pos ⟨⟨by omega,by simp,by omega⟩,by simp,by omega⟩,if_pos (by omega)]
   congr 1;omega
  ·unfold jh at hs;unfold tl at ht a0;have hb:=b8 b;have hc:=b8 c;have a1:=b8 d;rw[uB,iO,kH,GO,if_neg (by omega),if_neg (by omega),if_neg (by omega),if_pos ⟨⟨⟨by omega,by simp,by omega⟩,by simp,by omega⟩,by simp,by omega⟩,if_pos (by omega)]
   congr 1;omega
 ·rw[if_neg hd];unfold BT;simp only[ly]
  cases xs with
  |nil=>exact absurd rfl h0
  |cons a t=>
   have ha:=b8 a
   by_cases h1:a.toNat<128
   ·exact absurd (by rw[xq a t h1]) hd
   rw[uB,if_neg h1]
   split
   ·rename_i h2
    split
    ·rename_i h3
     cases t with
     |nil=>simp at h2
     |cons b t=>
      rw[iO] at h2 h3;have hb:=b8 b;exact absurd (by rw[wQ a (b::t) (by omega)];simp only;rw[if_pos (by unfold jh;omega)]) hd
    ·rfl
   ·split
    ·rename_i h2
     split
     ·rename_i h3
      rcases t with _|⟨b,_|⟨c,t⟩⟩
      ·simp at h2
      ·simp at h2
      ·rw[iO,kH] at h2 h3;have hb:=b8 b;have hc:=b8 c;exact absurd (by rw[xJ a (b::c::t) (by omega)];simp only;rw[if_pos (by unfold jh;omega),if_pos (by unfold tl;omega)]) hd
     ·rfl
    ·split
     ·rename_i h2
      split
      ·rename_i h3
       rcases t with _|⟨b,_|⟨c,_|⟨d,t⟩⟩⟩
       ·simp at h2
       ·simp at h2
       ·simp at h2
       ·rw[iO,kH,GO] at h2 h3;have hb:=b8 b;have hc:=b8 c;have a1:=b8 d;exact absurd (by rw[xU a (b::c::d::t) (by omega)];simp only;rw[if_pos (by unfold jh;omega),if_pos (by unfold tl;omega),if_pos (by unfold tl;omega)]) hd
      ·rfl
     ·rfl
theorem oI (s:ByteArray)(i:Nat)(h:i<s.size):Utf8.decode s i=if(bF (s.data.toList.drop i)).2.2=0 then((bF (s.data.toList.drop i)).1,(bF (s.data.toList.drop i)).2.1) else(65533,1):=by
 rw[wg];apply DK;intro e;have:=congrArg List.length e;rw[List.length_drop,Array.length_toList] at this;have:s.size=s.data.size:=rfl;simp at *;omega
theorem Cn:bG ((65533:Nat):Int) = [239,191,189]:=by rw[oZ 65533 (by omega) (by omega)];rfl
