import Derived.Test.YtohibglohlfjfaaGreatDoorGZ6al
set_option linter.unusedVariables false
set_option linter.unusedSimpArgs false
set_option maxHeartbeats 64000000
set_option maxRecDepth 100000
namespace Go.Proofs.YtohibglohlfjfaaGreatDoor
open Go.RowKit
variable {c4:Int}{ts:List JV}{xs:List UInt8}{vs:List Value}{B at4 at_ k1 k2 k4 n q rb:Nat}{A:Option Addr}{v:Value}{W W' W2 w w1 w2:World}
theorem mP:dq 289 28 (.slice none 0 0) 1 24:=⟨Tryz.underlying289,by kernel_rfl,rfl,by decide⟩
theorem lN {t:JV}(h:t∈ts):t.size<=JV.sizes ts:=by
 obtain⟨i,hi,rfl⟩:=List.getElem_of_mem h;have:=jA (Zd hi);omega
def yt (asc:List ByteArray->Prop)(xs:List UInt8)(rb:Nat)(w:World)(at_:Nat)(e:Nat)(s5:Value)(wx:World):Prop:= ∃ (A:Option Addr) (n q:Nat) (vs:List Value) (ts:List JV) (at' k':Nat) (c:Int),s5 =.slice A n q/\wx.ownsRow w.heap.size 28 1 (.slice A n q) n vs/\n<=at'/\Rd xs rb wx at' k' c/\Rk rb w wx/\at_<=at'/\
 (c=0->(∀u∈ts,cF asc u)/\bo (fun v ns=>dL wx rb v ns) vs (ts.map (JV.flat 0))/\JV.sizes ts+at_<=at'/\k'+e<=at')
theorem Rd.grownTree {k:Nat}{c:Int}(h:Rd xs rb W at_ k c)(hv:W.ownsRow B 28 1 v n vs)(hB:rb<B)(a9:B<=W.heap.size)(hg:W.grownBy W' v.ownBlock):Rd xs rb W' at_ k c:=by
 have hlt:=h.lt;have hb:Below B W W':=aY (Ze B W) hv a9 hg;obtain⟨a1,a2,a3,a4,a5,a6,a7,L,m,hh,l,us,w0,h1,h2,h3,h4,h5,h6⟩:=h;refine⟨a1,a2,a3,a4,a5,a6,a7,L,m,hh,l,us,w0,(hb.block rb hB).trans h1,h2,h3,h4.trans (hb.mono (Zj hB)),World.ownsRow.kept h5 hg ?_,h6⟩
 cases hb:(Value.slice a3 k a4).ownBlock with
 |none=>exact .inl rfl
 |some x=>
  obtain⟨_,cur,hx⟩:=aj h5 hb;refine .inr (fun e=>?_);obtain⟨_,cur2,a0⟩:=aj hv e.symm;rw[hx] at a0;injection a0 with a0;injection a0 with _ a0;exact absurd a0 (by decide)
theorem Rk.grownFresh (h:Rk rb w W){row:Option Nat}(hg:W.grownBy W' row)(hr:∀g,row=some g->w.heap.size<=g)(hrb:rb<=w.heap.size):Rk rb w W':=
 ⟨h.1.grown hg (Zc hrb h.2.1) (fun g e=>Zc hrb (hr g e)),Zc h.2.1 hg.size,fun g cs e z hh he=>by
  have hlt:=ae hh;have:=h.2.2 g cs e z hh he;exact(hg.block g (ae this) (fun e'=>by have:=hr g e'.symm;omega)).trans this⟩
def LS (asc:List ByteArray->Prop)(xs:List UInt8)(rb:Nat)(w:World)(at_ tb lo:Nat)(p:Prop)(at' k':Nat)(c:Int)(s5:Value)(t:Tk)(wx:World):Prop:= ∃ (A:Option Addr) (n q:Nat) (vs:List Value) (ts:List JV),s5 =.slice A n q/\wx.ownsRow w.heap.size 28 1 (.slice A n q) n vs/\(n<=lo/\lo<=at')/\Rd xs rb wx at' k' c/\Rk rb w wx/\at_<=lo/\
 wx.heap[tb]?=some (.cells (eu t) 181 (0,0))/\w.heap.size<=tb/\rb<w.heap.size/\(p->(∀u∈ts,cF asc u)/\bo (fun v ns=>dL wx rb v ns) vs (ts.map (JV.flat 0))/\JV.sizes ts+at_<=lo)
section
variable {asc:List ByteArray->Prop}{xs:List UInt8}{rb:Nat}{w wx:World}{at_ tb lo at' k':Nat}{p:Prop}{c:Int}{s5:Value}{t:Tk}
theorem LS.rd (h:LS asc xs rb w at_ tb lo p at' k' c s5 t wx):Rd xs rb wx at' k' c:=by obtain⟨_,_,_,_,_,_,_,_,h,_⟩:=h;exact h
theorem LS.shape (h:LS asc xs rb w at_ tb lo p at' k' c s5 t wx):∃A n q,s5 =.slice A n q:=by obtain⟨A,n,q,_,_,h,_⟩:=h;exact⟨A,n,q,h⟩
theorem Rd.kle {k:Nat}(h:Rd xs rb w at_ k c):k<=at_:=by obtain⟨_,_,_,_,_,_,_,_,_,_,_,_,_,_,_,_,_,_,_,h⟩:=h;exact h
theorem Rd.atle {k:Nat}(h:Rd xs rb w at_ k c):at_<=xs.length:=by obtain⟨_,_,_,_,_,_,_,_,_,_,_,_,_,_,_,_,_,_,h,_⟩:=h;exact h
theorem Rd.mu_lt {iy kO:Nat}{c2:Int}(h1:Rd xs rb w1 iy k1 0)(h2:Rd xs rb w2 kO k2 c2)(h:iy+1<=kO):mB xs.length rb w2<mB xs.length rb w1:=by
 rw[h1.mu,h2.mu];have:=h2.atle;split <;> simp <;> omega
theorem LS.tok (h:LS asc xs rb w at_ tb lo p at' k' c s5 t wx):wx.heap[tb]?=some (.cells (eu t) 181 (0,0)):=by obtain⟨_,_,_,_,_,_,_,_,_,_,_,h,_⟩:=h;exact h
theorem LS.step {kO:Nat}{c2:Int}(h:LS asc xs rb w at_ tb lo p at' k' c s5 t wx)(hR:Rd xs rb w2 kO k2 c2)(hk:Rk rb wx w2)(hat:at'<=kO):LS asc xs rb w at_ tb lo p kO k2 c2 s5 t w2:=by
 obtain⟨A,n,q,vs,ts,rfl,h1,h2,h3,h4,h5,h6,h7,h8,h9⟩:=h;refine⟨A,n,q,vs,ts,rfl,al h1 hk.2 (by unfold TR;decide),⟨h2.1,by omega⟩,hR,h4.trans hk,h5,hk.row h6 cI,h7,h8,fun e=>?_⟩;obtain⟨g1,g2,g3⟩:=h9 e;exact⟨g1,g2.mono fun _ _ h=>h.keeps hk.2 gU kq kM,g3⟩
theorem LS.put (h:LS asc xs rb w at_ tb lo p at' k' c s5 t wx)(t2:Tk):LS asc xs rb w at_ tb lo p at' k' c s5 t2 (wx.setRow tb (eu t2)):=by
 obtain⟨A,n,q,vs,ts,rfl,h1,h2,h3,h4,h5,h6,h7,h8,h9⟩:=h;have a0:aG (fun e=>e=181) wx (wx.setRow tb (eu t2)):=aG.of_grown (ah ..) (fun g e cs T z hh=>by cases e;rw[h6] at hh;injection hh with hh;injection hh with _ hh;exact hh.symm);refine⟨A,n,q,vs,ts,rfl,al h1 a0 (by decide),h2,h3.other h6 cI (by omega) _,h4.fresh h7 (Zj h8) _,h5,setRow_heap _ _ _ _ _ _ h6,h7,h8,fun e=>?_⟩;obtain⟨g1,g2,g3⟩:=h9 e;exact⟨g1,g2.mono fun _ _ h=>h.keeps a0 (by decide) (by decide) (by decide),g3⟩
theorem LS.below (h:LS asc xs rb w at_ tb lo p at' k' c s5 t wx)(hb:Below wx.heap.size wx w2):LS asc xs rb w at_ tb lo p at' k' c s5 t w2:=
 h.step (h.rd.below hb) (Rk.of_below hb (Zj h.rd.lt)) (Zb _)
theorem LS.open (h:LS asc xs rb w at_ tb lo p at' k' c (.slice A n q) t wx):∃vs ts,wx.ownsRow w.heap.size 28 1 (.slice A n q) n vs/\n<=lo/\(p->(∀u∈ts,cF asc u)/\bo (fun v ns=>dL wx rb v ns) vs (ts.map (JV.flat 0))/\JV.sizes ts+at_<=lo):=by
 obtain⟨_,_,_,vs,ts,e,h1,h2,_,_,_,_,_,_,h9⟩:=h;injection e with e1 e2 e3
 subst e1 e2 e3;exact⟨vs,ts,h1,h2.1,h9⟩
theorem LS.rk (h:LS asc xs rb w at_ tb lo p at' k' c s5 t wx):Rk rb w wx/\at_<=lo/\lo<=at'/\w.heap.size<=tb/\rb<w.heap.size:=by
 obtain⟨_,_,_,vs,ts,e,h1,h2,_,h4,h5,h6,h7,h8,h9⟩:=h;exact⟨h4,h5,h2.2,h7,h8⟩
theorem LS.push {W4:World}{A4:Option Addr}{a4n a4q:Nat}(h1:wx.ownsRow w.heap.size 28 1 (.slice A n q) n vs)(h2:n+1<=at4)(h4:Rk rb w wx)(h6:wx.heap[tb]?=some (.cells (eu t) 181 (0,0)))(h7:w.heap.size<=tb)(h8:rb<w.heap.size)
  (h9:p->(∀u∈ts,cF asc u)/\bo (fun v ns=>dL wx rb v ns) vs (ts.map (JV.flat 0))/\JV.sizes ts+at_<=lo) (hat:at_<=at4)
  (hR:Rd xs rb W4 at4 k4 c4) (hk:Rk rb wx W4) (hj:c4=0->p/\∃j:JV,cF asc j/\dL W4 rb (.slice A4 a4n a4q) (j.flat 0)/\j.size+lo<=at4) {v':Value}
  (hv:W2.ownsRow w.heap.size 28 1 v' (n+1) (vs ++ [.slice A4 a4n a4q])) (hg:(W4.alloc (.cells #[.slice A4 a4n a4q] 28)).grownBy W2 (Value.slice A n q).ownBlock):LS asc xs rb w at_ tb at4 (c4=0) at4 k4 c4 v' t W2:=by
 obtain⟨A',q',rfl,-⟩:=ag hv;have a2:=ac W4 (.cells #[.slice A4 a4n a4q] 28);have a1:Rk rb wx (W4.alloc (.cells #[.slice A4 a4n a4q] 28)):=hk.trans (Rk.of_below a2 (Zj hR.lt));have hw:=h4.2.1;have a0:=al h1 a1.2 (by unfold TR;decide);have a4:=Zc hw a1.2.1;have a3:aG (fun e=>e=28) (W4.alloc (.cells #[.slice A4 a4n a4q] 28)) W2:=aG.of_grown hg (fun g e cs T z hh=>by obtain⟨cs',z',h'⟩:=cj a0 g e;rw[h'] at hh;injection hh with hh;injection hh with _ hh;exact hh.symm);refine⟨A',n+1,q',vs ++ [.slice A4 a4n a4q],(@dite _ (c4=0) (Classical.propDecidable _) (fun h=>ts ++ [Classical.choose (hj h).2]) (fun _=> [])),rfl,hv,⟨h2,Zb _⟩,(hR.below a2).grownTree a0 h8 a4 hg,(h4.trans a1).grownFresh hg (fun g e=>(aj a0 e).1) (Zj h8),hat,a3.2 _ _ _ _ (a1.row h6 cI) (by decide),h7,h8,fun e=>?_⟩;simp only[dif_pos e];obtain⟨g1,g2,g3⟩:=h9 (hj e).1;obtain⟨q1,q2,q3⟩:=Classical.choose_spec (hj e).2;generalize Classical.choose (hj e).2=j at *;refine⟨fun u hu=>?_,?_,?_⟩
 ·rcases List.mem_append.1 hu with hu|hu
  ·exact g1 u hu
  ·rw[List.mem_singleton] at hu;subst hu;exact q1
 ·rw[List.map_append];exact(g2.mono fun _ _ h=>(h.keeps a1.2 gU kq kM).keeps a3 (by decide) (by decide) (by decide)).snoc ((q2.below a2 (Zb _)).keeps a3 (by decide) (by decide) (by decide))
 ·rw[cR];simp only[JV.sizes];omega
def Kg (asc:List ByteArray->Prop)(xs:List UInt8)(rb:Nat)(w:World)(at_ tb:Nat)(s5:Value)(wx:World):Prop:= ∃at' k' c t,LS asc xs rb w at_ tb at' (c=0) at' k' c s5 t wx
theorem LS.list (h:LS asc xs rb w at_ tb lo p at' k' c s5 t wx)(e:Nat)(he:c=0->p/\k'+e<=at'):yt asc xs rb w at_ e s5 wx:=by
 obtain⟨A,n,q,vs,ts,rfl,h1,h2,h3,h4,h5,h6,h7,h8,h9⟩:=h;exact⟨A,n,q,vs,ts,at',k',c,rfl,h1,by omega,h3,h4,by omega,fun e=>by obtain⟨g1,g2,g3⟩:=h9 (he e).1;exact⟨g1,g2,by omega,(he e).2⟩⟩
end
theorem AM (asc:List ByteArray->Prop)(hl:xs.length<=6000)
  (hV:∀ (iy:Nat) (t:Tk) (w:World) (k:Nat) (c:Int) (d:Int),(c=0->t.kind≠5->at_+1<=iy)->Rd xs rb w iy k c->(c=0->(t.kind≠5->k+1<=iy)/\jw t)->
   Calls Tryz.prog 84 #[.pointer (some ⟨rb,0,none⟩),kk t,.int .i64 d] w (jv asc xs rb w iy (t.kind≠5)))
  {w:World} {k:Nat} (d:Int) (h:Rd xs rb w at_ k 0) (hk:k+1<=at_):Calls Tryz.prog 115 #[.pointer (some ⟨rb,0,none⟩),.int .i64 d] w (jv asc xs rb w at_ True):=by
 have HR:=Qa h;have Hk:=Qa hk;have HV:=Qa hV;clear hV hk h;have b9:=ac w (.cells #[.int .i64 1,.int .i64 d,.int .i64 5,.string es,.slice none 0 0] 239);have b3:=HR.out.lt;obtain⟨a1,a2,a3,a4,a5,a6,a7,L,m,hh,l,us,w0,h1,h2,h3,h4,h5,h6,h7⟩:=HR.out;have c12:=aa h1 (j:=12) (u:=.slice a3 _ a4) rfl;have g1:=(b9.block _ b3).trans h1;have H:=Qa (And.intro g1 (And.intro h2 (And.intro h3 (And.intro (h4.trans (b9.mono (Zj b3))) (And.intro (ao h5 b9 (Zb _)) h6)))));have g7:=Qa (ap w [.int .i64 1,.int .i64 d,.int .i64 5,.string es,.slice none 0 0] 239);have d3:=Qa b9;have g6:=Qa (show rb+1<=w.heap.size from b3);have c1:=Qa h6;clear h1 h2 h3 h4 h5 h6 h7 b9 g1 b3;go_enter Tryz.func115,Tryz.ntmps115;go_wp2_with (at_builtin;refine cY jp rfl (.tmp 11) (.tmp 14) rfl (rb+1) (.slice a3 k a4) k w.heap.size 1 1 us [.int .i64 1,.int .i64 d,.int .i64 5,.string es,.slice none 0 0] (by simp[Act.eval]) H.out.2.2.2.2.1 (by simp[Act.eval]) rfl g7.out (by simp[Value.oneCell']) (by have:=Hk.out;have:=c1.out;unfold maxLen;omega) (by have:=Hk.out;have:=c1.out;omega) (Zc g6.out d3.out.size) ?_;intro v' w1 p1 p2 p3;have d2:=Qa p1;have c3:=Qa p2;(obtain⟨A',c',he,-⟩:=ag p1);subst he;have a0:=je H.out.1 H.out.2.1 H.out.2.2.1 H.out.2.2.2.1 H.out.2.2.2.2.1 H.out.2.2.2.2.2 Hk.out d2.out c3.out;have r12:=aa a0.1 (j:=12) (u:=.slice a3 k a4) rfl;have f12:=ak a0.1 12;have c0:=Qa a0;clear p1 p2 p3 a0);refine(dc c0.out.2.1 (by omega)).mono ?_;rintro e w2 ⟨t,kO,c,rfl,k0,k3,hat2,l0⟩;have j2:=Qa k0;have h0:=Qa (((Rk.of_below d3.out (Zj HR.out.lt)).trans c0.out.2.2).trans k3);have Ht2:=Qa l0;obtain⟨tk,ta,tm,ts,⟨dn,dd,dx⟩⟩:=t;rw[show kk ⟨tk,ta,tm,ts,⟨dn,dd,dx⟩⟩ =.agg #[.int .i64 tk,.int .i64 ta,.int .u8 tm,.string ts,.bool dn,.string dd,.int .i64 dx] from rfl];have c6:=ac w2 (.cells #[.int .i64 tk,.int .i64 ta,.int .u8 tm,.string ts,.bool dn,.string dd,.int .i64 dx] 181);have i2:=Qa (Zf w2 (.cells #[.int .i64 tk,.int .i64 ta,.int .u8 tm,.string ts,.bool dn,.string dd,.int .i64 dx] 181));have i5:=Qa (j2.out.below c6);have n5:=Qa (h0.out.trans (Rk.of_below c6 (Zj j2.out.lt)));have m5:=Qa (show w.heap.size<=w2.heap.size from h0.out.2.1);have n3:=Qa HR.out.lt;clear k0 k3 l0 c6 j2 h0 c12 r12 f12;have mk:∀ (X:Int) (W:World),Calls Tryz.prog 113 #[.agg #[.int .i64 tk,.int .i64 ta,.int .u8 tm,.string ts,.bool dn,.string dd,.int .i64 dx],.int .u8 X] W fun e w'=>ie ⟨tk,ta,tm,ts,⟨dn,dd,dx⟩⟩ X W e w':=fun X W=>fc ⟨tk,ta,tm,ts,⟨dn,dd,dx⟩⟩ X W
 have Mk:=Qa mk;clear mk;go_upto_region 4 with fail
 generalize (w2.alloc (.cells #[.int .i64 tk,.int .i64 ta,.int .u8 tm,.string ts,.bool dn,.string dd,.int .i64 dx] 181))=w3 at *;generalize w2.heap.size=tb at *;go_cut [30] (fun s30 wx=>(∃b:Bool,s30 =.bool b/\(b=false->c=0->tk=1)/\(b=true->c=0))/\Below w3.heap.size w3 wx)
 case first=>
  have cc:=i5.out.code;obtain⟨t0,t1,t2,t3,t4,t5,t6⟩:=aR (t:=⟨tk,ta,tm,ts,⟨dn,dd,dx⟩⟩) i2.out
  by_cases hc:c=0
  ·have Hc:=Qa hc;subst hc;go_wp2_with fail;refine(Mk.out 93 w3).mono ?_;rintro e w4 ⟨b,rfl,hm,k1⟩;have Hm:=Qa hm;have Hb4:=Qa k1;clear hm k1 t0 t1 t2 t3 t4 t5 t6 cc
   cases b
   ·go_wp2_with fail;go_meet
    case rel=>exact⟨⟨_,rfl,(fun h=>absurd h (by decide)),(fun _=>by trivial)⟩,Hb4.out⟩
   ·have Hm1:=Qa (Hm.out rfl);go_wp2_with fail;go_meet
    case rel=>exact⟨⟨_,rfl,(fun _ _=>Hm1.out),(fun h=>absurd h (by decide))⟩,Hb4.out⟩
  ·have j3:(c==0)=false:=by simpa using hc
   have Hc:=Qa hc;clear hc;go_wp2_with fail;go_meet
   case rel=>exact⟨⟨_,rfl,(fun _ h=>absurd h Hc.out),(fun h=>absurd h (by decide))⟩,Ze _ _⟩
 case rest=>
  obtain⟨⟨b,rfl,k4,l5⟩,f9⟩:=hcut;have Hq1:=Qa k4;have g8:=Qa l5;have HR4:=Qa (i5.out.below f9);have Hk4:=Qa (n5.out.trans (Rk.of_below f9 (Zj i5.out.lt)));have d0:=Qa ((f9.block _ (ae i2.out)).trans i2.out);clear k4 l5 f9;obtain⟨w4,l2⟩:∃x,wc=x:=⟨_,rfl⟩;rw[l2] at HR4 Hk4 d0 ⊢;clear l2;go_upto_if 30 with fail
  go_cut [5] (fun s5 wx=>yt asc xs rb w at_ 1 s5 wx)
  case first=>
   cases b
   ·go_wp2_with fail;go_meet
    case rel=>exact⟨none,0,0, [], [],kO,k+1,c,rfl,⟨rfl,.inl ⟨rfl,rfl⟩⟩,by omega,HR4.out,Hk4.out,hat2,fun h=>⟨by simp,⟨rfl,fun i u v hu=>by simp at hu⟩,by simp[JV.sizes];exact hat2,by have e1:tk=1:=(by first|exact Hq1.out rfl h|exact Hq1.out h|exact Hq1.out trivial h);have:=(Ht2.out h).1 (by show ¬tk=5;omega);have:=Hk.out;omega⟩⟩
   ·have m1:c=0:=(by first|exact g8.out rfl|exact g8.out trivial|exact g8.out);subst m1;have hv:=fun (dd':Int)=>HV.out kO ⟨tk,ta,tm,ts,⟨dn,dd,dx⟩⟩ w4 (k+1) 0 dd' (fun _ h=>(Ht2.out rfl).1 h) HR4.out (fun _=>⟨fun h=>by have:=(Ht2.out rfl).1 h;have:=Hk.out;omega,(Ht2.out rfl).2⟩)
    have Hv:=Qa hv;clear hv;obtain⟨t0,t1,t2,t3,t4,t5,t6⟩:=aR (t:=⟨tk,ta,tm,ts,⟨dn,dd,dx⟩⟩) d0.out;go_wp2_with fail;refine(Hv.out _).mono ?_;rintro e w5 ⟨A,n,q,at5,k5,c5,rfl,f8,j1,f2,l3⟩;have n6:=Qa (f8.below (ac w5 (.cells #[.slice A n q] 28)));have n2:=Qa ((Hk4.out.trans j1).trans (Rk.of_below (ac w5 (.cells #[.slice A n q] 28)) (Zj f8.lt)));have n1:=Qa l3;have i3:=Qa (ap w5 [.slice A n q] 28);have j0:=Qa f8;have i4:=Qa j1;have e4:=Qa f2;clear f8 j1 l3 f2 t0 t1 t2 t3 t4 t5 t6;go_wp2_with (at_builtin;refine cY mP rfl (.tmp 31) (.tmp 37) rfl w.heap.size (.slice none 0 0) 0 w5.heap.size 1 1 [] [.slice A n q] (by simp[Act.eval]) ⟨rfl,.inl ⟨rfl,rfl⟩⟩ (by simp[Act.eval]) rfl i3.out (by simp[Value.oneCell']) (by unfold maxLen;omega) (by omega) (n2.out.2.1) ?_;intro v' w6 p1 p2 p3;have d2:=Qa p1;have c3:=Qa p2;clear p1 p2 p3);have d5:=LS.push (at_:=at_) (t:=⟨tk,ta,tm,ts,⟨dn,dd,dx⟩⟩) (vs:= []) (ts:= []) (lo:=at_) (p:=True) (n:=0) ⟨rfl,.inl ⟨rfl,rfl⟩⟩ (by have:=Hk.out;have:=e4.out;omega) Hk4.out d0.out m5.out n3.out (fun _=>⟨by simp,bo.nil _,by simp[JV.sizes]⟩) (by have:=e4.out;omega) j0.out i4.out (fun h=>by obtain⟨hn,j,g1,g2,g3⟩:=n1.out h;have:=(Ht2.out (by trivial)).1 hn;exact⟨trivial,j,g1,g2.flat,by omega⟩) d2.out c3.out;have HLS0:=Qa d5;clear d5
    go_loopw [5] (fun s5 wx=>Kg asc xs rb w at_ tb s5 wx) (fun _ wx=>mB xs.length rb wx)
    case atStart=>exact⟨_,_,_,_,HLS0.out⟩
    case round=>
     obtain⟨at',k',c',tt,g0⟩:=hrel;have cc:=g0.rd.code;obtain⟨A,n,q,rfl⟩:=g0.shape;have HLS:=Qa g0;clear g0
     by_cases hc:c'=0
     case neg=>
      have j3:(c'==0)=false:=by simpa using hc
      have Hc:=Qa hc;clear hc;go_wp2_with fail;go_meet
      case rel=>exact HLS.out.list 1 (fun h=>absurd h Hc.out)
     subst hc;go_wp2_with fail;refine(dc HLS.out.rd (by omega)).mono ?_;rintro e wn7 ⟨tn,at7,c7,rfl,f6,f5,b5,e8⟩;have b4:=Qa (HLS.out.step f6 f5 b5);have m4:=Qa b5;obtain⟨tk7,ta7,tm7,ts7,⟨dn7,dd7,dx7⟩⟩:=tn;have Ht7:=Qa e8;clear f6 f5 b5 e8;rw[show kk ⟨tk7,ta7,tm7,ts7,⟨dn7,dd7,dx7⟩⟩ =.agg #[.int .i64 tk7,.int .i64 ta7,.int .u8 tm7,.string ts7,.bool dn7,.string dd7,.int .i64 dx7] from rfl];have HLS7:=Qa (b4.out.put ⟨tk7,ta7,tm7,ts7,⟨dn7,dd7,dx7⟩⟩);clear cc
     by_cases hc7:c7=0
     case neg=>
      have j3:(c7 !=0)=true:=by simpa using hc7
      have Hc:=Qa hc7;clear hc7;go_wp2_with (refine wpList_store_rowTo rfl 181 (.tmp 6) (.tmp 46) rfl rfl tb (eu ⟨tk7,ta7,tm7,ts7,⟨dn7,dd7,dx7⟩⟩) (by simp[Act.eval]) (by simp[Act.eval,eu]) 181 _ b4.out.tok da rfl (e9 ..) ?_;generalize wn7.setRow tb (eu ⟨tk7,ta7,tm7,ts7,⟨dn7,dd7,dx7⟩⟩)=w7 at *;have cc:=HLS7.out.rd.code;obtain⟨t0,t1,t2,t3,t4,t5,t6⟩:=aR HLS7.out.tok;clear b4);go_meet
      case rel=>exact HLS7.out.list 1 (fun h=>absurd h Hc.out)
     subst hc7;have Hkle:=Qa HLS.out.rd.kle;go_wp2_with (refine wpList_store_rowTo rfl 181 (.tmp 6) (.tmp 46) rfl rfl tb (eu ⟨tk7,ta7,tm7,ts7,⟨dn7,dd7,dx7⟩⟩) (by simp[Act.eval]) (by simp[Act.eval,eu]) 181 _ b4.out.tok da rfl (e9 ..) ?_;generalize wn7.setRow tb (eu ⟨tk7,ta7,tm7,ts7,⟨dn7,dd7,dx7⟩⟩)=w7 at *;have cc:=HLS7.out.rd.code;obtain⟨t0,t1,t2,t3,t4,t5,t6⟩:=aR HLS7.out.tok;clear b4);have mk7:∀ (X:Int) (W:World),Calls Tryz.prog 113 #[.agg #[.int .i64 tk7,.int .i64 ta7,.int .u8 tm7,.string ts7,.bool dn7,.string dd7,.int .i64 dx7],.int .u8 X] W fun e w'=>ie ⟨tk7,ta7,tm7,ts7,⟨dn7,dd7,dx7⟩⟩ X W e w':=fun X W=>fc ⟨tk7,ta7,tm7,ts7,⟨dn7,dd7,dx7⟩⟩ X W
     have Mk7:=Qa mk7;clear mk7;refine(Mk7.out 93 w7).mono ?_;rintro e w8 ⟨b1,rfl,k6,d4⟩;have HLS8:=Qa (HLS7.out.below d4);have Hm1:=Qa k6;clear cc t0 t1 t2 t3 t4 t5 t6 k6 d4;have cc:=HLS8.out.rd.code;obtain⟨t0,t1,t2,t3,t4,t5,t6⟩:=aR HLS8.out.tok
     cases b1
     case true=>
      have Hm:=Qa (Hm1.out rfl);go_wp2_with fail;go_meet
      case rel=>exact HLS8.out.list 1 (fun _=>⟨by trivial,by have h1:=(Ht7.out (by trivial)).1;have h2:=Hm.out;have h3:=Hkle.out;have h4:at'+1<=at7:=h1 (by show ¬tk7=5;have:tk7=1:=h2;omega);omega⟩)
     go_wp2_with fail;refine(Mk7.out 44 w8).mono ?_;rintro e w9 ⟨b2,rfl,j5,l4⟩;have b7:=Qa (HLS8.out.below l4);have k2:=Qa j5;clear cc t0 t1 t2 t3 t4 t5 t6 j5 l4;have cc:=b7.out.rd.code;obtain⟨t0,t1,t2,t3,t4,t5,t6⟩:=aR b7.out.tok
     cases b2
     case false=>
      have wr:Calls Tryz.prog 85 #[.pointer (some ⟨rb,0,none⟩),.agg #[.int .i64 tk7,.int .i64 ta7,.int .u8 tm7,.string ts7,.bool dn7,.string dd7,.int .i64 dx7]] w9 (jT xs rb w9 at7 k'):=fd b7.out.rd ⟨tk7,ta7,tm7,ts7,⟨dn7,dd7,dx7⟩⟩;have Wr:=Qa wr;clear wr;go_wp2_with fail;refine Za Wr ?_;rintro e w10 ⟨⟨v,rfl⟩,c10,d9,e2,f3⟩;have HLS10:=Qa (b7.out.step e2 f3 (Zb _));have Hc10:=Qa d9;clear e2 f3 d9;go_wp2_with fail;go_meet
      case rel=>exact HLS10.out.list 1 (fun h=>absurd h Hc10.out)
     have b6:=Qa (show at'+1<=at7 from(Ht7.out (by trivial)).1 (by show ¬tk7=5;have:tk7=1:=k2.out rfl;omega));clear Mk7 Hm1 k2 Ht7;go_wp2_with fail;refine(dc b7.out.rd (by omega)).mono ?_;rintro e wn11 ⟨tn,at11,c11,rfl,f6,f5,b5,e8⟩;have b4:=Qa (b7.out.step f6 f5 b5);have b0:=Qa b5;obtain⟨tk11,ta11,tm11,ts11,⟨dn11,dd11,dx11⟩⟩:=tn;have h8:=Qa e8;clear f6 f5 b5 e8;rw[show kk ⟨tk11,ta11,tm11,ts11,⟨dn11,dd11,dx11⟩⟩ =.agg #[.int .i64 tk11,.int .i64 ta11,.int .u8 tm11,.string ts11,.bool dn11,.string dd11,.int .i64 dx11] from rfl];have a9:=Qa (b4.out.put ⟨tk11,ta11,tm11,ts11,⟨dn11,dd11,dx11⟩⟩);clear cc t0 t1 t2 t3 t4 t5 t6;go_wp2_with (refine wpList_store_rowTo rfl 181 (.tmp 6) (.tmp 64) rfl rfl tb (eu ⟨tk11,ta11,tm11,ts11,⟨dn11,dd11,dx11⟩⟩) (by simp[Act.eval]) (by simp[Act.eval,eu]) 181 _ b4.out.tok da rfl (e9 ..) ?_;generalize wn11.setRow tb (eu ⟨tk11,ta11,tm11,ts11,⟨dn11,dd11,dx11⟩⟩)=w11 at *;have cc:=a9.out.rd.code;obtain⟨t0,t1,t2,t3,t4,t5,t6⟩:=aR a9.out.tok;clear b4);have hv:∀dd',Calls Tryz.prog 84 #[.pointer (some ⟨rb,0,none⟩),.agg #[.int .i64 tk11,.int .i64 ta11,.int .u8 tm11,.string ts11,.bool dn11,.string dd11,.int .i64 dx11],.int .i64 dd'] w11 (jv asc xs rb w11 at11 (¬tk11=5)):=fun dd'=>HV.out at11 ⟨tk11,ta11,tm11,ts11,⟨dn11,dd11,dx11⟩⟩ w11 k' c11 dd' (fun _ _=>by have:=b6.out;have:=b0.out;have:=HLS.out.rk.2.1;omega) a9.out.rd (fun h=>⟨fun _=>by have:=b6.out;have:=b0.out;have:=Hkle.out;omega,(h8.out h).2⟩)
     refine(hv _).mono ?_;rintro e w12 ⟨A4,n4,q4,at12,k12,c12,rfl,d1,f0,c2,e3⟩;have g9:=Qa d1;have c4:=Qa f0;have b8:=Qa c2;have i0:=Qa e3;have f4:=Qa (ap w12 [.slice A4 n4 q4] 28);obtain⟨vs,ts,h1,h2,h9⟩:=a9.out.open;have c1:=Qa d1.atle;clear d1 f0 e3 c2 hv cc t0 t1 t2 t3 t4 t5 t6;have H1:=Qa h1;have H2:=Qa h2;have H9:=Qa h9;have e5:=Qa a9.out.rk;have c8:=Qa (ao (al h1 c4.out.2 (by unfold TR;decide)) (ac w12 (.cells #[.slice A4 n4 q4] 28)) (Zb _));clear h1 h2 h9;have n0:n+1<=at12:=by have:=H2.out;have:=b8.out;have:=b0.out;have:=b6.out;omega
     have n9:at12<=100000:=by have:=c1.out;omega
     go_wp2_with (at_builtin;refine cY mP rfl (.tmp 65) (.tmp 71) rfl w.heap.size (.slice A n q) n w12.heap.size 1 1 vs [.slice A4 n4 q4] (by simp[Act.eval]) c8.out (by simp[Act.eval]) rfl f4.out (by simp[Value.oneCell']) (by unfold maxLen;omega) (by omega) (by have:=e5.out.1.2.1;have:=c4.out.2.1;simp;omega) ?_;intro v' w13 p1 p2 p3;have d2:=Qa p1;have c3:=Qa p2;clear p1 p2 p3);have hend:=LS.push (at_:=at_) (t:=⟨tk11,ta11,tm11,ts11,⟨dn11,dd11,dx11⟩⟩) H1.out n0 e5.out.1 a9.out.tok e5.out.2.2.2.1 e5.out.2.2.2.2 H9.out (by have:=e5.out.2.1;have:=H2.out;have:=b8.out;have:=b0.out;have:=b6.out;omega) g9.out c4.out (fun h=>⟨by trivial,by obtain⟨hn,j,g1,g2,g3⟩:=i0.out h;exact⟨j,g1,g2.flat,by have:=b0.out;have:=b6.out;omega⟩⟩) d2.out c3.out;exact⟨⟨_,_,_,_,hend⟩,by show mB xs.length rb _<mB xs.length rb _;exact HLS.out.rd.mu_lt hend.rd (by have:=b8.out;have:=b0.out;have:=b6.out;omega)⟩
  case rest=>
   obtain⟨A,n,q,vs,ts,at9,k9,c9,rfl,h1,h2,h3,h4,h5,h6⟩:=hcut;have HT:=Qa h6;have f1:=Qa h3;have i9:=Qa h4;have c8:=Qa h1;have e6:=Qa h5;have cc:=h3.code;clear h1 h2 h3 h4 h5 h6
   by_cases hc:c9=0
   case neg=>
    have j3:(c9 !=0)=true:=by simpa using hc
    have Hc:=Qa hc;clear hc;go_wp2_with fail;go_ret;exact⟨none,0,0,at9,k9,c9,rfl,f1.out,i9.out,e6.out,fun h=>absurd h Hc.out⟩
   subst hc;obtain⟨g1,g2,g3,g4⟩:=HT.out rfl;have G1:=Qa g1;have G2:=Qa g2;have G3:=Qa g3;have G4:=Qa g4;clear g1 g2 g3 g4 HT H g7 d3 g6 c1 c0;have b9:=ac wc (.cells #[.int .i64 4,.int .i64 d,.int .i64 5,.string es,.slice none 0 0] 239);have b3:=f1.out.lt;obtain⟨a1,a2,a3,a4,a5,a6,a7,L,m,hh,l,us,w0,h1,h2,h3,h4,h5,h6,h7⟩:=f1.out;have c12:=aa h1 (j:=12) (u:=.slice a3 _ a4) rfl;have g1:=(b9.block _ b3).trans h1;have H:=Qa (And.intro g1 (And.intro h2 (And.intro h3 (And.intro (h4.trans (b9.mono (Zj b3))) (And.intro (ao h5 b9 (Zb _)) h6)))));have g7:=Qa (ap wc [.int .i64 4,.int .i64 d,.int .i64 5,.string es,.slice none 0 0] 239);have d3:=Qa b9;have g6:=Qa (show rb+1<=wc.heap.size from b3);have c1:=Qa h6;clear h1 h2 h3 h4 h5 h6 h7 b9 g1 b3;go_wp2_with (at_builtin;refine cY jp rfl (.tmp 83) (.tmp 86) rfl (rb+1) (.slice a3 k9 a4) k9 wc.heap.size 1 1 us [.int .i64 4,.int .i64 d,.int .i64 5,.string es,.slice none 0 0] (by simp[Act.eval]) H.out.2.2.2.2.1 (by simp[Act.eval]) rfl g7.out (by simp[Value.oneCell']) (by have:=G4.out;have:=c1.out;unfold maxLen;omega) (by have:=G4.out;have:=c1.out;omega) (Zc g6.out d3.out.size) ?_;intro v' w7 p1 p2 p3;have d2:=Qa p1;have c3:=Qa p2;(obtain⟨A',c',he,-⟩:=ag p1);subst he;have a0:=je H.out.1 H.out.2.1 H.out.2.2.1 H.out.2.2.2.1 H.out.2.2.2.2.1 H.out.2.2.2.2.2 G4.out d2.out c3.out;have r12:=aa a0.1 (j:=12) (u:=.slice a3 k9 a4) rfl;have f12:=ak a0.1 12;have c0:=Qa a0;clear p1 p2 p3 a0);have g5:=(Rk.of_below d3.out (Zj f1.out.lt)).trans c0.out.2.2;have l1:=Qa g5;have d6:=Qa (al c8.out g5.2 (by unfold TR;decide));have m0:=Qa (G2.out.mono fun _ _ h=>h.keeps g5.2 gU kq kM);have hsz:JV.sizes ts<=100000:=by have:=G3.out;have:=f1.out.atle;omega
   clear g5 c12 r12 f12;refine(sx ⟨vs,Sl.of_own d6.out,m0.out.mono fun _ _ h=>h.low (Zk _)⟩ (by omega) (fun t ht x hx=>?_)).mono ?_
   ·obtain⟨q1,q2⟩:=oF (G1.out t ht) 0 x hx;have:=lN ht;exact⟨by omega,fun z hz=>by have:=q2 z hz;omega⟩
   rintro e w8 ⟨v,rfl,d4,i8⟩;have e0:∃A n q,v =.slice A n q:=by obtain⟨A,q,e,_⟩:=i8.form;exact⟨_,_,_,e⟩
   obtain⟨A8,n8,q8,rfl⟩:=e0;have m2:=Qa (c0.out.2.1.below d4);have m9:=Qa ((i9.out.trans l1.out).trans (Rk.of_below d4 (Zj c0.out.2.1.lt)));have m3:=Qa ((i8.low (Zj c0.out.2.1.lt)).imp (Q:=(w.heap.size<= ·)) (fun g h _=>Zc (i9.out.trans l1.out).2.1 h));clear d4 i8;go_wp2_with fail;go_ret;exact⟨A8,n8,q8,at9,k9+1,0,rfl,m2.out,m9.out,e6.out,fun _=>⟨trivial,.mk 5 false es j8 [] ts,.list _ G1.out,m3.out,by have:=G3.out;simp only[JV.size];omega⟩⟩
