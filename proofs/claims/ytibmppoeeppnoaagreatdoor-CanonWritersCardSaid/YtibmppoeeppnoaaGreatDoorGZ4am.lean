import Derived.Test.YtibmppoeeppnoaaGreatDoorGZ4al
set_option linter.unusedVariables false
set_option linter.unusedSimpArgs false
set_option maxHeartbeats 64000000
set_option maxRecDepth 100000
namespace Go.Proofs.YtibmppoeeppnoaaGreatDoor
open Go.RowKit
variable {c2 c4:Int}{ts:List JV}{xs:List UInt8}{vs:List Value}{B at4 at_ iu k k1 k2 k4 kN n q rb:Nat}{A:Option Addr}{v:Value}{W W' W2 w w1 w2:World}
theorem mD:dl 286 28 (.slice none 0 0) 1 24:=⟨Tryz.underlying286,by kernel_rfl,rfl,by decide⟩
theorem l6 {t:JV}(h:t∈ts):t.size<=JV.sizes ts:=by
 obtain⟨i,hi,rfl⟩:=List.getElem_of_mem h;have:=f7 (Zc hi);omega
def yG (asc:List ByteArray->Prop)(xs:List UInt8)(rb:Nat)(w:World)(at_:Nat)(e:Nat)(s5:Value)(wx:World):Prop:= ∃ (A:Option Addr) (n q:Nat) (vs:List Value) (ts:List JV) (at' k':Nat) (c:Int),s5 =.slice A n q/\wx.ownsRow w.heap.size 28 1 (.slice A n q) n vs/\n<=at'/\Rd xs rb wx at' k' c/\Rk rb w wx/\at_<=at'/\
 (c=0->(∀u∈ts,bR asc u)/\br (fun v ns=>dA wx rb v ns) vs (ts.map (JV.flat 0))/\JV.sizes ts+at_<=at'/\k'+e<=at')
theorem Rd.grownTree {c:Int}(h:Rd xs rb W at_ k c)(hv:W.ownsRow B 28 1 v n vs)(hB:rb<B)(a9:B<=W.heap.size)(hg:W.grownBy W' v.ownBlock):Rd xs rb W' at_ k c:=by
 have hlt:=h.lt;have hb:Below B W W':=bw (Zd B W) hv a9 hg;obtain⟨a1,a2,a3,a4,a5,a6,a7,L,m,hh,l,us,w0,h1,h2,h3,h4,h5,h6⟩:=h;refine⟨a1,a2,a3,a4,a5,a6,a7,L,m,hh,l,us,w0,(hb.block rb hB).trans h1,h2,h3,h4.trans (hb.mono (Zi hB)),World.ownsRow.kept h5 hg ?_,h6⟩
 cases hb:(Value.slice a3 k a4).ownBlock with
 |none=>exact .inl rfl
 |some x=>
  obtain⟨_,cur,hx⟩:=ak h5 hb;refine .inr (fun e=>?_);obtain⟨_,cur2,a0⟩:=ak hv e.symm;rw[hx] at a0;injection a0 with a0;injection a0 with _ a0;exact absurd a0 (by decide)
theorem Rk.grownFresh (h:Rk rb w W){row:Option Nat}(hg:W.grownBy W' row)(hr:∀g,row=some g->w.heap.size<=g)(hrb:rb<=w.heap.size):Rk rb w W':=
 ⟨h.1.grown hg (Zb hrb h.2.1) (fun g e=>Zb hrb (hr g e)),Zb h.2.1 hg.size,fun g cs e z hh he=>by
  have hlt:=ae hh;have:=h.2.2 g cs e z hh he;exact(hg.block g (ae this) (fun e'=>by have:=hr g e'.symm;omega)).trans this⟩
def LS (asc:List ByteArray->Prop)(xs:List UInt8)(rb:Nat)(w:World)(at_ tb lo:Nat)(p:Prop)(at' k':Nat)(c:Int)(s5:Value)(t:Tk)(wx:World):Prop:= ∃ (A:Option Addr) (n q:Nat) (vs:List Value) (ts:List JV),s5 =.slice A n q/\wx.ownsRow w.heap.size 28 1 (.slice A n q) n vs/\(n<=lo/\lo<=at')/\Rd xs rb wx at' k' c/\Rk rb w wx/\at_<=lo/\
 wx.heap[tb]?=some (.cells (ep t) 180 (0,0))/\w.heap.size<=tb/\rb<w.heap.size/\(p->(∀u∈ts,bR asc u)/\br (fun v ns=>dA wx rb v ns) vs (ts.map (JV.flat 0))/\JV.sizes ts+at_<=lo)
section
variable {asc:List ByteArray->Prop}{xs:List UInt8}{rb:Nat}{w wx:World}{at_ tb lo at' k':Nat}{p:Prop}{c:Int}{s5:Value}{t:Tk}
theorem LS.rd (h:LS asc xs rb w at_ tb lo p at' k' c s5 t wx):Rd xs rb wx at' k' c:=by obtain⟨_,_,_,_,_,_,_,_,h,_⟩:=h;exact h
theorem LS.shape (h:LS asc xs rb w at_ tb lo p at' k' c s5 t wx):∃A n q,s5 =.slice A n q:=by obtain⟨A,n,q,_,_,h,_⟩:=h;exact⟨A,n,q,h⟩
theorem Rd.kle (h:Rd xs rb w at_ k c):k<=at_:=by obtain⟨_,_,_,_,_,_,_,_,_,_,_,_,_,_,_,_,_,_,_,h⟩:=h;exact h
theorem Rd.atle (h:Rd xs rb w at_ k c):at_<=xs.length:=by obtain⟨_,_,_,_,_,_,_,_,_,_,_,_,_,_,_,_,_,_,h,_⟩:=h;exact h
theorem Rd.mu_lt (h1:Rd xs rb w1 iu k1 0)(h2:Rd xs rb w2 kN k2 c2)(h:iu+1<=kN):mn xs.length rb w2<mn xs.length rb w1:=by
 rw[h1.mu,h2.mu];have:=h2.atle;split <;> simp <;> omega
theorem LS.tok (h:LS asc xs rb w at_ tb lo p at' k' c s5 t wx):wx.heap[tb]?=some (.cells (ep t) 180 (0,0)):=by obtain⟨_,_,_,_,_,_,_,_,_,_,_,h,_⟩:=h;exact h
theorem LS.step (h:LS asc xs rb w at_ tb lo p at' k' c s5 t wx)(hR:Rd xs rb w2 kN k2 c2)(hk:Rk rb wx w2)(hat:at'<=kN):LS asc xs rb w at_ tb lo p kN k2 c2 s5 t w2:=by
 obtain⟨A,n,q,vs,ts,rfl,h1,h2,h3,h4,h5,h6,h7,h8,h9⟩:=h;refine⟨A,n,q,vs,ts,rfl,al h1 hk.2 (by unfold TR;decide),⟨h2.1,by omega⟩,hR,h4.trans hk,h5,hk.row h6 cC,h7,h8,fun e=>?_⟩;obtain⟨g1,g2,g3⟩:=h9 e;exact⟨g1,g2.mono fun _ _ h=>h.keeps hk.2 gJ kE kw,g3⟩
theorem LS.put (h:LS asc xs rb w at_ tb lo p at' k' c s5 t wx)(t2:Tk):LS asc xs rb w at_ tb lo p at' k' c s5 t2 (wx.setRow tb (ep t2)):=by
 obtain⟨A,n,q,vs,ts,rfl,h1,h2,h3,h4,h5,h6,h7,h8,h9⟩:=h;have a0:aG (fun e=>e=180) wx (wx.setRow tb (ep t2)):=aG.of_grown (ah ..) (fun g e cs T z hh=>by cases e;rw[h6] at hh;injection hh with hh;injection hh with _ hh;exact hh.symm);refine⟨A,n,q,vs,ts,rfl,al h1 a0 (by decide),h2,h3.other h6 cC (by omega) _,h4.fresh h7 (Zi h8) _,h5,setRow_heap _ _ _ _ _ _ h6,h7,h8,fun e=>?_⟩;obtain⟨g1,g2,g3⟩:=h9 e;exact⟨g1,g2.mono fun _ _ h=>h.keeps a0 (by decide) (by decide) (by decide),g3⟩
theorem LS.below (h:LS asc xs rb w at_ tb lo p at' k' c s5 t wx)(hb:Below wx.heap.size wx w2):LS asc xs rb w at_ tb lo p at' k' c s5 t w2:=
 h.step (h.rd.below hb) (Rk.of_below hb (Zi h.rd.lt)) (Za _)
theorem LS.open (h:LS asc xs rb w at_ tb lo p at' k' c (.slice A n q) t wx):∃vs ts,wx.ownsRow w.heap.size 28 1 (.slice A n q) n vs/\n<=lo/\(p->(∀u∈ts,bR asc u)/\br (fun v ns=>dA wx rb v ns) vs (ts.map (JV.flat 0))/\JV.sizes ts+at_<=lo):=by
 obtain⟨_,_,_,vs,ts,e,h1,h2,_,_,_,_,_,_,h9⟩:=h;injection e with e1 e2 e3
 subst e1 e2 e3;exact⟨vs,ts,h1,h2.1,h9⟩
theorem LS.rk (h:LS asc xs rb w at_ tb lo p at' k' c s5 t wx):Rk rb w wx/\at_<=lo/\lo<=at'/\w.heap.size<=tb/\rb<w.heap.size:=by
 obtain⟨_,_,_,vs,ts,e,h1,h2,_,h4,h5,h6,h7,h8,h9⟩:=h;exact⟨h4,h5,h2.2,h7,h8⟩
theorem LS.push {W4:World}{A4:Option Addr}{a4n a4q:Nat}(h1:wx.ownsRow w.heap.size 28 1 (.slice A n q) n vs)(h2:n+1<=at4)(h4:Rk rb w wx)(h6:wx.heap[tb]?=some (.cells (ep t) 180 (0,0)))(h7:w.heap.size<=tb)(h8:rb<w.heap.size)
  (h9:p->(∀u∈ts,bR asc u)/\br (fun v ns=>dA wx rb v ns) vs (ts.map (JV.flat 0))/\JV.sizes ts+at_<=lo) (hat:at_<=at4)
  (hR:Rd xs rb W4 at4 k4 c4) (hk:Rk rb wx W4) (hj:c4=0->p/\∃j:JV,bR asc j/\dA W4 rb (.slice A4 a4n a4q) (j.flat 0)/\j.size+lo<=at4) {v':Value}
  (hv:W2.ownsRow w.heap.size 28 1 v' (n+1) (vs ++ [.slice A4 a4n a4q])) (hg:(W4.alloc (.cells #[.slice A4 a4n a4q] 28)).grownBy W2 (Value.slice A n q).ownBlock):LS asc xs rb w at_ tb at4 (c4=0) at4 k4 c4 v' t W2:=by
 obtain⟨A',q',rfl,-⟩:=ag hv;have a3:=ac W4 (.cells #[.slice A4 a4n a4q] 28);have a1:Rk rb wx (W4.alloc (.cells #[.slice A4 a4n a4q] 28)):=hk.trans (Rk.of_below a3 (Zi hR.lt));have hw:=h4.2.1;have a0:=al h1 a1.2 (by unfold TR;decide);have a4:=Zb hw a1.2.1;have a2:aG (fun e=>e=28) (W4.alloc (.cells #[.slice A4 a4n a4q] 28)) W2:=aG.of_grown hg (fun g e cs T z hh=>by obtain⟨cs',z',h'⟩:=cD a0 g e;rw[h'] at hh;injection hh with hh;injection hh with _ hh;exact hh.symm);refine⟨A',n+1,q',vs ++ [.slice A4 a4n a4q],(@dite _ (c4=0) (Classical.propDecidable _) (fun h=>ts ++ [Classical.choose (hj h).2]) (fun _=> [])),rfl,hv,⟨h2,Za _⟩,(hR.below a3).grownTree a0 h8 a4 hg,(h4.trans a1).grownFresh hg (fun g e=>(ak a0 e).1) (Zi h8),hat,a2.2 _ _ _ _ (a1.row h6 cC) (by decide),h7,h8,fun e=>?_⟩;simp only[dif_pos e];obtain⟨g1,g2,g3⟩:=h9 (hj e).1;obtain⟨q1,q2,q3⟩:=Classical.choose_spec (hj e).2;generalize Classical.choose (hj e).2=j at *;refine⟨fun u hu=>?_,?_,?_⟩
 ·rcases List.mem_append.1 hu with hu|hu
  ·exact g1 u hu
  ·rw[List.mem_singleton] at hu;subst hu;exact q1
 ·rw[List.map_append];exact(g2.mono fun _ _ h=>(h.keeps a1.2 gJ kE kw).keeps a2 (by decide) (by decide) (by decide)).snoc ((q2.below a3 (Za _)).keeps a2 (by decide) (by decide) (by decide))
 ·rw[cM];simp only[JV.sizes];omega
def IW (asc:List ByteArray->Prop)(xs:List UInt8)(rb:Nat)(w:World)(at_ tb:Nat)(s5:Value)(wx:World):Prop:= ∃at' k' c t,LS asc xs rb w at_ tb at' (c=0) at' k' c s5 t wx
theorem LS.list (h:LS asc xs rb w at_ tb lo p at' k' c s5 t wx)(e:Nat)(he:c=0->p/\k'+e<=at'):yG asc xs rb w at_ e s5 wx:=by
 obtain⟨A,n,q,vs,ts,rfl,h1,h2,h3,h4,h5,h6,h7,h8,h9⟩:=h;exact⟨A,n,q,vs,ts,at',k',c,rfl,h1,by omega,h3,h4,by omega,fun e=>by obtain⟨g1,g2,g3⟩:=h9 (he e).1;exact⟨g1,g2,by omega,(he e).2⟩⟩
end
theorem zd (asc:List ByteArray->Prop)(hl:xs.length<=6000)
  (hV:∀ (iu:Nat) (t:Tk) (w:World) (k:Nat) (c:Int) (d:Int),(c=0->t.kind≠5->at_+1<=iu)->Rd xs rb w iu k c->(c=0->(t.kind≠5->k+1<=iu)/\js t)->
   Calls Tryz.prog 83 #[.pointer (some ⟨rb,0,none⟩),kf t,.int .i64 d] w (jq asc xs rb w iu (t.kind≠5)))
  {w:World} {k:Nat} (d:Int) (h:Rd xs rb w at_ k 0) (hk:k+1<=at_):Calls Tryz.prog 112 #[.pointer (some ⟨rb,0,none⟩),.int .i64 d] w (jq asc xs rb w at_ True):=by
 have HR:=Qa h;have Hk:=Qa hk;have HV:=Qa hV;clear hV hk h;have b8:=ac w (.cells #[.int .i64 1,.int .i64 d,.int .i64 5,.string es,.slice none 0 0] 237);have b4:=HR.out.lt;obtain⟨a1,a2,a3,a4,a5,a6,a7,L,m,hh,l,us,w0,h1,h2,h3,h4,h5,h6,h7⟩:=HR.out;have c12:=aa h1 (j:=12) (u:=.slice a3 _ a4) rfl;have g1:=(b8.block _ b4).trans h1;have H:=Qa (And.intro g1 (And.intro h2 (And.intro h3 (And.intro (h4.trans (b8.mono (Zi b4))) (And.intro (ao h5 b8 (Za _)) h6)))));have f6:=Qa (ap w [.int .i64 1,.int .i64 d,.int .i64 5,.string es,.slice none 0 0] 237);have d4:=Qa b8;have f9:=Qa (show rb+1<=w.heap.size from b4);have c2:=Qa h6;clear h1 h2 h3 h4 h5 h6 h7 b8 g1 b4;go_enter Tryz.func112,Tryz.ntmps112;go_wp2_with (at_builtin;refine cQ jc rfl (.tmp 11) (.tmp 14) rfl (rb+1) (.slice a3 k a4) k w.heap.size 1 1 us [.int .i64 1,.int .i64 d,.int .i64 5,.string es,.slice none 0 0] (by simp[Act.eval]) H.out.2.2.2.2.1 (by simp[Act.eval]) rfl f6.out (by simp[Value.oneCell']) (by have:=Hk.out;have:=c2.out;unfold maxLen;omega) (by have:=Hk.out;have:=c2.out;omega) (Zb f9.out d4.out.size) ?_;intro v' w1 p1 p2 p3;have d0:=Qa p1;have d2:=Qa p2;(obtain⟨A',c',he,-⟩:=ag p1);subst he;have a0:=jl H.out.1 H.out.2.1 H.out.2.2.1 H.out.2.2.2.1 H.out.2.2.2.2.1 H.out.2.2.2.2.2 Hk.out d0.out d2.out;have r12:=aa a0.1 (j:=12) (u:=.slice a3 k a4) rfl;have f12:=aj a0.1 12;have c1:=Qa a0;clear p1 p2 p3 a0);refine(cX c1.out.2.1 (by omega)).mono ?_;rintro e w2 ⟨t,kN,c,rfl,k0,k3,hat2,k4⟩;have i3:=Qa k0;have i9:=Qa (((Rk.of_below d4.out (Zi HR.out.lt)).trans c1.out.2.2).trans k3);have Ht2:=Qa k4;obtain⟨tk,ta,tm,ts,⟨dn,dd,dx⟩⟩:=t;rw[show kf ⟨tk,ta,tm,ts,⟨dn,dd,dx⟩⟩ =.agg #[.int .i64 tk,.int .i64 ta,.int .u8 tm,.string ts,.bool dn,.string dd,.int .i64 dx] from rfl];have c4:=ac w2 (.cells #[.int .i64 tk,.int .i64 ta,.int .u8 tm,.string ts,.bool dn,.string dd,.int .i64 dx] 180);have i4:=Qa (Ze w2 (.cells #[.int .i64 tk,.int .i64 ta,.int .u8 tm,.string ts,.bool dn,.string dd,.int .i64 dx] 180));have h8:=Qa (i3.out.below c4);have m0:=Qa (i9.out.trans (Rk.of_below c4 (Zi i3.out.lt)));have m3:=Qa (show w.heap.size<=w2.heap.size from i9.out.2.1);have m4:=Qa HR.out.lt;clear k0 k3 k4 c4 i3 i9 c12 r12 f12;have mk:∀ (X:Int) (W:World),Calls Tryz.prog 110 #[.agg #[.int .i64 tk,.int .i64 ta,.int .u8 tm,.string ts,.bool dn,.string dd,.int .i64 dx],.int .u8 X] W fun e w'=>ie ⟨tk,ta,tm,ts,⟨dn,dd,dx⟩⟩ X W e w':=fun X W=>fe ⟨tk,ta,tm,ts,⟨dn,dd,dx⟩⟩ X W
 have Mk:=Qa mk;clear mk;go_upto_region 4 with fail
 generalize (w2.alloc (.cells #[.int .i64 tk,.int .i64 ta,.int .u8 tm,.string ts,.bool dn,.string dd,.int .i64 dx] 180))=w3 at *;generalize w2.heap.size=tb at *;go_cut [30] (fun s30 wx=>(∃b:Bool,s30 =.bool b/\(b=false->c=0->tk=1)/\(b=true->c=0))/\Below w3.heap.size w3 wx)
 case first=>
  have cc:=h8.out.code;obtain⟨t0,t1,t2,t3,t4,t5,t6⟩:=aW (t:=⟨tk,ta,tm,ts,⟨dn,dd,dx⟩⟩) i4.out
  by_cases hc:c=0
  ·have Hc:=Qa hc;subst hc;go_wp2_with fail;refine(Mk.out 93 w3).mono ?_;rintro e w4 ⟨b,rfl,hm,j3⟩;have Hm:=Qa hm;have Hb4:=Qa j3;clear hm j3 t0 t1 t2 t3 t4 t5 t6 cc
   cases b
   ·go_wp2_with fail;go_meet
    case rel=>exact⟨⟨_,rfl,(fun h=>absurd h (by decide)),(fun _=>by trivial)⟩,Hb4.out⟩
   ·have Hm1:=Qa (Hm.out rfl);go_wp2_with fail;go_meet
    case rel=>exact⟨⟨_,rfl,(fun _ _=>Hm1.out),(fun h=>absurd h (by decide))⟩,Hb4.out⟩
  ·have j1:(c==0)=false:=by simpa using hc
   have Hc:=Qa hc;clear hc;go_wp2_with fail;go_meet
   case rel=>exact⟨⟨_,rfl,(fun _ h=>absurd h Hc.out),(fun h=>absurd h (by decide))⟩,Zd _ _⟩
 case rest=>
  obtain⟨⟨b,rfl,l4,k1⟩,g0⟩:=hcut;have Hq1:=Qa l4;have i5:=Qa k1;have HR4:=Qa (h8.out.below g0);have Hk4:=Qa (m0.out.trans (Rk.of_below g0 (Zi h8.out.lt)));have c8:=Qa ((g0.block _ (ae i4.out)).trans i4.out);clear l4 k1 g0;obtain⟨w4,l0⟩:∃x,wc=x:=⟨_,rfl⟩;rw[l0] at HR4 Hk4 c8 ⊢;clear l0;go_upto_if 30 with fail
  go_cut [5] (fun s5 wx=>yG asc xs rb w at_ 1 s5 wx)
  case first=>
   cases b
   ·go_wp2_with fail;go_meet
    case rel=>exact⟨none,0,0, [], [],kN,k+1,c,rfl,⟨rfl,.inl ⟨rfl,rfl⟩⟩,by omega,HR4.out,Hk4.out,hat2,fun h=>⟨by simp,⟨rfl,fun i u v hu=>by simp at hu⟩,by simp[JV.sizes];exact hat2,by have e1:tk=1:=(by first|exact Hq1.out rfl h|exact Hq1.out h|exact Hq1.out trivial h);have:=(Ht2.out h).1 (by show ¬tk=5;omega);have:=Hk.out;omega⟩⟩
   ·have l5:c=0:=(by first|exact i5.out rfl|exact i5.out trivial|exact i5.out);subst l5;have hv:=fun (dd':Int)=>HV.out kN ⟨tk,ta,tm,ts,⟨dn,dd,dx⟩⟩ w4 (k+1) 0 dd' (fun _ h=>(Ht2.out rfl).1 h) HR4.out (fun _=>⟨fun h=>by have:=(Ht2.out rfl).1 h;have:=Hk.out;omega,(Ht2.out rfl).2⟩)
    have Hv:=Qa hv;clear hv;obtain⟨t0,t1,t2,t3,t4,t5,t6⟩:=aW (t:=⟨tk,ta,tm,ts,⟨dn,dd,dx⟩⟩) c8.out;go_wp2_with fail;refine(Hv.out _).mono ?_;rintro e w5 ⟨A,n,q,at5,k5,c5,rfl,f8,g8,f2,k6⟩;have n5:=Qa (f8.below (ac w5 (.cells #[.slice A n q] 28)));have m5:=Qa ((Hk4.out.trans g8).trans (Rk.of_below (ac w5 (.cells #[.slice A n q] 28)) (Zi f8.lt)));have n0:=Qa k6;have i0:=Qa (ap w5 [.slice A n q] 28);have h0:=Qa f8;have j0:=Qa g8;have f4:=Qa f2;clear f8 g8 k6 f2 t0 t1 t2 t3 t4 t5 t6;go_wp2_with (at_builtin;refine cQ mD rfl (.tmp 31) (.tmp 37) rfl w.heap.size (.slice none 0 0) 0 w5.heap.size 1 1 [] [.slice A n q] (by simp[Act.eval]) ⟨rfl,.inl ⟨rfl,rfl⟩⟩ (by simp[Act.eval]) rfl i0.out (by simp[Value.oneCell']) (by unfold maxLen;omega) (by omega) (m5.out.2.1) ?_;intro v' w6 p1 p2 p3;have d0:=Qa p1;have d2:=Qa p2;clear p1 p2 p3);have d9:=LS.push (at_:=at_) (t:=⟨tk,ta,tm,ts,⟨dn,dd,dx⟩⟩) (vs:= []) (ts:= []) (lo:=at_) (p:=True) (n:=0) ⟨rfl,.inl ⟨rfl,rfl⟩⟩ (by have:=Hk.out;have:=f4.out;omega) Hk4.out c8.out m3.out m4.out (fun _=>⟨by simp,br.nil _,by simp[JV.sizes]⟩) (by have:=f4.out;omega) h0.out j0.out (fun h=>by obtain⟨hn,j,g1,g2,g3⟩:=n0.out h;have:=(Ht2.out (by trivial)).1 hn;exact⟨trivial,j,g1,g2.flat,by omega⟩) d0.out d2.out;have HLS0:=Qa d9;clear d9
    go_loopw [5] (fun s5 wx=>IW asc xs rb w at_ tb s5 wx) (fun _ wx=>mn xs.length rb wx)
    case atStart=>exact⟨_,_,_,_,HLS0.out⟩
    case round=>
     obtain⟨at',k',c',tt,g5⟩:=hrel;have cc:=g5.rd.code;obtain⟨A,n,q,rfl⟩:=g5.shape;have HLS:=Qa g5;clear g5
     by_cases hc:c'=0
     case neg=>
      have j1:(c'==0)=false:=by simpa using hc
      have Hc:=Qa hc;clear hc;go_wp2_with fail;go_meet
      case rel=>exact HLS.out.list 1 (fun h=>absurd h Hc.out)
     subst hc;go_wp2_with fail;refine(cX HLS.out.rd (by omega)).mono ?_;rintro e wn7 ⟨tn,at7,c7,rfl,e8,e6,b5,f1⟩;have b3:=Qa (HLS.out.step e8 e6 b5);have m1:=Qa b5;obtain⟨tk7,ta7,tm7,ts7,⟨dn7,dd7,dx7⟩⟩:=tn;have Ht7:=Qa f1;clear e8 e6 b5 f1;rw[show kf ⟨tk7,ta7,tm7,ts7,⟨dn7,dd7,dx7⟩⟩ =.agg #[.int .i64 tk7,.int .i64 ta7,.int .u8 tm7,.string ts7,.bool dn7,.string dd7,.int .i64 dx7] from rfl];have HLS7:=Qa (b3.out.put ⟨tk7,ta7,tm7,ts7,⟨dn7,dd7,dx7⟩⟩);clear cc
     by_cases hc7:c7=0
     case neg=>
      have j1:(c7 !=0)=true:=by simpa using hc7
      have Hc:=Qa hc7;clear hc7;go_wp2_with (refine wpList_store_rowTo rfl 180 (.tmp 6) (.tmp 46) rfl rfl tb (ep ⟨tk7,ta7,tm7,ts7,⟨dn7,dd7,dx7⟩⟩) (by simp[Act.eval]) (by simp[Act.eval,ep]) 180 _ b3.out.tok cY rfl (eY ..) ?_;generalize wn7.setRow tb (ep ⟨tk7,ta7,tm7,ts7,⟨dn7,dd7,dx7⟩⟩)=w7 at *;have cc:=HLS7.out.rd.code;obtain⟨t0,t1,t2,t3,t4,t5,t6⟩:=aW HLS7.out.tok;clear b3);go_meet
      case rel=>exact HLS7.out.list 1 (fun h=>absurd h Hc.out)
     subst hc7;have Hkle:=Qa HLS.out.rd.kle;go_wp2_with (refine wpList_store_rowTo rfl 180 (.tmp 6) (.tmp 46) rfl rfl tb (ep ⟨tk7,ta7,tm7,ts7,⟨dn7,dd7,dx7⟩⟩) (by simp[Act.eval]) (by simp[Act.eval,ep]) 180 _ b3.out.tok cY rfl (eY ..) ?_;generalize wn7.setRow tb (ep ⟨tk7,ta7,tm7,ts7,⟨dn7,dd7,dx7⟩⟩)=w7 at *;have cc:=HLS7.out.rd.code;obtain⟨t0,t1,t2,t3,t4,t5,t6⟩:=aW HLS7.out.tok;clear b3);have mk7:∀ (X:Int) (W:World),Calls Tryz.prog 110 #[.agg #[.int .i64 tk7,.int .i64 ta7,.int .u8 tm7,.string ts7,.bool dn7,.string dd7,.int .i64 dx7],.int .u8 X] W fun e w'=>ie ⟨tk7,ta7,tm7,ts7,⟨dn7,dd7,dx7⟩⟩ X W e w':=fun X W=>fe ⟨tk7,ta7,tm7,ts7,⟨dn7,dd7,dx7⟩⟩ X W
     have Mk7:=Qa mk7;clear mk7;refine(Mk7.out 93 w7).mono ?_;rintro e w8 ⟨b1,rfl,l1,d3⟩;have HLS8:=Qa (HLS7.out.below d3);have Hm1:=Qa l1;clear cc t0 t1 t2 t3 t4 t5 t6 l1 d3;have cc:=HLS8.out.rd.code;obtain⟨t0,t1,t2,t3,t4,t5,t6⟩:=aW HLS8.out.tok
     cases b1
     case true=>
      have Hm:=Qa (Hm1.out rfl);go_wp2_with fail;go_meet
      case rel=>exact HLS8.out.list 1 (fun _=>⟨by trivial,by have h1:=(Ht7.out (by trivial)).1;have h2:=Hm.out;have h3:=Hkle.out;have h4:at'+1<=at7:=h1 (by show ¬tk7=5;have:tk7=1:=h2;omega);omega⟩)
     go_wp2_with fail;refine(Mk7.out 44 w8).mono ?_;rintro e w9 ⟨b2,rfl,k2,l2⟩;have b7:=Qa (HLS8.out.below l2);have l3:=Qa k2;clear cc t0 t1 t2 t3 t4 t5 t6 k2 l2;have cc:=b7.out.rd.code;obtain⟨t0,t1,t2,t3,t4,t5,t6⟩:=aW b7.out.tok
     cases b2
     case false=>
      have wr:Calls Tryz.prog 84 #[.pointer (some ⟨rb,0,none⟩),.agg #[.int .i64 tk7,.int .i64 ta7,.int .u8 tm7,.string ts7,.bool dn7,.string dd7,.int .i64 dx7]] w9 (jY xs rb w9 at7 k'):=fg b7.out.rd ⟨tk7,ta7,tm7,ts7,⟨dn7,dd7,dx7⟩⟩;have Wr:=Qa wr;clear wr;go_wp2_with fail;refine Wr.out.mono ?_;rintro e w10 ⟨⟨v,rfl⟩,c10,e2,d5,d6⟩;have HLS10:=Qa (b7.out.step d5 d6 (Za _));have Hc10:=Qa e2;clear d5 d6 e2;go_wp2_with fail;go_meet
      case rel=>exact HLS10.out.list 1 (fun h=>absurd h Hc10.out)
     have b6:=Qa (show at'+1<=at7 from(Ht7.out (by trivial)).1 (by show ¬tk7=5;have:tk7=1:=l3.out rfl;omega));clear Mk7 Hm1 l3 Ht7;go_wp2_with fail;refine(cX b7.out.rd (by omega)).mono ?_;rintro e wn11 ⟨tn,at11,c11,rfl,e8,e6,b5,f1⟩;have b3:=Qa (b7.out.step e8 e6 b5);have a9:=Qa b5;obtain⟨tk11,ta11,tm11,ts11,⟨dn11,dd11,dx11⟩⟩:=tn;have i8:=Qa f1;clear e8 e6 b5 f1;rw[show kf ⟨tk11,ta11,tm11,ts11,⟨dn11,dd11,dx11⟩⟩ =.agg #[.int .i64 tk11,.int .i64 ta11,.int .u8 tm11,.string ts11,.bool dn11,.string dd11,.int .i64 dx11] from rfl];have b0:=Qa (b3.out.put ⟨tk11,ta11,tm11,ts11,⟨dn11,dd11,dx11⟩⟩);clear cc t0 t1 t2 t3 t4 t5 t6;go_wp2_with (refine wpList_store_rowTo rfl 180 (.tmp 6) (.tmp 64) rfl rfl tb (ep ⟨tk11,ta11,tm11,ts11,⟨dn11,dd11,dx11⟩⟩) (by simp[Act.eval]) (by simp[Act.eval,ep]) 180 _ b3.out.tok cY rfl (eY ..) ?_;generalize wn11.setRow tb (ep ⟨tk11,ta11,tm11,ts11,⟨dn11,dd11,dx11⟩⟩)=w11 at *;have cc:=b0.out.rd.code;obtain⟨t0,t1,t2,t3,t4,t5,t6⟩:=aW b0.out.tok;clear b3);have hv:∀dd',Calls Tryz.prog 83 #[.pointer (some ⟨rb,0,none⟩),.agg #[.int .i64 tk11,.int .i64 ta11,.int .u8 tm11,.string ts11,.bool dn11,.string dd11,.int .i64 dx11],.int .i64 dd'] w11 (jq asc xs rb w11 at11 (¬tk11=5)):=fun dd'=>HV.out at11 ⟨tk11,ta11,tm11,ts11,⟨dn11,dd11,dx11⟩⟩ w11 k' c11 dd' (fun _ _=>by have:=b6.out;have:=a9.out;have:=HLS.out.rk.2.1;omega) b0.out.rd (fun h=>⟨fun _=>by have:=b6.out;have:=a9.out;have:=Hkle.out;omega,(i8.out h).2⟩)
     refine(hv _).mono ?_;rintro e w12 ⟨A4,n4,q4,at12,k12,c12,rfl,d1,f3,c0,e7⟩;have g7:=Qa d1;have c3:=Qa f3;have b9:=Qa c0;have g9:=Qa e7;have e3:=Qa (ap w12 [.slice A4 n4 q4] 28);obtain⟨vs,ts,h1,h2,h9⟩:=b0.out.open;have c2:=Qa d1.atle;clear d1 f3 e7 c0 hv cc t0 t1 t2 t3 t4 t5 t6;have H1:=Qa h1;have H2:=Qa h2;have H9:=Qa h9;have d7:=Qa b0.out.rk;have c6:=Qa (ao (al h1 c3.out.2 (by unfold TR;decide)) (ac w12 (.cells #[.slice A4 n4 q4] 28)) (Za _));clear h1 h2 h9;have m9:n+1<=at12:=by have:=H2.out;have:=b9.out;have:=a9.out;have:=b6.out;omega
     have n9:at12<=100000:=by have:=c2.out;omega
     go_wp2_with (at_builtin;refine cQ mD rfl (.tmp 65) (.tmp 71) rfl w.heap.size (.slice A n q) n w12.heap.size 1 1 vs [.slice A4 n4 q4] (by simp[Act.eval]) c6.out (by simp[Act.eval]) rfl e3.out (by simp[Value.oneCell']) (by unfold maxLen;omega) (by omega) (by have:=d7.out.1.2.1;have:=c3.out.2.1;simp;omega) ?_;intro v' w13 p1 p2 p3;have d0:=Qa p1;have d2:=Qa p2;clear p1 p2 p3);have hend:=LS.push (at_:=at_) (t:=⟨tk11,ta11,tm11,ts11,⟨dn11,dd11,dx11⟩⟩) H1.out m9 d7.out.1 b0.out.tok d7.out.2.2.2.1 d7.out.2.2.2.2 H9.out (by have:=d7.out.2.1;have:=H2.out;have:=b9.out;have:=a9.out;have:=b6.out;omega) g7.out c3.out (fun h=>⟨by trivial,by obtain⟨hn,j,g1,g2,g3⟩:=g9.out h;exact⟨j,g1,g2.flat,by have:=a9.out;have:=b6.out;omega⟩⟩) d0.out d2.out;exact⟨⟨_,_,_,_,hend⟩,by show mn xs.length rb _<mn xs.length rb _;exact HLS.out.rd.mu_lt hend.rd (by have:=b9.out;have:=a9.out;have:=b6.out;omega)⟩
  case rest=>
   obtain⟨A,n,q,vs,ts,at9,k9,c9,rfl,h1,h2,h3,h4,h5,h6⟩:=hcut;have HT:=Qa h6;have f0:=Qa h3;have g6:=Qa h4;have c6:=Qa h1;have e4:=Qa h5;have cc:=h3.code;clear h1 h2 h3 h4 h5 h6
   by_cases hc:c9=0
   case neg=>
    have j1:(c9 !=0)=true:=by simpa using hc
    have Hc:=Qa hc;clear hc;go_wp2_with fail;go_ret;exact⟨none,0,0,at9,k9,c9,rfl,f0.out,g6.out,e4.out,fun h=>absurd h Hc.out⟩
   subst hc;obtain⟨g1,g2,g3,g4⟩:=HT.out rfl;have G1:=Qa g1;have G2:=Qa g2;have G3:=Qa g3;have G4:=Qa g4;clear g1 g2 g3 g4 HT H f6 d4 f9 c2 c1;have b8:=ac wc (.cells #[.int .i64 4,.int .i64 d,.int .i64 5,.string es,.slice none 0 0] 237);have b4:=f0.out.lt;obtain⟨a1,a2,a3,a4,a5,a6,a7,L,m,hh,l,us,w0,h1,h2,h3,h4,h5,h6,h7⟩:=f0.out;have c12:=aa h1 (j:=12) (u:=.slice a3 _ a4) rfl;have g1:=(b8.block _ b4).trans h1;have H:=Qa (And.intro g1 (And.intro h2 (And.intro h3 (And.intro (h4.trans (b8.mono (Zi b4))) (And.intro (ao h5 b8 (Za _)) h6)))));have f6:=Qa (ap wc [.int .i64 4,.int .i64 d,.int .i64 5,.string es,.slice none 0 0] 237);have d4:=Qa b8;have f9:=Qa (show rb+1<=wc.heap.size from b4);have c2:=Qa h6;clear h1 h2 h3 h4 h5 h6 h7 b8 g1 b4;go_wp2_with (at_builtin;refine cQ jc rfl (.tmp 83) (.tmp 86) rfl (rb+1) (.slice a3 k9 a4) k9 wc.heap.size 1 1 us [.int .i64 4,.int .i64 d,.int .i64 5,.string es,.slice none 0 0] (by simp[Act.eval]) H.out.2.2.2.2.1 (by simp[Act.eval]) rfl f6.out (by simp[Value.oneCell']) (by have:=G4.out;have:=c2.out;unfold maxLen;omega) (by have:=G4.out;have:=c2.out;omega) (Zb f9.out d4.out.size) ?_;intro v' w7 p1 p2 p3;have d0:=Qa p1;have d2:=Qa p2;(obtain⟨A',c',he,-⟩:=ag p1);subst he;have a0:=jl H.out.1 H.out.2.1 H.out.2.2.1 H.out.2.2.2.1 H.out.2.2.2.2.1 H.out.2.2.2.2.2 G4.out d0.out d2.out;have r12:=aa a0.1 (j:=12) (u:=.slice a3 k9 a4) rfl;have f12:=aj a0.1 12;have c1:=Qa a0;clear p1 p2 p3 a0);have f5:=(Rk.of_below d4.out (Zi f0.out.lt)).trans c1.out.2.2;have j2:=Qa f5;have e5:=Qa (al c6.out f5.2 (by unfold TR;decide));have m2:=Qa (G2.out.mono fun _ _ h=>h.keeps f5.2 gJ kE kw);have n6:JV.sizes ts<=100000:=by have:=G3.out;have:=f0.out.atle;omega
   clear f5 c12 r12 f12;refine(vb ⟨vs,Sl.of_own e5.out,m2.out.mono fun _ _ h=>h.low (Zj _)⟩ (by omega) (fun t ht x hx=>?_)).mono ?_
   ·obtain⟨q1,q2⟩:=mZ (G1.out t ht) 0 x hx;have:=l6 ht;exact⟨by omega,fun z hz=>by have:=q2 z hz;omega⟩
   rintro e w8 ⟨v,rfl,d3,i2⟩;have e0:∃A n q,v =.slice A n q:=by obtain⟨A,q,e,_⟩:=i2.form;exact⟨_,_,_,e⟩
   obtain⟨A8,n8,q8,rfl⟩:=e0;have n1:=Qa (c1.out.2.1.below d3);have n2:=Qa ((g6.out.trans j2.out).trans (Rk.of_below d3 (Zi c1.out.2.1.lt)));have n3:=Qa ((i2.low (Zi c1.out.2.1.lt)).imp (Q:=(w.heap.size<= ·)) (fun g h _=>Zb (g6.out.trans j2.out).2.1 h));clear d3 i2;go_wp2_with fail;go_ret;exact⟨A8,n8,q8,at9,k9+1,0,rfl,n1.out,n2.out,e4.out,fun _=>⟨trivial,.mk 5 false es lL [] ts,.list _ G1.out,n3.out,by have:=G3.out;simp only[JV.size];omega⟩⟩
