import Derived.Test.YtibmppoeeppnoaaGreatDoorGZ4ap
set_option linter.unusedVariables false
set_option linter.unusedSimpArgs false
set_option maxHeartbeats 64000000
set_option maxRecDepth 100000
namespace Go.Proofs.YtibmppoeeppnoaaGreatDoor
open Go.RowKit
variable {s:ByteArray}{c2 c4:Int}{names:List ByteArray}{ts:List JV}{xs:List UInt8}{vs:List Value}{B at4 at_ iu k k1 k2 k4 kN n q q6 rb:Nat}{A A6:Option Addr}{T:TypeId->Prop}{v:Value}{W W' W2 w w1 w2 wx:World}
def mS (xs:List UInt8)(rb:Nat)(w:World)(at_ lo:Nat)(n:Nat)(names:List ByteArray)(own:Option Nat)(vs:List Value)(ts:List JV)(wx:World):Prop:=
 n<=lo/\names.Nodup/\(∀s∈names,iT s)/\(∀u∈ts,bR dU u)/\br (fun v ns=>bF (fun g=>own≠some g) wx rb v ns) vs (ts.map (JV.flat 0))/\JV.sizes ts+at_<=lo
def Cq (xs:List UInt8)(rb:Nat)(w:World)(at_:Nat)(s5 s6:Value)(wx:World):Prop:= ∃ (A:Option Addr) (n q:Nat) (A6:Option Addr) (q6:Nat) (names:List ByteArray) (vs:List Value) (ts:List JV) (at' k':Nat) (c:Int),s5 =.slice A n q/\s6 =.slice A6 n q6/\
 wx.ownsRow w.heap.size 9 1 (.slice A n q) n (names.map dL)/\wx.ownsRow w.heap.size 28 1 (.slice A6 n q6) n vs/\Rd xs rb wx at' k' c/\Rk rb w wx/\at_<=at'/\(c=0->k'+1<=at'/\mS xs rb w at_ at' n names (Value.slice A n q).ownBlock vs ts wx)
def OS (xs:List UInt8)(rb:Nat)(w:World)(at_ tb lo:Nat)(p:Prop)(at' k':Nat)(c:Int)(s5 s6:Value)(t:Tk)(wx:World):Prop:= ∃ (A:Option Addr) (n q:Nat) (A6:Option Addr) (q6:Nat) (names:List ByteArray) (vs:List Value) (ts:List JV),s5 =.slice A n q/\s6 =.slice A6 n q6/\
 wx.ownsRow w.heap.size 9 1 (.slice A n q) n (names.map dL)/\wx.ownsRow w.heap.size 28 1 (.slice A6 n q6) n vs/\lo<=at'/\Rd xs rb wx at' k' c/\Rk rb w wx/\at_<=lo/\
 wx.heap[tb]?=some (.cells (ep t) 180 (0,0))/\w.heap.size<=tb/\rb<w.heap.size/\(p->mS xs rb w at_ lo n names (Value.slice A n q).ownBlock vs ts wx)
theorem mS.keeps {lo:Nat}{own:Option Nat}(h:mS xs rb w at_ lo n names own vs ts wx)(hk:aG T wx w2)(h1:¬T 9)(h2:¬T 3)(h3:¬T 69):mS xs rb w at_ lo n names own vs ts w2:=by
 obtain⟨g1,g2,g3,g4,g5,g6⟩:=h;exact⟨g1,g2,g3,g4,g5.mono fun _ _ h=>h.keeps hk h1 h2 h3,g6⟩
section
variable {xs:List UInt8}{rb:Nat}{w wx:World}{at_ tb lo at' k':Nat}{p:Prop}{c:Int}{s5 s6:Value}{t:Tk}
theorem OS.rd (h:OS xs rb w at_ tb lo p at' k' c s5 s6 t wx):Rd xs rb wx at' k' c:=by obtain⟨_,_,_,_,_,_,_,_,_,_,_,_,_,h,_⟩:=h;exact h
theorem OS.tok (h:OS xs rb w at_ tb lo p at' k' c s5 s6 t wx):wx.heap[tb]?=some (.cells (ep t) 180 (0,0)):=by obtain⟨_,_,_,_,_,_,_,_,_,_,_,_,_,_,_,_,h,_⟩:=h;exact h
theorem OS.shape (h:OS xs rb w at_ tb lo p at' k' c s5 s6 t wx):∃A n q A6 q6,s5 =.slice A n q/\s6 =.slice A6 n q6:=by obtain⟨A,n,q,A6,q6,_,_,_,h,h',_⟩:=h;exact⟨A,n,q,A6,q6,h,h'⟩
theorem OS.rk (h:OS xs rb w at_ tb lo p at' k' c s5 s6 t wx):Rk rb w wx/\at_<=lo/\lo<=at'/\w.heap.size<=tb/\rb<w.heap.size:=by
 obtain⟨_,_,_,_,_,_,_,_,_,_,_,_,h1,_,h2,h3,_,h4,h5,_⟩:=h;exact⟨h2,h3,h1,h4,h5⟩
theorem OS.step (h:OS xs rb w at_ tb lo p at' k' c s5 s6 t wx)(hR:Rd xs rb w2 kN k2 c2)(hk:Rk rb wx w2)(hat:at'<=kN):OS xs rb w at_ tb lo p kN k2 c2 s5 s6 t w2:=by
 obtain⟨A,n,q,A6,q6,names,vs,ts,rfl,rfl,h1,h2,h3,h4,h5,h6,h7,h8,h9,a0⟩:=h;exact⟨A,n,q,A6,q6,names,vs,ts,rfl,rfl,al h1 hk.2 gJ,al h2 hk.2 (by unfold TR;decide),by omega,hR,h5.trans hk,h6,hk.row h7 cC,h8,h9,fun e=>(a0 e).keeps hk.2 gJ kE kw⟩
theorem OS.put (h:OS xs rb w at_ tb lo p at' k' c s5 s6 t wx)(t2:Tk):OS xs rb w at_ tb lo p at' k' c s5 s6 t2 (wx.setRow tb (ep t2)):=by
 obtain⟨A,n,q,A6,q6,names,vs,ts,rfl,rfl,h1,h2,h3,h4,h5,h6,h7,h8,h9,a1⟩:=h;have a0:aG (fun e=>e=180) wx (wx.setRow tb (ep t2)):=aG.of_grown (ah ..) (fun g e cs T z hh=>by cases e;rw[h7] at hh;injection hh with hh;injection hh with _ hh;exact hh.symm);exact⟨A,n,q,A6,q6,names,vs,ts,rfl,rfl,al h1 a0 (by decide),al h2 a0 (by decide),h3,h4.other h7 cC (by omega) _,h5.fresh h8 (Zi h9) _,h6,setRow_heap _ _ _ _ _ _ h7,h8,h9,fun e=>(a1 e).keeps a0 (by decide) (by decide) (by decide)⟩
theorem OS.below (h:OS xs rb w at_ tb lo p at' k' c s5 s6 t wx)(hb:Below wx.heap.size wx w2):OS xs rb w at_ tb lo p at' k' c s5 s6 t w2:=
 h.step (h.rd.below hb) (Rk.of_below hb (Zi h.rd.lt)) (Za _)
theorem OS.open (h:OS xs rb w at_ tb lo p at' k' c (.slice A n q) (.slice A6 n q6) t wx):∃names vs ts,wx.ownsRow w.heap.size 9 1 (.slice A n q) n (names.map dL)/\wx.ownsRow w.heap.size 28 1 (.slice A6 n q6) n vs/\(p->mS xs rb w at_ lo n names (Value.slice A n q).ownBlock vs ts wx):=by
 obtain⟨_,_,_,_,_,names,vs,ts,e,e',h1,h2,_,_,_,_,_,_,_,a0⟩:=h;injection e with e1 e2 e3
 injection e' with e4 _ e6
 subst e1 e2 e3 e4 e6;exact⟨names,vs,ts,h1,h2,a0⟩
theorem OS.obj (h:OS xs rb w at_ tb lo p at' k' c s5 s6 t wx)(he:c=0->p/\k'+1<=at'):Cq xs rb w at_ s5 s6 wx:=by
 obtain⟨A,n,q,A6,q6,names,vs,ts,rfl,rfl,h1,h2,h3,h4,h5,h6,h7,h8,h9,a0⟩:=h;exact⟨A,n,q,A6,q6,names,vs,ts,at',k',c,rfl,rfl,h1,h2,h4,h5,by omega,fun e=>⟨(he e).2,by obtain⟨g1,g2,g3,g4,g5,g6⟩:=a0 (he e).1;exact⟨by omega,g2,g3,g4,g5,by omega⟩⟩⟩
theorem Rd.grownRow {T:TypeId}(h:Rd xs rb W at' k' c)(hv:W.ownsRow B T k v n vs)(hT:T≠237)(hB:rb<B)(a9:B<=W.heap.size)(hg:W.grownBy W' v.ownBlock):Rd xs rb W' at' k' c:=by
 have hlt:=h.lt;have hb:Below B W W':=bw (Zd B W) hv a9 hg;obtain⟨a1,a2,a3,a4,a5,a6,a7,L,m,hh,l,us,w0,h1,h2,h3,h4,h5,h6⟩:=h;refine⟨a1,a2,a3,a4,a5,a6,a7,L,m,hh,l,us,w0,(hb.block rb hB).trans h1,h2,h3,h4.trans (hb.mono (Zi hB)),World.ownsRow.kept h5 hg ?_,h6⟩
 cases hb:(Value.slice a3 _ a4).ownBlock with
 |none=>exact .inl rfl
 |some x=>
  obtain⟨_,cur,hx⟩:=ak h5 hb;refine .inr (fun e=>?_);obtain⟨_,cur2,a0⟩:=ak hv e.symm;rw[hx] at a0;injection a0 with a0;injection a0 with _ a0;exact hT a0.symm
theorem OS.push {W1 W3:World}{Av:Option Addr}{vn vq:Nat}{v5 v6:Value}
  (h1:wx.ownsRow w.heap.size 9 1 (.slice A n q) n (names.map dL)) (h2:wx.ownsRow w.heap.size 28 1 (.slice A6 n q6) n vs) (h5:Rk rb w wx) (h7:wx.heap[tb]?=some (.cells (ep t) 180 (0,0))) (h8:w.heap.size<=tb) (h9:rb<w.heap.size)
  (c2:mS xs rb w at_ lo n names (Value.slice A n q).ownBlock vs ts wx) (hat:at_<=at4) (hR:Rd xs rb W1 at4 k4 c4) (hk:Rk rb wx W1)
  (hj:c4=0->n+1<=at4/\iT s/\s∉names/\∃j:JV,bR dU j/\bF (wx.heap.size<= ·) W1 rb (.slice Av vn vq) (j.flat 0)/\j.size+lo<=at4)
  (b6:W2.ownsRow w.heap.size 9 1 v5 (n+1) (names.map dL ++ [dL s])) (a7:v5.ownBlock= (Value.slice A n q).ownBlock\/v5.ownBlock=some (W1.alloc (.cells #[.string s] 9)).heap.size) (a4:(W1.alloc (.cells #[.string s] 9)).grownBy W2 (Value.slice A n q).ownBlock)
  (b7:W3.ownsRow w.heap.size 28 1 v6 (n+1) (vs ++ [.slice Av vn vq])) (b1:(W2.alloc (.cells #[.slice Av vn vq] 28)).grownBy W3 (Value.slice A6 n q6).ownBlock) :
  OS xs rb w at_ tb at4 (c4=0) at4 k4 c4 v5 v6 t W3:=by
 obtain⟨A',q',rfl,-⟩:=ag b6;obtain⟨A6',q6',rfl,-⟩:=ag b7;have a2:=ac W1 (.cells #[.string s] 9);have a0:=ac W2 (.cells #[.slice Av vn vq] 28);have hrb:=Zi h9;have a3:Rk rb wx (W1.alloc (.cells #[.string s] 9)):=hk.trans (Rk.of_below a2 (Zi hR.lt));have a5:=al h1 a3.2 gJ;have c1:=Zb h5.2.1 a3.2.1;have b8:=nx a5 a4;have b5:=(hR.below a2).grownRow a5 (by decide) h9 c1 a4;have a9:=b5.below a0;have b4:=((h5.trans a3).grownFresh a4 (fun g e=>(ak a5 e).1) hrb).trans (Rk.of_below a0 (Zi b5.lt));have b2:=(al (al h2 a3.2 (by unfold TR;decide)) b8 (by decide)).below' a0;have b0:=pO b2 b1;have b9:=b4.2.1;have c0:(W2.alloc (.cells #[.slice Av vn vq] 28)).heap[tb]?=some (.cells (ep t) 180 (0,0)):=by
  have a1:=b8.2 _ _ _ _ (a3.row h7 cC) (by decide);exact(a0.block _ (ae a1)).trans a1
 refine⟨A',n+1,q',A6',q6',names ++ [s],vs ++ [.slice Av vn vq],(@dite _ (c4=0) (Classical.propDecidable _) (fun h=>ts ++ [Classical.choose (hj h).2.2.2]) (fun _=> [])),rfl,rfl,by rw[List.map_append];exact al (b6.below' a0) b0 (by decide),b7,Za _,a9.grownRow b2 (by decide) h9 b9 b1,b4.grownFresh b1 (fun g e=>(ak b2 e).1) hrb,hat,b0.2 _ _ _ _ c0 (by decide),h8,h9,fun e=>?_⟩;simp only[dif_pos e];obtain⟨g1,g2,g3,g4,g5,g6⟩:=c2;obtain⟨r1,r2,r3,r4⟩:=hj e;obtain⟨q1,q2,q3⟩:=Classical.choose_spec (hj e).2.2.2;generalize Classical.choose (hj e).2.2.2=j at *;refine⟨r1,?_,?_,?_,?_,?_⟩
 ·rw[List.nodup_append];exact⟨g2,by simp,fun a ha b hb e=>by simp at hb;subst hb;subst e;exact r3 ha⟩
 ·intro x hx;rcases List.mem_append.1 hx with hx|hx;exact g3 x hx;simp at hx;subst hx;exact r2
 ·intro u hu;rcases List.mem_append.1 hu with hu|hu;exact g4 u hu;simp at hu;subst hu;exact q1
 ·rw[List.map_append];have a6:∀g,(Value.slice A n q).ownBlock=some g->g<wx.heap.size:=fun g e=>(World.ownsRow.lt h1 g e).2
  have b3:∀g:Nat,(Value.slice A n q).ownBlock≠some g->g< (W1.alloc (.cells #[.string s] 9)).heap.size->(Value.slice A' (n+1) q').ownBlock≠some g:=fun g h1 h2 e=>by
   rcases a7 with h|h
   ·rw[h] at e;exact h1 e
   ·rw[h] at e;injection e with e;omega
  have step:∀ (v:Value) (ns:List Nd),bF (fun g=>(Value.slice A n q).ownBlock≠some g) (W1.alloc (.cells #[.string s] 9)) rb v ns->bF (fun g=>(Value.slice A' (n+1) q').ownBlock≠some g) W3 rb v ns:=fun v ns h=>by
   have h':=(h.imp (Q:=fun g=>(Value.slice A n q).ownBlock≠some g/\(Value.slice A' (n+1) q').ownBlock≠some g) (fun g a b=>⟨a,b3 g a b⟩)).grownStr a4 (cD a5) (fun g a=>a.1);exact((h'.below a0 (Za _)).keeps b0 (by decide) (by decide) (by decide)).imp (fun g a _=>a.2)
  refine(g5.mono fun v ns h=>step v ns (h.keeps a3.2 gJ kE kw)).snoc (step _ _ ((q2.below a2 (Za _)).imp (fun g a _ e=>?_)));have:=a6 g e;omega
 ·rw[cM];simp only[JV.sizes];omega
end
theorem Rd.mu_lt' {c1:Int}(h1:Rd xs rb w1 iu k1 c1)(h2:Rd xs rb w2 kN k2 c2)(h:iu+1<=kN):mn xs.length rb w2<mn xs.length rb w1:=by
 rw[h1.mu,h2.mu];have:=h2.atle;split <;> split <;> omega
def II (xs:List UInt8)(rb:Nat)(w:World)(at_ tb:Nat)(s5 s6:Value)(wx:World):Prop:= ∃lo at' k' c t,OS xs rb w at_ tb lo True at' k' c s5 s6 t wx/\(c=0->(t.kind≠5->k'+1<=at')/\js t)
theorem uF (hl:xs.length<=6000)
  (hV:∀ (iu:Nat) (t:Tk) (w:World) (k:Nat) (c:Int) (d:Int),(c=0->t.kind≠5->at_+1<=iu)->Rd xs rb w iu k c->(c=0->(t.kind≠5->k+1<=iu)/\js t)->
   Calls Tryz.prog 83 #[.pointer (some ⟨rb,0,none⟩),kf t,.int .i64 d] w (jq dU xs rb w iu (t.kind≠5)))
  {w:World} {k:Nat} (d:Int) (h:Rd xs rb w at_ k 0) (hk:k+1<=at_):Calls Tryz.prog 113 #[.pointer (some ⟨rb,0,none⟩),.int .i64 d] w (jq dU xs rb w at_ True):=by
 have HR:=Qa h;have Hk:=Qa hk;have HV:=Qa hV;clear hV hk h;have b7:=ac w (.cells #[.int .i64 1,.int .i64 d,.int .i64 6,.string es,.slice none 0 0] 237);have b3:=HR.out.lt;obtain⟨a1,a2,a3,a4,a5,a6,a7,L,m,hh,l,us,w0,h1,h2,h3,h4,h5,h6,h7⟩:=HR.out;have c12:=aa h1 (j:=12) (u:=.slice a3 _ a4) rfl;have g1:=(b7.block _ b3).trans h1;have H:=Qa (And.intro g1 (And.intro h2 (And.intro h3 (And.intro (h4.trans (b7.mono (Zi b3))) (And.intro (ao h5 b7 (Za _)) h6)))));have f6:=Qa (ap w [.int .i64 1,.int .i64 d,.int .i64 6,.string es,.slice none 0 0] 237);have d1:=Qa b7;have f2:=Qa (show rb+1<=w.heap.size from b3);have c0:=Qa h6;clear h1 h2 h3 h4 h5 h6 h7 b7 g1 b3;go_enter Tryz.func113,Tryz.ntmps113;go_wp2_with (at_builtin;refine lH jc H.out.2.2.2.2.1 f6.out (Zb f2.out d1.out.size) ?_ (hlen:=(by have:=Hk.out;have:=c0.out;unfold maxLen;omega)) (hby:=(by have:=Hk.out;have:=c0.out;omega));intro v' w1 p1 p2 p3;have c4:=Qa p1;have c7:=Qa p2;(obtain⟨A',c',he,-⟩:=ag p1);subst he;have a0:=jl H.out.1 H.out.2.1 H.out.2.2.1 H.out.2.2.2.1 H.out.2.2.2.2.1 H.out.2.2.2.2.2 Hk.out c4.out c7.out;have r12:=aa a0.1 (j:=12) (u:=.slice a3 k a4) rfl;have f12:=aj a0.1 12;have b8:=Qa a0;clear p1 p2 p3 a0);refine(cX b8.out.2.1 (by omega)).mono ?_;rintro e w2 ⟨t,kN,c,rfl,k0,k6,d7,m1⟩;have g9:=Qa k0;have i8:=Qa (((Rk.of_below d1.out (Zi HR.out.lt)).trans b8.out.2.2).trans k6);have Ht2:=Qa m1;have i2:=Qa d7;obtain⟨tk,ta,tm,ts,⟨dn,dd,dx⟩⟩:=t;rw[show kf ⟨tk,ta,tm,ts,⟨dn,dd,dx⟩⟩ =.agg #[.int .i64 tk,.int .i64 ta,.int .u8 tm,.string ts,.bool dn,.string dd,.int .i64 dx] from rfl];have c1:=ac w2 (.cells #[.int .i64 tk,.int .i64 ta,.int .u8 tm,.string ts,.bool dn,.string dd,.int .i64 dx] 180);have f8:=Qa (Ze w2 (.cells #[.int .i64 tk,.int .i64 ta,.int .u8 tm,.string ts,.bool dn,.string dd,.int .i64 dx] 180));have f1:=Qa (g9.out.below c1);have l2:=Qa (i8.out.trans (Rk.of_below c1 (Zi g9.out.lt)));have n4:=Qa (show w.heap.size<=w2.heap.size from i8.out.2.1);have p4:=Qa HR.out.lt;clear k0 k6 m1 d7 c1 g9 i8 c12 r12 f12;have mk:∀ (X:Int) (W:World),Calls Tryz.prog 110 #[.agg #[.int .i64 tk,.int .i64 ta,.int .u8 tm,.string ts,.bool dn,.string dd,.int .i64 dx],.int .u8 X] W fun e w'=>ie ⟨tk,ta,tm,ts,⟨dn,dd,dx⟩⟩ X W e w':=fun X W=>fe ⟨tk,ta,tm,ts,⟨dn,dd,dx⟩⟩ X W
 have Mk:=Qa mk;clear mk;go_upto_region 5 with fail
 generalize (w2.alloc (.cells #[.int .i64 tk,.int .i64 ta,.int .u8 tm,.string ts,.bool dn,.string dd,.int .i64 dx] 180))=w3 at *;generalize w2.heap.size=tb at *;go_cut [35] (fun s35 wx=>(∃b:Bool,s35 =.bool b/\(b=false->c=0->tk=1)/\(b=true->c=0))/\Below w3.heap.size w3 wx)
 case first=>
  have cc:=f1.out.code;obtain⟨t0,t1,t2,t3,t4,t5,t6⟩:=aW (t:=⟨tk,ta,tm,ts,⟨dn,dd,dx⟩⟩) f8.out
  by_cases hc:c=0
  ·have Hc:=Qa hc;subst hc;go_wp2_with fail;refine(Mk.out 125 w3).mono ?_;rintro e w4 ⟨b,rfl,hm,j0⟩;have Hm:=Qa hm;have Hb4:=Qa j0;clear hm j0 t0 t1 t2 t3 t4 t5 t6 cc
   cases b
   ·go_wp2_with fail;go_meet
    case rel=>exact⟨⟨_,rfl,(fun h=>absurd h (by decide)),(fun _=>by trivial)⟩,Hb4.out⟩
   ·have Hm1:=Qa (Hm.out rfl);go_wp2_with fail;go_meet
    case rel=>exact⟨⟨_,rfl,(fun _ _=>Hm1.out),(fun h=>absurd h (by decide))⟩,Hb4.out⟩
  ·have l1:(c==0)=false:=by simpa using hc
   have Hc:=Qa hc;clear hc;go_wp2_with fail;go_meet
   case rel=>exact⟨⟨_,rfl,(fun _ h=>absurd h Hc.out),(fun h=>absurd h (by decide))⟩,Zd _ _⟩
 case rest=>
  obtain⟨⟨b,rfl,n0,k1⟩,f4⟩:=hcut;have Hq1:=Qa n0;have d0:=Qa k1;have i5:=Qa (f1.out.below f4);have g7:=Qa (l2.out.trans (Rk.of_below f4 (Zi f1.out.lt)));have c2:=Qa ((f4.block _ (ae f8.out)).trans f8.out);clear n0 k1 f4;obtain⟨w4,m3⟩:∃x,wc=x:=⟨_,rfl⟩;rw[m3] at i5 g7 c2 ⊢;clear m3;have HO4:Hid (OS xs rb w at_ tb at_ True kN (k+1) c (.slice none 0 0) (.slice none 0 0) ⟨tk,ta,tm,ts,⟨dn,dd,dx⟩⟩ w4):=Qa ⟨none,0,0,none,0, [], [], [],rfl,rfl,⟨rfl,.inl ⟨rfl,rfl⟩⟩,⟨rfl,.inl ⟨rfl,rfl⟩⟩,i2.out,i5.out,g7.out,Za _,c2.out,n4.out,p4.out,fun _=>⟨Zj _,by simp,by simp,by simp,br.nil _,by simp[JV.sizes]⟩⟩;go_upto_if 35 with fail
  go_cut [5,6] (fun s5 s6 wx=>Cq xs rb w at_ s5 s6 wx)
  case first=>
   cases b
   ·go_wp2_with fail;go_meet
    case rel=>exact HO4.out.obj (fun h=>⟨by trivial,by have e1:tk=1:=(by first|exact Hq1.out rfl h|exact Hq1.out h|exact Hq1.out trivial h);have:=(Ht2.out h).1 (by show ¬tk=5;omega);have:=Hk.out;omega⟩)
   ·have o2:c=0:=(by first|exact d0.out rfl|exact d0.out trivial|exact d0.out);subst o2;have Hst:Hid (II xs rb w at_ tb (.slice none 0 0) (.slice none 0 0) w4):=Qa ⟨_,_,_,_,_,HO4.out,fun _=>⟨fun h=>by have:=(Ht2.out (by trivial)).1 h;have:=Hk.out;omega,(Ht2.out (by trivial)).2⟩⟩;clear Mk Hq1 d0 HO4 i5 g7 c2 f1 l2 f8 Ht2;go_wp2_with fail
    go_loopw [5,6,8,9,36] (fun s5 s6 _ _ _ wx=>II xs rb w at_ tb s5 s6 wx) (fun _ _ _ _ _ wx=>mn xs.length rb wx)
    case atStart=>exact Hst.out
    case round=>
     obtain⟨lo,at',k',c',tt,d5,d4⟩:=hrel;obtain⟨A,n,q,A6,q6,rfl,rfl⟩:=d5.shape;obtain⟨Dg,ta0,tm0,ts0,⟨dn0,dd0,dx0⟩⟩:=tt;have d3:=Qa d5;have n2:=Qa d4;have b6:=Qa d5.rk;obtain⟨names,vs,ts,h1,h2,h9⟩:=d5.open;have hn:n=names.length:=by have:=h1.1;simpa using this.symm
     subst hn;have H1:=Qa h1;have H2:=Qa h2;have H9:=Qa (h9 trivial);have cc:=d3.out.rd.code;obtain⟨t0,t1,t2,t3,t4,t5,t6⟩:=aW d3.out.tok;clear d5 d4 h1 h2 h9;have hm:=sI dU hl HV.out ⟨Dg,ta0,tm0,ts0,⟨dn0,dd0,dx0⟩⟩ d d3.out.rd H1.out (Zb b6.out.2.1 b6.out.2.2.1) n2.out;rw[show kf ⟨Dg,ta0,tm0,ts0,⟨dn0,dd0,dx0⟩⟩ =.agg #[.int .i64 Dg,.int .i64 ta0,.int .u8 tm0,.string ts0,.bool dn0,.string dd0,.int .i64 dx0] from rfl] at hm;have Hm:=Qa hm;clear hm;go_wp2_with fail;refine Hm.out.mono ?_;rintro e w5 ⟨s,Av,vn,vq,at5,k5,c5,rfl,g8,i0,d9,m2⟩;have k4:=Qa g8;have f3:=Qa i0;have e0:=Qa d9;have h0:=Qa m2;have c0:=Qa g8.atle;have hS:=(al H1.out i0.2 gJ).below' (ac w5 (.cells #[.string s] 9));have HS:=Qa hS;have q5:names.length<=100000:=by have:=H9.out.1;have:=b6.out.2.2.1;have:=e0.out;have:=c0.out;omega
     clear g8 i0 d9 m2 hS Hm cc t0 t1 t2 t3 t4 t5 t6;go_wp2_with (first
      |(at_builtin;refine lH yM HS.out (ap w5 [.string s] 9) (by have:=b6.out.1.2.1;have:=f3.out.2.1;simp;omega) ?_ (h1:=(by simp[dL,Value.oneCell']));intro v5 w6 p1 p2 p3;have c4:=Qa p1;have c7:=Qa p2;have l4:=Qa p3;have q0:=p2.size;have HT:=Qa ((al (al H2.out (f3.out.trans (Rk.of_below (ac w5 (.cells #[.string s] 9)) (Zi k4.out.lt))).2 (by unfold TR;decide)) (nx HS.out p2) (by decide)).below' (ac w6 (.cells #[.slice Av vn vq] 28)));clear p1 p2 p3)
      |(at_builtin;refine lH mD HT.out (ap w6 [.slice Av vn vq] 28) (by have:=b6.out.1.2.1;have:=f3.out.2.1;simp at q0 ⊢;omega) ?_;intro v6 w7 p1 p2 p3;have Hq1:=Qa p1;have d0:=Qa p2;have c3:=OS.push (s:=s) (t:=⟨Dg,ta0,tm0,ts0,⟨dn0,dd0,dx0⟩⟩) H1.out H2.out b6.out.1 d3.out.tok b6.out.2.2.2.1 b6.out.2.2.2.2 H9.out (by have:=b6.out.2.1;have:=b6.out.2.2.1;have:=e0.out;omega) k4.out f3.out (fun h=>by obtain⟨j1,j2,j3,j,g1,g2,g3⟩:=h0.out h;exact⟨by have:=H9.out.1;have:=b6.out.2.2.1;omega,j2,j3,j,g1,g2,by have:=b6.out.2.2.1;omega⟩) c4.out l4.out c7.out p1 p2;have HLS7:=Qa c3;have cc:=c3.rd.code;clear p1 p2 p3 c3))
     ·have f5:¬c5=0:=by have h:(c5 !=0)=true:=(by assumption);simpa using h
      have Hc5:=Qa f5;clear f5;go_meet
      case rel=>exact HLS7.out.obj (fun h=>absurd h Hc5.out)
     have f5:c5=0:=by have h:(c5 !=0)=false:=(by assumption);simpa using h
     subst f5;have Hj:=Qa (h0.out (by trivial)).1;have Hkle:=Qa HLS7.out.rd.kle;clear h0 c4 c7 l4 Hq1 d0 HT HS H1 H2 H9 cc;refine(cX HLS7.out.rd (by omega)).mono ?_;rintro e wn8 ⟨tn,at8,c8,rfl,e6,d6,b4,e8⟩;have b0:=Qa (HLS7.out.step e6 d6 b4);have n5:=Qa b4;obtain⟨tk8,ta8,tm8,ts8,⟨dn8,dd8,dx8⟩⟩:=tn;have Ht8:=Qa e8;clear e6 d6 b4 e8;rw[show kf ⟨tk8,ta8,tm8,ts8,⟨dn8,dd8,dx8⟩⟩ =.agg #[.int .i64 tk8,.int .i64 ta8,.int .u8 tm8,.string ts8,.bool dn8,.string dd8,.int .i64 dx8] from rfl];have HLS8:=Qa (b0.out.put ⟨tk8,ta8,tm8,ts8,⟨dn8,dd8,dx8⟩⟩)
     by_cases hc8:c8=0
     case neg=>
      have l1:(c8 !=0)=true:=by simpa using hc8
      have Hc:=Qa hc8;clear hc8;go_wp2_with (refine wpList_store_rowTo rfl 180 (.tmp 7) (.tmp 59) rfl rfl tb (ep ⟨tk8,ta8,tm8,ts8,⟨dn8,dd8,dx8⟩⟩) (by simp[Act.eval]) (by simp[Act.eval,ep]) 180 _ b0.out.tok cY rfl (eY ..) ?_;generalize wn8.setRow tb (ep ⟨tk8,ta8,tm8,ts8,⟨dn8,dd8,dx8⟩⟩)=w8 at *;have cc:=HLS8.out.rd.code;obtain⟨t0,t1,t2,t3,t4,t5,t6⟩:=aW HLS8.out.tok;clear b0);go_meet
      case rel=>exact HLS8.out.obj (fun h=>absurd h Hc.out)
     subst hc8;go_wp2_with (refine wpList_store_rowTo rfl 180 (.tmp 7) (.tmp 59) rfl rfl tb (ep ⟨tk8,ta8,tm8,ts8,⟨dn8,dd8,dx8⟩⟩) (by simp[Act.eval]) (by simp[Act.eval,ep]) 180 _ b0.out.tok cY rfl (eY ..) ?_;generalize wn8.setRow tb (ep ⟨tk8,ta8,tm8,ts8,⟨dn8,dd8,dx8⟩⟩)=w8 at *;have cc:=HLS8.out.rd.code;obtain⟨t0,t1,t2,t3,t4,t5,t6⟩:=aW HLS8.out.tok;clear b0);have mk8:∀ (X:Int) (W:World),Calls Tryz.prog 110 #[.agg #[.int .i64 tk8,.int .i64 ta8,.int .u8 tm8,.string ts8,.bool dn8,.string dd8,.int .i64 dx8],.int .u8 X] W fun e w'=>ie ⟨tk8,ta8,tm8,ts8,⟨dn8,dd8,dx8⟩⟩ X W e w':=fun X W=>fe ⟨tk8,ta8,tm8,ts8,⟨dn8,dd8,dx8⟩⟩ X W
     have Mk8:=Qa mk8;clear mk8;refine(Mk8.out 125 w8).mono ?_;rintro e w9 ⟨b1,rfl,m4,m5⟩;have HLS9:=Qa (HLS8.out.below m5);have Hm1:=Qa m4;clear cc t0 t1 t2 t3 t4 t5 t6 m4 m5;have cc:=HLS9.out.rd.code;obtain⟨t0,t1,t2,t3,t4,t5,t6⟩:=aW HLS9.out.tok
     cases b1
     case true=>
      have Hm:=Qa (Hm1.out rfl);go_wp2_with fail;go_meet
      case rel=>exact HLS9.out.obj (fun _=>⟨by trivial,by have h1:=(Ht8.out (by trivial)).1;have h2:=Hm.out;have h3:=Hkle.out;have h4:at5+1<=at8:=h1 (by show ¬tk8=5;have:tk8=1:=h2;omega);omega⟩)
     go_wp2_with fail;refine(Mk8.out 44 w9).mono ?_;rintro e w10 ⟨b2,rfl,m0,e4⟩;have a9:=Qa (HLS9.out.below e4);have m9:=Qa m0;clear cc t0 t1 t2 t3 t4 t5 t6 m0 e4;have cc:=a9.out.rd.code;obtain⟨t0,t1,t2,t3,t4,t5,t6⟩:=aW a9.out.tok
     cases b2
     case false=>
      have wr:Calls Tryz.prog 84 #[.pointer (some ⟨rb,0,none⟩),.agg #[.int .i64 tk8,.int .i64 ta8,.int .u8 tm8,.string ts8,.bool dn8,.string dd8,.int .i64 dx8]] w10 (jY xs rb w10 at8 k5):=fg a9.out.rd ⟨tk8,ta8,tm8,ts8,⟨dn8,dd8,dx8⟩⟩;have Wr:=Qa wr;clear wr;go_wp2_with fail;refine Wr.out.mono ?_;rintro e w11 ⟨⟨v,rfl⟩,c11,e3,f0,e7⟩;have HLS11:=Qa (a9.out.step f0 e7 (Za _));have Hc11:=Qa e3;clear f0 e7 e3;go_wp2_with fail;go_meet
      case rel=>exact HLS11.out.obj (fun h=>absurd h Hc11.out)
     have e2:=Qa (show at5+1<=at8 from(Ht8.out (by trivial)).1 (by show ¬tk8=5;have:tk8=1:=m9.out rfl;omega));clear Mk8 Hm1 m9 Ht8;go_wp2_with fail;refine(cX a9.out.rd (by omega)).mono ?_;rintro e wn12 ⟨tn,at12,c12,rfl,e6,d6,b4,e8⟩;have b0:=Qa (a9.out.step e6 d6 b4);have b9:=Qa b4;obtain⟨tk12,ta12,tm12,ts12,⟨dn12,dd12,dx12⟩⟩:=tn;have i4:=Qa e8;clear e6 d6 b4 e8;rw[show kf ⟨tk12,ta12,tm12,ts12,⟨dn12,dd12,dx12⟩⟩ =.agg #[.int .i64 tk12,.int .i64 ta12,.int .u8 tm12,.string ts12,.bool dn12,.string dd12,.int .i64 dx12] from rfl];have b5:=Qa (b0.out.put ⟨tk12,ta12,tm12,ts12,⟨dn12,dd12,dx12⟩⟩);clear cc t0 t1 t2 t3 t4 t5 t6;go_wp2_with (refine wpList_store_rowTo rfl 180 (.tmp 7) (.tmp 77) rfl rfl tb (ep ⟨tk12,ta12,tm12,ts12,⟨dn12,dd12,dx12⟩⟩) (by simp[Act.eval]) (by simp[Act.eval,ep]) 180 _ b0.out.tok cY rfl (eY ..) ?_;generalize wn12.setRow tb (ep ⟨tk12,ta12,tm12,ts12,⟨dn12,dd12,dx12⟩⟩)=w12 at *;have cc:=b5.out.rd.code;obtain⟨t0,t1,t2,t3,t4,t5,t6⟩:=aW b5.out.tok;clear b0);exact⟨⟨_,_,_,_,_,b5.out,fun h=>⟨fun _=>by have:=Hkle.out;have:=e2.out;have:=b9.out;omega,(i4.out h).2⟩⟩,by show mn xs.length rb _<mn xs.length rb _;exact d3.out.rd.mu_lt' b5.out.rd (by have:=Hj.out;have:=e2.out;have:=b9.out;omega)⟩
  case rest=>
   obtain⟨A,n,q,A6,q6,names,vs,ts,at9,k9,c9,rfl,rfl,h1,h2,h3,h4,h5,h6⟩:=hcut;have hn:n=names.length:=by have:=h1.1;simpa using this.symm
   subst hn;have HT:=Qa h6;have c6:=Qa h3;have h8:=Qa h4;have H1:=Qa h1;have H2:=Qa h2;have e5:=Qa h5;have cc:=h3.code;clear h1 h2 h3 h4 h5 h6
   by_cases hc:c9=0
   case neg=>
    have l1:(c9 !=0)=true:=by simpa using hc
    have Hc:=Qa hc;clear hc;go_wp2_with fail;go_ret;exact⟨none,0,0,at9,k9,c9,rfl,c6.out,h8.out,e5.out,fun h=>absurd h Hc.out⟩
   subst hc;obtain⟨g0,g1,g2,g3,g4,g5,g6⟩:=HT.out rfl;have G0:=Qa g0;have G2:=Qa g2;have G3:=Qa g3;have G4:=Qa g4;have G5:=Qa g5;have G6:=Qa g6;have hnl:names.length<=100000:=by have:=c6.out.atle;omega
   have i9:names.length=ts.length:=by have h:=g5.1;rw[List.length_map] at h;have:=H2.out.1;omega
   have l5:=Qa i9;clear g0 g1 g2 g3 g4 g5 g6 HT i9 H f6 d1 f2 c0 b8;have b7:=ac wc (.cells #[.int .i64 4,.int .i64 d,.int .i64 6,.string es,.slice none 0 0] 237);have b3:=c6.out.lt;obtain⟨a1,a2,a3,a4,a5,a6,a7,L,m,hh,l,us,w0,h1,h2,h3,h4,h5,h6,h7⟩:=c6.out;have c12:=aa h1 (j:=12) (u:=.slice a3 _ a4) rfl;have g1:=(b7.block _ b3).trans h1;have H:=Qa (And.intro g1 (And.intro h2 (And.intro h3 (And.intro (h4.trans (b7.mono (Zi b3))) (And.intro (ao h5 b7 (Za _)) h6)))));have f6:=Qa (ap wc [.int .i64 4,.int .i64 d,.int .i64 6,.string es,.slice none 0 0] 237);have d1:=Qa b7;have f2:=Qa (show rb+1<=wc.heap.size from b3);have c0:=Qa h6;clear h1 h2 h3 h4 h5 h6 h7 b7 g1 b3;go_wp2_with (at_builtin;refine lH jc H.out.2.2.2.2.1 f6.out (Zb f2.out d1.out.size) ?_ (hlen:=(by have:=G0.out;have:=c0.out;unfold maxLen;omega)) (hby:=(by have:=G0.out;have:=c0.out;omega));intro v' w7 p1 p2 p3;have c4:=Qa p1;have c7:=Qa p2;(obtain⟨A',c',he,-⟩:=ag p1);subst he;have a0:=jl H.out.1 H.out.2.1 H.out.2.2.1 H.out.2.2.2.1 H.out.2.2.2.2.1 H.out.2.2.2.2.2 G0.out c4.out c7.out;have r12:=aa a0.1 (j:=12) (u:=.slice a3 k9 a4) rfl;have f12:=aj a0.1 12;have b8:=Qa a0;clear p1 p2 p3 a0);have d2:=(Rk.of_below d1.out (Zi c6.out.lt)).trans b8.out.2.2;have l3:=Qa d2;have p0:=Qa (al H1.out d2.2 gJ);have n1:=Qa (al H2.out d2.2 (by unfold TR;decide));have n3:=Qa (G5.out.mono fun _ _ h=>h.flat.keeps d2.2 gJ kE kw);have q4:JV.sizes ts<=100000:=by have:=G6.out;have:=c6.out.atle;omega
   clear d2 c12 r12 f12;have k2:=sV (Sl.of_own p0.out) (ts:=ts) ⟨vs,Sl.of_own n1.out,n3.out.mono fun _ _ h=>h.low (Zj _)⟩ l5.out G3.out (by omega) (by omega) (fun t ht x hx=>by
    obtain⟨q1,q2⟩:=mZ (G4.out t ht) 0 x hx;have:=l6 ht;exact⟨by omega,fun z hz=>by have:=q2 z hz;omega⟩)
   refine k2.mono ?_;rintro e w8 ⟨A8,n8,q8,ok,rfl,f9,d4,-,l0⟩;obtain rfl:ok=true:=d4.2 G2.out;obtain⟨ps,hs,k3⟩:=l0 rfl;have Hs:=Qa hs;have q3:=Qa (b8.out.2.1.below f9);have n6:=Qa ((h8.out.trans l3.out).trans (Rk.of_below f9 (Zi b8.out.2.1.lt)));have n9:=Qa ((k3.low (Zi b8.out.2.1.lt)).imp (Q:=(w.heap.size<= ·)) (fun g h _=>Zb (h8.out.trans l3.out).2.1 h));have i3:=Qa (kR.sizes l5.out hs);clear f9 k3 k2 d4 l0 hs;go_wp2_with fail;go_ret;exact⟨A8,n8,q8,at9,k9+1,0,rfl,q3.out,n6.out,e5.out,fun _=>⟨trivial,.mk 6 false es lL (ps.map Prod.fst) (ps.map Prod.snd),.obj _ _ (by simp) (fun s hs=>G3.out s (i3.out.2.2.mem_iff.1 hs)) Hs.out.2 (fun u hu=>G4.out u (i3.out.2.1.mem_iff.1 hu)),n9.out,by have:=G6.out;have:=i3.out.1;simp only[JV.size];omega⟩⟩
theorem Ac (t:Tk){c:Int}(h:Rd xs rb w at_ k c)(hc:c≠0)(d:Int) :
  Calls Tryz.prog 83 #[.pointer (some ⟨rb,0,none⟩),kf t,.int .i64 d] w (jq dU xs rb w at_ (t.kind≠5)):=by
 have hlt:=h.lt;have a0:=ac w (.cells (ep t) 180);have HR:=Qa (h.below a0);have a1:=Qa (Rk.of_below a0 (Zi hlt));have cc:=(h.below a0).code;clear h a0;obtain⟨tk,ta,tm,ts,⟨dn,dd,dx⟩⟩:=t;unfold kf;simp only[ep] at HR a1 cc;have a2:(c !=0)=true:=by simpa using hc
 have Hc:=Qa hc;clear hc;go_enter Tryz.func83,Tryz.ntmps83;go_wp2_with fail;go_ret;exact⟨_,_,_,at_,k,c,rfl,HR.out,a1.out,Za _,fun h=>absurd h Hc.out⟩
theorem vI (hl:xs.length<=6000):∀ (n at_:Nat),xs.length+1<=at_+n->∀ (t:Tk) (w:World) (k:Nat) (c d:Int),Rd xs rb w at_ k c->(c=0->(t.kind≠5->k+1<=at_)/\js t)->
  Calls Tryz.prog 83 #[.pointer (some ⟨rb,0,none⟩),kf t,.int .i64 d] w (jq dU xs rb w at_ (t.kind≠5)):=by
 intro n
 induction n with
 |zero=>intro at_ hn t w k c d h;have:=h.atle;omega
 |succ n ih=>
  intro at_ hn t w k c d h hk;have hV:∀ (iu:Nat) (t:Tk) (w:World) (k:Nat) (c:Int) (d:Int),(c=0->t.kind≠5->at_+1<=iu)->Rd xs rb w iu k c->(c=0->(t.kind≠5->k+1<=iu)/\js t)->
    Calls Tryz.prog 83 #[.pointer (some ⟨rb,0,none⟩),kf t,.int .i64 d] w (jq dU xs rb w iu (t.kind≠5)):=by
   intro iu t1 w1 k1 c1 d1 h1 h2 h3
   by_cases hc:c1=0
   ·by_cases h5:t1.kind=5
    ·exact nQ dU hl t1 (fun e=>absurd (e.symm.trans h5) (by decide)) (fun e=>absurd (e.symm.trans h5) (by decide)) h2 h3 d1
    ·exact ih iu (by have:=h1 hc h5;omega) t1 w1 k1 c1 d1 h2 h3
   ·exact Ac t1 h2 hc d1
  exact nQ dU hl t (fun _ w k d h hk=>zd dU hl hV d h hk) (fun _ w k d h hk=>uF hl hV d h hk) h hk d
