import Derived.Test.YtohibglohlfjfaaGreatDoorGZ6ap
set_option linter.unusedVariables false
set_option linter.unusedSimpArgs false
set_option maxHeartbeats 64000000
set_option maxRecDepth 100000
namespace Go.Proofs.YtohibglohlfjfaaGreatDoor
open Go.RowKit
variable {c4:Int}{ts:List JV}{xs:List UInt8}{vs:List Value}{B at4 at_ k1 k2 k4 lo n q q6 rb:Nat}{A A6:Option Addr}{T:TypeId->Prop}{v:Value}{W W' W2 w w1 w2 wx:World}
def nK (xs:List UInt8)(rb:Nat)(w:World)(at_ lo:Nat)(n:Nat)(names:List ByteArray)(own:Option Nat)(vs:List Value)(ts:List JV)(wx:World):Prop:=
 n<=lo/\names.Nodup/\(∀s∈names,iH s)/\(∀u∈ts,cF f7 u)/\bo (fun v ns=>bj (fun g=>own≠some g) wx rb v ns) vs (ts.map (JV.flat 0))/\JV.sizes ts+at_<=lo
def DN (xs:List UInt8)(rb:Nat)(w:World)(at_:Nat)(s5 s6:Value)(wx:World):Prop:= ∃ (A:Option Addr) (n q:Nat) (A6:Option Addr) (q6:Nat) (names:List ByteArray) (vs:List Value) (ts:List JV) (at' k':Nat) (c:Int),s5 =.slice A n q/\s6 =.slice A6 n q6/\
 wx.ownsRow w.heap.size 9 1 (.slice A n q) n (names.map dU)/\wx.ownsRow w.heap.size 28 1 (.slice A6 n q6) n vs/\Rd xs rb wx at' k' c/\Rk rb w wx/\at_<=at'/\(c=0->k'+1<=at'/\nK xs rb w at_ at' n names (Value.slice A n q).ownBlock vs ts wx)
def OS (xs:List UInt8)(rb:Nat)(w:World)(at_ tb lo:Nat)(p:Prop)(at' k':Nat)(c:Int)(s5 s6:Value)(t:Tk)(wx:World):Prop:= ∃ (A:Option Addr) (n q:Nat) (A6:Option Addr) (q6:Nat) (names:List ByteArray) (vs:List Value) (ts:List JV),s5 =.slice A n q/\s6 =.slice A6 n q6/\
 wx.ownsRow w.heap.size 9 1 (.slice A n q) n (names.map dU)/\wx.ownsRow w.heap.size 28 1 (.slice A6 n q6) n vs/\lo<=at'/\Rd xs rb wx at' k' c/\Rk rb w wx/\at_<=lo/\
 wx.heap[tb]?=some (.cells (eu t) 181 (0,0))/\w.heap.size<=tb/\rb<w.heap.size/\(p->nK xs rb w at_ lo n names (Value.slice A n q).ownBlock vs ts wx)
theorem nK.keeps {names:List ByteArray}{own:Option Nat}(h:nK xs rb w at_ lo n names own vs ts wx)(hk:aG T wx w2)(h1:¬T 9)(h2:¬T 3)(h3:¬T 70):nK xs rb w at_ lo n names own vs ts w2:=by
 obtain⟨g1,g2,g3,g4,g5,g6⟩:=h;exact⟨g1,g2,g3,g4,g5.mono fun _ _ h=>h.keeps hk h1 h2 h3,g6⟩
section
variable {xs:List UInt8}{rb:Nat}{w wx:World}{at_ tb lo at' k':Nat}{p:Prop}{c:Int}{s5 s6:Value}{t:Tk}
theorem OS.rd (h:OS xs rb w at_ tb lo p at' k' c s5 s6 t wx):Rd xs rb wx at' k' c:=by obtain⟨_,_,_,_,_,_,_,_,_,_,_,_,_,h,_⟩:=h;exact h
theorem OS.tok (h:OS xs rb w at_ tb lo p at' k' c s5 s6 t wx):wx.heap[tb]?=some (.cells (eu t) 181 (0,0)):=by obtain⟨_,_,_,_,_,_,_,_,_,_,_,_,_,_,_,_,h,_⟩:=h;exact h
theorem OS.shape (h:OS xs rb w at_ tb lo p at' k' c s5 s6 t wx):∃A n q A6 q6,s5 =.slice A n q/\s6 =.slice A6 n q6:=by obtain⟨A,n,q,A6,q6,_,_,_,h,h',_⟩:=h;exact⟨A,n,q,A6,q6,h,h'⟩
theorem OS.rk (h:OS xs rb w at_ tb lo p at' k' c s5 s6 t wx):Rk rb w wx/\at_<=lo/\lo<=at'/\w.heap.size<=tb/\rb<w.heap.size:=by
 obtain⟨_,_,_,_,_,_,_,_,_,_,_,_,h1,_,h2,h3,_,h4,h5,_⟩:=h;exact⟨h2,h3,h1,h4,h5⟩
theorem OS.step {kO:Nat}{c2:Int}(h:OS xs rb w at_ tb lo p at' k' c s5 s6 t wx)(hR:Rd xs rb w2 kO k2 c2)(hk:Rk rb wx w2)(hat:at'<=kO):OS xs rb w at_ tb lo p kO k2 c2 s5 s6 t w2:=by
 obtain⟨A,n,q,A6,q6,names,vs,ts,rfl,rfl,h1,h2,h3,h4,h5,h6,h7,h8,h9,a0⟩:=h;exact⟨A,n,q,A6,q6,names,vs,ts,rfl,rfl,al h1 hk.2 gU,al h2 hk.2 (by unfold TR;decide),by omega,hR,h5.trans hk,h6,hk.row h7 cI,h8,h9,fun e=>(a0 e).keeps hk.2 gU kq kM⟩
theorem OS.put (h:OS xs rb w at_ tb lo p at' k' c s5 s6 t wx)(t2:Tk):OS xs rb w at_ tb lo p at' k' c s5 s6 t2 (wx.setRow tb (eu t2)):=by
 obtain⟨A,n,q,A6,q6,names,vs,ts,rfl,rfl,h1,h2,h3,h4,h5,h6,h7,h8,h9,a1⟩:=h;have a0:aG (fun e=>e=181) wx (wx.setRow tb (eu t2)):=aG.of_grown (ah ..) (fun g e cs T z hh=>by cases e;rw[h7] at hh;injection hh with hh;injection hh with _ hh;exact hh.symm);exact⟨A,n,q,A6,q6,names,vs,ts,rfl,rfl,al h1 a0 (by decide),al h2 a0 (by decide),h3,h4.other h7 cI (by omega) _,h5.fresh h8 (Zj h9) _,h6,setRow_heap _ _ _ _ _ _ h7,h8,h9,fun e=>(a1 e).keeps a0 (by decide) (by decide) (by decide)⟩
theorem OS.below (h:OS xs rb w at_ tb lo p at' k' c s5 s6 t wx)(hb:Below wx.heap.size wx w2):OS xs rb w at_ tb lo p at' k' c s5 s6 t w2:=
 h.step (h.rd.below hb) (Rk.of_below hb (Zj h.rd.lt)) (Zb _)
theorem OS.open (h:OS xs rb w at_ tb lo p at' k' c (.slice A n q) (.slice A6 n q6) t wx):∃names vs ts,wx.ownsRow w.heap.size 9 1 (.slice A n q) n (names.map dU)/\wx.ownsRow w.heap.size 28 1 (.slice A6 n q6) n vs/\(p->nK xs rb w at_ lo n names (Value.slice A n q).ownBlock vs ts wx):=by
 obtain⟨_,_,_,_,_,names,vs,ts,e,e',h1,h2,_,_,_,_,_,_,_,a0⟩:=h;injection e with e1 e2 e3
 injection e' with e4 _ e6
 subst e1 e2 e3 e4 e6;exact⟨names,vs,ts,h1,h2,a0⟩
theorem OS.obj (h:OS xs rb w at_ tb lo p at' k' c s5 s6 t wx)(he:c=0->p/\k'+1<=at'):DN xs rb w at_ s5 s6 wx:=by
 obtain⟨A,n,q,A6,q6,names,vs,ts,rfl,rfl,h1,h2,h3,h4,h5,h6,h7,h8,h9,a0⟩:=h;exact⟨A,n,q,A6,q6,names,vs,ts,at',k',c,rfl,rfl,h1,h2,h4,h5,by omega,fun e=>⟨(he e).2,by obtain⟨g1,g2,g3,g4,g5,g6⟩:=a0 (he e).1;exact⟨by omega,g2,g3,g4,g5,by omega⟩⟩⟩
theorem Rd.grownRow {k:Nat}{T:TypeId}(h:Rd xs rb W at' k' c)(hv:W.ownsRow B T k v n vs)(hT:T≠239)(hB:rb<B)(a9:B<=W.heap.size)(hg:W.grownBy W' v.ownBlock):Rd xs rb W' at' k' c:=by
 have hlt:=h.lt;have hb:Below B W W':=aY (Ze B W) hv a9 hg;obtain⟨a1,a2,a3,a4,a5,a6,a7,L,m,hh,l,us,w0,h1,h2,h3,h4,h5,h6⟩:=h;refine⟨a1,a2,a3,a4,a5,a6,a7,L,m,hh,l,us,w0,(hb.block rb hB).trans h1,h2,h3,h4.trans (hb.mono (Zj hB)),World.ownsRow.kept h5 hg ?_,h6⟩
 cases hb:(Value.slice a3 _ a4).ownBlock with
 |none=>exact .inl rfl
 |some x=>
  obtain⟨_,cur,hx⟩:=aj h5 hb;refine .inr (fun e=>?_);obtain⟨_,cur2,a0⟩:=aj hv e.symm;rw[hx] at a0;injection a0 with a0;injection a0 with _ a0;exact hT a0.symm
theorem OS.push {W1 W3:World}{Av:Option Addr}{vn vq:Nat}{names:List ByteArray}{s:ByteArray}{v5 v6:Value}
  (h1:wx.ownsRow w.heap.size 9 1 (.slice A n q) n (names.map dU)) (h2:wx.ownsRow w.heap.size 28 1 (.slice A6 n q6) n vs) (h5:Rk rb w wx) (h7:wx.heap[tb]?=some (.cells (eu t) 181 (0,0))) (h8:w.heap.size<=tb) (h9:rb<w.heap.size)
  (c0:nK xs rb w at_ lo n names (Value.slice A n q).ownBlock vs ts wx) (hat:at_<=at4) (hR:Rd xs rb W1 at4 k4 c4) (hk:Rk rb wx W1)
  (hj:c4=0->n+1<=at4/\iH s/\s∉names/\∃j:JV,cF f7 j/\bj (wx.heap.size<= ·) W1 rb (.slice Av vn vq) (j.flat 0)/\j.size+lo<=at4)
  (b7:W2.ownsRow w.heap.size 9 1 v5 (n+1) (names.map dU ++ [dU s])) (a6:v5.ownBlock= (Value.slice A n q).ownBlock\/v5.ownBlock=some (W1.alloc (.cells #[.string s] 9)).heap.size) (a5:(W1.alloc (.cells #[.string s] 9)).grownBy W2 (Value.slice A n q).ownBlock)
  (b4:W3.ownsRow w.heap.size 28 1 v6 (n+1) (vs ++ [.slice Av vn vq])) (b2:(W2.alloc (.cells #[.slice Av vn vq] 28)).grownBy W3 (Value.slice A6 n q6).ownBlock) :
  OS xs rb w at_ tb at4 (c4=0) at4 k4 c4 v5 v6 t W3:=by
 obtain⟨A',q',rfl,-⟩:=ag b7;obtain⟨A6',q6',rfl,-⟩:=ag b4;have a2:=ac W1 (.cells #[.string s] 9);have a0:=ac W2 (.cells #[.slice Av vn vq] 28);have hrb:=Zj h9;have a3:Rk rb wx (W1.alloc (.cells #[.string s] 9)):=hk.trans (Rk.of_below a2 (Zj hR.lt));have a4:=al h1 a3.2 gU;have b9:=Zc h5.2.1 a3.2.1;have b5:=nO a4 a5;have b6:=(hR.below a2).grownRow a4 (by decide) h9 b9 a5;have a7:=b6.below a0;have b8:=((h5.trans a3).grownFresh a5 (fun g e=>(aj a4 e).1) hrb).trans (Rk.of_below a0 (Zj b6.lt));have a9:=(al (al h2 a3.2 (by unfold TR;decide)) b5 (by decide)).below' a0;have b1:=pC a9 b2;have c1:=b8.2.1;have c2:(W2.alloc (.cells #[.slice Av vn vq] 28)).heap[tb]?=some (.cells (eu t) 181 (0,0)):=by
  have a1:=b5.2 _ _ _ _ (a3.row h7 cI) (by decide);exact(a0.block _ (ae a1)).trans a1
 refine⟨A',n+1,q',A6',q6',names ++ [s],vs ++ [.slice Av vn vq],(@dite _ (c4=0) (Classical.propDecidable _) (fun h=>ts ++ [Classical.choose (hj h).2.2.2]) (fun _=> [])),rfl,rfl,by rw[List.map_append];exact al (b7.below' a0) b1 (by decide),b4,Zb _,a7.grownRow a9 (by decide) h9 c1 b2,b8.grownFresh b2 (fun g e=>(aj a9 e).1) hrb,hat,b1.2 _ _ _ _ c2 (by decide),h8,h9,fun e=>?_⟩;simp only[dif_pos e];obtain⟨g1,g2,g3,g4,g5,g6⟩:=c0;obtain⟨r1,r2,r3,r4⟩:=hj e;obtain⟨q1,q2,q3⟩:=Classical.choose_spec (hj e).2.2.2;generalize Classical.choose (hj e).2.2.2=j at *;refine⟨r1,?_,?_,?_,?_,?_⟩
 ·rw[List.nodup_append];exact⟨g2,by simp,fun a ha b hb e=>by simp at hb;subst hb;subst e;exact r3 ha⟩
 ·intro x hx;rcases List.mem_append.1 hx with hx|hx;exact g3 x hx;simp at hx;subst hx;exact r2
 ·intro u hu;rcases List.mem_append.1 hu with hu|hu;exact g4 u hu;simp at hu;subst hu;exact q1
 ·rw[List.map_append];have b0:∀g,(Value.slice A n q).ownBlock=some g->g<wx.heap.size:=fun g e=>(World.ownsRow.lt h1 g e).2
  have b3:∀g:Nat,(Value.slice A n q).ownBlock≠some g->g< (W1.alloc (.cells #[.string s] 9)).heap.size->(Value.slice A' (n+1) q').ownBlock≠some g:=fun g h1 h2 e=>by
   rcases a6 with h|h
   ·rw[h] at e;exact h1 e
   ·rw[h] at e;injection e with e;omega
  have step:∀ (v:Value) (ns:List Nd),bj (fun g=>(Value.slice A n q).ownBlock≠some g) (W1.alloc (.cells #[.string s] 9)) rb v ns->bj (fun g=>(Value.slice A' (n+1) q').ownBlock≠some g) W3 rb v ns:=fun v ns h=>by
   have h':=(h.imp (Q:=fun g=>(Value.slice A n q).ownBlock≠some g/\(Value.slice A' (n+1) q').ownBlock≠some g) (fun g a b=>⟨a,b3 g a b⟩)).grownStr a5 (cj a4) (fun g a=>a.1);exact((h'.below a0 (Zb _)).keeps b1 (by decide) (by decide) (by decide)).imp (fun g a _=>a.2)
  refine(g5.mono fun v ns h=>step v ns (h.keeps a3.2 gU kq kM)).snoc (step _ _ ((q2.below a2 (Zb _)).imp (fun g a _ e=>?_)));have:=b0 g e;omega
 ·rw[cR];simp only[JV.sizes];omega
end
theorem Rd.mu_lt' {iy kO:Nat}{c1 c2:Int}(h1:Rd xs rb w1 iy k1 c1)(h2:Rd xs rb w2 kO k2 c2)(h:iy+1<=kO):mB xs.length rb w2<mB xs.length rb w1:=by
 rw[h1.mu,h2.mu];have:=h2.atle;split <;> split <;> omega
def J7 (xs:List UInt8)(rb:Nat)(w:World)(at_ tb:Nat)(s5 s6:Value)(wx:World):Prop:= ∃lo at' k' c t,OS xs rb w at_ tb lo True at' k' c s5 s6 t wx/\(c=0->(t.kind≠5->k'+1<=at')/\jw t)
theorem sX (hl:xs.length<=6000)
  (hV:∀ (iy:Nat) (t:Tk) (w:World) (k:Nat) (c:Int) (d:Int),(c=0->t.kind≠5->at_+1<=iy)->Rd xs rb w iy k c->(c=0->(t.kind≠5->k+1<=iy)/\jw t)->
   Calls Tryz.prog 84 #[.pointer (some ⟨rb,0,none⟩),kk t,.int .i64 d] w (jv f7 xs rb w iy (t.kind≠5)))
  {w:World} {k:Nat} (d:Int) (h:Rd xs rb w at_ k 0) (hk:k+1<=at_):Calls Tryz.prog 116 #[.pointer (some ⟨rb,0,none⟩),.int .i64 d] w (jv f7 xs rb w at_ True):=by
 have HR:=Qa h;have Hk:=Qa hk;have HV:=Qa hV;clear hV hk h;have b7:=ac w (.cells #[.int .i64 1,.int .i64 d,.int .i64 6,.string es,.slice none 0 0] 239);have b3:=HR.out.lt;obtain⟨a1,a2,a3,a4,a5,a6,a7,L,m,hh,l,us,w0,h1,h2,h3,h4,h5,h6,h7⟩:=HR.out;have c12:=aa h1 (j:=12) (u:=.slice a3 _ a4) rfl;have g1:=(b7.block _ b3).trans h1;have H:=Qa (And.intro g1 (And.intro h2 (And.intro h3 (And.intro (h4.trans (b7.mono (Zj b3))) (And.intro (ao h5 b7 (Zb _)) h6)))));have f6:=Qa (ap w [.int .i64 1,.int .i64 d,.int .i64 6,.string es,.slice none 0 0] 239);have c7:=Qa b7;have f3:=Qa (show rb+1<=w.heap.size from b3);have c0:=Qa h6;clear h1 h2 h3 h4 h5 h6 h7 b7 g1 b3;go_enter Tryz.func116,Tryz.ntmps116;go_wp2_with (at_builtin;refine km jp H.out.2.2.2.2.1 f6.out (Zc f3.out c7.out.size) ?_ (hlen:=(by have:=Hk.out;have:=c0.out;unfold maxLen;omega)) (hby:=(by have:=Hk.out;have:=c0.out;omega));intro v' w1 p1 p2 p3;have d1:=Qa p1;have c4:=Qa p2;(obtain⟨A',c',he,-⟩:=ag p1);subst he;have a0:=je H.out.1 H.out.2.1 H.out.2.2.1 H.out.2.2.2.1 H.out.2.2.2.2.1 H.out.2.2.2.2.2 Hk.out d1.out c4.out;have r12:=aa a0.1 (j:=12) (u:=.slice a3 k a4) rfl;have f12:=ak a0.1 12;have b9:=Qa a0;clear p1 p2 p3 a0);refine(dc b9.out.2.1 (by omega)).mono ?_;rintro e w2 ⟨t,kO,c,rfl,m1,m2,e3,l0⟩;have i9:=Qa m1;have g9:=Qa (((Rk.of_below c7.out (Zj HR.out.lt)).trans b9.out.2.2).trans m2);have Ht2:=Qa l0;have i8:=Qa e3;obtain⟨tk,ta,tm,ts,⟨dn,dd,dx⟩⟩:=t;rw[show kk ⟨tk,ta,tm,ts,⟨dn,dd,dx⟩⟩ =.agg #[.int .i64 tk,.int .i64 ta,.int .u8 tm,.string ts,.bool dn,.string dd,.int .i64 dx] from rfl];have c3:=ac w2 (.cells #[.int .i64 tk,.int .i64 ta,.int .u8 tm,.string ts,.bool dn,.string dd,.int .i64 dx] 181);have f5:=Qa (Zf w2 (.cells #[.int .i64 tk,.int .i64 ta,.int .u8 tm,.string ts,.bool dn,.string dd,.int .i64 dx] 181));have f8:=Qa (i9.out.below c3);have n0:=Qa (g9.out.trans (Rk.of_below c3 (Zj i9.out.lt)));have o3:=Qa (show w.heap.size<=w2.heap.size from g9.out.2.1);have p4:=Qa HR.out.lt;clear m1 m2 l0 e3 c3 i9 g9 c12 r12 f12;have mk:∀ (X:Int) (W:World),Calls Tryz.prog 113 #[.agg #[.int .i64 tk,.int .i64 ta,.int .u8 tm,.string ts,.bool dn,.string dd,.int .i64 dx],.int .u8 X] W fun e w'=>ie ⟨tk,ta,tm,ts,⟨dn,dd,dx⟩⟩ X W e w':=fun X W=>fc ⟨tk,ta,tm,ts,⟨dn,dd,dx⟩⟩ X W
 have Mk:=Qa mk;clear mk;go_upto_region 5 with fail
 generalize (w2.alloc (.cells #[.int .i64 tk,.int .i64 ta,.int .u8 tm,.string ts,.bool dn,.string dd,.int .i64 dx] 181))=w3 at *;generalize w2.heap.size=tb at *;go_cut [35] (fun s35 wx=>(∃b:Bool,s35 =.bool b/\(b=false->c=0->tk=1)/\(b=true->c=0))/\Below w3.heap.size w3 wx)
 case first=>
  have cc:=f8.out.code;obtain⟨t0,t1,t2,t3,t4,t5,t6⟩:=aR (t:=⟨tk,ta,tm,ts,⟨dn,dd,dx⟩⟩) f5.out
  by_cases hc:c=0
  ·have Hc:=Qa hc;subst hc;go_wp2_with fail;refine(Mk.out 125 w3).mono ?_;rintro e w4 ⟨b,rfl,hm,k1⟩;have Hm:=Qa hm;have Hb4:=Qa k1;clear hm k1 t0 t1 t2 t3 t4 t5 t6 cc
   cases b
   ·go_wp2_with fail;go_meet
    case rel=>exact⟨⟨_,rfl,(fun h=>absurd h (by decide)),(fun _=>by trivial)⟩,Hb4.out⟩
   ·have Hm1:=Qa (Hm.out rfl);go_wp2_with fail;go_meet
    case rel=>exact⟨⟨_,rfl,(fun _ _=>Hm1.out),(fun h=>absurd h (by decide))⟩,Hb4.out⟩
  ·have n1:(c==0)=false:=by simpa using hc
   have Hc:=Qa hc;clear hc;go_wp2_with fail;go_meet
   case rel=>exact⟨⟨_,rfl,(fun _ h=>absurd h Hc.out),(fun h=>absurd h (by decide))⟩,Ze _ _⟩
 case rest=>
  obtain⟨⟨b,rfl,m3,l5⟩,f4⟩:=hcut;have Hq1:=Qa m3;have c6:=Qa l5;have i3:=Qa (f8.out.below f4);have j0:=Qa (n0.out.trans (Rk.of_below f4 (Zj f8.out.lt)));have c1:=Qa ((f4.block _ (ae f5.out)).trans f5.out);clear m3 l5 f4;obtain⟨w4,m5⟩:∃x,wc=x:=⟨_,rfl⟩;rw[m5] at i3 j0 c1 ⊢;clear m5;have HO4:Hid (OS xs rb w at_ tb at_ True kO (k+1) c (.slice none 0 0) (.slice none 0 0) ⟨tk,ta,tm,ts,⟨dn,dd,dx⟩⟩ w4):=Qa ⟨none,0,0,none,0, [], [], [],rfl,rfl,⟨rfl,.inl ⟨rfl,rfl⟩⟩,⟨rfl,.inl ⟨rfl,rfl⟩⟩,i8.out,i3.out,j0.out,Zb _,c1.out,o3.out,p4.out,fun _=>⟨Zk _,by simp,by simp,by simp,bo.nil _,by simp[JV.sizes]⟩⟩;go_upto_if 35 with fail
  go_cut [5,6] (fun s5 s6 wx=>DN xs rb w at_ s5 s6 wx)
  case first=>
   cases b
   ·go_wp2_with fail;go_meet
    case rel=>exact HO4.out.obj (fun h=>⟨by trivial,by have e1:tk=1:=(by first|exact Hq1.out rfl h|exact Hq1.out h|exact Hq1.out trivial h);have:=(Ht2.out h).1 (by show ¬tk=5;omega);have:=Hk.out;omega⟩)
   ·have n9:c=0:=(by first|exact c6.out rfl|exact c6.out trivial|exact c6.out);subst n9;have Hst:Hid (J7 xs rb w at_ tb (.slice none 0 0) (.slice none 0 0) w4):=Qa ⟨_,_,_,_,_,HO4.out,fun _=>⟨fun h=>by have:=(Ht2.out (by trivial)).1 h;have:=Hk.out;omega,(Ht2.out (by trivial)).2⟩⟩;clear Mk Hq1 c6 HO4 i3 j0 c1 f8 n0 f5 Ht2;go_wp2_with fail
    go_loopw [5,6,8,9,36] (fun s5 s6 _ _ _ wx=>J7 xs rb w at_ tb s5 s6 wx) (fun _ _ _ _ _ wx=>mB xs.length rb wx)
    case atStart=>exact Hst.out
    case round=>
     obtain⟨lo,at',k',c',tt,d5,d6⟩:=hrel;obtain⟨A,n,q,A6,q6,rfl,rfl⟩:=d5.shape;obtain⟨Ev,ta0,tm0,ts0,⟨dn0,dd0,dx0⟩⟩:=tt;have d4:=Qa d5;have n5:=Qa d6;have b6:=Qa d5.rk;obtain⟨names,vs,ts,h1,h2,h9⟩:=d5.open;have hn:n=names.length:=by have:=h1.1;simpa using this.symm
     subst hn;have H1:=Qa h1;have H2:=Qa h2;have H9:=Qa (h9 trivial);have cc:=d4.out.rd.code;obtain⟨t0,t1,t2,t3,t4,t5,t6⟩:=aR d4.out.tok;clear d5 d6 h1 h2 h9;have hm:=tF f7 hl HV.out ⟨Ev,ta0,tm0,ts0,⟨dn0,dd0,dx0⟩⟩ d d4.out.rd H1.out (Zc b6.out.2.1 b6.out.2.2.1) n5.out;rw[show kk ⟨Ev,ta0,tm0,ts0,⟨dn0,dd0,dx0⟩⟩ =.agg #[.int .i64 Ev,.int .i64 ta0,.int .u8 tm0,.string ts0,.bool dn0,.string dd0,.int .i64 dx0] from rfl] at hm;have Hm:=Qa hm;clear hm;go_wp2_with fail;refine Za Hm ?_;rintro e w5 ⟨s,Av,vn,vq,at5,k5,c5,rfl,g8,i4,e4,m9⟩;have j5:=Qa g8;have g7:=Qa i4;have e8:=Qa e4;have i5:=Qa m9;have c0:=Qa g8.atle;have hS:=(al H1.out i4.2 gU).below' (ac w5 (.cells #[.string s] 9));have HS:=Qa hS;have q3:names.length<=100000:=by have:=H9.out.1;have:=b6.out.2.2.1;have:=e8.out;have:=c0.out;omega
     clear g8 i4 e4 m9 hS Hm cc t0 t1 t2 t3 t4 t5 t6;go_wp2_with (first
      |(at_builtin;refine km yQ HS.out (ap w5 [.string s] 9) (by have:=b6.out.1.2.1;have:=g7.out.2.1;simp;omega) ?_ (h1:=(by simp[dU,Value.oneCell']));intro v5 w6 p1 p2 p3;have d1:=Qa p1;have c4:=Qa p2;have l1:=Qa p3;have p0:=p2.size;have HT:=Qa ((al (al H2.out (g7.out.trans (Rk.of_below (ac w5 (.cells #[.string s] 9)) (Zj j5.out.lt))).2 (by unfold TR;decide)) (nO HS.out p2) (by decide)).below' (ac w6 (.cells #[.slice Av vn vq] 28)));clear p1 p2 p3)
      |(at_builtin;refine km mP HT.out (ap w6 [.slice Av vn vq] 28) (by have:=b6.out.1.2.1;have:=g7.out.2.1;simp at p0 ⊢;omega) ?_;intro v6 w7 p1 p2 p3;have Hq1:=Qa p1;have c6:=Qa p2;have c2:=OS.push (s:=s) (t:=⟨Ev,ta0,tm0,ts0,⟨dn0,dd0,dx0⟩⟩) H1.out H2.out b6.out.1 d4.out.tok b6.out.2.2.2.1 b6.out.2.2.2.2 H9.out (by have:=b6.out.2.1;have:=b6.out.2.2.1;have:=e8.out;omega) j5.out g7.out (fun h=>by obtain⟨j1,j2,j3,j,g1,g2,g3⟩:=i5.out h;exact⟨by have:=H9.out.1;have:=b6.out.2.2.1;omega,j2,j3,j,g1,g2,by have:=b6.out.2.2.1;omega⟩) d1.out l1.out c4.out p1 p2;have HLS7:=Qa c2;have cc:=c2.rd.code;clear p1 p2 p3 c2))
     ·have f9:¬c5=0:=by have h:(c5 !=0)=true:=(by assumption);simpa using h
      have Hc5:=Qa f9;clear f9;go_meet
      case rel=>exact HLS7.out.obj (fun h=>absurd h Hc5.out)
     have f9:c5=0:=by have h:(c5 !=0)=false:=(by assumption);simpa using h
     subst f9;have Hj:=Qa (i5.out (by trivial)).1;have Hkle:=Qa HLS7.out.rd.kle;clear i5 d1 c4 l1 Hq1 c6 HT HS H1 H2 H9 cc;refine(dc HLS7.out.rd (by omega)).mono ?_;rintro e wn8 ⟨tn,at8,c8,rfl,f2,e5,b4,f1⟩;have b0:=Qa (HLS7.out.step f2 e5 b4);have n2:=Qa b4;obtain⟨tk8,ta8,tm8,ts8,⟨dn8,dd8,dx8⟩⟩:=tn;have Ht8:=Qa f1;clear f2 e5 b4 f1;rw[show kk ⟨tk8,ta8,tm8,ts8,⟨dn8,dd8,dx8⟩⟩ =.agg #[.int .i64 tk8,.int .i64 ta8,.int .u8 tm8,.string ts8,.bool dn8,.string dd8,.int .i64 dx8] from rfl];have HLS8:=Qa (b0.out.put ⟨tk8,ta8,tm8,ts8,⟨dn8,dd8,dx8⟩⟩)
     by_cases hc8:c8=0
     case neg=>
      have n1:(c8 !=0)=true:=by simpa using hc8
      have Hc:=Qa hc8;clear hc8;go_wp2_with (refine wpList_store_rowTo rfl 181 (.tmp 7) (.tmp 59) rfl rfl tb (eu ⟨tk8,ta8,tm8,ts8,⟨dn8,dd8,dx8⟩⟩) (by simp[Act.eval]) (by simp[Act.eval,eu]) 181 _ b0.out.tok da rfl (e9 ..) ?_;generalize wn8.setRow tb (eu ⟨tk8,ta8,tm8,ts8,⟨dn8,dd8,dx8⟩⟩)=w8 at *;have cc:=HLS8.out.rd.code;obtain⟨t0,t1,t2,t3,t4,t5,t6⟩:=aR HLS8.out.tok;clear b0);go_meet
      case rel=>exact HLS8.out.obj (fun h=>absurd h Hc.out)
     subst hc8;go_wp2_with (refine wpList_store_rowTo rfl 181 (.tmp 7) (.tmp 59) rfl rfl tb (eu ⟨tk8,ta8,tm8,ts8,⟨dn8,dd8,dx8⟩⟩) (by simp[Act.eval]) (by simp[Act.eval,eu]) 181 _ b0.out.tok da rfl (e9 ..) ?_;generalize wn8.setRow tb (eu ⟨tk8,ta8,tm8,ts8,⟨dn8,dd8,dx8⟩⟩)=w8 at *;have cc:=HLS8.out.rd.code;obtain⟨t0,t1,t2,t3,t4,t5,t6⟩:=aR HLS8.out.tok;clear b0);have mk8:∀ (X:Int) (W:World),Calls Tryz.prog 113 #[.agg #[.int .i64 tk8,.int .i64 ta8,.int .u8 tm8,.string ts8,.bool dn8,.string dd8,.int .i64 dx8],.int .u8 X] W fun e w'=>ie ⟨tk8,ta8,tm8,ts8,⟨dn8,dd8,dx8⟩⟩ X W e w':=fun X W=>fc ⟨tk8,ta8,tm8,ts8,⟨dn8,dd8,dx8⟩⟩ X W
     have Mk8:=Qa mk8;clear mk8;refine(Mk8.out 125 w8).mono ?_;rintro e w9 ⟨b1,rfl,k6,l3⟩;have HLS9:=Qa (HLS8.out.below l3);have Hm1:=Qa k6;clear cc t0 t1 t2 t3 t4 t5 t6 k6 l3;have cc:=HLS9.out.rd.code;obtain⟨t0,t1,t2,t3,t4,t5,t6⟩:=aR HLS9.out.tok
     cases b1
     case true=>
      have Hm:=Qa (Hm1.out rfl);go_wp2_with fail;go_meet
      case rel=>exact HLS9.out.obj (fun _=>⟨by trivial,by have h1:=(Ht8.out (by trivial)).1;have h2:=Hm.out;have h3:=Hkle.out;have h4:at5+1<=at8:=h1 (by show ¬tk8=5;have:tk8=1:=h2;omega);omega⟩)
     go_wp2_with fail;refine(Mk8.out 44 w9).mono ?_;rintro e w10 ⟨b2,rfl,k0,f0⟩;have a9:=Qa (HLS9.out.below f0);have k2:=Qa k0;clear cc t0 t1 t2 t3 t4 t5 t6 k0 f0;have cc:=a9.out.rd.code;obtain⟨t0,t1,t2,t3,t4,t5,t6⟩:=aR a9.out.tok
     cases b2
     case false=>
      have wr:Calls Tryz.prog 85 #[.pointer (some ⟨rb,0,none⟩),.agg #[.int .i64 tk8,.int .i64 ta8,.int .u8 tm8,.string ts8,.bool dn8,.string dd8,.int .i64 dx8]] w10 (jT xs rb w10 at8 k5):=fd a9.out.rd ⟨tk8,ta8,tm8,ts8,⟨dn8,dd8,dx8⟩⟩;have Wr:=Qa wr;clear wr;go_wp2_with fail;refine Za Wr ?_;rintro e w11 ⟨⟨v,rfl⟩,c11,d3,d2,e2⟩;have HLS11:=Qa (a9.out.step d2 e2 (Zb _));have Hc11:=Qa d3;clear d2 e2 d3;go_wp2_with fail;go_meet
      case rel=>exact HLS11.out.obj (fun h=>absurd h Hc11.out)
     have d9:=Qa (show at5+1<=at8 from(Ht8.out (by trivial)).1 (by show ¬tk8=5;have:tk8=1:=k2.out rfl;omega));clear Mk8 Hm1 k2 Ht8;go_wp2_with fail;refine(dc a9.out.rd (by omega)).mono ?_;rintro e wn12 ⟨tn,at12,c12,rfl,f2,e5,b4,f1⟩;have b0:=Qa (a9.out.step f2 e5 b4);have b8:=Qa b4;obtain⟨tk12,ta12,tm12,ts12,⟨dn12,dd12,dx12⟩⟩:=tn;have i0:=Qa f1;clear f2 e5 b4 f1;rw[show kk ⟨tk12,ta12,tm12,ts12,⟨dn12,dd12,dx12⟩⟩ =.agg #[.int .i64 tk12,.int .i64 ta12,.int .u8 tm12,.string ts12,.bool dn12,.string dd12,.int .i64 dx12] from rfl];have b5:=Qa (b0.out.put ⟨tk12,ta12,tm12,ts12,⟨dn12,dd12,dx12⟩⟩);clear cc t0 t1 t2 t3 t4 t5 t6;go_wp2_with (refine wpList_store_rowTo rfl 181 (.tmp 7) (.tmp 77) rfl rfl tb (eu ⟨tk12,ta12,tm12,ts12,⟨dn12,dd12,dx12⟩⟩) (by simp[Act.eval]) (by simp[Act.eval,eu]) 181 _ b0.out.tok da rfl (e9 ..) ?_;generalize wn12.setRow tb (eu ⟨tk12,ta12,tm12,ts12,⟨dn12,dd12,dx12⟩⟩)=w12 at *;have cc:=b5.out.rd.code;obtain⟨t0,t1,t2,t3,t4,t5,t6⟩:=aR b5.out.tok;clear b0);exact⟨⟨_,_,_,_,_,b5.out,fun h=>⟨fun _=>by have:=Hkle.out;have:=d9.out;have:=b8.out;omega,(i0.out h).2⟩⟩,by show mB xs.length rb _<mB xs.length rb _;exact d4.out.rd.mu_lt' b5.out.rd (by have:=Hj.out;have:=d9.out;have:=b8.out;omega)⟩
  case rest=>
   obtain⟨A,n,q,A6,q6,names,vs,ts,at9,k9,c9,rfl,rfl,h1,h2,h3,h4,h5,h6⟩:=hcut;have hn:n=names.length:=by have:=h1.1;simpa using this.symm
   subst hn;have HT:=Qa h6;have d0:=Qa h3;have h8:=Qa h4;have H1:=Qa h1;have H2:=Qa h2;have e0:=Qa h5;have cc:=h3.code;clear h1 h2 h3 h4 h5 h6
   by_cases hc:c9=0
   case neg=>
    have n1:(c9 !=0)=true:=by simpa using hc
    have Hc:=Qa hc;clear hc;go_wp2_with fail;go_ret;exact⟨none,0,0,at9,k9,c9,rfl,d0.out,h8.out,e0.out,fun h=>absurd h Hc.out⟩
   subst hc;obtain⟨g0,g1,g2,g3,g4,g5,g6⟩:=HT.out rfl;have G0:=Qa g0;have G2:=Qa g2;have G3:=Qa g3;have G4:=Qa g4;have G5:=Qa g5;have G6:=Qa g6;have hnl:names.length<=100000:=by have:=d0.out.atle;omega
   have l4:names.length=ts.length:=by have h:=g5.1;rw[List.length_map] at h;have:=H2.out.1;omega
   have m0:=Qa l4;clear g0 g1 g2 g3 g4 g5 g6 HT l4 H f6 c7 f3 c0 b9;have b7:=ac wc (.cells #[.int .i64 4,.int .i64 d,.int .i64 6,.string es,.slice none 0 0] 239);have b3:=d0.out.lt;obtain⟨a1,a2,a3,a4,a5,a6,a7,L,m,hh,l,us,w0,h1,h2,h3,h4,h5,h6,h7⟩:=d0.out;have c12:=aa h1 (j:=12) (u:=.slice a3 _ a4) rfl;have g1:=(b7.block _ b3).trans h1;have H:=Qa (And.intro g1 (And.intro h2 (And.intro h3 (And.intro (h4.trans (b7.mono (Zj b3))) (And.intro (ao h5 b7 (Zb _)) h6)))));have f6:=Qa (ap wc [.int .i64 4,.int .i64 d,.int .i64 6,.string es,.slice none 0 0] 239);have c7:=Qa b7;have f3:=Qa (show rb+1<=wc.heap.size from b3);have c0:=Qa h6;clear h1 h2 h3 h4 h5 h6 h7 b7 g1 b3;go_wp2_with (at_builtin;refine km jp H.out.2.2.2.2.1 f6.out (Zc f3.out c7.out.size) ?_ (hlen:=(by have:=G0.out;have:=c0.out;unfold maxLen;omega)) (hby:=(by have:=G0.out;have:=c0.out;omega));intro v' w7 p1 p2 p3;have d1:=Qa p1;have c4:=Qa p2;(obtain⟨A',c',he,-⟩:=ag p1);subst he;have a0:=je H.out.1 H.out.2.1 H.out.2.2.1 H.out.2.2.2.1 H.out.2.2.2.2.1 H.out.2.2.2.2.2 G0.out d1.out c4.out;have r12:=aa a0.1 (j:=12) (u:=.slice a3 k9 a4) rfl;have f12:=ak a0.1 12;have b9:=Qa a0;clear p1 p2 p3 a0);have e6:=(Rk.of_below c7.out (Zj d0.out.lt)).trans b9.out.2.2;have m4:=Qa e6;have o1:=Qa (al H1.out e6.2 gU);have q0:=Qa (al H2.out e6.2 (by unfold TR;decide));have n6:=Qa (G5.out.mono fun _ _ h=>h.flat.keeps e6.2 gU kq kM);have hsz:JV.sizes ts<=100000:=by have:=G6.out;have:=d0.out.atle;omega
   clear e6 c12 r12 f12;have k4:=uJ (Sl.of_own o1.out) (ts:=ts) ⟨vs,Sl.of_own q0.out,n6.out.mono fun _ _ h=>h.low (Zk _)⟩ m0.out G3.out (by omega) (by omega) (fun t ht x hx=>by
    obtain⟨q1,q2⟩:=oF (G4.out t ht) 0 x hx;have:=lN ht;exact⟨by omega,fun z hz=>by have:=q2 z hz;omega⟩)
   refine k4.mono ?_;rintro e w8 ⟨A8,n8,q8,ok,rfl,h0,d6,-,l2⟩;obtain rfl:ok=true:=d6.2 G2.out;obtain⟨ps,hs,k3⟩:=l2 rfl;have Hs:=Qa hs;have n3:=Qa (b9.out.2.1.below h0);have o2:=Qa ((h8.out.trans m4.out).trans (Rk.of_below h0 (Zj b9.out.2.1.lt)));have n4:=Qa ((k3.low (Zj b9.out.2.1.lt)).imp (Q:=(w.heap.size<= ·)) (fun g h _=>Zc (h8.out.trans m4.out).2.1 h));have i2:=Qa (lA.sizes m0.out hs);clear h0 k3 k4 d6 l2 hs;go_wp2_with fail;go_ret;exact⟨A8,n8,q8,at9,k9+1,0,rfl,n3.out,o2.out,e0.out,fun _=>⟨trivial,.mk 6 false es j8 (ps.map Prod.fst) (ps.map Prod.snd),.obj _ _ (by simp) (fun s hs=>G3.out s (i2.out.2.2.mem_iff.1 hs)) Hs.out.2 (fun u hu=>G4.out u (i2.out.2.1.mem_iff.1 hu)),n4.out,by have:=G6.out;have:=i2.out.1;simp only[JV.size];omega⟩⟩
theorem BC (t:Tk){k:Nat}{c:Int}(h:Rd xs rb w at_ k c)(hc:c≠0)(d:Int) :
  Calls Tryz.prog 84 #[.pointer (some ⟨rb,0,none⟩),kk t,.int .i64 d] w (jv f7 xs rb w at_ (t.kind≠5)):=by
 have hlt:=h.lt;have a0:=ac w (.cells (eu t) 181);have HR:=Qa (h.below a0);have a1:=Qa (Rk.of_below a0 (Zj hlt));have cc:=(h.below a0).code;clear h a0;obtain⟨tk,ta,tm,ts,⟨dn,dd,dx⟩⟩:=t;unfold kk;simp only[eu] at HR a1 cc;have a2:(c !=0)=true:=by simpa using hc
 have Hc:=Qa hc;clear hc;go_enter Tryz.func84,Tryz.ntmps84;go_wp2_with fail;go_ret;exact⟨_,_,_,at_,k,c,rfl,HR.out,a1.out,Zb _,fun h=>absurd h Hc.out⟩
theorem xR (hl:xs.length<=6000):∀ (n at_:Nat),xs.length+1<=at_+n->∀ (t:Tk) (w:World) (k:Nat) (c d:Int),Rd xs rb w at_ k c->(c=0->(t.kind≠5->k+1<=at_)/\jw t)->
  Calls Tryz.prog 84 #[.pointer (some ⟨rb,0,none⟩),kk t,.int .i64 d] w (jv f7 xs rb w at_ (t.kind≠5)):=by
 intro n
 induction n with
 |zero=>intro at_ hn t w k c d h;have:=h.atle;omega
 |succ n ih=>
  intro at_ hn t w k c d h hk;have hV:∀ (iy:Nat) (t:Tk) (w:World) (k:Nat) (c:Int) (d:Int),(c=0->t.kind≠5->at_+1<=iy)->Rd xs rb w iy k c->(c=0->(t.kind≠5->k+1<=iy)/\jw t)->
    Calls Tryz.prog 84 #[.pointer (some ⟨rb,0,none⟩),kk t,.int .i64 d] w (jv f7 xs rb w iy (t.kind≠5)):=by
   intro iy t1 w1 k1 c1 d1 h1 h2 h3
   by_cases hc:c1=0
   ·by_cases h5:t1.kind=5
    ·exact nZ f7 hl t1 (fun e=>absurd (e.symm.trans h5) (by decide)) (fun e=>absurd (e.symm.trans h5) (by decide)) h2 h3 d1
    ·exact ih iy (by have:=h1 hc h5;omega) t1 w1 k1 c1 d1 h2 h3
   ·exact BC t1 h2 hc d1
  exact nZ f7 hl t (fun _ w k d h hk=>AM f7 hl hV d h hk) (fun _ w k d h hk=>sX hl hV d h hk) h hk d
