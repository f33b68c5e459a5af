import Derived.Test.YtohibglohlfjfaaGreatDoorGZ6as
import Derived.Sort.Grow
set_option linter.unusedVariables false
set_option linter.unusedSimpArgs false
set_option maxHeartbeats 64000000
set_option maxRecDepth 100000
namespace Go.Proofs.YtohibglohlfjfaaGreatDoor
open Go.RowKit
variable {j j' x0:JV}{L:List (ByteArray×Value)}{us:List Value}{B base c g n p q:Nat}{P:Nat->Prop}{A:Option Addr}{e ty:TypeId}{T:TypeId->Prop}{u v z:Value}{w w':World}
inductive Ok (h:Prop) (T:ByteArray->Prop):JV->Prop
 |null:Ok h T (.mk 1 false es j8 [] [])
 |bool (b:Bool):Ok h T (.mk 2 b es j8 [] [])
 |num (d:Dc):d.digits.size<=6000+1->up d->Ok h T (.mk 3 false es d [] [])
 |text (s:ByteArray):T s->Ok h T (.mk 4 false s j8 [] [])
 |hole:h->Ok h T (.mk 7 false es j8 [] [])
 |list (ks:List JV):(∀u∈ks,Ok h T u)->Ok h T (.mk 5 false es j8 [] ks)
 |obj (ns:List ByteArray) (ks:List JV):ns.length=ks.length->(∀s∈ns,iH s)->f7 ns->(∀u∈ks,Ok h T u)->Ok h T (.mk 6 false es j8 ns ks)
theorem Ok.of_good {h:Prop}{T:ByteArray->Prop}(hT:∀s,iH s->T s)(g:cF f7 j):Ok h T j:=by
 induction g with
 |null=>exact .null
 |bool b=>exact .bool b
 |num d hd hn=>exact .num d hd hn
 |text s hs=>exact .text s (hT s hs)
 |list ks _ ih=>exact .list ks ih
 |obj ns ks h1 h2 h3 _ ih=>exact .obj ns ks h1 h2 h3 ih
theorem Ok.put {h:Prop}{T:ByteArray->Prop}{u v:JV}{a:Nat}{w v':JV}(hp:vB u v p a w v')(hv:Ok h T v)(hu:Ok h T u):Ok h T v':=by
 induction hp with
 |here v p=>exact hu
 | @down k t x n ns pre post u0 u1 p a w hp ih=>
  have hk:∀ {l:List JV},(∀z∈pre++u0::post,Ok h T z)->∀z∈pre++u1::post,Ok h T z:=fun hz z hm=>by
   rcases List.mem_append.1 hm with hm|hm
   ·exact hz z (by simp[hm])
   ·rcases List.mem_cons.1 hm with rfl|hm
    ·exact ih (hz u0 (by simp))
    ·exact hz z (by simp[hm])
  generalize hl:pre++u0::post=l at hv
  cases hv with
  |null=>simp at hl
  |bool b=>simp at hl
  |num d hd hn=>simp at hl
  |text s hs=>simp at hl
  |hole e=>simp at hl
  |list ks hks=>subst hl;exact .list _ (hk (l:= []) hks)
  |obj ns' ks h1 h2 h3 hks=>subst hl;exact .obj _ _ (by simpa using h1) h2 h3 (hk (l:= []) hks)
theorem Co {h:Prop}{T:ByteArray->Prop}{v:JV}(g:Ok h T v):∀p,∀x∈v.flat p,x.names.length<=v.size:=by
 have key:∀ (ks:List JV),(∀u∈ks,∀p,∀x∈u.flat p,x.names.length<=u.size)->∀p,∀y∈JV.flats p ks,y.names.length<=JV.sizes ks:=by
  intro ks
  induction ks with
  |nil=>intro _ p y h;simp[JV.flats] at h
  |cons v vs ih=>
   intro hu p y h;simp only[JV.flats,List.mem_append] at h;simp only[JV.sizes];rcases h with h|h
   ·have:=hu v (by simp) p y h;omega
   ·have:=ih (fun u hm=>hu u (Zm _ hm)) (p+v.size) y h;omega
 induction g with
 |null|bool b|num d _ _|text s _|hole _=>intro p x hx;simp[JV.flat,JV.flats,aV] at hx;subst hx;simp
 |list ks hks ih=>
  intro p x hx;simp only[JV.flat,List.mem_cons] at hx;simp only[JV.size];rcases hx with rfl|hx
  ·simp
  ·have:=key ks ih (p+1) x hx;omega
 |obj ns ks hl h8 ha hks ih=>
  intro p x hx;simp only[JV.flat,List.mem_cons] at hx;simp only[JV.size];rcases hx with rfl|hx
  ·have:=kx ks
   show ns.length<=_;omega
  ·have:=key ks ih (p+1) x hx;omega
abbrev Dy:JV:=.mk 7 false es j8 [] []
theorem zE {T:ByteArray->Prop}{a:Nat}(hf:dL w 0 v (j.flat 0))(hp:vB Dy j 0 a x0 j')(hj:Ok True T j)(hsz:j.size<=400000):Calls Tryz.prog 40 #[v,.int .i64 (a:Int)] w (pw w (j'.flat 0)):=by
 have Hf:=Qa hf;have a2:∀x∈j.flat 0,x.names.length<=1000000:=fun x hx=>Zc (Co hj 0 x hx) (by omega)
 have Hp:=Qa hp;have Hn:=Qa a2;clear hf hp hj a2;go_enter Tryz.func40,Tryz.ntmps40;go_wp2_with fail;refine(um w).mono ?_;rintro e w1 ⟨vh,rfl,a5,a6⟩;have a0:=Qa a5;have a7:=Qa a6;clear a5 a6;go_wp2_with fail;refine(DA (u:=Dy) (Hf.out.below a0.out (Zb _)) ((a7.out.flat).low (Zk _)) Hp.out hsz (by decide) Hn.out (fun x hx=>by simp[JV.flat,JV.flats,aV] at hx;subst hx;simp)).mono ?_;rintro e w2 ⟨v2,rfl,a4,a3⟩;have a1:=Qa (show pw w (j'.flat 0) (.returned v2) w2 from⟨v2,rfl,a0.out.trans (a4.mono a0.out.size),(a3.low a0.out.size).imp (fun g a _=>Zc a0.out.size a)⟩);clear a4 a3;go_wp2_with fail;go_ret;exact a1.out
def iV (p:Int):Value:=.int .i64 p
def D6 (T:ByteArray->Prop)(w:World)(B n:Nat)(s0 s5:Value)(wr:World):Prop:= ∃ (i:Nat) (j:JV) (A:Option Addr) (m q:Nat),s5 =.int .i64 i/\i<=20/\s0 =.slice A m q/\bj (B<= ·) wr B (.slice A m q) (j.flat 0)/\Ok True T j/\j.size<=n/\Below w.heap.size w wr
def Gs (T:ByteArray->Prop)(w:World)(B n:Nat)(e:Ending)(w':World):Prop:= ∃ (j:JV) (A:Option Addr) (m q:Nat),e =.returned (.slice A m q)/\bj (B<= ·) w' B (.slice A m q) (j.flat 0)/\Ok True T j/\j.size<=n/\Below w.heap.size w w'
theorem xV {T:ByteArray->Prop}{vp:Value}{ps:List Int}(hB:B<=w.heap.size)(hf:bj (B<= ·) w B v (j.flat 0))(hj:Ok True T j)(hsz:j.size<=400000)(hp:Sl w vp (ps.map iV))(b8:∀p∈ps,-9223372036854775808<=p/\p<=9223372036854775807) :
  Calls Tryz.prog 22 #[v,vp] w (Gs T w B j.size):=by
 obtain⟨A,q,rfl,-,d1,-⟩:=hf.form;obtain⟨hm,Ap,cp,rfl,c7,b3⟩:=id hp;rw[List.length_map] at hm c7 b3 ⊢;have c2:=Qa b3;have Hf:=Qa hf;have Hj:=Qa hj;have c1:=Qa b8;clear hf hj hp b8 b3;go_enter Tryz.func22,Tryz.ntmps22;go_wp2_with fail
 go_loopw [0,5,6] (fun s0 s5 _ wr=>D6 T w B j.size s0 s5 wr) (fun _ v _ _=>20 - (intOf v).toNat)
 case atStart=>exact⟨0,j,A,_,q,rfl,by omega,rfl,Hf.out,Hj.out,Zb _,Ze _ _⟩
 case round=>
  obtain⟨i,jc,A0,n0,q0,rfl,hi,rfl,a9,c0,b7,hb⟩:=hrel;have c9:n0=jc.size:=by obtain⟨_,_,e,_⟩:=a9.form;injection e with _ e;rw[e,JV.flat_len]
  subst c9;have b0:=Qa a9;have a5:=Qa c0;have Hb:=Qa hb;have c3:=jc.size_pos;have a4:=hb.size;clear a9 c0 hb
  by_cases hip:i<ps.length
  ·by_cases hi20:i<20
   ·obtain⟨gp,op,rfl,b6⟩:=c2.out (by omega);obtain⟨p,a6⟩:∃s,ps[i]?=some s:=⟨_,Zd hip⟩;have cpc:=Zg Hb.out (b6 i (iV p) (by rw[List.getElem?_map,a6];rfl));unfold iV at cpc;obtain⟨b1,b2⟩:=c1.out p (Zl a6);obtain⟨r,hr⟩:∃r,Int.tmod p (jc.size:Int)=r:=⟨_,rfl⟩;have d3: -(jc.size:Int)<r/\r<jc.size:=by
     rw[<-hr];have h1:=Int.lt_tmod_of_pos p (show(0:Int)<jc.size by omega);have h2:=Int.tmod_lt_of_pos p (show(0:Int)<jc.size by omega);omega
    obtain⟨m,d2⟩:∃m:Nat,Int.tmod (r+jc.size) (jc.size:Int)=m:=⟨(Int.tmod (r+jc.size) (jc.size:Int)).toNat,by
     have:=Int.tmod_nonneg (jc.size:Int) (show 0<=r+ (jc.size:Int) by omega);omega⟩
    have c8:m<jc.size:=by have h2:=Int.tmod_lt_of_pos (r+jc.size) (show(0:Int)<jc.size by omega);omega
    obtain⟨x0,hs⟩:=yx jc 0 m (Zk _) (by omega);obtain⟨j',a2⟩:=vB.of_sits hs Dy;have a0:=Qa a2;have a3:(i:Int)<ps.length:=by omega
    have a1:(i:Int)<20:=by omega
    have b4:(0:Int)<jc.size:=by omega
    clear b6 a6 hs a2;go_wp2_with fail;refine(zE (b0.out.flat.low (Zk _)) a0.out a5.out (by omega)).mono ?_;rintro e w2 ⟨v2,rfl,b5,a7⟩;obtain⟨A2,q2,rfl,-⟩:=a7.form;have b9:B<=wr.heap.size:=Zc hB a4;have c5:=Qa ((a7.low b9).imp (Q:=(B<= ·)) (fun g a _=>Zc b9 a));have c6:=Qa (Hb.out.trans (b5.mono a4));have c4:=Qa a0.out.size;have d0:=x0.size_pos;clear b5 a7;go_wp2_with fail;exact⟨⟨i+1,j',A2,_,q2,by go_num,by omega,rfl,c5.out,Ok.put a0.out a5.out (.hole trivial),by have:=c4.out;simp only[JV.size,JV.sizes] at this;omega,c6.out⟩,by simp[intOf];omega⟩
   ·have a1:¬ (i:Int)<20:=by omega
    have a3:(i:Int)<ps.length:=by omega
    go_wp2_with fail;go_ret;exact⟨jc,A0,_,q0,rfl,b0.out,a5.out,b7,Hb.out⟩
  ·have a3:¬ (i:Int)<ps.length:=by omega
   go_wp2_with fail;go_ret;exact⟨jc,A0,_,q0,rfl,b0.out,a5.out,b7,Hb.out⟩
def cA (P:Nat->Prop)(w:World)(e:TypeId)(k:Nat)(A:Option Addr)(n c:Nat)(xs:List Value):Prop:=
 xs.length=n*k/\n<=c/\c<=maxLen/\(0<n->∃g,A=some ⟨g,0,none⟩/\P g/\∃cur:Array Value,w.heap[g]?=some (.cells cur e (0,0))/\cur.toList.take (n*k)=xs)
def AW (ns:List ByteArray)(us:List Value):List Value:=(ns.zip us).flatMap fun p=> [.string p.1,p.2]
inductive VW (P:Nat->Prop) (w:World):Value->JV->Prop
 |null:VW P w (.iface 49 (.agg #[])) (.mk 1 false es ⟨false,es,0⟩ [] [])
 |bool (b:Bool):VW P w (.iface 50 (.bool b)) (.mk 2 b es ⟨false,es,0⟩ [] [])
 |num (d:Dc):VW P w (.iface 113 (.agg #[.bool d.neg,.string d.digits,.int .i64 d.exp])) (.mk 3 false es d [] [])
 |text (s:ByteArray):VW P w (.iface 51 (.string s)) (.mk 4 false s ⟨false,es,0⟩ [] [])
 |hole:VW P w (.iface 45 (.agg #[])) (.mk 7 false es ⟨false,es,0⟩ [] [])
 |bare:VW P w (.iface 48 (.pointer none)) (.mk 5 false es ⟨false,es,0⟩ [] [])
 |list (g:Nat) (A:Option Addr) (c:Nat) (us:List Value) (ks:List JV):P g->w.heap[g]?=some (.cells #[.slice A us.length c] 153 (0,0))->cA P w 32 1 A us.length c us->us.length=ks.length->
   (∀ (i:Nat) u k,us[i]?=some u->ks[i]?=some k->VW P w u k)->VW P w (.iface 48 (.pointer (some ⟨g,0,none⟩))) (.mk 5 false es ⟨false,es,0⟩ [] ks)
 |obj (g:Nat) (A:Option Addr) (c:Nat) (us:List Value) (ns:List ByteArray) (ks:List JV):P g->w.heap[g]?=some (.cells #[.slice A us.length c] 158 (0,0))->cA P w 97 2 A us.length c (AW ns us)->us.length=ks.length->ns.length=ks.length->
   (∀ (i:Nat) u k,us[i]?=some u->ks[i]?=some k->VW P w u k)->VW P w (.iface 116 (.pointer (some ⟨g,0,none⟩))) (.mk 6 false es ⟨false,es,0⟩ ns ks)
section
variable {P Q:Nat->Prop}{w w':World}{v:Value}{j:JV}
theorem cA.stay {k:Nat}{xs:List Value}(h:cA P w e k A n c xs)(hs:∀g o,P g->w.heap[g]?=some o->o.isCells=true->(∃cs z,o =.cells cs e z)->Q g/\w'.heap[g]?=some o):cA Q w' e k A n c xs:=by
 obtain⟨h1,h2,h3,h4⟩:=h;refine⟨h1,h2,h3,fun h0=>?_⟩;obtain⟨g,e1,hp,cur,hg,ht⟩:=h4 h0;obtain⟨hq,hw⟩:=hs g _ hp hg rfl ⟨_,_,rfl⟩;exact⟨g,e1,hq,cur,hw,ht⟩
def TV (e:TypeId):Prop:=e=153\/e=158\/e=32\/e=97
theorem VW.stay (h:VW P w v j)(hs:∀g o,P g->w.heap[g]?=some o->(∃cs e z,o =.cells cs e z/\TV e)->Q g/\w'.heap[g]?=some o):VW Q w' v j:=by
 induction h with
 |null=>exact .null
 |bool b=>exact .bool b
 |num d=>exact .num d
 |text s=>exact .text s
 |hole=>exact .hole
 |bare=>exact .bare
 |list g A c us ks hp hg hr hl _ ih=>
  obtain⟨h1,h2⟩:=hs g _ hp hg ⟨_,_,_,rfl,.inl rfl⟩;exact .list g A c us ks h1 h2 (hr.stay fun g o a b _ ⟨cs,z,e⟩=>hs g o a b ⟨cs,_,z,e,.inr (.inr (.inl rfl))⟩) hl (fun i u k h1 h2=>ih i u k h1 h2)
 |obj g A c us ns ks hp hg hr hl hn _ ih=>
  obtain⟨h1,h2⟩:=hs g _ hp hg ⟨_,_,_,rfl,.inr (.inl rfl)⟩;exact .obj g A c us ns ks h1 h2 (hr.stay fun g o a b _ ⟨cs,z,e⟩=>hs g o a b ⟨cs,_,z,e,.inr (.inr (.inr rfl))⟩) hl hn (fun i u k h1 h2=>ih i u k h1 h2)
theorem VW.imp (h:VW P w v j)(hq:∀g,P g->g<w.heap.size->Q g):VW Q w v j:=h.stay fun g _ hp hg _=>⟨hq g hp (ae hg),hg⟩
theorem VW.later (h:VW P w v j)(hb:Below w.heap.size w w'):VW P w' v j:=h.stay fun g _ hp hg _=>⟨hp,(hb.block g (ae hg)).trans hg⟩
theorem VW.keeps (h:VW P w v j)(hk:aG T w w')(hT:∀e,TV e->¬T e):VW P w' v j:=h.stay fun g _ hp hg ⟨cs,e,z,ho,he⟩=>⟨hp,by subst ho;exact hk.2 g cs e z hg (hT e he)⟩
theorem VW.grown {row:Option Nat}(h:VW P w v j)(hg:w.grownBy w' row)(hr:∀g,row=some g->¬P g):VW P w' v j:=h.stay fun g _ hp hh _=>⟨hp,(hg.block g (ae hh) (fun e=>hr g e.symm hp)).trans hh⟩
theorem VW.set (h:VW P w v j){p:Addr}(u:Value)(hr:¬P p.block):VW P (w.setCell p u) v j:=h.stay fun g _ hp hh _=>⟨hp,(Below.heap_setCell w p u g (by rintro rfl;exact hr hp)).trans hh⟩
theorem VW.drewN (h:VW P w v j)(m:Nat):VW P (w.drewN m) v j:=h.stay fun _ _ hp hg _=>⟨hp,hg⟩
theorem VW.iface (h:VW P w v j):∃t x,v =.iface t x:=by cases h <;> exact⟨_,_,rfl⟩
theorem cA.of_own {k:Nat}{xs:List Value}(h:w.ownsRow base e k (.slice A n c) n xs):cA (base<= ·) w e k A n c xs:=by
 obtain⟨h1,⟨e1,h0⟩|⟨g,cap,cur,e1,hb,hg,h2,h3,h4,h5⟩⟩:=h
 ·obtain⟨rfl,rfl,rfl⟩:=Value.slice.inj e1;exact⟨h1,Zb _,Zk _,fun h=>absurd h (Nat.lt_irrefl _)⟩
 ·obtain⟨rfl,-,rfl⟩:=Value.slice.inj e1;exact⟨h1,h2,h3,fun _=>⟨g,rfl,hb,cur,hg,h5⟩⟩
theorem cA.cell {k:Nat}{xs:List Value}(h:cA P w e k (some ⟨g,0,none⟩) n c xs)(j:Nat)(hj:j<n*k):w.cell? ⟨g,j,none⟩=xs[j]?:=by
 obtain⟨h1,-,-,h4⟩:=h;obtain⟨g',e1,-,cur,hg,ht⟩:=h4 (by rcases Nat.eq_zero_or_pos n with h|h;subst h;omega;exact h);obtain rfl:g=g':=by injection e1 with e1;injection e1
 rw[<-ht,List.getElem?_take_of_lt hj];simp[World.cell?,hg]
theorem cA.ptr {k:Nat}{xs:List Value}(h:cA P w e k A n c xs)(hn:0<n):∃g,A=some ⟨g,0,none⟩/\P g:=by
 obtain⟨-,-,-,h4⟩:=h;obtain⟨g,h1,h2,-⟩:=h4 hn;exact⟨g,h1,h2⟩
end
theorem yO:∀ (ns:List ByteArray) (us:List Value) (i:Nat) (n:ByteArray) (u:Value),ns[i]?=some n->us[i]?=some u->(AW ns us)[i*2]?=some (.string n)/\(AW ns us)[i*2+1]?=some u
 | [],_,i,n,u,h,_=>by simp at h
 |_::_, [],i,n,u,_,h=>by simp at h
 |a::ns,b::us,0,n,u,h1,h2=>by simp at h1 h2;subst h1 h2;exact⟨rfl,rfl⟩
 |a::ns,b::us,i+1,n,u,h1,h2=>by
  have ih:=yO ns us i n u (by simpa using h1) (by simpa using h2);rw[show(i+1)*2=i*2+2 by omega];exact ih
theorem uU (w:World):Calls Tryz.prog 55 #[.pointer none] w fun e w'=>e =.returned (.int .i64 0)/\w=w':=by
 go_enter Tryz.func55,Tryz.ntmps55;go_wp2_with fail;go_ret;exact⟨rfl,rfl⟩
theorem ml (hg:w.heap[g]?=some (.cells #[.slice A n c] 153 (0,0))):Calls Tryz.prog 55 #[.pointer (some ⟨g,0,none⟩)] w fun e w'=>e =.returned (.int .i64 n)/\w=w':=by
 have c0:w.cell? ⟨g,0,none⟩=some (.slice A n c):=aa hg (j:=0) rfl;clear hg;go_enter Tryz.func55,Tryz.ntmps55;go_wp2_with fail;go_ret;exact⟨rfl,rfl⟩
theorem m6 (hg:w.heap[g]?=some (.cells #[.slice A n c] 158 (0,0))):Calls Tryz.prog 57 #[.pointer (some ⟨g,0,none⟩)] w fun e w'=>e =.returned (.int .i64 n)/\w=w':=by
 have c0:w.cell? ⟨g,0,none⟩=some (.slice A n c):=aa hg (j:=0) rfl;clear hg;go_enter Tryz.func57,Tryz.ntmps57;go_wp2_with fail;go_ret;exact⟨rfl,rfl⟩
theorem xG (hg:w.heap[g]?=some (.cells #[.slice A n c] 153 (0,0)))(hr:cA P w 32 1 A n c us)(i:Nat)(hi:i<n)(hu:us[i]?=some u) :
  Calls Tryz.prog 77 #[.pointer (some ⟨g,0,none⟩),.int .i64 i] w fun e w'=>e =.returned (.tuple #[u,.bool true])/\w=w':=by
 have c0:w.cell? ⟨g,0,none⟩=some (.slice A n c):=aa hg (j:=0) rfl;obtain⟨b,rfl,-⟩:=hr.ptr (by omega);have c1:=hr.cell i (by omega);rw[hu] at c1;have hm:=hr.2.2.1;unfold maxLen at hm;have Hl:=Qa (ml hg);clear hg hr hu;have h0:¬ (i:Int)<0:=by omega
 have h1:(i:Int)<n:=by omega
 go_enter Tryz.func77,Tryz.ntmps77;go_wp2_with fail;refine Za Hl ?_;rintro e w' ⟨rfl,rfl⟩;go_wp2_with fail;go_ret2;exact⟨rfl,rfl⟩
theorem CI:Tryz.prog.underlying 32=some (.interface (Tryz.prog.methodsAt 32)):=by kernel_rfl
theorem rR (w:World)(t:TypeId)(x:Value):(binOp .eql 32 .nilIface (.iface t x)).run Tryz.prog w =.ok (.bool false) w:=run_eql_iface_nil_left w t x CI
theorem rQ (w:World)(t:TypeId)(x:Value):(binOp .eql 32 (.iface t x) .nilIface).run Tryz.prog w =.ok (.bool false) w:=run_eql_held_nil w _ t x CI
theorem yI:dq 34 32 .nilIface 1 16:=⟨Tryz.underlying34,by kernel_rfl,rfl,by decide⟩
theorem yF:dq 88 97 (.agg #[.string ByteArray.empty,.nilIface]) 2 32:=⟨Tryz.underlying88,by kernel_rfl,rfl,by decide⟩
def yX (k:Nat)(w:World)(v:Value)(n:Nat)(us:List Value):Prop:=us.length=n*k/\n<=9223372036854775807/\∃A c,v =.slice A n c/\n<=c/\(0<n->∃g o,A=some ⟨g,o,none⟩/\∀i u,us[i]?=some u->w.cell? ⟨g,o+i,none⟩=some u)
theorem Sl.k (h:Sl w v us):yX 1 w v us.length us:=⟨by omega,h.1,h.2⟩
theorem yX.below {k:Nat}(h:yX k w v n us)(hb:Below w.heap.size w w'):yX k w' v n us:=by
 obtain⟨h1,h2,A,c,e,hc,hA⟩:=h;refine⟨h1,h2,A,c,e,hc,fun h0=>?_⟩;obtain⟨g,o,e,a0⟩:=hA h0;exact⟨g,o,e,fun i u hu=>Zg hb (a0 i u hu)⟩
theorem yX.of_own {k:Nat}(h:w.ownsRow base e k v n us):yX k w v n us:=by
 obtain⟨A,c,rfl,hc,hm,hA⟩:=ag h;refine⟨h.1,by unfold maxLen at hm;omega,A,c,rfl,hc,fun h0=>?_⟩;obtain⟨g,rfl⟩:=hA h0;refine⟨g,0,rfl,fun i u hu=>?_⟩;have hi:=(List.getElem?_eq_some_iff.1 hu).1;rw[Nat.zero_add,World.ownsRow.cellAt h i (by rw[<-h.1];exact hi)];exact hu
theorem gL {t:TypeId}{k:Nat}(E:dq t e z k B){ops:Array Oper}{rest:List Oper}{o:Oper}{a:Act}{Q:Exit->Act->World->Prop}(a5:o.guard=none)(s x:Operand)
  (ho:o.op =.call {callee:=.builtin .append,args:= #[s,x],argTypes:= #[t,t]})
  (base:Nat) (v:Value) (n:Nat) (ad:Addr) (c m:Nat) (us news:List Value) (hs:a.eval s=v) (a1:w.ownsRow base e k v n us) (hx:a.eval x =.slice (some ad) m c) (a3:yX k w (.slice (some ad) m c) m news)
  (h1:∀u∈news,u.oneCell'=true) (hlen:n+m<=maxLen) (hby:(n+m)*B<=140737488355328) (a0:base<=w.heap.size)
  (h:∀v' w',w'.ownsRow base e k v' (n+m) (us++news)->w.grownBy w' v.ownBlock->(v'.ownBlock=v.ownBlock\/v'.ownBlock=some w.heap.size)->wpList Tryz.prog ops Q rest (a.put o.dst v') w'):wpList Tryz.prog ops Q (o::rest) a w:=by
 refine wpList_plain a5 fun K hK=>?_
 obtain⟨i0,hi,a7,a4,a6⟩:=info_parts E.hi;obtain⟨hl,_,A,c',e',_,hA⟩:=a3;injection e' with e1 e2 e3
 subst e1;obtain⟨v',w',a2,h2,h3,_,h5⟩:=run_append_own_at (P:=Tryz.prog) w base t o.type e i0 z k B E.ht hi a7 a4 a6 E.hz E.h0 v n us a1 ad m c news
  hl (fun j y hy=>by
   have hj:=(List.getElem?_eq_some_iff.1 hy).1;have hm:0<m:=by rcases Nat.eq_zero_or_pos m with h0|h0;(· subst h0;rw[hl] at hj;omega);exact h0
   obtain⟨g,off,e',a9⟩:=hA hm;obtain rfl:=Zi e';rw[Addr.add_lit];exact a9 j y hy) h1 hlen hby a0
 unfold Oper.wp execOp;simp only[ho,resolve,invoke,builtin,Sem.run_bind,Sem.run_pure,Result.andThen_ok,List.map_toArray,List.map_cons,List.map_nil,hs,hx,a2];exact hK _ _ (h v' w' h2 h3 h5)
def EZ (u:Value):Prop:= ∃t v,u =.iface t v
theorem EZ.one (h:EZ u):u.oneCell'=true:=by obtain⟨t,v,rfl⟩:=h;rfl
def GB (us:List Value)(w:World)(s8:Value)(wr:World):Prop:= ∃k:Nat,k<=us.length/\s8 =.int .i64 k/\w=wr
theorem uE (hv:Sl w v us)(hu:∀u∈us,EZ u):Calls Tryz.prog 88 #[v,.nilIface] w fun e w'=>e =.returned (.int .i64 (-1))/\w=w':=by
 obtain⟨hm,A,cap,rfl,hc,hA⟩:=id hv;have HA:=Qa hA;have Hu:=Qa hu;clear hv hA hu;go_enter Tryz.func88,Tryz.ntmps88;go_wp2_with fail
 go_loopw [5,8] (fun _ s8 wr=>GB us w s8 wr) (fun _ i _=>us.length - (intOf i).toNat)
 case atStart=>exact⟨0,Zk _,rfl,rfl⟩
 case round=>
  obtain⟨k,hk,rfl,rfl⟩:=hrel
  by_cases hlt:k<us.length
  ·obtain⟨g,o,rfl,a1⟩:=HA.out (by omega);obtain⟨u,hu⟩:∃s,us[k]?=some s:=⟨_,Zd hlt⟩;have cu:=a1 k u hu;have a0:=Qa (Zl hu);clear a1 hu;obtain⟨t,x,rfl⟩:=Hu.out u a0.out;have q1:=rR w t x;go_wp2_with fail;exact⟨⟨k+1,by omega,by go_num,rfl⟩,by simp[intOf];omega⟩
  ·obtain rfl:k=us.length:=by omega
   go_wp2_with fail;go_ret;exact⟨rfl,rfl⟩
theorem oo (hv:Sl w v us)(hu:∀u∈us,EZ u):Calls Tryz.prog 64 #[v,.nilIface] w fun e w'=>e =.returned (.bool false)/\w=w':=by
 obtain⟨hm,A,cap,rfl,hc,hA⟩:=id hv;have Hc:=Qa (uE hv hu);clear hv hA hu;go_enter Tryz.func64,Tryz.ntmps64;go_wp2_with fail;refine Za Hc ?_;rintro e w' ⟨rfl,rfl⟩;go_wp2_with fail;go_ret;exact⟨rfl,rfl⟩
def F3 (e:TypeId)(k:Nat)(w:World)(n:Nat)(us:List Value)(ed:Ending)(w':World):Prop:= ∃A c,ed =.returned (.slice A n c)/\Below w.heap.size w w'/\w'.ownsRow w.heap.size e k (.slice A n c) n us
theorem jI (hv:yX 1 w v n us)(hu:∀u∈us,u.oneCell'=true)(hn:n<=4294967296):Calls Tryz.prog 26 #[v] w (F3 32 1 w n us):=by
 obtain⟨hl,hm,A,cap,rfl,hc,hA⟩:=id hv;have Hv:=Qa hv;have Hu:=Qa hu;have Hl:=Qa hl;have hq:=fun (w:World) (a:Option Addr) (n c n' c':Nat)=>Lib.run_eql_slice_nil (P:=Tryz.prog) w _ _ a n c n' c' Tryz.underlying34
 cases A with
 |none=>
  have h0:n=0:=by
   rcases Nat.eq_zero_or_pos n with h0|h0
   ·exact h0
   ·obtain⟨_,_,e,_⟩:=hA h0;cases e
  subst h0;clear hv hu hl hA;go_enter Tryz.func26,Tryz.ntmps26;go_wp2_with fail;go_ret;have h0:=Hl.out;rw[Nat.zero_mul] at h0;obtain rfl:=List.eq_nil_of_length_eq_zero h0;exact⟨none,0,rfl,Ze _ _,⟨by simp,.inl ⟨rfl,rfl⟩⟩⟩
 |some ad=>
  clear hv hu hl hA;go_enter Tryz.func26,Tryz.ntmps26;go_wp2_with (at_builtin;refine gL yI rfl (.tmp 5) (.tmp 6) rfl w.heap.size (.slice (some ⟨w.heap.size,0,none⟩) 0 0) 0 ad cap n [] us (by simp[Act.eval]) (dy (Zf w _) (Zb _) (by unfold maxLen;omega) (by simp)) (by simp[Act.eval]) (Hv.out.below (ac _ _)) Hu.out (by unfold maxLen;omega) (by omega) (by simp) ?_;intro v' w1 h1 h2 h3;have Hp:=Qa h1;have Hg:=Qa h2;clear h1 h2 h3);go_ret;have ho:=Hp.out;rw[Nat.zero_add,List.nil_append] at ho;obtain⟨A',c',rfl,-⟩:=ag ho;exact⟨A',c',rfl,aY (ac w _) (dy (Zf w _) (Zb _) (by unfold maxLen;omega) (by simp):(w.alloc (.cells #[] 32)).ownsRow w.heap.size 32 1 (.slice (some ⟨w.heap.size,0,none⟩) 0 0) 0 []) (by simp) Hg.out,ho⟩
theorem o7 (hv:yX 2 w v n us)(hu:∀u∈us,u.oneCell'=true)(hn:n<=4294967296):Calls Tryz.prog 65 #[v] w (F3 97 2 w n us):=by
 obtain⟨hl,hm,A,cap,rfl,hc,hA⟩:=id hv;have Hv:=Qa hv;have Hu:=Qa hu;have Hl:=Qa hl;have hq:=fun (w:World) (a:Option Addr) (n c n' c':Nat)=>Lib.run_eql_slice_nil (P:=Tryz.prog) w _ _ a n c n' c' Tryz.underlying88
 cases A with
 |none=>
  have h0:n=0:=by
   rcases Nat.eq_zero_or_pos n with h0|h0
   ·exact h0
   ·obtain⟨_,_,e,_⟩:=hA h0;cases e
  subst h0;clear hv hu hl hA;go_enter Tryz.func65,Tryz.ntmps65;go_wp2_with fail;go_ret;have h0:=Hl.out;rw[Nat.zero_mul] at h0;obtain rfl:=List.eq_nil_of_length_eq_zero h0;exact⟨none,0,rfl,Ze _ _,⟨by simp,.inl ⟨rfl,rfl⟩⟩⟩
 |some ad=>
  clear hv hu hl hA;go_enter Tryz.func65,Tryz.ntmps65;go_wp2_with (at_builtin;refine gL yF rfl (.tmp 5) (.tmp 6) rfl w.heap.size (.slice (some ⟨w.heap.size,0,none⟩) 0 0) 0 ad cap n [] us (by simp[Act.eval]) (dy (Zf w _) (Zb _) (by unfold maxLen;omega) (by simp)) (by simp[Act.eval]) (Hv.out.below (ac _ _)) Hu.out (by unfold maxLen;omega) (by omega) (by simp) ?_;intro v' w1 h1 h2 h3;have Hp:=Qa h1;have Hg:=Qa h2;clear h1 h2 h3);go_ret;have ho:=Hp.out;rw[Nat.zero_add,List.nil_append] at ho;obtain⟨A',c',rfl,-⟩:=ag ho;exact⟨A',c',rfl,aY (ac w _) (dy (Zf w _) (Zb _) (by unfold maxLen;omega) (by simp):(w.alloc (.cells #[] 97)).ownsRow w.heap.size 97 2 (.slice (some ⟨w.heap.size,0,none⟩) 0 0) 0 []) (by simp) Hg.out,ho⟩
def I7 (w:World)(n:Nat)(us:List Value)(e:Ending)(w':World):Prop:= ∃g A c,e =.returned (.tuple #[.pointer (some ⟨g,0,none⟩),.nilIface])/\Below w.heap.size w w'/\w.heap.size<=g/\w'.heap[g]?=some (.cells #[.slice A n c] 153 (0,0))/\cA (w.heap.size<= ·) w' 32 1 A n c us
theorem mi (hv:Sl w v us)(hu:∀u∈us,EZ u)(hn:us.length<=4294967296):Calls Tryz.prog 42 #[v] w (I7 w us.length us):=by
 obtain⟨hm,A,cap,rfl,hc,hA⟩:=id hv;have Hc:=Qa (oo hv hu);have Hk:=Qa (jI hv.k (fun u h=>(hu u h).one) hn);clear hv hA hu;go_enter Tryz.func42,Tryz.ntmps42;go_wp2_with fail;refine Za Hc ?_;rintro e w' ⟨rfl,rfl⟩;go_wp2_with fail;refine Za Hk ?_;rintro e w1 ⟨A1,c1,rfl,hb,ho⟩;have Ho:=Qa ho;have Hb:=Qa hb;clear ho hb;go_wp2_with fail;go_ret2;exact⟨w1.heap.size,A1,c1,rfl,bu Hb.out (ac _ _),Hb.out.size,Zf _ _,(cA.of_own Ho.out).stay fun g o hp hg _ _=>⟨hp,(Below.heap_alloc _ _ _ (ae hg)).trans hg⟩⟩
theorem rU {t:TypeId}{k:Nat}(E:dq t e z k B)(base:Nat)(v:Value)(n g c m:Nat)(us news:List Value)(a0:w.ownsRow base e k v n us)(hl:news.length=m*k)
  (hg:∀j u,news[j]?=some u->w.cell? ⟨g,j,none⟩=some u) (h1:∀u∈news,u.oneCell'=true) (hm:0<m)
  (hlen:n+m<=maxLen) (hby:(n+m)*B<=140737488355328) (a2:base<=w.heap.size) :
  ∃v' w',(Builtin.append_ #[t,t] ty #[v,.slice (some ⟨g,0,none⟩) m c]).run Tryz.prog w =.ok v' w'/\w'.ownsRow base e k v' (n+m) (us++news)/\w.grownBy w' v.ownBlock/\(v'.ownBlock=v.ownBlock\/v'.ownBlock=some w.heap.size)/\w.drawn<=w'.drawn:=by
 obtain⟨i0,hi,a6,b0,b1⟩:=info_parts E.hi;have a4:∀j u,news[j]?=some u->w.cell? ((⟨g,0,none⟩:Addr).add j)=some u:=fun j y hy=>by
  have:=hg j y hy;unfold Addr.add
  split
  ·rename_i h0;subst h0;exact this
  ·simpa using this
 obtain⟨v',w',hr,h2,h3,_,h5⟩:=run_append_own_at (P:=Tryz.prog) w base t ty e i0 z k B E.ht hi a6 b0 b1 E.hz E.h0 v n us a0 ⟨g,0,none⟩ m c news hl a4 h1 hlen hby a2;refine⟨v',w',hr,h2,h3,h5,?_⟩;have a7:n+m<=9223372036854775807:=by simp only[maxLen] at hlen;omega
 subst b0;subst b1;rcases a0.2 with ⟨rfl,rfl⟩|⟨b,cap,cur,rfl,b5,hb,b4,b3,b2,a9⟩
 ·have a3:=Go.run_append_nil (P:=Tryz.prog) w t ty e i0 z E.ht hi a6 ⟨g,0,none⟩ m c news hl a4 hm (by omega) (by simp only[Nat.zero_add] at hby;omega);rw[a3] at hr;injection hr with _ e
  rw[<-e];exact Nat.le_succ _
 ·by_cases hroom:n+m<=cap
  ·have a5:n*i0.size+news.length<=cur.size:=by rw[hl,b2,<-Nat.add_mul];exact Nat.mul_le_mul_right _ hroom
   have a3:=run_append_room (P:=Tryz.prog) w t ty e i0 E.ht hi b n cap cur hb ⟨g,0,none⟩ m c news hl a4 h1 hroom a5;rw[a3] at hr;injection hr with _ e
   rw[<-e];exact Zb _
  ·have a1:∀j u,us[j]?=some u->w.cell? ((⟨b,0,none⟩:Addr).add j)=some u:=a0.cells (g:=b) rfl;have a3:=run_append_grow (P:=Tryz.prog) w t ty e i0 z E.ht hi a6 ⟨b,0,none⟩ n cap us a0.1 a1 ⟨g,0,none⟩ m c news hl a4 (by omega) (by omega) (growslice_fits (by omega) hby);rw[a3] at hr;injection hr with _ e
   rw[<-e];exact Nat.le_succ _
structure bU (w w':World):Prop where
 b:Below w.heap.size w w'
 d:w.drawn<=w'.drawn
theorem bU.refl (w:World):bU w w:=⟨Ze _ _,Zb _⟩
theorem bU.trans {a b c:World}(h:bU a b)(k:bU b c):bU a c:=⟨bu h.b k.b,Zc h.d k.d⟩
theorem bU.drewN (w:World)(m:Nat):bU w (w.drewN m):=⟨av (Ze _ _) m,Nat.le_add_right _ _⟩
theorem bU.alloc (w:World)(o:Obj):bU w (w.alloc o):=⟨ac w o,Zb _⟩
theorem bU.grow (h:bU w w'):∃q os,w'=Go.Sort.grow (w.drewN q) os:=by
 obtain⟨⟨h1,h2,h3,h4,h5⟩,h6⟩:=h;refine⟨w'.drawn - w.drawn,w'.heap.extract w.heap.size w'.heap.size,?_⟩;obtain⟨hp,tp,dr,o,out⟩:=w;obtain⟨a0,tp',dr',o',out'⟩:=w';simp only at h1 h2 h3 h4 h5 h6;subst h1 h2 h3;have e:a0=hp++a0.extract hp.size a0.size:=by
  apply Array.ext
  ·simp;omega
  ·intro i a1 a2
   by_cases h:i<hp.size
   ·have:=h5 i h;rw[Array.getElem?_eq_getElem a1,Array.getElem?_eq_getElem h] at this;rw[Array.getElem_append_left h];exact Zi this
   ·rw[Array.getElem_append_right (by omega)];simp only[Array.getElem_extract]
    congr 1;omega
 have e2:dr'=dr+ (dr' - dr):=by omega
 unfold Go.Sort.grow World.drewN;simp only;rw[<-e,<-e2]
def fI (L:List (ByteArray×Value)):List Value:=L.flatMap fun p=> [.string p.1,p.2]
theorem kT:∀L:List (ByteArray×Value),(fI L).length=L.length*2
 | []=>rfl
 |p::L=>by have:=kT L;simp only[fI,List.flatMap_cons,List.length_append,List.length_cons,List.length_nil] at this ⊢;omega
theorem rt:∀ (L:List (ByteArray×Value)) (i:Nat) (p:ByteArray×Value),L[i]?=some p->(fI L)[i*2]?=some (.string p.1)/\(fI L)[i*2+1]?=some p.2
 | [],i,p,h=>by simp at h
 |a::L,0,p,h=>by simp at h;subst h;exact⟨rfl,rfl⟩
 |a::L,i+1,p,h=>by
  have ih:=rt L i p (by simpa using h);rw[show(i+1)*2=i*2+2 by omega];exact ih
def IP (w:World)(g:Nat)(L:List (ByteArray×Value)):Prop:= ∀ (i:Nat) (p:ByteArray×Value),L[i]?=some p->w.cell? ⟨g,i*2,none⟩=some (.string p.1)/\w.cell? ⟨g,i*2+1,none⟩=some p.2
theorem IP.below (h:IP w g L)(hb:Below w.heap.size w w'):IP w' g L:=fun i p hp=>⟨Zg hb (h i p hp).1,Zg hb (h i p hp).2⟩
def vD (w:World)(base:Nat)(v:Value)(L:List (ByteArray×Value)):Prop:=w.ownsRow base 97 2 v L.length (fI L)
theorem vD.read (h:vD w base (.slice (some ⟨g,0,none⟩) n q) L):IP w g L:=by
 intro i p hp;have hi:=(List.getElem?_eq_some_iff.1 hp).1;obtain⟨_,_,e,_,_,_⟩:=ag h;obtain⟨_,rfl,_⟩:=Value.slice.inj e;obtain⟨f1,f2⟩:=rt L i p hp
 constructor
 ·rw[aL h rfl (i*2) (by omega),f1]
 ·rw[aL h rfl (i*2+1) (by omega),f2]
