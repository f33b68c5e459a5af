import Derived.Test.YtafobflehfecpaaGreatDoorGZ15am
set_option linter.unusedVariables false
set_option linter.unusedSimpArgs false
set_option maxHeartbeats 64000000
set_option maxRecDepth 100000
namespace Go.Proofs.YtafobflehfecpaaGreatDoor
open Go.RowKit
variable {aE aU:Addr}{us:List Value}{B base c g n q:Nat}{P:Nat->Prop}{A:Option Addr}{e ty:TypeId}{T:TypeId->Prop}{u v z:Value}{w w':World}
def bF (P:Nat->Prop)(w:World)(e:TypeId)(k:Nat)(A:Option Addr)(n c:Nat)(xs:List Value):Prop:=
 xs.length=n*k/\n<=c/\c<=maxLen/\(0<n->∃g,A=some ⟨g,0,none⟩/\P g/\∃cur:Array Value,w.heap[g]?=some (.cells cur e (0,0))/\cur.toList.take (n*k)=xs)
def sO (ns:List ByteArray)(us:List Value):List Value:=(ns.zip us).flatMap fun p=> [.string p.1,p.2]
inductive VW (P:Nat->Prop) (w:World):Value->JV->Prop
 |null:VW P w (.iface 335 (.agg #[])) (.mk 1 false es ⟨false,es,0⟩ [] [])
 |bool (b:Bool):VW P w (.iface 333 (.bool b)) (.mk 2 b es ⟨false,es,0⟩ [] [])
 |num (d:Dc):VW P w (.iface 310 (.agg #[.bool d.neg,.string d.digits,.int .i64 d.exp])) (.mk 3 false es d [] [])
 |text (s:ByteArray):VW P w (.iface 86 (.string s)) (.mk 4 false s ⟨false,es,0⟩ [] [])
 |bare:VW P w (.iface 106 (.pointer none)) (.mk 5 false es ⟨false,es,0⟩ [] [])
 |list (g:Nat) (A:Option Addr) (c:Nat) (us:List Value) (ks:List JV):P g->w.heap[g]?=some (.cells #[.slice A us.length c] 241 (0,0))->bF P w 64 1 A us.length c us->us.length=ks.length->
   (∀ (i:Nat) u k,us[i]?=some u->ks[i]?=some k->VW P w u k)->VW P w (.iface 106 (.pointer (some ⟨g,0,none⟩))) (.mk 5 false es ⟨false,es,0⟩ [] ks)
 |obj (g:Nat) (A:Option Addr) (c:Nat) (us:List Value) (ns:List ByteArray) (ks:List JV):P g->w.heap[g]?=some (.cells #[.slice A us.length c] 167 (0,0))->bF P w 88 2 A us.length c (sO ns us)->us.length=ks.length->ns.length=ks.length->
   (∀ (i:Nat) u k,us[i]?=some u->ks[i]?=some k->VW P w u k)->VW P w (.iface 97 (.pointer (some ⟨g,0,none⟩))) (.mk 6 false es ⟨false,es,0⟩ ns ks)
section
variable {P Q:Nat->Prop}{w w':World}{v:Value}{j:JV}
theorem bF.stay {k:Nat}{xs:List Value}(h:bF P w e k A n c xs)(hs:∀g o,P g->w.heap[g]?=some o->o.isCells=true->(∃cs z,o =.cells cs e z)->Q g/\w'.heap[g]?=some o):bF Q w' e k A n c xs:=by
 obtain⟨h1,h2,h3,h4⟩:=h;refine⟨h1,h2,h3,fun h0=>?_⟩;obtain⟨g,e1,hp,cur,hg,ht⟩:=h4 h0;obtain⟨hq,hw⟩:=hs g _ hp hg rfl ⟨_,_,rfl⟩;exact⟨g,e1,hq,cur,hw,ht⟩
def TV (e:TypeId):Prop:=e=241\/e=167\/e=64\/e=88
theorem VW.stay (h:VW P w v j)(hs:∀g o,P g->w.heap[g]?=some o->(∃cs e z,o =.cells cs e z/\TV e)->Q g/\w'.heap[g]?=some o):VW Q w' v j:=by
 induction h with
 |null=>exact .null
 |bool b=>exact .bool b
 |num d=>exact .num d
 |text s=>exact .text s
 |bare=>exact .bare
 |list g A c us ks hp hg hr hl _ ih=>
  obtain⟨h1,h2⟩:=hs g _ hp hg ⟨_,_,_,rfl,.inl rfl⟩;exact .list g A c us ks h1 h2 (hr.stay fun g o a b _ ⟨cs,z,e⟩=>hs g o a b ⟨cs,_,z,e,.inr (.inr (.inl rfl))⟩) hl (fun i u k h1 h2=>ih i u k h1 h2)
 |obj g A c us ns ks hp hg hr hl hn _ ih=>
  obtain⟨h1,h2⟩:=hs g _ hp hg ⟨_,_,_,rfl,.inr (.inl rfl)⟩;exact .obj g A c us ns ks h1 h2 (hr.stay fun g o a b _ ⟨cs,z,e⟩=>hs g o a b ⟨cs,_,z,e,.inr (.inr (.inr rfl))⟩) hl hn (fun i u k h1 h2=>ih i u k h1 h2)
theorem VW.imp (h:VW P w v j)(hq:∀g,P g->g<w.heap.size->Q g):VW Q w v j:=h.stay fun g _ hp hg _=>⟨hq g hp (ag hg),hg⟩
theorem VW.later (h:VW P w v j)(hb:Below w.heap.size w w'):VW P w' v j:=h.stay fun g _ hp hg _=>⟨hp,(hb.block g (ag hg)).trans hg⟩
theorem VW.keeps (h:VW P w v j)(hk:bz T w w')(hT:∀e,TV e->¬T e):VW P w' v j:=h.stay fun g _ hp hg ⟨cs,e,z,ho,he⟩=>⟨hp,by subst ho;exact hk.2 g cs e z hg (hT e he)⟩
theorem VW.grown {row:Option Nat}(h:VW P w v j)(hg:w.grownBy w' row)(hr:∀g,row=some g->¬P g):VW P w' v j:=h.stay fun g _ hp hh _=>⟨hp,(hg.block g (ag hh) (fun e=>hr g e.symm hp)).trans hh⟩
theorem VW.set (h:VW P w v j){p:Addr}(u:Value)(hr:¬P p.block):VW P (w.setCell p u) v j:=h.stay fun g _ hp hh _=>⟨hp,(Below.heap_setCell w p u g (by rintro rfl;exact hr hp)).trans hh⟩
theorem VW.drewN (h:VW P w v j)(m:Nat):VW P (w.drewN m) v j:=h.stay fun _ _ hp hg _=>⟨hp,hg⟩
theorem VW.iface (h:VW P w v j):∃t x,v =.iface t x:=by cases h <;> exact⟨_,_,rfl⟩
theorem bF.of_own {k:Nat}{xs:List Value}(h:w.ownsRow base e k (.slice A n c) n xs):bF (base<= ·) w e k A n c xs:=by
 obtain⟨h1,⟨e1,h0⟩|⟨g,cap,cur,e1,hb,hg,h2,h3,h4,h5⟩⟩:=h
 ·obtain⟨rfl,rfl,rfl⟩:=Value.slice.inj e1;exact⟨h1,Zb _,Zj _,fun h=>absurd h (Nat.lt_irrefl _)⟩
 ·obtain⟨rfl,-,rfl⟩:=Value.slice.inj e1;exact⟨h1,h2,h3,fun _=>⟨g,rfl,hb,cur,hg,h5⟩⟩
theorem bF.cell {k:Nat}{xs:List Value}(h:bF P w e k (some ⟨g,0,none⟩) n c xs)(j:Nat)(hj:j<n*k):w.cell? ⟨g,j,none⟩=xs[j]?:=by
 obtain⟨h1,-,-,h4⟩:=h;obtain⟨g',e1,-,cur,hg,ht⟩:=h4 (by rcases Nat.eq_zero_or_pos n with h|h;subst h;omega;exact h);obtain rfl:g=g':=by injection e1 with e1;injection e1
 rw[<-ht,List.getElem?_take_of_lt hj];simp[World.cell?,hg]
theorem bF.ptr {k:Nat}{xs:List Value}(h:bF P w e k A n c xs)(hn:0<n):∃g,A=some ⟨g,0,none⟩/\P g:=by
 obtain⟨-,-,-,h4⟩:=h;obtain⟨g,h1,h2,-⟩:=h4 hn;exact⟨g,h1,h2⟩
end
theorem kF:∀ (ns:List ByteArray) (us:List Value) (i:Nat) (n:ByteArray) (u:Value),ns[i]?=some n->us[i]?=some u->(sO ns us)[i*2]?=some (.string n)/\(sO ns us)[i*2+1]?=some u
 | [],_,i,n,u,h,_=>by simp at h
 |_::_, [],i,n,u,_,h=>by simp at h
 |a::ns,b::us,0,n,u,h1,h2=>by simp at h1 h2;subst h1 h2;exact⟨rfl,rfl⟩
 |a::ns,b::us,i+1,n,u,h1,h2=>by
  have ih:=kF ns us i n u (by simpa using h1) (by simpa using h2);rw[show(i+1)*2=i*2+2 by omega];exact ih
theorem qS (w:World):Calls Tryz.prog 101 #[.pointer none] w fun e w'=>e =.returned (.int .i64 0)/\w=w':=by
 go_enter Tryz.func101,Tryz.ntmps101;go_wp2_with fail;go_ret;exact⟨rfl,rfl⟩
theorem kk (hg:w.heap[g]?=some (.cells #[.slice A n c] 241 (0,0))):Calls Tryz.prog 101 #[.pointer (some ⟨g,0,none⟩)] w fun e w'=>e =.returned (.int .i64 n)/\w=w':=by
 have c0:w.cell? ⟨g,0,none⟩=some (.slice A n c):=aa hg (j:=0) rfl;clear hg;go_enter Tryz.func101,Tryz.ntmps101;go_wp2_with fail;go_ret;exact⟨rfl,rfl⟩
theorem kR (hg:w.heap[g]?=some (.cells #[.slice A n c] 167 (0,0))):Calls Tryz.prog 54 #[.pointer (some ⟨g,0,none⟩)] w fun e w'=>e =.returned (.int .i64 n)/\w=w':=by
 have c0:w.cell? ⟨g,0,none⟩=some (.slice A n c):=aa hg (j:=0) rfl;clear hg;go_enter Tryz.func54,Tryz.ntmps54;go_wp2_with fail;go_ret;exact⟨rfl,rfl⟩
theorem tN (hg:w.heap[g]?=some (.cells #[.slice A n c] 241 (0,0)))(hr:bF P w 64 1 A n c us)(i:Nat)(hi:i<n)(hu:us[i]?=some u) :
  Calls Tryz.prog 135 #[.pointer (some ⟨g,0,none⟩),.int .i64 i] w fun e w'=>e =.returned (.tuple #[u,.bool true])/\w=w':=by
 have c0:w.cell? ⟨g,0,none⟩=some (.slice A n c):=aa hg (j:=0) rfl;obtain⟨b,rfl,-⟩:=hr.ptr (by omega);have c1:=hr.cell i (by omega);rw[hu] at c1;have hm:=hr.2.2.1;unfold maxLen at hm;have Hl:=Qa (kk hg);clear hg hr hu;have h0:¬ (i:Int)<0:=by omega
 have h1:(i:Int)<n:=by omega
 go_enter Tryz.func135,Tryz.ntmps135;go_wp2_with fail;refine Za Hl ?_;rintro e w' ⟨rfl,rfl⟩;go_wp2_with fail;go_ret2;exact⟨rfl,rfl⟩
theorem AX:Tryz.prog.underlying 64=some (.interface (Tryz.prog.methodsAt 64)):=by kernel_rfl
theorem oy (w:World)(t:TypeId)(x:Value):(binOp .eql 64 .nilIface (.iface t x)).run Tryz.prog w =.ok (.bool false) w:=run_eql_iface_nil_left w t x AX
theorem oB (w:World)(t:TypeId)(x:Value):(binOp .eql 64 (.iface t x) .nilIface).run Tryz.prog w =.ok (.bool false) w:=run_eql_held_nil w _ t x AX
theorem zo:cQ 146 64 .nilIface 1 16:=⟨Tryz.underlying146,by kernel_rfl,rfl,by decide⟩
theorem yP:cQ 89 88 (.agg #[.string ByteArray.empty,.nilIface]) 2 32:=⟨Tryz.underlying89,by kernel_rfl,rfl,by decide⟩
def yB (k:Nat)(w:World)(v:Value)(n:Nat)(us:List Value):Prop:=us.length=n*k/\n<=9223372036854775807/\∃A c,v =.slice A n c/\n<=c/\(0<n->∃g o,A=some ⟨g,o,none⟩/\∀i u,us[i]?=some u->w.cell? ⟨g,o+i,none⟩=some u)
theorem Sl.k (h:Sl w v us):yB 1 w v us.length us:=⟨by omega,h.1,h.2⟩
theorem yB.below {k:Nat}(h:yB k w v n us)(hb:Below w.heap.size w w'):yB k w' v n us:=by
 obtain⟨h1,h2,A,c,e,hc,hA⟩:=h;refine⟨h1,h2,A,c,e,hc,fun h0=>?_⟩;obtain⟨g,o,e,a0⟩:=hA h0;exact⟨g,o,e,fun i u hu=>Zg hb (a0 i u hu)⟩
theorem yB.of_own {k:Nat}(h:w.ownsRow base e k v n us):yB k w v n us:=by
 obtain⟨A,c,rfl,hc,hm,hA⟩:=af h;refine⟨h.1,by unfold maxLen at hm;omega,A,c,rfl,hc,fun h0=>?_⟩;obtain⟨g,rfl⟩:=hA h0;refine⟨g,0,rfl,fun i u hu=>?_⟩;have hi:=(List.getElem?_eq_some_iff.1 hu).1;rw[Nat.zero_add,World.ownsRow.cellAt h i (by rw[<-h.1];exact hi)];exact hu
theorem eM {t:TypeId}{k:Nat}(E:cQ t e z k B){ops:Array Oper}{rest:List Oper}{o:Oper}{a:Act}{Q:Exit->Act->World->Prop}(b0:o.guard=none)(s x:Operand)
  (ho:o.op =.call {callee:=.builtin .append,args:= #[s,x],argTypes:= #[t,t]})
  (base:Nat) (v:Value) (n:Nat) (ad:Addr) (c m:Nat) (us news:List Value) (hs:a.eval s=v) (a2:w.ownsRow base e k v n us) (hx:a.eval x =.slice (some ad) m c) (a4:yB k w (.slice (some ad) m c) m news)
  (h1:∀u∈news,u.oneCell'=true) (hlen:n+m<=maxLen) (hby:(n+m)*B<=140737488355328) (a0:base<=w.heap.size)
  (h:∀v' w',w'.ownsRow base e k v' (n+m) (us++news)->w.grownBy w' v.ownBlock->(v'.ownBlock=v.ownBlock\/v'.ownBlock=some w.heap.size)->wpList Tryz.prog ops Q rest (a.put o.dst v') w'):wpList Tryz.prog ops Q (o::rest) a w:=by
 refine wpList_plain b0 fun K hK=>?_
 obtain⟨i0,hi,b1,a3,a5⟩:=info_parts E.hi;obtain⟨hl,_,A,c',e',_,hA⟩:=a4;injection e' with e1 e2 e3
 subst e1;obtain⟨v',w',a1,h2,h3,_,h5⟩:=run_append_own_at (P:=Tryz.prog) w base t o.type e i0 z k B E.ht hi b1 a3 a5 E.hz E.h0 v n us a2 ad m c news
  hl (fun j y hy=>by
   have hj:=(List.getElem?_eq_some_iff.1 hy).1;have hm:0<m:=by rcases Nat.eq_zero_or_pos m with h0|h0;(· subst h0;rw[hl] at hj;omega);exact h0
   obtain⟨g,off,e',a9⟩:=hA hm;obtain rfl:=Zi e';rw[Addr.add_lit];exact a9 j y hy) h1 hlen hby a0
 unfold Oper.wp execOp;simp only[ho,resolve,invoke,builtin,Sem.run_bind,Sem.run_pure,Result.andThen_ok,List.map_toArray,List.map_cons,List.map_nil,hs,hx,a1];exact hK _ _ (h v' w' h2 h3 h5)
def DH (u:Value):Prop:= ∃t v,u =.iface t v
theorem DH.one (h:DH u):u.oneCell'=true:=by obtain⟨t,v,rfl⟩:=h;rfl
def ER (us:List Value)(w:World)(s8:Value)(wr:World):Prop:= ∃k:Nat,k<=us.length/\s8 =.int .i64 k/\w=wr
theorem p9 (hv:Sl w v us)(hu:∀u∈us,DH u):Calls Tryz.prog 203 #[v,.nilIface] w fun e w'=>e =.returned (.int .i64 (-1))/\w=w':=by
 obtain⟨hm,A,cap,rfl,hc,hA⟩:=id hv;have HA:=Qa hA;have Hu:=Qa hu;clear hv hA hu;go_enter Tryz.func203,Tryz.ntmps203;go_wp2_with fail
 go_loopw [5,8] (fun _ s8 wr=>ER us w s8 wr) (fun _ i _=>us.length - (intOf i).toNat)
 case atStart=>exact⟨0,Zj _,rfl,rfl⟩
 case round=>
  obtain⟨k,hk,rfl,rfl⟩:=hrel
  by_cases hlt:k<us.length
  ·obtain⟨g,o,rfl,a1⟩:=HA.out (by omega);obtain⟨u,hu⟩:∃s,us[k]?=some s:=⟨_,Zd hlt⟩;have cu:=a1 k u hu;have a0:=Qa (Zk hu);clear a1 hu;obtain⟨t,x,rfl⟩:=Hu.out u a0.out;have q1:=oy w t x;go_wp2_with fail;exact⟨⟨k+1,by omega,by go_num,rfl⟩,by simp[intOf];omega⟩
  ·obtain rfl:k=us.length:=by omega
   go_wp2_with fail;go_ret;exact⟨rfl,rfl⟩
theorem lO (hv:Sl w v us)(hu:∀u∈us,DH u):Calls Tryz.prog 185 #[v,.nilIface] w fun e w'=>e =.returned (.bool false)/\w=w':=by
 obtain⟨hm,A,cap,rfl,hc,hA⟩:=id hv;have Hc:=Qa (p9 hv hu);clear hv hA hu;go_enter Tryz.func185,Tryz.ntmps185;go_wp2_with fail;refine Za Hc ?_;rintro e w' ⟨rfl,rfl⟩;go_wp2_with fail;go_ret;exact⟨rfl,rfl⟩
def DI (e:TypeId)(k:Nat)(w:World)(n:Nat)(us:List Value)(ed:Ending)(w':World):Prop:= ∃A c,ed =.returned (.slice A n c)/\Below w.heap.size w w'/\w'.ownsRow w.heap.size e k (.slice A n c) n us
theorem mE (hv:yB 1 w v n us)(hu:∀u∈us,u.oneCell'=true)(hn:n<=4294967296):Calls Tryz.prog 186 #[v] w (DI 64 1 w n us):=by
 obtain⟨hl,hm,A,cap,rfl,hc,hA⟩:=id hv;have Hv:=Qa hv;have Hu:=Qa hu;have Hl:=Qa hl;have hq:=fun (w:World) (a:Option Addr) (n c n' c':Nat)=>Lib.run_eql_slice_nil (P:=Tryz.prog) w _ _ a n c n' c' Tryz.underlying146
 cases A with
 |none=>
  have h0:n=0:=by
   rcases Nat.eq_zero_or_pos n with h0|h0
   ·exact h0
   ·obtain⟨_,_,e,_⟩:=hA h0;cases e
  subst h0;clear hv hu hl hA;go_enter Tryz.func186,Tryz.ntmps186;go_wp2_with fail;go_ret;have h0:=Hl.out;rw[Nat.zero_mul] at h0;obtain rfl:=List.eq_nil_of_length_eq_zero h0;exact⟨none,0,rfl,Ze _ _,⟨by simp,.inl ⟨rfl,rfl⟩⟩⟩
 |some ad=>
  clear hv hu hl hA;go_enter Tryz.func186,Tryz.ntmps186;go_wp2_with (at_builtin;refine eM zo rfl (.tmp 5) (.tmp 6) rfl w.heap.size (.slice (some ⟨w.heap.size,0,none⟩) 0 0) 0 ad cap n [] us (by simp[Act.eval]) (dP (Zf w _) (Zb _) (by unfold maxLen;omega) (by simp)) (by simp[Act.eval]) (Hv.out.below (ac _ _)) Hu.out (by unfold maxLen;omega) (by omega) (by simp) ?_;intro v' w1 h1 h2 h3;have Hp:=Qa h1;have Hg:=Qa h2;clear h1 h2 h3);go_ret;have ho:=Hp.out;rw[Nat.zero_add,List.nil_append] at ho;obtain⟨A',c',rfl,-⟩:=af ho;exact⟨A',c',rfl,aJ (ac w _) (dP (Zf w _) (Zb _) (by unfold maxLen;omega) (by simp):(w.alloc (.cells #[] 64)).ownsRow w.heap.size 64 1 (.slice (some ⟨w.heap.size,0,none⟩) 0 0) 0 []) (by simp) Hg.out,ho⟩
theorem mJ (hv:yB 2 w v n us)(hu:∀u∈us,u.oneCell'=true)(hn:n<=4294967296):Calls Tryz.prog 187 #[v] w (DI 88 2 w n us):=by
 obtain⟨hl,hm,A,cap,rfl,hc,hA⟩:=id hv;have Hv:=Qa hv;have Hu:=Qa hu;have Hl:=Qa hl;have hq:=fun (w:World) (a:Option Addr) (n c n' c':Nat)=>Lib.run_eql_slice_nil (P:=Tryz.prog) w _ _ a n c n' c' Tryz.underlying89
 cases A with
 |none=>
  have h0:n=0:=by
   rcases Nat.eq_zero_or_pos n with h0|h0
   ·exact h0
   ·obtain⟨_,_,e,_⟩:=hA h0;cases e
  subst h0;clear hv hu hl hA;go_enter Tryz.func187,Tryz.ntmps187;go_wp2_with fail;go_ret;have h0:=Hl.out;rw[Nat.zero_mul] at h0;obtain rfl:=List.eq_nil_of_length_eq_zero h0;exact⟨none,0,rfl,Ze _ _,⟨by simp,.inl ⟨rfl,rfl⟩⟩⟩
 |some ad=>
  clear hv hu hl hA;go_enter Tryz.func187,Tryz.ntmps187;go_wp2_with (at_builtin;refine eM yP rfl (.tmp 5) (.tmp 6) rfl w.heap.size (.slice (some ⟨w.heap.size,0,none⟩) 0 0) 0 ad cap n [] us (by simp[Act.eval]) (dP (Zf w _) (Zb _) (by unfold maxLen;omega) (by simp)) (by simp[Act.eval]) (Hv.out.below (ac _ _)) Hu.out (by unfold maxLen;omega) (by omega) (by simp) ?_;intro v' w1 h1 h2 h3;have Hp:=Qa h1;have Hg:=Qa h2;clear h1 h2 h3);go_ret;have ho:=Hp.out;rw[Nat.zero_add,List.nil_append] at ho;obtain⟨A',c',rfl,-⟩:=af ho;exact⟨A',c',rfl,aJ (ac w _) (dP (Zf w _) (Zb _) (by unfold maxLen;omega) (by simp):(w.alloc (.cells #[] 88)).ownsRow w.heap.size 88 2 (.slice (some ⟨w.heap.size,0,none⟩) 0 0) 0 []) (by simp) Hg.out,ho⟩
def Fz (w:World)(n:Nat)(us:List Value)(e:Ending)(w':World):Prop:= ∃g A c,e =.returned (.tuple #[.pointer (some ⟨g,0,none⟩),.nilIface])/\Below w.heap.size w w'/\w.heap.size<=g/\w'.heap[g]?=some (.cells #[.slice A n c] 241 (0,0))/\bF (w.heap.size<= ·) w' 64 1 A n c us
theorem j6 (hv:Sl w v us)(hu:∀u∈us,DH u)(hn:us.length<=4294967296):Calls Tryz.prog 157 #[v] w (Fz w us.length us):=by
 obtain⟨hm,A,cap,rfl,hc,hA⟩:=id hv;have Hc:=Qa (lO hv hu);have Hk:=Qa (mE hv.k (fun u h=>(hu u h).one) hn);clear hv hA hu;go_enter Tryz.func157,Tryz.ntmps157;go_wp2_with fail;refine Za Hc ?_;rintro e w' ⟨rfl,rfl⟩;go_wp2_with fail;refine Za Hk ?_;rintro e w1 ⟨A1,c1,rfl,hb,ho⟩;have Ho:=Qa ho;have Hb:=Qa hb;clear ho hb;go_wp2_with fail;go_ret2;exact⟨w1.heap.size,A1,c1,rfl,ak Hb.out (ac _ _),Hb.out.size,Zf _ _,(bF.of_own Ho.out).stay fun g o hp hg _ _=>⟨hp,(Below.heap_alloc _ _ _ (ag hg)).trans hg⟩⟩
theorem ph {t:TypeId}{k:Nat}(E:cQ t e z k B)(base:Nat)(v:Value)(n g c m:Nat)(us news:List Value)(a0:w.ownsRow base e k v n us)(hl:news.length=m*k)
  (hg:∀j u,news[j]?=some u->w.cell? ⟨g,j,none⟩=some u) (h1:∀u∈news,u.oneCell'=true) (hm:0<m)
  (hlen:n+m<=maxLen) (hby:(n+m)*B<=140737488355328) (a3:base<=w.heap.size) :
  ∃v' w',(Builtin.append_ #[t,t] ty #[v,.slice (some ⟨g,0,none⟩) m c]).run Tryz.prog w =.ok v' w'/\w'.ownsRow base e k v' (n+m) (us++news)/\w.grownBy w' v.ownBlock/\(v'.ownBlock=v.ownBlock\/v'.ownBlock=some w.heap.size)/\w.drawn<=w'.drawn:=by
 obtain⟨i0,hi,b0,b1,b3⟩:=info_parts E.hi;have a4:∀j u,news[j]?=some u->w.cell? ((⟨g,0,none⟩:Addr).add j)=some u:=fun j y hy=>by
  have:=hg j y hy;unfold Addr.add
  split
  ·rename_i h0;subst h0;exact this
  ·simpa using this
 obtain⟨v',w',hr,h2,h3,_,h5⟩:=run_append_own_at (P:=Tryz.prog) w base t ty e i0 z k B E.ht hi b0 b1 b3 E.hz E.h0 v n us a0 ⟨g,0,none⟩ m c news hl a4 h1 hlen hby a3;refine⟨v',w',hr,h2,h3,h5,?_⟩;have a5:n+m<=9223372036854775807:=by simp only[maxLen] at hlen;omega
 subst b1;subst b3;rcases a0.2 with ⟨rfl,rfl⟩|⟨b,cap,cur,rfl,b9,hb,b5,b8,b4,b2⟩
 ·have a1:=Go.run_append_nil (P:=Tryz.prog) w t ty e i0 z E.ht hi b0 ⟨g,0,none⟩ m c news hl a4 hm (by omega) (by simp only[Nat.zero_add] at hby;omega);rw[a1] at hr;injection hr with _ e
  rw[<-e];exact Nat.le_succ _
 ·by_cases hroom:n+m<=cap
  ·have a9:n*i0.size+news.length<=cur.size:=by rw[hl,b4,<-Nat.add_mul];exact Nat.mul_le_mul_right _ hroom
   have a1:=run_append_room (P:=Tryz.prog) w t ty e i0 E.ht hi b n cap cur hb ⟨g,0,none⟩ m c news hl a4 h1 hroom a9;rw[a1] at hr;injection hr with _ e
   rw[<-e];exact Zb _
  ·have a2:∀j u,us[j]?=some u->w.cell? ((⟨b,0,none⟩:Addr).add j)=some u:=a0.cells (g:=b) rfl;have a1:=run_append_grow (P:=Tryz.prog) w t ty e i0 z E.ht hi b0 ⟨b,0,none⟩ n cap us a0.1 a2 ⟨g,0,none⟩ m c news hl a4 (by omega) (by omega) (growslice_fits (by omega) hby);rw[a1] at hr;injection hr with _ e
   rw[<-e];exact Nat.le_succ _
structure bo (w w':World):Prop where
 b:Below w.heap.size w w'
 d:w.drawn<=w'.drawn
theorem bo.refl (w:World):bo w w:=⟨Ze _ _,Zb _⟩
theorem bo.trans {a b c:World}(h:bo a b)(k:bo b c):bo a c:=⟨ak h.b k.b,Zc h.d k.d⟩
theorem bo.drewN (w:World)(m:Nat):bo w (w.drewN m):=⟨ap (Ze _ _) m,Nat.le_add_right _ _⟩
theorem bo.alloc (w:World)(o:Obj):bo w (w.alloc o):=⟨ac w o,Zb _⟩
theorem bo.grow (h:bo w w'):∃q os,w'=Go.Sort.grow (w.drewN q) os:=by
 obtain⟨⟨h1,h2,h3,h4,h5⟩,h6⟩:=h;refine⟨w'.drawn - w.drawn,w'.heap.extract w.heap.size w'.heap.size,?_⟩;obtain⟨hp,tp,dr,o,out⟩:=w;obtain⟨a0,tp',dr',o',out'⟩:=w';simp only at h1 h2 h3 h4 h5 h6;subst h1 h2 h3;have e:a0=hp++a0.extract hp.size a0.size:=by
  apply Array.ext
  ·simp;omega
  ·intro i a1 a2
   by_cases h:i<hp.size
   ·have:=h5 i h;rw[Array.getElem?_eq_getElem a1,Array.getElem?_eq_getElem h] at this;rw[Array.getElem_append_left h];exact Zi this
   ·rw[Array.getElem_append_right (by omega)];simp only[Array.getElem_extract]
    congr 1;omega
 have e2:dr'=dr+ (dr' - dr):=by omega
 unfold Go.Sort.grow World.drewN;simp only;rw[<-e,<-e2]
def fy (L:List (ByteArray×Value)):List Value:=L.flatMap fun p=> [.string p.1,p.2]
theorem iW:∀L:List (ByteArray×Value),(fy L).length=L.length*2
 | []=>rfl
 |p::L=>by have:=iW L;simp only[fy,List.flatMap_cons,List.length_append,List.length_cons,List.length_nil] at this ⊢;omega
theorem oQ:∀ (L:List (ByteArray×Value)) (i:Nat) (p:ByteArray×Value),L[i]?=some p->(fy L)[i*2]?=some (.string p.1)/\(fy L)[i*2+1]?=some p.2
 | [],i,p,h=>by simp at h
 |a::L,0,p,h=>by simp at h;subst h;exact⟨rfl,rfl⟩
 |a::L,i+1,p,h=>by
  have ih:=oQ L i p (by simpa using h);rw[show(i+1)*2=i*2+2 by omega];exact ih
def F5 (w:World)(g:Nat)(L:List (ByteArray×Value)):Prop:= ∀ (i:Nat) (p:ByteArray×Value),L[i]?=some p->w.cell? ⟨g,i*2,none⟩=some (.string p.1)/\w.cell? ⟨g,i*2+1,none⟩=some p.2
theorem F5.below {L:List (ByteArray×Value)}(h:F5 w g L)(hb:Below w.heap.size w w'):F5 w' g L:=fun i p hp=>⟨Zg hb (h i p hp).1,Zg hb (h i p hp).2⟩
def sR (w:World)(base:Nat)(v:Value)(L:List (ByteArray×Value)):Prop:=w.ownsRow base 88 2 v L.length (fy L)
theorem sR.read {L:List (ByteArray×Value)}(h:sR w base (.slice (some ⟨g,0,none⟩) n q) L):F5 w g L:=by
 intro i p hp;have hi:=(List.getElem?_eq_some_iff.1 hp).1;obtain⟨_,_,e,_,_,_⟩:=af h;obtain⟨_,rfl,_⟩:=Value.slice.inj e;obtain⟨f1,f2⟩:=oQ L i p hp
 constructor
 ·rw[aK h rfl (i*2) (by omega),f1]
 ·rw[aK h rfl (i*2+1) (by omega),f2]
def DM (s:ByteArray):Prop:=iF s.data.toList/\s.size<=6000
inductive dO (asc:List ByteArray->Prop):JV->Prop
 |null:dO asc (.mk 1 false es FA [] [])
 |bool (b:Bool):dO asc (.mk 2 b es FA [] [])
 |num (d:Dc):d.digits.size<=6000+1->GK d->dO asc (.mk 3 false es d [] [])
 |text (s:ByteArray):DM s->dO asc (.mk 4 false s FA [] [])
 |list (ks:List JV):(∀u∈ks,dO asc u)->dO asc (.mk 5 false es FA [] ks)
 |obj (ns:List ByteArray) (ks:List JV):ns.length=ks.length->(∀s∈ns,DM s)->asc ns->(∀u∈ks,dO asc u)->dO asc (.mk 6 false es FA ns ks)
theorem t8 (W:World)(s:ByteArray)(hs:s.size<=9223372036854775807):∃W2 cap,(convert 9 28 (.string s)).run Tryz.prog W =.ok (.slice (some ⟨W.heap.size,0,none⟩) s.size cap) W2/\
  Below W.heap.size W W2/\Bs W2 (.slice (some ⟨W.heap.size,0,none⟩) s.size cap) s.data.toList:=by
 refine⟨Lib.bytesWorld W 5 s,grownCap W s.size 0 5,Lib.run_convert_string_bytes W 9 28 5 s Tryz.underlying9 Tryz.underlying28 Tryz.underlying5,?_,?_⟩
 ·exact⟨rfl,rfl,rfl,by rw[Lib.bytesWorld_size];omega,fun k hk=>Lib.bytesWorld_at_old _ _ _ _ hk⟩
 ·have hl:s.data.toList.length=s.size:=by simp
  refine⟨by omega,_,_,by rw[hl],by rw[hl];exact grownCap_ge _ _ _ _,fun _=>⟨_,0,rfl,fun i hi=>?_⟩⟩;rw[Nat.zero_add];exact Lib.bytesWorld_cell W 5 s i (by omega)
theorem tu:cQ 192 21 (.int .i32 0) 1 4:=⟨Tryz.underlying192,by kernel_rfl,rfl,by decide⟩
def eX (c:Int):Value:=.int .i32 c
def yd (w:World)(base:Nat)(v:Value)(l:List Int):Prop:=w.ownsRow base 21 1 v l.length (l.map eX)
open Go.Shelf
theorem kL {c:Int}(h:ce c=true)(ys:List UInt8):a7 (aO c++ys)= (c.toNat,(aO c).length,0):=by
 obtain⟨n,rfl⟩:∃n:Nat,c=n:=⟨c.toNat,by have:=bY h;omega⟩;exact ea n h ys
theorem qL:∀ (cs:List Int) (f:Nat) (pre:List UInt8),(∀c∈cs,ce c=true)->cs.length<f->pQ (pre++cs.flatMap aO) f pre.length= (pre++cs.flatMap aO).length
 | [],f+1,pre,_,_=>by
  unfold pQ;rw[List.flatMap_nil,List.append_nil,List.drop_length,if_neg (by decide)]
 |c::cs,f+1,pre,hc,hf=>by
  have h0:=hc c (by simp);unfold pQ;rw[List.flatMap_cons,List.drop_left,kL h0,if_pos rfl];have:=qL cs f (pre++aO c) (fun d hd=>hc d (by simp[hd])) (by simpa using hf);rw[List.length_append,List.append_assoc] at this;exact this
 |_,0,_,_,hf=>by omega
theorem dw:∀ {cs:List Int},(∀c∈cs,ce c=true)->cs.length<=(cs.flatMap aO).length
 | [],_=>Zb _
 |c::cs,h=>by
  have h1:=dw (cs:=cs) (fun d hd=>h d (by simp[hd]));have h2:(aO c).length≠0:=fun e=>fO (h c (by simp)) (List.eq_nil_of_length_eq_zero e)
  rw[List.flatMap_cons,List.length_append,List.length_cons];omega
theorem zd {cs:List Int}(h:∀c∈cs,ce c=true):C5 (cs.flatMap aO)= (cs.flatMap aO).length:=by
 have:=qL cs ((cs.flatMap aO).length+1) [] h (by have:=dw h;omega);simpa [C5] using this
theorem By {cs:List Int}(h:∀c∈cs,ce c=true)(hb:Bs w v (cs.flatMap aO))(hg:cf w aU aE):Calls Tryz.prog 112 #[v] w fun e w'=>e =.returned .nilIface/\Below w.heap.size w w':=by
 refine(wQ hb hg).mono ?_;rintro e w' ⟨a0,⟨_,rfl⟩|⟨hlt,_⟩⟩
 ·exact⟨rfl,a0⟩
 ·rw[gR _ hb.1,zd h] at hlt;omega
theorem CU {c:Int}:(bT c).length<=6:=by
 unfold bT
 repeat' split
 all_goals first|simp|(have:=kE c;omega)
theorem aM.iter {j:Nat}{s:ByteArray}:aM (fun k=>k=j) w (w.iterAt j s q):=⟨rfl,rfl,rfl,by rw[Lib.iterAt_size];exact Zb _,fun k _ hk=>Lib.iterAt_other w j k s q hk⟩
def DS (s:ByteArray)(cs:List Int)(j:Nat)(w:World)(m:Nat)(s5:Value)(wr:World):Prop:=
 ∃ (pre rest:List Int) (p:Nat),cs=pre++rest/\m=rest.length/\s.data.toList.drop p=rest.flatMap aO/\wr.heap[j]?=some (.stringIter s p)/\ao wr w.heap.size s5 (34::pre.flatMap bT)/\(pre.flatMap bT).length<=6*pre.length/\Below w.heap.size w wr
def GF (xs:List UInt8)(w:World)(e:Ending)(w':World):Prop:= ∃v,e =.returned (.tuple #[v,.nilIface])/\ao w' w.heap.size v xs/\Below w.heap.size w w'
theorem nI {s:ByteArray}(hs:bf s)(hG:cf w aU aE)(hl:s.size<=1000000000):Calls Tryz.prog 80 #[.string s] w (GF (cY s) w):=by
 obtain⟨hc,hd⟩:=hs.nm;unfold cY;generalize Proofs.YtafobflehfecpaaGreatDoor.nm s=cs at *;clear hs;obtain⟨W2,cap,d1,a2,c4⟩:=t8 w s (by omega);rw[<-hd] at c4;have Hv:=Qa (By hc c4 (hG.below a2));have e2:=Qa a2;have Hd:=Qa hd;have Hc:=Qa hc;have e5:cs.length<=1000000000:=by
  have h1:=dw hc;rw[hd] at h1;have:s.data.toList.length=s.size:=by simp
  omega
 clear a2 c4 hd hc hG;go_enter Tryz.func80,Tryz.ntmps80;go_wp2_with fail;refine Za Hv ?_;rintro e w1 ⟨rfl,c7⟩;have d0:=Qa (ak e2.out c7);have d9:=d0.out.size;clear c7;go_wp2_with fail;have a9:=ac w1 (.cells #[.int .u8 34] 5);have b0:=Zf w1 (.cells #[.int .u8 34] 5);have a5:ao (w1.alloc (.cells #[.int .u8 34] 5)) w.heap.size (.slice (some ⟨w1.heap.size,0,none⟩) 1 1) [34]:=j4 (n:=1) (k:=1) b0 d9 (by unfold maxLen;omega) rfl;have a1:=ac (w1.alloc (.cells #[.int .u8 34] 5)) (.stringIter s 0);have Hi:=Qa (Zf (w1.alloc (.cells #[.int .u8 34] 5)) (.stringIter s 0));have Ho:=Qa (a5.below a1 (Zb _));have Hb:=Qa (ak (ak d0.out a9) a1);clear a9 a1 b0 a5
 go_loopg [5] cs.length (fun m s5 wr=>DS s cs (w1.heap.size+1) w m s5 wr)
 case atStart=>exact⟨[],cs,0,rfl,rfl,Hd.out.symm,by have:=Hi.out;rwa[World.size_alloc] at this,Ho.out,Zb _,Hb.out⟩
 case round=>
  clear Ho Hi Hb;obtain⟨pre,rest,p,he,hm,a3,hi,ho,b5,hb⟩:=hrel;have hji:w.heap.size<=w1.heap.size+1:=by omega
  generalize w1.heap.size+1=j at *;have Ho:=Qa ho;have Hi:=Qa hi;have Hb:=Qa hb;have He:=Qa he;have c3:=Qa b5;have e3:=Qa a3;have e0:s.data.toList.length=s.size:=by simp
  have b3:∀b,u5.ownBlock=some b->b≠j:=fun b a2 e=>by
   obtain⟨_,cur,hg⟩:=al ho a2;rw[e,hi] at hg
   cases hg
  have e4:=Qa b3;have d5:pre.length<=1000000000:=by have:=congrArg List.length he;rw[List.length_append] at this;omega
  cases rest with
  |nil=>
   have hlt:¬p<s.size:=by
    have:=congrArg List.length a3;rw[List.length_drop] at this;simp at this;omega
   have b2:∀ty,(Instr.next (.pointer (some ⟨j,0,none⟩)) true ty).run Tryz.prog wr =.ok (.tuple #[.bool false]) wr:=fun ty=>Lib.run_next_end_at wr j s p ty hi hlt
   clear ho hi hb he b5 a3 b3 hlt hm;have c2:=ac wr (.cells #[.int .u8 34] 5);have c9:=Qa (Ho.out.below c2 (Zb _));have Hn:=Qa (jG wr [34] (by decide));have a0:=Qa (ak Hb.out c2);have b9:=Qa (show w.heap.size<=(wr.alloc (.cells #[.int .u8 34] 5)).heap.size from a0.out.size);have c5:=Qa (show(34::pre.flatMap bT).length+ ([34]:List UInt8).length<=140737488355328 by have:=c3.out;simp at *;omega);clear c2;go_wp2_with (at_builtin;refine qh c9.out Hn.out c5.out b9.out ?_;intro v' w3 h1 h2 h3;have HK:=Qa h1;have b1:=Qa h2;clear h1 h2 h3);obtain⟨A3,q3,rfl,-⟩:=af HK.out;go_ret2;refine⟨_,rfl,?_,a0.out.grown b1.out a0.out.size (fun g e=>(ao.blk c9.out e).1)⟩;have e:jH cs= (34::pre.flatMap bT) ++ [34]:=by rw[He.out,List.append_nil];rfl
   rw[e];exact HK.out
  |cons c rest=>
   have h0:=Hc.out c (by rw[he];simp);have hlen:=congrArg List.length a3;rw[List.length_drop,e0,List.flatMap_cons,List.length_append] at hlen;have e1:(aO c).length≠0:=fun e=>fO h0 (List.eq_nil_of_length_eq_zero e)
   have hlt:p<s.size:=by omega
   have b2:∀ty,(Instr.next (.pointer (some ⟨j,0,none⟩)) true ty).run Tryz.prog wr =.ok (.tuple #[.bool true,.int .i64 p,.int .i32 (Utf8.decode s p).1]) (wr.iterAt j s (p+ (Utf8.decode s p).2)):=fun ty=>Lib.run_next_any_at wr j s p ty hi hlt
   rw[iu s p hlt,a3,List.flatMap_cons,kL h0,if_pos rfl] at b2;have d2:((c.toNat:Nat):Int)=c:=by have:=bY h0;omega
   dsimp only at b2
   rw[d2] at b2;have a4:=aM.iter (w:=wr) (j:=j) (q:=p+ (aO c).length) (s:=s);have d3:=Qa (Lib.iterAt_heap wr j s p (p+ (aO c).length) hi);have d4:=Qa (ho.stayB a4 b3);have d6:=Qa (hb.trans (a4.below hb.size (fun k hk=>by rw[hk];exact hji)));have b8:=Qa (show s.data.toList.drop (p+ (aO c).length)=rest.flatMap aO by rw[<-List.drop_drop,a3,List.flatMap_cons,List.drop_left]);have H0:=Qa h0;have c8:=Qa (CU (c:=c));have Hgk:Hid (gk=rest.length+1):=Qa hm;clear ho hi hb he b5 a3 b3 hlt hlen e1 a4 h0 d2 hm;generalize wr.iterAt j s (p+ (aO c).length)=wi at *;go_wp2_with fail;refine(rE H0.out _).mono ?_;rintro e w3 ⟨rfl,b4⟩;have c0:=Qa (d4.out.below b4 (Zb _));have a0:=Qa (ak d6.out b4);have c6:=Qa (ah d3.out b4);have b9:=Qa a0.out.size;have c5:=Qa (show(34::pre.flatMap bT).length+ (⟨(bT c).toArray⟩:ByteArray).size<=140737488355328 by
    have h1:=c3.out;have h2:=c8.out;have h3:(⟨(bT c).toArray⟩:ByteArray).size= (bT c).length:=by simp[ByteArray.size]
    rw[h3,List.length_cons];omega)
   clear b4;go_wp2_with (at_builtin;refine bK rfl (.tmp 20) (.tmp 22) rfl w.heap.size u5 (34::pre.flatMap bT) ⟨(bT c).toArray⟩ (by simp[Act.eval]) c0.out (by simp[Act.eval]) c5.out b9.out ?_;intro v' w4 h1 h2;have HK:=Qa h1;have b1:=Qa h2;clear h1 h2);have c1:∀b,u5.ownBlock=some b->b≠j:=fun b a2 e=>by
    obtain⟨_,cur,hg⟩:=al c0.out a2;rw[e,c6.out] at hg
    cases hg
   have h3:DS s cs j w rest.length v' w4:=by
    refine⟨pre ++ [c],rest,p+ (aO c).length,by rw[He.out];simp,rfl,b8.out,ay c6.out b1.out (fun e=>c1 j e rfl),?_,?_,a0.out.grown b1.out a0.out.size (fun g e=>(ao.blk c0.out e).1)⟩
    ·have e:34:: (pre ++ [c]).flatMap bT= (34::pre.flatMap bT)++bT c:=by simp
     rw[e];exact HK.out
    ·have h1:=c3.out;have h2:=c8.out;simp only[List.flatMap_append,List.flatMap_cons,List.flatMap_nil,List.append_nil,List.length_append,List.length_cons,List.length_nil];omega
   go_roundg (rest.length)
   case measure=>have:=Hgk.out;omega
   case rel=>exact h3
