import Derived.Test.YtgkkffeagolnpaaGreatDoorGZ16af
import Derived.Test.YtgkkffeagolnpaaGreatDoorGZ16am
set_option linter.unusedVariables false
set_option linter.unusedSimpArgs false
set_option maxHeartbeats 64000000
set_option maxRecDepth 100000
namespace Go.Proofs.YtgkkffeagolnpaaGreatDoor
variable {aE aU:Addr}{j:JV}{ks:List JV}{us:List Value}{B L base c g n q:Nat}{P:Nat->Prop}{A:Option Addr}{e ty:TypeId}{T:TypeId->Prop}{u v z:Value}{w w':World}
theorem BJ {c:Int}(h:cA c=true):(cf c).length<=6* (a7 c).length:=by
 have h1:1<=(a7 c).length:=by rcases hl:a7 c with _|⟨x,l⟩;exact absurd hl (gQ h);simp
 unfold cf
 repeat' split
 all_goals first|(simp only[List.length_cons,List.length_nil];omega)|omega
theorem eG {s:ByteArray}(h:bi s):(bW s).length<=6*s.size+2:=by
 have hn:=h.nm;have key:∀cs:List Int,(∀c∈cs,cA c=true)->(cs.flatMap cf).length<=6* (cs.flatMap a7).length:=by
  intro cs
  induction cs with
  |nil=>intro _;simp
  |cons c cs ih=>
   intro hc;have h1:=BJ (hc c (by simp));have h2:=ih (fun c h=>hc c (Zl _ h));rw[List.flatMap_cons,List.flatMap_cons,List.length_append,List.length_append];omega
 have h1:=key _ hn.1;rw[hn.2] at h1;have h2:s.data.toList.length=s.size:=by simp
 unfold bW kr;rw[List.length_cons,List.length_append];simp only[List.length_cons,List.length_nil];omega
theorem B9 {x:Int}(h: -1000000000<=x/\x<=1000000000):(gj x).length<=12:=by
 unfold gj
 split
 ·simp
 ·rcases Int.lt_or_le x 0 with hn|hn
  ·obtain⟨m,rfl⟩:∃m:Nat,x = -(m:Int):=⟨x.natAbs,by omega⟩;rw[Lib.itoa_neg m (by omega)];have:=eZ (u:=m) (by omega);simp;omega
  ·obtain⟨m,rfl⟩:∃m:Nat,x= (m:Int):=⟨x.natAbs,by omega⟩;rw[Lib.itoa_nonneg m];have:=eZ (u:=m) (by omega);simp;omega
inductive zK (L:Nat):JV->Prop
 |null:zK L oM
 |bool (b:Bool):zK L (iH b)
 |num (d:Dc):d.digits.size<=L+1-> -1000000000<=d.exp/\d.exp<=1000000000->zK L (lA d)
 |text (s:ByteArray):bi s->s.size<=L->zK L (aZ s)
 |list (ks:List JV):(∀u∈ks,zK L u)->zK L (cJ ks)
 |obj (ns:List ByteArray) (ks:List JV):ns.length=ks.length->(∀s∈ns,bi s/\s.size<=L)->(∀u∈ks,zK L u)->zK L (.mk 6 false ⟨#[]⟩ ⟨false,⟨#[]⟩,0⟩ ns ks)
theorem sA (h:∀u∈ks,(u.txt).length+6*L+10<=u.size* (12*L+40))(o:Bool):∀ (first:Bool) (ns:List ByteArray),ns.length=ks.length\/o=false->(∀s∈ns,bi s/\s.size<=L)->(JV.txts o first ns ks).length<=JV.sizes ks* (12*L+40):=by
 induction ks with
 |nil=>intro first ns _ _;simp[JV.txts]
 |cons v vs ih=>
  intro first ns hl hs;have h1:=h v (by simp);have a0:∀s∈ns.tail,bi s/\s.size<=L:=fun s h=>hs s (List.mem_of_mem_tail h)
  have h2:=ih (fun u hu=>h u (Zl _ hu)) false ns.tail (hl.imp (fun e=>by cases ns <;> simp at e ⊢;omega) id) a0;simp only[JV.txts,JV.sizes,List.length_append];have h3:(if first then([]:List UInt8) else [44]).length<=1:=by cases first <;> simp
  have h4:(if o then bW (ns.headD ⟨#[]⟩) ++ [58] else []).length<=6*L+3:=by
   cases o with
   |false=>simp
   |true=>
    cases ns with
    |nil=>simp at hl
    |cons a ns=>
     obtain⟨q1,q2⟩:=hs a (by simp);have:=eG q1;simp only[if_true,List.headD_cons,List.length_append,List.length_cons,List.length_nil];omega
  rw[Nat.add_mul];omega
theorem zK.len (h:zK L j):j.txt.length+6*L+10<=j.size* (12*L+40):=by
 induction h with
 |null=>simp[oM,JV.txt,JV.size,JV.sizes];omega
 |bool b=>cases b <;> simp[iH,JV.txt,JV.size,JV.sizes] <;> omega
 |num d h1 h2=>
  have:=B9 h2;have e:(lA d).txt=eb d:=by simp[lA,JV.txt]
  have e2:(lA d).size=1:=by simp[lA,JV.size,JV.sizes]
  have e3:d.digits.data.toList.length=d.digits.size:=by simp
  rw[e,e2];unfold eb;rw[List.length_append,List.length_append,e3];have e4:(if d.neg then [45] else([]:List UInt8)).length<=1:=by split <;> simp
  omega
 |text s h1 h2=>
  have:=eG h1;have e:(aZ s).txt=bW s:=by simp[aZ,JV.txt]
  have e2:(aZ s).size=1:=by simp[aZ,JV.size,JV.sizes]
  rw[e,e2];omega
 |list ks _ ih=>
  have h1:=sA ih false true [] (.inr rfl) (by simp);have e:(cJ ks).txt.length= (JV.txts false true [] ks).length+2:=by simp[cJ,JV.txt]
  have e2:(cJ ks).size=1+JV.sizes ks:=by simp[cJ,JV.size]
  rw[e,e2,Nat.add_mul];omega
 |obj ns ks hl hs _ ih=>
  have h1:=sA ih true true ns (.inl hl) hs;have e:(JV.mk 6 false ⟨#[]⟩ ⟨false,⟨#[]⟩,0⟩ ns ks).txt.length= (JV.txts true true ns ks).length+2:=by simp[JV.txt]
  have e2:(JV.mk 6 false ⟨#[]⟩ ⟨false,⟨#[]⟩,0⟩ ns ks).size=1+JV.sizes ks:=by simp[JV.size]
  rw[e,e2,Nat.add_mul];omega
open Go.RowKit
def bO (P:Nat->Prop)(w:World)(e:TypeId)(k:Nat)(A:Option Addr)(n c:Nat)(xs:List Value):Prop:=
 xs.length=n*k/\n<=c/\c<=maxLen/\(0<n->∃g,A=some ⟨g,0,none⟩/\P g/\∃cur:Array Value,w.heap[g]?=some (.cells cur e (0,0))/\cur.toList.take (n*k)=xs)
def sU (ns:List ByteArray)(us:List Value):List Value:=(ns.zip us).flatMap fun p=> [.string p.1,p.2]
inductive VW (P:Nat->Prop) (w:World):Value->JV->Prop
 |null:VW P w (.iface 343 (.agg #[])) (.mk 1 false es ⟨false,es,0⟩ [] [])
 |bool (b:Bool):VW P w (.iface 341 (.bool b)) (.mk 2 b es ⟨false,es,0⟩ [] [])
 |num (d:Dc):VW P w (.iface 313 (.agg #[.bool d.neg,.string d.digits,.int .i64 d.exp])) (.mk 3 false es d [] [])
 |text (s:ByteArray):VW P w (.iface 78 (.string s)) (.mk 4 false s ⟨false,es,0⟩ [] [])
 |bare:VW P w (.iface 104 (.pointer none)) (.mk 5 false es ⟨false,es,0⟩ [] [])
 |list (g:Nat) (A:Option Addr) (c:Nat) (us:List Value) (ks:List JV):P g->w.heap[g]?=some (.cells #[.slice A us.length c] 273 (0,0))->bO P w 80 1 A us.length c us->us.length=ks.length->
   (∀ (i:Nat) u k,us[i]?=some u->ks[i]?=some k->VW P w u k)->VW P w (.iface 104 (.pointer (some ⟨g,0,none⟩))) (.mk 5 false es ⟨false,es,0⟩ [] ks)
 |obj (g:Nat) (A:Option Addr) (c:Nat) (us:List Value) (ns:List ByteArray) (ks:List JV):P g->w.heap[g]?=some (.cells #[.slice A us.length c] 161 (0,0))->bO P w 82 2 A us.length c (sU ns us)->us.length=ks.length->ns.length=ks.length->
   (∀ (i:Nat) u k,us[i]?=some u->ks[i]?=some k->VW P w u k)->VW P w (.iface 95 (.pointer (some ⟨g,0,none⟩))) (.mk 6 false es ⟨false,es,0⟩ ns ks)
section
variable {P Q:Nat->Prop}{w w':World}{v:Value}{j:JV}
theorem bO.stay {k:Nat}{xs:List Value}(h:bO P w e k A n c xs)(hs:∀g o,P g->w.heap[g]?=some o->o.isCells=true->(∃cs z,o =.cells cs e z)->Q g/\w'.heap[g]?=some o):bO Q w' e k A n c xs:=by
 obtain⟨h1,h2,h3,h4⟩:=h;refine⟨h1,h2,h3,fun h0=>?_⟩;obtain⟨g,e1,hp,cur,hg,ht⟩:=h4 h0;obtain⟨hq,hw⟩:=hs g _ hp hg rfl ⟨_,_,rfl⟩;exact⟨g,e1,hq,cur,hw,ht⟩
def TV (e:TypeId):Prop:=e=273\/e=161\/e=80\/e=82
theorem VW.stay (h:VW P w v j)(hs:∀g o,P g->w.heap[g]?=some o->(∃cs e z,o =.cells cs e z/\TV e)->Q g/\w'.heap[g]?=some o):VW Q w' v j:=by
 induction h with
 |null=>exact .null
 |bool b=>exact .bool b
 |num d=>exact .num d
 |text s=>exact .text s
 |bare=>exact .bare
 |list g A c us ks hp hg hr hl _ ih=>
  obtain⟨h1,h2⟩:=hs g _ hp hg ⟨_,_,_,rfl,.inl rfl⟩;exact .list g A c us ks h1 h2 (hr.stay fun g o a b _ ⟨cs,z,e⟩=>hs g o a b ⟨cs,_,z,e,.inr (.inr (.inl rfl))⟩) hl (fun i u k h1 h2=>ih i u k h1 h2)
 |obj g A c us ns ks hp hg hr hl hn _ ih=>
  obtain⟨h1,h2⟩:=hs g _ hp hg ⟨_,_,_,rfl,.inr (.inl rfl)⟩;exact .obj g A c us ns ks h1 h2 (hr.stay fun g o a b _ ⟨cs,z,e⟩=>hs g o a b ⟨cs,_,z,e,.inr (.inr (.inr rfl))⟩) hl hn (fun i u k h1 h2=>ih i u k h1 h2)
theorem VW.imp (h:VW P w v j)(hq:∀g,P g->g<w.heap.size->Q g):VW Q w v j:=h.stay fun g _ hp hg _=>⟨hq g hp (ak hg),hg⟩
theorem VW.later (h:VW P w v j)(hb:Below w.heap.size w w'):VW P w' v j:=h.stay fun g _ hp hg _=>⟨hp,(hb.block g (ak hg)).trans hg⟩
theorem VW.keeps (h:VW P w v j)(hk:bL T w w')(hT:∀e,TV e->¬T e):VW P w' v j:=h.stay fun g _ hp hg ⟨cs,e,z,ho,he⟩=>⟨hp,by subst ho;exact hk.2 g cs e z hg (hT e he)⟩
theorem VW.grown {row:Option Nat}(h:VW P w v j)(hg:w.grownBy w' row)(hr:∀g,row=some g->¬P g):VW P w' v j:=h.stay fun g _ hp hh _=>⟨hp,(hg.block g (ak hh) (fun e=>hr g e.symm hp)).trans hh⟩
theorem VW.set (h:VW P w v j){p:Addr}(u:Value)(hr:¬P p.block):VW P (w.setCell p u) v j:=h.stay fun g _ hp hh _=>⟨hp,(Below.heap_setCell w p u g (by rintro rfl;exact hr hp)).trans hh⟩
theorem VW.drewN (h:VW P w v j)(m:Nat):VW P (w.drewN m) v j:=h.stay fun _ _ hp hg _=>⟨hp,hg⟩
theorem VW.iface (h:VW P w v j):∃t x,v =.iface t x:=by cases h <;> exact⟨_,_,rfl⟩
theorem bO.of_own {k:Nat}{xs:List Value}(h:w.ownsRow base e k (.slice A n c) n xs):bO (base<= ·) w e k A n c xs:=by
 obtain⟨h1,⟨e1,h0⟩|⟨g,cap,cur,e1,hb,hg,h2,h3,h4,h5⟩⟩:=h
 ·obtain⟨rfl,rfl,rfl⟩:=Value.slice.inj e1;exact⟨h1,Zb _,Zj _,fun h=>absurd h (Nat.lt_irrefl _)⟩
 ·obtain⟨rfl,-,rfl⟩:=Value.slice.inj e1;exact⟨h1,h2,h3,fun _=>⟨g,rfl,hb,cur,hg,h5⟩⟩
theorem bO.cell {k:Nat}{xs:List Value}(h:bO P w e k (some ⟨g,0,none⟩) n c xs)(j:Nat)(hj:j<n*k):w.cell? ⟨g,j,none⟩=xs[j]?:=by
 obtain⟨h1,-,-,h4⟩:=h;obtain⟨g',e1,-,cur,hg,ht⟩:=h4 (by rcases Nat.eq_zero_or_pos n with h|h;subst h;omega;exact h);obtain rfl:g=g':=by injection e1 with e1;injection e1
 rw[<-ht,List.getElem?_take_of_lt hj];simp[World.cell?,hg]
theorem bO.ptr {k:Nat}{xs:List Value}(h:bO P w e k A n c xs)(hn:0<n):∃g,A=some ⟨g,0,none⟩/\P g:=by
 obtain⟨-,-,-,h4⟩:=h;obtain⟨g,h1,h2,-⟩:=h4 hn;exact⟨g,h1,h2⟩
end
theorem iz:∀ (ns:List ByteArray) (us:List Value) (i:Nat) (n:ByteArray) (u:Value),ns[i]?=some n->us[i]?=some u->(sU ns us)[i*2]?=some (.string n)/\(sU ns us)[i*2+1]?=some u
 | [],_,i,n,u,h,_=>by simp at h
 |_::_, [],i,n,u,_,h=>by simp at h
 |a::ns,b::us,0,n,u,h1,h2=>by simp at h1 h2;subst h1 h2;exact⟨rfl,rfl⟩
 |a::ns,b::us,i+1,n,u,h1,h2=>by
  have ih:=iz ns us i n u (by simpa using h1) (by simpa using h2);rw[show(i+1)*2=i*2+2 by omega];exact ih
theorem rn (w:World):Calls Tryz.prog 125 #[.pointer none] w fun e w'=>e =.returned (.int .i64 0)/\w=w':=by
 go_enter Tryz.func125,Tryz.ntmps125;go_wp2_with fail;go_ret;exact⟨rfl,rfl⟩
theorem kK (hg:w.heap[g]?=some (.cells #[.slice A n c] 273 (0,0))):Calls Tryz.prog 125 #[.pointer (some ⟨g,0,none⟩)] w fun e w'=>e =.returned (.int .i64 n)/\w=w':=by
 have c0:w.cell? ⟨g,0,none⟩=some (.slice A n c):=ac hg (j:=0) rfl;clear hg;go_enter Tryz.func125,Tryz.ntmps125;go_wp2_with fail;go_ret;exact⟨rfl,rfl⟩
theorem mG (hg:w.heap[g]?=some (.cells #[.slice A n c] 161 (0,0))):Calls Tryz.prog 50 #[.pointer (some ⟨g,0,none⟩)] w fun e w'=>e =.returned (.int .i64 n)/\w=w':=by
 have c0:w.cell? ⟨g,0,none⟩=some (.slice A n c):=ac hg (j:=0) rfl;clear hg;go_enter Tryz.func50,Tryz.ntmps50;go_wp2_with fail;go_ret;exact⟨rfl,rfl⟩
theorem ut (hg:w.heap[g]?=some (.cells #[.slice A n c] 273 (0,0)))(hr:bO P w 80 1 A n c us)(i:Nat)(hi:i<n)(hu:us[i]?=some u) :
  Calls Tryz.prog 160 #[.pointer (some ⟨g,0,none⟩),.int .i64 i] w fun e w'=>e =.returned (.tuple #[u,.bool true])/\w=w':=by
 have c0:w.cell? ⟨g,0,none⟩=some (.slice A n c):=ac hg (j:=0) rfl;obtain⟨b,rfl,-⟩:=hr.ptr (by omega);have c1:=hr.cell i (by omega);rw[hu] at c1;have hm:=hr.2.2.1;unfold maxLen at hm;have Hl:=Qa (kK hg);clear hg hr hu;have h0:¬ (i:Int)<0:=by omega
 have h1:(i:Int)<n:=by omega
 go_enter Tryz.func160,Tryz.ntmps160;go_wp2_with fail;refine Za Hl ?_;rintro e w' ⟨rfl,rfl⟩;go_wp2_with fail;go_ret2;exact⟨rfl,rfl⟩
theorem B0:Tryz.prog.underlying 80=some (.interface (Tryz.prog.methodsAt 80)):=by kernel_rfl
theorem ql (w:World)(t:TypeId)(x:Value):(binOp .eql 80 .nilIface (.iface t x)).run Tryz.prog w =.ok (.bool false) w:=run_eql_iface_nil_left w t x B0
theorem pQ (w:World)(t:TypeId)(x:Value):(binOp .eql 80 (.iface t x) .nilIface).run Tryz.prog w =.ok (.bool false) w:=run_eql_held_nil w _ t x B0
theorem AH:da 130 80 .nilIface 1 16:=⟨Tryz.underlying130,by kernel_rfl,rfl,by decide⟩
theorem Cu:da 83 82 (.agg #[.string ByteArray.empty,.nilIface]) 2 32:=⟨Tryz.underlying83,by kernel_rfl,rfl,by decide⟩
def yz (k:Nat)(w:World)(v:Value)(n:Nat)(us:List Value):Prop:=us.length=n*k/\n<=9223372036854775807/\∃A c,v =.slice A n c/\n<=c/\(0<n->∃g o,A=some ⟨g,o,none⟩/\∀i u,us[i]?=some u->w.cell? ⟨g,o+i,none⟩=some u)
theorem Sl.k (h:Sl w v us):yz 1 w v us.length us:=⟨by omega,h.1,h.2⟩
theorem yz.below {k:Nat}(h:yz k w v n us)(hb:Below w.heap.size w w'):yz k w' v n us:=by
 obtain⟨h1,h2,A,c,e,hc,hA⟩:=h;refine⟨h1,h2,A,c,e,hc,fun h0=>?_⟩;obtain⟨g,o,e,a0⟩:=hA h0;exact⟨g,o,e,fun i u hu=>Zg hb (a0 i u hu)⟩
theorem yz.of_own {k:Nat}(h:w.ownsRow base e k v n us):yz k w v n us:=by
 obtain⟨A,c,rfl,hc,hm,hA⟩:=ag h;refine⟨h.1,by unfold maxLen at hm;omega,A,c,rfl,hc,fun h0=>?_⟩;obtain⟨g,rfl⟩:=hA h0;refine⟨g,0,rfl,fun i u hu=>?_⟩;have hi:=(List.getElem?_eq_some_iff.1 hu).1;rw[Nat.zero_add,World.ownsRow.cellAt h i (by rw[<-h.1];exact hi)];exact hu
theorem fo {t:TypeId}{k:Nat}(E:da t e z k B){ops:Array Oper}{rest:List Oper}{o:Oper}{a:Act}{Q:Exit->Act->World->Prop}(a5:o.guard=none)(s x:Operand)
  (ho:o.op =.call {callee:=.builtin .append,args:= #[s,x],argTypes:= #[t,t]})
  (base:Nat) (v:Value) (n:Nat) (ad:Addr) (c m:Nat) (us news:List Value) (hs:a.eval s=v) (a2:w.ownsRow base e k v n us) (hx:a.eval x =.slice (some ad) m c) (b1:yz k w (.slice (some ad) m c) m news)
  (h1:∀u∈news,u.oneCell'=true) (hlen:n+m<=maxLen) (hby:(n+m)*B<=140737488355328) (a0:base<=w.heap.size)
  (h:∀v' w',w'.ownsRow base e k v' (n+m) (us++news)->w.grownBy w' v.ownBlock->(v'.ownBlock=v.ownBlock\/v'.ownBlock=some w.heap.size)->wpList Tryz.prog ops Q rest (a.put o.dst v') w'):wpList Tryz.prog ops Q (o::rest) a w:=by
 refine wpList_plain a5 fun K hK=>?_
 obtain⟨i0,hi,a4,a9,b0⟩:=info_parts E.hi;obtain⟨hl,_,A,c',e',_,hA⟩:=b1;injection e' with e1 e2 e3
 subst e1;obtain⟨v',w',a1,h2,h3,_,h5⟩:=run_append_own_at (P:=Tryz.prog) w base t o.type e i0 z k B E.ht hi a4 a9 b0 E.hz E.h0 v n us a2 ad m c news
  hl (fun j y hy=>by
   have hj:=(List.getElem?_eq_some_iff.1 hy).1;have hm:0<m:=by rcases Nat.eq_zero_or_pos m with h0|h0;(· subst h0;rw[hl] at hj;omega);exact h0
   obtain⟨g,off,e',a3⟩:=hA hm;obtain rfl:=Zi e';rw[Addr.add_lit];exact a3 j y hy) h1 hlen hby a0
 unfold Oper.wp execOp;simp only[ho,resolve,invoke,builtin,Sem.run_bind,Sem.run_pure,Result.andThen_ok,List.map_toArray,List.map_cons,List.map_nil,hs,hx,a1];exact hK _ _ (h v' w' h2 h3 h5)
def Eo (u:Value):Prop:= ∃t v,u =.iface t v
theorem Eo.one (h:Eo u):u.oneCell'=true:=by obtain⟨t,v,rfl⟩:=h;rfl
def In (us:List Value)(w:World)(s8:Value)(wr:World):Prop:= ∃k:Nat,k<=us.length/\s8 =.int .i64 k/\w=wr
theorem rq (hv:Sl w v us)(hu:∀u∈us,Eo u):Calls Tryz.prog 207 #[v,.nilIface] w fun e w'=>e =.returned (.int .i64 (-1))/\w=w':=by
 obtain⟨hm,A,cap,rfl,hc,hA⟩:=id hv;have HA:=Qa hA;have Hu:=Qa hu;clear hv hA hu;go_enter Tryz.func207,Tryz.ntmps207;go_wp2_with fail
 go_loopw [5,8] (fun _ s8 wr=>In us w s8 wr) (fun _ i _=>us.length - (intOf i).toNat)
 case atStart=>exact⟨0,Zj _,rfl,rfl⟩
 case round=>
  obtain⟨k,hk,rfl,rfl⟩:=hrel
  by_cases hlt:k<us.length
  ·obtain⟨g,o,rfl,a1⟩:=HA.out (by omega);obtain⟨u,hu⟩:∃s,us[k]?=some s:=⟨_,Zd hlt⟩;have cu:=a1 k u hu;have a0:=Qa (Zk hu);clear a1 hu;obtain⟨t,x,rfl⟩:=Hu.out u a0.out;have q1:=ql w t x;go_wp2_with fail;exact⟨⟨k+1,by omega,by go_num,rfl⟩,by simp[intOf];omega⟩
  ·obtain rfl:k=us.length:=by omega
   go_wp2_with fail;go_ret;exact⟨rfl,rfl⟩
theorem mL (hv:Sl w v us)(hu:∀u∈us,Eo u):Calls Tryz.prog 190 #[v,.nilIface] w fun e w'=>e =.returned (.bool false)/\w=w':=by
 obtain⟨hm,A,cap,rfl,hc,hA⟩:=id hv;have Hc:=Qa (rq hv hu);clear hv hA hu;go_enter Tryz.func190,Tryz.ntmps190;go_wp2_with fail;refine Za Hc ?_;rintro e w' ⟨rfl,rfl⟩;go_wp2_with fail;go_ret;exact⟨rfl,rfl⟩
def F8 (e:TypeId)(k:Nat)(w:World)(n:Nat)(us:List Value)(ed:Ending)(w':World):Prop:= ∃A c,ed =.returned (.slice A n c)/\Below w.heap.size w w'/\w'.ownsRow w.heap.size e k (.slice A n c) n us
theorem nE (hv:yz 1 w v n us)(hu:∀u∈us,u.oneCell'=true)(hn:n<=4294967296):Calls Tryz.prog 191 #[v] w (F8 80 1 w n us):=by
 obtain⟨hl,hm,A,cap,rfl,hc,hA⟩:=id hv;have Hv:=Qa hv;have Hu:=Qa hu;have Hl:=Qa hl;have hq:=fun (w:World) (a:Option Addr) (n c n' c':Nat)=>Lib.run_eql_slice_nil (P:=Tryz.prog) w _ _ a n c n' c' Tryz.underlying130
 cases A with
 |none=>
  have h0:n=0:=by
   rcases Nat.eq_zero_or_pos n with h0|h0
   ·exact h0
   ·obtain⟨_,_,e,_⟩:=hA h0;cases e
  subst h0;clear hv hu hl hA;go_enter Tryz.func191,Tryz.ntmps191;go_wp2_with fail;go_ret;have h0:=Hl.out;rw[Nat.zero_mul] at h0;obtain rfl:=List.eq_nil_of_length_eq_zero h0;exact⟨none,0,rfl,Ze _ _,⟨by simp,.inl ⟨rfl,rfl⟩⟩⟩
 |some ad=>
  clear hv hu hl hA;go_enter Tryz.func191,Tryz.ntmps191;go_wp2_with (at_builtin;refine fo AH rfl (.tmp 5) (.tmp 6) rfl w.heap.size (.slice (some ⟨w.heap.size,0,none⟩) 0 0) 0 ad cap n [] us (by simp[Act.eval]) (el (Zf w _) (Zb _) (by unfold maxLen;omega) (by simp)) (by simp[Act.eval]) (Hv.out.below (aa _ _)) Hu.out (by unfold maxLen;omega) (by omega) (by simp) ?_;intro v' w1 h1 h2 h3;have Hp:=Qa h1;have Hg:=Qa h2;clear h1 h2 h3);go_ret;have ho:=Hp.out;rw[Nat.zero_add,List.nil_append] at ho;obtain⟨A',c',rfl,-⟩:=ag ho;exact⟨A',c',rfl,aF (aa w _) (el (Zf w _) (Zb _) (by unfold maxLen;omega) (by simp):(w.alloc (.cells #[] 80)).ownsRow w.heap.size 80 1 (.slice (some ⟨w.heap.size,0,none⟩) 0 0) 0 []) (by simp) Hg.out,ho⟩
theorem nt (hv:yz 2 w v n us)(hu:∀u∈us,u.oneCell'=true)(hn:n<=4294967296):Calls Tryz.prog 192 #[v] w (F8 82 2 w n us):=by
 obtain⟨hl,hm,A,cap,rfl,hc,hA⟩:=id hv;have Hv:=Qa hv;have Hu:=Qa hu;have Hl:=Qa hl;have hq:=fun (w:World) (a:Option Addr) (n c n' c':Nat)=>Lib.run_eql_slice_nil (P:=Tryz.prog) w _ _ a n c n' c' Tryz.underlying83
 cases A with
 |none=>
  have h0:n=0:=by
   rcases Nat.eq_zero_or_pos n with h0|h0
   ·exact h0
   ·obtain⟨_,_,e,_⟩:=hA h0;cases e
  subst h0;clear hv hu hl hA;go_enter Tryz.func192,Tryz.ntmps192;go_wp2_with fail;go_ret;have h0:=Hl.out;rw[Nat.zero_mul] at h0;obtain rfl:=List.eq_nil_of_length_eq_zero h0;exact⟨none,0,rfl,Ze _ _,⟨by simp,.inl ⟨rfl,rfl⟩⟩⟩
 |some ad=>
  clear hv hu hl hA;go_enter Tryz.func192,Tryz.ntmps192;go_wp2_with (at_builtin;refine fo Cu rfl (.tmp 5) (.tmp 6) rfl w.heap.size (.slice (some ⟨w.heap.size,0,none⟩) 0 0) 0 ad cap n [] us (by simp[Act.eval]) (el (Zf w _) (Zb _) (by unfold maxLen;omega) (by simp)) (by simp[Act.eval]) (Hv.out.below (aa _ _)) Hu.out (by unfold maxLen;omega) (by omega) (by simp) ?_;intro v' w1 h1 h2 h3;have Hp:=Qa h1;have Hg:=Qa h2;clear h1 h2 h3);go_ret;have ho:=Hp.out;rw[Nat.zero_add,List.nil_append] at ho;obtain⟨A',c',rfl,-⟩:=ag ho;exact⟨A',c',rfl,aF (aa w _) (el (Zf w _) (Zb _) (by unfold maxLen;omega) (by simp):(w.alloc (.cells #[] 82)).ownsRow w.heap.size 82 2 (.slice (some ⟨w.heap.size,0,none⟩) 0 0) 0 []) (by simp) Hg.out,ho⟩
def IG (w:World)(n:Nat)(us:List Value)(e:Ending)(w':World):Prop:= ∃g A c,e =.returned (.tuple #[.pointer (some ⟨g,0,none⟩),.nilIface])/\Below w.heap.size w w'/\w.heap.size<=g/\w'.heap[g]?=some (.cells #[.slice A n c] 273 (0,0))/\bO (w.heap.size<= ·) w' 80 1 A n c us
theorem lj (hv:Sl w v us)(hu:∀u∈us,Eo u)(hn:us.length<=4294967296):Calls Tryz.prog 171 #[v] w (IG w us.length us):=by
 obtain⟨hm,A,cap,rfl,hc,hA⟩:=id hv;have Hc:=Qa (mL hv hu);have Hk:=Qa (nE hv.k (fun u h=>(hu u h).one) hn);clear hv hA hu;go_enter Tryz.func171,Tryz.ntmps171;go_wp2_with fail;refine Za Hc ?_;rintro e w' ⟨rfl,rfl⟩;go_wp2_with fail;refine Za Hk ?_;rintro e w1 ⟨A1,c1,rfl,hb,ho⟩;have Ho:=Qa ho;have Hb:=Qa hb;clear ho hb;go_wp2_with fail;go_ret2;exact⟨w1.heap.size,A1,c1,rfl,aj Hb.out (aa _ _),Hb.out.size,Zf _ _,(bO.of_own Ho.out).stay fun g o hp hg _ _=>⟨hp,(Below.heap_alloc _ _ _ (ak hg)).trans hg⟩⟩
theorem pq {t:TypeId}{k:Nat}(E:da t e z k B)(base:Nat)(v:Value)(n g c m:Nat)(us news:List Value)(a0:w.ownsRow base e k v n us)(hl:news.length=m*k)
  (hg:∀j u,news[j]?=some u->w.cell? ⟨g,j,none⟩=some u) (h1:∀u∈news,u.oneCell'=true) (hm:0<m)
  (hlen:n+m<=maxLen) (hby:(n+m)*B<=140737488355328) (a2:base<=w.heap.size) :
  ∃v' w',(Builtin.append_ #[t,t] ty #[v,.slice (some ⟨g,0,none⟩) m c]).run Tryz.prog w =.ok v' w'/\w'.ownsRow base e k v' (n+m) (us++news)/\w.grownBy w' v.ownBlock/\(v'.ownBlock=v.ownBlock\/v'.ownBlock=some w.heap.size)/\w.drawn<=w'.drawn:=by
 obtain⟨i0,hi,a9,b2,b3⟩:=info_parts E.hi;have a4:∀j u,news[j]?=some u->w.cell? ((⟨g,0,none⟩:Addr).add j)=some u:=fun j y hy=>by
  have:=hg j y hy;unfold Addr.add
  split
  ·rename_i h0;subst h0;exact this
  ·simpa using this
 obtain⟨v',w',hr,h2,h3,_,h5⟩:=run_append_own_at (P:=Tryz.prog) w base t ty e i0 z k B E.ht hi a9 b2 b3 E.hz E.h0 v n us a0 ⟨g,0,none⟩ m c news hl a4 h1 hlen hby a2;refine⟨v',w',hr,h2,h3,h5,?_⟩;have a5:n+m<=9223372036854775807:=by simp only[maxLen] at hlen;omega
 subst b2;subst b3;rcases a0.2 with ⟨rfl,rfl⟩|⟨b,cap,cur,rfl,b5,hb,b8,b9,b4,b1⟩
 ·have a1:=Go.run_append_nil (P:=Tryz.prog) w t ty e i0 z E.ht hi a9 ⟨g,0,none⟩ m c news hl a4 hm (by omega) (by simp only[Nat.zero_add] at hby;omega);rw[a1] at hr;injection hr with _ e
  rw[<-e];exact Nat.le_succ _
 ·by_cases hroom:n+m<=cap
  ·have b0:n*i0.size+news.length<=cur.size:=by rw[hl,b4,<-Nat.add_mul];exact Nat.mul_le_mul_right _ hroom
   have a1:=run_append_room (P:=Tryz.prog) w t ty e i0 E.ht hi b n cap cur hb ⟨g,0,none⟩ m c news hl a4 h1 hroom b0;rw[a1] at hr;injection hr with _ e
   rw[<-e];exact Zb _
  ·have a3:∀j u,us[j]?=some u->w.cell? ((⟨b,0,none⟩:Addr).add j)=some u:=a0.cells (g:=b) rfl;have a1:=run_append_grow (P:=Tryz.prog) w t ty e i0 z E.ht hi a9 ⟨b,0,none⟩ n cap us a0.1 a3 ⟨g,0,none⟩ m c news hl a4 (by omega) (by omega) (growslice_fits (by omega) hby);rw[a1] at hr;injection hr with _ e
   rw[<-e];exact Nat.le_succ _
structure bB (w w':World):Prop where
 b:Below w.heap.size w w'
 d:w.drawn<=w'.drawn
theorem bB.refl (w:World):bB w w:=⟨Ze _ _,Zb _⟩
theorem bB.trans {a b c:World}(h:bB a b)(k:bB b c):bB a c:=⟨aj h.b k.b,Zc h.d k.d⟩
theorem bB.drewN (w:World)(m:Nat):bB w (w.drewN m):=⟨ap (Ze _ _) m,Nat.le_add_right _ _⟩
theorem bB.alloc (w:World)(o:Obj):bB w (w.alloc o):=⟨aa w o,Zb _⟩
theorem bB.grow (h:bB w w'):∃q os,w'=Go.Sort.grow (w.drewN q) os:=by
 obtain⟨⟨h1,h2,h3,h4,h5⟩,h6⟩:=h;refine⟨w'.drawn - w.drawn,w'.heap.extract w.heap.size w'.heap.size,?_⟩;obtain⟨hp,tp,dr,o,out⟩:=w;obtain⟨a0,tp',dr',o',out'⟩:=w';simp only at h1 h2 h3 h4 h5 h6;subst h1 h2 h3;have e:a0=hp++a0.extract hp.size a0.size:=by
  apply Array.ext
  ·simp;omega
  ·intro i a1 a2
   by_cases h:i<hp.size
   ·have:=h5 i h;rw[Array.getElem?_eq_getElem a1,Array.getElem?_eq_getElem h] at this;rw[Array.getElem_append_left h];exact Zi this
   ·rw[Array.getElem_append_right (by omega)];simp only[Array.getElem_extract]
    congr 1;omega
 have e2:dr'=dr+ (dr' - dr):=by omega
 unfold Go.Sort.grow World.drewN;simp only;rw[<-e,<-e2]
def gn (L:List (ByteArray×Value)):List Value:=L.flatMap fun p=> [.string p.1,p.2]
theorem jT:∀L:List (ByteArray×Value),(gn L).length=L.length*2
 | []=>rfl
 |p::L=>by have:=jT L;simp only[gn,List.flatMap_cons,List.length_append,List.length_cons,List.length_nil] at this ⊢;omega
theorem o7:∀ (L:List (ByteArray×Value)) (i:Nat) (p:ByteArray×Value),L[i]?=some p->(gn L)[i*2]?=some (.string p.1)/\(gn L)[i*2+1]?=some p.2
 | [],i,p,h=>by simp at h
 |a::L,0,p,h=>by simp at h;subst h;exact⟨rfl,rfl⟩
 |a::L,i+1,p,h=>by
  have ih:=o7 L i p (by simpa using h);rw[show(i+1)*2=i*2+2 by omega];exact ih
def IM (w:World)(g:Nat)(L:List (ByteArray×Value)):Prop:= ∀ (i:Nat) (p:ByteArray×Value),L[i]?=some p->w.cell? ⟨g,i*2,none⟩=some (.string p.1)/\w.cell? ⟨g,i*2+1,none⟩=some p.2
theorem IM.below {L:List (ByteArray×Value)}(h:IM w g L)(hb:Below w.heap.size w w'):IM w' g L:=fun i p hp=>⟨Zg hb (h i p hp).1,Zg hb (h i p hp).2⟩
def vm (w:World)(base:Nat)(v:Value)(L:List (ByteArray×Value)):Prop:=w.ownsRow base 82 2 v L.length (gn L)
theorem vm.read {L:List (ByteArray×Value)}(h:vm w base (.slice (some ⟨g,0,none⟩) n q) L):IM w g L:=by
 intro i p hp;have hi:=(List.getElem?_eq_some_iff.1 hp).1;obtain⟨_,_,e,_,_,_⟩:=ag h;obtain⟨_,rfl,_⟩:=Value.slice.inj e;obtain⟨f1,f2⟩:=o7 L i p hp
 constructor
 ·rw[aH h rfl (i*2) (by omega),f1]
 ·rw[aH h rfl (i*2+1) (by omega),f2]
def Ge (s:ByteArray):Prop:=iK s.data.toList/\s.size<=6000
inductive ej (asc:List ByteArray->Prop):JV->Prop
 |null:ej asc (.mk 1 false es Iz [] [])
 |bool (b:Bool):ej asc (.mk 2 b es Iz [] [])
 |num (d:Dc):d.digits.size<=6000+1->JI d->ej asc (.mk 3 false es d [] [])
 |text (s:ByteArray):Ge s->ej asc (.mk 4 false s Iz [] [])
 |list (ks:List JV):(∀u∈ks,ej asc u)->ej asc (.mk 5 false es Iz [] ks)
 |obj (ns:List ByteArray) (ks:List JV):ns.length=ks.length->(∀s∈ns,Ge s)->asc ns->(∀u∈ks,ej asc u)->ej asc (.mk 6 false es Iz ns ks)
theorem uh (W:World)(s:ByteArray)(hs:s.size<=9223372036854775807):∃W2 cap,(convert 9 28 (.string s)).run Tryz.prog W =.ok (.slice (some ⟨W.heap.size,0,none⟩) s.size cap) W2/\
  Below W.heap.size W W2/\Bs W2 (.slice (some ⟨W.heap.size,0,none⟩) s.size cap) s.data.toList:=by
 refine⟨Lib.bytesWorld W 5 s,grownCap W s.size 0 5,Lib.run_convert_string_bytes W 9 28 5 s Tryz.underlying9 Tryz.underlying28 Tryz.underlying5,?_,?_⟩
 ·exact⟨rfl,rfl,rfl,by rw[Lib.bytesWorld_size];omega,fun k hk=>Lib.bytesWorld_at_old _ _ _ _ hk⟩
 ·have hl:s.data.toList.length=s.size:=by simp
  refine⟨by omega,_,_,by rw[hl],by rw[hl];exact grownCap_ge _ _ _ _,fun _=>⟨_,0,rfl,fun i hi=>?_⟩⟩;rw[Nat.zero_add];exact Lib.bytesWorld_cell W 5 s i (by omega)
theorem uR:da 173 21 (.int .i32 0) 1 4:=⟨Tryz.underlying173,by kernel_rfl,rfl,by decide⟩
def fj (c:Int):Value:=.int .i32 c
def ze (w:World)(base:Nat)(v:Value)(l:List Int):Prop:=w.ownsRow base 21 1 v l.length (l.map fj)
open Go.Shelf
theorem lJ {c:Int}(h:cA c=true)(ys:List UInt8):bg (a7 c++ys)= (c.toNat,(a7 c).length,0):=by
 obtain⟨n,rfl⟩:∃n:Nat,c=n:=⟨c.toNat,by have:=cq h;omega⟩;exact eI n h ys
theorem rr:∀ (cs:List Int) (f:Nat) (pre:List UInt8),(∀c∈cs,cA c=true)->cs.length<f->qH (pre++cs.flatMap a7) f pre.length= (pre++cs.flatMap a7).length
 | [],f+1,pre,_,_=>by
  unfold qH;rw[List.flatMap_nil,List.append_nil,List.drop_length,if_neg (by decide)]
 |c::cs,f+1,pre,hc,hf=>by
  have h0:=hc c (by simp);unfold qH;rw[List.flatMap_cons,List.drop_left,lJ h0,if_pos rfl];have:=rr cs f (pre++a7 c) (fun d hd=>hc d (by simp[hd])) (by simpa using hf);rw[List.length_append,List.append_assoc] at this;exact this
 |_,0,_,_,hf=>by omega
theorem dQ:∀ {cs:List Int},(∀c∈cs,cA c=true)->cs.length<=(cs.flatMap a7).length
 | [],_=>Zb _
 |c::cs,h=>by
  have h1:=dQ (cs:=cs) (fun d hd=>h d (by simp[hd]));have h2:(a7 c).length≠0:=fun e=>gQ (h c (by simp)) (List.eq_nil_of_length_eq_zero e)
  rw[List.flatMap_cons,List.length_append,List.length_cons];omega
theorem B7 {cs:List Int}(h:∀c∈cs,cA c=true):D9 (cs.flatMap a7)= (cs.flatMap a7).length:=by
 have:=rr cs ((cs.flatMap a7).length+1) [] h (by have:=dQ h;omega);simpa [D9] using this
theorem Ag {cs:List Int}(h:∀c∈cs,cA c=true)(hb:Bs w v (cs.flatMap a7))(hg:cD w aU aE):Calls Tryz.prog 95 #[v] w fun e w'=>e =.returned .nilIface/\Below w.heap.size w w':=by
 refine(zA hb hg).mono ?_;rintro e w' ⟨a0,⟨_,rfl⟩|⟨hlt,_⟩⟩
 ·exact⟨rfl,a0⟩
 ·rw[iG _ hb.1,B7 h] at hlt;omega
theorem EW {c:Int}:(cf c).length<=6:=by
 unfold cf
 repeat' split
 all_goals first|simp|(have:=lS c;omega)
theorem aP.iter {j:Nat}{s:ByteArray}:aP (fun k=>k=j) w (w.iterAt j s q):=⟨rfl,rfl,rfl,by rw[Lib.iterAt_size];exact Zb _,fun k _ hk=>Lib.iterAt_other w j k s q hk⟩
def F5 (s:ByteArray)(cs:List Int)(j:Nat)(w:World)(m:Nat)(s5:Value)(wr:World):Prop:=
 ∃ (pre rest:List Int) (p:Nat),cs=pre++rest/\m=rest.length/\s.data.toList.drop p=rest.flatMap a7/\wr.heap[j]?=some (.stringIter s p)/\aq wr w.heap.size s5 (34::pre.flatMap cf)/\(pre.flatMap cf).length<=6*pre.length/\Below w.heap.size w wr
def JZ (xs:List UInt8)(w:World)(e:Ending)(w':World):Prop:= ∃v,e =.returned (.tuple #[v,.nilIface])/\aq w' w.heap.size v xs/\Below w.heap.size w w'
theorem oH {s:ByteArray}(hs:bi s)(hG:cD w aU aE)(hl:s.size<=1000000000):Calls Tryz.prog 67 #[.string s] w (JZ (bW s) w):=by
 obtain⟨hc,hd⟩:=hs.nm;unfold bW;generalize Proofs.YtgkkffeagolnpaaGreatDoor.nm s=cs at *;clear hs;obtain⟨W2,cap,d1,a3,b9⟩:=uh w s (by omega);rw[<-hd] at b9;have Hv:=Qa (Ag hc b9 (hG.below a3));have d5:=Qa a3;have Hd:=Qa hd;have Hc:=Qa hc;have e3:cs.length<=1000000000:=by
  have h1:=dQ hc;rw[hd] at h1;have:s.data.toList.length=s.size:=by simp
  omega
 clear a3 b9 hd hc hG;go_enter Tryz.func67,Tryz.ntmps67;go_wp2_with fail;refine Za Hv ?_;rintro e w1 ⟨rfl,c7⟩;have d2:=Qa (aj d5.out c7);have d9:=d2.out.size;clear c7;go_wp2_with fail;have a9:=aa w1 (.cells #[.int .u8 34] 5);have a5:=Zf w1 (.cells #[.int .u8 34] 5);have b0:aq (w1.alloc (.cells #[.int .u8 34] 5)) w.heap.size (.slice (some ⟨w1.heap.size,0,none⟩) 1 1) [34]:=kR (n:=1) (k:=1) a5 d9 (by unfold maxLen;omega) rfl;have a4:=aa (w1.alloc (.cells #[.int .u8 34] 5)) (.stringIter s 0);have Hi:=Qa (Zf (w1.alloc (.cells #[.int .u8 34] 5)) (.stringIter s 0));have Ho:=Qa (b0.below a4 (Zb _));have Hb:=Qa (aj (aj d2.out a9) a4);clear a9 a4 a5 b0
 go_loopg [5] cs.length (fun m s5 wr=>F5 s cs (w1.heap.size+1) w m s5 wr)
 case atStart=>exact⟨[],cs,0,rfl,rfl,Hd.out.symm,by have:=Hi.out;rwa[World.size_alloc] at this,Ho.out,Zb _,Hb.out⟩
 case round=>
  clear Ho Hi Hb;obtain⟨pre,rest,p,he,hm,a1,hi,ho,c1,hb⟩:=hrel;have hji:w.heap.size<=w1.heap.size+1:=by omega
  generalize w1.heap.size+1=j at *;have Ho:=Qa ho;have Hi:=Qa hi;have Hb:=Qa hb;have He:=Qa he;have b5:=Qa c1;have e5:=Qa a1;have d3:s.data.toList.length=s.size:=by simp
  have b4:∀b,u5.ownBlock=some b->b≠j:=fun b a3 e=>by
   obtain⟨_,cur,hg⟩:=ao ho a3;rw[e,hi] at hg
   cases hg
  have e4:=Qa b4;have d6:pre.length<=1000000000:=by have:=congrArg List.length he;rw[List.length_append] at this;omega
  cases rest with
  |nil=>
   have hlt:¬p<s.size:=by
    have:=congrArg List.length a1;rw[List.length_drop] at this;simp at this;omega
   have b3:∀ty,(Instr.next (.pointer (some ⟨j,0,none⟩)) true ty).run Tryz.prog wr =.ok (.tuple #[.bool false]) wr:=fun ty=>Lib.run_next_end_at wr j s p ty hi hlt
   clear ho hi hb he c1 a1 b4 hlt hm;have c3:=aa wr (.cells #[.int .u8 34] 5);have d0:=Qa (Ho.out.below c3 (Zb _));have Hn:=Qa (kf wr [34] (by decide));have a2:=Qa (aj Hb.out c3);have c0:=Qa (show w.heap.size<=(wr.alloc (.cells #[.int .u8 34] 5)).heap.size from a2.out.size);have c5:=Qa (show(34::pre.flatMap cf).length+ ([34]:List UInt8).length<=140737488355328 by have:=b5.out;simp at *;omega);clear c3;go_wp2_with (at_builtin;refine tF d0.out Hn.out c5.out c0.out ?_;intro v' w3 h1 h2 h3;have HK:=Qa h1;have b2:=Qa h2;clear h1 h2 h3);obtain⟨A3,q3,rfl,-⟩:=ag HK.out;go_ret2;refine⟨_,rfl,?_,a2.out.grown b2.out a2.out.size (fun g e=>(aq.blk d0.out e).1)⟩;have e:kr cs= (34::pre.flatMap cf) ++ [34]:=by rw[He.out,List.append_nil];rfl
   rw[e];exact HK.out
  |cons c rest=>
   have h0:=Hc.out c (by rw[he];simp);have hlen:=congrArg List.length a1;rw[List.length_drop,d3,List.flatMap_cons,List.length_append] at hlen;have e0:(a7 c).length≠0:=fun e=>gQ h0 (List.eq_nil_of_length_eq_zero e)
   have hlt:p<s.size:=by omega
   have b3:∀ty,(Instr.next (.pointer (some ⟨j,0,none⟩)) true ty).run Tryz.prog wr =.ok (.tuple #[.bool true,.int .i64 p,.int .i32 (Utf8.decode s p).1]) (wr.iterAt j s (p+ (Utf8.decode s p).2)):=fun ty=>Lib.run_next_any_at wr j s p ty hi hlt
   rw[i7 s p hlt,a1,List.flatMap_cons,lJ h0,if_pos rfl] at b3;have c8:((c.toNat:Nat):Int)=c:=by have:=cq h0;omega
   dsimp only at b3
   rw[c8] at b3;have a0:=aP.iter (w:=wr) (j:=j) (q:=p+ (a7 c).length) (s:=s);have e1:=Qa (Lib.iterAt_heap wr j s p (p+ (a7 c).length) hi);have d4:=Qa (ho.stayB a0 b4);have e2:=Qa (hb.trans (a0.below hb.size (fun k hk=>by rw[hk];exact hji)));have c4:=Qa (show s.data.toList.drop (p+ (a7 c).length)=rest.flatMap a7 by rw[<-List.drop_drop,a1,List.flatMap_cons,List.drop_left]);have H0:=Qa h0;have c9:=Qa (EW (c:=c));have Hgk:Hid (gk=rest.length+1):=Qa hm;clear ho hi hb he c1 a1 b4 hlt hlen e0 a0 h0 c8 hm;generalize wr.iterAt j s (p+ (a7 c).length)=wi at *;go_wp2_with fail;refine(sV H0.out _).mono ?_;rintro e w3 ⟨rfl,b1⟩;have c2:=Qa (d4.out.below b1 (Zb _));have a2:=Qa (aj e2.out b1);have c6:=Qa (ah e1.out b1);have c0:=Qa a2.out.size;have c5:=Qa (show(34::pre.flatMap cf).length+ (⟨(cf c).toArray⟩:ByteArray).size<=140737488355328 by
    have h1:=b5.out;have h2:=c9.out;have h3:(⟨(cf c).toArray⟩:ByteArray).size= (cf c).length:=by simp[ByteArray.size]
    rw[h3,List.length_cons];omega)
   clear b1;go_wp2_with (at_builtin;refine bX rfl (.tmp 20) (.tmp 22) rfl w.heap.size u5 (34::pre.flatMap cf) ⟨(cf c).toArray⟩ (by simp[Act.eval]) c2.out (by simp[Act.eval]) c5.out c0.out ?_;intro v' w4 h1 h2;have HK:=Qa h1;have b2:=Qa h2;clear h1 h2);have b8:∀b,u5.ownBlock=some b->b≠j:=fun b a3 e=>by
    obtain⟨_,cur,hg⟩:=ao c2.out a3;rw[e,c6.out] at hg
    cases hg
   have h3:F5 s cs j w rest.length v' w4:=by
    refine⟨pre ++ [c],rest,p+ (a7 c).length,by rw[He.out];simp,rfl,c4.out,ay c6.out b2.out (fun e=>b8 j e rfl),?_,?_,a2.out.grown b2.out a2.out.size (fun g e=>(aq.blk c2.out e).1)⟩
    ·have e:34:: (pre ++ [c]).flatMap cf= (34::pre.flatMap cf)++cf c:=by simp
     rw[e];exact HK.out
    ·have h1:=b5.out;have h2:=c9.out;simp only[List.flatMap_append,List.flatMap_cons,List.flatMap_nil,List.append_nil,List.length_append,List.length_cons,List.length_nil];omega
   go_roundg (rest.length)
   case measure=>have:=Hgk.out;omega
   case rel=>exact h3
