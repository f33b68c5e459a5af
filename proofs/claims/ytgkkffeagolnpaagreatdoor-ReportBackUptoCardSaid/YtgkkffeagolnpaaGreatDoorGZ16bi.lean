import Derived.Test.YtgkkffeagolnpaaGreatDoorGZ16bh
set_option linter.unusedVariables false
set_option linter.unusedSimpArgs false
set_option maxHeartbeats 64000000
set_option maxRecDepth 100000
namespace Go.Proofs.YtgkkffeagolnpaaGreatDoor
open Go.RowKit Go.Shelf
variable {ns ts:List ByteArray}{ks:List JV}{us:List Value}{N base g i id n oc:Nat}{P:Nat->Prop}{A:Option Addr}{t2 t3 t4:TypeId}{nv u v z2 z3 z4:Value}{W W' X Y Z w w' w6:World}
structure IQ (ns:List ByteArray) (us:List Value) (ts ls:List ByteArray):Prop where
 len:ls.length=ts.length
 at_:∀ (i:Nat) t s,ts[i]?=some t->ls[i]?=some s->∃j,gV ns t j/\us[j]?=some (.iface 78 (.string s))
def F3 (l:List ByteArray)(w:World)(e:Ending)(w':World):Prop:= ∃v,e =.returned (.tuple #[v,.bool true])/\aV w' w.heap.size v l/\Below w.heap.size w w'
theorem tD {ls:List ByteArray}(h:eJ P w A us ns ks)(hk:∀u∈us,∃T x,u =.iface T x)(hn:kh w nv ts)(hh:IQ ns us ts ls)(hl:ts.length=us.length) :
  Calls Tryz.prog 56 #[.iface 95 (.pointer A),nv] w (F3 ls w):=by
 obtain⟨hm,A2,c,rfl,-,hc⟩:=hn;have b4:=Qa (fun W=>CK (.pointer A) W);have c5:=Qa (fun W (hb:Below w.heap.size w W)=>eF (h.below hb));have a5:=Qa (fun W (hb:Below w.heap.size w W) (i:Nat) t s (h1:ts[i]?=some t) (h2:ls[i]?=some s)=>show ∃u,u=Value.string s/\Calls Tryz.prog 51 #[.pointer A,.string t] W fun e w'=>e =.returned (.tuple #[.iface 78 u,.bool true])/\Below W.heap.size W w' from by
  obtain⟨j,h3,h4⟩:=hh.at_ i t s h1 h2;exact⟨_,rfl,pX (h.below hb) hk h3 h4 (by omega)⟩)
 have Hc:=Qa hc;have b3:=Qa hh.len;have hne:((us.length:Int) !=ts.length)=false:=by rw[hl];simp
 clear h hk hh hc hl;go_enter Tryz.func56,Tryz.ntmps56;go_wp2_with fail;refine(b4.out _).mono ?_;rintro e w1 ⟨rfl,b2⟩;have Hb1:=Qa b2;clear b2;go_wp2_with fail;refine(c5.out _ Hb1.out).mono ?_;rintro e w' ⟨rfl,rfl⟩;go_wp2_with fail
 go_loopg [8,31] ts.length (fun m s8 s31 wr=> ∃i:Nat,m+i=ts.length/\s31 =.int .i64 i/\Hid (aV wr w.heap.size s8 (ls.take i))/\Hid (Below w.heap.size w wr))
 case atStart=>exact⟨0,rfl,rfl,Qa (by simpa [aV] using World.ownsRow_nil ..),Hb1⟩
 case round=>
  clear Hb1;obtain⟨i,hi,rfl,HS,Hb⟩:=hrel;have Hi:=Qa hi
  by_cases hlt:i<ts.length
  ·have a9:(i:Int)<ts.length:=by omega
   obtain⟨t,ht⟩:∃t,ts[i]?=some t:=⟨_,Zd hlt⟩;have c4:=b3.out;obtain⟨s,hs⟩:∃s,ls[i]?=some s:=⟨_,Zd (by omega)⟩;obtain⟨g,o,rfl,k1⟩:=Hc.out i t ht;have c1:=Zg Hb.out k1;obtain⟨u,hu,hg⟩:=a5.out wr Hb.out i t s ht hs;have Hu:=Qa hu;have Hg:=Qa hg;have b9:=Qa (show ls.take (i+1)=ls.take i ++ [s] by
    obtain⟨h1,h3⟩:=List.getElem?_eq_some_iff.1 hs;rw[List.take_succ_eq_append_getElem h1,h3])
   have b1:=Qa (show(ls.take i).length=i by rw[List.length_take];omega);clear ht hs k1 hi hu hg c4;go_wp2_with fail;refine Za Hg ?_;rintro e w2 ⟨rfl,a4⟩;have b5:=Qa (aj Hb.out a4);have a0:=Qa (show aV w2 w.heap.size u8 (ls.take i) from ai HS.out a4 (Zb _));clear a4 c1;go_wp2_with fail;refine(FB u w2).mono ?_;rintro e w3 ⟨rfl,a2⟩;have b8:=Qa (aj b5.out a2);have c0:=Qa (show aV w3 w.heap.size u8 (ls.take i) from ai a0.out a2 (Zb _));clear a2;have hu:=Hu.out;subst hu;have a1:=Qa (show aV (w3.alloc (.cells #[.string s] 9)) w.heap.size u8 (ls.take i) from ai c0.out (aa _ _) (Zb _));have a3:=Qa (aj b8.out (aa w3 (.cells #[.string s] 9)));unfold aV at a1;rw[b1.out] at a1;clear Hu;go_wp2_with (at_builtin;refine j3 jx a1.out (av w3 [cn s] 9) a3.out.size ?_ (h1:=(by simp[cn,Value.oneCell'])) (hlen:=by have:=Hi.out;unfold maxLen;omega) (hby:=by have:=Hi.out;omega);intro v' w5 p1 p2 p3;have c3:=Qa p1;have c2:=Qa (aF a3.out a1.out a3.out.size p2);clear p1 p2 p3);go_roundg (ts.length - (i+1))
   case measure=>have:=Hi.out;omega
   case rel=>
    refine⟨i+1,by have:=Hi.out;omega,by go_num,Qa ?_,c2⟩;unfold aV;rw[b9.out,List.map_append,List.length_append,b1.out];exact c3.out
  ·have a9:¬ (i:Int)<ts.length:=by omega
   have b0:=Qa (show ls.take i=ls by rw[List.take_of_length_le];have:=b3.out;omega);have a0:=Qa (show aV wr w.heap.size u8 ls by have:=HS.out;rw[b0.out] at this;exact this);obtain⟨A3,q,rfl,-⟩:=ag a0.out;clear hi HS b0;go_wp2_with fail;go_ret2;exact⟨_,rfl,a0.out,Hb.out⟩
end Go.Proofs.YtgkkffeagolnpaaGreatDoor
namespace Go.Proofs.YtgkkffeagolnpaaGreatDoor
variable {ns ts:List ByteArray}{ks:List JV}{us:List Value}{N base g i id n oc:Nat}{P:Nat->Prop}{A:Option Addr}{t2 t3 t4:TypeId}{nv u v z2 z3 z4:Value}{W W' X Y Z w w' w6:World}
variable {P:Program}{ops:Array Oper}{Q:Exit->Act->World->Prop}
def pK (ops:Array Oper):Bool:=ops.all fun o=>match o.op with | .defer _=>false|_=>true
theorem vp {o:Oper}(h:pK ops=true)(ho:ops[i]?=some o)(c:_):o.op≠ .defer c:=by
 intro e;obtain⟨hi,ho⟩:=Array.getElem?_eq_some_iff.1 ho;have:=(Array.all_eq_true.1 h) i hi;rw[ho,e] at this
 cases this
theorem uI {l:Nat}(hd:pK ops=true)(hL:¬LetsOut Q):∀ (L:List Nat) (a:Act) (w:World),wpOps P ops Q L a w->wpOpsIn (Fence.wide.inRound l) n P ops Q L a w:=by
 intro L
 induction L with
 |nil=>intro a w h;exact h
 |cons i rest ih=>
  intro a w h;unfold wpOps at h;unfold wpOpsIn
  cases ho:ops[i]? with
  |none=>simp only[ho] at h ⊢;exact ih _ _ h
  |some o=>
   simp only[ho] at h ⊢
   split at h
   ·rename_i hw
    rw[if_pos hw];refine⟨fun _ _=>trivial,?_⟩;rcases h with h|⟨-,h⟩
    ·rw[Fence.inRound_round,Oper.semAt_some l a.eval o (vp hd ho)];unfold Oper.wp at h;generalize (execOp a.eval o).run P w=r at *
     cases r with
     |ok x w'=>
      cases x <;> simp only[Oper.upon] at h <;> simp only[Oper.uponIn]
      case value=>exact ih _ _ h
      case skip=>exact ih _ _ h
      case defer=>exact ih _ _ h
      case enter f args=>exact⟨fun h'=>(by cases h'),CallsIn.inRound l (callsIn_wide.2 (h.mono fun e w'' he=>by cases e <;> first|exact ih _ _ he|exact he))⟩
      case row=>exact⟨fun h'=>(by cases h'),fun c cs _=>by
       obtain⟨v,w'',h1,h2⟩:=h c cs;exact⟨v,w'',ih _ _ h1,stepsIn_wide.2 h2⟩⟩
     |halt x w'=>
      cases x <;> simp only[Oper.upon] at h <;> simp only[Oper.uponIn] <;> exact h
    ·exact absurd h hL
   ·rename_i hw
    rw[if_neg hw];exact⟨fun _ _=>trivial,ih _ _ h⟩
theorem F7 {l:Nat}{a:Act}{S:World->Prop}(hm:P.follows .mixedOrders=true)(hd:pK ops=true)(z:Nat)(hS:S w.drew)
  (h:S w.drew->bT P .any ops (NoPanic (fun e a w=>e =.normal/\Q .normal a w)) S z ops.size (Array.replicate ops.size false) a w.drew):(Code.region id ops true).wpIn (Fence.wide.inRound l) n P Q a w:=by
 have h2:(Code.region id ops true).wpIn (Fence.wide.inRound l) n P (NoPanic (fun e a w=>e =.normal/\Q .normal a w)) a w:=
  wpIn_region_draw fun t=>by
   simp only[Region.schedule,hm,Bool.true_or,if_true];exact uI hd (fun ⟨a,w,h⟩=>by first|cases h.1|cases h) _ _ _ (wpAny_sound ops.size t _ a _ (jq _ _ _ _ (h hS)))
 exact Code.wpIn_mono (fun e a w h3=>by obtain⟨rfl,h4⟩:=NoPanic.imp e a w h3;exact h4) h2
end Go.Proofs.YtgkkffeagolnpaaGreatDoor
namespace Go.Proofs.YtgkkffeagolnpaaGreatDoor
open Go.RowKit Go.Shelf
variable {ns ts:List ByteArray}{ks:List JV}{us:List Value}{N base g i id n oc:Nat}{P:Nat->Prop}{A:Option Addr}{t2 t3 t4:TypeId}{nv u v z2 z3 z4:Value}{W W' X Y Z w w' w6:World}
attribute [local go_sem] Oper.semAt_some
structure jt (w:World):Prop where
 lr:kn w
 lw:zG w
 env:∃aU aE,lg w aU aE
 may:iE w
 eNil:aO w 1
theorem jt.below (h:jt w)(hb:Below w.heap.size w w'):jt w':=by
 obtain⟨h1,h2,⟨aU,aE,h3⟩,h4,h5⟩:=h;exact⟨h1.below hb,h2.below hb,⟨aU,aE,h3.below hb⟩,h4.below hb,h5.below hb⟩
theorem VW.asText {s:ByteArray}(h:VW P w v (aZ s)):v =.iface 78 (.string s):=by
 cases h with
 |text=>rfl
theorem mn:dd ia/\dd gq/\dd gR/\dd lU/\dd lH:=⟨⟨bk.1,by decide⟩,⟨bk.2.1,by decide⟩,⟨bk.2.2.1,by decide⟩,⟨bk.2.2.2.1,by decide⟩,⟨bk.2.2.2.2,by decide⟩⟩
theorem wS:gV [lU,lH] lU 0/\gV [lU,lH] lH 1:=by
 obtain⟨-,-,-,h4,h5⟩:=mn;have e0:aJ (nm lU) (nm lU)=0:=rfl;have e1:aJ (nm lU) (nm lH) = -1:=rfl;have e2:aJ (nm lH) (nm lU)=1:=rfl;have e3:aJ (nm lH) (nm lH)=0:=rfl;refine⟨⟨rfl,?_,?_,?_⟩,⟨rfl,?_,?_,?_⟩⟩
 all_goals first
  |(intro n hn;simp only[List.mem_cons,List.mem_nil_iff,or_false] at hn;rcases hn with rfl|rfl <;> assumption)
  |(intro i n hn hi;match i,hn with
    |0,hn=>(obtain rfl:=Zi hn;omega)
    |1,hn=>(obtain rfl:=Zi hn;omega))
theorem o3:gV [ia,gq,gR] ia 0/\gV [ia,gq,gR] gq 1/\gV [ia,gq,gR] gR 2:=by
 obtain⟨h1,h2,h3,-,-⟩:=mn;have a0:aJ (nm ia) (nm ia)=0:=rfl;have a1:aJ (nm ia) (nm gq) = -1:=rfl;have a2:aJ (nm ia) (nm gR) = -1:=rfl;have b0:aJ (nm gq) (nm ia)=1:=rfl;have b1:aJ (nm gq) (nm gq)=0:=rfl;have b2:aJ (nm gq) (nm gR) = -1:=rfl;have c0:aJ (nm gR) (nm ia)=1:=rfl;have c1:aJ (nm gR) (nm gq)=1:=rfl;have c2:aJ (nm gR) (nm gR)=0:=rfl;refine⟨⟨rfl,?_,?_,?_⟩,⟨rfl,?_,?_,?_⟩,⟨rfl,?_,?_,?_⟩⟩
 all_goals first
  |(intro n hn;simp only[List.mem_cons,List.mem_nil_iff,or_false] at hn;rcases hn with rfl|rfl|rfl <;> assumption)
  |(intro i n hn hi;match i,hn with
    |0,hn=>(obtain rfl:=Zi hn;omega)
    |1,hn=>(obtain rfl:=Zi hn;omega)
    |2,hn=>(obtain rfl:=Zi hn;omega))
theorem yA {e:En}(h:VW P w u (dJ e))(hn:kh w nv [ia,gR,gq]):∃A,u =.iface 95 (.pointer A)/\Calls Tryz.prog 56 #[.iface 95 (.pointer A),nv] w fun r w'=>F3 [e.eAt,e.eSch,e.eKw] w r w':=by
 obtain⟨A,us,rfl,ho,hk⟩:=VW.asObj (t:=false) (x:=es) (d:=⟨false,es,0⟩) (ns:= [ia,gq,gR]) (ks:= [aZ e.eAt,aZ e.eKw,aZ e.eSch]) h;obtain⟨g,R,c,-,-,-,hl,-⟩:=id ho
 match us,hl,hk,ho with
 | [u0,u1,u2],_,hk,ho=>
  obtain rfl:=(hk 0 u0 _ rfl rfl).asText;obtain rfl:=(hk 1 u1 _ rfl rfl).asText;obtain rfl:=(hk 2 u2 _ rfl rfl).asText;refine⟨A,rfl,tD ho (fun u hu=>?_) hn ⟨rfl,fun i t s h1 h2=>?_⟩ rfl⟩
  ·simp only[List.mem_cons,List.mem_nil_iff,or_false] at hu;rcases hu with rfl|rfl|rfl <;> exact⟨_,_,rfl⟩
  ·match i,h1,h2 with
   |0,h1,h2=>(obtain rfl:=Zi h1;obtain rfl:=Zi h2;exact⟨0,o3.1,rfl⟩)
   |1,h1,h2=>(obtain rfl:=Zi h1;obtain rfl:=Zi h2;exact⟨2,o3.2.2,rfl⟩)
   |2,h1,h2=>(obtain rfl:=Zi h1;obtain rfl:=Zi h2;exact⟨1,o3.2.1,rfl⟩)
attribute [local go_sem] Oper.semAt_some
def Fj (oc:Nat)(l:List En)(w:World)(e:Ending)(w':World):Prop:= ∃u,e =.returned (.tuple #[.int .i64 oc,u,.bool true])/\bG w' w.heap.size u l/\Below w.heap.size w w'
def iw (N g:Nat)(X Y:World):Prop:= ∀k cs t z,k<N->k≠g->X.heap[k]?=some (.cells cs t z)->Y.heap[k]?=some (.cells cs t z)
theorem iw.t (h:iw N g X Y)(k:iw N g Y Z):iw N g X Z:=fun i cs t z hi hc he=>k i cs t z hi hc (h i cs t z hi hc he)
theorem iw.b (W:World)(l:Nat)(o o':Obj)(h:W.heap[l]?=some o)(ho:o.isCells=false):iw N g W (W.putObj l o'):=fun k cs t z _ _ hc=>by
 have:k≠l:=by rintro rfl;rw[h] at hc;cases hc;simp[Obj.isCells] at ho
 exact(World.putObj_heap_other this).trans hc
theorem iw.of_below (h:Below W.heap.size W W'):iw N g W W':=fun k cs t z _ _ hc=>(h.block k (ak hc)).trans hc
theorem iw.of_low (h:Below N W W'):iw N g W W':=fun k cs t z hk _ hc=>(h.block k hk).trans hc
theorem iw.set (W:World)(u:Value):iw N g W (W.setCell ⟨g,0,none⟩ u):=fun k cs t z _ hk hc=>(Below.heap_setCell W ⟨g,0,none⟩ u k hk).trans hc
def gc (l:List En)(n:Nat)(h:n=l.length)(pre:List (Fin n)):List En:=pre.map fun i=>l[i.val]'(h▸i.isLt)
theorem zy (l:List En)(n:Nat)(h:n=l.length):gc l n h (List.finRange n)=l:=by
 subst h;unfold gc;apply List.ext_getElem (by simp);intro i h1 h2;simp
theorem vk (l:List En)(n:Nat)(h:n=l.length)(pre:List (Fin n))(x:Fin n):gc l n h (pre ++ [x])=gc l n h pre ++ [l[x.val]'(h▸x.isLt)]:=by simp[gc]
theorem yM (l:List En)(n:Nat)(h:n=l.length)(pre:List (Fin n)):(gc l n h pre).length=pre.length:=by simp[gc]
def F0 (w6:World)(l:List En)(n:Nat)(h:n=l.length)(pre:List (Fin n))(W:World):Prop:=(∃v,Bx W w6.heap.size 22 v/\bG W (w6.heap.size+2) v (gc l n h pre))/\Below w6.heap.size w6 W/\w6.heap.size+2<=W.heap.size
theorem bG.kept {l:List En}{row:Option Nat}(h:bG w base v l)(hg:w.grownBy w' row)(hr:∀r,row=some r->∃o:Obj,w.heap[r]?=some o/\o.isCells=false):bG w' base v l:=by
 refine World.ownsRow.kept h hg ?_
 cases hv:v.ownBlock with
 |none=>exact .inl rfl
 |some k=>
  refine .inr fun e=>?_
  obtain⟨o,ho,hc⟩:=hr k e.symm;obtain⟨-,cur,a0⟩:=ao h hv;rw[a0] at ho
  cases ho
  simp[Obj.isCells] at hc
theorem ro {l:List En}{D qv:Nat}{Av:Option Addr}(hE:bG W (w6.heap.size+2) (.slice Av l.length qv) l)(hB:Below w6.heap.size w6 W)(hK:W.heap[D]?=some (.deferred (some [])))(hz:w.heap.size+3<=w6.heap.size)(hD:w6.heap.size<D)
  (b2:Bx W w.heap.size t2 z2) (b3:Bx W (w.heap.size+1) t3 z3) (b4:Bx W (w.heap.size+2) t4 z4) (hw:Below w.heap.size w W) {x y z:Value} {W2:World} (h2:(((W.setCell ⟨w.heap.size,0,none⟩ x).setCell ⟨w.heap.size+1,0,none⟩ y).setCell ⟨w.heap.size+1+1,0,none⟩ z).drew=W2) :
  W2.heap[D]?=some (.deferred (some []))/\(W2.putObj D (.deferred none)).cell? ⟨w.heap.size,0,none⟩=some x/\(W2.putObj D (.deferred none)).cell? ⟨w.heap.size+1,0,none⟩=some y/\(W2.putObj D (.deferred none)).cell? ⟨w.heap.size+1+1,0,none⟩=some z/\
   bG (W2.putObj D (.deferred none)) w.heap.size (.slice Av l.length qv) l/\Below w.heap.size w (W2.putObj D (.deferred none)):=by
 have k2:Bx W2 w.heap.size t2 x:=h2▸((b2.set x).far (p:=⟨w.heap.size+1,0,none⟩) (by simp) y).far (p:=⟨w.heap.size+1+1,0,none⟩) (by show w.heap.size≠w.heap.size+1+1;omega) z;have k3:Bx W2 (w.heap.size+1) t3 y:=h2▸((b3.far (p:=⟨w.heap.size,0,none⟩) (by simp) x).set y).far (p:=⟨w.heap.size+1+1,0,none⟩) (by simp) z;have k4:Bx W2 (w.heap.size+1+1) t4 z:=h2▸((b4.far (p:=⟨w.heap.size,0,none⟩) (by simp) x).far (p:=⟨w.heap.size+1,0,none⟩) (by simp) y).set z;have a0:W2.heap[D]?=some (.deferred (some [])):=h2▸(Below.heap_setCell _ ⟨w.heap.size+1+1,0,none⟩ z D (by show D≠w.heap.size+1+1;omega)).trans ((Below.heap_setCell _ ⟨w.heap.size+1,0,none⟩ y D (by show D≠w.heap.size+1;omega)).trans ((Below.heap_setCell W ⟨w.heap.size,0,none⟩ x D (by show D≠w.heap.size;omega)).trans hK));have a1:bG W2 (w6.heap.size+2) (.slice Av l.length qv) l:=h2▸ownsRow_setCell_below (ownsRow_setCell_below (ownsRow_setCell_below hE (a:=⟨w.heap.size,0,none⟩) (by show w.heap.size<_;omega) x) (a:=⟨w.heap.size+1,0,none⟩) (by show w.heap.size+1<_;omega) y) (a:=⟨w.heap.size+1+1,0,none⟩) (by show w.heap.size+1+1<_;omega) z;have hg:=grownBy_putObj' W2 D (.deferred none);have hr:∀r,some D=some r->∃o:Obj,W2.heap[r]?=some o/\o.isCells=false:=fun r e=>by cases e;exact⟨_,a0,rfl⟩
 refine⟨a0,(k2.kept hg hr).cell,(k3.kept hg hr).cell,(k4.kept hg hr).cell,bj (a1.kept hg hr) (by omega),?_⟩;have h1:Below w.heap.size w W2:=h2▸(((hw.setCell (p:=⟨w.heap.size,0,none⟩) (Zb _) x).setCell (p:=⟨w.heap.size+1,0,none⟩) (by simp) y).setCell (p:=⟨w.heap.size+1+1,0,none⟩) (by show w.heap.size<=w.heap.size+1+1;omega) z).drew;exact h1.grown hg h1.size (fun k e=>by cases e;omega)
theorem Da (ho:oc<6)(h:cH[i]?=some (bw oc))(hj:∀j,j<i->cH[j]?≠some (bw oc)):i=oc:=by
 have hi:i<6:=(List.getElem?_eq_some_iff.1 h).1;have hw:cH[oc]?=some (bw oc):=by
  unfold bw;rw[List.getD_eq_getElem?_getD,Zd (by exact ho)];rfl
 have h2:¬oc<i:=fun hlt=>hj oc hlt hw
 rcases Nat.lt_or_ge i oc with hlt|a0
 ·exfalso
  have hd:cH.Nodup:=by decide
  have e:cH[i]?=cH[oc]?:=h.trans hw.symm;rw[Zd (by exact hi),Zd (by exact ho)] at e;have:=(List.getElem_inj (h₀:=hi) (h₁:=ho) hd).1 (Zi e);omega
 ·omega
theorem zN {l:List En}(hA:jt w)(hv:Bs w v (bU oc l).txt)(hl:(bU oc l).txt.length<=1000000000)(f9:∀e∈l,e9 e)(ho:1<=oc/\oc<6)(hn:l.length<=1000000) :
  Calls Tryz.prog 24 #[v] w (Fj oc l w):=by
 obtain⟨aU,aE,hE⟩:=hA.env;have h0:0< (bU oc l).txt.length:=by
  rw[List.length_pos_iff];intro e;have:=jm (qw (o:=oc) f9);rw[e] at this
  cases this
 have a4:=Qa (fun W (hb:Below w.heap.size w W)=>ou (hE.below hb) (hA.may.below hb) (hv.below hb) h0 hl (jm (qw (o:=oc) f9)));have HA:=Qa hA;have Ho:=Qa ho;have Hn:=Qa hn;clear hE h0 hA hv hl f9 ho hn;refine(callsIn_wide (n:=9)).1 ?_;refine callsIn_of_wp_marks Tryz.func24 rfl trivial ?_ rfl;simp only[Tryz.ntmps24,List.size_toArray,List.length_cons,List.length_nil,Nat.reduceAdd,Nat.reduceSub,Array.replicate_succ,Array.replicate_zero,List.push_toArray,List.append_toArray,List.nil_append,List.cons_append];have c8:=Qa (show Below w.heap.size w (((w.alloc (.cells #[.int .i64 0] 3)).alloc (.cells #[.slice none 0 0] 22)).alloc (.cells #[.bool false] 4)) from aj (aj (aa _ _) (aa _ _)) (aa _ _));have i4:=Qa ((((Bx.new w 3 (.int .i64 0)).alloc (.cells #[.slice none 0 0] 22)).alloc (.cells #[.bool false] 4)));have n4:=Qa (show Bx (((w.alloc (.cells #[.int .i64 0] 3)).alloc (.cells #[.slice none 0 0] 22)).alloc (.cells #[.bool false] 4)) (w.heap.size+1) 22 (.slice none 0 0) from by
  have:=(Bx.new (w.alloc (.cells #[.int .i64 0] 3)) 22 (.slice none 0 0)).alloc (.cells #[.bool false] 4)
  rwa[World.size_alloc] at this)
 have k8:=Qa (show Bx (((w.alloc (.cells #[.int .i64 0] 3)).alloc (.cells #[.slice none 0 0] 22)).alloc (.cells #[.bool false] 4)) (w.heap.size+2) 4 (.bool false) from by
  have:=(Bx.new ((w.alloc (.cells #[.int .i64 0] 3)).alloc (.cells #[.slice none 0 0] 22)) 4 (.bool false))
  rwa[World.size_alloc,World.size_alloc] at this)
 have Hz:=Qa (show(((w.alloc (.cells #[.int .i64 0] 3)).alloc (.cells #[.slice none 0 0] 22)).alloc (.cells #[.bool false] 4)).heap.size=w.heap.size+3 by simp)
 gi_wp2_with fail
 generalize (((w.alloc (.cells #[.int .i64 0] 3)).alloc (.cells #[.slice none 0 0] 22)).alloc (.cells #[.bool false] 4))=w0 at *;refine⟨trivial,?_⟩;refine(callsIn_wide.2 (a4.out w0 c8.out)).mono ?_;rintro e w1 ⟨u,rfl,m0,l1⟩;obtain⟨A,us,rfl,hob,hk⟩:=VW.asObj (t:=false) (x:=es) (d:=⟨false,es,0⟩) (ns:= [lU,lH]) (ks:= [cJ (l.map dJ),aZ (bw oc)]) l1;obtain⟨u0,u1,rfl⟩:∃u0 u1,us = [u0,u1]:=by
  obtain⟨g,R,c,-,-,-,hlen,-⟩:=id hob
  match us,hlen with
  | [u0,u1],_=>exact⟨u0,u1,rfl⟩
 obtain rfl:=(hk 1 u1 _ rfl rfl).asText;obtain⟨A2,us,rfl,k0,hkl⟩:=VW.asList (t:=false) (x:=es) (d:=⟨false,es,0⟩) (ns:= []) (ks:=l.map dJ) (hk 0 u0 _ rfl rfl);have m3:∀u∈ [Value.iface 104 (.pointer A2),.iface 78 (.string (bw oc))],∃T x,u =.iface T x:=by
  intro u hu;simp only[List.mem_cons,List.mem_nil_iff,or_false] at hu;rcases hu with rfl|rfl <;> exact⟨_,_,rfl⟩
 have d5:=Qa hob;have h5:=Qa m3;have e3:=Qa (And.intro k0 hkl);have a9:=Qa m0;clear l1 hob hk m3 k0 hkl m0 a4;generalize hwd:bw oc=wd at *;have g8:=Qa hwd;clear hwd
 gi_wp2_with fail
 refine⟨trivial,?_⟩;refine(callsIn_wide.2 (CK (.pointer A) w1)).mono ?_;rintro e w2 ⟨rfl,c3⟩;have d9:=Qa c3;clear c3
 gi_wp2_with fail
 refine⟨trivial,?_⟩;refine(callsIn_wide.2 (eF (d5.out.below d9.out))).mono ?_;rintro e w' ⟨rfl,rfl⟩
 gi_wp2_with fail
 refine⟨trivial,?_⟩;refine(callsIn_wide.2 (pX (d5.out.below d9.out) h5.out wS.2 rfl (by simp))).mono ?_;rintro e w3 ⟨rfl,b0⟩;have c1:=Qa (aj d9.out b0);clear b0
 gi_wp2_with fail
 refine⟨trivial,?_⟩;refine(callsIn_wide.2 (FB (.string wd) w3)).mono ?_;rintro e w4 ⟨rfl,n0⟩;have d4:=Qa (aj c1.out n0);clear n0
 gi_wp2_with fail
 have k2:=Qa ((HA.out.below (aj c8.out (aj a9.out d4.out))).lr);have m5:=Qa (show Calls Tryz.prog 53 #[.slice (some ⟨2,0,none⟩) 6 6,.string wd] w4 fun e w'=>Gt cH wd w4 e w' from iu (l:=cH) (by decide) (fun i a ha=>⟨_,0,rfl,by rw[Nat.zero_add];exact k2.out.words i a ha⟩));refine⟨trivial,?_⟩;refine(callsIn_wide.2 m5.out).mono ?_;rintro e w' ⟨rfl,z,rfl,hz⟩;obtain rfl:z=oc:=by
  have k3:=Ho.out;rcases hz with ⟨i,rfl,h1,h2⟩|⟨-,h1⟩
  ·rw[<-g8.out] at h1 h2;rw[Da k3.2 h1 h2]
  ·exact absurd (show wd∈cH from by
    rw[<-g8.out];unfold bw;rw[List.getD_eq_getElem?_getD,Zd (by exact k3.2)];exact List.getElem_mem _) h1
 have r3:¬ (oc:Int)<1:=by have:=Ho.out;omega
 clear hz k2 m5
 gi_wp2_with fail
 refine⟨trivial,?_⟩;refine(callsIn_wide.2 (pX (d5.out.below d4.out) h5.out wS.1 rfl (by simp))).mono ?_;rintro e w5 ⟨rfl,l2⟩;have m2:=Qa (aj d4.out l2);clear l2
 gi_wp2_with fail
 refine⟨trivial,?_⟩;refine(callsIn_wide.2 (I1 (.pointer A2) w5)).mono ?_;rintro e w6 ⟨rfl,m1⟩;have a3:=Qa (aj m2.out m1);clear m1
 gi_wp2_with fail
 have m4:=Qa (fun W (hb:Below w6.heap.size w6 W) (i:Nat) (u:Value) (e:En) (h1:us[i]?=some u) (h2:l[i]?=some e)=>show VW (w0.heap.size<= ·) W u (dJ e) from(e3.out.2 i u (dJ e) h1 (by rw[List.getElem?_map,h2];rfl)).later (aj a3.out hb));have n9:us.length=l.length:=by have:=e3.out.1.len;simpa using this
 have e4:=Qa (e3.out.1.below a3.out);have n7:=Qa ((HA.out.below (aj c8.out (aj a9.out a3.out))).lw.pow);have c9:=Qa (aj c8.out (aj a9.out a3.out));have l0:w.heap.size+3<=w6.heap.size:=by have h1:=Hz.out;have h2:=(aj a9.out a3.out).size;omega
 have k9:=Qa (i4.out.later (aj a9.out a3.out));have k4:=Qa (n4.out.later (aj a9.out a3.out));have j0:=Qa (k8.out.later (aj a9.out a3.out));have r0:=Qa l0;have q9:=Qa n9;clear i4 n4 k8 c8 a9 d9 c1 d4 m2 a3 e3 d5 h5 HA g8 Hz n9 l0;refine⟨trivial,?_⟩;refine(callsIn_wide.2 ij).mono ?_;rintro e w8 ⟨rfl,rfl⟩;have f1:=aa w6 (.cells #[.slice none 0 0] 22);have f8:=Bx.new w6 22 (.slice none 0 0);obtain⟨wA,h9⟩:∃wA,w6.alloc (.cells #[.slice none 0 0] 22)=wA:=⟨_,rfl⟩;have d1:wA.heap.size=w6.heap.size+1:=by rw[<-h9];simp
 rw[h9] at f1 f8 ⊢;clear h9;have e0:=aa wA (.cells #[.iface 104 (.pointer A2)] 168);have f0:=Zf wA (.cells #[.iface 104 (.pointer A2)] 168);obtain⟨W1,f6⟩:∃W1,wA.alloc (.cells #[.iface 104 (.pointer A2)] 168)=W1:=⟨_,rfl⟩;have c5:W1.heap.size=wA.heap.size+1:=by rw[<-f6];simp
 rw[f6] at e0 f0 ⊢;clear f6;have p3:us.length= (fa us).length:=(dL us).symm;have l3:(fa us).length=l.length:=by rw[dL];exact q9.out
 have i0:=Qa (show F0 w6 l (fa us).length l3 [] W1 from⟨⟨_,f8.later e0,by
  show bG W1 (w6.heap.size+2) (.slice none 0 0) []
  exact bG.nil _ _⟩,aj f1 e0,by omega⟩)
 have d3:=Qa c5;have a2:=Qa d1;have q0:=Qa f0;have b9:=Qa l3;have q8:=Qa e4.out.bd;clear f1 f8 e0 f0 c5 d1 p3
 gi_wp2
 have b5:∀X,iw (w6.heap.size+2) w6.heap.size W1 X->Ig w6 X:=fun X hX g cs t z hg=>hX g cs t z (by have:=ak hg;omega) (by have:=ak hg;omega) ((i0.out.2.1.block g (ak hg)).trans hg)
 have d0:SeqStopsK Fence.wide (9 - 1) Tryz.prog 90 #[.pointer (some ⟨wA.heap.size,0,none⟩)] (fun x:Fin (fa us).length=> #[.string ((fa us).get x).1,((fa us).get x).2]) (iw (w6.heap.size+2) w6.heap.size) (fun ys=>ys=List.finRange (fa us).length) (fun _=>True) (fa us).length W1:=by
  intro l J Jx W hW hJ p0 hY h0;refine mV (9 - 1) (by omega) l wA.heap.size A2 (fa us) (by rw[dL];exact q8.out) (iw (w6.heap.size+2) w6.heap.size) (fun _ _ h=>iw.of_below h) (iw (w6.heap.size+2) w6.heap.size W1) (fun X Y h1 h2=>h1.t h2) (fun X hX=>?_) (fun X hX=>?_) (fun X k hX=>?_) J Jx W (iw.of_below hW) hJ p0 hY h0
  ·exact ac (hX _ _ _ _ (by have:=a2.out;omega) (by have:=a2.out;omega) q0.out) (j:=0) rfl
  ·rw[dL];exact im (e4.out.kp (b5 X hX))
  ·obtain⟨u,hu,he⟩:=j5 us k;rw[he];exact fM (e4.out.kp (b5 X hX)) (n7.out.kp (b5 X hX)) k.val hu
 have c6:=Qa d0;clear b5 d0;refine wpIn_rangeFunc_ownF rfl (by omega) (gf:=90) (lb:= #[.pointer (some ⟨wA.heap.size,0,none⟩)]) (by simp[Act.eval]) trivial (enters_of Tryz.func90 (by kernel_rfl) rfl)
  c6.out
  (fun h k=>h.t k) (fun W l o o' _ h ho _=>iw.b W l o o' h ho) (Ze _ _) (fun _=>rfl)
  (F0 w6 l (fa us).length b9.out) (fun _ _ _=>False) ?hI ?hIx i0.out ?a1 ?assign ?body ?done ?stop
 case assign=>
  intro l x W K hK
  gi_wp2
  exact hK
 case hI=>
  intro s A B row hs hg hr;obtain⟨⟨v,h1,h2⟩,h3,h4⟩:=hs;exact⟨⟨v,h1.kept hg (fun r e=>(hr r e).2),h2.kept hg (fun r e=>(hr r e).2)⟩,h3.grown hg h3.size (fun k e=>by have:=(hr k e).1;have:=d3.out;have:=a2.out;omega),Zc h4 hg.size⟩
 case hIx=>exact fun _ _ _ _ _ hs _ _=>hs
 case stop=>
  rintro D c pre W hD _ h _;exact h.elim
 case done=>
  rintro D ys W hD rfl ⟨⟨v,hk,hE⟩,hB,-⟩ hK;rw[zy] at hE;obtain⟨Av,qv,rfl,-⟩:=ag hE;have hz:=r0.out;have d2:w6.heap.size<D:=by have:=d3.out;have:=a2.out;omega
  have b2:=k9.out.later hB;have b3:=k4.out.later hB;have b4:=j0.out.later hB;have c4:=c9.out.trans (hB.mono c9.out.size);have c2:=Qa (And.intro hk (And.intro hE (And.intro hB (And.intro hK (And.intro hz (And.intro d2 (And.intro b2 (And.intro b3 (And.intro b4 c4)))))))));have q2:=b2.cell;have q3:=b3.cell;have q4:W.cell? ⟨w.heap.size+1+1,0,none⟩=some (.bool false):=b4.cell;have f2:=b2.frozen;have f3:=b3.frozen;have f4:W.frozen? ⟨w.heap.size+1+1,0,none⟩=false:=b4.frozen;have b5:=hk.cell;have n1:w6.heap.size≠w.heap.size:=by omega
  have n2:w6.heap.size≠w.heap.size+1:=by omega
  have n3:w6.heap.size≠w.heap.size+2:=by omega
  clear hk hE hB hK hz d2 b2 b3 b4 c4 k9 k4 j0 m4 e4 n7 c6 i0 hD
  gi_wp2_with fail
  refine wpIn_wide.2 ?_;refine bF (fun w'=>w'.cell? ⟨w6.heap.size,0,none⟩=some (.slice Av l.length qv)) (b5) fun a0=>?_
  refine tH 0 a0 ?_;refine tH 1 a0 ?_
  try simp only[Act.put,jP,jQ,jR]
  refine rH 2 fun K hK=>?_
  go_simp;refine hK.out _ _ ((World.cell?_of_block (Below.heap_setCell _ ⟨w.heap.size,0,none⟩ _ w6.heap.size n1)).trans a0) (fun a0=>?_);clear hK K
  try simp only[Act.put,jP,jQ,jR]
  refine rH 3 fun K hK=>?_
  go_simp;refine hK.out _ _ ((World.cell?_of_block (Below.heap_setCell _ ⟨w.heap.size+1,0,none⟩ _ w6.heap.size n2)).trans a0) (fun a0=>?_);clear hK K
  try simp only[Act.put,jP,jQ,jR]
  refine rH 4 fun K hK=>?_
  go_simp;refine hK.out _ _ ((World.cell?_of_block (Below.heap_setCell _ ⟨w.heap.size+2,0,none⟩ _ w6.heap.size n3)).trans a0) (fun a0=>?_);clear hK K
  try simp only[Act.put,jP,jQ,jR]
  refine wpAnyH_done (by kernel_rfl) (NoPanic.normal ?_) _;obtain⟨hk,hE,hB,hK,hz,d2,b2,b3,b4,c4⟩:=c2.out;obtain⟨g1,g2,g3,g4,g5,g6⟩:=ro hE hB hK hz d2 b2 b3 b4 c4 (x:=.int .i64 oc) (y:=.slice Av l.length qv) (z:=.bool true) rfl;have G:=Qa (And.intro g1 (And.intro g2 (And.intro g3 (And.intro g4 (And.intro g5 g6)))));clear hk hE hB hK hz d2 b2 b3 b4 c4 g1 g2 g3 g4 g5 g6 q2 q3 q4 f2 f3 f4 b5 n1 n2 n3 c2
  gi_wp2
  generalize (((W.setCell ⟨w.heap.size,0,none⟩ (.int .i64 oc)).setCell ⟨w.heap.size+1,0,none⟩ (.slice Av l.length qv)).setCell ⟨w.heap.size+1+1,0,none⟩ (.bool true)).drew=W2 at *;obtain⟨g1,g2,g3,g4,g5,g6⟩:=G.out;refine⟨by simp,.inl ⟨_,_,rfl,run_takeDeferred g1,?_⟩⟩;refine⟨.tuple #[.int .i64 oc,.slice Av l.length qv,.bool true],?_,_,rfl,g5,g6⟩;simp[results,Tryz.results24,go_sem,g2,g3,g4]
 case body=>
  rintro lp pre x W ⟨⟨v,hk,hE⟩,hB,hN⟩ q5;obtain⟨u,hu,he⟩:=j5 us x;have k1:(fa us)[x.val]'x.isLt= (⟨(Lib.itoa x.val).toArray⟩,u):=he;have g0:=b9.out;have h7:x.val<l.length:=by have:=x.isLt;omega
  obtain⟨en,h8⟩:∃en,l[x.val]'(h7)=en:=⟨_,rfl⟩;have n5:=m4.out W hB x.val u en hu (by rw[Zd h7,h8]);have e5:=aa W (.cells #[.string ia,.string gR,.string gq] 9);have e1:=Zf W (.cells #[.string ia,.string gR,.string gq] 9);obtain⟨Ax,rfl,a5⟩:=yA (nv:=.slice (some ⟨W.heap.size,0,none⟩) 3 3) (n5.later e5) ⟨by decide,_,3,rfl,by decide,fun i a ha=>by
   match i,ha with
   |0,ha=>(obtain rfl:=Zi ha;exact⟨W.heap.size,0,rfl,ac e1 (j:=0) rfl⟩)
   |1,ha=>(obtain rfl:=Zi ha;exact⟨W.heap.size,0,rfl,ac e1 (j:=1) rfl⟩)
   |2,ha=>(obtain rfl:=Zi ha;exact⟨W.heap.size,0,rfl,ac e1 (j:=2) rfl⟩)⟩
  have b1:=Qa a5;have i5:=Qa (And.intro hk (And.intro hE (And.intro hB hN)));have p2:=Qa (show gc l (fa us).length b9.out (pre ++ [x])=gc l (fa us).length b9.out pre ++ [en] by rw[vk,h8]);have k6:=Qa (show(gc l (fa us).length b9.out pre).length<=1000000 by rw[yM];have:=Hn.out;omega);clear q5;generalize gc l (fa us).length b9.out pre=lp0 at *;rw[k1];clear hu he k1 g0 h7 h8 n5 e1 a5 hk hE hB hN
  gi_wp2_with fail
  refine⟨trivial,?_⟩;refine(CallsIn.inRound lp (callsIn_wide.2 b1.out)).mono ?_;rintro e2 W2 ⟨vt,rfl,c0,c3⟩;obtain⟨A3,q3,rfl,-,-,i8⟩:=ag c0;obtain⟨b3,rfl⟩:=i8 (by simp);have t0:W2.cell? ⟨b3,0,none⟩=some (.string en.eAt):=(aH c0 rfl 0 (by simp)).trans rfl;have t1:W2.cell? ⟨b3,1,none⟩=some (.string en.eSch):=(aH c0 rfl 1 (by simp)).trans rfl;have t2:W2.cell? ⟨b3,2,none⟩=some (.string en.eKw):=(aH c0 rfl 2 (by simp)).trans rfl;obtain⟨hk,hE,hB,hN⟩:=i5.out;have b0:=aj e5 c3;have d6:=hk.later b0;have m9:bG W2 (w6.heap.size+2) v lp0:=ai hE b0 (Zb _);have r1:w6.heap.size<W2.heap.size:=d6.lt;have n6:=d6.alloc (.cells #[.string en.eAt,.string en.eSch,.string en.eKw] 45);have i9:bG (W2.alloc (.cells #[.string en.eAt,.string en.eSch,.string en.eKw] 45)).drew (w6.heap.size+2) v lp0:=ai m9 (aa _ _).drew (Zb _);have k5:w6.heap.size+2<=W2.heap.size:=Zc hN b0.size;have hS:W2.cell? ⟨w6.heap.size,0,none⟩=some v/\W2.cell? ⟨b3,0,none⟩=some (.string en.eAt)/\W2.cell? ⟨b3,1,none⟩=some (.string en.eSch)/\W2.cell? ⟨b3,2,none⟩=some (.string en.eKw):=⟨d6.cell,t0,t1,t2⟩;have HS:=Qa hS;have i3:=Qa i9;have c1:=Qa b0;have r2:=Qa k5;have o2:=Qa (show ∀ (j:Nat) u,(dW en)[j]?=some u->(W2.alloc (.cells #[.string en.eAt,.string en.eSch,.string en.eKw] 45)).drew.cell? ⟨W2.heap.size,j,none⟩=some u from av W2 (dW en) 45);have b8:=Qa (show w6.heap.size+2<=(W2.alloc (.cells #[.string en.eAt,.string en.eSch,.string en.eKw] 45)).drew.heap.size by simp;omega);have h6:=Qa (show ∀r,v.ownBlock=some r->r≠b3 from fun r e h=>by
   have h1:=(World.ownsRow.lt hE r e).2;have h2:=(ao c0 (g:=b3) rfl).1;simp at h2;omega)
  have f5:=Qa (show(W2.alloc (.cells #[.string en.eAt,.string en.eSch,.string en.eKw] 45)).drew.cell? ⟨b3,0,none⟩=some (.string en.eAt)/\(W2.alloc (.cells #[.string en.eAt,.string en.eSch,.string en.eKw] 45)).drew.cell? ⟨b3,1,none⟩=some (.string en.eSch)/\(W2.alloc (.cells #[.string en.eAt,.string en.eSch,.string en.eKw] 45)).drew.cell? ⟨b3,2,none⟩=some (.string en.eKw) from⟨Zg (aa _ _).drew t0,Zg (aa _ _).drew t1,Zg (aa _ _).drew t2⟩);have p1:=Qa (show Bx (W2.alloc (.cells #[.string en.eAt,.string en.eSch,.string en.eKw] 45)).drew w6.heap.size 22 v from n6);clear c0 i8 t0 t1 t2 hk hE hB hN d6 m9 r1 n6 i9 c3 e5 b0 hS k5 b1
  gi_wp2_with fail
  refine F7 (S:=fun w'=>w'.cell? ⟨w6.heap.size,0,none⟩=some v/\w'.cell? ⟨b3,0,none⟩=some (.string en.eAt)/\w'.cell? ⟨b3,1,none⟩=some (.string en.eSch)/\w'.cell? ⟨b3,2,none⟩=some (.string en.eKw)) (by kernel_rfl) (by kernel_rfl) 13 (HS.out) (fun a0=>?_);refine tZ 0 a0 ?_;refine tZ 1 a0 ?_;refine tZ 2 a0 ?_;refine tZ 3 a0 ?_;refine tZ 4 a0 ?_;refine tZ 5 a0 ?_
  try simp only[Act.put,jP,jQ,jR]
  refine tZ 6 a0 ?_;refine tZ 7 a0 ?_;refine tZ 8 a0 ?_;refine tZ 9 a0 ?_;refine tZ 10 a0 ?_
  try simp only[Act.put,jP,jQ,jR]
  refine rZ 11 fun K hK=>?_
  go_simp;have q6:=(show Below W2.heap.size W2 (W2.alloc (.cells #[.string en.eAt,.string en.eSch,.string en.eKw] 45)) from aa _ _);have q7:=(And.intro (Zg q6 HS.out.1) (And.intro (Zg q6 HS.out.2.1) (And.intro (Zg q6 HS.out.2.2.1) (Zg q6 HS.out.2.2.2))));clear q6;refine hK.out _ _ (fun _=>q7) (fun a0=>?_);clear hK K;have a0:=a0 (by decide)
  try simp only[Act.put,jP,jQ,jR]
  refine rZ 12 fun K hK=>?_
  refine xV tz i3.out o2.out b8.out ?_ (h1:=(by simp[dW,Value.oneCell'])) (hlen:=by have:=k6.out;unfold maxLen;omega) (hby:=by have:=k6.out;omega);intro v7 w7 h1 h2 h3;obtain⟨A7,q7,rfl,-⟩:=ag h1;have e6:=aF (Ze _ _) i3.out b8.out h2;have k7:=p1.out.below e6 (by omega);have S7:=And.intro k7.cell (And.intro (h2.cell f5.out.1 (fun e=>h6.out _ e.symm rfl)) (And.intro (h2.cell f5.out.2.1 (fun e=>h6.out _ e.symm rfl)) (h2.cell f5.out.2.2 (fun e=>h6.out _ e.symm rfl))));have p4:=Qa h1;have q1:=Qa h2;have i2:=Qa e6;have o0:=Qa k7;have c7:=k7.cell;have f7:=k7.frozen;clear h1 h2 h3 e6 k7;refine hK.out _ _ (fun _=>S7) (fun a0=>?_);clear hK K;have a0:=a0 (by decide)
  try simp only[Act.put,jP,jQ,jR]
  refine rZ 13 fun K hK=>?_
  go_simp;refine hK.out _ _ (fun h=>absurd rfl h) (fun _=>?_);clear hK K
  try simp only[Act.put,jP,jQ,jR]
  refine aK (by kernel_rfl) (NoPanic.normal ?_) _;obtain⟨-,-,hB,-⟩:=i5.out;refine⟨rfl,?_,?_,⟨_,o0.out.set _,?_⟩,?_,?_⟩
  ·exact(fB c1.out).trans ((KeepsOthers.alloc _ _).trans ((KeepsOthers.drew _).trans ((KeepsOthers.of_grownBy q1.out (fun j o e ho=>by
    obtain⟨-,cur,g7⟩:=ao i3.out e;rw[g7] at ho
    cases ho
    rfl)).trans (KeepsOthers.setCell ..))))
  ·exact(iw.of_below c1.out).t ((iw.of_below (aa _ _).drew).t ((iw.of_low i2.out).t (iw.set _ _)))
  ·rw[p2.out];unfold bG;rw[<-de,List.length_append];exact ownsRow_setCell_below p4.out (a:=⟨w6.heap.size,0,none⟩) (by show w6.heap.size<w6.heap.size+2;omega) _
  ·have h1:=hB.trans (c1.out.mono hB.size);have h2:=h1.trans (((aa W2 (.cells #[.string en.eAt,.string en.eSch,.string en.eKw] 45)).drew).mono h1.size);exact(h2.trans (i2.out.mono (Nat.le_add_right _ _))).setCell (p:=⟨w6.heap.size,0,none⟩) (Zb _) _
  ·rw[World.size_setCell];exact Zc b8.out i2.out.size
