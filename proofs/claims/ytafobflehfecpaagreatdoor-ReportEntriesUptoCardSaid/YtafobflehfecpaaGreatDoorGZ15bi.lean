import Derived.Test.YtafobflehfecpaaGreatDoorGZ15bh
set_option linter.unusedVariables false
set_option linter.unusedSimpArgs false
set_option maxHeartbeats 64000000
set_option maxRecDepth 100000
namespace Go.Proofs.YtafobflehfecpaaGreatDoor
open Go.RowKit Go.Shelf
variable {ns:List ByteArray}{ks:List JV}{us:List Value}{N base g i id n oc:Nat}{P:Nat->Prop}{A:Option Addr}{t2:TypeId}{nv u v:Value}{W W' X Y Z w w' w6:World}
structure Fx (ns:List ByteArray) (us:List Value) (ts ls:List ByteArray):Prop where
 len:ls.length=ts.length
 at_:∀ (i:Nat) t s,ts[i]?=some t->ls[i]?=some s->∃j,fT ns t j/\us[j]?=some (.iface 86 (.string s))
def D5 (l:List ByteArray)(w:World)(e:Ending)(w':World):Prop:= ∃v,e =.returned (.tuple #[v,.bool true])/\be w' w.heap.size v l/\Below w.heap.size w w'
theorem px {ts ls:List ByteArray}(h:eI P w A us ns ks)(hk:∀u∈us,∃T x,u =.iface T x)(hn:mo w nv ts)(hh:Fx ns us ts ls)(hl:ts.length=us.length) :
  Calls Tryz.prog 60 #[.iface 97 (.pointer A),nv] w (D5 ls w):=by
 obtain⟨hm,A2,c,rfl,-,hc⟩:=hn;have c3:=Qa (fun W=>Fw (.pointer A) W);have c5:=Qa (fun W (hb:Below w.heap.size w W)=>jg (h.below hb));have a9:=Qa (fun W (hb:Below w.heap.size w W) (i:Nat) t s (h1:ts[i]?=some t) (h2:ls[i]?=some s)=>show ∃u,u=Value.string s/\Calls Tryz.prog 55 #[.pointer A,.string t] W fun e w'=>e =.returned (.tuple #[.iface 86 u,.bool true])/\Below W.heap.size W w' from by
  obtain⟨j,h3,h4⟩:=hh.at_ i t s h1 h2;exact⟨_,rfl,oC (h.below hb) hk h3 h4 (by omega)⟩)
 have Hc:=Qa hc;have b2:=Qa hh.len;have hne:((us.length:Int) !=ts.length)=false:=by rw[hl];simp
 clear h hk hh hc hl;go_enter Tryz.func60,Tryz.ntmps60;go_wp2_with fail;refine(c3.out _).mono ?_;rintro e w1 ⟨rfl,b1⟩;have Hb1:=Qa b1;clear b1;go_wp2_with fail;refine(c5.out _ Hb1.out).mono ?_;rintro e w' ⟨rfl,rfl⟩;go_wp2_with fail
 go_loopg [8,31] ts.length (fun m s8 s31 wr=> ∃i:Nat,m+i=ts.length/\s31 =.int .i64 i/\Hid (be wr w.heap.size s8 (ls.take i))/\Hid (Below w.heap.size w wr))
 case atStart=>exact⟨0,rfl,rfl,Qa (by simpa [be] using World.ownsRow_nil ..),Hb1⟩
 case round=>
  clear Hb1;obtain⟨i,hi,rfl,HS,Hb⟩:=hrel;have Hi:=Qa hi
  by_cases hlt:i<ts.length
  ·have a3:(i:Int)<ts.length:=by omega
   obtain⟨t,ht⟩:∃t,ts[i]?=some t:=⟨_,Zd hlt⟩;have b5:=b2.out;obtain⟨s,hs⟩:∃s,ls[i]?=some s:=⟨_,Zd (by omega)⟩;obtain⟨g,o,rfl,k1⟩:=Hc.out i t ht;have c1:=Zg Hb.out k1;obtain⟨u,hu,hg⟩:=a9.out wr Hb.out i t s ht hs;have Hu:=Qa hu;have Hg:=Qa hg;have c0:=Qa (show ls.take (i+1)=ls.take i ++ [s] by
    obtain⟨h1,h3⟩:=List.getElem?_eq_some_iff.1 hs;rw[List.take_succ_eq_append_getElem h1,h3])
   have b3:=Qa (show(ls.take i).length=i by rw[List.length_take];omega);clear ht hs k1 hi hu hg b5;go_wp2_with fail;refine Za Hg ?_;rintro e w2 ⟨rfl,a2⟩;have c4:=Qa (ak Hb.out a2);have a0:=Qa (show be w2 w.heap.size u8 (ls.take i) from ai HS.out a2 (Zb _));clear a2 c1;go_wp2_with fail;refine(FS u w2).mono ?_;rintro e w3 ⟨rfl,a4⟩;have b4:=Qa (ak c4.out a4);have b9:=Qa (show be w3 w.heap.size u8 (ls.take i) from ai a0.out a4 (Zb _));clear a4;have hu:=Hu.out;subst hu;have a1:=Qa (show be (w3.alloc (.cells #[.string s] 9)) w.heap.size u8 (ls.take i) from ai b9.out (ac _ _) (Zb _));have a5:=Qa (ak b4.out (ac w3 (.cells #[.string s] 9)));unfold be at a1;rw[b3.out] at a1;clear Hu;go_wp2_with (at_builtin;refine kC lc a1.out (av w3 [cH s] 9) a5.out.size ?_ (h1:=(by simp[cH,Value.oneCell'])) (hlen:=by have:=Hi.out;unfold maxLen;omega) (hby:=by have:=Hi.out;omega);intro v' w5 p1 p2 p3;have c2:=Qa p1;have b8:=Qa (aJ a5.out a1.out a5.out.size p2);clear p1 p2 p3);go_roundg (ts.length - (i+1))
   case measure=>have:=Hi.out;omega
   case rel=>
    refine⟨i+1,by have:=Hi.out;omega,by go_num,Qa ?_,b8⟩;unfold be;rw[c0.out,List.map_append,List.length_append,b3.out];exact c2.out
  ·have a3:¬ (i:Int)<ts.length:=by omega
   have b0:=Qa (show ls.take i=ls by rw[List.take_of_length_le];have:=b2.out;omega);have a0:=Qa (show be wr w.heap.size u8 ls by have:=HS.out;rw[b0.out] at this;exact this);obtain⟨A3,q,rfl,-⟩:=af a0.out;clear hi HS b0;go_wp2_with fail;go_ret2;exact⟨_,rfl,a0.out,Hb.out⟩
end Go.Proofs.YtafobflehfecpaaGreatDoor
namespace Go.Proofs.YtafobflehfecpaaGreatDoor
variable {ns:List ByteArray}{ks:List JV}{us:List Value}{N base g i id n oc:Nat}{P:Nat->Prop}{A:Option Addr}{t2:TypeId}{nv u v:Value}{W W' X Y Z w w' w6:World}
variable {P:Program}{ops:Array Oper}{Q:Exit->Act->World->Prop}
def o3 (ops:Array Oper):Bool:=ops.all fun o=>match o.op with | .defer _=>false|_=>true
theorem tf {o:Oper}(h:o3 ops=true)(ho:ops[i]?=some o)(c:_):o.op≠ .defer c:=by
 intro e;obtain⟨hi,ho⟩:=Array.getElem?_eq_some_iff.1 ho;have:=(Array.all_eq_true.1 h) i hi;rw[ho,e] at this
 cases this
theorem ue {l:Nat}(hd:o3 ops=true)(hL:¬LetsOut Q):∀ (L:List Nat) (a:Act) (w:World),wpOps P ops Q L a w->wpOpsIn (Fence.wide.inRound l) n P ops Q L a w:=by
 intro L
 induction L with
 |nil=>intro a w h;exact h
 |cons i rest ih=>
  intro a w h;unfold wpOps at h;unfold wpOpsIn
  cases ho:ops[i]? with
  |none=>simp only[ho] at h ⊢;exact ih _ _ h
  |some o=>
   simp only[ho] at h ⊢
   split at h
   ·rename_i hw
    rw[if_pos hw];refine⟨fun _ _=>trivial,?_⟩;rcases h with h|⟨-,h⟩
    ·rw[Fence.inRound_round,Oper.semAt_some l a.eval o (tf hd ho)];unfold Oper.wp at h;generalize (execOp a.eval o).run P w=r at *
     cases r with
     |ok x w'=>
      cases x <;> simp only[Oper.upon] at h <;> simp only[Oper.uponIn]
      case value=>exact ih _ _ h
      case skip=>exact ih _ _ h
      case defer=>exact ih _ _ h
      case enter f args=>exact⟨fun h'=>(by cases h'),CallsIn.inRound l (callsIn_wide.2 (h.mono fun e w'' he=>by cases e <;> first|exact ih _ _ he|exact he))⟩
      case row=>exact⟨fun h'=>(by cases h'),fun c cs _=>by
       obtain⟨v,w'',h1,h2⟩:=h c cs;exact⟨v,w'',ih _ _ h1,stepsIn_wide.2 h2⟩⟩
     |halt x w'=>
      cases x <;> simp only[Oper.upon] at h <;> simp only[Oper.uponIn] <;> exact h
    ·exact absurd h hL
   ·rename_i hw
    rw[if_neg hw];exact⟨fun _ _=>trivial,ih _ _ h⟩
theorem FX {l:Nat}{a:Act}{S:World->Prop}(hm:P.follows .mixedOrders=true)(hd:o3 ops=true)(z:Nat)(hS:S w.drew)
  (h:S w.drew->bG P .any ops (NoPanic (fun e a w=>e =.normal/\Q .normal a w)) S z ops.size (Array.replicate ops.size false) a w.drew):(Code.region id ops true).wpIn (Fence.wide.inRound l) n P Q a w:=by
 have h2:(Code.region id ops true).wpIn (Fence.wide.inRound l) n P (NoPanic (fun e a w=>e =.normal/\Q .normal a w)) a w:=
  wpIn_region_draw fun t=>by
   simp only[Region.schedule,hm,Bool.true_or,if_true];exact ue hd (fun ⟨a,w,h⟩=>by first|cases h.1|cases h) _ _ _ (wpAny_sound ops.size t _ a _ (ix _ _ _ _ (h hS)))
 exact Code.wpIn_mono (fun e a w h3=>by obtain⟨rfl,h4⟩:=NoPanic.imp e a w h3;exact h4) h2
end Go.Proofs.YtafobflehfecpaaGreatDoor
namespace Go.Proofs.YtafobflehfecpaaGreatDoor
open Go.RowKit Go.Shelf
variable {ns:List ByteArray}{ks:List JV}{us:List Value}{N base g i id n oc:Nat}{P:Nat->Prop}{A:Option Addr}{t2:TypeId}{nv u v:Value}{W W' X Y Z w w' w6:World}
attribute [local go_sem] Oper.semAt_some
structure mj (w:World):Prop where
 lr:mx w
 lw:wR w
 env:∃aU aE,pr w aU aE
 may:jx w
 eNil:a6 w 1
theorem mj.below (h:mj w)(hb:Below w.heap.size w w'):mj w':=by
 obtain⟨h1,h2,⟨aU,aE,h3⟩,h4,h5⟩:=h;exact⟨h1.below hb,h2.below hb,⟨aU,aE,h3.below hb⟩,h4.below hb,h5.below hb⟩
theorem VW.asText {s:ByteArray}(h:VW P w v (aY s)):v =.iface 86 (.string s):=by
 cases h with
 |text=>rfl
theorem DT:eC iC/\eC ij/\eC iD/\eC nh/\eC mh:=⟨⟨bg.1,by decide⟩,⟨bg.2.1,by decide⟩,⟨bg.2.2.1,by decide⟩,⟨bg.2.2.2.1,by decide⟩,⟨bg.2.2.2.2,by decide⟩⟩
theorem vM:fT [nh,mh] nh 0/\fT [nh,mh] mh 1:=by
 obtain⟨-,-,-,h4,h5⟩:=DT;have e0:aI (nm nh) (nm nh)=0:=rfl;have e1:aI (nm nh) (nm mh) = -1:=rfl;have e2:aI (nm mh) (nm nh)=1:=rfl;have e3:aI (nm mh) (nm mh)=0:=rfl;refine⟨⟨rfl,?_,?_,?_⟩,⟨rfl,?_,?_,?_⟩⟩
 all_goals first
  |(intro n hn;simp only[List.mem_cons,List.mem_nil_iff,or_false] at hn;rcases hn with rfl|rfl <;> assumption)
  |(intro i n hn hi;match i,hn with
    |0,hn=>(obtain rfl:=Zi hn;omega)
    |1,hn=>(obtain rfl:=Zi hn;omega))
theorem oD:fT [iC,ij,iD] iC 0/\fT [iC,ij,iD] ij 1/\fT [iC,ij,iD] iD 2:=by
 obtain⟨h1,h2,h3,-,-⟩:=DT;have a0:aI (nm iC) (nm iC)=0:=rfl;have a1:aI (nm iC) (nm ij) = -1:=rfl;have a2:aI (nm iC) (nm iD) = -1:=rfl;have b0:aI (nm ij) (nm iC)=1:=rfl;have b1:aI (nm ij) (nm ij)=0:=rfl;have b2:aI (nm ij) (nm iD) = -1:=rfl;have c0:aI (nm iD) (nm iC)=1:=rfl;have c1:aI (nm iD) (nm ij)=1:=rfl;have c2:aI (nm iD) (nm iD)=0:=rfl;refine⟨⟨rfl,?_,?_,?_⟩,⟨rfl,?_,?_,?_⟩,⟨rfl,?_,?_,?_⟩⟩
 all_goals first
  |(intro n hn;simp only[List.mem_cons,List.mem_nil_iff,or_false] at hn;rcases hn with rfl|rfl|rfl <;> assumption)
  |(intro i n hn hi;match i,hn with
    |0,hn=>(obtain rfl:=Zi hn;omega)
    |1,hn=>(obtain rfl:=Zi hn;omega)
    |2,hn=>(obtain rfl:=Zi hn;omega))
theorem wV {e:En}(h:VW P w u (ee e))(hn:mo w nv [iC,iD,ij]):∃A,u =.iface 97 (.pointer A)/\Calls Tryz.prog 60 #[.iface 97 (.pointer A),nv] w fun r w'=>D5 [e.eAt,e.eSch,e.eKw] w r w':=by
 obtain⟨A,us,rfl,ho,hk⟩:=VW.asObj (t:=false) (x:=es) (d:=⟨false,es,0⟩) (ns:= [iC,ij,iD]) (ks:= [aY e.eAt,aY e.eKw,aY e.eSch]) h;obtain⟨g,R,c,-,-,-,hl,-⟩:=id ho
 match us,hl,hk,ho with
 | [u0,u1,u2],_,hk,ho=>
  obtain rfl:=(hk 0 u0 _ rfl rfl).asText;obtain rfl:=(hk 1 u1 _ rfl rfl).asText;obtain rfl:=(hk 2 u2 _ rfl rfl).asText;refine⟨A,rfl,px ho (fun u hu=>?_) hn ⟨rfl,fun i t s h1 h2=>?_⟩ rfl⟩
  ·simp only[List.mem_cons,List.mem_nil_iff,or_false] at hu;rcases hu with rfl|rfl|rfl <;> exact⟨_,_,rfl⟩
  ·match i,h1,h2 with
   |0,h1,h2=>(obtain rfl:=Zi h1;obtain rfl:=Zi h2;exact⟨0,oD.1,rfl⟩)
   |1,h1,h2=>(obtain rfl:=Zi h1;obtain rfl:=Zi h2;exact⟨2,oD.2.2,rfl⟩)
   |2,h1,h2=>(obtain rfl:=Zi h1;obtain rfl:=Zi h2;exact⟨1,oD.2.1,rfl⟩)
attribute [local go_sem] Oper.semAt_some
def Cn (oc:Nat)(l:List En)(w:World)(e:Ending)(w':World):Prop:= ∃u,e =.returned (.tuple #[.int .i64 oc,u,.bool true])/\bS w' w.heap.size u l/\Below w.heap.size w w'
def l7 (N g:Nat)(X Y:World):Prop:= ∀k cs t z,k<N->k≠g->X.heap[k]?=some (.cells cs t z)->Y.heap[k]?=some (.cells cs t z)
theorem l7.t (h:l7 N g X Y)(k:l7 N g Y Z):l7 N g X Z:=fun i cs t z hi hc he=>k i cs t z hi hc (h i cs t z hi hc he)
theorem l7.b (W:World)(l:Nat)(o o':Obj)(h:W.heap[l]?=some o)(ho:o.isCells=false):l7 N g W (W.putObj l o'):=fun k cs t z _ _ hc=>by
 have:k≠l:=by rintro rfl;rw[h] at hc;cases hc;simp[Obj.isCells] at ho
 exact(World.putObj_heap_other this).trans hc
theorem l7.of_below (h:Below W.heap.size W W'):l7 N g W W':=fun k cs t z _ _ hc=>(h.block k (ag hc)).trans hc
theorem l7.of_low (h:Below N W W'):l7 N g W W':=fun k cs t z hk _ hc=>(h.block k hk).trans hc
theorem l7.set (W:World)(u:Value):l7 N g W (W.setCell ⟨g,0,none⟩ u):=fun k cs t z _ hk hc=>(Below.heap_setCell W ⟨g,0,none⟩ u k hk).trans hc
def ft (l:List En)(n:Nat)(h:n=l.length)(pre:List (Fin n)):List En:=pre.map fun i=>l[i.val]'(h▸i.isLt)
theorem xX (l:List En)(n:Nat)(h:n=l.length):ft l n h (List.finRange n)=l:=by
 subst h;unfold ft;apply List.ext_getElem (by simp);intro i h1 h2;simp
theorem t7 (l:List En)(n:Nat)(h:n=l.length)(pre:List (Fin n))(x:Fin n):ft l n h (pre ++ [x])=ft l n h pre ++ [l[x.val]'(h▸x.isLt)]:=by simp[ft]
theorem wF (l:List En)(n:Nat)(h:n=l.length)(pre:List (Fin n)):(ft l n h pre).length=pre.length:=by simp[ft]
def DW (w6:World)(l:List En)(n:Nat)(h:n=l.length)(pre:List (Fin n))(W:World):Prop:=(∃v,Bx W w6.heap.size 22 v/\bS W (w6.heap.size+2) v (ft l n h pre))/\Below w6.heap.size w6 W/\w6.heap.size+2<=W.heap.size
theorem bS.kept {l:List En}{row:Option Nat}(h:bS w base v l)(hg:w.grownBy w' row)(hr:∀r,row=some r->∃o:Obj,w.heap[r]?=some o/\o.isCells=false):bS w' base v l:=by
 refine World.ownsRow.kept h hg ?_
 cases hv:v.ownBlock with
 |none=>exact .inl rfl
 |some k=>
  refine .inr fun e=>?_
  obtain⟨o,ho,hc⟩:=hr k e.symm;obtain⟨-,cur,a0⟩:=al h hv;rw[a0] at ho
  cases ho
  simp[Obj.isCells] at hc
theorem zX {l:List En}{D qv:Nat}{Av:Option Addr}{z2 z3 z4:Value}{t3 t4:TypeId}(hE:bS W (w6.heap.size+2) (.slice Av l.length qv) l)(hB:Below w6.heap.size w6 W)(hK:W.heap[D]?=some (.deferred (some [])))(hz:w.heap.size+3<=w6.heap.size)(hD:w6.heap.size<D)
  (b2:Bx W w.heap.size t2 z2) (b3:Bx W (w.heap.size+1) t3 z3) (b4:Bx W (w.heap.size+2) t4 z4) (hw:Below w.heap.size w W) {x y z:Value} {W2:World} (h2:(((W.setCell ⟨w.heap.size,0,none⟩ x).setCell ⟨w.heap.size+1,0,none⟩ y).setCell ⟨w.heap.size+1+1,0,none⟩ z).drew=W2) :
  W2.heap[D]?=some (.deferred (some []))/\(W2.putObj D (.deferred none)).cell? ⟨w.heap.size,0,none⟩=some x/\(W2.putObj D (.deferred none)).cell? ⟨w.heap.size+1,0,none⟩=some y/\(W2.putObj D (.deferred none)).cell? ⟨w.heap.size+1+1,0,none⟩=some z/\
   bS (W2.putObj D (.deferred none)) w.heap.size (.slice Av l.length qv) l/\Below w.heap.size w (W2.putObj D (.deferred none)):=by
 have k2:Bx W2 w.heap.size t2 x:=h2▸((b2.set x).far (p:=⟨w.heap.size+1,0,none⟩) (by simp) y).far (p:=⟨w.heap.size+1+1,0,none⟩) (by show w.heap.size≠w.heap.size+1+1;omega) z;have k3:Bx W2 (w.heap.size+1) t3 y:=h2▸((b3.far (p:=⟨w.heap.size,0,none⟩) (by simp) x).set y).far (p:=⟨w.heap.size+1+1,0,none⟩) (by simp) z;have k4:Bx W2 (w.heap.size+1+1) t4 z:=h2▸((b4.far (p:=⟨w.heap.size,0,none⟩) (by simp) x).far (p:=⟨w.heap.size+1,0,none⟩) (by simp) y).set z;have a0:W2.heap[D]?=some (.deferred (some [])):=h2▸(Below.heap_setCell _ ⟨w.heap.size+1+1,0,none⟩ z D (by show D≠w.heap.size+1+1;omega)).trans ((Below.heap_setCell _ ⟨w.heap.size+1,0,none⟩ y D (by show D≠w.heap.size+1;omega)).trans ((Below.heap_setCell W ⟨w.heap.size,0,none⟩ x D (by show D≠w.heap.size;omega)).trans hK));have a1:bS W2 (w6.heap.size+2) (.slice Av l.length qv) l:=h2▸ownsRow_setCell_below (ownsRow_setCell_below (ownsRow_setCell_below hE (a:=⟨w.heap.size,0,none⟩) (by show w.heap.size<_;omega) x) (a:=⟨w.heap.size+1,0,none⟩) (by show w.heap.size+1<_;omega) y) (a:=⟨w.heap.size+1+1,0,none⟩) (by show w.heap.size+1+1<_;omega) z;have hg:=grownBy_putObj' W2 D (.deferred none);have hr:∀r,some D=some r->∃o:Obj,W2.heap[r]?=some o/\o.isCells=false:=fun r e=>by cases e;exact⟨_,a0,rfl⟩
 refine⟨a0,(k2.kept hg hr).cell,(k3.kept hg hr).cell,(k4.kept hg hr).cell,bp (a1.kept hg hr) (by omega),?_⟩;have h1:Below w.heap.size w W2:=h2▸(((hw.setCell (p:=⟨w.heap.size,0,none⟩) (Zb _) x).setCell (p:=⟨w.heap.size+1,0,none⟩) (by simp) y).setCell (p:=⟨w.heap.size+1+1,0,none⟩) (by show w.heap.size<=w.heap.size+1+1;omega) z).drew;exact h1.grown hg h1.size (fun k e=>by cases e;omega)
theorem zf (ho:oc<6)(h:cJ[i]?=some (bA oc))(hj:∀j,j<i->cJ[j]?≠some (bA oc)):i=oc:=by
 have hi:i<6:=(List.getElem?_eq_some_iff.1 h).1;have hw:cJ[oc]?=some (bA oc):=by
  unfold bA;rw[List.getD_eq_getElem?_getD,Zd (by exact ho)];rfl
 have h2:¬oc<i:=fun hlt=>hj oc hlt hw
 rcases Nat.lt_or_ge i oc with hlt|a0
 ·exfalso
  have hd:cJ.Nodup:=by decide
  have e:cJ[i]?=cJ[oc]?:=h.trans hw.symm;rw[Zd (by exact hi),Zd (by exact ho)] at e;have:=(List.getElem_inj (h₀:=hi) (h₁:=ho) hd).1 (Zi e);omega
 ·omega
theorem Bn {l:List En}(hA:mj w)(hv:Bs w v (cm oc l).txt)(hl:(cm oc l).txt.length<=1000000000)(e5:∀e∈l,ff e)(ho:1<=oc/\oc<6)(hn:l.length<=1000000) :
  Calls Tryz.prog 25 #[v] w (Cn oc l w):=by
 obtain⟨aU,aE,hE⟩:=hA.env;have h0:0< (cm oc l).txt.length:=by
  rw[List.length_pos_iff];intro e;have:=il (lB (o:=oc) e5);rw[e] at this
  cases this
 have b1:=Qa (fun W (hb:Below w.heap.size w W)=>xU (hE.below hb) (hA.may.below hb) (hv.below hb) h0 hl (il (lB (o:=oc) e5)));have HA:=Qa hA;have Ho:=Qa ho;have Hn:=Qa hn;clear hE h0 hA hv hl e5 ho hn;refine(callsIn_wide (n:=9)).1 ?_;refine callsIn_of_wp_marks Tryz.func25 rfl trivial ?_ rfl;simp only[Tryz.ntmps25,List.size_toArray,List.length_cons,List.length_nil,Nat.reduceAdd,Nat.reduceSub,Array.replicate_succ,Array.replicate_zero,List.push_toArray,List.append_toArray,List.nil_append,List.cons_append];have c5:=Qa (show Below w.heap.size w (((w.alloc (.cells #[.int .i64 0] 3)).alloc (.cells #[.slice none 0 0] 22)).alloc (.cells #[.bool false] 4)) from ak (ak (ac _ _) (ac _ _)) (ac _ _));have k2:=Qa ((((Bx.new w 3 (.int .i64 0)).alloc (.cells #[.slice none 0 0] 22)).alloc (.cells #[.bool false] 4)));have k5:=Qa (show Bx (((w.alloc (.cells #[.int .i64 0] 3)).alloc (.cells #[.slice none 0 0] 22)).alloc (.cells #[.bool false] 4)) (w.heap.size+1) 22 (.slice none 0 0) from by
  have:=(Bx.new (w.alloc (.cells #[.int .i64 0] 3)) 22 (.slice none 0 0)).alloc (.cells #[.bool false] 4)
  rwa[World.size_alloc] at this)
 have m2:=Qa (show Bx (((w.alloc (.cells #[.int .i64 0] 3)).alloc (.cells #[.slice none 0 0] 22)).alloc (.cells #[.bool false] 4)) (w.heap.size+2) 4 (.bool false) from by
  have:=(Bx.new ((w.alloc (.cells #[.int .i64 0] 3)).alloc (.cells #[.slice none 0 0] 22)) 4 (.bool false))
  rwa[World.size_alloc,World.size_alloc] at this)
 have Hz:=Qa (show(((w.alloc (.cells #[.int .i64 0] 3)).alloc (.cells #[.slice none 0 0] 22)).alloc (.cells #[.bool false] 4)).heap.size=w.heap.size+3 by simp)
 gi_wp2_with fail
 generalize (((w.alloc (.cells #[.int .i64 0] 3)).alloc (.cells #[.slice none 0 0] 22)).alloc (.cells #[.bool false] 4))=w0 at *;refine⟨trivial,?_⟩;refine(callsIn_wide.2 (b1.out w0 c5.out)).mono ?_;rintro e w1 ⟨u,rfl,m0,k1⟩;obtain⟨A,us,rfl,hob,hk⟩:=VW.asObj (t:=false) (x:=es) (d:=⟨false,es,0⟩) (ns:= [nh,mh]) (ks:= [cD (l.map ee),aY (bA oc)]) k1;obtain⟨u0,u1,rfl⟩:∃u0 u1,us = [u0,u1]:=by
  obtain⟨g,R,c,-,-,-,hlen,-⟩:=id hob
  match us,hlen with
  | [u0,u1],_=>exact⟨u0,u1,rfl⟩
 obtain rfl:=(hk 1 u1 _ rfl rfl).asText;obtain⟨A2,us,rfl,i5,hkl⟩:=VW.asList (t:=false) (x:=es) (d:=⟨false,es,0⟩) (ns:= []) (ks:=l.map ee) (hk 0 u0 _ rfl rfl);have k9:∀u∈ [Value.iface 106 (.pointer A2),.iface 86 (.string (bA oc))],∃T x,u =.iface T x:=by
  intro u hu;simp only[List.mem_cons,List.mem_nil_iff,or_false] at hu;rcases hu with rfl|rfl <;> exact⟨_,_,rfl⟩
 have d6:=Qa hob;have g0:=Qa k9;have e1:=Qa (And.intro i5 hkl);have a9:=Qa m0;clear k1 hob hk k9 i5 hkl m0 b1;generalize hwd:bA oc=wd at *;have h9:=Qa hwd;clear hwd
 gi_wp2_with fail
 refine⟨trivial,?_⟩;refine(callsIn_wide.2 (Fw (.pointer A) w1)).mono ?_;rintro e w2 ⟨rfl,d0⟩;have e4:=Qa d0;clear d0
 gi_wp2_with fail
 refine⟨trivial,?_⟩;refine(callsIn_wide.2 (jg (d6.out.below e4.out))).mono ?_;rintro e w' ⟨rfl,rfl⟩
 gi_wp2_with fail
 refine⟨trivial,?_⟩;refine(callsIn_wide.2 (oC (d6.out.below e4.out) g0.out vM.2 rfl (by simp))).mono ?_;rintro e w3 ⟨rfl,a5⟩;have c0:=Qa (ak e4.out a5);clear a5
 gi_wp2_with fail
 refine⟨trivial,?_⟩;refine(callsIn_wide.2 (FS (.string wd) w3)).mono ?_;rintro e w4 ⟨rfl,l3⟩;have d9:=Qa (ak c0.out l3);clear l3
 gi_wp2_with fail
 have m4:=Qa ((HA.out.below (ak c5.out (ak a9.out d9.out))).lr);have k8:=Qa (show Calls Tryz.prog 57 #[.slice (some ⟨2,0,none⟩) 6 6,.string wd] w4 fun e w'=>FB cJ wd w4 e w' from jO (l:=cJ) (by decide) (fun i a ha=>⟨_,0,rfl,by rw[Nat.zero_add];exact m4.out.words i a ha⟩));refine⟨trivial,?_⟩;refine(callsIn_wide.2 k8.out).mono ?_;rintro e w' ⟨rfl,z,rfl,hz⟩;obtain rfl:z=oc:=by
  have m3:=Ho.out;rcases hz with ⟨i,rfl,h1,h2⟩|⟨-,h1⟩
  ·rw[<-h9.out] at h1 h2;rw[zf m3.2 h1 h2]
  ·exact absurd (show wd∈cJ from by
    rw[<-h9.out];unfold bA;rw[List.getD_eq_getElem?_getD,Zd (by exact m3.2)];exact List.getElem_mem _) h1
 have r4:¬ (oc:Int)<1:=by have:=Ho.out;omega
 clear hz m4 k8
 gi_wp2_with fail
 refine⟨trivial,?_⟩;refine(callsIn_wide.2 (oC (d6.out.below d9.out) g0.out vM.1 rfl (by simp))).mono ?_;rintro e w5 ⟨rfl,n5⟩;have i9:=Qa (ak d9.out n5);clear n5
 gi_wp2_with fail
 refine⟨trivial,?_⟩;refine(callsIn_wide.2 (GJ (.pointer A2) w5)).mono ?_;rintro e w6 ⟨rfl,m5⟩;have a3:=Qa (ak i9.out m5);clear m5
 gi_wp2_with fail
 have i4:=Qa (fun W (hb:Below w6.heap.size w6 W) (i:Nat) (u:Value) (e:En) (h1:us[i]?=some u) (h2:l[i]?=some e)=>show VW (w0.heap.size<= ·) W u (ee e) from(e1.out.2 i u (ee e) h1 (by rw[List.getElem?_map,h2];rfl)).later (ak a3.out hb));have k4:us.length=l.length:=by have:=e1.out.1.len;simpa using this
 have d5:=Qa (e1.out.1.below a3.out);have n9:=Qa ((HA.out.below (ak c5.out (ak a9.out a3.out))).lw.pow);have c8:=Qa (ak c5.out (ak a9.out a3.out));have j0:w.heap.size+3<=w6.heap.size:=by have h1:=Hz.out;have h2:=(ak a9.out a3.out).size;omega
 have m1:=Qa (k2.out.later (ak a9.out a3.out));have l2:=Qa (k5.out.later (ak a9.out a3.out));have k3:=Qa (m2.out.later (ak a9.out a3.out));have p1:=Qa j0;have o2:=Qa k4;clear k2 k5 m2 c5 a9 e4 c0 d9 i9 a3 e1 d6 g0 HA h9 Hz k4 j0;refine⟨trivial,?_⟩;refine(callsIn_wide.2 jz).mono ?_;rintro e w8 ⟨rfl,rfl⟩;have h8:=ac w6 (.cells #[.slice none 0 0] 22);have f8:=Bx.new w6 22 (.slice none 0 0);obtain⟨wA,i3⟩:∃wA,w6.alloc (.cells #[.slice none 0 0] 22)=wA:=⟨_,rfl⟩;have d3:wA.heap.size=w6.heap.size+1:=by rw[<-i3];simp
 rw[i3] at h8 f8 ⊢;clear i3;have e3:=ac wA (.cells #[.iface 106 (.pointer A2)] 174);have f5:=Zf wA (.cells #[.iface 106 (.pointer A2)] 174);obtain⟨W1,g8⟩:∃W1,wA.alloc (.cells #[.iface 106 (.pointer A2)] 174)=W1:=⟨_,rfl⟩;have c9:W1.heap.size=wA.heap.size+1:=by rw[<-g8];simp
 rw[g8] at e3 f5 ⊢;clear g8;have p2:us.length= (gD us).length:=(gp us).symm;have k0:(gD us).length=l.length:=by rw[gp];exact o2.out
 have f0:=Qa (show DW w6 l (gD us).length k0 [] W1 from⟨⟨_,f8.later e3,by
  show bS W1 (w6.heap.size+2) (.slice none 0 0) []
  exact bS.nil _ _⟩,ak h8 e3,by omega⟩)
 have c4:=Qa c9;have a2:=Qa d3;have q5:=Qa f5;have b9:=Qa k0;have r0:=Qa d5.out.bd;clear h8 f8 e3 f5 c9 d3 p2
 gi_wp2
 have b5:∀X,l7 (w6.heap.size+2) w6.heap.size W1 X->Fj w6 X:=fun X hX g cs t z hg=>hX g cs t z (by have:=ag hg;omega) (by have:=ag hg;omega) ((f0.out.2.1.block g (ag hg)).trans hg)
 have c6:SeqStopsK Fence.wide (9 - 1) Tryz.prog 97 #[.pointer (some ⟨wA.heap.size,0,none⟩)] (fun x:Fin (gD us).length=> #[.string ((gD us).get x).1,((gD us).get x).2]) (l7 (w6.heap.size+2) w6.heap.size) (fun ys=>ys=List.finRange (gD us).length) (fun _=>True) (gD us).length W1:=by
  intro l J Jx W hW hJ r2 hY h0;refine qk (9 - 1) (by omega) l wA.heap.size A2 (gD us) (by rw[gp];exact r0.out) (l7 (w6.heap.size+2) w6.heap.size) (fun _ _ h=>l7.of_below h) (l7 (w6.heap.size+2) w6.heap.size W1) (fun X Y h1 h2=>h1.t h2) (fun X hX=>?_) (fun X hX=>?_) (fun X k hX=>?_) J Jx W (l7.of_below hW) hJ r2 hY h0
  ·exact aa (hX _ _ _ _ (by have:=a2.out;omega) (by have:=a2.out;omega) q5.out) (j:=0) rfl
  ·rw[gp];exact jU (d5.out.kp (b5 X hX))
  ·obtain⟨u,hu,he⟩:=o1 us k;rw[he];exact iy (d5.out.kp (b5 X hX)) (n9.out.kp (b5 X hX)) k.val hu
 have c2:=Qa c6;clear b5 c6;refine wpIn_rangeFunc_ownF rfl (by omega) (gf:=97) (lb:= #[.pointer (some ⟨wA.heap.size,0,none⟩)]) (by simp[Act.eval]) trivial (enters_of Tryz.func97 (by kernel_rfl) rfl)
  c2.out
  (fun h k=>h.t k) (fun W l o o' _ h ho _=>l7.b W l o o' h ho) (Ze _ _) (fun _=>rfl)
  (DW w6 l (gD us).length b9.out) (fun _ _ _=>False) ?hI ?hIx f0.out ?a1 ?assign ?body ?done ?stop
 case assign=>
  intro l x W K hK
  gi_wp2
  exact hK
 case hI=>
  intro s A B row hs hg hr;obtain⟨⟨v,h1,h2⟩,h3,h4⟩:=hs;exact⟨⟨v,h1.kept hg (fun r e=>(hr r e).2),h2.kept hg (fun r e=>(hr r e).2)⟩,h3.grown hg h3.size (fun k e=>by have:=(hr k e).1;have:=c4.out;have:=a2.out;omega),Zc h4 hg.size⟩
 case hIx=>exact fun _ _ _ _ _ hs _ _=>hs
 case stop=>
  rintro D c pre W hD _ h _;exact h.elim
 case done=>
  rintro D ys W hD rfl ⟨⟨v,hk,hE⟩,hB,-⟩ hK;rw[xX] at hE;obtain⟨Av,qv,rfl,-⟩:=af hE;have hz:=p1.out;have c3:w6.heap.size<D:=by have:=c4.out;have:=a2.out;omega
  have b2:=m1.out.later hB;have b3:=l2.out.later hB;have b4:=k3.out.later hB;have d1:=c8.out.trans (hB.mono c8.out.size);have d2:=Qa (And.intro hk (And.intro hE (And.intro hB (And.intro hK (And.intro hz (And.intro c3 (And.intro b2 (And.intro b3 (And.intro b4 d1)))))))));have q2:=b2.cell;have q3:=b3.cell;have q4:W.cell? ⟨w.heap.size+1+1,0,none⟩=some (.bool false):=b4.cell;have f2:=b2.frozen;have f3:=b3.frozen;have f4:W.frozen? ⟨w.heap.size+1+1,0,none⟩=false:=b4.frozen;have b5:=hk.cell;have n1:w6.heap.size≠w.heap.size:=by omega
  have n2:w6.heap.size≠w.heap.size+1:=by omega
  have n3:w6.heap.size≠w.heap.size+2:=by omega
  clear hk hE hB hK hz c3 b2 b3 b4 d1 m1 l2 k3 i4 d5 n9 c2 f0 hD
  gi_wp2_with fail
  refine wpIn_wide.2 ?_;refine bm (fun w'=>w'.cell? ⟨w6.heap.size,0,none⟩=some (.slice Av l.length qv)) (b5) fun a0=>?_
  refine tH 0 a0 ?_;refine tH 1 a0 ?_
  try simp only[Act.put,jP,jQ,jR]
  refine rH 2 fun K hK=>?_
  go_simp;refine hK.out _ _ ((World.cell?_of_block (Below.heap_setCell _ ⟨w.heap.size,0,none⟩ _ w6.heap.size n1)).trans a0) (fun a0=>?_);clear hK K
  try simp only[Act.put,jP,jQ,jR]
  refine rH 3 fun K hK=>?_
  go_simp;refine hK.out _ _ ((World.cell?_of_block (Below.heap_setCell _ ⟨w.heap.size+1,0,none⟩ _ w6.heap.size n2)).trans a0) (fun a0=>?_);clear hK K
  try simp only[Act.put,jP,jQ,jR]
  refine rH 4 fun K hK=>?_
  go_simp;refine hK.out _ _ ((World.cell?_of_block (Below.heap_setCell _ ⟨w.heap.size+2,0,none⟩ _ w6.heap.size n3)).trans a0) (fun a0=>?_);clear hK K
  try simp only[Act.put,jP,jQ,jR]
  refine wpAnyH_done (by kernel_rfl) (NoPanic.normal ?_) _;obtain⟨hk,hE,hB,hK,hz,c3,b2,b3,b4,d1⟩:=d2.out;obtain⟨g1,g2,g3,g4,g5,g6⟩:=zX hE hB hK hz c3 b2 b3 b4 d1 (x:=.int .i64 oc) (y:=.slice Av l.length qv) (z:=.bool true) rfl;have G:=Qa (And.intro g1 (And.intro g2 (And.intro g3 (And.intro g4 (And.intro g5 g6)))));clear hk hE hB hK hz c3 b2 b3 b4 d1 g1 g2 g3 g4 g5 g6 q2 q3 q4 f2 f3 f4 b5 n1 n2 n3 d2
  gi_wp2
  generalize (((W.setCell ⟨w.heap.size,0,none⟩ (.int .i64 oc)).setCell ⟨w.heap.size+1,0,none⟩ (.slice Av l.length qv)).setCell ⟨w.heap.size+1+1,0,none⟩ (.bool true)).drew=W2 at *;obtain⟨g1,g2,g3,g4,g5,g6⟩:=G.out;refine⟨by simp,.inl ⟨_,_,rfl,run_takeDeferred g1,?_⟩⟩;refine⟨.tuple #[.int .i64 oc,.slice Av l.length qv,.bool true],?_,_,rfl,g5,g6⟩;simp[results,Tryz.results25,go_sem,g2,g3,g4]
 case body=>
  rintro lp pre x W ⟨⟨v,hk,hE⟩,hB,hN⟩ q1;obtain⟨u,hu,he⟩:=o1 us x;have n6:(gD us)[x.val]'x.isLt= (⟨(Lib.itoa x.val).toArray⟩,u):=he;have i0:=b9.out;have f1:x.val<l.length:=by have:=x.isLt;omega
  obtain⟨en,f6⟩:∃en,l[x.val]'(f1)=en:=⟨_,rfl⟩;have k6:=i4.out W hB x.val u en hu (by rw[Zd f1,f6]);have f9:=ac W (.cells #[.string iC,.string iD,.string ij] 9);have e0:=Zf W (.cells #[.string iC,.string iD,.string ij] 9);obtain⟨Ax,rfl,b0⟩:=wV (nv:=.slice (some ⟨W.heap.size,0,none⟩) 3 3) (k6.later f9) ⟨by decide,_,3,rfl,by decide,fun i a ha=>by
   match i,ha with
   |0,ha=>(obtain rfl:=Zi ha;exact⟨W.heap.size,0,rfl,aa e0 (j:=0) rfl⟩)
   |1,ha=>(obtain rfl:=Zi ha;exact⟨W.heap.size,0,rfl,aa e0 (j:=1) rfl⟩)
   |2,ha=>(obtain rfl:=Zi ha;exact⟨W.heap.size,0,rfl,aa e0 (j:=2) rfl⟩)⟩
  have a4:=Qa b0;have i8:=Qa (And.intro hk (And.intro hE (And.intro hB hN)));have q8:=Qa (show ft l (gD us).length b9.out (pre ++ [x])=ft l (gD us).length b9.out pre ++ [en] by rw[t7,f6]);have l0:=Qa (show(ft l (gD us).length b9.out pre).length<=1000000 by rw[wF];have:=Hn.out;omega);clear q1;generalize ft l (gD us).length b9.out pre=lp0 at *;rw[n6];clear hu he n6 i0 f1 f6 k6 e0 b0 hk hE hB hN
  gi_wp2_with fail
  refine⟨trivial,?_⟩;refine(CallsIn.inRound lp (callsIn_wide.2 a4.out)).mono ?_;rintro e2 W2 ⟨vt,rfl,c1,d0⟩;obtain⟨A3,q3,rfl,-,-,o0⟩:=af c1;obtain⟨b3,rfl⟩:=o0 (by simp);have t0:W2.cell? ⟨b3,0,none⟩=some (.string en.eAt):=(aK c1 rfl 0 (by simp)).trans rfl;have t1:W2.cell? ⟨b3,1,none⟩=some (.string en.eSch):=(aK c1 rfl 1 (by simp)).trans rfl;have t2:W2.cell? ⟨b3,2,none⟩=some (.string en.eKw):=(aK c1 rfl 2 (by simp)).trans rfl;obtain⟨hk,hE,hB,hN⟩:=i8.out;have a5:=ak f9 d0;have d4:=hk.later a5;have n4:bS W2 (w6.heap.size+2) v lp0:=ai hE a5 (Zb _);have r1:w6.heap.size<W2.heap.size:=d4.lt;have l1:=d4.alloc (.cells #[.string en.eAt,.string en.eSch,.string en.eKw] 40);have n0:bS (W2.alloc (.cells #[.string en.eAt,.string en.eSch,.string en.eKw] 40)).drew (w6.heap.size+2) v lp0:=ai n4 (ac _ _).drew (Zb _);have m9:w6.heap.size+2<=W2.heap.size:=Zc hN a5.size;have hS:W2.cell? ⟨w6.heap.size,0,none⟩=some v/\W2.cell? ⟨b3,0,none⟩=some (.string en.eAt)/\W2.cell? ⟨b3,1,none⟩=some (.string en.eSch)/\W2.cell? ⟨b3,2,none⟩=some (.string en.eKw):=⟨d4.cell,t0,t1,t2⟩;have HS:=Qa hS;have e6:=Qa n0;have c0:=Qa a5;have r3:=Qa m9;have q0:=Qa (show ∀ (j:Nat) u,(d7 en)[j]?=some u->(W2.alloc (.cells #[.string en.eAt,.string en.eSch,.string en.eKw] 40)).drew.cell? ⟨W2.heap.size,j,none⟩=some u from av W2 (d7 en) 40);have b8:=Qa (show w6.heap.size+2<=(W2.alloc (.cells #[.string en.eAt,.string en.eSch,.string en.eKw] 40)).drew.heap.size by simp;omega);have g7:=Qa (show ∀r,v.ownBlock=some r->r≠b3 from fun r e h=>by
   have h1:=(World.ownsRow.lt hE r e).2;have h2:=(al c1 (g:=b3) rfl).1;simp at h2;omega)
  have h7:=Qa (show(W2.alloc (.cells #[.string en.eAt,.string en.eSch,.string en.eKw] 40)).drew.cell? ⟨b3,0,none⟩=some (.string en.eAt)/\(W2.alloc (.cells #[.string en.eAt,.string en.eSch,.string en.eKw] 40)).drew.cell? ⟨b3,1,none⟩=some (.string en.eSch)/\(W2.alloc (.cells #[.string en.eAt,.string en.eSch,.string en.eKw] 40)).drew.cell? ⟨b3,2,none⟩=some (.string en.eKw) from⟨Zg (ac _ _).drew t0,Zg (ac _ _).drew t1,Zg (ac _ _).drew t2⟩);have p0:=Qa (show Bx (W2.alloc (.cells #[.string en.eAt,.string en.eSch,.string en.eKw] 40)).drew w6.heap.size 22 v from l1);clear c1 o0 t0 t1 t2 hk hE hB hN d4 n4 r1 l1 n0 d0 f9 a5 hS m9 a4
  gi_wp2_with fail
  refine FX (S:=fun w'=>w'.cell? ⟨w6.heap.size,0,none⟩=some v/\w'.cell? ⟨b3,0,none⟩=some (.string en.eAt)/\w'.cell? ⟨b3,1,none⟩=some (.string en.eSch)/\w'.cell? ⟨b3,2,none⟩=some (.string en.eKw)) (by kernel_rfl) (by kernel_rfl) 13 (HS.out) (fun a0=>?_);refine tZ 0 a0 ?_;refine tZ 1 a0 ?_;refine tZ 2 a0 ?_;refine tZ 3 a0 ?_;refine tZ 4 a0 ?_;refine tZ 5 a0 ?_
  try simp only[Act.put,jP,jQ,jR]
  refine tZ 6 a0 ?_;refine tZ 7 a0 ?_;refine tZ 8 a0 ?_;refine tZ 9 a0 ?_;refine tZ 10 a0 ?_
  try simp only[Act.put,jP,jQ,jR]
  refine rZ 11 fun K hK=>?_
  go_simp;have q6:=(show Below W2.heap.size W2 (W2.alloc (.cells #[.string en.eAt,.string en.eSch,.string en.eKw] 40)) from ac _ _);have q7:=(And.intro (Zg q6 HS.out.1) (And.intro (Zg q6 HS.out.2.1) (And.intro (Zg q6 HS.out.2.2.1) (Zg q6 HS.out.2.2.2))));clear q6;refine hK.out _ _ (fun _=>q7) (fun a0=>?_);clear hK K;have a0:=a0 (by decide)
  try simp only[Act.put,jP,jQ,jR]
  refine rZ 12 fun K hK=>?_
  refine BL ye e6.out q0.out b8.out ?_ (h1:=(by simp[d7,Value.oneCell'])) (hlen:=by have:=l0.out;unfold maxLen;omega) (hby:=by have:=l0.out;omega);intro v7 w7 h1 h2 h3;obtain⟨A7,q7,rfl,-⟩:=af h1;have h5:=aJ (Ze _ _) e6.out b8.out h2;have k7:=p0.out.below h5 (by omega);have S7:=And.intro k7.cell (And.intro (h2.cell h7.out.1 (fun e=>g7.out _ e.symm rfl)) (And.intro (h2.cell h7.out.2.1 (fun e=>g7.out _ e.symm rfl)) (h2.cell h7.out.2.2 (fun e=>g7.out _ e.symm rfl))));have q9:=Qa h1;have p4:=Qa h2;have i2:=Qa h5;have p3:=Qa k7;have c7:=k7.cell;have f7:=k7.frozen;clear h1 h2 h3 h5 k7;refine hK.out _ _ (fun _=>S7) (fun a0=>?_);clear hK K;have a0:=a0 (by decide)
  try simp only[Act.put,jP,jQ,jR]
  refine rZ 13 fun K hK=>?_
  go_simp;refine hK.out _ _ (fun h=>absurd rfl h) (fun _=>?_);clear hK K
  try simp only[Act.put,jP,jQ,jR]
  refine aH (by kernel_rfl) (NoPanic.normal ?_) _;obtain⟨-,-,hB,-⟩:=i8.out;refine⟨rfl,?_,?_,⟨_,p3.out.set _,?_⟩,?_,?_⟩
  ·exact(jf c0.out).trans ((KeepsOthers.alloc _ _).trans ((KeepsOthers.drew _).trans ((KeepsOthers.of_grownBy p4.out (fun j o e ho=>by
    obtain⟨-,cur,h6⟩:=al e6.out e;rw[h6] at ho
    cases ho
    rfl)).trans (KeepsOthers.setCell ..))))
  ·exact(l7.of_below c0.out).t ((l7.of_below (ac _ _).drew).t ((l7.of_low i2.out).t (l7.set _ _)))
  ·rw[q8.out];unfold bS;rw[<-dW,List.length_append];exact ownsRow_setCell_below q9.out (a:=⟨w6.heap.size,0,none⟩) (by show w6.heap.size<w6.heap.size+2;omega) _
  ·have h1:=hB.trans (c0.out.mono hB.size);have h2:=h1.trans (((ac W2 (.cells #[.string en.eAt,.string en.eSch,.string en.eKw] 40)).drew).mono h1.size);exact(h2.trans (i2.out.mono (Nat.le_add_right _ _))).setCell (p:=⟨w6.heap.size,0,none⟩) (Zb _) _
  ·rw[World.size_setCell];exact Zc b8.out i2.out.size
