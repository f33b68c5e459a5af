import Derived.Test.YtehpfidnpfcniaaGreatDoorGZ14bh
set_option linter.unusedVariables false
set_option linter.unusedSimpArgs false
set_option maxHeartbeats 64000000
set_option maxRecDepth 100000
namespace Go.Proofs.YtehpfidnpfcniaaGreatDoor
open Go.RowKit Go.Shelf
variable {ns:List ByteArray}{ks:List JV}{us:List Value}{N base g i id n oc:Nat}{P:Nat->Prop}{A:Option Addr}{t2:TypeId}{nv u v:Value}{W W' X Y Z w w' w6:World}
structure FG (ns:List ByteArray) (us:List Value) (ts ls:List ByteArray):Prop where
 len:ls.length=ts.length
 at_:∀ (i:Nat) t s,ts[i]?=some t->ls[i]?=some s->∃j,fT ns t j/\us[j]?=some (.iface 83 (.string s))
def DL (l:List ByteArray)(w:World)(e:Ending)(w':World):Prop:= ∃v,e =.returned (.tuple #[v,.bool true])/\aZ w' w.heap.size v l/\Below w.heap.size w w'
theorem rM {ts ls:List ByteArray}(h:eG P w A us ns ks)(hk:∀u∈us,∃T x,u =.iface T x)(hn:mE w nv ts)(hh:FG ns us ts ls)(hl:ts.length=us.length) :
  Calls Tryz.prog 60 #[.iface 103 (.pointer A),nv] w (DL ls w):=by
 obtain⟨hm,A2,c,rfl,-,hc⟩:=hn;have c5:=H8 (fun W=>FB (.pointer A) W);have b5:=H8 (fun W (hb:Below w.heap.size w W)=>iE (h.below hb));have a5:=H8 (fun W (hb:Below w.heap.size w W) (i:Nat) t s (h1:ts[i]?=some t) (h2:ls[i]?=some s)=>show ∃u,u=Value.string s/\Calls Tryz.prog 55 #[.pointer A,.string t] W fun e w'=>e =.returned (.tuple #[.iface 83 u,.bool true])/\Below W.heap.size W w' from by
  obtain⟨j,h3,h4⟩:=hh.at_ i t s h1 h2;exact⟨_,rfl,nW (h.below hb) hk h3 h4 (by omega)⟩)
 have Hc:=H8 hc;have b3:=H8 hh.len;have hne:((us.length:Int) !=ts.length)=false:=by rw[hl];simp
 clear h hk hh hc hl;go_enter Tryz.func60,Tryz.ntmps60;go_wp2_with fail;refine(c5.out _).mono ?_;rintro e w1 ⟨rfl,b1⟩;have Hb1:=H8 b1;clear b1;go_wp2_with fail;refine(b5.out _ Hb1.out).mono ?_;rintro e w' ⟨rfl,rfl⟩;go_wp2_with fail
 go_loopg [8,31] ts.length (fun m s8 s31 wr=> ∃i:Nat,m+i=ts.length/\s31 =.int .i64 i/\Hid (aZ wr w.heap.size s8 (ls.take i))/\Hid (Below w.heap.size w wr))
 case atStart=>exact⟨0,rfl,rfl,H8 (by simpa [aZ] using World.ownsRow_nil ..),Hb1⟩
 case round=>
  clear Hb1;obtain⟨i,hi,rfl,HS,Hb⟩:=hrel;have Hi:=H8 hi
  by_cases hlt:i<ts.length
  ·have a2:(i:Int)<ts.length:=by omega
   obtain⟨t,ht⟩:∃t,ts[i]?=some t:=⟨_,Zd hlt⟩;have c0:=b3.out;obtain⟨s,hs⟩:∃s,ls[i]?=some s:=⟨_,Zd (by omega)⟩;obtain⟨g,o,rfl,k1⟩:=Hc.out i t ht;have c1:=Zg Hb.out k1;obtain⟨u,hu,hg⟩:=a5.out wr Hb.out i t s ht hs;have Hu:=H8 hu;have Hg:=H8 hg;have c2:=H8 (show ls.take (i+1)=ls.take i ++ [s] by
    obtain⟨h1,h3⟩:=List.getElem?_eq_some_iff.1 hs;rw[List.take_succ_eq_append_getElem h1,h3])
   have b0:=H8 (show(ls.take i).length=i by rw[List.length_take];omega);clear ht hs k1 hi hu hg c0;go_wp2_with fail;refine Za Hg ?_;rintro e w2 ⟨rfl,a9⟩;have b4:=H8 (ak Hb.out a9);have a1:=H8 (show aZ w2 w.heap.size u8 (ls.take i) from ag HS.out a9 (Zb _));clear a9 c1;go_wp2_with fail;refine(FC u w2).mono ?_;rintro e w3 ⟨rfl,a3⟩;have c4:=H8 (ak b4.out a3);have b9:=H8 (show aZ w3 w.heap.size u8 (ls.take i) from ag a1.out a3 (Zb _));clear a3;have hu:=Hu.out;subst hu;have a0:=H8 (show aZ (w3.alloc (.cells #[.string s] 9)) w.heap.size u8 (ls.take i) from ag b9.out (ac _ _) (Zb _));have a4:=H8 (ak c4.out (ac w3 (.cells #[.string s] 9)));unfold aZ at a0;rw[b0.out] at a0;clear Hu;go_wp2_with (at_builtin;refine mb kf a0.out (ar w3 [b7 s] 9) a4.out.size ?_ (h1:=(by simp[b7,Value.oneCell'])) (hlen:=by have:=Hi.out;unfold maxLen;omega) (hby:=by have:=Hi.out;omega);intro v' w5 p1 p2 p3;have c3:=H8 p1;have b8:=H8 (aA a4.out a0.out a4.out.size p2);clear p1 p2 p3);go_roundg (ts.length - (i+1))
   case measure=>have:=Hi.out;omega
   case rel=>
    refine⟨i+1,by have:=Hi.out;omega,by go_num,H8 ?_,b8⟩;unfold aZ;rw[c2.out,List.map_append,List.length_append,b0.out];exact c3.out
  ·have a2:¬ (i:Int)<ts.length:=by omega
   have b2:=H8 (show ls.take i=ls by rw[List.take_of_length_le];have:=b3.out;omega);have a1:=H8 (show aZ wr w.heap.size u8 ls by have:=HS.out;rw[b2.out] at this;exact this);obtain⟨A3,q,rfl,-⟩:=af a1.out;clear hi HS b2;go_wp2_with fail;go_ret2;exact⟨_,rfl,a1.out,Hb.out⟩
end Go.Proofs.YtehpfidnpfcniaaGreatDoor
namespace Go.Proofs.YtehpfidnpfcniaaGreatDoor
variable {ns:List ByteArray}{ks:List JV}{us:List Value}{N base g i id n oc:Nat}{P:Nat->Prop}{A:Option Addr}{t2:TypeId}{nv u v:Value}{W W' X Y Z w w' w6:World}
variable {P:Program}{ops:Array Oper}{Q:Exit->Act->World->Prop}
def og (ops:Array Oper):Bool:=ops.all fun o=>match o.op with | .defer _=>false|_=>true
theorem um {o:Oper}(h:og ops=true)(ho:ops[i]?=some o)(c:_):o.op≠ .defer c:=by
 intro e;obtain⟨hi,ho⟩:=Array.getElem?_eq_some_iff.1 ho;have:=(Array.all_eq_true.1 h) i hi;rw[ho,e] at this
 cases this
theorem uT {l:Nat}(hd:og ops=true)(hL:¬LetsOut Q):∀ (L:List Nat) (a:Act) (w:World),wpOps P ops Q L a w->wpOpsIn (Fence.wide.inRound l) n P ops Q L a w:=by
 intro L
 induction L with
 |nil=>intro a w h;exact h
 |cons i rest ih=>
  intro a w h;unfold wpOps at h;unfold wpOpsIn
  cases ho:ops[i]? with
  |none=>simp only[ho] at h ⊢;exact ih _ _ h
  |some o=>
   simp only[ho] at h ⊢
   split at h
   ·rename_i hw
    rw[if_pos hw];refine⟨fun _ _=>trivial,?_⟩;rcases h with h|⟨-,h⟩
    ·rw[Fence.inRound_round,Oper.semAt_some l a.eval o (um hd ho)];unfold Oper.wp at h;generalize (execOp a.eval o).run P w=r at *
     cases r with
     |ok x w'=>
      cases x <;> simp only[Oper.upon] at h <;> simp only[Oper.uponIn]
      case value=>exact ih _ _ h
      case skip=>exact ih _ _ h
      case defer=>exact ih _ _ h
      case enter f args=>exact⟨fun h'=>(by cases h'),CallsIn.inRound l (callsIn_wide.2 (h.mono fun e w'' he=>by cases e <;> first|exact ih _ _ he|exact he))⟩
      case row=>exact⟨fun h'=>(by cases h'),fun c cs _=>by
       obtain⟨v,w'',h1,h2⟩:=h c cs;exact⟨v,w'',ih _ _ h1,stepsIn_wide.2 h2⟩⟩
     |halt x w'=>
      cases x <;> simp only[Oper.upon] at h <;> simp only[Oper.uponIn] <;> exact h
    ·exact absurd h hL
   ·rename_i hw
    rw[if_neg hw];exact⟨fun _ _=>trivial,ih _ _ h⟩
theorem Fj {l:Nat}{a:Act}{S:World->Prop}(hm:P.follows .mixedOrders=true)(hd:og ops=true)(z:Nat)(hS:S w.drew)
  (h:S w.drew->bI P .any ops (NoPanic (fun e a w=>e =.normal/\Q .normal a w)) S z ops.size (Array.replicate ops.size false) a w.drew):(Code.region id ops true).wpIn (Fence.wide.inRound l) n P Q a w:=by
 have h2:(Code.region id ops true).wpIn (Fence.wide.inRound l) n P (NoPanic (fun e a w=>e =.normal/\Q .normal a w)) a w:=
  wpIn_region_draw fun t=>by
   simp only[Region.schedule,hm,Bool.true_or,if_true];exact uT hd (fun ⟨a,w,h⟩=>by first|cases h.1|cases h) _ _ _ (wpAny_sound ops.size t _ a _ (it _ _ _ _ (h hS)))
 exact Code.wpIn_mono (fun e a w h3=>by obtain⟨rfl,h4⟩:=NoPanic.imp e a w h3;exact h4) h2
end Go.Proofs.YtehpfidnpfcniaaGreatDoor
namespace Go.Proofs.YtehpfidnpfcniaaGreatDoor
open Go.RowKit Go.Shelf
variable {ns:List ByteArray}{ks:List JV}{us:List Value}{N base g i id n oc:Nat}{P:Nat->Prop}{A:Option Addr}{t2:TypeId}{nv u v:Value}{W W' X Y Z w w' w6:World}
attribute [local go_sem] Oper.semAt_some
structure ou (w:World):Prop where
 lr:mi w
 lw:wO w
 env:∃aU aE,sA w aU aE
 may:l9 w
 eNil:a7 w 1
theorem ou.below (h:ou w)(hb:Below w.heap.size w w'):ou w':=by
 obtain⟨h1,h2,⟨aU,aE,h3⟩,h4,h5⟩:=h;exact⟨h1.below hb,h2.below hb,⟨aU,aE,h3.below hb⟩,h4.below hb,h5.below hb⟩
theorem VW.asText {s:ByteArray}(h:VW P w v (aY s)):v =.iface 83 (.string s):=by
 cases h with
 |text=>rfl
theorem Dx:ey iA/\ey ib/\ey iB/\ey mZ/\ey mc:=⟨⟨bg.1,by decide⟩,⟨bg.2.1,by decide⟩,⟨bg.2.2.1,by decide⟩,⟨bg.2.2.2.1,by decide⟩,⟨bg.2.2.2.2,by decide⟩⟩
theorem vZ:fT [mZ,mc] mZ 0/\fT [mZ,mc] mc 1:=by
 obtain⟨-,-,-,h4,h5⟩:=Dx;have e0:aJ (nm mZ) (nm mZ)=0:=rfl;have e1:aJ (nm mZ) (nm mc) = -1:=rfl;have e2:aJ (nm mc) (nm mZ)=1:=rfl;have e3:aJ (nm mc) (nm mc)=0:=rfl;refine⟨⟨rfl,?_,?_,?_⟩,⟨rfl,?_,?_,?_⟩⟩
 all_goals first
  |(intro n hn;simp only[List.mem_cons,List.mem_nil_iff,or_false] at hn;rcases hn with rfl|rfl <;> assumption)
  |(intro i n hn hi;match i,hn with
    |0,hn=>(obtain rfl:=Zi hn;omega)
    |1,hn=>(obtain rfl:=Zi hn;omega))
theorem nR:fT [iA,ib,iB] iA 0/\fT [iA,ib,iB] ib 1/\fT [iA,ib,iB] iB 2:=by
 obtain⟨h1,h2,h3,-,-⟩:=Dx;have a0:aJ (nm iA) (nm iA)=0:=rfl;have a1:aJ (nm iA) (nm ib) = -1:=rfl;have a2:aJ (nm iA) (nm iB) = -1:=rfl;have b0:aJ (nm ib) (nm iA)=1:=rfl;have b1:aJ (nm ib) (nm ib)=0:=rfl;have b2:aJ (nm ib) (nm iB) = -1:=rfl;have c0:aJ (nm iB) (nm iA)=1:=rfl;have c1:aJ (nm iB) (nm ib)=1:=rfl;have c2:aJ (nm iB) (nm iB)=0:=rfl;refine⟨⟨rfl,?_,?_,?_⟩,⟨rfl,?_,?_,?_⟩,⟨rfl,?_,?_,?_⟩⟩
 all_goals first
  |(intro n hn;simp only[List.mem_cons,List.mem_nil_iff,or_false] at hn;rcases hn with rfl|rfl|rfl <;> assumption)
  |(intro i n hn hi;match i,hn with
    |0,hn=>(obtain rfl:=Zi hn;omega)
    |1,hn=>(obtain rfl:=Zi hn;omega)
    |2,hn=>(obtain rfl:=Zi hn;omega))
theorem xw {e:En}(h:VW P w u (ec e))(hn:mE w nv [iA,iB,ib]):∃A,u =.iface 103 (.pointer A)/\Calls Tryz.prog 60 #[.iface 103 (.pointer A),nv] w fun r w'=>DL [e.eAt,e.eSch,e.eKw] w r w':=by
 obtain⟨A,us,rfl,ho,hk⟩:=VW.asObj (t:=false) (x:=es) (d:=⟨false,es,0⟩) (ns:= [iA,ib,iB]) (ks:= [aY e.eAt,aY e.eKw,aY e.eSch]) h;obtain⟨g,R,c,-,-,-,hl,-⟩:=id ho
 match us,hl,hk,ho with
 | [u0,u1,u2],_,hk,ho=>
  obtain rfl:=(hk 0 u0 _ rfl rfl).asText;obtain rfl:=(hk 1 u1 _ rfl rfl).asText;obtain rfl:=(hk 2 u2 _ rfl rfl).asText;refine⟨A,rfl,rM ho (fun u hu=>?_) hn ⟨rfl,fun i t s h1 h2=>?_⟩ rfl⟩
  ·simp only[List.mem_cons,List.mem_nil_iff,or_false] at hu;rcases hu with rfl|rfl|rfl <;> exact⟨_,_,rfl⟩
  ·match i,h1,h2 with
   |0,h1,h2=>(obtain rfl:=Zi h1;obtain rfl:=Zi h2;exact⟨0,nR.1,rfl⟩)
   |1,h1,h2=>(obtain rfl:=Zi h1;obtain rfl:=Zi h2;exact⟨2,nR.2.2,rfl⟩)
   |2,h1,h2=>(obtain rfl:=Zi h1;obtain rfl:=Zi h2;exact⟨1,nR.2.1,rfl⟩)
attribute [local go_sem] Oper.semAt_some
def CS (oc:Nat)(l:List En)(w:World)(e:Ending)(w':World):Prop:= ∃u,e =.returned (.tuple #[.int .i64 oc,u,.bool true])/\bJ w' w.heap.size u l/\Below w.heap.size w w'
def kP (N g:Nat)(X Y:World):Prop:= ∀k cs t z,k<N->k≠g->X.heap[k]?=some (.cells cs t z)->Y.heap[k]?=some (.cells cs t z)
theorem kP.t (h:kP N g X Y)(k:kP N g Y Z):kP N g X Z:=fun i cs t z hi hc he=>k i cs t z hi hc (h i cs t z hi hc he)
theorem kP.b (W:World)(l:Nat)(o o':Obj)(h:W.heap[l]?=some o)(ho:o.isCells=false):kP N g W (W.putObj l o'):=fun k cs t z _ _ hc=>by
 have:k≠l:=by rintro rfl;rw[h] at hc;cases hc;simp[Obj.isCells] at ho
 exact(World.putObj_heap_other this).trans hc
theorem kP.of_below (h:Below W.heap.size W W'):kP N g W W':=fun k cs t z _ _ hc=>(h.block k (ah hc)).trans hc
theorem kP.of_low (h:Below N W W'):kP N g W W':=fun k cs t z hk _ hc=>(h.block k hk).trans hc
theorem kP.set (W:World)(u:Value):kP N g W (W.setCell ⟨g,0,none⟩ u):=fun k cs t z _ hk hc=>(Below.heap_setCell W ⟨g,0,none⟩ u k hk).trans hc
def fl (l:List En)(n:Nat)(h:n=l.length)(pre:List (Fin n)):List En:=pre.map fun i=>l[i.val]'(h▸i.isLt)
theorem wC (l:List En)(n:Nat)(h:n=l.length):fl l n h (List.finRange n)=l:=by
 subst h;unfold fl;apply List.ext_getElem (by simp);intro i h1 h2;simp
theorem ux (l:List En)(n:Nat)(h:n=l.length)(pre:List (Fin n))(x:Fin n):fl l n h (pre ++ [x])=fl l n h pre ++ [l[x.val]'(h▸x.isLt)]:=by simp[fl]
theorem wj (l:List En)(n:Nat)(h:n=l.length)(pre:List (Fin n)):(fl l n h pre).length=pre.length:=by simp[fl]
def Du (w6:World)(l:List En)(n:Nat)(h:n=l.length)(pre:List (Fin n))(W:World):Prop:=(∃v,Bx W w6.heap.size 22 v/\bJ W (w6.heap.size+2) v (fl l n h pre))/\Below w6.heap.size w6 W/\w6.heap.size+2<=W.heap.size
theorem bJ.kept {l:List En}{row:Option Nat}(h:bJ w base v l)(hg:w.grownBy w' row)(hr:∀r,row=some r->∃o:Obj,w.heap[r]?=some o/\o.isCells=false):bJ w' base v l:=by
 refine World.ownsRow.kept h hg ?_
 cases hv:v.ownBlock with
 |none=>exact .inl rfl
 |some k=>
  refine .inr fun e=>?_
  obtain⟨o,ho,hc⟩:=hr k e.symm;obtain⟨-,cur,a0⟩:=al h hv;rw[a0] at ho
  cases ho
  simp[Obj.isCells] at hc
theorem As {l:List En}{D qv:Nat}{Av:Option Addr}{z2 z3 z4:Value}{t3 t4:TypeId}(hE:bJ W (w6.heap.size+2) (.slice Av l.length qv) l)(hB:Below w6.heap.size w6 W)(hK:W.heap[D]?=some (.deferred (some [])))(hz:w.heap.size+3<=w6.heap.size)(hD:w6.heap.size<D)
  (b2:Bx W w.heap.size t2 z2) (b3:Bx W (w.heap.size+1) t3 z3) (b4:Bx W (w.heap.size+2) t4 z4) (hw:Below w.heap.size w W) {x y z:Value} {W2:World} (h2:(((W.setCell ⟨w.heap.size,0,none⟩ x).setCell ⟨w.heap.size+1,0,none⟩ y).setCell ⟨w.heap.size+1+1,0,none⟩ z).drew=W2) :
  W2.heap[D]?=some (.deferred (some []))/\(W2.putObj D (.deferred none)).cell? ⟨w.heap.size,0,none⟩=some x/\(W2.putObj D (.deferred none)).cell? ⟨w.heap.size+1,0,none⟩=some y/\(W2.putObj D (.deferred none)).cell? ⟨w.heap.size+1+1,0,none⟩=some z/\
   bJ (W2.putObj D (.deferred none)) w.heap.size (.slice Av l.length qv) l/\Below w.heap.size w (W2.putObj D (.deferred none)):=by
 have k2:Bx W2 w.heap.size t2 x:=h2▸((b2.set x).far (p:=⟨w.heap.size+1,0,none⟩) (by simp) y).far (p:=⟨w.heap.size+1+1,0,none⟩) (by show w.heap.size≠w.heap.size+1+1;omega) z;have k3:Bx W2 (w.heap.size+1) t3 y:=h2▸((b3.far (p:=⟨w.heap.size,0,none⟩) (by simp) x).set y).far (p:=⟨w.heap.size+1+1,0,none⟩) (by simp) z;have k4:Bx W2 (w.heap.size+1+1) t4 z:=h2▸((b4.far (p:=⟨w.heap.size,0,none⟩) (by simp) x).far (p:=⟨w.heap.size+1,0,none⟩) (by simp) y).set z;have a0:W2.heap[D]?=some (.deferred (some [])):=h2▸(Below.heap_setCell _ ⟨w.heap.size+1+1,0,none⟩ z D (by show D≠w.heap.size+1+1;omega)).trans ((Below.heap_setCell _ ⟨w.heap.size+1,0,none⟩ y D (by show D≠w.heap.size+1;omega)).trans ((Below.heap_setCell W ⟨w.heap.size,0,none⟩ x D (by show D≠w.heap.size;omega)).trans hK));have a1:bJ W2 (w6.heap.size+2) (.slice Av l.length qv) l:=h2▸ownsRow_setCell_below (ownsRow_setCell_below (ownsRow_setCell_below hE (a:=⟨w.heap.size,0,none⟩) (by show w.heap.size<_;omega) x) (a:=⟨w.heap.size+1,0,none⟩) (by show w.heap.size+1<_;omega) y) (a:=⟨w.heap.size+1+1,0,none⟩) (by show w.heap.size+1+1<_;omega) z;have hg:=grownBy_putObj' W2 D (.deferred none);have hr:∀r,some D=some r->∃o:Obj,W2.heap[r]?=some o/\o.isCells=false:=fun r e=>by cases e;exact⟨_,a0,rfl⟩
 refine⟨a0,(k2.kept hg hr).cell,(k3.kept hg hr).cell,(k4.kept hg hr).cell,bB (a1.kept hg hr) (by omega),?_⟩;have h1:Below w.heap.size w W2:=h2▸(((hw.setCell (p:=⟨w.heap.size,0,none⟩) (Zb _) x).setCell (p:=⟨w.heap.size+1,0,none⟩) (by simp) y).setCell (p:=⟨w.heap.size+1+1,0,none⟩) (by show w.heap.size<=w.heap.size+1+1;omega) z).drew;exact h1.grown hg h1.size (fun k e=>by cases e;omega)
theorem AD (ho:oc<6)(h:cJ[i]?=some (bA oc))(hj:∀j,j<i->cJ[j]?≠some (bA oc)):i=oc:=by
 have hi:i<6:=(List.getElem?_eq_some_iff.1 h).1;have hw:cJ[oc]?=some (bA oc):=by
  unfold bA;rw[List.getD_eq_getElem?_getD,Zd (by exact ho)];rfl
 have h2:¬oc<i:=fun hlt=>hj oc hlt hw
 rcases Nat.lt_or_ge i oc with hlt|a0
 ·exfalso
  have hd:cJ.Nodup:=by decide
  have e:cJ[i]?=cJ[oc]?:=h.trans hw.symm;rw[Zd (by exact hi),Zd (by exact ho)] at e;have:=(List.getElem_inj (h₀:=hi) (h₁:=ho) hd).1 (Zi e);omega
 ·omega
theorem zc {l:List En}(hA:ou w)(hv:Bs w v (cO oc l).txt)(hl:(cO oc l).txt.length<=1000000000)(g0:∀e∈l,fS e)(ho:1<=oc/\oc<6)(hn:l.length<=1000000) :
  Calls Tryz.prog 26 #[v] w (CS oc l w):=by
 obtain⟨aU,aE,hE⟩:=hA.env;have h0:0< (cO oc l).txt.length:=by
  rw[List.length_pos_iff];intro e;have:=kN (uW (o:=oc) g0);rw[e] at this
  cases this
 have b1:=H8 (fun W (hb:Below w.heap.size w W)=>xF (hE.below hb) (hA.may.below hb) (hv.below hb) h0 hl (kN (uW (o:=oc) g0)));have HA:=H8 hA;have Ho:=H8 ho;have Hn:=H8 hn;clear hE h0 hA hv hl g0 ho hn;refine(callsIn_wide (n:=9)).1 ?_;refine callsIn_of_wp_marks Tryz.func26 rfl trivial ?_ rfl;simp only[Tryz.ntmps26,List.size_toArray,List.length_cons,List.length_nil,Nat.reduceAdd,Nat.reduceSub,Array.replicate_succ,Array.replicate_zero,List.push_toArray,List.append_toArray,List.nil_append,List.cons_append];have c2:=H8 (show Below w.heap.size w (((w.alloc (.cells #[.int .i64 0] 3)).alloc (.cells #[.slice none 0 0] 22)).alloc (.cells #[.bool false] 4)) from ak (ak (ac _ _) (ac _ _)) (ac _ _));have k9:=H8 ((((Bx.new w 3 (.int .i64 0)).alloc (.cells #[.slice none 0 0] 22)).alloc (.cells #[.bool false] 4)));have m2:=H8 (show Bx (((w.alloc (.cells #[.int .i64 0] 3)).alloc (.cells #[.slice none 0 0] 22)).alloc (.cells #[.bool false] 4)) (w.heap.size+1) 22 (.slice none 0 0) from by
  have:=(Bx.new (w.alloc (.cells #[.int .i64 0] 3)) 22 (.slice none 0 0)).alloc (.cells #[.bool false] 4)
  rwa[World.size_alloc] at this)
 have m0:=H8 (show Bx (((w.alloc (.cells #[.int .i64 0] 3)).alloc (.cells #[.slice none 0 0] 22)).alloc (.cells #[.bool false] 4)) (w.heap.size+2) 4 (.bool false) from by
  have:=(Bx.new ((w.alloc (.cells #[.int .i64 0] 3)).alloc (.cells #[.slice none 0 0] 22)) 4 (.bool false))
  rwa[World.size_alloc,World.size_alloc] at this)
 have Hz:=H8 (show(((w.alloc (.cells #[.int .i64 0] 3)).alloc (.cells #[.slice none 0 0] 22)).alloc (.cells #[.bool false] 4)).heap.size=w.heap.size+3 by simp)
 gi_wp2_with fail
 generalize (((w.alloc (.cells #[.int .i64 0] 3)).alloc (.cells #[.slice none 0 0] 22)).alloc (.cells #[.bool false] 4))=w0 at *;refine⟨trivial,?_⟩;refine(callsIn_wide.2 (b1.out w0 c2.out)).mono ?_;rintro e w1 ⟨u,rfl,m1,m5⟩;obtain⟨A,us,rfl,hob,hk⟩:=VW.asObj (t:=false) (x:=es) (d:=⟨false,es,0⟩) (ns:= [mZ,mc]) (ks:= [cD (l.map ec),aY (bA oc)]) m5;obtain⟨u0,u1,rfl⟩:∃u0 u1,us = [u0,u1]:=by
  obtain⟨g,R,c,-,-,-,hlen,-⟩:=id hob
  match us,hlen with
  | [u0,u1],_=>exact⟨u0,u1,rfl⟩
 obtain rfl:=(hk 1 u1 _ rfl rfl).asText;obtain⟨A2,us,rfl,l3,hkl⟩:=VW.asList (t:=false) (x:=es) (d:=⟨false,es,0⟩) (ns:= []) (ks:=l.map ec) (hk 0 u0 _ rfl rfl);have o0:∀u∈ [Value.iface 112 (.pointer A2),.iface 83 (.string (bA oc))],∃T x,u =.iface T x:=by
  intro u hu;simp only[List.mem_cons,List.mem_nil_iff,or_false] at hu;rcases hu with rfl|rfl <;> exact⟨_,_,rfl⟩
 have e3:=H8 hob;have f9:=H8 o0;have d9:=H8 (And.intro l3 hkl);have a4:=H8 m1;clear m5 hob hk o0 l3 hkl m1 b1;generalize hwd:bA oc=wd at *;have i2:=H8 hwd;clear hwd
 gi_wp2_with fail
 refine⟨trivial,?_⟩;refine(callsIn_wide.2 (FB (.pointer A) w1)).mono ?_;rintro e w2 ⟨rfl,c3⟩;have d5:=H8 c3;clear c3
 gi_wp2_with fail
 refine⟨trivial,?_⟩;refine(callsIn_wide.2 (iE (e3.out.below d5.out))).mono ?_;rintro e w' ⟨rfl,rfl⟩
 gi_wp2_with fail
 refine⟨trivial,?_⟩;refine(callsIn_wide.2 (nW (e3.out.below d5.out) f9.out vZ.2 rfl (by simp))).mono ?_;rintro e w3 ⟨rfl,a5⟩;have c0:=H8 (ak d5.out a5);clear a5
 gi_wp2_with fail
 refine⟨trivial,?_⟩;refine(callsIn_wide.2 (FC (.string wd) w3)).mono ?_;rintro e w4 ⟨rfl,n4⟩;have e0:=H8 (ak c0.out n4);clear n4
 gi_wp2_with fail
 have i4:=H8 ((HA.out.below (ak c2.out (ak a4.out e0.out))).lr);have k1:=H8 (show Calls Tryz.prog 57 #[.slice (some ⟨2,0,none⟩) 6 6,.string wd] w4 fun e w'=>FJ cJ wd w4 e w' from jB (l:=cJ) (by decide) (fun i a ha=>⟨_,0,rfl,by rw[Nat.zero_add];exact i4.out.words i a ha⟩));refine⟨trivial,?_⟩;refine(callsIn_wide.2 k1.out).mono ?_;rintro e w' ⟨rfl,z,rfl,hz⟩;obtain rfl:z=oc:=by
  have n6:=Ho.out;rcases hz with ⟨i,rfl,h1,h2⟩|⟨-,h1⟩
  ·rw[<-i2.out] at h1 h2;rw[AD n6.2 h1 h2]
  ·exact absurd (show wd∈cJ from by
    rw[<-i2.out];unfold bA;rw[List.getD_eq_getElem?_getD,Zd (by exact n6.2)];exact List.getElem_mem _) h1
 have r3:¬ (oc:Int)<1:=by have:=Ho.out;omega
 clear hz i4 k1
 gi_wp2_with fail
 refine⟨trivial,?_⟩;refine(callsIn_wide.2 (nW (e3.out.below e0.out) f9.out vZ.1 rfl (by simp))).mono ?_;rintro e w5 ⟨rfl,i5⟩;have l2:=H8 (ak e0.out i5);clear i5
 gi_wp2_with fail
 refine⟨trivial,?_⟩;refine(callsIn_wide.2 (Gk (.pointer A2) w5)).mono ?_;rintro e w6 ⟨rfl,k3⟩;have a2:=H8 (ak l2.out k3);clear k3
 gi_wp2_with fail
 have i3:=H8 (fun W (hb:Below w6.heap.size w6 W) (i:Nat) (u:Value) (e:En) (h1:us[i]?=some u) (h2:l[i]?=some e)=>show VW (w0.heap.size<= ·) W u (ec e) from(d9.out.2 i u (ec e) h1 (by rw[List.getElem?_map,h2];rfl)).later (ak a2.out hb));have n5:us.length=l.length:=by have:=d9.out.1.len;simpa using this
 have e1:=H8 (d9.out.1.below a2.out);have m9:=H8 ((HA.out.below (ak c2.out (ak a4.out a2.out))).lw.pow);have c6:=H8 (ak c2.out (ak a4.out a2.out));have i8:w.heap.size+3<=w6.heap.size:=by have h1:=Hz.out;have h2:=(ak a4.out a2.out).size;omega
 have j0:=H8 (k9.out.later (ak a4.out a2.out));have m3:=H8 (m2.out.later (ak a4.out a2.out));have m4:=H8 (m0.out.later (ak a4.out a2.out));have q1:=H8 i8;have q8:=H8 n5;clear k9 m2 m0 c2 a4 d5 c0 e0 l2 a2 d9 e3 f9 HA i2 Hz n5 i8;refine⟨trivial,?_⟩;refine(callsIn_wide.2 jD).mono ?_;rintro e w8 ⟨rfl,rfl⟩;have e6:=ac w6 (.cells #[.slice none 0 0] 22);have h5:=Bx.new w6 22 (.slice none 0 0);obtain⟨wA,h9⟩:∃wA,w6.alloc (.cells #[.slice none 0 0] 22)=wA:=⟨_,rfl⟩;have d0:wA.heap.size=w6.heap.size+1:=by rw[<-h9];simp
 rw[h9] at e6 h5 ⊢;clear h9;have e4:=ac wA (.cells #[.iface 112 (.pointer A2)] 175);have g7:=Zf wA (.cells #[.iface 112 (.pointer A2)] 175);obtain⟨W1,e5⟩:∃W1,wA.alloc (.cells #[.iface 112 (.pointer A2)] 175)=W1:=⟨_,rfl⟩;have d1:W1.heap.size=wA.heap.size+1:=by rw[<-e5];simp
 rw[e5] at e4 g7 ⊢;clear e5;have p4:us.length= (gF us).length:=(gq us).symm;have k5:(gF us).length=l.length:=by rw[gq];exact q8.out
 have h6:=H8 (show Du w6 l (gF us).length k5 [] W1 from⟨⟨_,h5.later e4,by
  show bJ W1 (w6.heap.size+2) (.slice none 0 0) []
  exact bJ.nil _ _⟩,ak e6 e4,by omega⟩)
 have d3:=H8 d1;have a3:=H8 d0;have p3:=H8 g7;have c1:=H8 k5;have q0:=H8 e1.out.bd;clear e6 h5 e4 g7 d1 d0 p4
 gi_wp2
 have b5:∀X,kP (w6.heap.size+2) w6.heap.size W1 X->E3 w6 X:=fun X hX g cs t z hg=>hX g cs t z (by have:=ah hg;omega) (by have:=ah hg;omega) ((h6.out.2.1.block g (ah hg)).trans hg)
 have c8:SeqStopsK Fence.wide (9 - 1) Tryz.prog 96 #[.pointer (some ⟨wA.heap.size,0,none⟩)] (fun x:Fin (gF us).length=> #[.string ((gF us).get x).1,((gF us).get x).2]) (kP (w6.heap.size+2) w6.heap.size) (fun ys=>ys=List.finRange (gF us).length) (fun _=>True) (gF us).length W1:=by
  intro l J Jx W hW hJ o3 hY h0;refine rn (9 - 1) (by omega) l wA.heap.size A2 (gF us) (by rw[gq];exact q0.out) (kP (w6.heap.size+2) w6.heap.size) (fun _ _ h=>kP.of_below h) (kP (w6.heap.size+2) w6.heap.size W1) (fun X Y h1 h2=>h1.t h2) (fun X hX=>?_) (fun X hX=>?_) (fun X k hX=>?_) J Jx W (kP.of_below hW) hJ o3 hY h0
  ·exact aa (hX _ _ _ _ (by have:=a3.out;omega) (by have:=a3.out;omega) p3.out) (j:=0) rfl
  ·rw[gq];exact jj (e1.out.kp (b5 X hX))
  ·obtain⟨u,hu,he⟩:=pi us k;rw[he];exact il (e1.out.kp (b5 X hX)) (m9.out.kp (b5 X hX)) k.val hu
 have c9:=H8 c8;clear b5 c8;refine wpIn_rangeFunc_ownF rfl (by omega) (gf:=96) (lb:= #[.pointer (some ⟨wA.heap.size,0,none⟩)]) (by simp[Act.eval]) trivial (enters_of Tryz.func96 (by kernel_rfl) rfl)
  c9.out
  (fun h k=>h.t k) (fun W l o o' _ h ho _=>kP.b W l o o' h ho) (Ze _ _) (fun _=>rfl)
  (Du w6 l (gF us).length c1.out) (fun _ _ _=>False) ?hI ?hIx h6.out ?a1 ?assign ?body ?done ?stop
 case assign=>
  intro l x W K hK
  gi_wp2
  exact hK
 case hI=>
  intro s A B row hs hg hr;obtain⟨⟨v,h1,h2⟩,h3,h4⟩:=hs;exact⟨⟨v,h1.kept hg (fun r e=>(hr r e).2),h2.kept hg (fun r e=>(hr r e).2)⟩,h3.grown hg h3.size (fun k e=>by have:=(hr k e).1;have:=d3.out;have:=a3.out;omega),Zc h4 hg.size⟩
 case hIx=>exact fun _ _ _ _ _ hs _ _=>hs
 case stop=>
  rintro D c pre W hD _ h _;exact h.elim
 case done=>
  rintro D ys W hD rfl ⟨⟨v,hk,hE⟩,hB,-⟩ hK;rw[wC] at hE;obtain⟨Av,qv,rfl,-⟩:=af hE;have hz:=q1.out;have c4:w6.heap.size<D:=by have:=d3.out;have:=a3.out;omega
  have b2:=j0.out.later hB;have b3:=m3.out.later hB;have b4:=m4.out.later hB;have d2:=c6.out.trans (hB.mono c6.out.size);have c5:=H8 (And.intro hk (And.intro hE (And.intro hB (And.intro hK (And.intro hz (And.intro c4 (And.intro b2 (And.intro b3 (And.intro b4 d2)))))))));have q2:=b2.cell;have q3:=b3.cell;have q4:W.cell? ⟨w.heap.size+1+1,0,none⟩=some (.bool false):=b4.cell;have f2:=b2.frozen;have f3:=b3.frozen;have f4:W.frozen? ⟨w.heap.size+1+1,0,none⟩=false:=b4.frozen;have b5:=hk.cell;have n1:w6.heap.size≠w.heap.size:=by omega
  have n2:w6.heap.size≠w.heap.size+1:=by omega
  have n3:w6.heap.size≠w.heap.size+2:=by omega
  clear hk hE hB hK hz c4 b2 b3 b4 d2 j0 m3 m4 i3 e1 m9 c9 h6 hD
  gi_wp2_with fail
  refine wpIn_wide.2 ?_;refine bp (fun w'=>w'.cell? ⟨w6.heap.size,0,none⟩=some (.slice Av l.length qv)) (b5) fun a0=>?_
  refine tH 0 a0 ?_;refine tH 1 a0 ?_
  try simp only[Act.put,jP,jQ,jR]
  refine rH 2 fun K hK=>?_
  go_simp;refine hK.out _ _ ((World.cell?_of_block (Below.heap_setCell _ ⟨w.heap.size,0,none⟩ _ w6.heap.size n1)).trans a0) (fun a0=>?_);clear hK K
  try simp only[Act.put,jP,jQ,jR]
  refine rH 3 fun K hK=>?_
  go_simp;refine hK.out _ _ ((World.cell?_of_block (Below.heap_setCell _ ⟨w.heap.size+1,0,none⟩ _ w6.heap.size n2)).trans a0) (fun a0=>?_);clear hK K
  try simp only[Act.put,jP,jQ,jR]
  refine rH 4 fun K hK=>?_
  go_simp;refine hK.out _ _ ((World.cell?_of_block (Below.heap_setCell _ ⟨w.heap.size+2,0,none⟩ _ w6.heap.size n3)).trans a0) (fun a0=>?_);clear hK K
  try simp only[Act.put,jP,jQ,jR]
  refine wpAnyH_done (by kernel_rfl) (NoPanic.normal ?_) _;obtain⟨hk,hE,hB,hK,hz,c4,b2,b3,b4,d2⟩:=c5.out;obtain⟨g1,g2,g3,g4,g5,g6⟩:=As hE hB hK hz c4 b2 b3 b4 d2 (x:=.int .i64 oc) (y:=.slice Av l.length qv) (z:=.bool true) rfl;have G:=H8 (And.intro g1 (And.intro g2 (And.intro g3 (And.intro g4 (And.intro g5 g6)))));clear hk hE hB hK hz c4 b2 b3 b4 d2 g1 g2 g3 g4 g5 g6 q2 q3 q4 f2 f3 f4 b5 n1 n2 n3 c5
  gi_wp2
  generalize (((W.setCell ⟨w.heap.size,0,none⟩ (.int .i64 oc)).setCell ⟨w.heap.size+1,0,none⟩ (.slice Av l.length qv)).setCell ⟨w.heap.size+1+1,0,none⟩ (.bool true)).drew=W2 at *;obtain⟨g1,g2,g3,g4,g5,g6⟩:=G.out;refine⟨by simp,.inl ⟨_,_,rfl,run_takeDeferred g1,?_⟩⟩;refine⟨.tuple #[.int .i64 oc,.slice Av l.length qv,.bool true],?_,_,rfl,g5,g6⟩;simp[results,Tryz.results26,go_sem,g2,g3,g4]
 case body=>
  rintro lp pre x W ⟨⟨v,hk,hE⟩,hB,hN⟩ q9;obtain⟨u,hu,he⟩:=pi us x;have k2:(gF us)[x.val]'x.isLt= (⟨(Lib.itoa x.val).toArray⟩,u):=he;have i0:=c1.out;have k0:x.val<l.length:=by have:=x.isLt;omega
  obtain⟨en,f6⟩:∃en,l[x.val]'k0=en:=⟨_,rfl⟩;have l0:=i3.out W hB x.val u en hu (by rw[Zd k0,f6]);have f8:=ac W (.cells #[.string iA,.string iB,.string ib] 9);have d6:=Zf W (.cells #[.string iA,.string iB,.string ib] 9);obtain⟨Ax,rfl,a9⟩:=xw (nv:=.slice (some ⟨W.heap.size,0,none⟩) 3 3) (l0.later f8) ⟨by decide,_,3,rfl,by decide,fun i a ha=>by
   match i,ha with
   |0,ha=>(obtain rfl:=Zi ha;exact⟨W.heap.size,0,rfl,aa d6 (j:=0) rfl⟩)
   |1,ha=>(obtain rfl:=Zi ha;exact⟨W.heap.size,0,rfl,aa d6 (j:=1) rfl⟩)
   |2,ha=>(obtain rfl:=Zi ha;exact⟨W.heap.size,0,rfl,aa d6 (j:=2) rfl⟩)⟩
  have b0:=H8 a9;have n9:=H8 (And.intro hk (And.intro hE (And.intro hB hN)));have o2:=H8 (show fl l (gF us).length c1.out (pre ++ [x])=fl l (gF us).length c1.out pre ++ [en] by rw[ux,f6]);have k6:=H8 (show(fl l (gF us).length c1.out pre).length<=1000000 by rw[wj];have:=Hn.out;omega);clear q9;generalize fl l (gF us).length c1.out pre=lp0 at *;rw[k2];clear hu he k2 i0 k0 f6 l0 d6 a9 hk hE hB hN
  gi_wp2_with fail
  refine⟨trivial,?_⟩;refine(CallsIn.inRound lp (callsIn_wide.2 b0.out)).mono ?_;rintro e2 W2 ⟨vt,rfl,b9,c3⟩;obtain⟨A3,q3,rfl,-,-,k4⟩:=af b9;obtain⟨b3,rfl⟩:=k4 (by simp);have t0:W2.cell? ⟨b3,0,none⟩=some (.string en.eAt):=(aK b9 rfl 0 (by simp)).trans rfl;have t1:W2.cell? ⟨b3,1,none⟩=some (.string en.eSch):=(aK b9 rfl 1 (by simp)).trans rfl;have t2:W2.cell? ⟨b3,2,none⟩=some (.string en.eKw):=(aK b9 rfl 2 (by simp)).trans rfl;obtain⟨hk,hE,hB,hN⟩:=n9.out;have a5:=ak f8 c3;have d4:=hk.later a5;have l1:bJ W2 (w6.heap.size+2) v lp0:=ag hE a5 (Zb _);have q5:w6.heap.size<W2.heap.size:=d4.lt;have k8:=d4.alloc (.cells #[.string en.eAt,.string en.eSch,.string en.eKw] 34);have i9:bJ (W2.alloc (.cells #[.string en.eAt,.string en.eSch,.string en.eKw] 34)).drew (w6.heap.size+2) v lp0:=ag l1 (ac _ _).drew (Zb _);have n0:w6.heap.size+2<=W2.heap.size:=Zc hN a5.size;have hS:W2.cell? ⟨w6.heap.size,0,none⟩=some v/\W2.cell? ⟨b3,0,none⟩=some (.string en.eAt)/\W2.cell? ⟨b3,1,none⟩=some (.string en.eSch)/\W2.cell? ⟨b3,2,none⟩=some (.string en.eKw):=⟨d4.cell,t0,t1,t2⟩;have HS:=H8 hS;have h7:=H8 i9;have c0:=H8 a5;have r2:=H8 n0;have r1:=H8 (show ∀ (j:Nat) u,(dh en)[j]?=some u->(W2.alloc (.cells #[.string en.eAt,.string en.eSch,.string en.eKw] 34)).drew.cell? ⟨W2.heap.size,j,none⟩=some u from ar W2 (dh en) 34);have b8:=H8 (show w6.heap.size+2<=(W2.alloc (.cells #[.string en.eAt,.string en.eSch,.string en.eKw] 34)).drew.heap.size by simp;omega);have f1:=H8 (show ∀r,v.ownBlock=some r->r≠b3 from fun r e h=>by
   have h1:=(World.ownsRow.lt hE r e).2;have h2:=(al b9 (g:=b3) rfl).1;simp at h2;omega)
  have f0:=H8 (show(W2.alloc (.cells #[.string en.eAt,.string en.eSch,.string en.eKw] 34)).drew.cell? ⟨b3,0,none⟩=some (.string en.eAt)/\(W2.alloc (.cells #[.string en.eAt,.string en.eSch,.string en.eKw] 34)).drew.cell? ⟨b3,1,none⟩=some (.string en.eSch)/\(W2.alloc (.cells #[.string en.eAt,.string en.eSch,.string en.eKw] 34)).drew.cell? ⟨b3,2,none⟩=some (.string en.eKw) from⟨Zg (ac _ _).drew t0,Zg (ac _ _).drew t1,Zg (ac _ _).drew t2⟩);have p1:=H8 (show Bx (W2.alloc (.cells #[.string en.eAt,.string en.eSch,.string en.eKw] 34)).drew w6.heap.size 22 v from k8);clear b9 k4 t0 t1 t2 hk hE hB hN d4 l1 q5 k8 i9 c3 f8 a5 hS n0 b0
  gi_wp2_with fail
  refine Fj (S:=fun w'=>w'.cell? ⟨w6.heap.size,0,none⟩=some v/\w'.cell? ⟨b3,0,none⟩=some (.string en.eAt)/\w'.cell? ⟨b3,1,none⟩=some (.string en.eSch)/\w'.cell? ⟨b3,2,none⟩=some (.string en.eKw)) (by kernel_rfl) (by kernel_rfl) 13 (HS.out) (fun a0=>?_);refine tZ 0 a0 ?_;refine tZ 1 a0 ?_;refine tZ 2 a0 ?_;refine tZ 3 a0 ?_;refine tZ 4 a0 ?_;refine tZ 5 a0 ?_
  try simp only[Act.put,jP,jQ,jR]
  refine tZ 6 a0 ?_;refine tZ 7 a0 ?_;refine tZ 8 a0 ?_;refine tZ 9 a0 ?_;refine tZ 10 a0 ?_
  try simp only[Act.put,jP,jQ,jR]
  refine rZ 11 fun K hK=>?_
  go_simp;have q6:=(show Below W2.heap.size W2 (W2.alloc (.cells #[.string en.eAt,.string en.eSch,.string en.eKw] 34)) from ac _ _);have q7:=(And.intro (Zg q6 HS.out.1) (And.intro (Zg q6 HS.out.2.1) (And.intro (Zg q6 HS.out.2.2.1) (Zg q6 HS.out.2.2.2))));clear q6;refine hK.out _ _ (fun _=>q7) (fun a0=>?_);clear hK K;have a0:=a0 (by decide)
  try simp only[Act.put,jP,jQ,jR]
  refine rZ 12 fun K hK=>?_
  refine nZ sV h7.out r1.out b8.out ?_ (h1:=(by simp[dh,Value.oneCell'])) (hlen:=by have:=k6.out;unfold maxLen;omega) (hby:=by have:=k6.out;omega);intro v7 w7 h1 h2 h3;obtain⟨A7,q7,rfl,-⟩:=af h1;have g8:=aA (Ze _ _) h7.out b8.out h2;have k7:=p1.out.below g8 (by omega);have S7:=And.intro k7.cell (And.intro (h2.cell f0.out.1 (fun e=>f1.out _ e.symm rfl)) (And.intro (h2.cell f0.out.2.1 (fun e=>f1.out _ e.symm rfl)) (h2.cell f0.out.2.2 (fun e=>f1.out _ e.symm rfl))));have p0:=H8 h1;have r0:=H8 h2;have h8:=H8 g8;have p2:=H8 k7;have c7:=k7.cell;have f7:=k7.frozen;clear h1 h2 h3 g8 k7;refine hK.out _ _ (fun _=>S7) (fun a0=>?_);clear hK K;have a0:=a0 (by decide)
  try simp only[Act.put,jP,jQ,jR]
  refine rZ 13 fun K hK=>?_
  go_simp;refine hK.out _ _ (fun h=>absurd rfl h) (fun _=>?_);clear hK K
  try simp only[Act.put,jP,jQ,jR]
  refine aI (by kernel_rfl) (NoPanic.normal ?_) _;obtain⟨-,-,hB,-⟩:=n9.out;refine⟨rfl,?_,?_,⟨_,p2.out.set _,?_⟩,?_,?_⟩
  ·exact(iF c0.out).trans ((KeepsOthers.alloc _ _).trans ((KeepsOthers.drew _).trans ((KeepsOthers.of_grownBy r0.out (fun j o e ho=>by
    obtain⟨-,cur,f5⟩:=al h7.out e;rw[f5] at ho
    cases ho
    rfl)).trans (KeepsOthers.setCell ..))))
  ·exact(kP.of_below c0.out).t ((kP.of_below (ac _ _).drew).t ((kP.of_low h8.out).t (kP.set _ _)))
  ·rw[o2.out];unfold bJ;rw[<-eO,List.length_append];exact ownsRow_setCell_below p0.out (a:=⟨w6.heap.size,0,none⟩) (by show w6.heap.size<w6.heap.size+2;omega) _
  ·have h1:=hB.trans (c0.out.mono hB.size);have h2:=h1.trans (((ac W2 (.cells #[.string en.eAt,.string en.eSch,.string en.eKw] 34)).drew).mono h1.size);exact(h2.trans (h8.out.mono (Nat.le_add_right _ _))).setCell (p:=⟨w6.heap.size,0,none⟩) (Zb _) _
  ·rw[World.size_setCell];exact Zc b8.out h8.out.size
