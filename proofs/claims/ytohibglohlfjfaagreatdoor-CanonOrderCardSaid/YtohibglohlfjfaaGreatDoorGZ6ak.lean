import Derived.Test.YtohibglohlfjfaaGreatDoorGZ6aj
set_option linter.unusedVariables false
set_option linter.unusedSimpArgs false
set_option maxHeartbeats 64000000
set_option maxRecDepth 100000
namespace Go.Proofs.YtohibglohlfjfaaGreatDoor
open Go.RowKit
variable {cs old:Array Value}{xs:List UInt8}{us:List Value}{at_ g rb:Nat}{e:TypeId}{u v:Value}{w w':World}
theorem iG (g o:Nat):∀ (vs:List Value) (i:Nat),storeCells ⟨g,o,none⟩ vs i=storeCells ⟨g,0,none⟩ vs (o+i)
 | [],_=>rfl
 |v::vs,i=>by
  have e:(⟨g,o,none⟩:Addr).add i= (⟨g,0,none⟩:Addr).add (o+i):=by
   unfold Addr.add
   split <;> split <;> simp_all <;> omega
  unfold storeCells;rw[e,iG g o vs (i+1),Nat.add_assoc]
theorem df {ops:Array Oper}{rest:List Oper}{o:Oper}{a:Act}{Q:Exit->Act->World->Prop}(a1:o.guard=none)(ty:TypeId)(x y:Operand)(ho:o.op =.store ty x y)
  (hd:o.dst=none) (g p:Nat) (cells new:Array Value) (hx:a.eval x =.pointer (some ⟨g,p,none⟩)) (hy:a.eval y =.agg cells)
  (t:TypeId) (old:Array Value) (hg:w.heap[g]?=some (.cells old t (0,0))) (hi:(Tryz.prog.info? ty).map (·.size)=some cells.size)
  (a0:p+cells.size=old.size) (h1:cells.all (·.oneCell')=true) (hn:(old.toList.take p++cells.toList).toArray=new)
  (h:wpList Tryz.prog ops Q rest a (w.setRow g new)):wpList Tryz.prog ops Q (o::rest) a w:=by
 have:=run_storeCells_from (P:=Tryz.prog) g t cells.toList p old w hg (by simpa using a0) (fun v hv=>(Array.all_eq_true_iff_forall_mem.1 h1) v (by simpa using hv));have e:=iG g p cells.toList 0;rw[Nat.add_zero] at e;rw[<-e,hn] at this;have a2:(storeVar ty ⟨g,p,none⟩ (.agg cells)).run Tryz.prog w =.ok () (w.setRow g new):=by
  cases hq:Tryz.prog.info? ty with
  |none=>simp[hq] at hi
  |some i=>
   have hs:cells.size=i.size:=by simp[hq] at hi;omega
   simp[storeVar,sizeOf,typeInfo,hq,Value.cells,hs,this]
 refine wpList_plain a1 fun _ hK=>?_
 unfold Oper.wp execOp;simp only[ho,hx,hy,Instr.storeAt,Instr.sureAddr,Sem.run_bind,Sem.run_pure,Result.andThen_ok,a2];refine hK _ _ ?_;rw[hd];exact h
def TR (t:TypeId):Prop:=t=239\/t=148
def Rk (rb:Nat)(w w':World):Prop:=Below rb w w'/\aG TR w w'
theorem Rk.refl (rb:Nat)(w:World):Rk rb w w:=⟨Ze _ _,aG.refl _ _⟩
theorem Rk.trans {a b c:World}(h:Rk rb a b)(k:Rk rb b c):Rk rb a c:=⟨h.1.trans k.1,h.2.trans k.2⟩
theorem Rk.of_below (h:Below w.heap.size w w')(hr:rb<=w.heap.size):Rk rb w w':=⟨h.mono hr,aG.of_below _ h⟩
theorem Rk.row (h:Rk rb w w'){z:Nat×Nat}(hg:w.heap[g]?=some (.cells cs e z))(he:¬TR e):w'.heap[g]?=some (.cells cs e z):=h.2.2 g cs e z hg he
def eC (bv:Value)(at_:Nat)(L:Fin 6->Int)(m:Fin 4->Int)(ev:Value)(c h l:Int)(s:Value):Array Value:=
 #[bv, .int .i64 at_, .int .i64 (L 0), .int .i64 (L 1), .int .i64 (L 2), .int .i64 (L 3), .int .i64 (L 4), .int .i64 (L 5), .int .i64 (m 0), .int .i64 (m 1), .int .i64 (m 2), .int .i64 (m 3), ev, .int .i64 c, .int .i64 h, .int .i64 l, s]
def Rd (xs:List UInt8)(rb:Nat)(w:World)(at_ k:Nat)(c:Int):Prop:= ∃ (bA:Option Addr) (bc:Nat) (eA:Option Addr) (ec:Nat) (sA:Option Addr) (sn sc:Nat) (L:Fin 6->Int) (m:Fin 4->Int) (h l:Int) (us:List Value) (w0:World),
 w.heap[rb]?=some (.cells (eC (.slice bA xs.length bc) at_ L m (.slice eA k ec) c h l (.slice sA sn sc)) 148 (0,0))/\Bs w0 (.slice bA xs.length bc) xs/\w0.heap.size<=rb/\Below rb w0 w/\w.ownsRow (rb+1) 239 5 (.slice eA k ec) k us/\at_<=xs.length/\k<=at_
theorem Rd.lt {k:Nat}{c:Int}(h:Rd xs rb w at_ k c):rb<w.heap.size:=by
 obtain⟨_,_,_,_,_,_,_,_,_,_,_,_,_,h,_⟩:=h;exact ae h
theorem Rd.below {k:Nat}{c:Int}(h:Rd xs rb w at_ k c)(hb:Below w.heap.size w w'):Rd xs rb w' at_ k c:=by
 have hlt:=h.lt;obtain⟨a1,a2,a3,a4,a5,a6,a7,L,m,hh,l,us,w0,h1,h2,h3,h4,h5,h6⟩:=h;exact⟨a1,a2,a3,a4,a5,a6,a7,L,m,hh,l,us,w0,(hb.block _ hlt).trans h1,h2,h3,h4.trans (hb.mono (Zj hlt)),ao h5 hb (Zb _),h6⟩
theorem Rk.set {z:Nat×Nat}(h:w.heap[rb]?=some (.cells cs 148 z))(j:Nat)(u:Value):Rk rb w (w.setCell ⟨rb,j,none⟩ u):=
 ⟨(Ze rb w).setCell (Zb _) u,aG.setCell u (fun cs' e z' h'=>by rw[h] at h';injection h' with h';injection h' with _ h';exact .inr h'.symm)⟩
theorem Rk.setRow {z:Nat×Nat}(h:w.heap[rb]?=some (.cells cs 148 z))(new:Array Value):Rk rb w (w.setRow rb new):=
 ⟨(Ze rb w).grown (ah ..) (Zj (ae h)) (fun g e=>by cases e;exact Zb _),aG.of_grown (ah ..) (fun g e cs' t' z' h'=>by cases e;rw[h] at h';injection h' with h';injection h' with _ h';exact .inr h'.symm)⟩
theorem mY {k:Nat}(new:Array Value)(h:w.ownsRow (rb+1) 239 5 v k us):(w.setRow rb new).ownsRow (rb+1) 239 5 v k us:=
 World.ownsRow.kept h (ah ..) (by
  cases hb:v.ownBlock with
  |none=>exact .inl rfl
  |some g=>exact .inr (fun e=>by injection e with e;have:=(aj h hb).1;omega))
theorem jf {k j:Nat}(h:w.ownsRow (rb+1) 239 5 v k us):(w.setCell ⟨rb,j,none⟩ u).ownsRow (rb+1) 239 5 v k us:=
 ownsRow_setCell_below h (a:=⟨rb,j,none⟩) (Nat.lt_succ_self _) u
def GN (xs:List UInt8)(rb:Nat)(w:World)(at_ k:Nat)(c:Int)(e:Ending)(w':World):Prop:=(∃b:Bool,e =.returned (.bool b))/\Rd xs rb w' at_ k c/\Rk rb w w'/\∀j,j<13->w'.cell? ⟨rb,j,none⟩=w.cell? ⟨rb,j,none⟩
theorem en {k:Nat}{c:Int}(h:Rd xs rb w at_ k c)(c' h' l':Int)(A:Option Addr)(n q:Nat):Calls Tryz.prog 112 #[.pointer (some ⟨rb,0,none⟩),dA c' h' l' (.slice A n q)] w fun e w'=>GN xs rb w at_ k (if c=0 then c' else c) e w':=by
 have hlt:=h.lt;have a0:=ac w (.cells #[.int .i64 c',.int .i64 h',.int .i64 l',.slice A n q] 62);obtain⟨a1,a2,a3,a4,a5,a6,a7,L,m,hh,l,us,w0,h1,h2,h3,h4,h5,h6⟩:=h.below a0;have H:=Qa (And.intro h1 (And.intro h2 (And.intro h3 (And.intro h4 (And.intro h5 h6)))));have b1:=Qa (Rk.of_below a0 (Zj hlt));have c13:=aa h1 (j:=13) (u:=.int .i64 c) rfl;have c14:=aa h1 (j:=14) (u:=.int .i64 hh) rfl;have c15:=aa h1 (j:=15) (u:=.int .i64 l) rfl;have c16:=aa h1 (j:=16) (u:=.slice a5 a6 a7) rfl;have f13:=ak h1 13;have f14:=ak h1 14;have f15:=ak h1 15;have f16:=ak h1 16;have H0:=Qa h;clear h h1 h2 h3 h4 h5 h6 a0;unfold dA;go_enter Tryz.func112,Tryz.ntmps112;have b3:¬rb=w.heap.size:=by omega
 have b0:=Qa hlt;clear hlt
 by_cases hc:c=0
 ·subst hc;have hh:=H.out.1;have b2:=setRow_heap _ _ _ (eC (.slice a1 xs.length a2) at_ L m (.slice a3 k a4) c' h' l' (.slice A n q)) _ _ hh;have d13:=aa b2 (j:=13) (u:=.int .i64 c') rfl;clear b2;have Hh:=Qa hh;clear hh;go_wp2_with (refine df rfl 62 (.tmp 14) (.tmp 12) rfl rfl rb 13 #[.int .i64 c',.int .i64 h',.int .i64 l',.slice A n q] (eC (.slice a1 xs.length a2) at_ L m (.slice a3 k a4) c' h' l' (.slice A n q)) (by simp[Act.eval]) (by simp[Act.eval]) 148 _ Hh.out bi rfl (mF c' h' l' rfl) rfl ?_);go_ret;obtain⟨h1,h2,h3,h4,h5,h6⟩:=H.out;have hs:=Rk.setRow h1 (eC (.slice a1 xs.length a2) at_ L m (.slice a3 k a4) c' h' l' (.slice A n q));refine⟨⟨_,rfl⟩,⟨a1,a2,a3,a4,A,n,q,L,m,h',l',us,w0,setRow_heap _ _ _ _ _ _ h1,h2,h3,h4.trans hs.1,mY _ h5,h6⟩,b1.out.trans hs,fun j hj=>?_⟩;rw[cell_setRow_same _ _ _ _ _ _ _ h1];have a9:w.cell? ⟨rb,j,none⟩= (w.alloc (.cells #[.int .i64 c',.int .i64 h',.int .i64 l',.slice A n q] 62)).cell? ⟨rb,j,none⟩:=by
   unfold World.cell?;rw[(ac w _).block rb b0.out]
  rw[a9];unfold World.cell?;simp only[h1];rcases(by omega:j=0\/j=1\/j=2\/j=3\/j=4\/j=5\/j=6\/j=7\/j=8\/j=9\/j=10\/j=11\/j=12) with rfl|rfl|rfl|rfl|rfl|rfl|rfl|rfl|rfl|rfl|rfl|rfl|rfl <;> rfl
 ·have b4:(c==0)=false:=by simpa using hc
  go_wp2_with fail;go_ret;refine⟨⟨_,rfl⟩,?_,b1.out,fun j _=>by unfold World.cell?;rw[(ac w _).block rb b0.out]⟩
  try rw[if_neg hc]
  exact H0.out.below (ac _ _)
def iH (s:ByteArray):Prop:=fo s.data.toList/\s.size<=6000
def jw (t:Tk):Prop:=(t.kind=4->iH t.str)/\t.num.digits.size<=6000+1/\(t.kind=3->up t.num)
theorem Rk.bs (h:Bs w v xs)(hb:Below w.heap.size w w'):Bs w' v xs:=h.below hb
theorem Rd.other {k:Nat}{c:Int}(h:Rd xs rb w at_ k c){T:TypeId}{z:Nat×Nat}(hg:w.heap[g]?=some (.cells old T z))(hT:¬TR T)(hr:rb<=g)(new:Array Value):Rd xs rb (w.setRow g new) at_ k c:=by
 have hlt:=h.lt;obtain⟨a1,a2,a3,a4,a5,a6,a7,L,m,hh,l,us,w0,h1,h2,h3,h4,h5,h6⟩:=h;have hne:rb≠g:=fun e=>hT (by rw[<-e,h1] at hg;injection hg with hg;injection hg with _ hg;exact .inr hg.symm)
 refine⟨a1,a2,a3,a4,a5,a6,a7,L,m,hh,l,us,w0,(setRow_other _ _ _ _ hne).trans h1,h2,h3,h4.grown (ah ..) (Zj hlt) (fun x e=>by cases e;exact hr),World.ownsRow.kept h5 (ah ..) ?_,h6⟩
 cases hb:(Value.slice a3 k a4).ownBlock with
 |none=>exact .inl rfl
 |some x=>
  obtain⟨_,cur,hx⟩:=aj h5 hb;exact .inr (fun e=>by injection e with e;subst e;rw[hx] at hg;injection hg with hg;injection hg with _ hg;exact hT (.inl hg.symm))
theorem Rk.fresh (h:Rk rb w w')(hg:w.heap.size<=g)(hr:rb<=w.heap.size)(new:Array Value):Rk rb w (w'.setRow g new):=
 ⟨h.1.grown (ah ..) (Zc hr h.2.1) (fun x e=>by cases e;omega),by rw[setRow_size];exact h.2.1,fun x cs e z hx he=>by
  have hlt:=ae hx;rw[setRow_other _ _ _ _ (by omega)];exact h.2.2 x cs e z hx he⟩
theorem cI:¬TR 181:=by unfold TR;decide
theorem FH:¬TR 62:=by unfold TR;decide
def eu (t:Tk):Array Value:= #[.int .i64 t.kind,.int .i64 t.at_,.int .u8 t.mark,.string t.str,.bool t.num.neg,.string t.num.digits,.int .i64 t.num.exp]
def FG (xs:List UInt8)(rb:Nat)(w:World)(at_ k:Nat)(s3 s4 s5:Value)(wx:World):Prop:= ∃ (g3 g5 n:Nat) (t:Tk) (c fh fl:Int) (fA:Option Addr) (fq fr:Nat),
 s3 =.pointer (some ⟨g3,0,none⟩)/\s4 =.int .i64 n/\s5 =.pointer (some ⟨g5,0,none⟩)/\wx.heap[g3]?=some (.cells (eu t) 181 (0,0))/\wx.heap[g5]?=some (.cells #[.int .i64 c,.int .i64 fh,.int .i64 fl,.slice fA fq fr] 62 (0,0))/\
 wx.heap[w.heap.size]?=some (.cells (eu Ev) 181 (0,0))/\Rd xs rb wx at_ k 0/\Rk rb w wx/\w.heap.size<g3/\at_+n<=xs.length/\(c=0->(t.kind≠5->1<=n)/\jw t)
def Gp (xs:List UInt8)(rb:Nat)(w:World)(at_ k:Nat)(e:Ending)(w':World):Prop:= ∃ (t:Tk) (at':Nat) (c:Int),e =.returned (kk t)/\Rd xs rb w' at' k c/\Rk rb w w'/\at_<=at'/\(c=0->(t.kind≠5->at_+1<=at')/\jw t)
theorem dc {k:Nat}(h:Rd xs rb w at_ k 0)(hl:xs.length<=6000):Calls Tryz.prog 83 #[.pointer (some ⟨rb,0,none⟩)] w (Gp xs rb w at_ k):=by
 have hlt:=h.lt;have f9:=ac w (.cells #[.int .i64 0,.int .i64 0,.int .u8 0,.string es,.bool false,.string es,.int .i64 0] 181);have d9:=Zf w (.cells #[.int .i64 0,.int .i64 0,.int .u8 0,.string es,.bool false,.string es,.int .i64 0] 181);have hR:=h.below f9;obtain⟨a1,a2,a3,a4,a5,a6,a7,L,m,hh,l,us,w0,h1,h2,h3,h4,h5,h6,h7⟩:=id hR;have g0:Bs (w.alloc (.cells #[.int .i64 0,.int .i64 0,.int .u8 0,.string es,.bool false,.string es,.int .i64 0] 181)) (.slice a1 xs.length a2) xs:=h2.below (h4.mono (by omega));have c3:=Qa g0;have HR:=Qa hR;have b8:=Qa d9;have b9:=Qa (Rk.of_below f9 (Zj hlt));have c0:=aa h1 (j:=0) (u:=.slice a1 xs.length a2) rfl;have c1:=aa h1 (j:=1) (u:=.int .i64 at_) rfl;clear h h1 h2 h3 h4 h5 h7 f9 d9 g0 hR;go_enter Tryz.func83,Tryz.ntmps83;go_wp2_with fail;generalize (w.alloc (.cells #[.int .i64 0,.int .i64 0,.int .u8 0,.string es,.bool false,.string es,.int .i64 0] 181))=w1 at *;go_cut [3,4,5] (fun s3 s4 s5 wx=>FG xs rb w at_ k s3 s4 s5 wx)
 case first=>
  have HR:=Qa (show Rd xs rb w1.drew at_ k 0 from HR.out.below (Ze w1.heap.size w1).drew);have c3:=Qa (c3.out.below (Ze w1.heap.size w1).drew);have b8:=Qa (show w1.drew.heap[w.heap.size]?=_ from b8.out);have b9:=Qa (b9.out.trans (Rk.of_below (Ze w1.heap.size w1).drew (Zc (Zj hlt) b9.out.2.1)));have c01:=And.intro c0 c1;have C01:=Qa (show w1.drew.cell? ⟨rb,0,none⟩=some (.slice a1 xs.length a2)/\w1.drew.cell? ⟨rb,1,none⟩=some (.int .i64 at_) from c01);clear c01 c0 c1;generalize hwq:w1.drew=wq at HR c3 b8 b9 C01;refine aA (fun w'=>w'.cell? ⟨rb,0,none⟩=some (.slice a1 xs.length a2)/\w'.cell? ⟨rb,1,none⟩=some (.int .i64 at_)) ((by rw[hwq];exact C01.out)) fun a0=>?_
  rw[hwq] at a0 ⊢;clear hwq;refine tH 0 a0 ?_;refine tH 1 a0 ?_;refine tH 2 a0 ?_;refine tH 3 a0 ?_;refine tH 4 a0 ?_;refine tH 5 a0 ?_
  try simp only[Act.put,jP,jQ,jR]
  refine tH 6 a0 ?_;refine tH 7 a0 ?_
  try simp only[Act.put,jP,jQ,jR]
  refine wpAnyH_ready (rs:= [8,13,14]) (by kernel_rfl) (by simp) ?_;refine AllReadyH.cons (nu rfl) (fun K hK=>?_) (AllReadyH.cons (nu rfl) (fun K hK=>?_) (AllReadyH.cons (nu rfl) (fun K hK=>?_) AllReadyH.nil));go_simp;refine(gF c3.out (by omega) h6).mono ?_;rintro e wn ⟨t,n,c,u,rfl,⟨fh,fl,fs,rfl,d4⟩,hb,c9,d6,d5,c2⟩;have c7:c=0->(t.kind≠5->1<=n)/\jw t:=(fun h=>⟨(c2 h).1,fun h4=>⟨(c2 h).2.1 h4,by omega⟩,by omega,(c2 h).2.2⟩);obtain⟨fA,fq,fr,rfl,-⟩:=d4.slice;have e3:=Qa c9;have e0:=Qa c7;clear c9 c7 c2 d6 d5 d4;have HR:=Qa (HR.out.below hb);have c3:=Qa (c3.out.below hb);have b9:=Qa (b9.out.trans (Rk.of_below hb (Zc (Zj hlt) b9.out.2.1)));have b8:=Qa ((hb.block _ (ae b8.out)).trans b8.out);(try have a9:=Qa ((hb.block _ (ae a9.out)).trans a9.out));(try have b0:=Qa ((hb.block _ (ae b0.out)).trans b0.out));obtain⟨wq,hwq⟩:∃x,x=wn:=⟨_,rfl⟩;subst hwq;go_wp2_with fail;refine hK.out _ _ (⟨Zg hb a0.1,Zg hb a0.2⟩) (fun a0=>?_);clear hK K
  try simp only[Act.put,jP,jQ,jR]
  refine tH 9 a0 ?_;refine tH 10 a0 ?_;refine tH 11 a0 ?_;refine tH 12 a0 ?_
  try simp only[Act.put,jP,jQ,jR]
  refine wpAnyH_ready (rs:= [13,14]) (by kernel_rfl) (by simp) ?_;refine AllReadyH.cons (nu rfl) (fun K hK=>?_) (AllReadyH.cons (nu rfl) (fun K hK=>?_) AllReadyH.nil);go_simp;have hb:=ac wq (.cells #[.int .i64 0,.int .i64 0,.int .u8 0,.string es,.bool false,.string es,.int .i64 0] 181);have c6:=Zf wq (.cells #[.int .i64 0,.int .i64 0,.int .u8 0,.string es,.bool false,.string es,.int .i64 0] 181);obtain⟨g3,d2⟩:∃g,wq.heap.size=g:=⟨_,rfl⟩;have d0:=Qa (show w.heap.size<g3 by rw[<-d2];exact ae b8.out);have HR:=Qa (HR.out.below hb);have c3:=Qa (c3.out.below hb);have b9:=Qa (b9.out.trans (Rk.of_below hb (Zc (Zj hlt) b9.out.2.1)));have b8:=Qa ((hb.block _ (ae b8.out)).trans b8.out);(try have a9:=Qa ((hb.block _ (ae a9.out)).trans a9.out));(try have b0:=Qa ((hb.block _ (ae b0.out)).trans b0.out));have a9:=Qa c6;rw[d2] at a9 ⊢;obtain⟨wn,c4⟩:∃x,wq.alloc (.cells #[.int .i64 0,.int .i64 0,.int .u8 0,.string es,.bool false,.string es,.int .i64 0] 181)=x:=⟨_,rfl⟩;rw[c4] at HR c3 b9 b8 a9 hb ⊢;(try rw[c4] at a9);(try rw[c4] at b0);obtain⟨wq,hwq⟩:∃x,x=wn:=⟨_,rfl⟩;subst hwq;clear c6;refine hK.out _ _ (⟨Zg hb a0.1,Zg hb a0.2⟩) (fun a0=>?_);clear hK K
  try simp only[Act.put,jP,jQ,jR]
  refine rH 14 fun K hK=>?_
  go_simp;have hb:=ac wq (.cells #[.int .i64 0,.int .i64 0,.int .i64 0,.slice none 0 0] 62);have c5:=Zf wq (.cells #[.int .i64 0,.int .i64 0,.int .i64 0,.slice none 0 0] 62);obtain⟨g5,d3⟩:∃g,wq.heap.size=g:=⟨_,rfl⟩;have d1:=Qa (show w.heap.size<g5 by rw[<-d3];exact ae b8.out);have HR:=Qa (HR.out.below hb);have c3:=Qa (c3.out.below hb);have b9:=Qa (b9.out.trans (Rk.of_below hb (Zc (Zj hlt) b9.out.2.1)));have b8:=Qa ((hb.block _ (ae b8.out)).trans b8.out);(try have a9:=Qa ((hb.block _ (ae a9.out)).trans a9.out));(try have b0:=Qa ((hb.block _ (ae b0.out)).trans b0.out));have b0:=Qa c5;rw[d3] at b0 ⊢;obtain⟨wn,c4⟩:∃x,wq.alloc (.cells #[.int .i64 0,.int .i64 0,.int .i64 0,.slice none 0 0] 62)=x:=⟨_,rfl⟩;rw[c4] at HR c3 b9 b8 b0 hb ⊢;(try rw[c4] at a9);(try rw[c4] at b0);obtain⟨wq,hwq⟩:∃x,x=wn:=⟨_,rfl⟩;subst hwq;clear c5;refine hK.out _ _ (⟨Zg hb a0.1,Zg hb a0.2⟩) (fun a0=>?_);clear hK K
  try simp only[Act.put,jP,jQ,jR]
  rotate_left
  go_simp;have hb:=ac wq (.cells #[.int .i64 0,.int .i64 0,.int .i64 0,.slice none 0 0] 62);have c5:=Zf wq (.cells #[.int .i64 0,.int .i64 0,.int .i64 0,.slice none 0 0] 62);obtain⟨g5,d3⟩:∃g,wq.heap.size=g:=⟨_,rfl⟩;have d1:=Qa (show w.heap.size<g5 by rw[<-d3];exact ae b8.out);have HR:=Qa (HR.out.below hb);have c3:=Qa (c3.out.below hb);have b9:=Qa (b9.out.trans (Rk.of_below hb (Zc (Zj hlt) b9.out.2.1)));have b8:=Qa ((hb.block _ (ae b8.out)).trans b8.out);(try have a9:=Qa ((hb.block _ (ae a9.out)).trans a9.out));(try have b0:=Qa ((hb.block _ (ae b0.out)).trans b0.out));have b0:=Qa c5;rw[d3] at b0 ⊢;obtain⟨wn,c4⟩:∃x,wq.alloc (.cells #[.int .i64 0,.int .i64 0,.int .i64 0,.slice none 0 0] 62)=x:=⟨_,rfl⟩;rw[c4] at HR c3 b9 b8 b0 hb ⊢;(try rw[c4] at a9);(try rw[c4] at b0);obtain⟨wq,hwq⟩:∃x,x=wn:=⟨_,rfl⟩;subst hwq;clear c5;refine hK.out _ _ (⟨Zg hb a0.1,Zg hb a0.2⟩) (fun a0=>?_);clear hK K
  try simp only[Act.put,jP,jQ,jR]
  refine rH 13 fun K hK=>?_
  go_simp;have hb:=ac wq (.cells #[.int .i64 0,.int .i64 0,.int .u8 0,.string es,.bool false,.string es,.int .i64 0] 181);have c6:=Zf wq (.cells #[.int .i64 0,.int .i64 0,.int .u8 0,.string es,.bool false,.string es,.int .i64 0] 181);obtain⟨g3,d2⟩:∃g,wq.heap.size=g:=⟨_,rfl⟩;have d0:=Qa (show w.heap.size<g3 by rw[<-d2];exact ae b8.out);have HR:=Qa (HR.out.below hb);have c3:=Qa (c3.out.below hb);have b9:=Qa (b9.out.trans (Rk.of_below hb (Zc (Zj hlt) b9.out.2.1)));have b8:=Qa ((hb.block _ (ae b8.out)).trans b8.out);(try have a9:=Qa ((hb.block _ (ae a9.out)).trans a9.out));(try have b0:=Qa ((hb.block _ (ae b0.out)).trans b0.out));have a9:=Qa c6;rw[d2] at a9 ⊢;obtain⟨wn,c4⟩:∃x,wq.alloc (.cells #[.int .i64 0,.int .i64 0,.int .u8 0,.string es,.bool false,.string es,.int .i64 0] 181)=x:=⟨_,rfl⟩;rw[c4] at HR c3 b9 b8 a9 hb ⊢;(try rw[c4] at a9);(try rw[c4] at b0);obtain⟨wq,hwq⟩:∃x,x=wn:=⟨_,rfl⟩;subst hwq;clear c6;refine hK.out _ _ (⟨Zg hb a0.1,Zg hb a0.2⟩) (fun a0=>?_);clear hK K
  try simp only[Act.put,jP,jQ,jR]
  rotate_left
  go_simp;have hb:=ac wq (.cells #[.int .i64 0,.int .i64 0,.int .u8 0,.string es,.bool false,.string es,.int .i64 0] 181);have c6:=Zf wq (.cells #[.int .i64 0,.int .i64 0,.int .u8 0,.string es,.bool false,.string es,.int .i64 0] 181);obtain⟨g3,d2⟩:∃g,wq.heap.size=g:=⟨_,rfl⟩;have d0:=Qa (show w.heap.size<g3 by rw[<-d2];exact ae b8.out);have HR:=Qa (HR.out.below hb);have c3:=Qa (c3.out.below hb);have b9:=Qa (b9.out.trans (Rk.of_below hb (Zc (Zj hlt) b9.out.2.1)));have b8:=Qa ((hb.block _ (ae b8.out)).trans b8.out);(try have a9:=Qa ((hb.block _ (ae a9.out)).trans a9.out));(try have b0:=Qa ((hb.block _ (ae b0.out)).trans b0.out));have a9:=Qa c6;rw[d2] at a9 ⊢;obtain⟨wn,c4⟩:∃x,wq.alloc (.cells #[.int .i64 0,.int .i64 0,.int .u8 0,.string es,.bool false,.string es,.int .i64 0] 181)=x:=⟨_,rfl⟩;rw[c4] at HR c3 b9 b8 a9 hb ⊢;(try rw[c4] at a9);(try rw[c4] at b0);obtain⟨wq,hwq⟩:∃x,x=wn:=⟨_,rfl⟩;subst hwq;clear c6;refine hK.out _ _ (⟨Zg hb a0.1,Zg hb a0.2⟩) (fun a0=>?_);clear hK K
  try simp only[Act.put,jP,jQ,jR]
  refine wpAnyH_ready (rs:= [8,14]) (by kernel_rfl) (by simp) ?_;refine AllReadyH.cons (nu rfl) (fun K hK=>?_) (AllReadyH.cons (nu rfl) (fun K hK=>?_) AllReadyH.nil);go_simp;refine(gF c3.out (by omega) h6).mono ?_;rintro e wn ⟨t,n,c,u,rfl,⟨fh,fl,fs,rfl,d4⟩,hb,c9,d6,d5,c2⟩;have c7:c=0->(t.kind≠5->1<=n)/\jw t:=(fun h=>⟨(c2 h).1,fun h4=>⟨(c2 h).2.1 h4,by omega⟩,by omega,(c2 h).2.2⟩);obtain⟨fA,fq,fr,rfl,-⟩:=d4.slice;have e3:=Qa c9;have e0:=Qa c7;clear c9 c7 c2 d6 d5 d4;have HR:=Qa (HR.out.below hb);have c3:=Qa (c3.out.below hb);have b9:=Qa (b9.out.trans (Rk.of_below hb (Zc (Zj hlt) b9.out.2.1)));have b8:=Qa ((hb.block _ (ae b8.out)).trans b8.out);(try have a9:=Qa ((hb.block _ (ae a9.out)).trans a9.out));(try have b0:=Qa ((hb.block _ (ae b0.out)).trans b0.out));obtain⟨wq,hwq⟩:∃x,x=wn:=⟨_,rfl⟩;subst hwq;go_wp2_with fail;refine hK.out _ _ (⟨Zg hb a0.1,Zg hb a0.2⟩) (fun a0=>?_);clear hK K
  try simp only[Act.put,jP,jQ,jR]
  refine tH 9 a0 ?_;refine tH 10 a0 ?_;refine tH 11 a0 ?_;refine tH 12 a0 ?_
  try simp only[Act.put,jP,jQ,jR]
  refine rH 14 fun K hK=>?_
  go_simp;have hb:=ac wq (.cells #[.int .i64 0,.int .i64 0,.int .i64 0,.slice none 0 0] 62);have c5:=Zf wq (.cells #[.int .i64 0,.int .i64 0,.int .i64 0,.slice none 0 0] 62);obtain⟨g5,d3⟩:∃g,wq.heap.size=g:=⟨_,rfl⟩;have d1:=Qa (show w.heap.size<g5 by rw[<-d3];exact ae b8.out);have HR:=Qa (HR.out.below hb);have c3:=Qa (c3.out.below hb);have b9:=Qa (b9.out.trans (Rk.of_below hb (Zc (Zj hlt) b9.out.2.1)));have b8:=Qa ((hb.block _ (ae b8.out)).trans b8.out);(try have a9:=Qa ((hb.block _ (ae a9.out)).trans a9.out));(try have b0:=Qa ((hb.block _ (ae b0.out)).trans b0.out));have b0:=Qa c5;rw[d3] at b0 ⊢;obtain⟨wn,c4⟩:∃x,wq.alloc (.cells #[.int .i64 0,.int .i64 0,.int .i64 0,.slice none 0 0] 62)=x:=⟨_,rfl⟩;rw[c4] at HR c3 b9 b8 b0 hb ⊢;(try rw[c4] at a9);(try rw[c4] at b0);obtain⟨wq,hwq⟩:∃x,x=wn:=⟨_,rfl⟩;subst hwq;clear c5;refine hK.out _ _ (⟨Zg hb a0.1,Zg hb a0.2⟩) (fun a0=>?_);clear hK K
  try simp only[Act.put,jP,jQ,jR]
  rotate_left
  go_simp;have hb:=ac wq (.cells #[.int .i64 0,.int .i64 0,.int .i64 0,.slice none 0 0] 62);have c5:=Zf wq (.cells #[.int .i64 0,.int .i64 0,.int .i64 0,.slice none 0 0] 62);obtain⟨g5,d3⟩:∃g,wq.heap.size=g:=⟨_,rfl⟩;have d1:=Qa (show w.heap.size<g5 by rw[<-d3];exact ae b8.out);have HR:=Qa (HR.out.below hb);have c3:=Qa (c3.out.below hb);have b9:=Qa (b9.out.trans (Rk.of_below hb (Zc (Zj hlt) b9.out.2.1)));have b8:=Qa ((hb.block _ (ae b8.out)).trans b8.out);(try have a9:=Qa ((hb.block _ (ae a9.out)).trans a9.out));(try have b0:=Qa ((hb.block _ (ae b0.out)).trans b0.out));have b0:=Qa c5;rw[d3] at b0 ⊢;obtain⟨wn,c4⟩:∃x,wq.alloc (.cells #[.int .i64 0,.int .i64 0,.int .i64 0,.slice none 0 0] 62)=x:=⟨_,rfl⟩;rw[c4] at HR c3 b9 b8 b0 hb ⊢;(try rw[c4] at a9);(try rw[c4] at b0);obtain⟨wq,hwq⟩:∃x,x=wn:=⟨_,rfl⟩;subst hwq;clear c5;refine hK.out _ _ (⟨Zg hb a0.1,Zg hb a0.2⟩) (fun a0=>?_);clear hK K
  try simp only[Act.put,jP,jQ,jR]
  refine rH 8 fun K hK=>?_
  go_simp;refine(gF c3.out (by omega) h6).mono ?_;rintro e wn ⟨t,n,c,u,rfl,⟨fh,fl,fs,rfl,d4⟩,hb,c9,d6,d5,c2⟩;have c7:c=0->(t.kind≠5->1<=n)/\jw t:=(fun h=>⟨(c2 h).1,fun h4=>⟨(c2 h).2.1 h4,by omega⟩,by omega,(c2 h).2.2⟩);obtain⟨fA,fq,fr,rfl,-⟩:=d4.slice;have e3:=Qa c9;have e0:=Qa c7;clear c9 c7 c2 d6 d5 d4;have HR:=Qa (HR.out.below hb);have c3:=Qa (c3.out.below hb);have b9:=Qa (b9.out.trans (Rk.of_below hb (Zc (Zj hlt) b9.out.2.1)));have b8:=Qa ((hb.block _ (ae b8.out)).trans b8.out);(try have a9:=Qa ((hb.block _ (ae a9.out)).trans a9.out));(try have b0:=Qa ((hb.block _ (ae b0.out)).trans b0.out));obtain⟨wq,hwq⟩:∃x,x=wn:=⟨_,rfl⟩;subst hwq;go_wp2_with fail;refine hK.out _ _ (⟨Zg hb a0.1,Zg hb a0.2⟩) (fun a0=>?_);clear hK K
  try simp only[Act.put,jP,jQ,jR]
  refine tH 9 a0 ?_;refine tH 10 a0 ?_;refine tH 11 a0 ?_;refine tH 12 a0 ?_
  try simp only[Act.put,jP,jQ,jR]
  rotate_left
  go_simp;have hb:=ac wq (.cells #[.int .i64 0,.int .i64 0,.int .i64 0,.slice none 0 0] 62);have c5:=Zf wq (.cells #[.int .i64 0,.int .i64 0,.int .i64 0,.slice none 0 0] 62);obtain⟨g5,d3⟩:∃g,wq.heap.size=g:=⟨_,rfl⟩;have d1:=Qa (show w.heap.size<g5 by rw[<-d3];exact ae b8.out);have HR:=Qa (HR.out.below hb);have c3:=Qa (c3.out.below hb);have b9:=Qa (b9.out.trans (Rk.of_below hb (Zc (Zj hlt) b9.out.2.1)));have b8:=Qa ((hb.block _ (ae b8.out)).trans b8.out);(try have a9:=Qa ((hb.block _ (ae a9.out)).trans a9.out));(try have b0:=Qa ((hb.block _ (ae b0.out)).trans b0.out));have b0:=Qa c5;rw[d3] at b0 ⊢;obtain⟨wn,c4⟩:∃x,wq.alloc (.cells #[.int .i64 0,.int .i64 0,.int .i64 0,.slice none 0 0] 62)=x:=⟨_,rfl⟩;rw[c4] at HR c3 b9 b8 b0 hb ⊢;(try rw[c4] at a9);(try rw[c4] at b0);obtain⟨wq,hwq⟩:∃x,x=wn:=⟨_,rfl⟩;subst hwq;clear c5;refine hK.out _ _ (⟨Zg hb a0.1,Zg hb a0.2⟩) (fun a0=>?_);clear hK K
  try simp only[Act.put,jP,jQ,jR]
  refine wpAnyH_ready (rs:= [8,13]) (by kernel_rfl) (by simp) ?_;refine AllReadyH.cons (nu rfl) (fun K hK=>?_) (AllReadyH.cons (nu rfl) (fun K hK=>?_) AllReadyH.nil);go_simp;refine(gF c3.out (by omega) h6).mono ?_;rintro e wn ⟨t,n,c,u,rfl,⟨fh,fl,fs,rfl,d4⟩,hb,c9,d6,d5,c2⟩;have c7:c=0->(t.kind≠5->1<=n)/\jw t:=(fun h=>⟨(c2 h).1,fun h4=>⟨(c2 h).2.1 h4,by omega⟩,by omega,(c2 h).2.2⟩);obtain⟨fA,fq,fr,rfl,-⟩:=d4.slice;have e3:=Qa c9;have e0:=Qa c7;clear c9 c7 c2 d6 d5 d4;have HR:=Qa (HR.out.below hb);have c3:=Qa (c3.out.below hb);have b9:=Qa (b9.out.trans (Rk.of_below hb (Zc (Zj hlt) b9.out.2.1)));have b8:=Qa ((hb.block _ (ae b8.out)).trans b8.out);(try have a9:=Qa ((hb.block _ (ae a9.out)).trans a9.out));(try have b0:=Qa ((hb.block _ (ae b0.out)).trans b0.out));obtain⟨wq,hwq⟩:∃x,x=wn:=⟨_,rfl⟩;subst hwq;go_wp2_with fail;refine hK.out _ _ (⟨Zg hb a0.1,Zg hb a0.2⟩) (fun a0=>?_);clear hK K
  try simp only[Act.put,jP,jQ,jR]
  refine tH 9 a0 ?_;refine tH 10 a0 ?_;refine tH 11 a0 ?_;refine tH 12 a0 ?_
  try simp only[Act.put,jP,jQ,jR]
  refine rH 13 fun K hK=>?_
  go_simp;have hb:=ac wq (.cells #[.int .i64 0,.int .i64 0,.int .u8 0,.string es,.bool false,.string es,.int .i64 0] 181);have c6:=Zf wq (.cells #[.int .i64 0,.int .i64 0,.int .u8 0,.string es,.bool false,.string es,.int .i64 0] 181);obtain⟨g3,d2⟩:∃g,wq.heap.size=g:=⟨_,rfl⟩;have d0:=Qa (show w.heap.size<g3 by rw[<-d2];exact ae b8.out);have HR:=Qa (HR.out.below hb);have c3:=Qa (c3.out.below hb);have b9:=Qa (b9.out.trans (Rk.of_below hb (Zc (Zj hlt) b9.out.2.1)));have b8:=Qa ((hb.block _ (ae b8.out)).trans b8.out);(try have a9:=Qa ((hb.block _ (ae a9.out)).trans a9.out));(try have b0:=Qa ((hb.block _ (ae b0.out)).trans b0.out));have a9:=Qa c6;rw[d2] at a9 ⊢;obtain⟨wn,c4⟩:∃x,wq.alloc (.cells #[.int .i64 0,.int .i64 0,.int .u8 0,.string es,.bool false,.string es,.int .i64 0] 181)=x:=⟨_,rfl⟩;rw[c4] at HR c3 b9 b8 a9 hb ⊢;(try rw[c4] at a9);(try rw[c4] at b0);obtain⟨wq,hwq⟩:∃x,x=wn:=⟨_,rfl⟩;subst hwq;clear c6;refine hK.out _ _ (⟨Zg hb a0.1,Zg hb a0.2⟩) (fun a0=>?_);clear hK K
  try simp only[Act.put,jP,jQ,jR]
  rotate_left
  go_simp;have hb:=ac wq (.cells #[.int .i64 0,.int .i64 0,.int .u8 0,.string es,.bool false,.string es,.int .i64 0] 181);have c6:=Zf wq (.cells #[.int .i64 0,.int .i64 0,.int .u8 0,.string es,.bool false,.string es,.int .i64 0] 181);obtain⟨g3,d2⟩:∃g,wq.heap.size=g:=⟨_,rfl⟩;have d0:=Qa (show w.heap.size<g3 by rw[<-d2];exact ae b8.out);have HR:=Qa (HR.out.below hb);have c3:=Qa (c3.out.below hb);have b9:=Qa (b9.out.trans (Rk.of_below hb (Zc (Zj hlt) b9.out.2.1)));have b8:=Qa ((hb.block _ (ae b8.out)).trans b8.out);(try have a9:=Qa ((hb.block _ (ae a9.out)).trans a9.out));(try have b0:=Qa ((hb.block _ (ae b0.out)).trans b0.out));have a9:=Qa c6;rw[d2] at a9 ⊢;obtain⟨wn,c4⟩:∃x,wq.alloc (.cells #[.int .i64 0,.int .i64 0,.int .u8 0,.string es,.bool false,.string es,.int .i64 0] 181)=x:=⟨_,rfl⟩;rw[c4] at HR c3 b9 b8 a9 hb ⊢;(try rw[c4] at a9);(try rw[c4] at b0);obtain⟨wq,hwq⟩:∃x,x=wn:=⟨_,rfl⟩;subst hwq;clear c6;refine hK.out _ _ (⟨Zg hb a0.1,Zg hb a0.2⟩) (fun a0=>?_);clear hK K
  try simp only[Act.put,jP,jQ,jR]
  refine rH 8 fun K hK=>?_
  go_simp;refine(gF c3.out (by omega) h6).mono ?_;rintro e wn ⟨t,n,c,u,rfl,⟨fh,fl,fs,rfl,d4⟩,hb,c9,d6,d5,c2⟩;have c7:c=0->(t.kind≠5->1<=n)/\jw t:=(fun h=>⟨(c2 h).1,fun h4=>⟨(c2 h).2.1 h4,by omega⟩,by omega,(c2 h).2.2⟩);obtain⟨fA,fq,fr,rfl,-⟩:=d4.slice;have e3:=Qa c9;have e0:=Qa c7;clear c9 c7 c2 d6 d5 d4;have HR:=Qa (HR.out.below hb);have c3:=Qa (c3.out.below hb);have b9:=Qa (b9.out.trans (Rk.of_below hb (Zc (Zj hlt) b9.out.2.1)));have b8:=Qa ((hb.block _ (ae b8.out)).trans b8.out);(try have a9:=Qa ((hb.block _ (ae a9.out)).trans a9.out));(try have b0:=Qa ((hb.block _ (ae b0.out)).trans b0.out));obtain⟨wq,hwq⟩:∃x,x=wn:=⟨_,rfl⟩;subst hwq;go_wp2_with fail;refine hK.out _ _ (⟨Zg hb a0.1,Zg hb a0.2⟩) (fun a0=>?_);clear hK K
  try simp only[Act.put,jP,jQ,jR]
  refine tH 9 a0 ?_;refine tH 10 a0 ?_;refine tH 11 a0 ?_;refine tH 12 a0 ?_
  try simp only[Act.put,jP,jQ,jR]
  rotate_left
  all_goals
   refine rH 15 fun K hK=>?_
   have f6:=Qa (show g5≠g3 from fun e=>by have a:=a9.out;have b:=b0.out;rw[e,a] at b;injection b with b;injection b with _ b;exact absurd b (by decide));refine bM a9.out ?_;refine hK.out _ _ (⟨(ah _ _ _).cell a0.1 (fun e=>by injection e with e;exact Nat.ne_of_lt (Nat.lt_trans hlt d0.out) e),(ah _ _ _).cell a0.2 (fun e=>by injection e with e;exact Nat.ne_of_lt (Nat.lt_trans hlt d0.out) e)⟩) (fun a0=>?_);clear hK K
   try simp only[Act.put,jP,jQ,jR]
   refine tH 16 a0 ?_
   try simp only[Act.put,jP,jQ,jR]
   refine rH 17 fun K hK=>?_
   refine bM ((setRow_other _ _ _ _ f6.out).trans b0.out) ?_;refine hK.out _ _ (⟨(ah _ _ _).cell a0.1 (fun e=>by injection e with e;exact Nat.ne_of_lt (Nat.lt_trans hlt d1.out) e),(ah _ _ _).cell a0.2 (fun e=>by injection e with e;exact Nat.ne_of_lt (Nat.lt_trans hlt d1.out) e)⟩) (fun a0=>?_);clear hK K
   try simp only[Act.put,jP,jQ,jR]
   refine wpAnyH_done (by kernel_rfl) (NoPanic.normal ?_) _;go_wp2_with fail;go_meet
   case rel=>
    have l3:=d0.out;have l5:=d1.out;have x5:=(setRow_other wq g3 g5 (eu t) f6.out).trans b0.out;exact⟨g3,g5,n,t,c,fh,fl,fA,fq,fr,rfl,rfl,rfl,(setRow_other _ _ _ _ (Ne.symm f6.out)).trans (setRow_heap _ _ _ _ _ _ a9.out),setRow_heap _ _ _ _ _ _ x5,(setRow_other _ _ _ _ (by omega)).trans ((setRow_other _ _ _ _ (by omega)).trans b8.out),(HR.out.other a9.out cI (by omega) _).other x5 FH (by omega) _,(b9.out.fresh (by omega) (by omega) _).fresh (by omega) (by omega) _,l3,e3.out,e0.out⟩
 case rest=>
  obtain⟨g3,g5,n,t,c,fh,fl,fA,fq,fr,rfl,rfl,rfl,e5,e6,d9,hR,g2,h8,c9,c7⟩:=hcut;have q0:=aa e6 (j:=0) (u:=.int .i64 c) rfl;have q1:=aa e6 (j:=1) (u:=.int .i64 fh) rfl;have q2:=aa e6 (j:=2) (u:=.int .i64 fl) rfl;have q3:=aa e6 (j:=3) (u:=.slice fA fq fr) rfl;have g7:=Qa hR;have f5:=Qa g2;have a9:=Qa e5;have g6:=Qa d9;have e3:=Qa c9;have e0:=Qa c7;clear hR g2 e5 e6 d9 c9 c7 c0 c1;go_wp2_with fail;refine(en g7.out c fh fl fA fq fr).mono ?_;rintro e wf ⟨⟨b,rfl⟩,f2,f0,-⟩;rw[if_pos rfl] at f2;have e5:=f0.row a9.out cI;have d9:=f0.row g6.out cI;have h9:=f2.lt;obtain⟨b1,b2,b3,b4,b5,b6,b7,L',m',g8,l',us',w0',h1,h2,h3,h4,h5,h0,g9⟩:=id f2;have e1:=aa h1 (j:=1) (u:=.int .i64 at_) rfl;have f1:=ak h1 1;have hs:=au h1 1 (.int .i64 ((at_+n:Nat):Int));have f4:g3≠rb:=by omega
  have f8:w.heap.size≠rb:=by omega
  have c8:=(Below.heap_setCell wf ⟨rb,1,none⟩ (.int .i64 ((at_+n:Nat):Int)) g3 f4).trans e5;have e8:=(Below.heap_setCell wf ⟨rb,1,none⟩ (.int .i64 ((at_+n:Nat):Int)) w.heap.size f8).trans d9;have t0:=aa c8 (j:=0) (u:=.int .i64 t.kind) rfl;have t1:=aa c8 (j:=1) (u:=.int .i64 t.at_) rfl;have t2:=aa c8 (j:=2) (u:=.int .u8 t.mark) rfl;have t3:=aa c8 (j:=3) (u:=.string t.str) rfl;have t4:=aa c8 (j:=4) (u:=.bool t.num.neg) rfl;have t5:=aa c8 (j:=5) (u:=.string t.num.digits) rfl;have t6:=aa c8 (j:=6) (u:=.int .i64 t.num.exp) rfl;have g4:Rd xs rb (wf.setCell ⟨rb,1,none⟩ (.int .i64 ((at_+n:Nat):Int))) (at_+n) k c:=
   ⟨b1,b2,b3,b4,b5,b6,b7,L',m',g8,l',us',w0',hs,h2,h3,h4.trans (Rk.set h1 1 _).1,jf h5,e3.out,by omega⟩
  have e4:=Qa ((f5.out.trans f0).trans (Rk.set h1 1 (.int .i64 ((at_+n:Nat):Int))));have g1:=Qa g4;have f3:=Qa e8;have e2:((at_+n:Nat):Int)= (at_:Int)+n:=by omega
  have hw:=IntWalk.i64_in ((at_:Int)+n) (by have:=e3.out;omega);rw[e2] at t0 t1 t2 t3 t4 t5 t6 e4 g1 f3;clear e5 d9 f2 f0 h1 h2 h3 h4 h5 g9 hs c8 e8 g4 e2 q0 q1 q2 q3;go_wp2_with (refine bF f3.out ?_);exact Zh (results_cell_row Tryz.results83 _ _ w.heap.size 181 (eu t) (0,0) _ (by simp) (setRow_heap _ _ _ _ _ _ f3.out) Tryz.underlying181 rfl da) rfl
   ⟨t,at_+n,c,rfl,g1.out.other f3.out cI (Zj hlt) _,e4.out.fresh (Zb _) (Zj hlt) _,by omega,fun h=>⟨fun h'=>by have:=(e0.out h).1 h';omega,(e0.out h).2⟩⟩
