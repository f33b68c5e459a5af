import Derived.Test.YthknekoamnnhhaaGreatDoorGZ5ae
set_option linter.unusedVariables false
set_option linter.unusedSimpArgs false
set_option maxHeartbeats 64000000
set_option maxRecDepth 100000
namespace Go.Proofs.YthknekoamnnhhaaGreatDoor
open Go.RowKit
variable {old:Array Value}{j:JV}{xs:List UInt8}{us us':List Value}{B at_ g rb:Nat}{v:Value}{W W' w w' w0:World}
def i6 (s:ByteArray):Prop:=fM s.data.toList/\s.size<=6000
def jO (t:Tk):Prop:=(t.kind=4->i6 t.str)/\t.num.digits.size<=6000+1/\(t.kind=3->jS t.num)
theorem Rk.bs (h:Bs w v xs)(hb:Below w.heap.size w w'):Bs w' v xs:=h.below hb
theorem Rd.other {k:Nat}{c:Int}(h:Rd xs rb w at_ k c){T:TypeId}{z:Nat×Nat}(hg:w.heap[g]?=some (.cells old T z))(hT:¬TR T)(hr:rb<=g)(new:Array Value):Rd xs rb (w.setRow g new) at_ k c:=by
 have hlt:=h.lt;obtain⟨a1,a2,a3,a4,a5,a6,a7,L,m,hh,l,us,w0,h1,h2,h3,h4,h5,h6⟩:=h;have hne:rb≠g:=fun e=>hT (by rw[<-e,h1] at hg;injection hg with hg;injection hg with _ hg;exact .inr hg.symm)
 refine⟨a1,a2,a3,a4,a5,a6,a7,L,m,hh,l,us,w0,(setRow_other _ _ _ _ hne).trans h1,h2,h3,h4.grown (ai ..) (Zi hlt) (fun x e=>by cases e;exact hr),World.ownsRow.kept h5 (ai ..) ?_,h6⟩
 cases hb:(Value.slice a3 k a4).ownBlock with
 |none=>exact .inl rfl
 |some x=>
  obtain⟨_,cur,hx⟩:=al h5 hb;exact .inr (fun e=>by injection e with e;subst e;rw[hx] at hg;injection hg with hg;injection hg with _ hg;exact hT (.inl hg.symm))
theorem Rk.fresh (h:Rk rb w w')(hg:w.heap.size<=g)(hr:rb<=w.heap.size)(new:Array Value):Rk rb w (w'.setRow g new):=
 ⟨h.1.grown (ai ..) (Zb hr h.2.1) (fun x e=>by cases e;omega),by rw[setRow_size];exact h.2.1,fun x cs e z hx he=>by
  have hlt:=ae hx;rw[setRow_other _ _ _ _ (by omega)];exact h.2.2 x cs e z hx he⟩
theorem cM:¬TR 205:=by unfold TR;decide
theorem Fv:¬TR 70:=by unfold TR;decide
def eJ (t:Tk):Array Value:= #[.int .i64 t.kind,.int .i64 t.at_,.int .u8 t.mark,.string t.str,.bool t.num.neg,.string t.num.digits,.int .i64 t.num.exp]
def Fl (xs:List UInt8)(rb:Nat)(w:World)(at_ k:Nat)(s3 s4 s5:Value)(wx:World):Prop:= ∃ (g3 g5 n:Nat) (t:Tk) (c fh fl:Int) (fA:Option Addr) (fq fr:Nat),
 s3 =.pointer (some ⟨g3,0,none⟩)/\s4 =.int .i64 n/\s5 =.pointer (some ⟨g5,0,none⟩)/\wx.heap[g3]?=some (.cells (eJ t) 205 (0,0))/\wx.heap[g5]?=some (.cells #[.int .i64 c,.int .i64 fh,.int .i64 fl,.slice fA fq fr] 70 (0,0))/\
 wx.heap[w.heap.size]?=some (.cells (eJ Eh) 205 (0,0))/\Rd xs rb wx at_ k 0/\Rk rb w wx/\w.heap.size<g3/\at_+n<=xs.length/\(c=0->(t.kind≠5->1<=n)/\jO t)
def Gx (xs:List UInt8)(rb:Nat)(w:World)(at_ k:Nat)(e:Ending)(w':World):Prop:= ∃ (t:Tk) (at':Nat) (c:Int),e =.returned (kE t)/\Rd xs rb w' at' k c/\Rk rb w w'/\at_<=at'/\(c=0->(t.kind≠5->at_+1<=at')/\jO t)
theorem df {k:Nat}(h:Rd xs rb w at_ k 0)(hl:xs.length<=6000):Calls Tryz.prog 116 #[.pointer (some ⟨rb,0,none⟩)] w (Gx xs rb w at_ k):=by
 have hlt:=h.lt;have f4:=ac w (.cells #[.int .i64 0,.int .i64 0,.int .u8 0,.string es,.bool false,.string es,.int .i64 0] 205);have e2:=Ze w (.cells #[.int .i64 0,.int .i64 0,.int .u8 0,.string es,.bool false,.string es,.int .i64 0] 205);have hR:=h.below f4;obtain⟨a1,a2,a3,a4,a5,a6,a7,L,m,hh,l,us,w0,h1,h2,h3,h4,h5,h6,h7⟩:=id hR;have g0:Bs (w.alloc (.cells #[.int .i64 0,.int .i64 0,.int .u8 0,.string es,.bool false,.string es,.int .i64 0] 205)) (.slice a1 xs.length a2) xs:=h2.below (h4.mono (by omega));have c3:=Qa g0;have HR:=Qa hR;have b8:=Qa e2;have b9:=Qa (Rk.of_below f4 (Zi hlt));have c0:=aa h1 (j:=0) (u:=.slice a1 xs.length a2) rfl;have c1:=aa h1 (j:=1) (u:=.int .i64 at_) rfl;clear h h1 h2 h3 h4 h5 h7 f4 e2 g0 hR;go_enter Tryz.func116,Tryz.ntmps116;go_wp2_with fail;generalize (w.alloc (.cells #[.int .i64 0,.int .i64 0,.int .u8 0,.string es,.bool false,.string es,.int .i64 0] 205))=w1 at *;go_cut [3,4,5] (fun s3 s4 s5 wx=>Fl xs rb w at_ k s3 s4 s5 wx)
 case first=>
  have HR:=Qa (show Rd xs rb w1.drew at_ k 0 from HR.out.below (Zd w1.heap.size w1).drew);have c3:=Qa (c3.out.below (Zd w1.heap.size w1).drew);have b8:=Qa (show w1.drew.heap[w.heap.size]?=_ from b8.out);have b9:=Qa (b9.out.trans (Rk.of_below (Zd w1.heap.size w1).drew (Zb (Zi hlt) b9.out.2.1)));have c01:=And.intro c0 c1;have C01:=Qa (show w1.drew.cell? ⟨rb,0,none⟩=some (.slice a1 xs.length a2)/\w1.drew.cell? ⟨rb,1,none⟩=some (.int .i64 at_) from c01);clear c01 c0 c1;generalize hwq:w1.drew=wq at HR c3 b8 b9 C01;refine aR (fun w'=>w'.cell? ⟨rb,0,none⟩=some (.slice a1 xs.length a2)/\w'.cell? ⟨rb,1,none⟩=some (.int .i64 at_)) ((by rw[hwq];exact C01.out)) fun a0=>?_
  rw[hwq] at a0 ⊢;clear hwq;refine tH 0 a0 ?_;refine tH 1 a0 ?_;refine tH 2 a0 ?_;refine tH 3 a0 ?_;refine tH 4 a0 ?_;refine tH 5 a0 ?_
  try simp only[Act.put,jP,jQ,jR]
  refine tH 6 a0 ?_;refine tH 7 a0 ?_
  try simp only[Act.put,jP,jQ,jR]
  refine wpAnyH_ready (rs:= [8,13,14]) (by kernel_rfl) (by simp) ?_;refine AllReadyH.cons (o6 rfl) (fun K hK=>?_) (AllReadyH.cons (o6 rfl) (fun K hK=>?_) (AllReadyH.cons (o6 rfl) (fun K hK=>?_) AllReadyH.nil));go_simp;refine(gV c3.out (by omega) h6).mono ?_;rintro e wn ⟨t,n,c,u,rfl,⟨fh,fl,fs,rfl,d3⟩,hb,c9,d5,d6,c2⟩;have c7:c=0->(t.kind≠5->1<=n)/\jO t:=(fun h=>⟨(c2 h).1,fun h4=>⟨(c2 h).2.1 h4,by omega⟩,by omega,(c2 h).2.2⟩);obtain⟨fA,fq,fr,rfl,-⟩:=d3.slice;have e0:=Qa c9;have d9:=Qa c7;clear c9 c7 c2 d5 d6 d3;have HR:=Qa (HR.out.below hb);have c3:=Qa (c3.out.below hb);have b9:=Qa (b9.out.trans (Rk.of_below hb (Zb (Zi hlt) b9.out.2.1)));have b8:=Qa ((hb.block _ (ae b8.out)).trans b8.out);(try have a9:=Qa ((hb.block _ (ae a9.out)).trans a9.out));(try have b0:=Qa ((hb.block _ (ae b0.out)).trans b0.out));obtain⟨wq,hwq⟩:∃x,x=wn:=⟨_,rfl⟩;subst hwq;go_wp2_with fail;refine hK.out _ _ (⟨Zf hb a0.1,Zf hb a0.2⟩) (fun a0=>?_);clear hK K
  try simp only[Act.put,jP,jQ,jR]
  refine tH 9 a0 ?_;refine tH 10 a0 ?_;refine tH 11 a0 ?_;refine tH 12 a0 ?_
  try simp only[Act.put,jP,jQ,jR]
  refine wpAnyH_ready (rs:= [13,14]) (by kernel_rfl) (by simp) ?_;refine AllReadyH.cons (o6 rfl) (fun K hK=>?_) (AllReadyH.cons (o6 rfl) (fun K hK=>?_) AllReadyH.nil);go_simp;have hb:=ac wq (.cells #[.int .i64 0,.int .i64 0,.int .u8 0,.string es,.bool false,.string es,.int .i64 0] 205);have c5:=Ze wq (.cells #[.int .i64 0,.int .i64 0,.int .u8 0,.string es,.bool false,.string es,.int .i64 0] 205);obtain⟨g3,d2⟩:∃g,wq.heap.size=g:=⟨_,rfl⟩;have d1:=Qa (show w.heap.size<g3 by rw[<-d2];exact ae b8.out);have HR:=Qa (HR.out.below hb);have c3:=Qa (c3.out.below hb);have b9:=Qa (b9.out.trans (Rk.of_below hb (Zb (Zi hlt) b9.out.2.1)));have b8:=Qa ((hb.block _ (ae b8.out)).trans b8.out);(try have a9:=Qa ((hb.block _ (ae a9.out)).trans a9.out));(try have b0:=Qa ((hb.block _ (ae b0.out)).trans b0.out));have a9:=Qa c5;rw[d2] at a9 ⊢;obtain⟨wn,c4⟩:∃x,wq.alloc (.cells #[.int .i64 0,.int .i64 0,.int .u8 0,.string es,.bool false,.string es,.int .i64 0] 205)=x:=⟨_,rfl⟩;rw[c4] at HR c3 b9 b8 a9 hb ⊢;(try rw[c4] at a9);(try rw[c4] at b0);obtain⟨wq,hwq⟩:∃x,x=wn:=⟨_,rfl⟩;subst hwq;clear c5;refine hK.out _ _ (⟨Zf hb a0.1,Zf hb a0.2⟩) (fun a0=>?_);clear hK K
  try simp only[Act.put,jP,jQ,jR]
  refine rH 14 fun K hK=>?_
  go_simp;have hb:=ac wq (.cells #[.int .i64 0,.int .i64 0,.int .i64 0,.slice none 0 0] 70);have c6:=Ze wq (.cells #[.int .i64 0,.int .i64 0,.int .i64 0,.slice none 0 0] 70);obtain⟨g5,d4⟩:∃g,wq.heap.size=g:=⟨_,rfl⟩;have d0:=Qa (show w.heap.size<g5 by rw[<-d4];exact ae b8.out);have HR:=Qa (HR.out.below hb);have c3:=Qa (c3.out.below hb);have b9:=Qa (b9.out.trans (Rk.of_below hb (Zb (Zi hlt) b9.out.2.1)));have b8:=Qa ((hb.block _ (ae b8.out)).trans b8.out);(try have a9:=Qa ((hb.block _ (ae a9.out)).trans a9.out));(try have b0:=Qa ((hb.block _ (ae b0.out)).trans b0.out));have b0:=Qa c6;rw[d4] at b0 ⊢;obtain⟨wn,c4⟩:∃x,wq.alloc (.cells #[.int .i64 0,.int .i64 0,.int .i64 0,.slice none 0 0] 70)=x:=⟨_,rfl⟩;rw[c4] at HR c3 b9 b8 b0 hb ⊢;(try rw[c4] at a9);(try rw[c4] at b0);obtain⟨wq,hwq⟩:∃x,x=wn:=⟨_,rfl⟩;subst hwq;clear c6;refine hK.out _ _ (⟨Zf hb a0.1,Zf hb a0.2⟩) (fun a0=>?_);clear hK K
  try simp only[Act.put,jP,jQ,jR]
  rotate_left
  go_simp;have hb:=ac wq (.cells #[.int .i64 0,.int .i64 0,.int .i64 0,.slice none 0 0] 70);have c6:=Ze wq (.cells #[.int .i64 0,.int .i64 0,.int .i64 0,.slice none 0 0] 70);obtain⟨g5,d4⟩:∃g,wq.heap.size=g:=⟨_,rfl⟩;have d0:=Qa (show w.heap.size<g5 by rw[<-d4];exact ae b8.out);have HR:=Qa (HR.out.below hb);have c3:=Qa (c3.out.below hb);have b9:=Qa (b9.out.trans (Rk.of_below hb (Zb (Zi hlt) b9.out.2.1)));have b8:=Qa ((hb.block _ (ae b8.out)).trans b8.out);(try have a9:=Qa ((hb.block _ (ae a9.out)).trans a9.out));(try have b0:=Qa ((hb.block _ (ae b0.out)).trans b0.out));have b0:=Qa c6;rw[d4] at b0 ⊢;obtain⟨wn,c4⟩:∃x,wq.alloc (.cells #[.int .i64 0,.int .i64 0,.int .i64 0,.slice none 0 0] 70)=x:=⟨_,rfl⟩;rw[c4] at HR c3 b9 b8 b0 hb ⊢;(try rw[c4] at a9);(try rw[c4] at b0);obtain⟨wq,hwq⟩:∃x,x=wn:=⟨_,rfl⟩;subst hwq;clear c6;refine hK.out _ _ (⟨Zf hb a0.1,Zf hb a0.2⟩) (fun a0=>?_);clear hK K
  try simp only[Act.put,jP,jQ,jR]
  refine rH 13 fun K hK=>?_
  go_simp;have hb:=ac wq (.cells #[.int .i64 0,.int .i64 0,.int .u8 0,.string es,.bool false,.string es,.int .i64 0] 205);have c5:=Ze wq (.cells #[.int .i64 0,.int .i64 0,.int .u8 0,.string es,.bool false,.string es,.int .i64 0] 205);obtain⟨g3,d2⟩:∃g,wq.heap.size=g:=⟨_,rfl⟩;have d1:=Qa (show w.heap.size<g3 by rw[<-d2];exact ae b8.out);have HR:=Qa (HR.out.below hb);have c3:=Qa (c3.out.below hb);have b9:=Qa (b9.out.trans (Rk.of_below hb (Zb (Zi hlt) b9.out.2.1)));have b8:=Qa ((hb.block _ (ae b8.out)).trans b8.out);(try have a9:=Qa ((hb.block _ (ae a9.out)).trans a9.out));(try have b0:=Qa ((hb.block _ (ae b0.out)).trans b0.out));have a9:=Qa c5;rw[d2] at a9 ⊢;obtain⟨wn,c4⟩:∃x,wq.alloc (.cells #[.int .i64 0,.int .i64 0,.int .u8 0,.string es,.bool false,.string es,.int .i64 0] 205)=x:=⟨_,rfl⟩;rw[c4] at HR c3 b9 b8 a9 hb ⊢;(try rw[c4] at a9);(try rw[c4] at b0);obtain⟨wq,hwq⟩:∃x,x=wn:=⟨_,rfl⟩;subst hwq;clear c5;refine hK.out _ _ (⟨Zf hb a0.1,Zf hb a0.2⟩) (fun a0=>?_);clear hK K
  try simp only[Act.put,jP,jQ,jR]
  rotate_left
  go_simp;have hb:=ac wq (.cells #[.int .i64 0,.int .i64 0,.int .u8 0,.string es,.bool false,.string es,.int .i64 0] 205);have c5:=Ze wq (.cells #[.int .i64 0,.int .i64 0,.int .u8 0,.string es,.bool false,.string es,.int .i64 0] 205);obtain⟨g3,d2⟩:∃g,wq.heap.size=g:=⟨_,rfl⟩;have d1:=Qa (show w.heap.size<g3 by rw[<-d2];exact ae b8.out);have HR:=Qa (HR.out.below hb);have c3:=Qa (c3.out.below hb);have b9:=Qa (b9.out.trans (Rk.of_below hb (Zb (Zi hlt) b9.out.2.1)));have b8:=Qa ((hb.block _ (ae b8.out)).trans b8.out);(try have a9:=Qa ((hb.block _ (ae a9.out)).trans a9.out));(try have b0:=Qa ((hb.block _ (ae b0.out)).trans b0.out));have a9:=Qa c5;rw[d2] at a9 ⊢;obtain⟨wn,c4⟩:∃x,wq.alloc (.cells #[.int .i64 0,.int .i64 0,.int .u8 0,.string es,.bool false,.string es,.int .i64 0] 205)=x:=⟨_,rfl⟩;rw[c4] at HR c3 b9 b8 a9 hb ⊢;(try rw[c4] at a9);(try rw[c4] at b0);obtain⟨wq,hwq⟩:∃x,x=wn:=⟨_,rfl⟩;subst hwq;clear c5;refine hK.out _ _ (⟨Zf hb a0.1,Zf hb a0.2⟩) (fun a0=>?_);clear hK K
  try simp only[Act.put,jP,jQ,jR]
  refine wpAnyH_ready (rs:= [8,14]) (by kernel_rfl) (by simp) ?_;refine AllReadyH.cons (o6 rfl) (fun K hK=>?_) (AllReadyH.cons (o6 rfl) (fun K hK=>?_) AllReadyH.nil);go_simp;refine(gV c3.out (by omega) h6).mono ?_;rintro e wn ⟨t,n,c,u,rfl,⟨fh,fl,fs,rfl,d3⟩,hb,c9,d5,d6,c2⟩;have c7:c=0->(t.kind≠5->1<=n)/\jO t:=(fun h=>⟨(c2 h).1,fun h4=>⟨(c2 h).2.1 h4,by omega⟩,by omega,(c2 h).2.2⟩);obtain⟨fA,fq,fr,rfl,-⟩:=d3.slice;have e0:=Qa c9;have d9:=Qa c7;clear c9 c7 c2 d5 d6 d3;have HR:=Qa (HR.out.below hb);have c3:=Qa (c3.out.below hb);have b9:=Qa (b9.out.trans (Rk.of_below hb (Zb (Zi hlt) b9.out.2.1)));have b8:=Qa ((hb.block _ (ae b8.out)).trans b8.out);(try have a9:=Qa ((hb.block _ (ae a9.out)).trans a9.out));(try have b0:=Qa ((hb.block _ (ae b0.out)).trans b0.out));obtain⟨wq,hwq⟩:∃x,x=wn:=⟨_,rfl⟩;subst hwq;go_wp2_with fail;refine hK.out _ _ (⟨Zf hb a0.1,Zf hb a0.2⟩) (fun a0=>?_);clear hK K
  try simp only[Act.put,jP,jQ,jR]
  refine tH 9 a0 ?_;refine tH 10 a0 ?_;refine tH 11 a0 ?_;refine tH 12 a0 ?_
  try simp only[Act.put,jP,jQ,jR]
  refine rH 14 fun K hK=>?_
  go_simp;have hb:=ac wq (.cells #[.int .i64 0,.int .i64 0,.int .i64 0,.slice none 0 0] 70);have c6:=Ze wq (.cells #[.int .i64 0,.int .i64 0,.int .i64 0,.slice none 0 0] 70);obtain⟨g5,d4⟩:∃g,wq.heap.size=g:=⟨_,rfl⟩;have d0:=Qa (show w.heap.size<g5 by rw[<-d4];exact ae b8.out);have HR:=Qa (HR.out.below hb);have c3:=Qa (c3.out.below hb);have b9:=Qa (b9.out.trans (Rk.of_below hb (Zb (Zi hlt) b9.out.2.1)));have b8:=Qa ((hb.block _ (ae b8.out)).trans b8.out);(try have a9:=Qa ((hb.block _ (ae a9.out)).trans a9.out));(try have b0:=Qa ((hb.block _ (ae b0.out)).trans b0.out));have b0:=Qa c6;rw[d4] at b0 ⊢;obtain⟨wn,c4⟩:∃x,wq.alloc (.cells #[.int .i64 0,.int .i64 0,.int .i64 0,.slice none 0 0] 70)=x:=⟨_,rfl⟩;rw[c4] at HR c3 b9 b8 b0 hb ⊢;(try rw[c4] at a9);(try rw[c4] at b0);obtain⟨wq,hwq⟩:∃x,x=wn:=⟨_,rfl⟩;subst hwq;clear c6;refine hK.out _ _ (⟨Zf hb a0.1,Zf hb a0.2⟩) (fun a0=>?_);clear hK K
  try simp only[Act.put,jP,jQ,jR]
  rotate_left
  go_simp;have hb:=ac wq (.cells #[.int .i64 0,.int .i64 0,.int .i64 0,.slice none 0 0] 70);have c6:=Ze wq (.cells #[.int .i64 0,.int .i64 0,.int .i64 0,.slice none 0 0] 70);obtain⟨g5,d4⟩:∃g,wq.heap.size=g:=⟨_,rfl⟩;have d0:=Qa (show w.heap.size<g5 by rw[<-d4];exact ae b8.out);have HR:=Qa (HR.out.below hb);have c3:=Qa (c3.out.below hb);have b9:=Qa (b9.out.trans (Rk.of_below hb (Zb (Zi hlt) b9.out.2.1)));have b8:=Qa ((hb.block _ (ae b8.out)).trans b8.out);(try have a9:=Qa ((hb.block _ (ae a9.out)).trans a9.out));(try have b0:=Qa ((hb.block _ (ae b0.out)).trans b0.out));have b0:=Qa c6;rw[d4] at b0 ⊢;obtain⟨wn,c4⟩:∃x,wq.alloc (.cells #[.int .i64 0,.int .i64 0,.int .i64 0,.slice none 0 0] 70)=x:=⟨_,rfl⟩;rw[c4] at HR c3 b9 b8 b0 hb ⊢;(try rw[c4] at a9);(try rw[c4] at b0);obtain⟨wq,hwq⟩:∃x,x=wn:=⟨_,rfl⟩;subst hwq;clear c6;refine hK.out _ _ (⟨Zf hb a0.1,Zf hb a0.2⟩) (fun a0=>?_);clear hK K
  try simp only[Act.put,jP,jQ,jR]
  refine rH 8 fun K hK=>?_
  go_simp;refine(gV c3.out (by omega) h6).mono ?_;rintro e wn ⟨t,n,c,u,rfl,⟨fh,fl,fs,rfl,d3⟩,hb,c9,d5,d6,c2⟩;have c7:c=0->(t.kind≠5->1<=n)/\jO t:=(fun h=>⟨(c2 h).1,fun h4=>⟨(c2 h).2.1 h4,by omega⟩,by omega,(c2 h).2.2⟩);obtain⟨fA,fq,fr,rfl,-⟩:=d3.slice;have e0:=Qa c9;have d9:=Qa c7;clear c9 c7 c2 d5 d6 d3;have HR:=Qa (HR.out.below hb);have c3:=Qa (c3.out.below hb);have b9:=Qa (b9.out.trans (Rk.of_below hb (Zb (Zi hlt) b9.out.2.1)));have b8:=Qa ((hb.block _ (ae b8.out)).trans b8.out);(try have a9:=Qa ((hb.block _ (ae a9.out)).trans a9.out));(try have b0:=Qa ((hb.block _ (ae b0.out)).trans b0.out));obtain⟨wq,hwq⟩:∃x,x=wn:=⟨_,rfl⟩;subst hwq;go_wp2_with fail;refine hK.out _ _ (⟨Zf hb a0.1,Zf hb a0.2⟩) (fun a0=>?_);clear hK K
  try simp only[Act.put,jP,jQ,jR]
  refine tH 9 a0 ?_;refine tH 10 a0 ?_;refine tH 11 a0 ?_;refine tH 12 a0 ?_
  try simp only[Act.put,jP,jQ,jR]
  rotate_left
  go_simp;have hb:=ac wq (.cells #[.int .i64 0,.int .i64 0,.int .i64 0,.slice none 0 0] 70);have c6:=Ze wq (.cells #[.int .i64 0,.int .i64 0,.int .i64 0,.slice none 0 0] 70);obtain⟨g5,d4⟩:∃g,wq.heap.size=g:=⟨_,rfl⟩;have d0:=Qa (show w.heap.size<g5 by rw[<-d4];exact ae b8.out);have HR:=Qa (HR.out.below hb);have c3:=Qa (c3.out.below hb);have b9:=Qa (b9.out.trans (Rk.of_below hb (Zb (Zi hlt) b9.out.2.1)));have b8:=Qa ((hb.block _ (ae b8.out)).trans b8.out);(try have a9:=Qa ((hb.block _ (ae a9.out)).trans a9.out));(try have b0:=Qa ((hb.block _ (ae b0.out)).trans b0.out));have b0:=Qa c6;rw[d4] at b0 ⊢;obtain⟨wn,c4⟩:∃x,wq.alloc (.cells #[.int .i64 0,.int .i64 0,.int .i64 0,.slice none 0 0] 70)=x:=⟨_,rfl⟩;rw[c4] at HR c3 b9 b8 b0 hb ⊢;(try rw[c4] at a9);(try rw[c4] at b0);obtain⟨wq,hwq⟩:∃x,x=wn:=⟨_,rfl⟩;subst hwq;clear c6;refine hK.out _ _ (⟨Zf hb a0.1,Zf hb a0.2⟩) (fun a0=>?_);clear hK K
  try simp only[Act.put,jP,jQ,jR]
  refine wpAnyH_ready (rs:= [8,13]) (by kernel_rfl) (by simp) ?_;refine AllReadyH.cons (o6 rfl) (fun K hK=>?_) (AllReadyH.cons (o6 rfl) (fun K hK=>?_) AllReadyH.nil);go_simp;refine(gV c3.out (by omega) h6).mono ?_;rintro e wn ⟨t,n,c,u,rfl,⟨fh,fl,fs,rfl,d3⟩,hb,c9,d5,d6,c2⟩;have c7:c=0->(t.kind≠5->1<=n)/\jO t:=(fun h=>⟨(c2 h).1,fun h4=>⟨(c2 h).2.1 h4,by omega⟩,by omega,(c2 h).2.2⟩);obtain⟨fA,fq,fr,rfl,-⟩:=d3.slice;have e0:=Qa c9;have d9:=Qa c7;clear c9 c7 c2 d5 d6 d3;have HR:=Qa (HR.out.below hb);have c3:=Qa (c3.out.below hb);have b9:=Qa (b9.out.trans (Rk.of_below hb (Zb (Zi hlt) b9.out.2.1)));have b8:=Qa ((hb.block _ (ae b8.out)).trans b8.out);(try have a9:=Qa ((hb.block _ (ae a9.out)).trans a9.out));(try have b0:=Qa ((hb.block _ (ae b0.out)).trans b0.out));obtain⟨wq,hwq⟩:∃x,x=wn:=⟨_,rfl⟩;subst hwq;go_wp2_with fail;refine hK.out _ _ (⟨Zf hb a0.1,Zf hb a0.2⟩) (fun a0=>?_);clear hK K
  try simp only[Act.put,jP,jQ,jR]
  refine tH 9 a0 ?_;refine tH 10 a0 ?_;refine tH 11 a0 ?_;refine tH 12 a0 ?_
  try simp only[Act.put,jP,jQ,jR]
  refine rH 13 fun K hK=>?_
  go_simp;have hb:=ac wq (.cells #[.int .i64 0,.int .i64 0,.int .u8 0,.string es,.bool false,.string es,.int .i64 0] 205);have c5:=Ze wq (.cells #[.int .i64 0,.int .i64 0,.int .u8 0,.string es,.bool false,.string es,.int .i64 0] 205);obtain⟨g3,d2⟩:∃g,wq.heap.size=g:=⟨_,rfl⟩;have d1:=Qa (show w.heap.size<g3 by rw[<-d2];exact ae b8.out);have HR:=Qa (HR.out.below hb);have c3:=Qa (c3.out.below hb);have b9:=Qa (b9.out.trans (Rk.of_below hb (Zb (Zi hlt) b9.out.2.1)));have b8:=Qa ((hb.block _ (ae b8.out)).trans b8.out);(try have a9:=Qa ((hb.block _ (ae a9.out)).trans a9.out));(try have b0:=Qa ((hb.block _ (ae b0.out)).trans b0.out));have a9:=Qa c5;rw[d2] at a9 ⊢;obtain⟨wn,c4⟩:∃x,wq.alloc (.cells #[.int .i64 0,.int .i64 0,.int .u8 0,.string es,.bool false,.string es,.int .i64 0] 205)=x:=⟨_,rfl⟩;rw[c4] at HR c3 b9 b8 a9 hb ⊢;(try rw[c4] at a9);(try rw[c4] at b0);obtain⟨wq,hwq⟩:∃x,x=wn:=⟨_,rfl⟩;subst hwq;clear c5;refine hK.out _ _ (⟨Zf hb a0.1,Zf hb a0.2⟩) (fun a0=>?_);clear hK K
  try simp only[Act.put,jP,jQ,jR]
  rotate_left
  go_simp;have hb:=ac wq (.cells #[.int .i64 0,.int .i64 0,.int .u8 0,.string es,.bool false,.string es,.int .i64 0] 205);have c5:=Ze wq (.cells #[.int .i64 0,.int .i64 0,.int .u8 0,.string es,.bool false,.string es,.int .i64 0] 205);obtain⟨g3,d2⟩:∃g,wq.heap.size=g:=⟨_,rfl⟩;have d1:=Qa (show w.heap.size<g3 by rw[<-d2];exact ae b8.out);have HR:=Qa (HR.out.below hb);have c3:=Qa (c3.out.below hb);have b9:=Qa (b9.out.trans (Rk.of_below hb (Zb (Zi hlt) b9.out.2.1)));have b8:=Qa ((hb.block _ (ae b8.out)).trans b8.out);(try have a9:=Qa ((hb.block _ (ae a9.out)).trans a9.out));(try have b0:=Qa ((hb.block _ (ae b0.out)).trans b0.out));have a9:=Qa c5;rw[d2] at a9 ⊢;obtain⟨wn,c4⟩:∃x,wq.alloc (.cells #[.int .i64 0,.int .i64 0,.int .u8 0,.string es,.bool false,.string es,.int .i64 0] 205)=x:=⟨_,rfl⟩;rw[c4] at HR c3 b9 b8 a9 hb ⊢;(try rw[c4] at a9);(try rw[c4] at b0);obtain⟨wq,hwq⟩:∃x,x=wn:=⟨_,rfl⟩;subst hwq;clear c5;refine hK.out _ _ (⟨Zf hb a0.1,Zf hb a0.2⟩) (fun a0=>?_);clear hK K
  try simp only[Act.put,jP,jQ,jR]
  refine rH 8 fun K hK=>?_
  go_simp;refine(gV c3.out (by omega) h6).mono ?_;rintro e wn ⟨t,n,c,u,rfl,⟨fh,fl,fs,rfl,d3⟩,hb,c9,d5,d6,c2⟩;have c7:c=0->(t.kind≠5->1<=n)/\jO t:=(fun h=>⟨(c2 h).1,fun h4=>⟨(c2 h).2.1 h4,by omega⟩,by omega,(c2 h).2.2⟩);obtain⟨fA,fq,fr,rfl,-⟩:=d3.slice;have e0:=Qa c9;have d9:=Qa c7;clear c9 c7 c2 d5 d6 d3;have HR:=Qa (HR.out.below hb);have c3:=Qa (c3.out.below hb);have b9:=Qa (b9.out.trans (Rk.of_below hb (Zb (Zi hlt) b9.out.2.1)));have b8:=Qa ((hb.block _ (ae b8.out)).trans b8.out);(try have a9:=Qa ((hb.block _ (ae a9.out)).trans a9.out));(try have b0:=Qa ((hb.block _ (ae b0.out)).trans b0.out));obtain⟨wq,hwq⟩:∃x,x=wn:=⟨_,rfl⟩;subst hwq;go_wp2_with fail;refine hK.out _ _ (⟨Zf hb a0.1,Zf hb a0.2⟩) (fun a0=>?_);clear hK K
  try simp only[Act.put,jP,jQ,jR]
  refine tH 9 a0 ?_;refine tH 10 a0 ?_;refine tH 11 a0 ?_;refine tH 12 a0 ?_
  try simp only[Act.put,jP,jQ,jR]
  rotate_left
  all_goals
   refine rH 15 fun K hK=>?_
   have f5:=Qa (show g5≠g3 from fun e=>by have a:=a9.out;have b:=b0.out;rw[e,a] at b;injection b with b;injection b with _ b;exact absurd b (by decide));refine bT a9.out ?_;refine hK.out _ _ (⟨(ai _ _ _).cell a0.1 (fun e=>by injection e with e;exact Nat.ne_of_lt (Nat.lt_trans hlt d1.out) e),(ai _ _ _).cell a0.2 (fun e=>by injection e with e;exact Nat.ne_of_lt (Nat.lt_trans hlt d1.out) e)⟩) (fun a0=>?_);clear hK K
   try simp only[Act.put,jP,jQ,jR]
   refine tH 16 a0 ?_
   try simp only[Act.put,jP,jQ,jR]
   refine rH 17 fun K hK=>?_
   refine bT ((setRow_other _ _ _ _ f5.out).trans b0.out) ?_;refine hK.out _ _ (⟨(ai _ _ _).cell a0.1 (fun e=>by injection e with e;exact Nat.ne_of_lt (Nat.lt_trans hlt d0.out) e),(ai _ _ _).cell a0.2 (fun e=>by injection e with e;exact Nat.ne_of_lt (Nat.lt_trans hlt d0.out) e)⟩) (fun a0=>?_);clear hK K
   try simp only[Act.put,jP,jQ,jR]
   refine wpAnyH_done (by kernel_rfl) (NoPanic.normal ?_) _;go_wp2_with fail;go_meet
   case rel=>
    have l3:=d1.out;have l5:=d0.out;have x5:=(setRow_other wq g3 g5 (eJ t) f5.out).trans b0.out;exact⟨g3,g5,n,t,c,fh,fl,fA,fq,fr,rfl,rfl,rfl,(setRow_other _ _ _ _ (Ne.symm f5.out)).trans (setRow_heap _ _ _ _ _ _ a9.out),setRow_heap _ _ _ _ _ _ x5,(setRow_other _ _ _ _ (by omega)).trans ((setRow_other _ _ _ _ (by omega)).trans b8.out),(HR.out.other a9.out cM (by omega) _).other x5 Fv (by omega) _,(b9.out.fresh (by omega) (by omega) _).fresh (by omega) (by omega) _,l3,e0.out,d9.out⟩
 case rest=>
  obtain⟨g3,g5,n,t,c,fh,fl,fA,fq,fr,rfl,rfl,rfl,e6,e5,e2,hR,f9,h0,c9,c7⟩:=hcut;have q0:=aa e5 (j:=0) (u:=.int .i64 c) rfl;have q1:=aa e5 (j:=1) (u:=.int .i64 fh) rfl;have q2:=aa e5 (j:=2) (u:=.int .i64 fl) rfl;have q3:=aa e5 (j:=3) (u:=.slice fA fq fr) rfl;have g4:=Qa hR;have f6:=Qa f9;have a9:=Qa e6;have g8:=Qa e2;have e0:=Qa c9;have d9:=Qa c7;clear hR f9 e6 e5 e2 c9 c7 c0 c1;go_wp2_with fail;refine(eD g4.out c fh fl fA fq fr).mono ?_;rintro e wf ⟨⟨b,rfl⟩,f0,e8,-⟩;rw[if_pos rfl] at f0;have e6:=e8.row a9.out cM;have e2:=e8.row g8.out cM;have h8:=f0.lt;obtain⟨b1,b2,b3,b4,b5,b6,b7,L',m',g6,l',us',w0',h1,h2,h3,h4,h5,g9,g7⟩:=id f0;have e1:=aa h1 (j:=1) (u:=.int .i64 at_) rfl;have f1:=am h1 1;have hs:=aw h1 1 (.int .i64 ((at_+n:Nat):Int));have f8:g3≠rb:=by omega
  have f3:w.heap.size≠rb:=by omega
  have c8:=(Below.heap_setCell wf ⟨rb,1,none⟩ (.int .i64 ((at_+n:Nat):Int)) g3 f8).trans e6;have e4:=(Below.heap_setCell wf ⟨rb,1,none⟩ (.int .i64 ((at_+n:Nat):Int)) w.heap.size f3).trans e2;have t0:=aa c8 (j:=0) (u:=.int .i64 t.kind) rfl;have t1:=aa c8 (j:=1) (u:=.int .i64 t.at_) rfl;have t2:=aa c8 (j:=2) (u:=.int .u8 t.mark) rfl;have t3:=aa c8 (j:=3) (u:=.string t.str) rfl;have t4:=aa c8 (j:=4) (u:=.bool t.num.neg) rfl;have t5:=aa c8 (j:=5) (u:=.string t.num.digits) rfl;have t6:=aa c8 (j:=6) (u:=.int .i64 t.num.exp) rfl;have g2:Rd xs rb (wf.setCell ⟨rb,1,none⟩ (.int .i64 ((at_+n:Nat):Int))) (at_+n) k c:=
   ⟨b1,b2,b3,b4,b5,b6,b7,L',m',g6,l',us',w0',hs,h2,h3,h4.trans (Rk.set h1 1 _).1,jB h5,e0.out,by omega⟩
  have e7:=Qa ((f6.out.trans e8).trans (Rk.set h1 1 (.int .i64 ((at_+n:Nat):Int))));have g1:=Qa g2;have f2:=Qa e4;have e3:((at_+n:Nat):Int)= (at_:Int)+n:=by omega
  have hw:=IntWalk.i64_in ((at_:Int)+n) (by have:=e0.out;omega);rw[e3] at t0 t1 t2 t3 t4 t5 t6 e7 g1 f2;clear e6 e2 f0 e8 h1 h2 h3 h4 h5 g7 hs c8 e4 g2 e3 q0 q1 q2 q3;go_wp2_with (refine bM f2.out ?_);exact Zg (results_cell_row Tryz.results116 _ _ w.heap.size 205 (eJ t) (0,0) _ (by simp) (setRow_heap _ _ _ _ _ _ f2.out) Tryz.underlying205 rfl de) rfl
   ⟨t,at_+n,c,rfl,g1.out.other f2.out cM (Zi hlt) _,e7.out.fresh (Za _) (Zi hlt) _,by omega,fun h=>⟨fun h'=>by have:=(d9.out h).1 h';omega,(d9.out h).2⟩⟩
def kt (xs:List UInt8)(rb:Nat)(w:World)(at_ k:Nat)(e:Ending)(w':World):Prop:=(∃v,e =.returned v)/\∃c:Int,c≠0/\Rd xs rb w' at_ k c/\Rk rb w w'
theorem fJ {k:Nat}{c:Int}(h:Rd xs rb w at_ k c)(t:Tk):Calls Tryz.prog 118 #[.pointer (some ⟨rb,0,none⟩),kE t] w (kt xs rb w at_ k):=by
 obtain⟨tk,ta,tm,ts,⟨dn,dd,dx⟩⟩:=t;unfold kE;have hlt:=h.lt;have a7:=ac w (.cells #[.int .i64 tk,.int .i64 ta,.int .u8 tm,.string ts,.bool dn,.string dd,.int .i64 dx] 205);have HR:=Qa (h.below a7);have a9:=Qa (Rk.of_below a7 (Zi hlt));clear h a7;go_enter Tryz.func118,Tryz.ntmps118
 by_cases h5:tk=5
 ·subst h5;go_wp2_with fail;generalize (w.alloc (.cells #[.int .i64 5,.int .i64 ta,.int .u8 tm,.string ts,.bool dn,.string dd,.int .i64 dx] 205))=w1 at *;refine(cG 103 ta w1).mono ?_;rintro e w2 ⟨u,rfl,⟨fh,fl,fs,rfl,a2⟩,hb⟩;obtain⟨fA,fq,fr,rfl,-⟩:=a2.slice;have a5:=Qa (HR.out.below hb);have a0:=Qa (a9.out.trans (Rk.of_below hb (Zi HR.out.lt)));clear a2 hb;go_wp2_with fail;refine(eD a5.out 103 fh fl fA fq fr).mono ?_;rintro e w3 ⟨⟨b,rfl⟩,a3,a1,-⟩;have a4:=Qa a3;have a6:=Qa a1;clear a3 a1;go_wp2_with fail;go_end0;exact⟨⟨_,rfl⟩,_,(by by_cases h:c=0 <;> simp[h]),a4.out,a0.out.trans a6.out⟩
 ·have b0:(tk==5)=false:=by simpa using h5
  clear h5;go_wp2_with fail;generalize (w.alloc (.cells #[.int .i64 tk,.int .i64 ta,.int .u8 tm,.string ts,.bool dn,.string dd,.int .i64 dx] 205))=w1 at *;refine(cG 111 ta w1).mono ?_;rintro e w2 ⟨u,rfl,⟨fh,fl,fs,rfl,a2⟩,hb⟩;obtain⟨fA,fq,fr,rfl,-⟩:=a2.slice;have a5:=Qa (HR.out.below hb);have a0:=Qa (a9.out.trans (Rk.of_below hb (Zi HR.out.lt)));clear a2 hb;go_wp2_with fail;refine(eD a5.out 111 fh fl fA fq fr).mono ?_;rintro e w3 ⟨⟨b,rfl⟩,a3,a1,-⟩;have a4:=Qa a3;have a6:=Qa a1;clear a3 a1;go_wp2_with fail;go_end0;exact⟨⟨_,rfl⟩,_,(by by_cases h:c=0 <;> simp[h]),a4.out,a0.out.trans a6.out⟩
def iM (t:Tk)(X:Int)(w:World)(e:Ending)(w':World):Prop:= ∃b:Bool,e =.returned (.bool b)/\(b=true->t.kind=1)/\Below w.heap.size w w'
theorem fF (t:Tk)(X:Int)(w:World):Calls Tryz.prog 148 #[kE t,.int .u8 X] w (iM t X w):=by
 obtain⟨tk,ta,tm,ts,⟨dn,dd,dx⟩⟩:=t;unfold kE;go_enter Tryz.func148,Tryz.ntmps148
 by_cases h1:tk=1
 ·subst h1;go_wp2;go_ret;exact⟨_,rfl,fun _=>rfl,ac _ _⟩
 ·have a0:(tk==1)=false:=by simpa using h1
  have H1:=Qa h1;clear h1;go_wp2;go_ret;exact⟨_,rfl,(fun h=>absurd h (by decide)),ac _ _⟩
def Ea (xs:List UInt8)(rb:Nat)(w:World)(at_ k:Nat)(e:Ending)(w':World):Prop:=(∃v,e =.returned v)/\∃c:Int,Rd xs rb w' at_ k c/\Rk rb w w'
theorem uz {k:Nat}{c:Int}(h:Rd xs rb w at_ k c)(d:Int):Calls Tryz.prog 149 #[.pointer (some ⟨rb,0,none⟩),.int .i64 d] w (Ea xs rb w at_ k):=by
 have HR:=Qa h;obtain⟨a1,a2,a3,a4,a5,a6,a7,L,m,hh,l,us,w0,h1,h2,h3,h4,h5,h6,h7⟩:=h;have c2:=aa h1 (j:=2) (u:=.int .i64 (L 0)) rfl;have c3:=aa h1 (j:=3) (u:=.int .i64 (L 1)) rfl;have c4:=aa h1 (j:=4) (u:=.int .i64 (L 2)) rfl;have c5:=aa h1 (j:=5) (u:=.int .i64 (L 3)) rfl;have c6:=aa h1 (j:=6) (u:=.int .i64 (L 4)) rfl;have c7:=aa h1 (j:=7) (u:=.int .i64 (L 5)) rfl;clear h1 h2 h3 h4 h5 h6 h7;go_enter Tryz.func149,Tryz.ntmps149;go_wp2_with fail;refine(gF (L 0) (L 1) (L 2) (L 3) (L 4) (L 5) 2 d w).mono ?_;rintro e w1 ⟨c1,u,rfl,⟨fh,fl,fs,rfl,b1⟩,hb⟩;obtain⟨fA,fq,fr,rfl,-⟩:=b1.slice;have b9:=Qa (HR.out.below hb);have b5:=Qa (Rk.of_below hb (Zi HR.out.lt));clear b1 hb c2 c3 c4 c5 c6 c7;go_wp2_with fail;refine(eD b9.out c1 fh fl fA fq fr).mono ?_;rintro e w2 ⟨⟨b,rfl⟩,d3,b4,-⟩;have c8:=Qa (b5.out.trans b4);clear HR b9 b5 b4;obtain⟨a1,a2,a3,a4,a5,a6,a7,L,m,hh,l,us,w0,h1,h2,h3,h4,h5,h6,h7⟩:=d3;have c10:=aa h1 (j:=10) (u:=.int .i64 (m 2)) rfl;have f10:=am h1 10;have hs:=aw h1 10 (.int .i64 (wrap64 (m 2+1)));have b7:Rd xs rb (w2.setCell ⟨rb,10,none⟩ (.int .i64 (wrap64 (m 2+1)))) at_ k (if c=0 then c1 else c):=
  ⟨a1,a2,a3,a4,a5,a6,a7,L,fun i=>if i=2 then wrap64 (m 2+1) else m i,hh,l,us,w0,hs,h2,h3,h4.trans (Rk.set h1 10 _).1,jB h5,h6,h7⟩
 have b0:=Qa b7;have b2:=Qa (c8.out.trans (Rk.set h1 10 (.int .i64 (wrap64 (m 2+1)))));have cs2:∀j u,j≠10->w2.cell? ⟨rb,j,none⟩=some u->(w2.setCell ⟨rb,10,none⟩ (.int .i64 (wrap64 (m 2+1)))).cell? ⟨rb,j,none⟩=some u:=fun j u hj hu=>by
  unfold World.cell? at hu ⊢;simp only[h1] at hu;simp only[hs];simpa [Array.getElem?_setIfInBounds,Ne.symm hj] using hu
 have HC:=Qa (And.intro (cs2 2 _ (by decide) (aa h1 (j:=2) (u:=.int .i64 (L 0)) rfl)) (And.intro (cs2 3 _ (by decide) (aa h1 (j:=3) (u:=.int .i64 (L 1)) rfl)) (And.intro (cs2 4 _ (by decide) (aa h1 (j:=4) (u:=.int .i64 (L 2)) rfl)) (And.intro (cs2 5 _ (by decide) (aa h1 (j:=5) (u:=.int .i64 (L 3)) rfl)) (And.intro (cs2 6 _ (by decide) (aa h1 (j:=6) (u:=.int .i64 (L 4)) rfl)) (And.intro (cs2 7 _ (by decide) (aa h1 (j:=7) (u:=.int .i64 (L 5)) rfl)) (aa hs (j:=10) (u:=.int .i64 (wrap64 (m 2+1))) rfl)))))));clear c8 b7 h1 h2 h3 h4 h5 h6 h7 hs cs2;go_wp2_with fail;generalize wrap64 (m 2+1)=N at *;generalize (w2.setCell ⟨rb,10,none⟩ (.int .i64 N))=w3 at *;have HC:=Qa (show(fun w':World=>w'.cell? ⟨rb,2,none⟩=some (.int .i64 (L 0))/\w'.cell? ⟨rb,3,none⟩=some (.int .i64 (L 1))/\w'.cell? ⟨rb,4,none⟩=some (.int .i64 (L 2))/\w'.cell? ⟨rb,5,none⟩=some (.int .i64 (L 3))/\w'.cell? ⟨rb,6,none⟩=some (.int .i64 (L 4))/\w'.cell? ⟨rb,7,none⟩=some (.int .i64 (L 5))/\w'.cell? ⟨rb,10,none⟩=some (.int .i64 N)) w3.drew from HC.out);have b0:=Qa (b0.out.below (Zd w3.heap.size w3).drew);have b2:=Qa (b2.out.trans (Rk.of_below (Zd w3.heap.size w3).drew (Zi b0.out.lt)));generalize hwq:w3.drew=wq at HC b0 b2;refine aR (fun w'=>w'.cell? ⟨rb,2,none⟩=some (.int .i64 (L 0))/\w'.cell? ⟨rb,3,none⟩=some (.int .i64 (L 1))/\w'.cell? ⟨rb,4,none⟩=some (.int .i64 (L 2))/\w'.cell? ⟨rb,5,none⟩=some (.int .i64 (L 3))/\w'.cell? ⟨rb,6,none⟩=some (.int .i64 (L 4))/\w'.cell? ⟨rb,7,none⟩=some (.int .i64 (L 5))/\w'.cell? ⟨rb,10,none⟩=some (.int .i64 N)) ((by rw[hwq];exact HC.out)) fun a0=>?_
 rw[hwq] at a0 ⊢;clear hwq HC;refine tH 0 a0 ?_;refine tH 1 a0 ?_;refine tH 2 a0 ?_;refine tH 3 a0 ?_;refine tH 4 a0 ?_;refine tH 5 a0 ?_
 try simp only[Act.put,jP,jQ,jR]
 refine tH 6 a0 ?_;refine tH 7 a0 ?_;refine tH 8 a0 ?_;refine tH 9 a0 ?_
 try simp only[Act.put,jP,jQ,jR]
 rotate_left
 all_goals
  refine rH 10 fun K hK=>?_
  go_simp;refine(gF (L 0) (L 1) (L 2) (L 3) (L 4) (L 5) 3 N wq).mono ?_;rintro e w4 ⟨c4,u,rfl,⟨fh,fl,fs,rfl,b1⟩,hb⟩;obtain⟨fA,fq,fr,rfl,-⟩:=b1.slice;have d4:=Qa (b0.out.below hb);have d0:=Qa (b2.out.trans (Rk.of_below hb (Zi b0.out.lt)));clear b1;go_wp2_with fail;refine hK.out _ _ (⟨Zf hb a0.1,Zf hb a0.2.1,Zf hb a0.2.2.1,Zf hb a0.2.2.2.1,Zf hb a0.2.2.2.2.1,Zf hb a0.2.2.2.2.2.1,Zf hb a0.2.2.2.2.2.2⟩) (fun a0=>?_);clear hK K
  try simp only[Act.put,jP,jQ,jR]
  refine rH 11 fun K hK=>?_
  go_simp;refine(eD d4.out c4 fh fl fA fq fr).mono ?_;rintro e w5 ⟨⟨b,rfl⟩,c0,b3,b8⟩;have d1:=Qa c0;have d2:=Qa (d0.out.trans b3);clear c0 b3;have a9:=Qa b8;clear b8;go_wp2_with fail;refine hK.out _ _ (⟨(a9.out 2 (by decide)).trans a0.1,(a9.out 3 (by decide)).trans a0.2.1,(a9.out 4 (by decide)).trans a0.2.2.1,(a9.out 5 (by decide)).trans a0.2.2.2.1,(a9.out 6 (by decide)).trans a0.2.2.2.2.1,(a9.out 7 (by decide)).trans a0.2.2.2.2.2.1,(a9.out 10 (by decide)).trans a0.2.2.2.2.2.2⟩) (fun a0=>?_);clear hK K
  try simp only[Act.put,jP,jQ,jR]
  refine wpAnyH_done (by kernel_rfl) (NoPanic.normal ?_) _;clear a0 c10 f10;obtain⟨a1,a2,a3,a4,a5,a6,a7,L,m,hh,l,us,w0,h1,h2,h3,h4,h5,h6,h7⟩:=d1.out;have c9:=aa h1 (j:=9) (u:=.int .i64 (m 1)) rfl;have f9:=am h1 9;have b6:∀X:Int,Ea xs rb w at_ k (.returned (.tuple #[])) (w5.setCell ⟨rb,9,none⟩ (.int .i64 X)):=fun X=>
   ⟨⟨_,rfl⟩,_,⟨a1,a2,a3,a4,a5,a6,a7,L,fun i=>if i=1 then X else m i,hh,l,us,w0,aw h1 9 (.int .i64 X),h2,h3,h4.trans (Rk.set h1 9 _).1,jB h5,h6,h7⟩,d2.out.trans (Rk.set h1 9 _)⟩
  have H6:=Qa b6;clear b6 h1 h2 h3 h4 h5 h6 h7;go_wp2_with fail
  all_goals
   go_end0;exact H6.out _
def Lf (t:Tk)(j:JV):Prop:=j =.mk 1 false es kr [] []\/(∃b,j =.mk 2 b es kr [] [])\/(t.kind=3/\j =.mk 3 false es t.num [] [])\/(t.kind=4/\j =.mk 4 false t.str kr [] [])
def Db (xs:List UInt8)(rb:Nat)(w:World)(at_ k:Nat)(t:Tk)(e:Ending)(w':World):Prop:= ∃ (v:Value) (j:JV) (c:Int),e =.returned v/\Lf t j/\bu (w.heap.size<= ·) w' rb v (j.flat 0)/\Rd xs rb w' at_ k c/\Rk rb w w'
theorem DN {k:Nat}{c:Int}(h:Rd xs rb w at_ k c)(t:Tk):Calls Tryz.prog 152 #[.pointer (some ⟨rb,0,none⟩),kE t] w (Db xs rb w at_ k t):=by
 obtain⟨tk,ta,tm,ts,⟨dn,dd,dx⟩⟩:=t;unfold kE;have hlt:=h.lt;have b2:=ac w (.cells #[.int .i64 tk,.int .i64 ta,.int .u8 tm,.string ts,.bool dn,.string dd,.int .i64 dx] 205);have c9:=Ze w (.cells #[.int .i64 tk,.int .i64 ta,.int .u8 tm,.string ts,.bool dn,.string dd,.int .i64 dx] 205);have HR:=Qa (h.below b2);have b7:=Qa c9;have b5:=Qa (Rk.of_below b2 (Zi hlt));clear h b2 c9;go_enter Tryz.func152,Tryz.ntmps152
 by_cases h3:tk=3
 ·subst h3;obtain⟨a1,a2,a3,a4,a5,a6,a7,L,m,hh,l,us,w0,h1,h2,h3,h4,h5,h6,h7⟩:=HR.out;have c2:=aa h1 (j:=2) (u:=.int .i64 (L 0)) rfl;have c3:=aa h1 (j:=3) (u:=.int .i64 (L 1)) rfl;have c4:=aa h1 (j:=4) (u:=.int .i64 (L 2)) rfl;have c5:=aa h1 (j:=5) (u:=.int .i64 (L 3)) rfl;have c6:=aa h1 (j:=6) (u:=.int .i64 (L 4)) rfl;have c7:=aa h1 (j:=7) (u:=.int .i64 (L 5)) rfl;clear h1 h2 h3 h4 h5 h6 h7;go_wp2_with fail
  all_goals
   refine(gF (L 0) (L 1) (L 2) (L 3) (L 4) (L 5) 5 _ _).mono ?_;rintro e w1 ⟨c1,u,rfl,⟨fh,fl,fs,rfl,b8⟩,hb⟩;obtain⟨fA,fq,fr,rfl,-⟩:=b8.slice;have d2:=Qa (HR.out.below hb);have d1:=Qa (b5.out.trans (Rk.of_below hb (Zi HR.out.lt)));have d6:=Qa ((hb.block _ (ae b7.out)).trans b7.out);clear b8 hb c2 c3 c4 c5 c6 c7;go_wp2_with fail;refine(eD d2.out c1 fh fl fA fq fr).mono ?_;rintro e w2 ⟨⟨b,rfl⟩,d4,b1,-⟩;have a0:=b1.row d6.out cM;have c8:=Qa (d1.out.trans b1);obtain⟨a1,a2,a3,a4,a5,a6,a7,L,m,hh,l,us,w0,h1,h2,h3,h4,h5,h6,h7⟩:=d4;have c11:=aa h1 (j:=11) (u:=.int .i64 (m 3)) rfl;have f11:=am h1 11;have hne:¬w.heap.size=rb:=by omega
   have t4:=aa a0 (j:=4) (u:=.bool dn) rfl;have t5:=aa a0 (j:=5) (u:=.string dd) rfl;have t6:=aa a0 (j:=6) (u:=.int .i64 dx) rfl;have b9:∀X:Int,Rd xs rb (w2.setCell ⟨rb,11,none⟩ (.int .i64 X)) at_ k (if c=0 then c1 else c):=fun X=>
    ⟨a1,a2,a3,a4,a5,a6,a7,L,fun i=>if i=3 then X else m i,hh,l,us,w0,aw h1 11 (.int .i64 X),h2,h3,h4.trans (Rk.set h1 11 _).1,jB h5,h6,h7⟩
   have b3:=Qa b9;have b6:=Qa (fun X:Int=>Rk.set h1 11 (.int .i64 X));clear b9 h1 h2 h3 h4 h5 h6 h7 b1 a0;go_wp2_with fail
   all_goals
    refine(pu ⟨dn,dd,dx⟩ _).mono ?_;rintro e w4 ⟨v,rfl,b4,c0⟩;have d5:=Qa ((b3.out _).below b4);have d0:=Qa ((c8.out.trans (b6.out _)).trans (Rk.of_below b4 (Zi (b3.out _).lt)));have d3:=Qa ((c0.low (Zi (b3.out _).lt)).imp (Q:=(w.heap.size<= ·)) (fun g h _=>Zb (c8.out.trans (b6.out _)).2.1 h));clear b4 c0;go_wp2_with fail;go_ret;exact⟨v,.mk 3 false es ⟨dn,dd,dx⟩ [] [],_,rfl,.inr (.inr (.inl ⟨rfl,rfl⟩)),d3.out,d5.out,d0.out⟩
 have b0:∀ (j:JV) (e:Ending) (x:Nd) (w':World),jG (w.alloc (.cells #[.int .i64 tk,.int .i64 ta,.int .u8 tm,.string ts,.bool dn,.string dd,.int .i64 dx] 205)) x e w'->j.flat 0 = [x]->Lf ⟨tk,ta,tm,ts,⟨dn,dd,dx⟩⟩ j->Db xs rb w at_ k ⟨tk,ta,tm,ts,⟨dn,dd,dx⟩⟩ e w':=by
  rintro j e x w' ⟨v,rfl,hb,hf⟩ hj hl;exact⟨v,j,c,rfl,hl,by rw[hj];exact(hf.low (Zi HR.out.lt)).imp (fun g h _=>Zb b5.out.2.1 h),HR.out.below hb,b5.out.trans (Rk.of_below hb (Zi HR.out.lt))⟩
 have a9:=Qa b0;clear b0
 by_cases h4:tk=4
 ·subst h4;go_wp2_with fail;refine(tA ts _).mono ?_;rintro e w' ⟨v,rfl,hb,hf⟩;have hp:=a9.out (.mk 4 false ts kr [] []) _ _ w' ⟨v,rfl,hb,hf⟩ rfl (.inr (.inr (.inr ⟨rfl,rfl⟩)));have Hp:=Qa hp;clear hp hb hf;go_wp2_with fail;go_ret;exact Hp.out
 have e0:(tk==3)=false:=by simpa using h3
 have d9:(tk==4)=false:=by simpa using h4
 clear h3 h4;go_wp2_with fail
 ·refine(t7 _).mono ?_;rintro e w' ⟨v,rfl,hb,hf⟩;have hp:=a9.out (.mk 1 false es kr [] []) _ _ w' ⟨v,rfl,hb,hf⟩ rfl (.inl rfl);have Hp:=Qa hp;clear hp hb hf;go_wp2_with fail;go_ret;exact Hp.out
 ·refine(tc _ _).mono ?_;rintro e w' ⟨v,rfl,hb,hf⟩;have hp:=a9.out (.mk 2 _ es kr [] []) _ _ w' ⟨v,rfl,hb,hf⟩ rfl (.inr (.inl ⟨_,rfl⟩));have Hp:=Qa hp;clear hp hb hf;go_wp2_with fail;go_ret;exact Hp.out
theorem jL:dE 167 264 (.agg #[.int .i64 0,.int .i64 0,.int .i64 0,.string ByteArray.empty,.slice none 0 0]) 5 64:=⟨Tryz.underlying167,by kernel_rfl,rfl,by decide⟩
inductive cK (asc:List ByteArray->Prop):JV->Prop
 |null:cK asc (.mk 1 false es kr [] [])
 |bool (b:Bool):cK asc (.mk 2 b es kr [] [])
 |num (d:Dc):d.digits.size<=6000+1->jS d->cK asc (.mk 3 false es d [] [])
 |text (s:ByteArray):i6 s->cK asc (.mk 4 false s kr [] [])
 |list (ks:List JV):(∀u∈ks,cK asc u)->cK asc (.mk 5 false es kr [] ks)
 |obj (ns:List ByteArray) (ks:List JV):ns.length=ks.length->(∀s∈ns,i6 s)->asc ns->(∀u∈ks,cK asc u)->cK asc (.mk 6 false es kr ns ks)
theorem cK.of_leaf {asc:List ByteArray->Prop}{t:Tk}(h:Lf t j)(ht:jO t):cK asc j:=by
 rcases h with rfl|⟨b,rfl⟩|⟨hk,rfl⟩|⟨hk,rfl⟩
 ·exact .null
 ·exact .bool b
 ·exact .num _ ht.2.1 (ht.2.2 hk)
 ·exact .text _ (ht.1 hk)
theorem Lf.size {t:Tk}(h:Lf t j):j.size=1:=by
 rcases h with rfl|⟨b,rfl⟩|⟨_,rfl⟩|⟨hk,rfl⟩ <;> simp[JV.size,JV.sizes]
theorem ij:¬TR 9:=by unfold TR;decide
theorem lk:¬TR 3:=by unfold TR;decide
theorem lg:¬TR 78:=by unfold TR;decide
def jU (asc:List ByteArray->Prop)(xs:List UInt8)(rb:Nat)(w:World)(at_:Nat)(p:Prop)(e:Ending)(w':World):Prop:= ∃ (A:Option Addr) (n q at' k':Nat) (c:Int),e =.returned (.slice A n q)/\Rd xs rb w' at' k' c/\Rk rb w w'/\at_<=at'/\
 (c=0->p/\∃j:JV,cK asc j/\bu (w.heap.size<= ·) w' rb (.slice A n q) (j.flat 0)/\j.size+at_<=at'+1)
theorem vo {asc:List ByteArray->Prop}{p:JV->Prop}(h:∃j:JV,cK asc j/\bu (w.heap.size<= ·) w' rb v (j.flat 0)/\p j)(hB:B<=w.heap.size):∃j:JV,cK asc j/\bu (B<= ·) w' rb v (j.flat 0)/\p j:=by
 obtain⟨j,h1,h2,h3⟩:=h;exact⟨j,h1,h2.imp (fun g h _=>Zb hB h),h3⟩
theorem a8 {t:Tk}(h:W.heap[g]?=some (.cells (eJ t) 205 (0,0))):W.cell? ⟨g,0,none⟩=some (.int .i64 t.kind)/\W.cell? ⟨g,1,none⟩=some (.int .i64 t.at_)/\W.cell? ⟨g,2,none⟩=some (.int .u8 t.mark)/\W.cell? ⟨g,3,none⟩=some (.string t.str)/\W.cell? ⟨g,4,none⟩=some (.bool t.num.neg)/\W.cell? ⟨g,5,none⟩=some (.string t.num.digits)/\W.cell? ⟨g,6,none⟩=some (.int .i64 t.num.exp):=
 ⟨aa h rfl,aa h rfl,aa h rfl,aa h rfl,aa h rfl,aa h rfl,aa h rfl⟩
theorem Rd.code {k:Nat}{c:Int}(h:Rd xs rb w at_ k c):w.cell? ⟨rb,13,none⟩=some (.int .i64 c):=by
 obtain⟨a1,a2,a3,a4,a5,a6,a7,L,m,hh,l,us,w0,h1,_⟩:=h;exact aa h1 rfl
theorem jF {k:Nat}{c:Int}{bA eA sA A':Option Addr}{bc ec sn sc c':Nat}{L:Fin 6->Int}{m:Fin 4->Int}{h l:Int}
  (h1:W.heap[rb]?=some (.cells (eP (.slice bA xs.length bc) at_ L m (.slice eA k ec) c h l (.slice sA sn sc)) 169 (0,0))) (h2:Bs w0 (.slice bA xs.length bc) xs) (h3:w0.heap.size<=rb) (h4:Below rb w0 W) (h5:W.ownsRow (rb+1) 264 5 (.slice eA k ec) k us) (h6:at_<=xs.length) (hk:k+1<=at_)
  (hv:W'.ownsRow (rb+1) 264 5 (.slice A' (k+1) c') (k+1) us') (hg:W.grownBy W' (Value.slice eA k ec).ownBlock) :
  W'.heap[rb]?=some (.cells (eP (.slice bA xs.length bc) at_ L m (.slice eA k ec) c h l (.slice sA sn sc)) 169 (0,0))/\Rd xs rb (W'.setCell ⟨rb,12,none⟩ (.slice A' (k+1) c')) at_ (k+1) c/\Rk rb W (W'.setCell ⟨rb,12,none⟩ (.slice A' (k+1) c')):=by
 have hlt:=ae h1;have hb:Below (rb+1) W W':=aL (Zd (rb+1) W) h5 hlt hg;have hr:=(hb.block rb (Nat.lt_succ_self _)).trans h1;have a0:Below rb W W':=hb.mono (Nat.le_succ _);have a1:Rk rb W W':=⟨a0,aJ.of_grown hg (fun g e cs t z hh=>by obtain⟨cs',z',h'⟩:=cm h5 g e;rw[h'] at hh;injection hh with hh;injection hh with _ hh;exact .inl hh.symm)⟩;have hs:=Rk.set hr 12 (.slice A' (k+1) c');exact⟨hr,⟨bA,bc,A',c',sA,sn,sc,L,m,h,l,us',w0,aw hr 12 _,h2,h3,(h4.trans a0).trans hs.1,jB hv,h6,hk⟩,a1.trans hs⟩
theorem nJ (asc:List ByteArray->Prop)(hl:xs.length<=6000)(t:Tk)
  (hL:t.kind=1->∀ (w:World) (k:Nat) (d:Int),Rd xs rb w at_ k 0->k+1<=at_->Calls Tryz.prog 150 #[.pointer (some ⟨rb,0,none⟩),.int .i64 d] w (jU asc xs rb w at_ True))
  (hO:t.kind=1->∀ (w:World) (k:Nat) (d:Int),Rd xs rb w at_ k 0->k+1<=at_->Calls Tryz.prog 151 #[.pointer (some ⟨rb,0,none⟩),.int .i64 d] w (jU asc xs rb w at_ True))
  {w:World} {k:Nat} {c:Int} (h:Rd xs rb w at_ k c) (hk:c=0->(t.kind≠5->k+1<=at_)/\jO t) (d:Int) :
  Calls Tryz.prog 117 #[.pointer (some ⟨rb,0,none⟩),kE t,.int .i64 d] w (jU asc xs rb w at_ (t.kind≠5)):=by
 have Ht:=Qa hk;have HL:=Qa hL;have HO:=Qa hO;have hlt:=h.lt;have b0:=ac w (.cells (eJ t) 205);have f5:=Ze w (.cells (eJ t) 205);have HR:=Qa (h.below b0);have b6:=Qa f5;have b7:=Qa (Rk.of_below b0 (Zi hlt));have cc:=(h.below b0).code;clear hk hL hO h b0 f5;obtain⟨tk,ta,tm,ts,⟨dn,dd,dx⟩⟩:=t;unfold kE;simp only[eJ] at HR b6 b7 cc;go_enter Tryz.func117,Tryz.ntmps117
 by_cases hc:c=0
 case neg=>
  have f0:(c !=0)=true:=by simpa using hc
  have Hc:=Qa hc;clear hc;go_wp2_with fail;go_ret;exact⟨_,_,_,at_,k,c,rfl,HR.out,b7.out,Za _,fun h=>absurd h Hc.out⟩
 subst hc;obtain⟨hk,h8⟩:=Ht.out rfl;have Hk:=Qa hk;have H8:=Qa h8;clear hk h8 Ht;go_upto_region 3 with fail
 generalize (w.alloc (.cells #[.int .i64 tk,.int .i64 ta,.int .u8 tm,.string ts,.bool dn,.string dd,.int .i64 dx] 205))=w1 at *;have mk:∀ (X:Int) (W:World),Calls Tryz.prog 148 #[.agg #[.int .i64 tk,.int .i64 ta,.int .u8 tm,.string ts,.bool dn,.string dd,.int .i64 dx],.int .u8 X] W fun e w'=>iM ⟨tk,ta,tm,ts,⟨dn,dd,dx⟩⟩ X W e w':=fun X W=>fF ⟨tk,ta,tm,ts,⟨dn,dd,dx⟩⟩ X W
 have Mk:=Qa mk;clear mk cc;go_cut [7] (fun s7 wx=>(∃b:Bool,s7 =.bool b)/\Below w1.heap.size w1 wx)
 case first=>
  obtain⟨t0,t1,t2,t3,t4,t5,t6⟩:=a8 (t:=⟨tk,ta,tm,ts,⟨dn,dd,dx⟩⟩) b6.out;go_wp2_with fail;refine(Mk.out 91 w1).mono ?_;rintro e w2 ⟨b1,rfl,-,a0⟩;have u0:=Zf a0 t0;have u1:=Zf a0 t1;have u2:=Zf a0 t2;have u3:=Zf a0 t3;have u4:=Zf a0 t4;have u5:=Zf a0 t5;have u6:=Zf a0 t6;have Hb1:=Qa a0;clear a0 t0 t1 t2 t3 t4 t5 t6
  cases b1
  ·go_wp2_with fail;refine(Mk.out 123 w2).mono ?_;rintro e w3 ⟨b2,rfl,-,e8⟩;have Hb2:=Qa (Hb1.out.trans (e8.mono Hb1.out.size));clear e8 u0 u1 u2 u3 u4 u5 u6;go_wp2_with fail;go_meet
   case rel=>exact⟨⟨_,rfl⟩,Hb2.out⟩
  ·clear u0 u1 u2 u3 u4 u5 u6;go_wp2_with fail;go_meet
   case rel=>exact⟨⟨_,rfl⟩,Hb1.out⟩
 case rest=>
  obtain⟨⟨b,rfl⟩,a0⟩:=hcut;have HR:=Qa (HR.out.below a0);have b7:=Qa (b7.out.trans (Rk.of_below a0 (Zb (Zi hlt) b7.out.2.1)));have b6:=Qa ((a0.block _ (ae b6.out)).trans b6.out);clear a0;obtain⟨w2,e2⟩:∃x,wc=x:=⟨_,rfl⟩;rw[e2] at HR b7 b6 ⊢;clear e2;obtain⟨t0,t1,t2,t3,t4,t5,t6⟩:=a8 (t:=⟨tk,ta,tm,ts,⟨dn,dd,dx⟩⟩) b6.out;go_upto_region 4 with fail
  go_cut [32] (fun s32 wx=>(∃q:Bool,s32 =.bool q/\(q=false->tk≠5))/\w2=wx)
  case first=>
   by_cases e5:tk=5
   ·have e5':(tk==5)=true:=by simpa using e5
    clear e5;go_wp2_with fail;go_meet
    case rel=>exact⟨⟨_,rfl,fun h=>absurd h (by simp)⟩,rfl⟩
   have e5':(tk==5)=false:=by simpa using e5
   have E5:=Qa e5
   by_cases e1:tk=1
   ·have e1':(tk==1)=true:=by simpa using e1
    clear e5 e1;go_wp2_with fail;go_meet
    case rel=>exact⟨⟨_,rfl,fun _=>E5.out⟩,rfl⟩
   have e1':(tk==1)=false:=by simpa using e1
   clear e1 e5;go_wp2_with fail;go_meet
   case rel=>exact⟨⟨_,rfl,fun _=>E5.out⟩,rfl⟩
  case rest=>
   obtain⟨⟨q,rfl,hq⟩,rfl⟩:=hcut;have Hq:=Qa hq;clear hq;have wr:Calls Tryz.prog 118 #[.pointer (some ⟨rb,0,none⟩),.agg #[.int .i64 tk,.int .i64 ta,.int .u8 tm,.string ts,.bool dn,.string dd,.int .i64 dx]] w2 (kt xs rb w2 at_ k):=fJ HR.out ⟨tk,ta,tm,ts,⟨dn,dd,dx⟩⟩;have Wr:=Qa wr;clear wr
   cases q
   case true=>
    go_wp2_with fail;refine Wr.out.mono ?_;rintro e w3 ⟨⟨v,rfl⟩,c,hc,c2,c3⟩;have Hc:=Qa hc;have c5:=Qa c2;have d1:=Qa (b7.out.trans c3);clear hc c2 c3;go_wp2_with fail;go_ret;exact⟨_,_,_,at_,k,c,rfl,c5.out,d1.out,Za _,fun h=>absurd h Hc.out⟩
   have c8:=Qa (Hk.out (Hq.out rfl));have c1:=Qa (show tk≠5 from Hq.out rfl);clear Wr Hk Hq;go_wp2_with fail;refine(uz HR.out d).mono ?_;rintro e w3 ⟨⟨v,rfl⟩,c,c2,c3⟩;have b9:=c3.row b6.out cM;obtain⟨u0,u1,u2,u3,u4,u5,u6⟩:=a8 (t:=⟨tk,ta,tm,ts,⟨dn,dd,dx⟩⟩) b9;have cc:=c2.code;have c5:=Qa c2;have d1:=Qa (b7.out.trans c3);have c9:=Qa b9;clear c2 c3 b9 t0 t1 t2 t3 t4 t5 t6
   by_cases hc:c=0
   case neg=>
    have f0:(c !=0)=true:=by simpa using hc
    have Hc:=Qa hc;clear hc;go_wp2_with fail;go_ret;exact⟨_,_,_,at_,k,c,rfl,c5.out,d1.out,Za _,fun h=>absurd h Hc.out⟩
   subst hc;go_wp2_with fail;refine(Mk.out 91 w3).mono ?_;rintro e w4 ⟨b1,rfl,f2,d0⟩;have g3:=Qa f2;have d6:=Qa (c5.out.below d0);have d4:=Qa (d1.out.trans (Rk.of_below d0 (Zi c5.out.lt)));have c0:=(d0.block _ (ae c9.out)).trans c9.out;have c7:=Qa c0;obtain⟨v0,v1,v2,v3,v4,v5,v6⟩:=a8 (t:=⟨tk,ta,tm,ts,⟨dn,dd,dx⟩⟩) c0;clear f2 d0 c0 u0 u1 u2 u3 u4 u5 u6 cc
   cases b1
   case true=>
    go_wp2_with fail;refine(HL.out (g3.out trivial) w4 k d d6.out c8.out).mono ?_;rintro e w5 ⟨A,n,q,at',k',c',rfl,e4,d9,hat,hj⟩;have HP:=Qa (show jU asc xs rb w at_ (tk≠5) (.returned (.slice A n q)) w5 from⟨A,n,q,at',k',c',rfl,e4,d4.out.trans d9,hat,fun h=>⟨c1.out,vo (hj h).2 d4.out.2.1⟩⟩);clear e4 d9 hat hj;go_wp2_with fail;go_ret;exact HP.out
   go_wp2_with fail;refine(Mk.out 123 w4).mono ?_;rintro e w5 ⟨b2,rfl,f4,d3⟩;have g2:=Qa f4;have f3:=Qa (d6.out.below d3);have b3:=Qa (d4.out.trans (Rk.of_below d3 (Zi d6.out.lt)));have b8:=(d3.block _ (ae c7.out)).trans c7.out;have g5:=Qa b8;obtain⟨x0,x1,x2,x3,x4,x5,x6⟩:=a8 (t:=⟨tk,ta,tm,ts,⟨dn,dd,dx⟩⟩) b8;clear f4 d3 b8 v0 v1 v2 v3 v4 v5 v6
   cases b2
   case true=>
    go_wp2_with fail;refine(HO.out (g2.out trivial) w5 k d f3.out c8.out).mono ?_;rintro e w6 ⟨A,n,q,at',k',c',rfl,c4,c6,hat,hj⟩;have HP:=Qa (show jU asc xs rb w at_ (tk≠5) (.returned (.slice A n q)) w6 from⟨A,n,q,at',k',c',rfl,c4,b3.out.trans c6,hat,fun h=>⟨c1.out,vo (hj h).2 b3.out.2.1⟩⟩);clear c4 c6 hat hj;go_wp2_with fail;go_ret;exact HP.out
   have lf:Calls Tryz.prog 152 #[.pointer (some ⟨rb,0,none⟩),.agg #[.int .i64 tk,.int .i64 ta,.int .u8 tm,.string ts,.bool dn,.string dd,.int .i64 dx]] w5 fun e w'=>Db xs rb w5 at_ k ⟨tk,ta,tm,ts,⟨dn,dd,dx⟩⟩ e w':=DN f3.out ⟨tk,ta,tm,ts,⟨dn,dd,dx⟩⟩
   have LF:=Qa lf;clear lf;go_wp2_with fail;refine LF.out.mono ?_;rintro e w6 ⟨v,j,c,rfl,e6,d5,c4,c6⟩;have d2:=Qa c4;have f6:=Qa (b3.out.trans c6);have cc:=c4.code;have g4:∃A n q,v =.slice A n q:=by
    obtain⟨A,q,e,_⟩:=d5.form;exact⟨A,_,q,e⟩
   obtain⟨A,n,q,rfl⟩:=g4;have e7:=Qa e6;have f9:=Qa d5;clear c4 c6 e6 d5
   by_cases hc:c=0
   case neg=>
    have f0:(c !=0)=true:=by simpa using hc
    have Hc:=Qa hc;clear hc;go_wp2_with fail;go_ret;exact⟨_,_,_,at_,k,c,rfl,d2.out,f6.out,Za _,fun h=>absurd h Hc.out⟩
   subst hc;have b0:=ac w6 (.cells #[.int .i64 3,.int .i64 d,.int .i64 0,.string es,.slice A n q] 264);have b4:=d2.out.lt;obtain⟨a1,a2,a3,a4,a5,a6,a7,L,m,hh,l,us,w0,h1,h2,h3,h4,h5,h6,h7⟩:=d2.out;have c12:=aa h1 (j:=12) (u:=.slice a3 k a4) rfl;have g1:=(b0.block _ b4).trans h1;have H:=Qa (And.intro g1 (And.intro h2 (And.intro h3 (And.intro (h4.trans (b0.mono (Zi b4))) (And.intro (aq h5 b0 (Za _)) h6)))));have g7:=Qa (ar w6 [.int .i64 3,.int .i64 d,.int .i64 0,.string es,.slice A n q] 264);have e0:=Qa b0;have f8:=Qa (show rb+1<=w6.heap.size from b4);have f1:=Qa h6;clear h1 h2 h3 h4 h5 h6 h7 b0 g1 b4;go_wp2_with (at_builtin;refine ju jL H.out.2.2.2.2.1 g7.out (Zb f8.out e0.out.size) ?_ (hlen:=(by have:=c8.out;have:=f1.out;unfold maxLen;omega)) (hby:=(by have:=c8.out;have:=f1.out;omega));intro v' w7 p1 p2 p3;have g6:=Qa p1;have g0:=Qa p2;(obtain⟨A',c',he,-⟩:=ah p1);subst he;have a9:=jF H.out.1 H.out.2.1 H.out.2.2.1 H.out.2.2.2.1 H.out.2.2.2.2.1 H.out.2.2.2.2.2 c8.out g6.out g0.out;have r12:=aa a9.1 (j:=12) (u:=.slice a3 k a4) rfl;have f12:=am a9.1 12;have e3:=Qa a9;clear p1 p2 p3 a9);go_ret;have b5:=(Rk.of_below e0.out (Zi d2.out.lt)).trans e3.out.2.2;exact⟨A,n,q,at_,k+1,0,rfl,e3.out.2.1,f6.out.trans b5,Za _,fun _=>⟨c1.out,j,cK.of_leaf e7.out H8.out,(f9.out.keeps b5.2 ij lk lg).imp (fun g h _=>Zb b3.out.2.1 h),by rw[Lf.size e7.out];omega⟩⟩
theorem lu:∀ (l:List JV) (p q:Nat),q∈aV p l->q<=p+JV.sizes l
 | [],p,q,h=>by simp[aV] at h
 |v::vs,p,q,h=>by
  simp only[aV,List.mem_cons] at h;simp only[JV.sizes];rcases h with rfl|h
  ·omega
  ·have:=lu vs (p+v.size) q h;omega
theorem kT (l:List JV):l.length<=JV.sizes l:=bP l
theorem oN {asc:List ByteArray->Prop}{v:JV}(h:cK asc v):∀p,∀x∈v.flat p,x.names.length<=v.size/\∀q∈x.kids,q<=p+v.size:=by
 have key:∀ (ks:List JV),(∀u∈ks,∀p,∀x∈u.flat p,x.names.length<=u.size/\∀q∈x.kids,q<=p+u.size)->∀p,∀y∈JV.flats p ks,y.names.length<=JV.sizes ks/\∀q∈y.kids,q<=p+JV.sizes ks:=by
  intro ks
  induction ks with
  |nil=>intro _ p y h;simp[JV.flats] at h
  |cons v vs ih=>
   intro hu p y h;simp only[JV.flats,List.mem_append] at h;simp only[JV.sizes];rcases h with h|h
   ·have ⟨h1,h2⟩:=hu v (by simp) p y h;exact⟨by omega,fun q hq=>by have:=h2 q hq;omega⟩
   ·have ⟨h1,h2⟩:=ih (fun u hm=>hu u (Zl _ hm)) (p+v.size) y h;exact⟨by omega,fun q hq=>by have:=h2 q hq;omega⟩
 induction h with
 |null|bool b|num d _ _|text s _=>intro p x hx;simp[JV.flat,JV.flats,aV] at hx;subst hx;simp
 |list ks hks ih=>
  intro p x hx;simp only[JV.flat,List.mem_cons] at hx;simp only[JV.size];rcases hx with rfl|hx
  ·exact⟨by simp,fun q hq=>by have:=lu ks (p+1) q hq;omega⟩
  ·have ⟨h1,h2⟩:=key ks ih (p+1) x hx;exact⟨by omega,fun q hq=>by have:=h2 q hq;omega⟩
 |obj ns ks hl h8 ha hks ih=>
  intro p x hx;simp only[JV.flat,List.mem_cons] at hx;simp only[JV.size];rcases hx with rfl|hx
  ·have:=kT ks;exact⟨by show ns.length<=_;omega,fun q hq=>by have:=lu ks (p+1) q hq;omega⟩
  ·have ⟨h1,h2⟩:=key ks ih (p+1) x hx;exact⟨by omega,fun q hq=>by have:=h2 q hq;omega⟩
def mL (len rb:Nat)(wr:World):Nat:=2* (len - (intOf ((wr.cell? ⟨rb,1,none⟩).getD undef)).toNat)+ (if intOf ((wr.cell? ⟨rb,13,none⟩).getD undef)=0 then 1 else 0)
theorem Rd.mu {k:Nat}{c:Int}(h:Rd xs rb w at_ k c):mL xs.length rb w=2* (xs.length - at_)+ (if c=0 then 1 else 0):=by
 have hc:=h.code;obtain⟨a1,a2,a3,a4,a5,a6,a7,L,m,hh,l,us,w0,h1,_⟩:=h;have a0:=aa h1 (j:=1) (u:=.int .i64 at_) rfl;unfold mL;rw[a0,hc]
 by_cases h:c=0 <;> simp[intOf,h]
