import Derived.Test.YthknekoamnnhhaaGreatDoorGZ5ad
set_option linter.unusedVariables false
set_option linter.unusedSimpArgs false
set_option maxHeartbeats 64000000
set_option maxRecDepth 100000
namespace Go.Proofs.YthknekoamnnhhaaGreatDoor
open Go.RowKit
variable {D D0 cs:Array Value}{c0:Int}{xs:List UInt8}{us:List Value}{B at_ base bf g n rb:Nat}{F G:Nat->Prop}{e:TypeId}{u v y1 y2 y3:Value}{w w' w0:World}
def yR (w:World)(e:Ending)(w':World):Prop:= ∃b:Bool,e =.returned (.bool b)/\w=w'
def Jd (s:ByteArray)(w:World)(e:Ending)(w':World):Prop:= ∃b:Bool,e =.returned (.bool b)/\w=w'/\(b=true->0<s.size)
def Fp (w:World)(s3:Value)(wr:World):Prop:= ∃k:Nat,k<=6/\s3 =.int .i64 k/\w=wr
theorem xI (X:Int)(w:World):Calls Tryz.prog 185 #[.int .u8 X] w (yR w):=by
 go_enter Tryz.func185,Tryz.ntmps185;go_wp2_with fail
 go_loopw [3] (Fp w) (fun i _=>6 - (intOf i).toNat)
 case atStart=>exact⟨0,by omega,rfl,rfl⟩
 case round=>
  obtain⟨k,hk,rfl,rfl⟩:=hrel;rcases(by omega:k=0\/k=1\/k=2\/k=3\/k=4\/k=5\/k=6) with rfl|rfl|rfl|rfl|rfl|rfl|rfl
  all_goals clear hk
  all_goals go_wp2_with fail
  all_goals first
   |(go_ret;exact⟨_,rfl,rfl⟩)
   |exact⟨⟨1,by omega,rfl,rfl⟩,by simp[intOf]⟩
   |exact⟨⟨2,by omega,rfl,rfl⟩,by simp[intOf]⟩
   |exact⟨⟨3,by omega,rfl,rfl⟩,by simp[intOf]⟩
   |exact⟨⟨4,by omega,rfl,rfl⟩,by simp[intOf]⟩
   |exact⟨⟨5,by omega,rfl,rfl⟩,by simp[intOf]⟩
   |exact⟨⟨6,by omega,rfl,rfl⟩,by simp[intOf]⟩
theorem AK (X:Int)(w:World):Calls Tryz.prog 184 #[.int .u8 X] w (yR w):=by
 go_enter Tryz.func184,Tryz.ntmps184
 by_cases h1:X=32
 ·go_wp2;go_ret;exact⟨_,rfl,rfl⟩
 have a2:(X==32)=false:=by simpa using h1
 by_cases h2:X=9
 ·go_wp2;go_ret;exact⟨_,rfl,rfl⟩
 have a0:(X==9)=false:=by simpa using h2
 by_cases h3:X=10
 ·go_wp2;go_ret;exact⟨_,rfl,rfl⟩
 have a1:(X==10)=false:=by simpa using h3
 go_wp2;go_ret;exact⟨_,rfl,rfl⟩
theorem nM (X:Int)(w:World):Calls Tryz.prog 186 #[.int .u8 X] w (yR w):=by
 go_enter Tryz.func186,Tryz.ntmps186
 by_cases h1:97<=X <;> by_cases h2:X<=122 <;> by_cases h3:65<=X <;> by_cases h4:X<=90
 all_goals first
  |omega
  |(go_wp2
    go_ret;exact⟨_,rfl,rfl⟩)
theorem yh (s:ByteArray)(w:World):Calls Tryz.prog 187 #[.string s] w (Jd s w):=by
 by_cases hs:s.toList = []
 ·have h1:(s.toList == [110,117,108,108])=false:=by rw[hs];rfl
  have h2:(s.toList == [116,114,117,101])=false:=by rw[hs];rfl
  have h3:(s.toList == [102,97,108,115,101])=false:=by rw[hs];rfl
  clear hs;go_enter Tryz.func187,Tryz.ntmps187;go_wp2
  all_goals
   go_ret;exact⟨_,rfl,rfl,fun h=>by simp_all⟩
 ·have H:=Qa (show 0<s.size from by
   rcases Nat.eq_zero_or_pos s.size with h|h
   ·exact absurd (by
     have e:s=ByteArray.empty:=ByteArray.size_eq_zero_iff.1 h;rw[e];exact(ByteArray.toList_eq _).trans rfl) hs
   ·exact h)
  clear hs;go_enter Tryz.func187,Tryz.ntmps187;go_wp2
  all_goals
   go_ret;exact⟨_,rfl,rfl,fun _=>H.out⟩
def Gj (w:World)(n:Nat)(s5 s6:Value)(wr:World):Prop:=
 (s5 =.slice none 0 0/\s6 =.int .i64 0/\w=wr)\/(n=1/\∃g' b x s c,s5 =.slice (some ⟨g',0,none⟩) 1 c/\s6 =.int .i64 1/\Below w.heap.size w wr/\wr.cell? ⟨g',0,none⟩=some (.bool b)/\wr.cell? ⟨g',1,none⟩=some (.int .i64 x)/\wr.cell? ⟨g',2,none⟩=some (.string s))
theorem oB (c hh l:Int)(v:Value)(by_:Int)(w:World)(hv:Wr w v):Calls Tryz.prog 189 #[dJ c hh l v,.int .i64 by_] w (uY w c):=by
 unfold dJ;obtain⟨A,n,q,rfl,-⟩:=hv.slice;have Hv:=Qa hv;have b1:Below w.heap.size w ((w.alloc (.cells #[.int .i64 c,.int .i64 hh,.int .i64 l,.slice A n q] 70)).alloc (.cells #[.int .i64 0,.int .i64 0,.int .i64 0,.slice none 0 0] 70)):=((Zd w.heap.size w).alloc (Za _) _).alloc (by simp) _;have a5:=ar w [.int .i64 c,.int .i64 hh,.int .i64 l,.slice A n q] 70;have a9:=Ze (w.alloc (.cells #[.int .i64 c,.int .i64 hh,.int .i64 l,.slice A n q] 70)) (.cells #[.int .i64 0,.int .i64 0,.int .i64 0,.slice none 0 0] 70);rw[World.size_alloc] at a9;have a4:=ac (w.alloc (.cells #[.int .i64 c,.int .i64 hh,.int .i64 l,.slice A n q] 70)) (.cells #[.int .i64 0,.int .i64 0,.int .i64 0,.slice none 0 0] 70);have c0:=Zf a4 (a5 0 _ rfl);have c1:=Zf a4 (a5 1 _ rfl);have c2:=Zf a4 (a5 2 _ rfl);have c3:=Zf a4 (a5 3 _ rfl);have a2:=Qa b1;have a6:=Qa a9;have Hc:=Qa (And.intro c0 (And.intro c1 (And.intro c2 c3)));clear b1 a5 a9 a4 hv c0 c1 c2 c3;go_enter Tryz.func189,Tryz.ntmps189;go_wp2_with fail;generalize ((w.alloc (.cells #[.int .i64 c,.int .i64 hh,.int .i64 l,.slice A n q] 70)).alloc (.cells #[.int .i64 0,.int .i64 0,.int .i64 0,.slice none 0 0] 70))=w0 at *
 go_loopw [5,6] (Gj w0 n) (fun _ i _=>1 - (intOf i).toNat)
 case atStart=>exact .inl ⟨rfl,rfl,rfl⟩
 case round=>
  rcases hrel with ⟨rfl,rfl,rfl⟩|⟨rfl,g',b,x,s,q',rfl,rfl,a1,k0,k1,k2⟩
  ·have hcc:=Hc.out;rcases Hv.out with e|⟨g,q',b,p,s,e,h1,h2,h3⟩
   ·injection e with e1 e2 e3
    subst e1;subst e2;subst e3;obtain⟨c0,c1,c2,c3⟩:=hcc;go_wp2_with (refine bM a6.out ?_);exact Zg (results_cell_row Tryz.results189 _ _ (w.heap.size+1) 70 _ (0,0) _ (by simp) (setRow_heap _ _ _ _ _ _ a6.out) Tryz.underlying70 rfl bo) rfl ⟨_,rfl,⟨hh,l,_,rfl,.inl rfl⟩,a2.out.grown (ai ..) a2.out.size (fun g e=>by cases e;omega)⟩
   ·injection e with e1 e2 e3
    subst e1;subst e2;subst e3;obtain⟨c0,c1,c2,c3⟩:=hcc;have h1:=Zf a2.out h1;have h2:=Zf a2.out h2;have h3:=Zf a2.out h3;go_wp2_with fail;generalize hZ:(#[Value.bool b,Value.int IntKind.i64 (wrap64 (p+by_)),Value.string s]++Builtin.zeroCells #[Value.bool false,Value.int IntKind.i64 0,Value.string {data:= #[]}] ((Question.appendCap 1 0 320).cut (w0.tape w0.drawn (Question.appendCap 1 0 320)) - 1))=Z;generalize hW:(w0.alloc (.cells #[.bool b,.int .i64 (wrap64 (p+by_)),.string s] 320)).alloc (.cells #[.bool b,.int .i64 (wrap64 (p+by_)),.string s] 320)=W;have b3:W.heap.size=w0.heap.size+1+1:=by rw[<-hW];simp
    have b0:Below w0.heap.size w0 W:=by rw[<-hW];exact(ac w0 _).alloc (by simp) _
    have hn:=Ze W (.cells Z 320);rw[b3] at hn;have z0:Z[0]?=some (.bool b):=by rw[<-hZ];simp[Array.getElem?_append]
    have z1:Z[1]?=some (.int .i64 (wrap64 (p+by_))):=by rw[<-hZ];simp[Array.getElem?_append]
    have z2:Z[2]?=some (.string s):=by rw[<-hZ];simp[Array.getElem?_append]
    have a7:∀j u,Z[j]?=some u->((W.alloc (.cells Z 320)).drew).cell? ⟨w0.heap.size+1+1,j,none⟩=some u:=by
     intro j u hu
     show(W.alloc (.cells Z 320)).cell? ⟨w0.heap.size+1+1,j,none⟩=some u
     unfold World.cell?;simp only[hn];simpa using hu
    exact⟨.inr ⟨rfl,_,b,_,s,_,rfl,rfl,(b0.alloc b0.size _).drew,a7 0 _ z0,a7 1 _ z1,a7 2 _ z2⟩,by simp[intOf]⟩
  ·obtain⟨c0,c1,c2,c3⟩:=Hc.out;have c0:=Zf a1 c0;have c1:=Zf a1 c1;have c2:=Zf a1 c2;have c3:=Zf a1 c3;have a0:=Qa ((a1.block _ (ae a6.out)).trans a6.out);have b2:=Qa (a2.out.trans (a1.mono a2.out.size));have hu:dQ wr c (dJ c hh l (.slice (some ⟨g',0,none⟩) 1 q')):=⟨hh,l,_,rfl,.inr ⟨g',q',b,x,s,rfl,k0,k1,k2⟩⟩;obtain⟨fh,fl,fA,fq,fr,a3,h1,h2⟩:=bO hu a0.out;injection a3 with a3
   obtain⟨rfl,rfl,a3⟩:hh=fh/\l=fl/\Value.slice (some ⟨g',0,none⟩) 1 q'=Value.slice fA fq fr:=by simpa using a3
   obtain⟨rfl,rfl,rfl⟩:some ⟨g',0,none⟩=fA/\1=fq/\q'=fr:=by simpa using a3
   have H2:=Qa h2;clear h1 h2 hu a3 k0 k1 k2 a1;go_wp2_with (refine bM a0.out ?_);exact Zg (results_cell_row Tryz.results189 _ _ (w.heap.size+1) 70 _ (0,0) _ (by simp) (setRow_heap _ _ _ _ _ _ a0.out) Tryz.underlying70 rfl bo) rfl ⟨_,rfl,H2.out,b2.out.grown (ai ..) b2.out.size (fun g e=>by cases e;omega)⟩
structure Tk where
 kind:Int
 at_:Int
 mark:Int
 str:ByteArray
 num:Dc
def kE (t:Tk):Value:=.agg #[.int .i64 t.kind,.int .i64 t.at_,.int .u8 t.mark,.string t.str,.bool t.num.neg,.string t.num.digits,.int .i64 t.num.exp]
def Eh:Tk:=⟨0,0,0,es,⟨false,es,0⟩⟩
theorem de:(Tryz.prog.info? 205).map (·.size)=some 7:=by kernel_rfl
theorem fv (a b c:Int)(s:ByteArray)(n:Bool)(d:ByteArray)(x:Int):(#[.int .i64 a,.int .i64 b,.int .u8 c,.string s,.bool n,.string d,.int .i64 x]:Array Value).all (·.oneCell')=true:=by simp[Value.oneCell']
theorem cC {fn:Func}{p m q:Tmp}(h:fn.results = #[.cell p 205,.tmp m,.cell q 70])(tmps:Array Value)(w:World)(g1 g:Nat)(t1 t:TypeId)(d0 d1 d2 d3 d4 d5 d6 c0 c1 c2 c3:Value)(fr1 fr:Nat×Nat)
  (a2:tmps.getD p undef =.pointer (some ⟨g1,0,none⟩)) (a3:w.heap[g1]?=some (.cells #[d0,d1,d2,d3,d4,d5,d6] t1 fr1))
  (hp:tmps.getD q undef =.pointer (some ⟨g,0,none⟩)) (hg:w.heap[g]?=some (.cells #[c0,c1,c2,c3] t fr)) :
  (results fn tmps).run Tryz.prog w =.ok (.tuple #[.agg #[d0,d1,d2,d3,d4,d5,d6],tmps.getD m undef,.agg #[c0,c1,c2,c3]]) w:=by
 have a0:tmps[p]?.getD undef =.pointer (some ⟨g1,0,none⟩):=by simpa using a2
 have a1:tmps[q]?.getD undef =.pointer (some ⟨g,0,none⟩):=by simpa using hp
 have a4:=run_loadVar_row (P:=Tryz.prog) w g1 t1 205 #[d0,d1,d2,d3,d4,d5,d6] fr1 _ a3 Tryz.underlying205 rfl (by kernel_rfl);have hl:=run_loadVar_row (P:=Tryz.prog) w g t 70 #[c0,c1,c2,c3] fr _ hg Tryz.underlying70 rfl bo;simp[results,h,a0,a1,asAddr,a4,hl]
theorem fO {k:Int}{bd:Nat}{T:TypeId}(hu:dQ w k u)(hd:w.heap[bd]?=some (.cells D0 T (0,0)))(hD:∀b:Bool,D0[0]?≠some (.bool b))(hlt:bd<bf)(hf:w.heap[bf]?=some (.cells #[.int .i64 c0,y1,y2,y3] 70 (0,0)))(a3:w0.heap.size<=bd)(a5:w0.heap.size<=bf)(hb:Below w0.heap.size w0 w) :
  ∃h l A q r,u =.agg #[.int .i64 k,.int .i64 h,.int .i64 l,.slice A q r]/\(w.setRow bd D).heap[bf]?=some (.cells #[.int .i64 c0,y1,y2,y3] 70 (0,0))/\((w.setRow bd D).setRow bf #[.int .i64 k,.int .i64 h,.int .i64 l,.slice A q r]).heap[bd]?=some (.cells D T (0,0))/\
   ((w.setRow bd D).setRow bf #[.int .i64 k,.int .i64 h,.int .i64 l,.slice A q r]).heap[bf]?=some (.cells #[.int .i64 k,.int .i64 h,.int .i64 l,.slice A q r] 70 (0,0))/\
   dQ ((w.setRow bd D).setRow bf #[.int .i64 k,.int .i64 h,.int .i64 l,.slice A q r]) k u/\Below w0.heap.size w0 ((w.setRow bd D).setRow bf #[.int .i64 k,.int .i64 h,.int .i64 l,.slice A q r]):=by
 have hne:bd≠bf:=Nat.ne_of_lt hlt;have a4:dQ (w.setRow bd D) k u:=by
  obtain⟨h,l,s,rfl,hs⟩:=hu;refine⟨h,l,s,rfl,?_⟩;rcases hs with e|⟨g,c',b',p,s',e,h1,h2,h3⟩
  ·exact .inl e
  ·have hne:some g≠some bd:=fun e'=>by
    injection e' with e';subst e'
    have a0:=h1;unfold World.cell? at a0;simp only[hd] at a0;exact hD b' (by simpa using a0)
   exact .inr ⟨g,c',b',p,s',e,(ai w _ _).cell h1 hne,(ai w _ _).cell h2 hne,(ai w _ _).cell h3 hne⟩
 have a1:(w.setRow bd D).heap[bf]?=some (.cells #[.int .i64 c0,y1,y2,y3] 70 (0,0)):=(setRow_other w bd bf D (Ne.symm hne)).trans hf;obtain⟨h,l,A,q,r,e,h1,h2⟩:=bO a4 a1;refine⟨h,l,A,q,r,e,a1,?_,setRow_heap _ _ _ _ _ _ a1,h2,?_⟩
 ·exact(setRow_other _ bf bd _ hne).trans (setRow_heap _ _ _ _ _ _ hd)
 ·have a2:Below w0.heap.size w0 (w.setRow bd D):=hb.grown (ai ..) hb.size (fun g e=>by cases e;exact a3);exact a2.grown (ai ..) a2.size (fun g e=>by cases e;exact a5)
def S4 (fb:Nat)(w:World):Prop:=w.cell? ⟨fb,0,none⟩=some (.int .i64 0)/\w.cell? ⟨fb,1,none⟩=some (.int .i64 0)/\w.cell? ⟨fb,2,none⟩=some (.int .i64 0)/\w.cell? ⟨fb,3,none⟩=some (.slice none 0 0)
theorem eE {b r:Nat}(h:w.cell? ⟨b,n,none⟩=some v)(hg:w.grownBy w' (some r))(hr:b≠r):w'.cell? ⟨b,n,none⟩=some v:=hg.cell h fun e=>by injection e with e;exact hr e
theorem S4.keep {fb r:Nat}(h:S4 fb w)(hg:w.grownBy w' (some r))(hr:fb≠r):S4 fb w':=by
 exact⟨eE h.1 hg hr,eE h.2.1 hg hr,eE h.2.2.1 hg hr,eE h.2.2.2 hg hr⟩
theorem jv {bd:Nat}{T:TypeId}{S:World->Prop}(hd:w.heap[bd]?=some (.cells D0 T (0,0)))(hD:∀b:Bool,D0[0]?≠some (.bool b))(hlt:bd<bf)(hf:w.heap[bf]?=some (.cells #[.int .i64 c0,y1,y2,y3] 70 (0,0)))(a1:w0.heap.size<=bd)(a2:w0.heap.size<=bf)(hb:Below w0.heap.size w0 w)
  (hS:S w) (hk:∀ (w1 w2:World) (r:Nat),w1.grownBy w2 (some r)->r=bd\/r=bf->S w1->S w2) :
  Hid ((w.setRow bd D).heap[bf]?=some (.cells #[.int .i64 c0,y1,y2,y3] 70 (0,0)))/\Hid (((w.setRow bd D).setRow bf #[.int .i64 0,.int .i64 0,.int .i64 0,.slice none 0 0]).heap[bd]?=some (.cells D T (0,0)))/\
   Hid (((w.setRow bd D).setRow bf #[.int .i64 0,.int .i64 0,.int .i64 0,.slice none 0 0]).heap[bf]?=some (.cells #[.int .i64 0,.int .i64 0,.int .i64 0,.slice none 0 0] 70 (0,0)))/\
   Hid (dQ ((w.setRow bd D).setRow bf #[.int .i64 0,.int .i64 0,.int .i64 0,.slice none 0 0]) 0 (dJ 0 0 0 (.slice none 0 0)))/\Hid (Below w0.heap.size w0 ((w.setRow bd D).setRow bf #[.int .i64 0,.int .i64 0,.int .i64 0,.slice none 0 0]))/\Hid (S (w.setRow bd D))/\Hid (S ((w.setRow bd D).setRow bf #[.int .i64 0,.int .i64 0,.int .i64 0,.slice none 0 0])):=by
 obtain⟨gh,gl',gA,gq,gr,a0,h3,h4,h5,h1,h2⟩:=fO (D:=D) (show dQ w 0 (dJ 0 0 0 (.slice none 0 0)) from⟨0,0,_,rfl,.inl rfl⟩) hd hD hlt hf a1 a2 hb;injection a0 with a0
 obtain⟨rfl,rfl,a0⟩:0=gh/\0=gl'/\Value.slice none 0 0=Value.slice gA gq gr:=by simpa using a0
 obtain⟨rfl,rfl,rfl⟩:none=gA/\0=gq/\0=gr:=by simpa using a0
 have s1:=hk _ _ _ (ai w bd D) (.inl rfl) hS;exact⟨h3,h4,h5,h1,h2,s1,hk _ _ _ (ai ..) (.inr rfl) s1⟩
theorem fS (n:Nat):es.size<=n:=Zb (Nat.le_of_eq (rfl:es.size=0)) (Zj _)
def BR (len at_:Nat)(w:World)(e:Ending)(w':World):Prop:= ∃ (t:Tk) (n:Nat) (c:Int) (u:Value),e =.returned (.tuple #[kE t,.int .i64 n,u])/\dQ w' c u/\Below w.heap.size w w'/\
 at_+n<=len/\t.str.size<=len/\t.num.digits.size<=len+1/\(c=0->(t.kind≠5->1<=n)/\(t.kind=4->fM t.str.data.toList)/\(t.kind=3->jS t.num))
def kS (at_ len:Nat)(w:World)(s8:Value)(wr:World):Prop:= ∃k:Nat,at_<=k/\k<=len/\s8 =.int .i64 k/\w=wr
theorem gV (hb:Bs w v xs)(hl:xs.length<=900000)(hat:at_<=xs.length):Calls Tryz.prog 146 #[v,.int .i64 at_] w (BR xs.length at_ w):=by
 obtain⟨hm,A,cap,rfl,h8,c3⟩:=id hb;have f1:=Ze w (.cells #[.int .i64 0,.int .i64 0,.int .u8 0,.string es,.bool false,.string es,.int .i64 0] 205);have e5:=Ze (w.alloc (.cells #[.int .i64 0,.int .i64 0,.int .u8 0,.string es,.bool false,.string es,.int .i64 0] 205)) (.cells #[.int .i64 0,.int .i64 0,.int .i64 0,.slice none 0 0] 70);rw[World.size_alloc] at e5;have f8:Below w.heap.size w ((w.alloc (.cells #[.int .i64 0,.int .i64 0,.int .u8 0,.string es,.bool false,.string es,.int .i64 0] 205)).alloc (.cells #[.int .i64 0,.int .i64 0,.int .i64 0,.slice none 0 0] 70)):=((Zd _ _).alloc (Za _) _).alloc (by simp) _;have d0:((w.alloc (.cells #[.int .i64 0,.int .i64 0,.int .u8 0,.string es,.bool false,.string es,.int .i64 0] 205)).alloc (.cells #[.int .i64 0,.int .i64 0,.int .i64 0,.slice none 0 0] 70)).heap[w.heap.size]?=some (.cells #[.int .i64 0,.int .i64 0,.int .u8 0,.string es,.bool false,.string es,.int .i64 0] 205 (0,0)):=(Below.heap_alloc _ _ _ (by simp)).trans f1;have g1:=Qa d0;have e7:=Qa e5;have f0:=Qa f8;have f3:=Qa hb;have c4:=Qa c3;clear f1 d0 e5 f8 hb c3;go_enter Tryz.func146,Tryz.ntmps146;go_wp2_with fail;generalize (w.alloc (.cells #[.int .i64 0,.int .i64 0,.int .u8 0,.string es,.bool false,.string es,.int .i64 0] 205)).alloc (.cells #[.int .i64 0,.int .i64 0,.int .i64 0,.slice none 0 0] 70)=w0 at *;refine(eS 0 w0).mono ?_;rintro e w1 ⟨rfl,d9⟩;rw[show dJ 0 0 0 (.slice none 0 0) =.agg #[.int .i64 0,.int .i64 0,.int .i64 0,.slice none 0 0] from rfl];have b9:=ac w1 (.cells #[.int .i64 0,.int .i64 0,.int .i64 0,.slice none 0 0] 70);have b0:=ar w1 [.int .i64 0,.int .i64 0,.int .i64 0,.slice none 0 0] 70;have a0:=Qa (And.intro (b0 0 _ rfl) (And.intro (b0 1 _ rfl) (And.intro (b0 2 _ rfl) (b0 3 _ rfl))));have c1:=d9.trans (b9.mono d9.size);have b1:=Qa (f0.out.trans (c1.mono f0.out.size));have b3:=Qa ((c1.block _ (ae g1.out)).trans g1.out);have b5:=Qa ((c1.block _ (ae e7.out)).trans e7.out);have g7:w.heap.size+1<w1.heap.size:=Nat.lt_of_lt_of_le (ae e7.out) d9.size;clear b0 b9 d9 c1;go_upto_block 0 with fail
 have d2:=Qa (show w1.heap.size< (w1.alloc (.cells #[.int .i64 0,.int .i64 0,.int .i64 0,.slice none 0 0] 70)).heap.size by simp);generalize (w1.alloc (.cells #[.int .i64 0,.int .i64 0,.int .i64 0,.slice none 0 0] 70))=w2 at *;generalize w1.heap.size=fb at *;go_cut [8] (fun s8 wx=>kS at_ xs.length w2 s8 wx)
 case first=>
  go_wp2_with fail
  go_loopw [8] (kS at_ xs.length w2) (fun i _=>xs.length - (intOf i).toNat)
  case atStart=>exact⟨at_,by omega,hat,rfl,rfl⟩
  case round=>
   obtain⟨k,hk1,hk2,rfl,rfl⟩:=hrel
   by_cases hlt:k<xs.length
   case neg=>
    have hki:¬ (k:Int)<xs.length:=by omega
    go_wp2_with fail;go_meet
    case rel=>exact⟨k,hk1,hk2,rfl,rfl⟩
   have hki:(k:Int)<xs.length:=by omega
   obtain⟨b,o,rfl,c9⟩:=c4.out (by omega);have ck:=Zf b1.out (c9 k hlt);clear c9;go_wp2_with fail;refine(AK _ w2).mono ?_;rintro e w' ⟨t,rfl,rfl⟩
   cases t
   ·go_wp2_with fail;go_meet
    case rel=>exact⟨k,hk1,hk2,rfl,rfl⟩
   ·go_wp2_with fail;exact⟨⟨k+1,by omega,by omega,by go_num,rfl⟩,by simp[intOf];omega⟩
 case rest=>
  obtain⟨k,hk1,hk2,rfl,rfl⟩:=hcut;have n1:IntKind.i64.wrap ((k:Int) - at_)= (k:Int) - at_:=IntWalk.i64_in _ (by omega)
  by_cases hlt:k<xs.length
  case neg=>
   obtain rfl:k=xs.length:=by omega
   go_wp2_with fail;obtain⟨H3,H4,H5,H1,H2,b2,b4⟩:=jv (w:=w2.drew) (S:=S4 fb) (D:= #[.int .i64 5,.int .i64 xs.length,.int .u8 0,.string es,.bool false,.string es,.int .i64 0]) b3.out (fun _ e=>by simp at e) (by omega) b5.out (Za _) (by omega) (b1.out.drew) a0.out (fun _ _ r hg hr h=>h.keep hg (by omega));refine aR (fun w'=>w'.cell? ⟨fb,0,none⟩=some (.int .i64 0)/\w'.cell? ⟨fb,1,none⟩=some (.int .i64 0)/\w'.cell? ⟨fb,2,none⟩=some (.int .i64 0)/\w'.cell? ⟨fb,3,none⟩=some (.slice none 0 0)) (a0.out) fun a4=>?_
   refine tH 0 a4 ?_;refine tH 1 a4 ?_;refine tH 2 a4 ?_;refine tH 3 a4 ?_;refine tH 4 a4 ?_;refine tH 5 a4 ?_
   try simp only[Act.put,jP,jQ,jR]
   refine rH 6 fun K hK=>?_
   refine bT b3.out ?_;refine hK.out _ _ (b2.out) (fun a4=>?_);clear hK K
   try simp only[Act.put,jP,jQ,jR]
   refine tH 7 a4 ?_
   try simp only[Act.put,jP,jQ,jR]
   refine rH 8 fun K hK=>?_
   refine bT H3.out ?_;refine hK.out _ _ (b4.out) (fun a4=>?_);clear hK K
   try simp only[Act.put,jP,jQ,jR]
   refine wpAnyH_done (by kernel_rfl) (NoPanic.normal ?_) _;go_wp2_with fail;have h4:=H4.out;have h5:=H5.out;exact Zg (cC Tryz.results146 _ _ _ _ _ _ _ _ _ _ _ _ _ _ _ _ _ (0,0) (0,0) rfl h4 rfl h5) rfl ⟨⟨5,xs.length,0,es,⟨false,es,0⟩⟩,xs.length - at_,0,_,by rw[show((xs.length - at_:Nat):Int)= (xs.length:Int) - at_ from by omega];rfl,H1.out,H2.out,by omega,fS _,fS _,fun _=>⟨fun h=>absurd rfl h,fun h=>absurd h (show ¬ (5:Int)=4 by decide),fun h=>absurd h (show ¬ (5:Int)=3 by decide)⟩⟩
  have hki:(k:Int)<xs.length:=by omega
  obtain⟨b,o,rfl,c9⟩:=c4.out (by omega);have ck:=Zf b1.out (c9 k hlt);obtain⟨X,hX,i2,h9⟩:∃X:Int,(ap xs k:Int)=X/\0<=X/\X<256:=⟨_,rfl,by omega,by have:=aK xs k;omega⟩;rw[hX] at ck;have g5:=Qa c9;clear hX c9;have n2:IntKind.i64.wrap ((k:Int) - at_+1)= (k:Int) - at_+1:=IntWalk.i64_in _ (by omega);have hne:((k:Int)==xs.length)=false:=by simp;omega
  go_wp2_with fail;refine(xI X w2).mono ?_;rintro e w' ⟨t,rfl,rfl⟩
  cases t
  case true=>
   go_wp2_with fail;obtain⟨H3,H4,H5,H1,H2,b2,b4⟩:=jv (w:=w2.drew) (S:=S4 fb) (D:= #[.int .i64 1,.int .i64 k,.int .u8 X,.string es,.bool false,.string es,.int .i64 0]) b3.out (fun _ e=>by simp at e) (by omega) b5.out (Za _) (by omega) (b1.out.drew) a0.out (fun _ _ r hg hr h=>h.keep hg (by omega));refine aR (fun w'=>w'.cell? ⟨fb,0,none⟩=some (.int .i64 0)/\w'.cell? ⟨fb,1,none⟩=some (.int .i64 0)/\w'.cell? ⟨fb,2,none⟩=some (.int .i64 0)/\w'.cell? ⟨fb,3,none⟩=some (.slice none 0 0)) (a0.out) fun a4=>?_
   refine tH 0 a4 ?_;refine tH 1 a4 ?_;refine tH 2 a4 ?_;refine tH 3 a4 ?_;refine tH 4 a4 ?_;refine tH 5 a4 ?_
   try simp only[Act.put,jP,jQ,jR]
   refine tH 6 a4 ?_;refine tH 7 a4 ?_
   try simp only[Act.put,jP,jQ,jR]
   refine rH 8 fun K hK=>?_
   refine bT b3.out ?_;refine hK.out _ _ (b2.out) (fun a4=>?_);clear hK K
   try simp only[Act.put,jP,jQ,jR]
   refine tH 9 a4 ?_
   try simp only[Act.put,jP,jQ,jR]
   refine rH 10 fun K hK=>?_
   refine bT H3.out ?_;refine hK.out _ _ (b4.out) (fun a4=>?_);clear hK K
   try simp only[Act.put,jP,jQ,jR]
   refine wpAnyH_done (by kernel_rfl) (NoPanic.normal ?_) _;go_wp2_with fail;have h4:=H4.out;have h5:=H5.out;exact Zg (cC Tryz.results146 _ _ _ _ _ _ _ _ _ _ _ _ _ _ _ _ _ (0,0) (0,0) rfl h4 rfl h5) rfl ⟨⟨1,k,X,es,⟨false,es,0⟩⟩,k - at_+1,0,_,by rw[show((k - at_+1:Nat):Int)= (k:Int) - at_+1 from by omega];rfl,H1.out,H2.out,by omega,fS _,fS _,fun _=>⟨fun _=>by omega,fun h=>absurd h (show ¬ (1:Int)=4 by decide),fun h=>absurd h (show ¬ (1:Int)=3 by decide)⟩⟩
  go_wp2_with fail;refine(nM X w2).mono ?_;rintro e w' ⟨t,rfl,rfl⟩
  cases t
  case true=>
   go_upto_block 3 with fail
   go_cut [10] (fun s8 wx=>kS k xs.length w2 s8 wx)
   case first=>
    go_wp2_with fail
    go_loopw [10] (kS k xs.length w2) (fun i _=>xs.length - (intOf i).toNat)
    case atStart=>exact⟨k,by omega,by omega,rfl,rfl⟩
    case round=>
     obtain⟨q,hq1,hq2,rfl,rfl⟩:=hrel
     by_cases hlq:q<xs.length
     case neg=>
      have g3:¬ (q:Int)<xs.length:=by omega
      go_wp2_with fail;go_meet
      case rel=>exact⟨q,hq1,hq2,rfl,rfl⟩
     have g3:(q:Int)<xs.length:=by omega
     have cq:=Zf b1.out (g5.out q hlq);go_wp2_with fail;refine(nM _ w2).mono ?_;rintro e w' ⟨t,rfl,rfl⟩
     cases t
     ·go_wp2_with fail;go_meet
      case rel=>exact⟨q,hq1,hq2,rfl,rfl⟩
     ·go_wp2_with fail;exact⟨⟨q+1,by omega,by omega,by go_num,rfl⟩,by simp[intOf];omega⟩
   case rest=>
    obtain⟨q,hq1,hq2,rfl,rfl⟩:=hcut;have f4:=((f3.out.cut hk2).upto (k:=q - k) (by simp;omega)).below b1.out;have i0:=aW f4;have z1:(k:Int)<=q:=by omega
    have z2:(q:Int)<=cap:=by omega
    have z3:k<=q:=hq1;have z4:q<=cap:=by omega
    clear f4;have f6:((xs.drop k).take (q - k)).length<=xs.length:=by simp;omega
    have h7:=Qa f6;have e4:=Qa (show((xs.drop k).take (q - k)).length<=q - k by simp;omega);clear f6;generalize ((xs.drop k).take (q - k))=ys at *;have n3:IntKind.i64.wrap ((q:Int) - at_)= (q:Int) - at_:=IntWalk.i64_in _ (by omega);go_wp2_with fail;refine(yh ⟨ys.toArray⟩ w2).mono ?_;rintro e w' ⟨t,rfl,rfl,f9⟩;have e8:=Qa f9;clear f9
    cases t
    case true=>
     have h0:=Qa (show 0<ys.length from by have h:0<ys.toArray.size:=e8.out rfl;simpa using h);go_wp2_with fail;obtain⟨H3,H4,H5,H1,H2,b2,b4⟩:=jv (w:=w2.drew) (S:=S4 fb) (D:= #[.int .i64 2,.int .i64 k,.int .u8 0,.string ⟨ys.toArray⟩,.bool false,.string es,.int .i64 0]) b3.out (fun _ e=>by simp at e) (by omega) b5.out (Za _) (by omega) (b1.out.drew) a0.out (fun _ _ r hg hr h=>h.keep hg (by omega));refine aR (fun w'=>w'.cell? ⟨fb,0,none⟩=some (.int .i64 0)/\w'.cell? ⟨fb,1,none⟩=some (.int .i64 0)/\w'.cell? ⟨fb,2,none⟩=some (.int .i64 0)/\w'.cell? ⟨fb,3,none⟩=some (.slice none 0 0)) (a0.out) fun a4=>?_
     refine tH 0 a4 ?_;refine tH 1 a4 ?_;refine tH 2 a4 ?_;refine tH 3 a4 ?_;refine tH 4 a4 ?_;refine tH 5 a4 ?_
     try simp only[Act.put,jP,jQ,jR]
     refine tH 6 a4 ?_
     try simp only[Act.put,jP,jQ,jR]
     refine rH 7 fun K hK=>?_
     refine bT b3.out ?_;refine hK.out _ _ (b2.out) (fun a4=>?_);clear hK K
     try simp only[Act.put,jP,jQ,jR]
     refine tH 8 a4 ?_
     try simp only[Act.put,jP,jQ,jR]
     refine rH 9 fun K hK=>?_
     refine bT H3.out ?_;refine hK.out _ _ (b4.out) (fun a4=>?_);clear hK K
     try simp only[Act.put,jP,jQ,jR]
     refine wpAnyH_done (by kernel_rfl) (NoPanic.normal ?_) _;go_wp2_with fail;have h4:=H4.out;have h5:=H5.out;exact Zg (cC Tryz.results146 _ _ _ _ _ _ _ _ _ _ _ _ _ _ _ _ _ (0,0) (0,0) rfl h4 rfl h5) rfl ⟨⟨2,k,0,⟨ys.toArray⟩,⟨false,es,0⟩⟩,q - at_,0,_,by rw[show((q - at_:Nat):Int)= (q:Int) - at_ from by omega];rfl,H1.out,H2.out,by omega,by have:=h7.out;show ys.toArray.size<=_;simp;omega,fS _,fun _=>⟨fun _=>by have:=h0.out;have:=e4.out;omega,fun h=>absurd h (show ¬ (2:Int)=4 by decide),fun h=>absurd h (show ¬ (2:Int)=3 by decide)⟩⟩
    go_wp2_with fail;refine(cG 110 k w2).mono ?_;rintro e wz ⟨u,rfl,hu,a9⟩;have b6:=Qa ((a9.block _ (ae b3.out)).trans b3.out);have c5:=Qa ((a9.block _ (ae b5.out)).trans b5.out);obtain⟨fh,fl,fA,fq,fr,rfl,h3,h4,h5,h1,h2⟩:=fO (D:= #[.int .i64 0,.int .i64 0,.int .u8 0,.string es,.bool false,.string es,.int .i64 0]) hu b6.out (fun _ e=>by simp at e) (by omega) c5.out (Za _) (by omega) (b1.out.trans (a9.mono b1.out.size));have H1:=Qa h1;have H2:=Qa h2;have H3:=Qa h3;have H4:=Qa h4;have H5:=Qa h5;clear h1 h2 h3 h4 h5 hu a9;go_wp2_with (first
     |(refine bM b6.out ?_)
     |(refine bM H3.out ?_))
    have h4:=H4.out;have h5:=H5.out;exact Zg (cC Tryz.results146 _ _ _ _ _ _ _ _ _ _ _ _ _ _ _ _ _ (0,0) (0,0) rfl h4 rfl h5) rfl ⟨Eh,0,110,_,rfl,H1.out,H2.out,by omega,fS _,fS _,fun h=>absurd h (show ¬ (110:Int)=0 by decide)⟩
  have hcut:=(f3.out.cut hk2).below b1.out;have c0:=Qa hcut;have g0:(xs.drop k).length=xs.length - k:=by simp
  have d5:=Qa g0;have u1:k<=xs.length:=hk2;have u3:¬cap=k:=by omega
  clear hcut g0
  by_cases e34:X=34
  ·subst e34;go_wp2_with fail;rw[<-d5.out] at c0 ⊢;refine(uw c0.out (by have:=d5.out;omega)).mono ?_;rintro e w3 ⟨s,n,c,u,rfl,⟨fh,fl,fs,rfl,c7⟩,b8,d1⟩;obtain⟨fA,fq,fr,rfl,-⟩:=c7.slice;rw[show dJ c fh fl (.slice fA fq fr) =.agg #[.int .i64 c,.int .i64 fh,.int .i64 fl,.slice fA fq fr] from rfl];have b9:=ac w3 (.cells #[.int .i64 c,.int .i64 fh,.int .i64 fl,.slice fA fq fr] 70);have b0:=ar w3 [.int .i64 c,.int .i64 fh,.int .i64 fl,.slice fA fq fr] 70;have q0:=b0 0 _ rfl;have q1:=b0 1 _ rfl;have q2:=b0 2 _ rfl;have q3:=b0 3 _ rfl;clear b0;have a5:=b8.trans (b9.mono b8.size);have Hs:=Qa (c7.below b9);have c8:=Qa (b1.out.trans (a5.mono b1.out.size));have c2:=Qa ((a5.block _ (ae b3.out)).trans b3.out);have c6:=Qa ((a5.block _ (ae b5.out)).trans b5.out);have a7:=Qa (And.intro (Zf a5 a0.out.1) (And.intro (Zf a5 a0.out.2.1) (And.intro (Zf a5 a0.out.2.2.1) (Zf a5 a0.out.2.2.2))));have e6:=Qa d1;have d4:=Qa (Nat.lt_of_lt_of_le (ae b5.out) b8.size);clear b9 b8 a5 c7 d1
   by_cases hc:c=0
   case neg=>
    have g8:(c !=0)=true:=by simpa using hc
    have Hc:=Qa hc;clear hc;go_wp2_with fail;generalize (w3.alloc (.cells #[.int .i64 c,.int .i64 fh,.int .i64 fl,.slice fA fq fr] 70))=w4 at *;refine(oB c fh fl (.slice fA fq fr) k w4 Hs.out).mono ?_;rintro e wz ⟨u,rfl,hu,a9⟩;have b6:=Qa ((a9.block _ (ae c2.out)).trans c2.out);have c5:=Qa ((a9.block _ (ae c6.out)).trans c6.out);obtain⟨fh,fl,fA,fq,fr,rfl,h3,h4,h5,h1,h2⟩:=fO (D:= #[.int .i64 0,.int .i64 0,.int .u8 0,.string es,.bool false,.string es,.int .i64 0]) hu b6.out (fun _ e=>by simp at e) (by omega) c5.out (Za _) (by omega) (c8.out.trans (a9.mono c8.out.size));have H1:=Qa h1;have H2:=Qa h2;have H3:=Qa h3;have H4:=Qa h4;have H5:=Qa h5;clear h1 h2 h3 h4 h5 hu a9;go_wp2_with (first
     |(refine bM b6.out ?_)
     |(refine bM H3.out ?_))
    have h4:=H4.out;have h5:=H5.out;exact Zg (cC Tryz.results146 _ _ _ _ _ _ _ _ _ _ _ _ _ _ _ _ _ (0,0) (0,0) rfl h4 rfl h5) rfl ⟨Eh,0,c,_,rfl,H1.out,H2.out,by omega,fS _,fS _,fun h=>absurd h Hc.out⟩
   subst hc;obtain⟨f2,f5,g6,d3⟩:=e6.out rfl;have g4:=Qa f2;have b7:=Qa (show(xs.drop k).length=xs.length - k by simp);have d3:n<=xs.length - k:=by rw[<-b7.out];exact d3
   have f5:s.size<=xs.length:=by have:=b7.out;omega
   have n4:IntKind.i64.wrap ((k:Int) - at_+n)= (k:Int) - at_+n:=IntWalk.i64_in _ (by omega);clear f2;go_wp2_with fail;generalize (w3.alloc (.cells #[.int .i64 0,.int .i64 fh,.int .i64 fl,.slice fA fq fr] 70))=w4 at *;obtain⟨H3,H4,H5,H1,H2,b2,b4⟩:=jv (w:=w4.drew) (S:=S4 fb) (D:= #[.int .i64 4,.int .i64 k,.int .u8 0,.string s,.bool false,.string es,.int .i64 0]) c2.out (fun _ e=>by simp at e) (by omega) c6.out (Za _) (by omega) (c8.out.drew) a7.out (fun _ _ r hg hr h=>h.keep hg (by omega));refine aR (fun w'=>w'.cell? ⟨fb,0,none⟩=some (.int .i64 0)/\w'.cell? ⟨fb,1,none⟩=some (.int .i64 0)/\w'.cell? ⟨fb,2,none⟩=some (.int .i64 0)/\w'.cell? ⟨fb,3,none⟩=some (.slice none 0 0)) (a7.out) fun a4=>?_
   refine tH 0 a4 ?_;refine tH 1 a4 ?_;refine tH 2 a4 ?_;refine tH 3 a4 ?_;refine tH 4 a4 ?_;refine tH 5 a4 ?_
   try simp only[Act.put,jP,jQ,jR]
   refine tH 6 a4 ?_;refine tH 7 a4 ?_;refine tH 8 a4 ?_
   try simp only[Act.put,jP,jQ,jR]
   refine rH 9 fun K hK=>?_
   refine bT c2.out ?_;refine hK.out _ _ (b2.out) (fun a4=>?_);clear hK K
   try simp only[Act.put,jP,jQ,jR]
   refine tH 10 a4 ?_
   try simp only[Act.put,jP,jQ,jR]
   refine rH 11 fun K hK=>?_
   refine bT H3.out ?_;refine hK.out _ _ (b4.out) (fun a4=>?_);clear hK K
   try simp only[Act.put,jP,jQ,jR]
   refine wpAnyH_done (by kernel_rfl) (NoPanic.normal ?_) _;go_wp2_with fail;have h4:=H4.out;have h5:=H5.out;exact Zg (cC Tryz.results146 _ _ _ _ _ _ _ _ _ _ _ _ _ _ _ _ _ (0,0) (0,0) rfl h4 rfl h5) rfl ⟨⟨4,k,0,s,⟨false,es,0⟩⟩,k - at_+n,0,_,by rw[show((k - at_+n:Nat):Int)= (k:Int) - at_+n from by omega];rfl,H1.out,H2.out,by omega,f5,fS _,fun _=>⟨fun _=>by omega,fun _=>g4.out,fun h=>absurd h (show ¬ (4:Int)=3 by decide)⟩⟩
  have e34':(X==34)=false:=by simpa using e34
  clear e34;have e3:=Qa (show fb<w2.heap.size from d2.out);go_upto_region 23 with fail
  go_cut [120] (fun s120 wx=>(∃b:Bool,s120 =.bool b)/\w2=wx)
  case first=>
   by_cases a1:X=45
   ·go_wp2_with fail;go_meet
    case rel=>exact⟨⟨_,rfl⟩,rfl⟩
   have a1':(X==45)=false:=by simpa using a1
   by_cases a2:48<=X <;> by_cases a3:X<=57 <;> go_wp2_with fail
   all_goals
    go_meet
    case rel=>exact⟨⟨_,rfl⟩,rfl⟩
  case rest=>
   obtain⟨⟨t,rfl⟩,rfl⟩:=hcut
   cases t
   ·go_wp2_with fail;refine(cG 110 k w2).mono ?_;rintro e wz ⟨u,rfl,hu,a9⟩;have b6:=Qa ((a9.block _ (ae b3.out)).trans b3.out);have c5:=Qa ((a9.block _ (ae b5.out)).trans b5.out);obtain⟨fh,fl,fA,fq,fr,rfl,h3,h4,h5,h1,h2⟩:=fO (D:= #[.int .i64 0,.int .i64 0,.int .u8 0,.string es,.bool false,.string es,.int .i64 0]) hu b6.out (fun _ e=>by simp at e) (by omega) c5.out (Za _) (by omega) (b1.out.trans (a9.mono b1.out.size));have H1:=Qa h1;have H2:=Qa h2;have H3:=Qa h3;have H4:=Qa h4;have H5:=Qa h5;clear h1 h2 h3 h4 h5 hu a9;go_wp2_with (first
     |(refine bM b6.out ?_)
     |(refine bM H3.out ?_))
    have h4:=H4.out;have h5:=H5.out;exact Zg (cC Tryz.results146 _ _ _ _ _ _ _ _ _ _ _ _ _ _ _ _ _ (0,0) (0,0) rfl h4 rfl h5) rfl ⟨Eh,0,110,_,rfl,H1.out,H2.out,by omega,fS _,fS _,fun h=>absurd h (show ¬ (110:Int)=0 by decide)⟩
   ·go_wp2_with fail;rw[<-d5.out] at c0 ⊢;refine(xC c0.out (by have:=d5.out;omega)).mono ?_;rintro e w3 ⟨d,n,c,u,rfl,⟨fh,fl,fs,rfl,c7⟩,b8,e0,d1⟩;have g9:=Qa e0;have e1:=Qa b8.size;clear e0;obtain⟨fA,fq,fr,rfl,-⟩:=c7.slice;rw[show dJ c fh fl (.slice fA fq fr) =.agg #[.int .i64 c,.int .i64 fh,.int .i64 fl,.slice fA fq fr] from rfl];obtain⟨dn,dd,dx⟩:=d;rw[show Im ⟨dn,dd,dx⟩ =.agg #[.bool dn,.string dd,.int .i64 dx] from rfl];have b9:Below w3.heap.size w3 ((w3.alloc (.cells #[.bool dn,.string dd,.int .i64 dx] 75)).alloc (.cells #[.int .i64 c,.int .i64 fh,.int .i64 fl,.slice fA fq fr] 70)):=(ac w3 _).alloc (by simp) _;have b0:=ar (w3.alloc (.cells #[.bool dn,.string dd,.int .i64 dx] 75)) [.int .i64 c,.int .i64 fh,.int .i64 fl,.slice fA fq fr] 70;have hcd:=ar w3 [.bool dn,.string dd,.int .i64 dx] 75;have d6:=ac (w3.alloc (.cells #[.bool dn,.string dd,.int .i64 dx] 75)) (.cells #[.int .i64 c,.int .i64 fh,.int .i64 fl,.slice fA fq fr] 70);rw[World.size_alloc] at b0;have q0:=b0 0 _ rfl;have q1:=b0 1 _ rfl;have q2:=b0 2 _ rfl;have q3:=b0 3 _ rfl;have p0:=Zf d6 (hcd 0 _ rfl);have p1:=Zf d6 (hcd 1 _ rfl);have p2:=Zf d6 (hcd 2 _ rfl);clear b0 hcd d6;have a5:=b8.trans (b9.mono b8.size);have Hs:=Qa (c7.below b9);have c8:=Qa (b1.out.trans (a5.mono b1.out.size));have c2:=Qa ((a5.block _ (ae b3.out)).trans b3.out);have c6:=Qa ((a5.block _ (ae b5.out)).trans b5.out);have a7:=Qa (And.intro (Zf a5 a0.out.1) (And.intro (Zf a5 a0.out.2.1) (And.intro (Zf a5 a0.out.2.2.1) (Zf a5 a0.out.2.2.2))));have e6:=Qa d1;have d4:=Qa (Nat.lt_of_lt_of_le (ae b5.out) b8.size);clear b9 b8 a5 c7 d1
    by_cases hc:c=0
    case neg=>
     have g8:(c !=0)=true:=by simpa using hc
     have Hc:=Qa hc;clear hc;go_wp2_with fail;generalize ((w3.alloc (.cells #[.bool dn,.string dd,.int .i64 dx] 75)).alloc (.cells #[.int .i64 c,.int .i64 fh,.int .i64 fl,.slice fA fq fr] 70))=w4 at *;refine(oB c fh fl (.slice fA fq fr) k w4 Hs.out).mono ?_;rintro e wz ⟨u,rfl,hu,a9⟩;have b6:=Qa ((a9.block _ (ae c2.out)).trans c2.out);have c5:=Qa ((a9.block _ (ae c6.out)).trans c6.out);obtain⟨fh,fl,fA,fq,fr,rfl,h3,h4,h5,h1,h2⟩:=fO (D:= #[.int .i64 0,.int .i64 0,.int .u8 0,.string es,.bool false,.string es,.int .i64 0]) hu b6.out (fun _ e=>by simp at e) (by omega) c5.out (Za _) (by omega) (c8.out.trans (a9.mono c8.out.size));have H1:=Qa h1;have H2:=Qa h2;have H3:=Qa h3;have H4:=Qa h4;have H5:=Qa h5;clear h1 h2 h3 h4 h5 hu a9;go_wp2_with (first
      |(refine bM b6.out ?_)
      |(refine bM H3.out ?_))
     have h4:=H4.out;have h5:=H5.out;exact Zg (cC Tryz.results146 _ _ _ _ _ _ _ _ _ _ _ _ _ _ _ _ _ (0,0) (0,0) rfl h4 rfl h5) rfl ⟨Eh,0,c,_,rfl,H1.out,H2.out,by omega,fS _,fS _,fun h=>absurd h Hc.out⟩
    subst hc;obtain⟨g6,d3,e2⟩:=e6.out rfl;have b7:=Qa (show(xs.drop k).length=xs.length - k by simp);have d3:n<=xs.length - k:=by rw[<-b7.out];exact d3
    have e0:dd.size<=xs.length+1:=by have h1:dd.size<=(xs.drop k).length+1:=g9.out;have:=b7.out;omega
    have n4:IntKind.i64.wrap ((k:Int) - at_+n)= (k:Int) - at_+n:=IntWalk.i64_in _ (by omega);have h6:=d4.out;have i3:fb<w2.heap.size:=e3.out;have g2:w2.heap.size<=w3.heap.size:=e1.out;go_wp2_with fail;generalize ((w3.alloc (.cells #[.bool dn,.string dd,.int .i64 dx] 75)).alloc (.cells #[.int .i64 0,.int .i64 fh,.int .i64 fl,.slice fA fq fr] 70))=w4 at *;generalize w3.heap.size=db at *;have a6:=Qa (And.intro p0 (And.intro p1 (And.intro p2 a7.out)));clear p0 p1 p2 q0 q1 q2 q3;obtain⟨H3,H4,H5,H1,H2,b2,b4⟩:=jv (w:=w4.drew) (S:=fun u=>(u.cell? ⟨db,0,none⟩=some (.bool dn)/\u.cell? ⟨db,1,none⟩=some (.string dd)/\u.cell? ⟨db,2,none⟩=some (.int .i64 dx))/\S4 fb u) (D:= #[.int .i64 3,.int .i64 k,.int .u8 0,.string es,.bool dn,.string dd,.int .i64 dx]) c2.out (fun _ e=>by simp at e) (by omega) c6.out (Za _) (by omega) (c8.out.drew) ⟨⟨a6.out.1,a6.out.2.1,a6.out.2.2.1⟩,a6.out.2.2.2⟩ (fun _ _ r hg hr h=>⟨⟨eE h.1.1 hg (by omega),eE h.1.2.1 hg (by omega),eE h.1.2.2 hg (by omega)⟩,h.2.keep hg (by omega)⟩);have b2:=Qa (And.intro b2.out.1.1 (And.intro b2.out.1.2.1 (And.intro b2.out.1.2.2 b2.out.2)));have b4:=Qa (And.intro b4.out.1.1 (And.intro b4.out.1.2.1 (And.intro b4.out.1.2.2 b4.out.2)));refine aR (fun w'=>w'.cell? ⟨db,0,none⟩=some (.bool dn)/\w'.cell? ⟨db,1,none⟩=some (.string dd)/\w'.cell? ⟨db,2,none⟩=some (.int .i64 dx)/\w'.cell? ⟨fb,0,none⟩=some (.int .i64 0)/\w'.cell? ⟨fb,1,none⟩=some (.int .i64 0)/\w'.cell? ⟨fb,2,none⟩=some (.int .i64 0)/\w'.cell? ⟨fb,3,none⟩=some (.slice none 0 0)) (a6.out) fun a4=>?_
    refine tH 0 a4 ?_;refine tH 1 a4 ?_;refine tH 2 a4 ?_;refine tH 3 a4 ?_;refine tH 4 a4 ?_;refine tH 5 a4 ?_
    try simp only[Act.put,jP,jQ,jR]
    refine tH 6 a4 ?_;refine tH 7 a4 ?_;refine tH 8 a4 ?_
    try simp only[Act.put,jP,jQ,jR]
    refine rH 9 fun K hK=>?_
    refine bT c2.out ?_;refine hK.out _ _ (b2.out) (fun a4=>?_);clear hK K
    try simp only[Act.put,jP,jQ,jR]
    refine tH 10 a4 ?_
    try simp only[Act.put,jP,jQ,jR]
    refine rH 11 fun K hK=>?_
    refine bT H3.out ?_;refine hK.out _ _ (b4.out) (fun a4=>?_);clear hK K
    try simp only[Act.put,jP,jQ,jR]
    refine wpAnyH_done (by kernel_rfl) (NoPanic.normal ?_) _;go_wp2_with fail;have h4:=H4.out;have h5:=H5.out;exact Zg (cC Tryz.results146 _ _ _ _ _ _ _ _ _ _ _ _ _ _ _ _ _ (0,0) (0,0) rfl h4 rfl h5) rfl ⟨⟨3,k,0,es,⟨dn,dd,dx⟩⟩,k - at_+n,0,_,by rw[show((k - at_+n:Nat):Int)= (k:Int) - at_+n from by omega];rfl,H1.out,H2.out,by omega,fS _,e0,fun _=>⟨fun _=>by omega,fun h=>absurd h (show ¬ (3:Int)=4 by decide),fun _=>e2⟩⟩
theorem aa {t:TypeId}{z:Nat×Nat}(h:w.heap[g]?=some (.cells cs t z)){j:Nat}(hu:cs[j]?=some u):w.cell? ⟨g,j,none⟩=some u:=by
 unfold World.cell?;simp only[h];simpa using hu
theorem am {t:TypeId}(h:w.heap[g]?=some (.cells cs t (0,0)))(j:Nat):w.frozen? ⟨g,j,none⟩=false:=by
 unfold World.frozen?;simp[h]
theorem aw {t:TypeId}{z:Nat×Nat}(h:w.heap[g]?=some (.cells cs t z))(j:Nat)(u:Value):(w.setCell ⟨g,j,none⟩ u).heap[g]?=some (.cells (cs.setIfInBounds j u) t z):=by
 have hlt:=ae h;have h':w.heap[g] =.cells cs t z:=by simpa [Array.getElem?_eq_getElem hlt] using h
 show(w.heap.modify g _)[g]?=_
 rw[Array.getElem?_eq_getElem (by simpa using hlt),Array.getElem_modify_self,h'];rfl
theorem av (w:World)(i j k:Nat)(v:Value)(t:TypeId)(cs:Array Value)(hne:i≠j)(h:w.heap[i]?=some (.cells cs t (0,0))):(w.setCell ⟨j,k,none⟩ v).heap[i]?=some (.cells cs t (0,0)):=(Below.heap_setCell w _ v i hne).trans h
theorem aj {x:Obj}(h:w.heap[g]?=some x)(hb:Below w.heap.size w w'):w'.heap[g]?=some x:=(hb.block _ (ae h)).trans h
theorem aF {x:Obj}{o:Option Nat}(h:w.heap[g]?=some x)(hg:w.grownBy w' o)(ho:o≠some g):w'.heap[g]?=some x:=(hg.block g (ae h) (fun e=>ho e.symm)).trans h
structure br (F:Nat->Prop) (w w':World):Prop where
 os:w'.os=w.os
 tape:w'.tape=w.tape
 output:w'.output=w.output
 size:w.heap.size<=w'.heap.size
 block:∀k,k<w.heap.size->¬F k->w'.heap[k]?=w.heap[k]?
theorem br.of_below (h:Below w.heap.size w w'):br F w w':=⟨h.os,h.tape,h.output,h.size,fun k hk _=>h.block k hk⟩
theorem br.refl (F:Nat->Prop)(w:World):br F w w:=br.of_below (Zd _ _)
theorem br.trans {a b c:World}(h:br F a b)(k:br G b c)(hg:∀i,G i->F i\/a.heap.size<=i):br F a c:=
 ⟨k.os.trans h.os,k.tape.trans h.tape,k.output.trans h.output,Zb h.size k.size,fun i hi hf=>(k.block i (Nat.lt_of_lt_of_le hi h.size) (fun hG=>by rcases hg i hG with h1|h1;exact hf h1;omega)).trans (h.block i hi hf)⟩
theorem br.mono {a b:World}(h:br F a b)(hg:∀i,F i->G i):br G a b:=⟨h.os,h.tape,h.output,h.size,fun i hi hn=>h.block i hi (fun hf=>hn (hg i hf))⟩
theorem br.below (h:br F w w')(hB:B<=w.heap.size)(hf:∀i,F i->B<=i):Below B w w':=⟨h.os,h.tape,h.output,h.size,fun k hk=>h.block k (Nat.lt_of_lt_of_le hk hB) (fun hF=>by have:=hf k hF;omega)⟩
theorem br.set (g j:Nat)(u:Value):br (fun k=>k=g) w (w.setCell ⟨g,j,none⟩ u):=⟨rfl,rfl,rfl,by simp,fun k _ hk=>Below.heap_setCell w _ u k hk⟩
theorem br.grown {o:Option Nat}(h:w.grownBy w' o):br (fun k=>o=some k) w w':=⟨h.os,h.tape,h.output,h.size,fun k hk hn=>h.block k hk (fun e=>hn e.symm)⟩
theorem bH {k:Nat}(h:w.ownsRow base e k v n us)(hs:∀b,v.ownBlock=some b->w'.heap[b]?=w.heap[b]?):w'.ownsRow base e k v n us:=by
 obtain⟨h1,⟨rfl,h0⟩|⟨g,cap,cur,rfl,a0,hg,r⟩⟩:=h
 ·exact⟨h1,.inl ⟨rfl,h0⟩⟩
 ·exact⟨h1,.inr ⟨g,cap,cur,rfl,a0,(hs g rfl).trans hg,r⟩⟩
theorem je (g o:Nat):∀ (vs:List Value) (i:Nat),storeCells ⟨g,o,none⟩ vs i=storeCells ⟨g,0,none⟩ vs (o+i)
 | [],_=>rfl
 |v::vs,i=>by
  have e:(⟨g,o,none⟩:Addr).add i= (⟨g,0,none⟩:Addr).add (o+i):=by
   unfold Addr.add
   split <;> split <;> simp_all <;> omega
  unfold storeCells;rw[e,je g o vs (i+1),Nat.add_assoc]
theorem dk {ops:Array Oper}{rest:List Oper}{o:Oper}{a:Act}{Q:Exit->Act->World->Prop}(a1:o.guard=none)(ty:TypeId)(x y:Operand)(ho:o.op =.store ty x y)
  (hd:o.dst=none) (g p:Nat) (cells new:Array Value) (hx:a.eval x =.pointer (some ⟨g,p,none⟩)) (hy:a.eval y =.agg cells)
  (t:TypeId) (old:Array Value) (hg:w.heap[g]?=some (.cells old t (0,0))) (hi:(Tryz.prog.info? ty).map (·.size)=some cells.size)
  (a0:p+cells.size=old.size) (h1:cells.all (·.oneCell')=true) (hn:(old.toList.take p++cells.toList).toArray=new)
  (h:wpList Tryz.prog ops Q rest a (w.setRow g new)):wpList Tryz.prog ops Q (o::rest) a w:=by
 have:=run_storeCells_from (P:=Tryz.prog) g t cells.toList p old w hg (by simpa using a0) (fun v hv=>(Array.all_eq_true_iff_forall_mem.1 h1) v (by simpa using hv));have e:=je g p cells.toList 0;rw[Nat.add_zero] at e;rw[<-e,hn] at this;have a2:(storeVar ty ⟨g,p,none⟩ (.agg cells)).run Tryz.prog w =.ok () (w.setRow g new):=by
  cases hq:Tryz.prog.info? ty with
  |none=>simp[hq] at hi
  |some i=>
   have hs:cells.size=i.size:=by simp[hq] at hi;omega
   simp[storeVar,sizeOf,typeInfo,hq,Value.cells,hs,this]
 refine wpList_plain a1 fun _ hK=>?_
 unfold Oper.wp execOp;simp only[ho,hx,hy,Instr.storeAt,Instr.sureAddr,Sem.run_bind,Sem.run_pure,Result.andThen_ok,a2];refine hK _ _ ?_;rw[hd];exact h
def TR (t:TypeId):Prop:=t=264\/t=169
def Rk (rb:Nat)(w w':World):Prop:=Below rb w w'/\aJ TR w w'
theorem Rk.refl (rb:Nat)(w:World):Rk rb w w:=⟨Zd _ _,aJ.refl _ _⟩
theorem Rk.trans {a b c:World}(h:Rk rb a b)(k:Rk rb b c):Rk rb a c:=⟨h.1.trans k.1,h.2.trans k.2⟩
theorem Rk.of_below (h:Below w.heap.size w w')(hr:rb<=w.heap.size):Rk rb w w':=⟨h.mono hr,aJ.of_below _ h⟩
theorem Rk.row (h:Rk rb w w'){z:Nat×Nat}(hg:w.heap[g]?=some (.cells cs e z))(he:¬TR e):w'.heap[g]?=some (.cells cs e z):=h.2.2 g cs e z hg he
def eP (bv:Value)(at_:Nat)(L:Fin 6->Int)(m:Fin 4->Int)(ev:Value)(c h l:Int)(s:Value):Array Value:=
 #[bv, .int .i64 at_, .int .i64 (L 0), .int .i64 (L 1), .int .i64 (L 2), .int .i64 (L 3), .int .i64 (L 4), .int .i64 (L 5), .int .i64 (m 0), .int .i64 (m 1), .int .i64 (m 2), .int .i64 (m 3), ev, .int .i64 c, .int .i64 h, .int .i64 l, s]
def Rd (xs:List UInt8)(rb:Nat)(w:World)(at_ k:Nat)(c:Int):Prop:= ∃ (bA:Option Addr) (bc:Nat) (eA:Option Addr) (ec:Nat) (sA:Option Addr) (sn sc:Nat) (L:Fin 6->Int) (m:Fin 4->Int) (h l:Int) (us:List Value) (w0:World),
 w.heap[rb]?=some (.cells (eP (.slice bA xs.length bc) at_ L m (.slice eA k ec) c h l (.slice sA sn sc)) 169 (0,0))/\Bs w0 (.slice bA xs.length bc) xs/\w0.heap.size<=rb/\Below rb w0 w/\w.ownsRow (rb+1) 264 5 (.slice eA k ec) k us/\at_<=xs.length/\k<=at_
theorem Rd.lt {k:Nat}{c:Int}(h:Rd xs rb w at_ k c):rb<w.heap.size:=by
 obtain⟨_,_,_,_,_,_,_,_,_,_,_,_,_,h,_⟩:=h;exact ae h
theorem Rd.below {k:Nat}{c:Int}(h:Rd xs rb w at_ k c)(hb:Below w.heap.size w w'):Rd xs rb w' at_ k c:=by
 have hlt:=h.lt;obtain⟨a1,a2,a3,a4,a5,a6,a7,L,m,hh,l,us,w0,h1,h2,h3,h4,h5,h6⟩:=h;exact⟨a1,a2,a3,a4,a5,a6,a7,L,m,hh,l,us,w0,(hb.block _ hlt).trans h1,h2,h3,h4.trans (hb.mono (Zi hlt)),aq h5 hb (Za _),h6⟩
theorem Rk.set {z:Nat×Nat}(h:w.heap[rb]?=some (.cells cs 169 z))(j:Nat)(u:Value):Rk rb w (w.setCell ⟨rb,j,none⟩ u):=
 ⟨(Zd rb w).setCell (Za _) u,aJ.setCell u (fun cs' e z' h'=>by rw[h] at h';injection h' with h';injection h' with _ h';exact .inr h'.symm)⟩
theorem Rk.setRow {z:Nat×Nat}(h:w.heap[rb]?=some (.cells cs 169 z))(new:Array Value):Rk rb w (w.setRow rb new):=
 ⟨(Zd rb w).grown (ai ..) (Zi (ae h)) (fun g e=>by cases e;exact Za _),aJ.of_grown (ai ..) (fun g e cs' t' z' h'=>by cases e;rw[h] at h';injection h' with h';injection h' with _ h';exact .inr h'.symm)⟩
theorem om {k:Nat}(new:Array Value)(h:w.ownsRow (rb+1) 264 5 v k us):(w.setRow rb new).ownsRow (rb+1) 264 5 v k us:=
 World.ownsRow.kept h (ai ..) (by
  cases hb:v.ownBlock with
  |none=>exact .inl rfl
  |some g=>exact .inr (fun e=>by injection e with e;have:=(al h hb).1;omega))
theorem jB {k j:Nat}(h:w.ownsRow (rb+1) 264 5 v k us):(w.setCell ⟨rb,j,none⟩ u).ownsRow (rb+1) 264 5 v k us:=
 ownsRow_setCell_below h (a:=⟨rb,j,none⟩) (Nat.lt_succ_self _) u
def Gy (xs:List UInt8)(rb:Nat)(w:World)(at_ k:Nat)(c:Int)(e:Ending)(w':World):Prop:=(∃b:Bool,e =.returned (.bool b))/\Rd xs rb w' at_ k c/\Rk rb w w'/\∀j,j<13->w'.cell? ⟨rb,j,none⟩=w.cell? ⟨rb,j,none⟩
theorem eD {k:Nat}{c:Int}(h:Rd xs rb w at_ k c)(c' h' l':Int)(A:Option Addr)(n q:Nat):Calls Tryz.prog 147 #[.pointer (some ⟨rb,0,none⟩),dJ c' h' l' (.slice A n q)] w fun e w'=>Gy xs rb w at_ k (if c=0 then c' else c) e w':=by
 have hlt:=h.lt;have a9:=ac w (.cells #[.int .i64 c',.int .i64 h',.int .i64 l',.slice A n q] 70);obtain⟨a1,a2,a3,a4,a5,a6,a7,L,m,hh,l,us,w0,h1,h2,h3,h4,h5,h6⟩:=h.below a9;have H:=Qa (And.intro h1 (And.intro h2 (And.intro h3 (And.intro h4 (And.intro h5 h6)))));have b2:=Qa (Rk.of_below a9 (Zi hlt));have c13:=aa h1 (j:=13) (u:=.int .i64 c) rfl;have c14:=aa h1 (j:=14) (u:=.int .i64 hh) rfl;have c15:=aa h1 (j:=15) (u:=.int .i64 l) rfl;have c16:=aa h1 (j:=16) (u:=.slice a5 a6 a7) rfl;have f13:=am h1 13;have f14:=am h1 14;have f15:=am h1 15;have f16:=am h1 16;have H0:=Qa h;clear h h1 h2 h3 h4 h5 h6 a9;unfold dJ;go_enter Tryz.func147,Tryz.ntmps147;have b3:¬rb=w.heap.size:=by omega
 have b1:=Qa hlt;clear hlt
 by_cases hc:c=0
 ·subst hc;have hh:=H.out.1;have b0:=setRow_heap _ _ _ (eP (.slice a1 xs.length a2) at_ L m (.slice a3 k a4) c' h' l' (.slice A n q)) _ _ hh;have d13:=aa b0 (j:=13) (u:=.int .i64 c') rfl;clear b0;have Hh:=Qa hh;clear hh;go_wp2_with (refine dk rfl 70 (.tmp 14) (.tmp 12) rfl rfl rb 13 #[.int .i64 c',.int .i64 h',.int .i64 l',.slice A n q] (eP (.slice a1 xs.length a2) at_ L m (.slice a3 k a4) c' h' l' (.slice A n q)) (by simp[Act.eval]) (by simp[Act.eval]) 169 _ Hh.out bo rfl (mW c' h' l' rfl) rfl ?_);go_ret;obtain⟨h1,h2,h3,h4,h5,h6⟩:=H.out;have hs:=Rk.setRow h1 (eP (.slice a1 xs.length a2) at_ L m (.slice a3 k a4) c' h' l' (.slice A n q));refine⟨⟨_,rfl⟩,⟨a1,a2,a3,a4,A,n,q,L,m,h',l',us,w0,setRow_heap _ _ _ _ _ _ h1,h2,h3,h4.trans hs.1,om _ h5,h6⟩,b2.out.trans hs,fun j hj=>?_⟩;rw[cell_setRow_same _ _ _ _ _ _ _ h1];have a0:w.cell? ⟨rb,j,none⟩= (w.alloc (.cells #[.int .i64 c',.int .i64 h',.int .i64 l',.slice A n q] 70)).cell? ⟨rb,j,none⟩:=by
   unfold World.cell?;rw[(ac w _).block rb b1.out]
  rw[a0];unfold World.cell?;simp only[h1];rcases(by omega:j=0\/j=1\/j=2\/j=3\/j=4\/j=5\/j=6\/j=7\/j=8\/j=9\/j=10\/j=11\/j=12) with rfl|rfl|rfl|rfl|rfl|rfl|rfl|rfl|rfl|rfl|rfl|rfl|rfl <;> rfl
 ·have b4:(c==0)=false:=by simpa using hc
  go_wp2_with fail;go_ret;refine⟨⟨_,rfl⟩,?_,b2.out,fun j _=>by unfold World.cell?;rw[(ac w _).block rb b1.out]⟩
  try rw[if_neg hc]
  exact H0.out.below (ac _ _)
