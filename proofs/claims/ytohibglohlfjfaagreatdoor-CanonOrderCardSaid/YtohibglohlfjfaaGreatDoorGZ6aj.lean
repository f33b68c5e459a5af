import Derived.Test.YtohibglohlfjfaaGreatDoorGZ6ai
set_option linter.unusedVariables false
set_option linter.unusedSimpArgs false
set_option maxHeartbeats 64000000
set_option maxRecDepth 100000
namespace Go.Proofs.YtohibglohlfjfaaGreatDoor
open Go.RowKit
variable {D D0 cs:Array Value}{c0:Int}{xs:List UInt8}{us:List Value}{B at_ base bf g n:Nat}{F G:Nat->Prop}{e:TypeId}{u v y1 y2 y3:Value}{w w' w0:World}
structure Tk where
 kind:Int
 at_:Int
 mark:Int
 str:ByteArray
 num:Dc
def kk (t:Tk):Value:=.agg #[.int .i64 t.kind,.int .i64 t.at_,.int .u8 t.mark,.string t.str,.bool t.num.neg,.string t.num.digits,.int .i64 t.num.exp]
def Ev:Tk:=⟨0,0,0,es,⟨false,es,0⟩⟩
theorem da:(Tryz.prog.info? 181).map (·.size)=some 7:=by kernel_rfl
theorem e9 (a b c:Int)(s:ByteArray)(n:Bool)(d:ByteArray)(x:Int):(#[.int .i64 a,.int .i64 b,.int .u8 c,.string s,.bool n,.string d,.int .i64 x]:Array Value).all (·.oneCell')=true:=by simp[Value.oneCell']
theorem cB {fn:Func}{p m q:Tmp}(h:fn.results = #[.cell p 181,.tmp m,.cell q 62])(tmps:Array Value)(w:World)(g1 g:Nat)(t1 t:TypeId)(d0 d1 d2 d3 d4 d5 d6 c0 c1 c2 c3:Value)(fr1 fr:Nat×Nat)
  (a2:tmps.getD p undef =.pointer (some ⟨g1,0,none⟩)) (a4:w.heap[g1]?=some (.cells #[d0,d1,d2,d3,d4,d5,d6] t1 fr1))
  (hp:tmps.getD q undef =.pointer (some ⟨g,0,none⟩)) (hg:w.heap[g]?=some (.cells #[c0,c1,c2,c3] t fr)) :
  (results fn tmps).run Tryz.prog w =.ok (.tuple #[.agg #[d0,d1,d2,d3,d4,d5,d6],tmps.getD m undef,.agg #[c0,c1,c2,c3]]) w:=by
 have a0:tmps[p]?.getD undef =.pointer (some ⟨g1,0,none⟩):=by simpa using a2
 have a3:tmps[q]?.getD undef =.pointer (some ⟨g,0,none⟩):=by simpa using hp
 have a1:=run_loadVar_row (P:=Tryz.prog) w g1 t1 181 #[d0,d1,d2,d3,d4,d5,d6] fr1 _ a4 Tryz.underlying181 rfl (by kernel_rfl);have hl:=run_loadVar_row (P:=Tryz.prog) w g t 62 #[c0,c1,c2,c3] fr _ hg Tryz.underlying62 rfl bi;simp[results,h,a0,a3,asAddr,a1,hl]
theorem fB {k:Int}{bd:Nat}{T:TypeId}(hu:dE w k u)(hd:w.heap[bd]?=some (.cells D0 T (0,0)))(hD:∀b:Bool,D0[0]?≠some (.bool b))(hlt:bd<bf)(hf:w.heap[bf]?=some (.cells #[.int .i64 c0,y1,y2,y3] 62 (0,0)))(a5:w0.heap.size<=bd)(a4:w0.heap.size<=bf)(hb:Below w0.heap.size w0 w) :
  ∃h l A q r,u =.agg #[.int .i64 k,.int .i64 h,.int .i64 l,.slice A q r]/\(w.setRow bd D).heap[bf]?=some (.cells #[.int .i64 c0,y1,y2,y3] 62 (0,0))/\((w.setRow bd D).setRow bf #[.int .i64 k,.int .i64 h,.int .i64 l,.slice A q r]).heap[bd]?=some (.cells D T (0,0))/\
   ((w.setRow bd D).setRow bf #[.int .i64 k,.int .i64 h,.int .i64 l,.slice A q r]).heap[bf]?=some (.cells #[.int .i64 k,.int .i64 h,.int .i64 l,.slice A q r] 62 (0,0))/\
   dE ((w.setRow bd D).setRow bf #[.int .i64 k,.int .i64 h,.int .i64 l,.slice A q r]) k u/\Below w0.heap.size w0 ((w.setRow bd D).setRow bf #[.int .i64 k,.int .i64 h,.int .i64 l,.slice A q r]):=by
 have hne:bd≠bf:=Nat.ne_of_lt hlt;have a3:dE (w.setRow bd D) k u:=by
  obtain⟨h,l,s,rfl,hs⟩:=hu;refine⟨h,l,s,rfl,?_⟩;rcases hs with e|⟨g,c',b',p,s',e,h1,h2,h3⟩
  ·exact .inl e
  ·have hne:some g≠some bd:=fun e'=>by
    injection e' with e';subst e'
    have a0:=h1;unfold World.cell? at a0;simp only[hd] at a0;exact hD b' (by simpa using a0)
   exact .inr ⟨g,c',b',p,s',e,(ah w _ _).cell h1 hne,(ah w _ _).cell h2 hne,(ah w _ _).cell h3 hne⟩
 have a1:(w.setRow bd D).heap[bf]?=some (.cells #[.int .i64 c0,y1,y2,y3] 62 (0,0)):=(setRow_other w bd bf D (Ne.symm hne)).trans hf;obtain⟨h,l,A,q,r,e,h1,h2⟩:=bH a3 a1;refine⟨h,l,A,q,r,e,a1,?_,setRow_heap _ _ _ _ _ _ a1,h2,?_⟩
 ·exact(setRow_other _ bf bd _ hne).trans (setRow_heap _ _ _ _ _ _ hd)
 ·have a2:Below w0.heap.size w0 (w.setRow bd D):=hb.grown (ah ..) hb.size (fun g e=>by cases e;exact a5);exact a2.grown (ah ..) a2.size (fun g e=>by cases e;exact a4)
def S4 (fb:Nat)(w:World):Prop:=w.cell? ⟨fb,0,none⟩=some (.int .i64 0)/\w.cell? ⟨fb,1,none⟩=some (.int .i64 0)/\w.cell? ⟨fb,2,none⟩=some (.int .i64 0)/\w.cell? ⟨fb,3,none⟩=some (.slice none 0 0)
theorem ep {b r:Nat}(h:w.cell? ⟨b,n,none⟩=some v)(hg:w.grownBy w' (some r))(hr:b≠r):w'.cell? ⟨b,n,none⟩=some v:=hg.cell h fun e=>by injection e with e;exact hr e
theorem S4.keep {fb r:Nat}(h:S4 fb w)(hg:w.grownBy w' (some r))(hr:fb≠r):S4 fb w':=by
 exact⟨ep h.1 hg hr,ep h.2.1 hg hr,ep h.2.2.1 hg hr,ep h.2.2.2 hg hr⟩
theorem iS {bd:Nat}{T:TypeId}{S:World->Prop}(hd:w.heap[bd]?=some (.cells D0 T (0,0)))(hD:∀b:Bool,D0[0]?≠some (.bool b))(hlt:bd<bf)(hf:w.heap[bf]?=some (.cells #[.int .i64 c0,y1,y2,y3] 62 (0,0)))(a2:w0.heap.size<=bd)(a1:w0.heap.size<=bf)(hb:Below w0.heap.size w0 w)
  (hS:S w) (hk:∀ (w1 w2:World) (r:Nat),w1.grownBy w2 (some r)->r=bd\/r=bf->S w1->S w2) :
  Hid ((w.setRow bd D).heap[bf]?=some (.cells #[.int .i64 c0,y1,y2,y3] 62 (0,0)))/\Hid (((w.setRow bd D).setRow bf #[.int .i64 0,.int .i64 0,.int .i64 0,.slice none 0 0]).heap[bd]?=some (.cells D T (0,0)))/\
   Hid (((w.setRow bd D).setRow bf #[.int .i64 0,.int .i64 0,.int .i64 0,.slice none 0 0]).heap[bf]?=some (.cells #[.int .i64 0,.int .i64 0,.int .i64 0,.slice none 0 0] 62 (0,0)))/\
   Hid (dE ((w.setRow bd D).setRow bf #[.int .i64 0,.int .i64 0,.int .i64 0,.slice none 0 0]) 0 (dA 0 0 0 (.slice none 0 0)))/\Hid (Below w0.heap.size w0 ((w.setRow bd D).setRow bf #[.int .i64 0,.int .i64 0,.int .i64 0,.slice none 0 0]))/\Hid (S (w.setRow bd D))/\Hid (S ((w.setRow bd D).setRow bf #[.int .i64 0,.int .i64 0,.int .i64 0,.slice none 0 0])):=by
 obtain⟨gh,gl',gA,gq,gr,a0,h3,h4,h5,h1,h2⟩:=fB (D:=D) (show dE w 0 (dA 0 0 0 (.slice none 0 0)) from⟨0,0,_,rfl,.inl rfl⟩) hd hD hlt hf a2 a1 hb;injection a0 with a0
 obtain⟨rfl,rfl,a0⟩:0=gh/\0=gl'/\Value.slice none 0 0=Value.slice gA gq gr:=by simpa using a0
 obtain⟨rfl,rfl,rfl⟩:none=gA/\0=gq/\0=gr:=by simpa using a0
 have s1:=hk _ _ _ (ah w bd D) (.inl rfl) hS;exact⟨h3,h4,h5,h1,h2,s1,hk _ _ _ (ah ..) (.inr rfl) s1⟩
theorem fw (n:Nat):es.size<=n:=Zc (Nat.le_of_eq (rfl:es.size=0)) (Zk _)
def BP (len at_:Nat)(w:World)(e:Ending)(w':World):Prop:= ∃ (t:Tk) (n:Nat) (c:Int) (u:Value),e =.returned (.tuple #[kk t,.int .i64 n,u])/\dE w' c u/\Below w.heap.size w w'/\
 at_+n<=len/\t.str.size<=len/\t.num.digits.size<=len+1/\(c=0->(t.kind≠5->1<=n)/\(t.kind=4->fo t.str.data.toList)/\(t.kind=3->up t.num))
def kQ (at_ len:Nat)(w:World)(s8:Value)(wr:World):Prop:= ∃k:Nat,at_<=k/\k<=len/\s8 =.int .i64 k/\w=wr
theorem gF (hb:Bs w v xs)(hl:xs.length<=900000)(hat:at_<=xs.length):Calls Tryz.prog 111 #[v,.int .i64 at_] w (BP xs.length at_ w):=by
 obtain⟨hm,A,cap,rfl,g5,c4⟩:=id hb;have f4:=Zf w (.cells #[.int .i64 0,.int .i64 0,.int .u8 0,.string es,.bool false,.string es,.int .i64 0] 181);have e4:=Zf (w.alloc (.cells #[.int .i64 0,.int .i64 0,.int .u8 0,.string es,.bool false,.string es,.int .i64 0] 181)) (.cells #[.int .i64 0,.int .i64 0,.int .i64 0,.slice none 0 0] 62);rw[World.size_alloc] at e4;have f3:Below w.heap.size w ((w.alloc (.cells #[.int .i64 0,.int .i64 0,.int .u8 0,.string es,.bool false,.string es,.int .i64 0] 181)).alloc (.cells #[.int .i64 0,.int .i64 0,.int .i64 0,.slice none 0 0] 62)):=((Ze _ _).alloc (Zb _) _).alloc (by simp) _;have d1:((w.alloc (.cells #[.int .i64 0,.int .i64 0,.int .u8 0,.string es,.bool false,.string es,.int .i64 0] 181)).alloc (.cells #[.int .i64 0,.int .i64 0,.int .i64 0,.slice none 0 0] 62)).heap[w.heap.size]?=some (.cells #[.int .i64 0,.int .i64 0,.int .u8 0,.string es,.bool false,.string es,.int .i64 0] 181 (0,0)):=(Below.heap_alloc _ _ _ (by simp)).trans f4;have f5:=Qa d1;have e8:=Qa e4;have f9:=Qa f3;have g1:=Qa hb;have c3:=Qa c4;clear f4 d1 e4 f3 hb c4;go_enter Tryz.func111,Tryz.ntmps111;go_wp2_with fail;generalize (w.alloc (.cells #[.int .i64 0,.int .i64 0,.int .u8 0,.string es,.bool false,.string es,.int .i64 0] 181)).alloc (.cells #[.int .i64 0,.int .i64 0,.int .i64 0,.slice none 0 0] 62)=w0 at *;refine(eK 0 w0).mono ?_;rintro e w1 ⟨rfl,d5⟩;rw[show dA 0 0 0 (.slice none 0 0) =.agg #[.int .i64 0,.int .i64 0,.int .i64 0,.slice none 0 0] from rfl];have b9:=ac w1 (.cells #[.int .i64 0,.int .i64 0,.int .i64 0,.slice none 0 0] 62);have b0:=ap w1 [.int .i64 0,.int .i64 0,.int .i64 0,.slice none 0 0] 62;have a0:=Qa (And.intro (b0 0 _ rfl) (And.intro (b0 1 _ rfl) (And.intro (b0 2 _ rfl) (b0 3 _ rfl))));have c1:=d5.trans (b9.mono d5.size);have b1:=Qa (f9.out.trans (c1.mono f9.out.size));have b4:=Qa ((c1.block _ (ae f5.out)).trans f5.out);have b5:=Qa ((c1.block _ (ae e8.out)).trans e8.out);have g9:w.heap.size+1<w1.heap.size:=Nat.lt_of_lt_of_le (ae e8.out) d5.size;clear b0 b9 d5 c1;go_upto_block 0 with fail
 have d4:=Qa (show w1.heap.size< (w1.alloc (.cells #[.int .i64 0,.int .i64 0,.int .i64 0,.slice none 0 0] 62)).heap.size by simp);generalize (w1.alloc (.cells #[.int .i64 0,.int .i64 0,.int .i64 0,.slice none 0 0] 62))=w2 at *;generalize w1.heap.size=fb at *;go_cut [8] (fun s8 wx=>kQ at_ xs.length w2 s8 wx)
 case first=>
  go_wp2_with fail
  go_loopw [8] (kQ at_ xs.length w2) (fun i _=>xs.length - (intOf i).toNat)
  case atStart=>exact⟨at_,by omega,hat,rfl,rfl⟩
  case round=>
   obtain⟨k,hk1,hk2,rfl,rfl⟩:=hrel
   by_cases hlt:k<xs.length
   case neg=>
    have hki:¬ (k:Int)<xs.length:=by omega
    go_wp2_with fail;go_meet
    case rel=>exact⟨k,hk1,hk2,rfl,rfl⟩
   have hki:(k:Int)<xs.length:=by omega
   obtain⟨b,o,rfl,c9⟩:=c3.out (by omega);have ck:=Zg b1.out (c9 k hlt);clear c9;go_wp2_with fail;refine(BE _ w2).mono ?_;rintro e w' ⟨t,rfl,rfl⟩
   cases t
   ·go_wp2_with fail;go_meet
    case rel=>exact⟨k,hk1,hk2,rfl,rfl⟩
   ·go_wp2_with fail;exact⟨⟨k+1,by omega,by omega,by go_num,rfl⟩,by simp[intOf];omega⟩
 case rest=>
  obtain⟨k,hk1,hk2,rfl,rfl⟩:=hcut;have n1:IntKind.i64.wrap ((k:Int) - at_)= (k:Int) - at_:=IntWalk.i64_in _ (by omega)
  by_cases hlt:k<xs.length
  case neg=>
   obtain rfl:k=xs.length:=by omega
   go_wp2_with fail;obtain⟨H3,H4,H5,H1,H2,b2,b3⟩:=iS (w:=w2.drew) (S:=S4 fb) (D:= #[.int .i64 5,.int .i64 xs.length,.int .u8 0,.string es,.bool false,.string es,.int .i64 0]) b4.out (fun _ e=>by simp at e) (by omega) b5.out (Zb _) (by omega) (b1.out.drew) a0.out (fun _ _ r hg hr h=>h.keep hg (by omega));refine aA (fun w'=>w'.cell? ⟨fb,0,none⟩=some (.int .i64 0)/\w'.cell? ⟨fb,1,none⟩=some (.int .i64 0)/\w'.cell? ⟨fb,2,none⟩=some (.int .i64 0)/\w'.cell? ⟨fb,3,none⟩=some (.slice none 0 0)) (a0.out) fun a4=>?_
   refine tH 0 a4 ?_;refine tH 1 a4 ?_;refine tH 2 a4 ?_;refine tH 3 a4 ?_;refine tH 4 a4 ?_;refine tH 5 a4 ?_
   try simp only[Act.put,jP,jQ,jR]
   refine rH 6 fun K hK=>?_
   refine bM b4.out ?_;refine hK.out _ _ (b2.out) (fun a4=>?_);clear hK K
   try simp only[Act.put,jP,jQ,jR]
   refine tH 7 a4 ?_
   try simp only[Act.put,jP,jQ,jR]
   refine rH 8 fun K hK=>?_
   refine bM H3.out ?_;refine hK.out _ _ (b3.out) (fun a4=>?_);clear hK K
   try simp only[Act.put,jP,jQ,jR]
   refine wpAnyH_done (by kernel_rfl) (NoPanic.normal ?_) _;go_wp2_with fail;have h4:=H4.out;have h5:=H5.out;exact Zh (cB Tryz.results111 _ _ _ _ _ _ _ _ _ _ _ _ _ _ _ _ _ (0,0) (0,0) rfl h4 rfl h5) rfl ⟨⟨5,xs.length,0,es,⟨false,es,0⟩⟩,xs.length - at_,0,_,by rw[show((xs.length - at_:Nat):Int)= (xs.length:Int) - at_ from by omega];rfl,H1.out,H2.out,by omega,fw _,fw _,fun _=>⟨fun h=>absurd rfl h,fun h=>absurd h (show ¬ (5:Int)=4 by decide),fun h=>absurd h (show ¬ (5:Int)=3 by decide)⟩⟩
  have hki:(k:Int)<xs.length:=by omega
  obtain⟨b,o,rfl,c9⟩:=c3.out (by omega);have ck:=Zg b1.out (c9 k hlt);obtain⟨X,hX,i2,i4⟩:∃X:Int,(am xs k:Int)=X/\0<=X/\X<256:=⟨_,rfl,by omega,by have:=aI xs k;omega⟩;rw[hX] at ck;have h6:=Qa c9;clear hX c9;have n2:IntKind.i64.wrap ((k:Int) - at_+1)= (k:Int) - at_+1:=IntWalk.i64_in _ (by omega);have hne:((k:Int)==xs.length)=false:=by simp;omega
  go_wp2_with fail;refine(wL X w2).mono ?_;rintro e w' ⟨t,rfl,rfl⟩
  cases t
  case true=>
   go_wp2_with fail;obtain⟨H3,H4,H5,H1,H2,b2,b3⟩:=iS (w:=w2.drew) (S:=S4 fb) (D:= #[.int .i64 1,.int .i64 k,.int .u8 X,.string es,.bool false,.string es,.int .i64 0]) b4.out (fun _ e=>by simp at e) (by omega) b5.out (Zb _) (by omega) (b1.out.drew) a0.out (fun _ _ r hg hr h=>h.keep hg (by omega));refine aA (fun w'=>w'.cell? ⟨fb,0,none⟩=some (.int .i64 0)/\w'.cell? ⟨fb,1,none⟩=some (.int .i64 0)/\w'.cell? ⟨fb,2,none⟩=some (.int .i64 0)/\w'.cell? ⟨fb,3,none⟩=some (.slice none 0 0)) (a0.out) fun a4=>?_
   refine tH 0 a4 ?_;refine tH 1 a4 ?_;refine tH 2 a4 ?_;refine tH 3 a4 ?_;refine tH 4 a4 ?_;refine tH 5 a4 ?_
   try simp only[Act.put,jP,jQ,jR]
   refine tH 6 a4 ?_;refine tH 7 a4 ?_
   try simp only[Act.put,jP,jQ,jR]
   refine rH 8 fun K hK=>?_
   refine bM b4.out ?_;refine hK.out _ _ (b2.out) (fun a4=>?_);clear hK K
   try simp only[Act.put,jP,jQ,jR]
   refine tH 9 a4 ?_
   try simp only[Act.put,jP,jQ,jR]
   refine rH 10 fun K hK=>?_
   refine bM H3.out ?_;refine hK.out _ _ (b3.out) (fun a4=>?_);clear hK K
   try simp only[Act.put,jP,jQ,jR]
   refine wpAnyH_done (by kernel_rfl) (NoPanic.normal ?_) _;go_wp2_with fail;have h4:=H4.out;have h5:=H5.out;exact Zh (cB Tryz.results111 _ _ _ _ _ _ _ _ _ _ _ _ _ _ _ _ _ (0,0) (0,0) rfl h4 rfl h5) rfl ⟨⟨1,k,X,es,⟨false,es,0⟩⟩,k - at_+1,0,_,by rw[show((k - at_+1:Nat):Int)= (k:Int) - at_+1 from by omega];rfl,H1.out,H2.out,by omega,fw _,fw _,fun _=>⟨fun _=>by omega,fun h=>absurd h (show ¬ (1:Int)=4 by decide),fun h=>absurd h (show ¬ (1:Int)=3 by decide)⟩⟩
  go_wp2_with fail;refine(mV X w2).mono ?_;rintro e w' ⟨t,rfl,rfl⟩
  cases t
  case true=>
   go_upto_block 3 with fail
   go_cut [10] (fun s8 wx=>kQ k xs.length w2 s8 wx)
   case first=>
    go_wp2_with fail
    go_loopw [10] (kQ k xs.length w2) (fun i _=>xs.length - (intOf i).toNat)
    case atStart=>exact⟨k,by omega,by omega,rfl,rfl⟩
    case round=>
     obtain⟨q,hq1,hq2,rfl,rfl⟩:=hrel
     by_cases hlq:q<xs.length
     case neg=>
      have g3:¬ (q:Int)<xs.length:=by omega
      go_wp2_with fail;go_meet
      case rel=>exact⟨q,hq1,hq2,rfl,rfl⟩
     have g3:(q:Int)<xs.length:=by omega
     have cq:=Zg b1.out (h6.out q hlq);go_wp2_with fail;refine(mV _ w2).mono ?_;rintro e w' ⟨t,rfl,rfl⟩
     cases t
     ·go_wp2_with fail;go_meet
      case rel=>exact⟨q,hq1,hq2,rfl,rfl⟩
     ·go_wp2_with fail;exact⟨⟨q+1,by omega,by omega,by go_num,rfl⟩,by simp[intOf];omega⟩
   case rest=>
    obtain⟨q,hq1,hq2,rfl,rfl⟩:=hcut;have f2:=((g1.out.cut hk2).upto (k:=q - k) (by simp;omega)).below b1.out;have i3:=aO f2;have z1:(k:Int)<=q:=by omega
    have z2:(q:Int)<=cap:=by omega
    have z3:k<=q:=hq1;have z4:q<=cap:=by omega
    clear f2;have f1:((xs.drop k).take (q - k)).length<=xs.length:=by simp;omega
    have h7:=Qa f1;have e6:=Qa (show((xs.drop k).take (q - k)).length<=q - k by simp;omega);clear f1;generalize ((xs.drop k).take (q - k))=ys at *;have n3:IntKind.i64.wrap ((q:Int) - at_)= (q:Int) - at_:=IntWalk.i64_in _ (by omega);go_wp2_with fail;refine(vR ⟨ys.toArray⟩ w2).mono ?_;rintro e w' ⟨t,rfl,rfl,f8⟩;have f0:=Qa f8;clear f8
    cases t
    case true=>
     have g6:=Qa (show 0<ys.length from by have h:0<ys.toArray.size:=f0.out rfl;simpa using h);go_wp2_with fail;obtain⟨H3,H4,H5,H1,H2,b2,b3⟩:=iS (w:=w2.drew) (S:=S4 fb) (D:= #[.int .i64 2,.int .i64 k,.int .u8 0,.string ⟨ys.toArray⟩,.bool false,.string es,.int .i64 0]) b4.out (fun _ e=>by simp at e) (by omega) b5.out (Zb _) (by omega) (b1.out.drew) a0.out (fun _ _ r hg hr h=>h.keep hg (by omega));refine aA (fun w'=>w'.cell? ⟨fb,0,none⟩=some (.int .i64 0)/\w'.cell? ⟨fb,1,none⟩=some (.int .i64 0)/\w'.cell? ⟨fb,2,none⟩=some (.int .i64 0)/\w'.cell? ⟨fb,3,none⟩=some (.slice none 0 0)) (a0.out) fun a4=>?_
     refine tH 0 a4 ?_;refine tH 1 a4 ?_;refine tH 2 a4 ?_;refine tH 3 a4 ?_;refine tH 4 a4 ?_;refine tH 5 a4 ?_
     try simp only[Act.put,jP,jQ,jR]
     refine tH 6 a4 ?_
     try simp only[Act.put,jP,jQ,jR]
     refine rH 7 fun K hK=>?_
     refine bM b4.out ?_;refine hK.out _ _ (b2.out) (fun a4=>?_);clear hK K
     try simp only[Act.put,jP,jQ,jR]
     refine tH 8 a4 ?_
     try simp only[Act.put,jP,jQ,jR]
     refine rH 9 fun K hK=>?_
     refine bM H3.out ?_;refine hK.out _ _ (b3.out) (fun a4=>?_);clear hK K
     try simp only[Act.put,jP,jQ,jR]
     refine wpAnyH_done (by kernel_rfl) (NoPanic.normal ?_) _;go_wp2_with fail;have h4:=H4.out;have h5:=H5.out;exact Zh (cB Tryz.results111 _ _ _ _ _ _ _ _ _ _ _ _ _ _ _ _ _ (0,0) (0,0) rfl h4 rfl h5) rfl ⟨⟨2,k,0,⟨ys.toArray⟩,⟨false,es,0⟩⟩,q - at_,0,_,by rw[show((q - at_:Nat):Int)= (q:Int) - at_ from by omega];rfl,H1.out,H2.out,by omega,by have:=h7.out;show ys.toArray.size<=_;simp;omega,fw _,fun _=>⟨fun _=>by have:=g6.out;have:=e6.out;omega,fun h=>absurd h (show ¬ (2:Int)=4 by decide),fun h=>absurd h (show ¬ (2:Int)=3 by decide)⟩⟩
    go_wp2_with fail;refine(cD 110 k w2).mono ?_;rintro e wz ⟨u,rfl,hu,a9⟩;have b7:=Qa ((a9.block _ (ae b4.out)).trans b4.out);have c6:=Qa ((a9.block _ (ae b5.out)).trans b5.out);obtain⟨fh,fl,fA,fq,fr,rfl,h3,h4,h5,h1,h2⟩:=fB (D:= #[.int .i64 0,.int .i64 0,.int .u8 0,.string es,.bool false,.string es,.int .i64 0]) hu b7.out (fun _ e=>by simp at e) (by omega) c6.out (Zb _) (by omega) (b1.out.trans (a9.mono b1.out.size));have H1:=Qa h1;have H2:=Qa h2;have H3:=Qa h3;have H4:=Qa h4;have H5:=Qa h5;clear h1 h2 h3 h4 h5 hu a9;go_wp2_with (first
     |(refine bF b7.out ?_)
     |(refine bF H3.out ?_))
    have h4:=H4.out;have h5:=H5.out;exact Zh (cB Tryz.results111 _ _ _ _ _ _ _ _ _ _ _ _ _ _ _ _ _ (0,0) (0,0) rfl h4 rfl h5) rfl ⟨Ev,0,110,_,rfl,H1.out,H2.out,by omega,fw _,fw _,fun h=>absurd h (show ¬ (110:Int)=0 by decide)⟩
  have hcut:=(g1.out.cut hk2).below b1.out;have c0:=Qa hcut;have g0:(xs.drop k).length=xs.length - k:=by simp
  have e0:=Qa g0;have u1:k<=xs.length:=hk2;have u3:¬cap=k:=by omega
  clear hcut g0
  by_cases e34:X=34
  ·subst e34;go_wp2_with fail;rw[<-e0.out] at c0 ⊢;refine(tK c0.out (by have:=e0.out;omega)).mono ?_;rintro e w3 ⟨s,n,c,u,rfl,⟨fh,fl,fs,rfl,c8⟩,b8,d0⟩;obtain⟨fA,fq,fr,rfl,-⟩:=c8.slice;rw[show dA c fh fl (.slice fA fq fr) =.agg #[.int .i64 c,.int .i64 fh,.int .i64 fl,.slice fA fq fr] from rfl];have b9:=ac w3 (.cells #[.int .i64 c,.int .i64 fh,.int .i64 fl,.slice fA fq fr] 62);have b0:=ap w3 [.int .i64 c,.int .i64 fh,.int .i64 fl,.slice fA fq fr] 62;have q0:=b0 0 _ rfl;have q1:=b0 1 _ rfl;have q2:=b0 2 _ rfl;have q3:=b0 3 _ rfl;clear b0;have a5:=b8.trans (b9.mono b8.size);have Hs:=Qa (c8.below b9);have c7:=Qa (b1.out.trans (a5.mono b1.out.size));have c2:=Qa ((a5.block _ (ae b4.out)).trans b4.out);have c5:=Qa ((a5.block _ (ae b5.out)).trans b5.out);have a7:=Qa (And.intro (Zg a5 a0.out.1) (And.intro (Zg a5 a0.out.2.1) (And.intro (Zg a5 a0.out.2.2.1) (Zg a5 a0.out.2.2.2))));have e2:=Qa d0;have d3:=Qa (Nat.lt_of_lt_of_le (ae b5.out) b8.size);clear b9 b8 a5 c8 d0
   by_cases hc:c=0
   case neg=>
    have h9:(c !=0)=true:=by simpa using hc
    have Hc:=Qa hc;clear hc;go_wp2_with fail;generalize (w3.alloc (.cells #[.int .i64 c,.int .i64 fh,.int .i64 fl,.slice fA fq fr] 62))=w4 at *;refine(om c fh fl (.slice fA fq fr) k w4 Hs.out).mono ?_;rintro e wz ⟨u,rfl,hu,a9⟩;have b7:=Qa ((a9.block _ (ae c2.out)).trans c2.out);have c6:=Qa ((a9.block _ (ae c5.out)).trans c5.out);obtain⟨fh,fl,fA,fq,fr,rfl,h3,h4,h5,h1,h2⟩:=fB (D:= #[.int .i64 0,.int .i64 0,.int .u8 0,.string es,.bool false,.string es,.int .i64 0]) hu b7.out (fun _ e=>by simp at e) (by omega) c6.out (Zb _) (by omega) (c7.out.trans (a9.mono c7.out.size));have H1:=Qa h1;have H2:=Qa h2;have H3:=Qa h3;have H4:=Qa h4;have H5:=Qa h5;clear h1 h2 h3 h4 h5 hu a9;go_wp2_with (first
     |(refine bF b7.out ?_)
     |(refine bF H3.out ?_))
    have h4:=H4.out;have h5:=H5.out;exact Zh (cB Tryz.results111 _ _ _ _ _ _ _ _ _ _ _ _ _ _ _ _ _ (0,0) (0,0) rfl h4 rfl h5) rfl ⟨Ev,0,c,_,rfl,H1.out,H2.out,by omega,fw _,fw _,fun h=>absurd h Hc.out⟩
   subst hc;obtain⟨g2,f6,g8,d2⟩:=e2.out rfl;have h0:=Qa g2;have b6:=Qa (show(xs.drop k).length=xs.length - k by simp);have d2:n<=xs.length - k:=by rw[<-b6.out];exact d2
   have f6:s.size<=xs.length:=by have:=b6.out;omega
   have n4:IntKind.i64.wrap ((k:Int) - at_+n)= (k:Int) - at_+n:=IntWalk.i64_in _ (by omega);clear g2;go_wp2_with fail;generalize (w3.alloc (.cells #[.int .i64 0,.int .i64 fh,.int .i64 fl,.slice fA fq fr] 62))=w4 at *;obtain⟨H3,H4,H5,H1,H2,b2,b3⟩:=iS (w:=w4.drew) (S:=S4 fb) (D:= #[.int .i64 4,.int .i64 k,.int .u8 0,.string s,.bool false,.string es,.int .i64 0]) c2.out (fun _ e=>by simp at e) (by omega) c5.out (Zb _) (by omega) (c7.out.drew) a7.out (fun _ _ r hg hr h=>h.keep hg (by omega));refine aA (fun w'=>w'.cell? ⟨fb,0,none⟩=some (.int .i64 0)/\w'.cell? ⟨fb,1,none⟩=some (.int .i64 0)/\w'.cell? ⟨fb,2,none⟩=some (.int .i64 0)/\w'.cell? ⟨fb,3,none⟩=some (.slice none 0 0)) (a7.out) fun a4=>?_
   refine tH 0 a4 ?_;refine tH 1 a4 ?_;refine tH 2 a4 ?_;refine tH 3 a4 ?_;refine tH 4 a4 ?_;refine tH 5 a4 ?_
   try simp only[Act.put,jP,jQ,jR]
   refine tH 6 a4 ?_;refine tH 7 a4 ?_;refine tH 8 a4 ?_
   try simp only[Act.put,jP,jQ,jR]
   refine rH 9 fun K hK=>?_
   refine bM c2.out ?_;refine hK.out _ _ (b2.out) (fun a4=>?_);clear hK K
   try simp only[Act.put,jP,jQ,jR]
   refine tH 10 a4 ?_
   try simp only[Act.put,jP,jQ,jR]
   refine rH 11 fun K hK=>?_
   refine bM H3.out ?_;refine hK.out _ _ (b3.out) (fun a4=>?_);clear hK K
   try simp only[Act.put,jP,jQ,jR]
   refine wpAnyH_done (by kernel_rfl) (NoPanic.normal ?_) _;go_wp2_with fail;have h4:=H4.out;have h5:=H5.out;exact Zh (cB Tryz.results111 _ _ _ _ _ _ _ _ _ _ _ _ _ _ _ _ _ (0,0) (0,0) rfl h4 rfl h5) rfl ⟨⟨4,k,0,s,⟨false,es,0⟩⟩,k - at_+n,0,_,by rw[show((k - at_+n:Nat):Int)= (k:Int) - at_+n from by omega];rfl,H1.out,H2.out,by omega,f6,fw _,fun _=>⟨fun _=>by omega,fun _=>h0.out,fun h=>absurd h (show ¬ (4:Int)=3 by decide)⟩⟩
  have e34':(X==34)=false:=by simpa using e34
  clear e34;have e3:=Qa (show fb<w2.heap.size from d4.out);go_upto_region 23 with fail
  go_cut [120] (fun s120 wx=>(∃b:Bool,s120 =.bool b)/\w2=wx)
  case first=>
   by_cases a1:X=45
   ·go_wp2_with fail;go_meet
    case rel=>exact⟨⟨_,rfl⟩,rfl⟩
   have a1':(X==45)=false:=by simpa using a1
   by_cases a2:48<=X <;> by_cases a3:X<=57 <;> go_wp2_with fail
   all_goals
    go_meet
    case rel=>exact⟨⟨_,rfl⟩,rfl⟩
  case rest=>
   obtain⟨⟨t,rfl⟩,rfl⟩:=hcut
   cases t
   ·go_wp2_with fail;refine(cD 110 k w2).mono ?_;rintro e wz ⟨u,rfl,hu,a9⟩;have b7:=Qa ((a9.block _ (ae b4.out)).trans b4.out);have c6:=Qa ((a9.block _ (ae b5.out)).trans b5.out);obtain⟨fh,fl,fA,fq,fr,rfl,h3,h4,h5,h1,h2⟩:=fB (D:= #[.int .i64 0,.int .i64 0,.int .u8 0,.string es,.bool false,.string es,.int .i64 0]) hu b7.out (fun _ e=>by simp at e) (by omega) c6.out (Zb _) (by omega) (b1.out.trans (a9.mono b1.out.size));have H1:=Qa h1;have H2:=Qa h2;have H3:=Qa h3;have H4:=Qa h4;have H5:=Qa h5;clear h1 h2 h3 h4 h5 hu a9;go_wp2_with (first
     |(refine bF b7.out ?_)
     |(refine bF H3.out ?_))
    have h4:=H4.out;have h5:=H5.out;exact Zh (cB Tryz.results111 _ _ _ _ _ _ _ _ _ _ _ _ _ _ _ _ _ (0,0) (0,0) rfl h4 rfl h5) rfl ⟨Ev,0,110,_,rfl,H1.out,H2.out,by omega,fw _,fw _,fun h=>absurd h (show ¬ (110:Int)=0 by decide)⟩
   ·go_wp2_with fail;rw[<-e0.out] at c0 ⊢;refine(vC c0.out (by have:=e0.out;omega)).mono ?_;rintro e w3 ⟨d,n,c,u,rfl,⟨fh,fl,fs,rfl,c8⟩,b8,d9,d0⟩;have g4:=Qa d9;have e5:=Qa b8.size;clear d9;obtain⟨fA,fq,fr,rfl,-⟩:=c8.slice;rw[show dA c fh fl (.slice fA fq fr) =.agg #[.int .i64 c,.int .i64 fh,.int .i64 fl,.slice fA fq fr] from rfl];obtain⟨dn,dd,dx⟩:=d;rw[show Iy ⟨dn,dd,dx⟩ =.agg #[.bool dn,.string dd,.int .i64 dx] from rfl];have b9:Below w3.heap.size w3 ((w3.alloc (.cells #[.bool dn,.string dd,.int .i64 dx] 67)).alloc (.cells #[.int .i64 c,.int .i64 fh,.int .i64 fl,.slice fA fq fr] 62)):=(ac w3 _).alloc (by simp) _;have b0:=ap (w3.alloc (.cells #[.bool dn,.string dd,.int .i64 dx] 67)) [.int .i64 c,.int .i64 fh,.int .i64 fl,.slice fA fq fr] 62;have hcd:=ap w3 [.bool dn,.string dd,.int .i64 dx] 67;have d6:=ac (w3.alloc (.cells #[.bool dn,.string dd,.int .i64 dx] 67)) (.cells #[.int .i64 c,.int .i64 fh,.int .i64 fl,.slice fA fq fr] 62);rw[World.size_alloc] at b0;have q0:=b0 0 _ rfl;have q1:=b0 1 _ rfl;have q2:=b0 2 _ rfl;have q3:=b0 3 _ rfl;have p0:=Zg d6 (hcd 0 _ rfl);have p1:=Zg d6 (hcd 1 _ rfl);have p2:=Zg d6 (hcd 2 _ rfl);clear b0 hcd d6;have a5:=b8.trans (b9.mono b8.size);have Hs:=Qa (c8.below b9);have c7:=Qa (b1.out.trans (a5.mono b1.out.size));have c2:=Qa ((a5.block _ (ae b4.out)).trans b4.out);have c5:=Qa ((a5.block _ (ae b5.out)).trans b5.out);have a7:=Qa (And.intro (Zg a5 a0.out.1) (And.intro (Zg a5 a0.out.2.1) (And.intro (Zg a5 a0.out.2.2.1) (Zg a5 a0.out.2.2.2))));have e2:=Qa d0;have d3:=Qa (Nat.lt_of_lt_of_le (ae b5.out) b8.size);clear b9 b8 a5 c8 d0
    by_cases hc:c=0
    case neg=>
     have h9:(c !=0)=true:=by simpa using hc
     have Hc:=Qa hc;clear hc;go_wp2_with fail;generalize ((w3.alloc (.cells #[.bool dn,.string dd,.int .i64 dx] 67)).alloc (.cells #[.int .i64 c,.int .i64 fh,.int .i64 fl,.slice fA fq fr] 62))=w4 at *;refine(om c fh fl (.slice fA fq fr) k w4 Hs.out).mono ?_;rintro e wz ⟨u,rfl,hu,a9⟩;have b7:=Qa ((a9.block _ (ae c2.out)).trans c2.out);have c6:=Qa ((a9.block _ (ae c5.out)).trans c5.out);obtain⟨fh,fl,fA,fq,fr,rfl,h3,h4,h5,h1,h2⟩:=fB (D:= #[.int .i64 0,.int .i64 0,.int .u8 0,.string es,.bool false,.string es,.int .i64 0]) hu b7.out (fun _ e=>by simp at e) (by omega) c6.out (Zb _) (by omega) (c7.out.trans (a9.mono c7.out.size));have H1:=Qa h1;have H2:=Qa h2;have H3:=Qa h3;have H4:=Qa h4;have H5:=Qa h5;clear h1 h2 h3 h4 h5 hu a9;go_wp2_with (first
      |(refine bF b7.out ?_)
      |(refine bF H3.out ?_))
     have h4:=H4.out;have h5:=H5.out;exact Zh (cB Tryz.results111 _ _ _ _ _ _ _ _ _ _ _ _ _ _ _ _ _ (0,0) (0,0) rfl h4 rfl h5) rfl ⟨Ev,0,c,_,rfl,H1.out,H2.out,by omega,fw _,fw _,fun h=>absurd h Hc.out⟩
    subst hc;obtain⟨g8,d2,e1⟩:=e2.out rfl;have b6:=Qa (show(xs.drop k).length=xs.length - k by simp);have d2:n<=xs.length - k:=by rw[<-b6.out];exact d2
    have d9:dd.size<=xs.length+1:=by have h1:dd.size<=(xs.drop k).length+1:=g4.out;have:=b6.out;omega
    have n4:IntKind.i64.wrap ((k:Int) - at_+n)= (k:Int) - at_+n:=IntWalk.i64_in _ (by omega);have h8:=d3.out;have i0:fb<w2.heap.size:=e3.out;have g7:w2.heap.size<=w3.heap.size:=e5.out;go_wp2_with fail;generalize ((w3.alloc (.cells #[.bool dn,.string dd,.int .i64 dx] 67)).alloc (.cells #[.int .i64 0,.int .i64 fh,.int .i64 fl,.slice fA fq fr] 62))=w4 at *;generalize w3.heap.size=db at *;have a6:=Qa (And.intro p0 (And.intro p1 (And.intro p2 a7.out)));clear p0 p1 p2 q0 q1 q2 q3;obtain⟨H3,H4,H5,H1,H2,b2,b3⟩:=iS (w:=w4.drew) (S:=fun u=>(u.cell? ⟨db,0,none⟩=some (.bool dn)/\u.cell? ⟨db,1,none⟩=some (.string dd)/\u.cell? ⟨db,2,none⟩=some (.int .i64 dx))/\S4 fb u) (D:= #[.int .i64 3,.int .i64 k,.int .u8 0,.string es,.bool dn,.string dd,.int .i64 dx]) c2.out (fun _ e=>by simp at e) (by omega) c5.out (Zb _) (by omega) (c7.out.drew) ⟨⟨a6.out.1,a6.out.2.1,a6.out.2.2.1⟩,a6.out.2.2.2⟩ (fun _ _ r hg hr h=>⟨⟨ep h.1.1 hg (by omega),ep h.1.2.1 hg (by omega),ep h.1.2.2 hg (by omega)⟩,h.2.keep hg (by omega)⟩);have b2:=Qa (And.intro b2.out.1.1 (And.intro b2.out.1.2.1 (And.intro b2.out.1.2.2 b2.out.2)));have b3:=Qa (And.intro b3.out.1.1 (And.intro b3.out.1.2.1 (And.intro b3.out.1.2.2 b3.out.2)));refine aA (fun w'=>w'.cell? ⟨db,0,none⟩=some (.bool dn)/\w'.cell? ⟨db,1,none⟩=some (.string dd)/\w'.cell? ⟨db,2,none⟩=some (.int .i64 dx)/\w'.cell? ⟨fb,0,none⟩=some (.int .i64 0)/\w'.cell? ⟨fb,1,none⟩=some (.int .i64 0)/\w'.cell? ⟨fb,2,none⟩=some (.int .i64 0)/\w'.cell? ⟨fb,3,none⟩=some (.slice none 0 0)) (a6.out) fun a4=>?_
    refine tH 0 a4 ?_;refine tH 1 a4 ?_;refine tH 2 a4 ?_;refine tH 3 a4 ?_;refine tH 4 a4 ?_;refine tH 5 a4 ?_
    try simp only[Act.put,jP,jQ,jR]
    refine tH 6 a4 ?_;refine tH 7 a4 ?_;refine tH 8 a4 ?_
    try simp only[Act.put,jP,jQ,jR]
    refine rH 9 fun K hK=>?_
    refine bM c2.out ?_;refine hK.out _ _ (b2.out) (fun a4=>?_);clear hK K
    try simp only[Act.put,jP,jQ,jR]
    refine tH 10 a4 ?_
    try simp only[Act.put,jP,jQ,jR]
    refine rH 11 fun K hK=>?_
    refine bM H3.out ?_;refine hK.out _ _ (b3.out) (fun a4=>?_);clear hK K
    try simp only[Act.put,jP,jQ,jR]
    refine wpAnyH_done (by kernel_rfl) (NoPanic.normal ?_) _;go_wp2_with fail;have h4:=H4.out;have h5:=H5.out;exact Zh (cB Tryz.results111 _ _ _ _ _ _ _ _ _ _ _ _ _ _ _ _ _ (0,0) (0,0) rfl h4 rfl h5) rfl ⟨⟨3,k,0,es,⟨dn,dd,dx⟩⟩,k - at_+n,0,_,by rw[show((k - at_+n:Nat):Int)= (k:Int) - at_+n from by omega];rfl,H1.out,H2.out,by omega,fw _,d9,fun _=>⟨fun _=>by omega,fun h=>absurd h (show ¬ (3:Int)=4 by decide),fun _=>e1⟩⟩
theorem aa {t:TypeId}{z:Nat×Nat}(h:w.heap[g]?=some (.cells cs t z)){j:Nat}(hu:cs[j]?=some u):w.cell? ⟨g,j,none⟩=some u:=by
 unfold World.cell?;simp only[h];simpa using hu
theorem ak {t:TypeId}(h:w.heap[g]?=some (.cells cs t (0,0)))(j:Nat):w.frozen? ⟨g,j,none⟩=false:=by
 unfold World.frozen?;simp[h]
theorem au {t:TypeId}{z:Nat×Nat}(h:w.heap[g]?=some (.cells cs t z))(j:Nat)(u:Value):(w.setCell ⟨g,j,none⟩ u).heap[g]?=some (.cells (cs.setIfInBounds j u) t z):=by
 have hlt:=ae h;have h':w.heap[g] =.cells cs t z:=by simpa [Array.getElem?_eq_getElem hlt] using h
 show(w.heap.modify g _)[g]?=_
 rw[Array.getElem?_eq_getElem (by simpa using hlt),Array.getElem_modify_self,h'];rfl
theorem ar (w:World)(i j k:Nat)(v:Value)(t:TypeId)(cs:Array Value)(hne:i≠j)(h:w.heap[i]?=some (.cells cs t (0,0))):(w.setCell ⟨j,k,none⟩ v).heap[i]?=some (.cells cs t (0,0)):=(Below.heap_setCell w _ v i hne).trans h
theorem ai {x:Obj}(h:w.heap[g]?=some x)(hb:Below w.heap.size w w'):w'.heap[g]?=some x:=(hb.block _ (ae h)).trans h
theorem aB {x:Obj}{o:Option Nat}(h:w.heap[g]?=some x)(hg:w.grownBy w' o)(ho:o≠some g):w'.heap[g]?=some x:=(hg.block g (ae h) (fun e=>ho e.symm)).trans h
structure aZ (F:Nat->Prop) (w w':World):Prop where
 os:w'.os=w.os
 tape:w'.tape=w.tape
 output:w'.output=w.output
 size:w.heap.size<=w'.heap.size
 block:∀k,k<w.heap.size->¬F k->w'.heap[k]?=w.heap[k]?
theorem aZ.of_below (h:Below w.heap.size w w'):aZ F w w':=⟨h.os,h.tape,h.output,h.size,fun k hk _=>h.block k hk⟩
theorem aZ.refl (F:Nat->Prop)(w:World):aZ F w w:=aZ.of_below (Ze _ _)
theorem aZ.trans {a b c:World}(h:aZ F a b)(k:aZ G b c)(hg:∀i,G i->F i\/a.heap.size<=i):aZ F a c:=
 ⟨k.os.trans h.os,k.tape.trans h.tape,k.output.trans h.output,Zc h.size k.size,fun i hi hf=>(k.block i (Nat.lt_of_lt_of_le hi h.size) (fun hG=>by rcases hg i hG with h1|h1;exact hf h1;omega)).trans (h.block i hi hf)⟩
theorem aZ.mono {a b:World}(h:aZ F a b)(hg:∀i,F i->G i):aZ G a b:=⟨h.os,h.tape,h.output,h.size,fun i hi hn=>h.block i hi (fun hf=>hn (hg i hf))⟩
theorem aZ.below (h:aZ F w w')(hB:B<=w.heap.size)(hf:∀i,F i->B<=i):Below B w w':=⟨h.os,h.tape,h.output,h.size,fun k hk=>h.block k (Nat.lt_of_lt_of_le hk hB) (fun hF=>by have:=hf k hF;omega)⟩
theorem aZ.set (g j:Nat)(u:Value):aZ (fun k=>k=g) w (w.setCell ⟨g,j,none⟩ u):=⟨rfl,rfl,rfl,by simp,fun k _ hk=>Below.heap_setCell w _ u k hk⟩
theorem aZ.grown {o:Option Nat}(h:w.grownBy w' o):aZ (fun k=>o=some k) w w':=⟨h.os,h.tape,h.output,h.size,fun k hk hn=>h.block k hk (fun e=>hn e.symm)⟩
theorem bw {k:Nat}(h:w.ownsRow base e k v n us)(hs:∀b,v.ownBlock=some b->w'.heap[b]?=w.heap[b]?):w'.ownsRow base e k v n us:=by
 obtain⟨h1,⟨rfl,h0⟩|⟨g,cap,cur,rfl,a0,hg,r⟩⟩:=h
 ·exact⟨h1,.inl ⟨rfl,h0⟩⟩
 ·exact⟨h1,.inr ⟨g,cap,cur,rfl,a0,(hs g rfl).trans hg,r⟩⟩
