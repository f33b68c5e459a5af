import Derived.Test.YtibmppoeeppnoaaGreatDoorGZ4ai
set_option linter.unusedVariables false
set_option linter.unusedSimpArgs false
set_option maxHeartbeats 64000000
set_option maxRecDepth 100000
namespace Go.Proofs.YtibmppoeeppnoaaGreatDoor
open Go.RowKit
variable {D D0 cs:Array Value}{c0:Int}{xs:List UInt8}{us:List Value}{B at_ b base bd bf g k n:Nat}{F G:Nat->Prop}{e t:TypeId}{u v y1 y2 y3:Value}{w w' w0:World}
structure Tk where
 kind:Int
 at_:Int
 mark:Int
 str:ByteArray
 num:Dc
def kf (t:Tk):Value:=.agg #[.int .i64 t.kind,.int .i64 t.at_,.int .u8 t.mark,.string t.str,.bool t.num.neg,.string t.num.digits,.int .i64 t.num.exp]
def Dg:Tk:=⟨0,0,0,es,⟨false,es,0⟩⟩
theorem cY:(Tryz.prog.info? 180).map (·.size)=some 7:=by kernel_rfl
theorem eY (a b c:Int)(s:ByteArray)(n:Bool)(d:ByteArray)(x:Int):(#[.int .i64 a,.int .i64 b,.int .u8 c,.string s,.bool n,.string d,.int .i64 x]:Array Value).all (·.oneCell')=true:=by simp[Value.oneCell']
theorem cr {fn:Func}{p m q:Tmp}(h:fn.results = #[.cell p 180,.tmp m,.cell q 62])(tmps:Array Value)(w:World)(g1 g:Nat)(t1 t:TypeId)(d0 d1 d2 d3 d4 d5 d6 c0 c1 c2 c3:Value)(fr1 fr:Nat×Nat)
  (a3:tmps.getD p undef =.pointer (some ⟨g1,0,none⟩)) (a1:w.heap[g1]?=some (.cells #[d0,d1,d2,d3,d4,d5,d6] t1 fr1))
  (hp:tmps.getD q undef =.pointer (some ⟨g,0,none⟩)) (hg:w.heap[g]?=some (.cells #[c0,c1,c2,c3] t fr)) :
  (results fn tmps).run Tryz.prog w =.ok (.tuple #[.agg #[d0,d1,d2,d3,d4,d5,d6],tmps.getD m undef,.agg #[c0,c1,c2,c3]]) w:=by
 have a0:tmps[p]?.getD undef =.pointer (some ⟨g1,0,none⟩):=by simpa using a3
 have a4:tmps[q]?.getD undef =.pointer (some ⟨g,0,none⟩):=by simpa using hp
 have a2:=run_loadVar_row (P:=Tryz.prog) w g1 t1 180 #[d0,d1,d2,d3,d4,d5,d6] fr1 _ a1 Tryz.underlying180 rfl (by kernel_rfl);have hl:=run_loadVar_row (P:=Tryz.prog) w g t 62 #[c0,c1,c2,c3] fr _ hg Tryz.underlying62 rfl bg;simp[results,h,a0,a4,asAddr,a2,hl]
theorem fw {k:Int}{T:TypeId}(hu:dE w k u)(hd:w.heap[bd]?=some (.cells D0 T (0,0)))(hD:∀b:Bool,D0[0]?≠some (.bool b))(hlt:bd<bf)(hf:w.heap[bf]?=some (.cells #[.int .i64 c0,y1,y2,y3] 62 (0,0)))(a3:w0.heap.size<=bd)(a5:w0.heap.size<=bf)(hb:Below w0.heap.size w0 w) :
  ∃h l A q r,u =.agg #[.int .i64 k,.int .i64 h,.int .i64 l,.slice A q r]/\(w.setRow bd D).heap[bf]?=some (.cells #[.int .i64 c0,y1,y2,y3] 62 (0,0))/\((w.setRow bd D).setRow bf #[.int .i64 k,.int .i64 h,.int .i64 l,.slice A q r]).heap[bd]?=some (.cells D T (0,0))/\
   ((w.setRow bd D).setRow bf #[.int .i64 k,.int .i64 h,.int .i64 l,.slice A q r]).heap[bf]?=some (.cells #[.int .i64 k,.int .i64 h,.int .i64 l,.slice A q r] 62 (0,0))/\
   dE ((w.setRow bd D).setRow bf #[.int .i64 k,.int .i64 h,.int .i64 l,.slice A q r]) k u/\Below w0.heap.size w0 ((w.setRow bd D).setRow bf #[.int .i64 k,.int .i64 h,.int .i64 l,.slice A q r]):=by
 have hne:bd≠bf:=Nat.ne_of_lt hlt;have a4:dE (w.setRow bd D) k u:=by
  obtain⟨h,l,s,rfl,hs⟩:=hu;refine⟨h,l,s,rfl,?_⟩;rcases hs with e|⟨g,c',b',p,s',e,h1,h2,h3⟩
  ·exact .inl e
  ·have hne:some g≠some bd:=fun e'=>by
    injection e' with e';subst e'
    have a1:=h1;unfold World.cell? at a1;simp only[hd] at a1;exact hD b' (by simpa using a1)
   exact .inr ⟨g,c',b',p,s',e,(ah w _ _).cell h1 hne,(ah w _ _).cell h2 hne,(ah w _ _).cell h3 hne⟩
 have a0:(w.setRow bd D).heap[bf]?=some (.cells #[.int .i64 c0,y1,y2,y3] 62 (0,0)):=(setRow_other w bd bf D (Ne.symm hne)).trans hf;obtain⟨h,l,A,q,r,e,h1,h2⟩:=bG a4 a0;refine⟨h,l,A,q,r,e,a0,?_,setRow_heap _ _ _ _ _ _ a0,h2,?_⟩
 ·exact(setRow_other _ bf bd _ hne).trans (setRow_heap _ _ _ _ _ _ hd)
 ·have a2:Below w0.heap.size w0 (w.setRow bd D):=hb.grown (ah ..) hb.size (fun g e=>by cases e;exact a3);exact a2.grown (ah ..) a2.size (fun g e=>by cases e;exact a5)
def S4 (fb:Nat)(w:World):Prop:=w.cell? ⟨fb,0,none⟩=some (.int .i64 0)/\w.cell? ⟨fb,1,none⟩=some (.int .i64 0)/\w.cell? ⟨fb,2,none⟩=some (.int .i64 0)/\w.cell? ⟨fb,3,none⟩=some (.slice none 0 0)
theorem ej {r:Nat}(h:w.cell? ⟨b,n,none⟩=some v)(hg:w.grownBy w' (some r))(hr:b≠r):w'.cell? ⟨b,n,none⟩=some v:=hg.cell h fun e=>by injection e with e;exact hr e
theorem S4.keep {fb r:Nat}(h:S4 fb w)(hg:w.grownBy w' (some r))(hr:fb≠r):S4 fb w':=by
 exact⟨ej h.1 hg hr,ej h.2.1 hg hr,ej h.2.2.1 hg hr,ej h.2.2.2 hg hr⟩
theorem iK {T:TypeId}{S:World->Prop}(hd:w.heap[bd]?=some (.cells D0 T (0,0)))(hD:∀b:Bool,D0[0]?≠some (.bool b))(hlt:bd<bf)(hf:w.heap[bf]?=some (.cells #[.int .i64 c0,y1,y2,y3] 62 (0,0)))(a1:w0.heap.size<=bd)(a2:w0.heap.size<=bf)(hb:Below w0.heap.size w0 w)
  (hS:S w) (hk:∀ (w1 w2:World) (r:Nat),w1.grownBy w2 (some r)->r=bd\/r=bf->S w1->S w2) :
  Hid ((w.setRow bd D).heap[bf]?=some (.cells #[.int .i64 c0,y1,y2,y3] 62 (0,0)))/\Hid (((w.setRow bd D).setRow bf #[.int .i64 0,.int .i64 0,.int .i64 0,.slice none 0 0]).heap[bd]?=some (.cells D T (0,0)))/\
   Hid (((w.setRow bd D).setRow bf #[.int .i64 0,.int .i64 0,.int .i64 0,.slice none 0 0]).heap[bf]?=some (.cells #[.int .i64 0,.int .i64 0,.int .i64 0,.slice none 0 0] 62 (0,0)))/\
   Hid (dE ((w.setRow bd D).setRow bf #[.int .i64 0,.int .i64 0,.int .i64 0,.slice none 0 0]) 0 (dy 0 0 0 (.slice none 0 0)))/\Hid (Below w0.heap.size w0 ((w.setRow bd D).setRow bf #[.int .i64 0,.int .i64 0,.int .i64 0,.slice none 0 0]))/\Hid (S (w.setRow bd D))/\Hid (S ((w.setRow bd D).setRow bf #[.int .i64 0,.int .i64 0,.int .i64 0,.slice none 0 0])):=by
 obtain⟨gh,gl',gA,gq,gr,a0,h3,h4,h5,h1,h2⟩:=fw (D:=D) (show dE w 0 (dy 0 0 0 (.slice none 0 0)) from⟨0,0,_,rfl,.inl rfl⟩) hd hD hlt hf a1 a2 hb;injection a0 with a0
 obtain⟨rfl,rfl,a0⟩:0=gh/\0=gl'/\Value.slice none 0 0=Value.slice gA gq gr:=by simpa using a0
 obtain⟨rfl,rfl,rfl⟩:none=gA/\0=gq/\0=gr:=by simpa using a0
 have s1:=hk _ _ _ (ah w bd D) (.inl rfl) hS;exact⟨h3,h4,h5,h1,h2,s1,hk _ _ _ (ah ..) (.inr rfl) s1⟩
theorem fv (n:Nat):es.size<=n:=Zb (Nat.le_of_eq (rfl:es.size=0)) (Zj _)
def CQ (len at_:Nat)(w:World)(e:Ending)(w':World):Prop:= ∃ (t:Tk) (n:Nat) (c:Int) (u:Value),e =.returned (.tuple #[kf t,.int .i64 n,u])/\dE w' c u/\Below w.heap.size w w'/\
 at_+n<=len/\t.str.size<=len/\t.num.digits.size<=len+1/\(c=0->(t.kind≠5->1<=n)/\(t.kind=4->fH t.str.data.toList)/\(t.kind=3->wT t.num))
def kv (at_ len:Nat)(w:World)(s8:Value)(wr:World):Prop:= ∃k:Nat,at_<=k/\k<=len/\s8 =.int .i64 k/\w=wr
theorem gM (hb:Bs w v xs)(hl:xs.length<=900000)(hat:at_<=xs.length):Calls Tryz.prog 108 #[v,.int .i64 at_] w (CQ xs.length at_ w):=by
 obtain⟨hm,A,cap,rfl,h6,c4⟩:=id hb;have f2:=Ze w (.cells #[.int .i64 0,.int .i64 0,.int .u8 0,.string es,.bool false,.string es,.int .i64 0] 180);have e7:=Ze (w.alloc (.cells #[.int .i64 0,.int .i64 0,.int .u8 0,.string es,.bool false,.string es,.int .i64 0] 180)) (.cells #[.int .i64 0,.int .i64 0,.int .i64 0,.slice none 0 0] 62);rw[World.size_alloc] at e7;have f1:Below w.heap.size w ((w.alloc (.cells #[.int .i64 0,.int .i64 0,.int .u8 0,.string es,.bool false,.string es,.int .i64 0] 180)).alloc (.cells #[.int .i64 0,.int .i64 0,.int .i64 0,.slice none 0 0] 62)):=((Zd _ _).alloc (Za _) _).alloc (by simp) _;have d4:((w.alloc (.cells #[.int .i64 0,.int .i64 0,.int .u8 0,.string es,.bool false,.string es,.int .i64 0] 180)).alloc (.cells #[.int .i64 0,.int .i64 0,.int .i64 0,.slice none 0 0] 62)).heap[w.heap.size]?=some (.cells #[.int .i64 0,.int .i64 0,.int .u8 0,.string es,.bool false,.string es,.int .i64 0] 180 (0,0)):=(Below.heap_alloc _ _ _ (by simp)).trans f2;have g1:=Qa d4;have e4:=Qa e7;have e8:=Qa f1;have f4:=Qa hb;have c3:=Qa c4;clear f2 d4 e7 f1 hb c4;go_enter Tryz.func108,Tryz.ntmps108;go_wp2_with fail;generalize (w.alloc (.cells #[.int .i64 0,.int .i64 0,.int .u8 0,.string es,.bool false,.string es,.int .i64 0] 180)).alloc (.cells #[.int .i64 0,.int .i64 0,.int .i64 0,.slice none 0 0] 62)=w0 at *;refine(eF 0 w0).mono ?_;rintro e w1 ⟨rfl,d9⟩;rw[show dy 0 0 0 (.slice none 0 0) =.agg #[.int .i64 0,.int .i64 0,.int .i64 0,.slice none 0 0] from rfl];have b8:=ac w1 (.cells #[.int .i64 0,.int .i64 0,.int .i64 0,.slice none 0 0] 62);have b0:=ap w1 [.int .i64 0,.int .i64 0,.int .i64 0,.slice none 0 0] 62;have a0:=Qa (And.intro (b0 0 _ rfl) (And.intro (b0 1 _ rfl) (And.intro (b0 2 _ rfl) (b0 3 _ rfl))));have c2:=d9.trans (b8.mono d9.size);have b1:=Qa (e8.out.trans (c2.mono e8.out.size));have b3:=Qa ((c2.block _ (ae g1.out)).trans g1.out);have b5:=Qa ((c2.block _ (ae e4.out)).trans e4.out);have g4:w.heap.size+1<w1.heap.size:=Nat.lt_of_lt_of_le (ae e4.out) d9.size;clear b0 b8 d9 c2;go_upto_block 0 with fail
 have d1:=Qa (show w1.heap.size< (w1.alloc (.cells #[.int .i64 0,.int .i64 0,.int .i64 0,.slice none 0 0] 62)).heap.size by simp);generalize (w1.alloc (.cells #[.int .i64 0,.int .i64 0,.int .i64 0,.slice none 0 0] 62))=w2 at *;generalize w1.heap.size=fb at *;go_cut [8] (fun s8 wx=>kv at_ xs.length w2 s8 wx)
 case first=>
  go_wp2_with fail
  go_loopw [8] (kv at_ xs.length w2) (fun i _=>xs.length - (intOf i).toNat)
  case atStart=>exact⟨at_,by omega,hat,rfl,rfl⟩
  case round=>
   obtain⟨k,hk1,hk2,rfl,rfl⟩:=hrel
   by_cases hlt:k<xs.length
   case neg=>
    have f9:¬ (k:Int)<xs.length:=by omega
    go_wp2_with fail;go_meet
    case rel=>exact⟨k,hk1,hk2,rfl,rfl⟩
   have f9:(k:Int)<xs.length:=by omega
   obtain⟨b,o,rfl,c9⟩:=c3.out (by omega);have ck:=Zf b1.out (c9 k hlt);clear c9;go_wp2_with fail;refine(zk _ w2).mono ?_;rintro e w' ⟨t,rfl,rfl⟩
   cases t
   ·go_wp2_with fail;go_meet
    case rel=>exact⟨k,hk1,hk2,rfl,rfl⟩
   ·go_wp2_with fail;exact⟨⟨k+1,by omega,by omega,by go_num,rfl⟩,by simp[intOf];omega⟩
 case rest=>
  obtain⟨k,hk1,hk2,rfl,rfl⟩:=hcut;have n1:IntKind.i64.wrap ((k:Int) - at_)= (k:Int) - at_:=IntWalk.i64_in _ (by omega)
  by_cases hlt:k<xs.length
  case neg=>
   obtain rfl:k=xs.length:=by omega
   go_wp2_with fail;obtain⟨H3,H4,H5,H1,H2,b4,b2⟩:=iK (w:=w2.drew) (S:=S4 fb) (D:= #[.int .i64 5,.int .i64 xs.length,.int .u8 0,.string es,.bool false,.string es,.int .i64 0]) b3.out (fun _ e=>by simp at e) (by omega) b5.out (Za _) (by omega) (b1.out.drew) a0.out (fun _ _ r hg hr h=>h.keep hg (by omega));refine aO (fun w'=>w'.cell? ⟨fb,0,none⟩=some (.int .i64 0)/\w'.cell? ⟨fb,1,none⟩=some (.int .i64 0)/\w'.cell? ⟨fb,2,none⟩=some (.int .i64 0)/\w'.cell? ⟨fb,3,none⟩=some (.slice none 0 0)) (a0.out) fun a4=>?_
   refine tH 0 a4 ?_;refine tH 1 a4 ?_;refine tH 2 a4 ?_;refine tH 3 a4 ?_;refine tH 4 a4 ?_;refine tH 5 a4 ?_
   try simp only[Act.put,jP,jQ,jR]
   refine rH 6 fun K hK=>?_
   refine bK b3.out ?_;refine hK.out _ _ (b4.out) (fun a4=>?_);clear hK K
   try simp only[Act.put,jP,jQ,jR]
   refine tH 7 a4 ?_
   try simp only[Act.put,jP,jQ,jR]
   refine rH 8 fun K hK=>?_
   refine bK H3.out ?_;refine hK.out _ _ (b2.out) (fun a4=>?_);clear hK K
   try simp only[Act.put,jP,jQ,jR]
   refine wpAnyH_done (by kernel_rfl) (NoPanic.normal ?_) _;go_wp2_with fail;have h4:=H4.out;have h5:=H5.out;exact Zg (cr Tryz.results108 _ _ _ _ _ _ _ _ _ _ _ _ _ _ _ _ _ (0,0) (0,0) rfl h4 rfl h5) rfl ⟨⟨5,xs.length,0,es,⟨false,es,0⟩⟩,xs.length - at_,0,_,by rw[show((xs.length - at_:Nat):Int)= (xs.length:Int) - at_ from by omega];rfl,H1.out,H2.out,by omega,fv _,fv _,fun _=>⟨fun h=>absurd rfl h,fun h=>absurd h (show ¬ (5:Int)=4 by decide),fun h=>absurd h (show ¬ (5:Int)=3 by decide)⟩⟩
  have f9:(k:Int)<xs.length:=by omega
  obtain⟨b,o,rfl,c9⟩:=c3.out (by omega);have ck:=Zf b1.out (c9 k hlt);obtain⟨X,hX,i2,i0⟩:∃X:Int,(am xs k:Int)=X/\0<=X/\X<256:=⟨_,rfl,by omega,by have:=aB xs k;omega⟩;rw[hX] at ck;have g6:=Qa c9;clear hX c9;have n2:IntKind.i64.wrap ((k:Int) - at_+1)= (k:Int) - at_+1:=IntWalk.i64_in _ (by omega);have hne:((k:Int)==xs.length)=false:=by simp;omega
  go_wp2_with fail;refine(xX X w2).mono ?_;rintro e w' ⟨t,rfl,rfl⟩
  cases t
  case true=>
   go_wp2_with fail;obtain⟨H3,H4,H5,H1,H2,b4,b2⟩:=iK (w:=w2.drew) (S:=S4 fb) (D:= #[.int .i64 1,.int .i64 k,.int .u8 X,.string es,.bool false,.string es,.int .i64 0]) b3.out (fun _ e=>by simp at e) (by omega) b5.out (Za _) (by omega) (b1.out.drew) a0.out (fun _ _ r hg hr h=>h.keep hg (by omega));refine aO (fun w'=>w'.cell? ⟨fb,0,none⟩=some (.int .i64 0)/\w'.cell? ⟨fb,1,none⟩=some (.int .i64 0)/\w'.cell? ⟨fb,2,none⟩=some (.int .i64 0)/\w'.cell? ⟨fb,3,none⟩=some (.slice none 0 0)) (a0.out) fun a4=>?_
   refine tH 0 a4 ?_;refine tH 1 a4 ?_;refine tH 2 a4 ?_;refine tH 3 a4 ?_;refine tH 4 a4 ?_;refine tH 5 a4 ?_
   try simp only[Act.put,jP,jQ,jR]
   refine tH 6 a4 ?_;refine tH 7 a4 ?_
   try simp only[Act.put,jP,jQ,jR]
   refine rH 8 fun K hK=>?_
   refine bK b3.out ?_;refine hK.out _ _ (b4.out) (fun a4=>?_);clear hK K
   try simp only[Act.put,jP,jQ,jR]
   refine tH 9 a4 ?_
   try simp only[Act.put,jP,jQ,jR]
   refine rH 10 fun K hK=>?_
   refine bK H3.out ?_;refine hK.out _ _ (b2.out) (fun a4=>?_);clear hK K
   try simp only[Act.put,jP,jQ,jR]
   refine wpAnyH_done (by kernel_rfl) (NoPanic.normal ?_) _;go_wp2_with fail;have h4:=H4.out;have h5:=H5.out;exact Zg (cr Tryz.results108 _ _ _ _ _ _ _ _ _ _ _ _ _ _ _ _ _ (0,0) (0,0) rfl h4 rfl h5) rfl ⟨⟨1,k,X,es,⟨false,es,0⟩⟩,k - at_+1,0,_,by rw[show((k - at_+1:Nat):Int)= (k:Int) - at_+1 from by omega];rfl,H1.out,H2.out,by omega,fv _,fv _,fun _=>⟨fun _=>by omega,fun h=>absurd h (show ¬ (1:Int)=4 by decide),fun h=>absurd h (show ¬ (1:Int)=3 by decide)⟩⟩
  go_wp2_with fail;refine(ot X w2).mono ?_;rintro e w' ⟨t,rfl,rfl⟩
  cases t
  case true=>
   go_upto_block 3 with fail
   go_cut [10] (fun s8 wx=>kv k xs.length w2 s8 wx)
   case first=>
    go_wp2_with fail
    go_loopw [10] (kv k xs.length w2) (fun i _=>xs.length - (intOf i).toNat)
    case atStart=>exact⟨k,by omega,by omega,rfl,rfl⟩
    case round=>
     obtain⟨q,hq1,hq2,rfl,rfl⟩:=hrel
     by_cases hlq:q<xs.length
     case neg=>
      have h7:¬ (q:Int)<xs.length:=by omega
      go_wp2_with fail;go_meet
      case rel=>exact⟨q,hq1,hq2,rfl,rfl⟩
     have h7:(q:Int)<xs.length:=by omega
     have cq:=Zf b1.out (g6.out q hlq);go_wp2_with fail;refine(ot _ w2).mono ?_;rintro e w' ⟨t,rfl,rfl⟩
     cases t
     ·go_wp2_with fail;go_meet
      case rel=>exact⟨q,hq1,hq2,rfl,rfl⟩
     ·go_wp2_with fail;exact⟨⟨q+1,by omega,by omega,by go_num,rfl⟩,by simp[intOf];omega⟩
   case rest=>
    obtain⟨q,hq1,hq2,rfl,rfl⟩:=hcut;have g0:=((f4.out.cut hk2).upto (k:=q - k) (by simp;omega)).below b1.out;have i3:=aJ g0;have z1:(k:Int)<=q:=by omega
    have z2:(q:Int)<=cap:=by omega
    have z3:k<=q:=hq1;have z4:q<=cap:=by omega
    clear g0;have f8:((xs.drop k).take (q - k)).length<=xs.length:=by simp;omega
    have g9:=Qa f8;have e3:=Qa (show((xs.drop k).take (q - k)).length<=q - k by simp;omega);clear f8;generalize ((xs.drop k).take (q - k))=ys at *;have n3:IntKind.i64.wrap ((q:Int) - at_)= (q:Int) - at_:=IntWalk.i64_in _ (by omega);go_wp2_with fail;refine(xL ⟨ys.toArray⟩ w2).mono ?_;rintro e w' ⟨t,rfl,rfl,f6⟩;have e6:=Qa f6;clear f6
    cases t
    case true=>
     have h0:=Qa (show 0<ys.length from by have h:0<ys.toArray.size:=e6.out rfl;simpa using h);go_wp2_with fail;obtain⟨H3,H4,H5,H1,H2,b4,b2⟩:=iK (w:=w2.drew) (S:=S4 fb) (D:= #[.int .i64 2,.int .i64 k,.int .u8 0,.string ⟨ys.toArray⟩,.bool false,.string es,.int .i64 0]) b3.out (fun _ e=>by simp at e) (by omega) b5.out (Za _) (by omega) (b1.out.drew) a0.out (fun _ _ r hg hr h=>h.keep hg (by omega));refine aO (fun w'=>w'.cell? ⟨fb,0,none⟩=some (.int .i64 0)/\w'.cell? ⟨fb,1,none⟩=some (.int .i64 0)/\w'.cell? ⟨fb,2,none⟩=some (.int .i64 0)/\w'.cell? ⟨fb,3,none⟩=some (.slice none 0 0)) (a0.out) fun a4=>?_
     refine tH 0 a4 ?_;refine tH 1 a4 ?_;refine tH 2 a4 ?_;refine tH 3 a4 ?_;refine tH 4 a4 ?_;refine tH 5 a4 ?_
     try simp only[Act.put,jP,jQ,jR]
     refine tH 6 a4 ?_
     try simp only[Act.put,jP,jQ,jR]
     refine rH 7 fun K hK=>?_
     refine bK b3.out ?_;refine hK.out _ _ (b4.out) (fun a4=>?_);clear hK K
     try simp only[Act.put,jP,jQ,jR]
     refine tH 8 a4 ?_
     try simp only[Act.put,jP,jQ,jR]
     refine rH 9 fun K hK=>?_
     refine bK H3.out ?_;refine hK.out _ _ (b2.out) (fun a4=>?_);clear hK K
     try simp only[Act.put,jP,jQ,jR]
     refine wpAnyH_done (by kernel_rfl) (NoPanic.normal ?_) _;go_wp2_with fail;have h4:=H4.out;have h5:=H5.out;exact Zg (cr Tryz.results108 _ _ _ _ _ _ _ _ _ _ _ _ _ _ _ _ _ (0,0) (0,0) rfl h4 rfl h5) rfl ⟨⟨2,k,0,⟨ys.toArray⟩,⟨false,es,0⟩⟩,q - at_,0,_,by rw[show((q - at_:Nat):Int)= (q:Int) - at_ from by omega];rfl,H1.out,H2.out,by omega,by have:=g9.out;show ys.toArray.size<=_;simp;omega,fv _,fun _=>⟨fun _=>by have:=h0.out;have:=e3.out;omega,fun h=>absurd h (show ¬ (2:Int)=4 by decide),fun h=>absurd h (show ¬ (2:Int)=3 by decide)⟩⟩
    go_wp2_with fail;refine(cv 110 k w2).mono ?_;rintro e wz ⟨u,rfl,hu,a9⟩;have b7:=Qa ((a9.block _ (ae b3.out)).trans b3.out);have c8:=Qa ((a9.block _ (ae b5.out)).trans b5.out);obtain⟨fh,fl,fA,fq,fr,rfl,h3,h4,h5,h1,h2⟩:=fw (D:= #[.int .i64 0,.int .i64 0,.int .u8 0,.string es,.bool false,.string es,.int .i64 0]) hu b7.out (fun _ e=>by simp at e) (by omega) c8.out (Za _) (by omega) (b1.out.trans (a9.mono b1.out.size));have H1:=Qa h1;have H2:=Qa h2;have H3:=Qa h3;have H4:=Qa h4;have H5:=Qa h5;clear h1 h2 h3 h4 h5 hu a9;go_wp2_with (first
     |(refine bE b7.out ?_)
     |(refine bE H3.out ?_))
    have h4:=H4.out;have h5:=H5.out;exact Zg (cr Tryz.results108 _ _ _ _ _ _ _ _ _ _ _ _ _ _ _ _ _ (0,0) (0,0) rfl h4 rfl h5) rfl ⟨Dg,0,110,_,rfl,H1.out,H2.out,by omega,fv _,fv _,fun h=>absurd h (show ¬ (110:Int)=0 by decide)⟩
  have hcut:=(f4.out.cut hk2).below b1.out;have c0:=Qa hcut;have f5:(xs.drop k).length=xs.length - k:=by simp
  have d6:=Qa f5;have u1:k<=xs.length:=hk2;have u3:¬cap=k:=by omega
  clear hcut f5
  by_cases e34:X=34
  ·subst e34;go_wp2_with fail;rw[<-d6.out] at c0 ⊢;refine(uR c0.out (by have:=d6.out;omega)).mono ?_;rintro e w3 ⟨s,n,c,u,rfl,⟨fh,fl,fs,rfl,c6⟩,b9,d0⟩;obtain⟨fA,fq,fr,rfl,-⟩:=c6.slice;rw[show dy c fh fl (.slice fA fq fr) =.agg #[.int .i64 c,.int .i64 fh,.int .i64 fl,.slice fA fq fr] from rfl];have b8:=ac w3 (.cells #[.int .i64 c,.int .i64 fh,.int .i64 fl,.slice fA fq fr] 62);have b0:=ap w3 [.int .i64 c,.int .i64 fh,.int .i64 fl,.slice fA fq fr] 62;have q0:=b0 0 _ rfl;have q1:=b0 1 _ rfl;have q2:=b0 2 _ rfl;have q3:=b0 3 _ rfl;clear b0;have a5:=b9.trans (b8.mono b9.size);have Hs:=Qa (c6.below b8);have c5:=Qa (b1.out.trans (a5.mono b1.out.size));have c1:=Qa ((a5.block _ (ae b3.out)).trans b3.out);have c7:=Qa ((a5.block _ (ae b5.out)).trans b5.out);have a7:=Qa (And.intro (Zf a5 a0.out.1) (And.intro (Zf a5 a0.out.2.1) (And.intro (Zf a5 a0.out.2.2.1) (Zf a5 a0.out.2.2.2))));have e0:=Qa d0;have d2:=Qa (Nat.lt_of_lt_of_le (ae b5.out) b9.size);clear b8 b9 a5 c6 d0
   by_cases hc:c=0
   case neg=>
    have h8:(c !=0)=true:=by simpa using hc
    have Hc:=Qa hc;clear hc;go_wp2_with fail;generalize (w3.alloc (.cells #[.int .i64 c,.int .i64 fh,.int .i64 fl,.slice fA fq fr] 62))=w4 at *;refine(mL c fh fl (.slice fA fq fr) k w4 Hs.out).mono ?_;rintro e wz ⟨u,rfl,hu,a9⟩;have b7:=Qa ((a9.block _ (ae c1.out)).trans c1.out);have c8:=Qa ((a9.block _ (ae c7.out)).trans c7.out);obtain⟨fh,fl,fA,fq,fr,rfl,h3,h4,h5,h1,h2⟩:=fw (D:= #[.int .i64 0,.int .i64 0,.int .u8 0,.string es,.bool false,.string es,.int .i64 0]) hu b7.out (fun _ e=>by simp at e) (by omega) c8.out (Za _) (by omega) (c5.out.trans (a9.mono c5.out.size));have H1:=Qa h1;have H2:=Qa h2;have H3:=Qa h3;have H4:=Qa h4;have H5:=Qa h5;clear h1 h2 h3 h4 h5 hu a9;go_wp2_with (first
     |(refine bE b7.out ?_)
     |(refine bE H3.out ?_))
    have h4:=H4.out;have h5:=H5.out;exact Zg (cr Tryz.results108 _ _ _ _ _ _ _ _ _ _ _ _ _ _ _ _ _ (0,0) (0,0) rfl h4 rfl h5) rfl ⟨Dg,0,c,_,rfl,H1.out,H2.out,by omega,fv _,fv _,fun h=>absurd h Hc.out⟩
   subst hc;obtain⟨f0,f3,g3,d3⟩:=e0.out rfl;have g8:=Qa f0;have b6:=Qa (show(xs.drop k).length=xs.length - k by simp);have d3:n<=xs.length - k:=by rw[<-b6.out];exact d3
   have f3:s.size<=xs.length:=by have:=b6.out;omega
   have n4:IntKind.i64.wrap ((k:Int) - at_+n)= (k:Int) - at_+n:=IntWalk.i64_in _ (by omega);clear f0;go_wp2_with fail;generalize (w3.alloc (.cells #[.int .i64 0,.int .i64 fh,.int .i64 fl,.slice fA fq fr] 62))=w4 at *;obtain⟨H3,H4,H5,H1,H2,b4,b2⟩:=iK (w:=w4.drew) (S:=S4 fb) (D:= #[.int .i64 4,.int .i64 k,.int .u8 0,.string s,.bool false,.string es,.int .i64 0]) c1.out (fun _ e=>by simp at e) (by omega) c7.out (Za _) (by omega) (c5.out.drew) a7.out (fun _ _ r hg hr h=>h.keep hg (by omega));refine aO (fun w'=>w'.cell? ⟨fb,0,none⟩=some (.int .i64 0)/\w'.cell? ⟨fb,1,none⟩=some (.int .i64 0)/\w'.cell? ⟨fb,2,none⟩=some (.int .i64 0)/\w'.cell? ⟨fb,3,none⟩=some (.slice none 0 0)) (a7.out) fun a4=>?_
   refine tH 0 a4 ?_;refine tH 1 a4 ?_;refine tH 2 a4 ?_;refine tH 3 a4 ?_;refine tH 4 a4 ?_;refine tH 5 a4 ?_
   try simp only[Act.put,jP,jQ,jR]
   refine tH 6 a4 ?_;refine tH 7 a4 ?_;refine tH 8 a4 ?_
   try simp only[Act.put,jP,jQ,jR]
   refine rH 9 fun K hK=>?_
   refine bK c1.out ?_;refine hK.out _ _ (b4.out) (fun a4=>?_);clear hK K
   try simp only[Act.put,jP,jQ,jR]
   refine tH 10 a4 ?_
   try simp only[Act.put,jP,jQ,jR]
   refine rH 11 fun K hK=>?_
   refine bK H3.out ?_;refine hK.out _ _ (b2.out) (fun a4=>?_);clear hK K
   try simp only[Act.put,jP,jQ,jR]
   refine wpAnyH_done (by kernel_rfl) (NoPanic.normal ?_) _;go_wp2_with fail;have h4:=H4.out;have h5:=H5.out;exact Zg (cr Tryz.results108 _ _ _ _ _ _ _ _ _ _ _ _ _ _ _ _ _ (0,0) (0,0) rfl h4 rfl h5) rfl ⟨⟨4,k,0,s,⟨false,es,0⟩⟩,k - at_+n,0,_,by rw[show((k - at_+n:Nat):Int)= (k:Int) - at_+n from by omega];rfl,H1.out,H2.out,by omega,f3,fv _,fun _=>⟨fun _=>by omega,fun _=>g8.out,fun h=>absurd h (show ¬ (4:Int)=3 by decide)⟩⟩
  have e34':(X==34)=false:=by simpa using e34
  clear e34;have e2:=Qa (show fb<w2.heap.size from d1.out);go_upto_region 23 with fail
  go_cut [120] (fun s120 wx=>(∃b:Bool,s120 =.bool b)/\w2=wx)
  case first=>
   by_cases a1:X=45
   ·go_wp2_with fail;go_meet
    case rel=>exact⟨⟨_,rfl⟩,rfl⟩
   have a1':(X==45)=false:=by simpa using a1
   by_cases a2:48<=X <;> by_cases a3:X<=57 <;> go_wp2_with fail
   all_goals
    go_meet
    case rel=>exact⟨⟨_,rfl⟩,rfl⟩
  case rest=>
   obtain⟨⟨t,rfl⟩,rfl⟩:=hcut
   cases t
   ·go_wp2_with fail;refine(cv 110 k w2).mono ?_;rintro e wz ⟨u,rfl,hu,a9⟩;have b7:=Qa ((a9.block _ (ae b3.out)).trans b3.out);have c8:=Qa ((a9.block _ (ae b5.out)).trans b5.out);obtain⟨fh,fl,fA,fq,fr,rfl,h3,h4,h5,h1,h2⟩:=fw (D:= #[.int .i64 0,.int .i64 0,.int .u8 0,.string es,.bool false,.string es,.int .i64 0]) hu b7.out (fun _ e=>by simp at e) (by omega) c8.out (Za _) (by omega) (b1.out.trans (a9.mono b1.out.size));have H1:=Qa h1;have H2:=Qa h2;have H3:=Qa h3;have H4:=Qa h4;have H5:=Qa h5;clear h1 h2 h3 h4 h5 hu a9;go_wp2_with (first
     |(refine bE b7.out ?_)
     |(refine bE H3.out ?_))
    have h4:=H4.out;have h5:=H5.out;exact Zg (cr Tryz.results108 _ _ _ _ _ _ _ _ _ _ _ _ _ _ _ _ _ (0,0) (0,0) rfl h4 rfl h5) rfl ⟨Dg,0,110,_,rfl,H1.out,H2.out,by omega,fv _,fv _,fun h=>absurd h (show ¬ (110:Int)=0 by decide)⟩
   ·go_wp2_with fail;rw[<-d6.out] at c0 ⊢;refine(xG c0.out (by have:=d6.out;omega)).mono ?_;rintro e w3 ⟨d,n,c,u,rfl,⟨fh,fl,fs,rfl,c6⟩,b9,d5,d0⟩;have g7:=Qa d5;have e5:=Qa b9.size;clear d5;obtain⟨fA,fq,fr,rfl,-⟩:=c6.slice;rw[show dy c fh fl (.slice fA fq fr) =.agg #[.int .i64 c,.int .i64 fh,.int .i64 fl,.slice fA fq fr] from rfl];obtain⟨dn,dd,dx⟩:=d;rw[show Gc ⟨dn,dd,dx⟩ =.agg #[.bool dn,.string dd,.int .i64 dx] from rfl];have b8:Below w3.heap.size w3 ((w3.alloc (.cells #[.bool dn,.string dd,.int .i64 dx] 66)).alloc (.cells #[.int .i64 c,.int .i64 fh,.int .i64 fl,.slice fA fq fr] 62)):=(ac w3 _).alloc (by simp) _;have b0:=ap (w3.alloc (.cells #[.bool dn,.string dd,.int .i64 dx] 66)) [.int .i64 c,.int .i64 fh,.int .i64 fl,.slice fA fq fr] 62;have hcd:=ap w3 [.bool dn,.string dd,.int .i64 dx] 66;have d7:=ac (w3.alloc (.cells #[.bool dn,.string dd,.int .i64 dx] 66)) (.cells #[.int .i64 c,.int .i64 fh,.int .i64 fl,.slice fA fq fr] 62);rw[World.size_alloc] at b0;have q0:=b0 0 _ rfl;have q1:=b0 1 _ rfl;have q2:=b0 2 _ rfl;have q3:=b0 3 _ rfl;have p0:=Zf d7 (hcd 0 _ rfl);have p1:=Zf d7 (hcd 1 _ rfl);have p2:=Zf d7 (hcd 2 _ rfl);clear b0 hcd d7;have a5:=b9.trans (b8.mono b9.size);have Hs:=Qa (c6.below b8);have c5:=Qa (b1.out.trans (a5.mono b1.out.size));have c1:=Qa ((a5.block _ (ae b3.out)).trans b3.out);have c7:=Qa ((a5.block _ (ae b5.out)).trans b5.out);have a7:=Qa (And.intro (Zf a5 a0.out.1) (And.intro (Zf a5 a0.out.2.1) (And.intro (Zf a5 a0.out.2.2.1) (Zf a5 a0.out.2.2.2))));have e0:=Qa d0;have d2:=Qa (Nat.lt_of_lt_of_le (ae b5.out) b9.size);clear b8 b9 a5 c6 d0
    by_cases hc:c=0
    case neg=>
     have h8:(c !=0)=true:=by simpa using hc
     have Hc:=Qa hc;clear hc;go_wp2_with fail;generalize ((w3.alloc (.cells #[.bool dn,.string dd,.int .i64 dx] 66)).alloc (.cells #[.int .i64 c,.int .i64 fh,.int .i64 fl,.slice fA fq fr] 62))=w4 at *;refine(mL c fh fl (.slice fA fq fr) k w4 Hs.out).mono ?_;rintro e wz ⟨u,rfl,hu,a9⟩;have b7:=Qa ((a9.block _ (ae c1.out)).trans c1.out);have c8:=Qa ((a9.block _ (ae c7.out)).trans c7.out);obtain⟨fh,fl,fA,fq,fr,rfl,h3,h4,h5,h1,h2⟩:=fw (D:= #[.int .i64 0,.int .i64 0,.int .u8 0,.string es,.bool false,.string es,.int .i64 0]) hu b7.out (fun _ e=>by simp at e) (by omega) c8.out (Za _) (by omega) (c5.out.trans (a9.mono c5.out.size));have H1:=Qa h1;have H2:=Qa h2;have H3:=Qa h3;have H4:=Qa h4;have H5:=Qa h5;clear h1 h2 h3 h4 h5 hu a9;go_wp2_with (first
      |(refine bE b7.out ?_)
      |(refine bE H3.out ?_))
     have h4:=H4.out;have h5:=H5.out;exact Zg (cr Tryz.results108 _ _ _ _ _ _ _ _ _ _ _ _ _ _ _ _ _ (0,0) (0,0) rfl h4 rfl h5) rfl ⟨Dg,0,c,_,rfl,H1.out,H2.out,by omega,fv _,fv _,fun h=>absurd h Hc.out⟩
    subst hc;obtain⟨g3,d3,e1⟩:=e0.out rfl;have b6:=Qa (show(xs.drop k).length=xs.length - k by simp);have d3:n<=xs.length - k:=by rw[<-b6.out];exact d3
    have d5:dd.size<=xs.length+1:=by have h1:dd.size<=(xs.drop k).length+1:=g7.out;have:=b6.out;omega
    have n4:IntKind.i64.wrap ((k:Int) - at_+n)= (k:Int) - at_+n:=IntWalk.i64_in _ (by omega);have g2:=d2.out;have h9:fb<w2.heap.size:=e2.out;have g5:w2.heap.size<=w3.heap.size:=e5.out;go_wp2_with fail;generalize ((w3.alloc (.cells #[.bool dn,.string dd,.int .i64 dx] 66)).alloc (.cells #[.int .i64 0,.int .i64 fh,.int .i64 fl,.slice fA fq fr] 62))=w4 at *;generalize w3.heap.size=db at *;have a6:=Qa (And.intro p0 (And.intro p1 (And.intro p2 a7.out)));clear p0 p1 p2 q0 q1 q2 q3;obtain⟨H3,H4,H5,H1,H2,b4,b2⟩:=iK (w:=w4.drew) (S:=fun u=>(u.cell? ⟨db,0,none⟩=some (.bool dn)/\u.cell? ⟨db,1,none⟩=some (.string dd)/\u.cell? ⟨db,2,none⟩=some (.int .i64 dx))/\S4 fb u) (D:= #[.int .i64 3,.int .i64 k,.int .u8 0,.string es,.bool dn,.string dd,.int .i64 dx]) c1.out (fun _ e=>by simp at e) (by omega) c7.out (Za _) (by omega) (c5.out.drew) ⟨⟨a6.out.1,a6.out.2.1,a6.out.2.2.1⟩,a6.out.2.2.2⟩ (fun _ _ r hg hr h=>⟨⟨ej h.1.1 hg (by omega),ej h.1.2.1 hg (by omega),ej h.1.2.2 hg (by omega)⟩,h.2.keep hg (by omega)⟩);have b4:=Qa (And.intro b4.out.1.1 (And.intro b4.out.1.2.1 (And.intro b4.out.1.2.2 b4.out.2)));have b2:=Qa (And.intro b2.out.1.1 (And.intro b2.out.1.2.1 (And.intro b2.out.1.2.2 b2.out.2)));refine aO (fun w'=>w'.cell? ⟨db,0,none⟩=some (.bool dn)/\w'.cell? ⟨db,1,none⟩=some (.string dd)/\w'.cell? ⟨db,2,none⟩=some (.int .i64 dx)/\w'.cell? ⟨fb,0,none⟩=some (.int .i64 0)/\w'.cell? ⟨fb,1,none⟩=some (.int .i64 0)/\w'.cell? ⟨fb,2,none⟩=some (.int .i64 0)/\w'.cell? ⟨fb,3,none⟩=some (.slice none 0 0)) (a6.out) fun a4=>?_
    refine tH 0 a4 ?_;refine tH 1 a4 ?_;refine tH 2 a4 ?_;refine tH 3 a4 ?_;refine tH 4 a4 ?_;refine tH 5 a4 ?_
    try simp only[Act.put,jP,jQ,jR]
    refine tH 6 a4 ?_;refine tH 7 a4 ?_;refine tH 8 a4 ?_
    try simp only[Act.put,jP,jQ,jR]
    refine rH 9 fun K hK=>?_
    refine bK c1.out ?_;refine hK.out _ _ (b4.out) (fun a4=>?_);clear hK K
    try simp only[Act.put,jP,jQ,jR]
    refine tH 10 a4 ?_
    try simp only[Act.put,jP,jQ,jR]
    refine rH 11 fun K hK=>?_
    refine bK H3.out ?_;refine hK.out _ _ (b2.out) (fun a4=>?_);clear hK K
    try simp only[Act.put,jP,jQ,jR]
    refine wpAnyH_done (by kernel_rfl) (NoPanic.normal ?_) _;go_wp2_with fail;have h4:=H4.out;have h5:=H5.out;exact Zg (cr Tryz.results108 _ _ _ _ _ _ _ _ _ _ _ _ _ _ _ _ _ (0,0) (0,0) rfl h4 rfl h5) rfl ⟨⟨3,k,0,es,⟨dn,dd,dx⟩⟩,k - at_+n,0,_,by rw[show((k - at_+n:Nat):Int)= (k:Int) - at_+n from by omega];rfl,H1.out,H2.out,by omega,fv _,d5,fun _=>⟨fun _=>by omega,fun h=>absurd h (show ¬ (3:Int)=4 by decide),fun _=>e1⟩⟩
theorem aa {z:Nat×Nat}(h:w.heap[g]?=some (.cells cs t z)){j:Nat}(hu:cs[j]?=some u):w.cell? ⟨g,j,none⟩=some u:=by
 unfold World.cell?;simp only[h];simpa using hu
theorem aj (h:w.heap[g]?=some (.cells cs t (0,0)))(j:Nat):w.frozen? ⟨g,j,none⟩=false:=by
 unfold World.frozen?;simp[h]
theorem au {z:Nat×Nat}(h:w.heap[g]?=some (.cells cs t z))(j:Nat)(u:Value):(w.setCell ⟨g,j,none⟩ u).heap[g]?=some (.cells (cs.setIfInBounds j u) t z):=by
 have hlt:=ae h;have h':w.heap[g] =.cells cs t z:=by simpa [Array.getElem?_eq_getElem hlt] using h
 show(w.heap.modify g _)[g]?=_
 rw[Array.getElem?_eq_getElem (by simpa using hlt),Array.getElem_modify_self,h'];rfl
theorem ar (w:World)(i j k:Nat)(v:Value)(t:TypeId)(cs:Array Value)(hne:i≠j)(h:w.heap[i]?=some (.cells cs t (0,0))):(w.setCell ⟨j,k,none⟩ v).heap[i]?=some (.cells cs t (0,0)):=(Below.heap_setCell w _ v i hne).trans h
theorem ai {x:Obj}(h:w.heap[g]?=some x)(hb:Below w.heap.size w w'):w'.heap[g]?=some x:=(hb.block _ (ae h)).trans h
theorem az {x:Obj}{o:Option Nat}(h:w.heap[g]?=some x)(hg:w.grownBy w' o)(ho:o≠some g):w'.heap[g]?=some x:=(hg.block g (ae h) (fun e=>ho e.symm)).trans h
structure a8 (F:Nat->Prop) (w w':World):Prop where
 os:w'.os=w.os
 tape:w'.tape=w.tape
 output:w'.output=w.output
 size:w.heap.size<=w'.heap.size
 block:∀k,k<w.heap.size->¬F k->w'.heap[k]?=w.heap[k]?
theorem a8.of_below (h:Below w.heap.size w w'):a8 F w w':=⟨h.os,h.tape,h.output,h.size,fun k hk _=>h.block k hk⟩
theorem a8.refl (F:Nat->Prop)(w:World):a8 F w w:=a8.of_below (Zd _ _)
theorem a8.trans {a b c:World}(h:a8 F a b)(k:a8 G b c)(hg:∀i,G i->F i\/a.heap.size<=i):a8 F a c:=
 ⟨k.os.trans h.os,k.tape.trans h.tape,k.output.trans h.output,Zb h.size k.size,fun i hi hf=>(k.block i (Nat.lt_of_lt_of_le hi h.size) (fun hG=>by rcases hg i hG with h1|h1;exact hf h1;omega)).trans (h.block i hi hf)⟩
theorem a8.mono {a b:World}(h:a8 F a b)(hg:∀i,F i->G i):a8 G a b:=⟨h.os,h.tape,h.output,h.size,fun i hi hn=>h.block i hi (fun hf=>hn (hg i hf))⟩
theorem a8.below (h:a8 F w w')(hB:B<=w.heap.size)(hf:∀i,F i->B<=i):Below B w w':=⟨h.os,h.tape,h.output,h.size,fun k hk=>h.block k (Nat.lt_of_lt_of_le hk hB) (fun hF=>by have:=hf k hF;omega)⟩
theorem a8.set (g j:Nat)(u:Value):a8 (fun k=>k=g) w (w.setCell ⟨g,j,none⟩ u):=⟨rfl,rfl,rfl,by simp,fun k _ hk=>Below.heap_setCell w _ u k hk⟩
theorem a8.grown {o:Option Nat}(h:w.grownBy w' o):a8 (fun k=>o=some k) w w':=⟨h.os,h.tape,h.output,h.size,fun k hk hn=>h.block k hk (fun e=>hn e.symm)⟩
theorem bz (h:w.ownsRow base e k v n us)(hs:∀b,v.ownBlock=some b->w'.heap[b]?=w.heap[b]?):w'.ownsRow base e k v n us:=by
 obtain⟨h1,⟨rfl,h0⟩|⟨g,cap,cur,rfl,a0,hg,r⟩⟩:=h
 ·exact⟨h1,.inl ⟨rfl,h0⟩⟩
 ·exact⟨h1,.inr ⟨g,cap,cur,rfl,a0,(hs g rfl).trans hg,r⟩⟩
