import Derived.Test.YtohibglohlfjfaaGreatDoorGZ6ak
set_option linter.unusedVariables false
set_option linter.unusedSimpArgs false
set_option maxHeartbeats 64000000
set_option maxRecDepth 100000
namespace Go.Proofs.YtohibglohlfjfaaGreatDoor
open Go.RowKit
variable {j:JV}{xs:List UInt8}{us us':List Value}{B at_ g rb:Nat}{v:Value}{W W' w w' w0:World}
def jT (xs:List UInt8)(rb:Nat)(w:World)(at_ k:Nat)(e:Ending)(w':World):Prop:=(∃v,e =.returned v)/\∃c:Int,c≠0/\Rd xs rb w' at_ k c/\Rk rb w w'
theorem fd {k:Nat}{c:Int}(h:Rd xs rb w at_ k c)(t:Tk):Calls Tryz.prog 85 #[.pointer (some ⟨rb,0,none⟩),kk t] w (jT xs rb w at_ k):=by
 obtain⟨tk,ta,tm,ts,⟨dn,dd,dx⟩⟩:=t;unfold kk;have hlt:=h.lt;have a4:=ac w (.cells #[.int .i64 tk,.int .i64 ta,.int .u8 tm,.string ts,.bool dn,.string dd,.int .i64 dx] 181);have HR:=Qa (h.below a4);have a9:=Qa (Rk.of_below a4 (Zj hlt));clear h a4;go_enter Tryz.func85,Tryz.ntmps85
 by_cases h5:tk=5
 ·subst h5;go_wp2_with fail;generalize (w.alloc (.cells #[.int .i64 5,.int .i64 ta,.int .u8 tm,.string ts,.bool dn,.string dd,.int .i64 dx] 181))=w1 at *;refine(cD 103 ta w1).mono ?_;rintro e w2 ⟨u,rfl,⟨fh,fl,fs,rfl,a3⟩,hb⟩;obtain⟨fA,fq,fr,rfl,-⟩:=a3.slice;have a5:=Qa (HR.out.below hb);have a0:=Qa (a9.out.trans (Rk.of_below hb (Zj HR.out.lt)));clear a3 hb;go_wp2_with fail;refine(en a5.out 103 fh fl fA fq fr).mono ?_;rintro e w3 ⟨⟨b,rfl⟩,a1,a2,-⟩;have a7:=Qa a1;have a6:=Qa a2;clear a1 a2;go_wp2_with fail;go_end0;exact⟨⟨_,rfl⟩,_,(by by_cases h:c=0 <;> simp[h]),a7.out,a0.out.trans a6.out⟩
 ·have b0:(tk==5)=false:=by simpa using h5
  clear h5;go_wp2_with fail;generalize (w.alloc (.cells #[.int .i64 tk,.int .i64 ta,.int .u8 tm,.string ts,.bool dn,.string dd,.int .i64 dx] 181))=w1 at *;refine(cD 111 ta w1).mono ?_;rintro e w2 ⟨u,rfl,⟨fh,fl,fs,rfl,a3⟩,hb⟩;obtain⟨fA,fq,fr,rfl,-⟩:=a3.slice;have a5:=Qa (HR.out.below hb);have a0:=Qa (a9.out.trans (Rk.of_below hb (Zj HR.out.lt)));clear a3 hb;go_wp2_with fail;refine(en a5.out 111 fh fl fA fq fr).mono ?_;rintro e w3 ⟨⟨b,rfl⟩,a1,a2,-⟩;have a7:=Qa a1;have a6:=Qa a2;clear a1 a2;go_wp2_with fail;go_end0;exact⟨⟨_,rfl⟩,_,(by by_cases h:c=0 <;> simp[h]),a7.out,a0.out.trans a6.out⟩
def ie (t:Tk)(X:Int)(w:World)(e:Ending)(w':World):Prop:= ∃b:Bool,e =.returned (.bool b)/\(b=true->t.kind=1)/\Below w.heap.size w w'
theorem fc (t:Tk)(X:Int)(w:World):Calls Tryz.prog 113 #[kk t,.int .u8 X] w (ie t X w):=by
 obtain⟨tk,ta,tm,ts,⟨dn,dd,dx⟩⟩:=t;unfold kk;go_enter Tryz.func113,Tryz.ntmps113
 by_cases h1:tk=1
 ·subst h1;go_wp2;go_ret;exact⟨_,rfl,fun _=>rfl,ac _ _⟩
 ·have a0:(tk==1)=false:=by simpa using h1
  have H1:=Qa h1;clear h1;go_wp2;go_ret;exact⟨_,rfl,(fun h=>absurd h (by decide)),ac _ _⟩
def BR (xs:List UInt8)(rb:Nat)(w:World)(at_ k:Nat)(e:Ending)(w':World):Prop:=(∃v,e =.returned v)/\∃c:Int,Rd xs rb w' at_ k c/\Rk rb w w'
theorem ti {k:Nat}{c:Int}(h:Rd xs rb w at_ k c)(d:Int):Calls Tryz.prog 114 #[.pointer (some ⟨rb,0,none⟩),.int .i64 d] w (BR xs rb w at_ k):=by
 have HR:=Qa h;obtain⟨a1,a2,a3,a4,a5,a6,a7,L,m,hh,l,us,w0,h1,h2,h3,h4,h5,h6,h7⟩:=h;have c2:=aa h1 (j:=2) (u:=.int .i64 (L 0)) rfl;have c3:=aa h1 (j:=3) (u:=.int .i64 (L 1)) rfl;have c4:=aa h1 (j:=4) (u:=.int .i64 (L 2)) rfl;have c5:=aa h1 (j:=5) (u:=.int .i64 (L 3)) rfl;have c6:=aa h1 (j:=6) (u:=.int .i64 (L 4)) rfl;have c7:=aa h1 (j:=7) (u:=.int .i64 (L 5)) rfl;clear h1 h2 h3 h4 h5 h6 h7;go_enter Tryz.func114,Tryz.ntmps114;go_wp2_with fail;refine(fY (L 0) (L 1) (L 2) (L 3) (L 4) (L 5) 2 d w).mono ?_;rintro e w1 ⟨c1,u,rfl,⟨fh,fl,fs,rfl,b1⟩,hb⟩;obtain⟨fA,fq,fr,rfl,-⟩:=b1.slice;have c0:=Qa (HR.out.below hb);have b9:=Qa (Rk.of_below hb (Zj HR.out.lt));clear b1 hb c2 c3 c4 c5 c6 c7;go_wp2_with fail;refine(en c0.out c1 fh fl fA fq fr).mono ?_;rintro e w2 ⟨⟨b,rfl⟩,d2,b8,-⟩;have b6:=Qa (b9.out.trans b8);clear HR c0 b9 b8;obtain⟨a1,a2,a3,a4,a5,a6,a7,L,m,hh,l,us,w0,h1,h2,h3,h4,h5,h6,h7⟩:=d2;have c10:=aa h1 (j:=10) (u:=.int .i64 (m 2)) rfl;have f10:=ak h1 10;have hs:=au h1 10 (.int .i64 (wrap64 (m 2+1)));have c8:Rd xs rb (w2.setCell ⟨rb,10,none⟩ (.int .i64 (wrap64 (m 2+1)))) at_ k (if c=0 then c1 else c):=
  ⟨a1,a2,a3,a4,a5,a6,a7,L,fun i=>if i=2 then wrap64 (m 2+1) else m i,hh,l,us,w0,hs,h2,h3,h4.trans (Rk.set h1 10 _).1,jf h5,h6,h7⟩
 have b0:=Qa c8;have b2:=Qa (b6.out.trans (Rk.set h1 10 (.int .i64 (wrap64 (m 2+1)))));have cs2:∀j u,j≠10->w2.cell? ⟨rb,j,none⟩=some u->(w2.setCell ⟨rb,10,none⟩ (.int .i64 (wrap64 (m 2+1)))).cell? ⟨rb,j,none⟩=some u:=fun j u hj hu=>by
  unfold World.cell? at hu ⊢;simp only[h1] at hu;simp only[hs];simpa [Array.getElem?_setIfInBounds,Ne.symm hj] using hu
 have HC:=Qa (And.intro (cs2 2 _ (by decide) (aa h1 (j:=2) (u:=.int .i64 (L 0)) rfl)) (And.intro (cs2 3 _ (by decide) (aa h1 (j:=3) (u:=.int .i64 (L 1)) rfl)) (And.intro (cs2 4 _ (by decide) (aa h1 (j:=4) (u:=.int .i64 (L 2)) rfl)) (And.intro (cs2 5 _ (by decide) (aa h1 (j:=5) (u:=.int .i64 (L 3)) rfl)) (And.intro (cs2 6 _ (by decide) (aa h1 (j:=6) (u:=.int .i64 (L 4)) rfl)) (And.intro (cs2 7 _ (by decide) (aa h1 (j:=7) (u:=.int .i64 (L 5)) rfl)) (aa hs (j:=10) (u:=.int .i64 (wrap64 (m 2+1))) rfl)))))));clear b6 c8 h1 h2 h3 h4 h5 h6 h7 hs cs2;go_wp2_with fail;generalize wrap64 (m 2+1)=N at *;generalize (w2.setCell ⟨rb,10,none⟩ (.int .i64 N))=w3 at *;have HC:=Qa (show(fun w':World=>w'.cell? ⟨rb,2,none⟩=some (.int .i64 (L 0))/\w'.cell? ⟨rb,3,none⟩=some (.int .i64 (L 1))/\w'.cell? ⟨rb,4,none⟩=some (.int .i64 (L 2))/\w'.cell? ⟨rb,5,none⟩=some (.int .i64 (L 3))/\w'.cell? ⟨rb,6,none⟩=some (.int .i64 (L 4))/\w'.cell? ⟨rb,7,none⟩=some (.int .i64 (L 5))/\w'.cell? ⟨rb,10,none⟩=some (.int .i64 N)) w3.drew from HC.out);have b0:=Qa (b0.out.below (Ze w3.heap.size w3).drew);have b2:=Qa (b2.out.trans (Rk.of_below (Ze w3.heap.size w3).drew (Zj b0.out.lt)));generalize hwq:w3.drew=wq at HC b0 b2;refine aA (fun w'=>w'.cell? ⟨rb,2,none⟩=some (.int .i64 (L 0))/\w'.cell? ⟨rb,3,none⟩=some (.int .i64 (L 1))/\w'.cell? ⟨rb,4,none⟩=some (.int .i64 (L 2))/\w'.cell? ⟨rb,5,none⟩=some (.int .i64 (L 3))/\w'.cell? ⟨rb,6,none⟩=some (.int .i64 (L 4))/\w'.cell? ⟨rb,7,none⟩=some (.int .i64 (L 5))/\w'.cell? ⟨rb,10,none⟩=some (.int .i64 N)) ((by rw[hwq];exact HC.out)) fun a0=>?_
 rw[hwq] at a0 ⊢;clear hwq HC;refine tH 0 a0 ?_;refine tH 1 a0 ?_;refine tH 2 a0 ?_;refine tH 3 a0 ?_;refine tH 4 a0 ?_;refine tH 5 a0 ?_
 try simp only[Act.put,jP,jQ,jR]
 refine tH 6 a0 ?_;refine tH 7 a0 ?_;refine tH 8 a0 ?_;refine tH 9 a0 ?_
 try simp only[Act.put,jP,jQ,jR]
 rotate_left
 all_goals
  refine rH 10 fun K hK=>?_
  go_simp;refine(fY (L 0) (L 1) (L 2) (L 3) (L 4) (L 5) 3 N wq).mono ?_;rintro e w4 ⟨c4,u,rfl,⟨fh,fl,fs,rfl,b1⟩,hb⟩;obtain⟨fA,fq,fr,rfl,-⟩:=b1.slice;have d0:=Qa (b0.out.below hb);have d3:=Qa (b2.out.trans (Rk.of_below hb (Zj b0.out.lt)));clear b1;go_wp2_with fail;refine hK.out _ _ (⟨Zg hb a0.1,Zg hb a0.2.1,Zg hb a0.2.2.1,Zg hb a0.2.2.2.1,Zg hb a0.2.2.2.2.1,Zg hb a0.2.2.2.2.2.1,Zg hb a0.2.2.2.2.2.2⟩) (fun a0=>?_);clear hK K
  try simp only[Act.put,jP,jQ,jR]
  refine rH 11 fun K hK=>?_
  go_simp;refine(en d0.out c4 fh fl fA fq fr).mono ?_;rintro e w5 ⟨⟨b,rfl⟩,b4,b5,b3⟩;have d1:=Qa b4;have d4:=Qa (d3.out.trans b5);clear b4 b5;have a9:=Qa b3;clear b3;go_wp2_with fail;refine hK.out _ _ (⟨(a9.out 2 (by decide)).trans a0.1,(a9.out 3 (by decide)).trans a0.2.1,(a9.out 4 (by decide)).trans a0.2.2.1,(a9.out 5 (by decide)).trans a0.2.2.2.1,(a9.out 6 (by decide)).trans a0.2.2.2.2.1,(a9.out 7 (by decide)).trans a0.2.2.2.2.2.1,(a9.out 10 (by decide)).trans a0.2.2.2.2.2.2⟩) (fun a0=>?_);clear hK K
  try simp only[Act.put,jP,jQ,jR]
  refine wpAnyH_done (by kernel_rfl) (NoPanic.normal ?_) _;clear a0 c10 f10;obtain⟨a1,a2,a3,a4,a5,a6,a7,L,m,hh,l,us,w0,h1,h2,h3,h4,h5,h6,h7⟩:=d1.out;have c9:=aa h1 (j:=9) (u:=.int .i64 (m 1)) rfl;have f9:=ak h1 9;have b7:∀X:Int,BR xs rb w at_ k (.returned (.tuple #[])) (w5.setCell ⟨rb,9,none⟩ (.int .i64 X)):=fun X=>
   ⟨⟨_,rfl⟩,_,⟨a1,a2,a3,a4,a5,a6,a7,L,fun i=>if i=1 then X else m i,hh,l,us,w0,au h1 9 (.int .i64 X),h2,h3,h4.trans (Rk.set h1 9 _).1,jf h5,h6,h7⟩,d4.out.trans (Rk.set h1 9 _)⟩
  have H6:=Qa b7;clear b7 h1 h2 h3 h4 h5 h6 h7;go_wp2_with fail
  all_goals
   go_end0;exact H6.out _
def Lf (t:Tk)(j:JV):Prop:=j =.mk 1 false es j8 [] []\/(∃b,j =.mk 2 b es j8 [] [])\/(t.kind=3/\j =.mk 3 false es t.num [] [])\/(t.kind=4/\j =.mk 4 false t.str j8 [] [])
def Dw (xs:List UInt8)(rb:Nat)(w:World)(at_ k:Nat)(t:Tk)(e:Ending)(w':World):Prop:= ∃ (v:Value) (j:JV) (c:Int),e =.returned v/\Lf t j/\bj (w.heap.size<= ·) w' rb v (j.flat 0)/\Rd xs rb w' at_ k c/\Rk rb w w'
theorem Cp {k:Nat}{c:Int}(h:Rd xs rb w at_ k c)(t:Tk):Calls Tryz.prog 117 #[.pointer (some ⟨rb,0,none⟩),kk t] w (Dw xs rb w at_ k t):=by
 obtain⟨tk,ta,tm,ts,⟨dn,dd,dx⟩⟩:=t;unfold kk;have hlt:=h.lt;have b1:=ac w (.cells #[.int .i64 tk,.int .i64 ta,.int .u8 tm,.string ts,.bool dn,.string dd,.int .i64 dx] 181);have b7:=Zf w (.cells #[.int .i64 tk,.int .i64 ta,.int .u8 tm,.string ts,.bool dn,.string dd,.int .i64 dx] 181);have HR:=Qa (h.below b1);have c0:=Qa b7;have b4:=Qa (Rk.of_below b1 (Zj hlt));clear h b1 b7;go_enter Tryz.func117,Tryz.ntmps117
 by_cases h3:tk=3
 ·subst h3;obtain⟨a1,a2,a3,a4,a5,a6,a7,L,m,hh,l,us,w0,h1,h2,h3,h4,h5,h6,h7⟩:=HR.out;have c2:=aa h1 (j:=2) (u:=.int .i64 (L 0)) rfl;have c3:=aa h1 (j:=3) (u:=.int .i64 (L 1)) rfl;have c4:=aa h1 (j:=4) (u:=.int .i64 (L 2)) rfl;have c5:=aa h1 (j:=5) (u:=.int .i64 (L 3)) rfl;have c6:=aa h1 (j:=6) (u:=.int .i64 (L 4)) rfl;have c7:=aa h1 (j:=7) (u:=.int .i64 (L 5)) rfl;clear h1 h2 h3 h4 h5 h6 h7;go_wp2_with fail
  all_goals
   refine(fY (L 0) (L 1) (L 2) (L 3) (L 4) (L 5) 5 _ _).mono ?_;rintro e w1 ⟨c1,u,rfl,⟨fh,fl,fs,rfl,b9⟩,hb⟩;obtain⟨fA,fq,fr,rfl,-⟩:=b9.slice;have d6:=Qa (HR.out.below hb);have d5:=Qa (b4.out.trans (Rk.of_below hb (Zj HR.out.lt)));have d2:=Qa ((hb.block _ (ae c0.out)).trans c0.out);clear b9 hb c2 c3 c4 c5 c6 c7;go_wp2_with fail;refine(en d6.out c1 fh fl fA fq fr).mono ?_;rintro e w2 ⟨⟨b,rfl⟩,d3,b3,-⟩;have a0:=b3.row d2.out cI;have b8:=Qa (d5.out.trans b3);obtain⟨a1,a2,a3,a4,a5,a6,a7,L,m,hh,l,us,w0,h1,h2,h3,h4,h5,h6,h7⟩:=d3;have c11:=aa h1 (j:=11) (u:=.int .i64 (m 3)) rfl;have f11:=ak h1 11;have hne:¬w.heap.size=rb:=by omega
   have t4:=aa a0 (j:=4) (u:=.bool dn) rfl;have t5:=aa a0 (j:=5) (u:=.string dd) rfl;have t6:=aa a0 (j:=6) (u:=.int .i64 dx) rfl;have c8:∀X:Int,Rd xs rb (w2.setCell ⟨rb,11,none⟩ (.int .i64 X)) at_ k (if c=0 then c1 else c):=fun X=>
    ⟨a1,a2,a3,a4,a5,a6,a7,L,fun i=>if i=3 then X else m i,hh,l,us,w0,au h1 11 (.int .i64 X),h2,h3,h4.trans (Rk.set h1 11 _).1,jf h5,h6,h7⟩
   have b5:=Qa c8;have c9:=Qa (fun X:Int=>Rk.set h1 11 (.int .i64 X));clear c8 h1 h2 h3 h4 h5 h6 h7 b3 a0;go_wp2_with fail
   all_goals
    refine(oQ ⟨dn,dd,dx⟩ _).mono ?_;rintro e w4 ⟨v,rfl,b2,b6⟩;have d1:=Qa ((b5.out _).below b2);have d4:=Qa ((b8.out.trans (c9.out _)).trans (Rk.of_below b2 (Zj (b5.out _).lt)));have d0:=Qa ((b6.low (Zj (b5.out _).lt)).imp (Q:=(w.heap.size<= ·)) (fun g h _=>Zc (b8.out.trans (c9.out _)).2.1 h));clear b2 b6;go_wp2_with fail;go_ret;exact⟨v,.mk 3 false es ⟨dn,dd,dx⟩ [] [],_,rfl,.inr (.inr (.inl ⟨rfl,rfl⟩)),d0.out,d1.out,d4.out⟩
 have b0:∀ (j:JV) (e:Ending) (x:Nd) (w':World),js (w.alloc (.cells #[.int .i64 tk,.int .i64 ta,.int .u8 tm,.string ts,.bool dn,.string dd,.int .i64 dx] 181)) x e w'->j.flat 0 = [x]->Lf ⟨tk,ta,tm,ts,⟨dn,dd,dx⟩⟩ j->Dw xs rb w at_ k ⟨tk,ta,tm,ts,⟨dn,dd,dx⟩⟩ e w':=by
  rintro j e x w' ⟨v,rfl,hb,hf⟩ hj hl;exact⟨v,j,c,rfl,hl,by rw[hj];exact(hf.low (Zj HR.out.lt)).imp (fun g h _=>Zc b4.out.2.1 h),HR.out.below hb,b4.out.trans (Rk.of_below hb (Zj HR.out.lt))⟩
 have a9:=Qa b0;clear b0
 by_cases h4:tk=4
 ·subst h4;go_wp2_with fail;refine(t8 ts _).mono ?_;rintro e w' ⟨v,rfl,hb,hf⟩;have hp:=a9.out (.mk 4 false ts j8 [] []) _ _ w' ⟨v,rfl,hb,hf⟩ rfl (.inr (.inr (.inr ⟨rfl,rfl⟩)));have Hp:=Qa hp;clear hp hb hf;go_wp2_with fail;go_ret;exact Hp.out
 have e0:(tk==3)=false:=by simpa using h3
 have d9:(tk==4)=false:=by simpa using h4
 clear h3 h4;go_wp2_with fail
 ·refine(sJ _).mono ?_;rintro e w' ⟨v,rfl,hb,hf⟩;have hp:=a9.out (.mk 1 false es j8 [] []) _ _ w' ⟨v,rfl,hb,hf⟩ rfl (.inl rfl);have Hp:=Qa hp;clear hp hb hf;go_wp2_with fail;go_ret;exact Hp.out
 ·refine(ui _ _).mono ?_;rintro e w' ⟨v,rfl,hb,hf⟩;have hp:=a9.out (.mk 2 _ es j8 [] []) _ _ w' ⟨v,rfl,hb,hf⟩ rfl (.inr (.inl ⟨_,rfl⟩));have Hp:=Qa hp;clear hp hb hf;go_wp2_with fail;go_ret;exact Hp.out
theorem jp:dq 146 239 (.agg #[.int .i64 0,.int .i64 0,.int .i64 0,.string ByteArray.empty,.slice none 0 0]) 5 64:=⟨Tryz.underlying146,by kernel_rfl,rfl,by decide⟩
inductive cF (asc:List ByteArray->Prop):JV->Prop
 |null:cF asc (.mk 1 false es j8 [] [])
 |bool (b:Bool):cF asc (.mk 2 b es j8 [] [])
 |num (d:Dc):d.digits.size<=6000+1->up d->cF asc (.mk 3 false es d [] [])
 |text (s:ByteArray):iH s->cF asc (.mk 4 false s j8 [] [])
 |list (ks:List JV):(∀u∈ks,cF asc u)->cF asc (.mk 5 false es j8 [] ks)
 |obj (ns:List ByteArray) (ks:List JV):ns.length=ks.length->(∀s∈ns,iH s)->asc ns->(∀u∈ks,cF asc u)->cF asc (.mk 6 false es j8 ns ks)
theorem cF.of_leaf {asc:List ByteArray->Prop}{t:Tk}(h:Lf t j)(ht:jw t):cF asc j:=by
 rcases h with rfl|⟨b,rfl⟩|⟨hk,rfl⟩|⟨hk,rfl⟩
 ·exact .null
 ·exact .bool b
 ·exact .num _ ht.2.1 (ht.2.2 hk)
 ·exact .text _ (ht.1 hk)
theorem Lf.size {t:Tk}(h:Lf t j):j.size=1:=by
 rcases h with rfl|⟨b,rfl⟩|⟨_,rfl⟩|⟨hk,rfl⟩ <;> simp[JV.size,JV.sizes]
theorem gU:¬TR 9:=by unfold TR;decide
theorem kq:¬TR 3:=by unfold TR;decide
theorem kM:¬TR 70:=by unfold TR;decide
def jv (asc:List ByteArray->Prop)(xs:List UInt8)(rb:Nat)(w:World)(at_:Nat)(p:Prop)(e:Ending)(w':World):Prop:= ∃ (A:Option Addr) (n q at' k':Nat) (c:Int),e =.returned (.slice A n q)/\Rd xs rb w' at' k' c/\Rk rb w w'/\at_<=at'/\
 (c=0->p/\∃j:JV,cF asc j/\bj (w.heap.size<= ·) w' rb (.slice A n q) (j.flat 0)/\j.size+at_<=at'+1)
theorem sT {asc:List ByteArray->Prop}{p:JV->Prop}(h:∃j:JV,cF asc j/\bj (w.heap.size<= ·) w' rb v (j.flat 0)/\p j)(hB:B<=w.heap.size):∃j:JV,cF asc j/\bj (B<= ·) w' rb v (j.flat 0)/\p j:=by
 obtain⟨j,h1,h2,h3⟩:=h;exact⟨j,h1,h2.imp (fun g h _=>Zc hB h),h3⟩
theorem aR {t:Tk}(h:W.heap[g]?=some (.cells (eu t) 181 (0,0))):W.cell? ⟨g,0,none⟩=some (.int .i64 t.kind)/\W.cell? ⟨g,1,none⟩=some (.int .i64 t.at_)/\W.cell? ⟨g,2,none⟩=some (.int .u8 t.mark)/\W.cell? ⟨g,3,none⟩=some (.string t.str)/\W.cell? ⟨g,4,none⟩=some (.bool t.num.neg)/\W.cell? ⟨g,5,none⟩=some (.string t.num.digits)/\W.cell? ⟨g,6,none⟩=some (.int .i64 t.num.exp):=
 ⟨aa h rfl,aa h rfl,aa h rfl,aa h rfl,aa h rfl,aa h rfl,aa h rfl⟩
theorem Rd.code {k:Nat}{c:Int}(h:Rd xs rb w at_ k c):w.cell? ⟨rb,13,none⟩=some (.int .i64 c):=by
 obtain⟨a1,a2,a3,a4,a5,a6,a7,L,m,hh,l,us,w0,h1,_⟩:=h;exact aa h1 rfl
theorem je {k:Nat}{c:Int}{bA eA sA A':Option Addr}{bc ec sn sc c':Nat}{L:Fin 6->Int}{m:Fin 4->Int}{h l:Int}
  (h1:W.heap[rb]?=some (.cells (eC (.slice bA xs.length bc) at_ L m (.slice eA k ec) c h l (.slice sA sn sc)) 148 (0,0))) (h2:Bs w0 (.slice bA xs.length bc) xs) (h3:w0.heap.size<=rb) (h4:Below rb w0 W) (h5:W.ownsRow (rb+1) 239 5 (.slice eA k ec) k us) (h6:at_<=xs.length) (hk:k+1<=at_)
  (hv:W'.ownsRow (rb+1) 239 5 (.slice A' (k+1) c') (k+1) us') (hg:W.grownBy W' (Value.slice eA k ec).ownBlock) :
  W'.heap[rb]?=some (.cells (eC (.slice bA xs.length bc) at_ L m (.slice eA k ec) c h l (.slice sA sn sc)) 148 (0,0))/\Rd xs rb (W'.setCell ⟨rb,12,none⟩ (.slice A' (k+1) c')) at_ (k+1) c/\Rk rb W (W'.setCell ⟨rb,12,none⟩ (.slice A' (k+1) c')):=by
 have hlt:=ae h1;have hb:Below (rb+1) W W':=aY (Ze (rb+1) W) h5 hlt hg;have hr:=(hb.block rb (Nat.lt_succ_self _)).trans h1;have a0:Below rb W W':=hb.mono (Nat.le_succ _);have a1:Rk rb W W':=⟨a0,aG.of_grown hg (fun g e cs t z hh=>by obtain⟨cs',z',h'⟩:=cj h5 g e;rw[h'] at hh;injection hh with hh;injection hh with _ hh;exact .inl hh.symm)⟩;have hs:=Rk.set hr 12 (.slice A' (k+1) c');exact⟨hr,⟨bA,bc,A',c',sA,sn,sc,L,m,h,l,us',w0,au hr 12 _,h2,h3,(h4.trans a0).trans hs.1,jf hv,h6,hk⟩,a1.trans hs⟩
theorem nZ (asc:List ByteArray->Prop)(hl:xs.length<=6000)(t:Tk)
  (hL:t.kind=1->∀ (w:World) (k:Nat) (d:Int),Rd xs rb w at_ k 0->k+1<=at_->Calls Tryz.prog 115 #[.pointer (some ⟨rb,0,none⟩),.int .i64 d] w (jv asc xs rb w at_ True))
  (hO:t.kind=1->∀ (w:World) (k:Nat) (d:Int),Rd xs rb w at_ k 0->k+1<=at_->Calls Tryz.prog 116 #[.pointer (some ⟨rb,0,none⟩),.int .i64 d] w (jv asc xs rb w at_ True))
  {w:World} {k:Nat} {c:Int} (h:Rd xs rb w at_ k c) (hk:c=0->(t.kind≠5->k+1<=at_)/\jw t) (d:Int) :
  Calls Tryz.prog 84 #[.pointer (some ⟨rb,0,none⟩),kk t,.int .i64 d] w (jv asc xs rb w at_ (t.kind≠5)):=by
 have Ht:=Qa hk;have HL:=Qa hL;have HO:=Qa hO;have hlt:=h.lt;have b0:=ac w (.cells (eu t) 181);have e2:=Zf w (.cells (eu t) 181);have HR:=Qa (h.below b0);have b6:=Qa e2;have b7:=Qa (Rk.of_below b0 (Zj hlt));have cc:=(h.below b0).code;clear hk hL hO h b0 e2;obtain⟨tk,ta,tm,ts,⟨dn,dd,dx⟩⟩:=t;unfold kk;simp only[eu] at HR b6 b7 cc;go_enter Tryz.func84,Tryz.ntmps84
 by_cases hc:c=0
 case neg=>
  have f8:(c !=0)=true:=by simpa using hc
  have Hc:=Qa hc;clear hc;go_wp2_with fail;go_ret;exact⟨_,_,_,at_,k,c,rfl,HR.out,b7.out,Zb _,fun h=>absurd h Hc.out⟩
 subst hc;obtain⟨hk,h8⟩:=Ht.out rfl;have Hk:=Qa hk;have H8:=Qa h8;clear hk h8 Ht;go_upto_region 3 with fail
 generalize (w.alloc (.cells #[.int .i64 tk,.int .i64 ta,.int .u8 tm,.string ts,.bool dn,.string dd,.int .i64 dx] 181))=w1 at *;have mk:∀ (X:Int) (W:World),Calls Tryz.prog 113 #[.agg #[.int .i64 tk,.int .i64 ta,.int .u8 tm,.string ts,.bool dn,.string dd,.int .i64 dx],.int .u8 X] W fun e w'=>ie ⟨tk,ta,tm,ts,⟨dn,dd,dx⟩⟩ X W e w':=fun X W=>fc ⟨tk,ta,tm,ts,⟨dn,dd,dx⟩⟩ X W
 have Mk:=Qa mk;clear mk cc;go_cut [7] (fun s7 wx=>(∃b:Bool,s7 =.bool b)/\Below w1.heap.size w1 wx)
 case first=>
  obtain⟨t0,t1,t2,t3,t4,t5,t6⟩:=aR (t:=⟨tk,ta,tm,ts,⟨dn,dd,dx⟩⟩) b6.out;go_wp2_with fail;refine(Mk.out 91 w1).mono ?_;rintro e w2 ⟨b1,rfl,-,a0⟩;have u0:=Zg a0 t0;have u1:=Zg a0 t1;have u2:=Zg a0 t2;have u3:=Zg a0 t3;have u4:=Zg a0 t4;have u5:=Zg a0 t5;have u6:=Zg a0 t6;have Hb1:=Qa a0;clear a0 t0 t1 t2 t3 t4 t5 t6
  cases b1
  ·go_wp2_with fail;refine(Mk.out 123 w2).mono ?_;rintro e w3 ⟨b2,rfl,-,f0⟩;have Hb2:=Qa (Hb1.out.trans (f0.mono Hb1.out.size));clear f0 u0 u1 u2 u3 u4 u5 u6;go_wp2_with fail;go_meet
   case rel=>exact⟨⟨_,rfl⟩,Hb2.out⟩
  ·clear u0 u1 u2 u3 u4 u5 u6;go_wp2_with fail;go_meet
   case rel=>exact⟨⟨_,rfl⟩,Hb1.out⟩
 case rest=>
  obtain⟨⟨b,rfl⟩,a0⟩:=hcut;have HR:=Qa (HR.out.below a0);have b7:=Qa (b7.out.trans (Rk.of_below a0 (Zc (Zj hlt) b7.out.2.1)));have b6:=Qa ((a0.block _ (ae b6.out)).trans b6.out);clear a0;obtain⟨w2,e4⟩:∃x,wc=x:=⟨_,rfl⟩;rw[e4] at HR b7 b6 ⊢;clear e4;obtain⟨t0,t1,t2,t3,t4,t5,t6⟩:=aR (t:=⟨tk,ta,tm,ts,⟨dn,dd,dx⟩⟩) b6.out;go_upto_region 4 with fail
  go_cut [32] (fun s32 wx=>(∃q:Bool,s32 =.bool q/\(q=false->tk≠5))/\w2=wx)
  case first=>
   by_cases e5:tk=5
   ·have e5':(tk==5)=true:=by simpa using e5
    clear e5;go_wp2_with fail;go_meet
    case rel=>exact⟨⟨_,rfl,fun h=>absurd h (by simp)⟩,rfl⟩
   have e5':(tk==5)=false:=by simpa using e5
   have E5:=Qa e5
   by_cases e1:tk=1
   ·have e1':(tk==1)=true:=by simpa using e1
    clear e5 e1;go_wp2_with fail;go_meet
    case rel=>exact⟨⟨_,rfl,fun _=>E5.out⟩,rfl⟩
   have e1':(tk==1)=false:=by simpa using e1
   clear e1 e5;go_wp2_with fail;go_meet
   case rel=>exact⟨⟨_,rfl,fun _=>E5.out⟩,rfl⟩
  case rest=>
   obtain⟨⟨q,rfl,hq⟩,rfl⟩:=hcut;have Hq:=Qa hq;clear hq;have wr:Calls Tryz.prog 85 #[.pointer (some ⟨rb,0,none⟩),.agg #[.int .i64 tk,.int .i64 ta,.int .u8 tm,.string ts,.bool dn,.string dd,.int .i64 dx]] w2 (jT xs rb w2 at_ k):=fd HR.out ⟨tk,ta,tm,ts,⟨dn,dd,dx⟩⟩;have Wr:=Qa wr;clear wr
   cases q
   case true=>
    go_wp2_with fail;refine Za Wr ?_;rintro e w3 ⟨⟨v,rfl⟩,c,hc,c4,c3⟩;have Hc:=Qa hc;have c6:=Qa c4;have d3:=Qa (b7.out.trans c3);clear hc c4 c3;go_wp2_with fail;go_ret;exact⟨_,_,_,at_,k,c,rfl,c6.out,d3.out,Zb _,fun h=>absurd h Hc.out⟩
   have c9:=Qa (Hk.out (Hq.out rfl));have b9:=Qa (show tk≠5 from Hq.out rfl);clear Wr Hk Hq;go_wp2_with fail;refine(ti HR.out d).mono ?_;rintro e w3 ⟨⟨v,rfl⟩,c,c4,c3⟩;have c0:=c3.row b6.out cI;obtain⟨u0,u1,u2,u3,u4,u5,u6⟩:=aR (t:=⟨tk,ta,tm,ts,⟨dn,dd,dx⟩⟩) c0;have cc:=c4.code;have c6:=Qa c4;have d3:=Qa (b7.out.trans c3);have c8:=Qa c0;clear c4 c3 c0 t0 t1 t2 t3 t4 t5 t6
   by_cases hc:c=0
   case neg=>
    have f8:(c !=0)=true:=by simpa using hc
    have Hc:=Qa hc;clear hc;go_wp2_with fail;go_ret;exact⟨_,_,_,at_,k,c,rfl,c6.out,d3.out,Zb _,fun h=>absurd h Hc.out⟩
   subst hc;go_wp2_with fail;refine(Mk.out 91 w3).mono ?_;rintro e w4 ⟨b1,rfl,f1,d0⟩;have g0:=Qa f1;have d4:=Qa (c6.out.below d0);have d5:=Qa (d3.out.trans (Rk.of_below d0 (Zj c6.out.lt)));have c1:=(d0.block _ (ae c8.out)).trans c8.out;have c7:=Qa c1;obtain⟨v0,v1,v2,v3,v4,v5,v6⟩:=aR (t:=⟨tk,ta,tm,ts,⟨dn,dd,dx⟩⟩) c1;clear f1 d0 c1 u0 u1 u2 u3 u4 u5 u6 cc
   cases b1
   case true=>
    go_wp2_with fail;refine(HL.out (g0.out trivial) w4 k d d4.out c9.out).mono ?_;rintro e w5 ⟨A,n,q,at',k',c',rfl,d9,e8,hat,hj⟩;have HP:=Qa (show jv asc xs rb w at_ (tk≠5) (.returned (.slice A n q)) w5 from⟨A,n,q,at',k',c',rfl,d9,d5.out.trans e8,hat,fun h=>⟨b9.out,sT (hj h).2 d5.out.2.1⟩⟩);clear d9 e8 hat hj;go_wp2_with fail;go_ret;exact HP.out
   go_wp2_with fail;refine(Mk.out 123 w4).mono ?_;rintro e w5 ⟨b2,rfl,e3,d1⟩;have g3:=Qa e3;have e0:=Qa (d4.out.below d1);have b3:=Qa (d5.out.trans (Rk.of_below d1 (Zj d4.out.lt)));have b8:=(d1.block _ (ae c7.out)).trans c7.out;have g4:=Qa b8;obtain⟨x0,x1,x2,x3,x4,x5,x6⟩:=aR (t:=⟨tk,ta,tm,ts,⟨dn,dd,dx⟩⟩) b8;clear e3 d1 b8 v0 v1 v2 v3 v4 v5 v6
   cases b2
   case true=>
    go_wp2_with fail;refine(HO.out (g3.out trivial) w5 k d e0.out c9.out).mono ?_;rintro e w6 ⟨A,n,q,at',k',c',rfl,c2,c5,hat,hj⟩;have HP:=Qa (show jv asc xs rb w at_ (tk≠5) (.returned (.slice A n q)) w6 from⟨A,n,q,at',k',c',rfl,c2,b3.out.trans c5,hat,fun h=>⟨b9.out,sT (hj h).2 b3.out.2.1⟩⟩);clear c2 c5 hat hj;go_wp2_with fail;go_ret;exact HP.out
   have lf:Calls Tryz.prog 117 #[.pointer (some ⟨rb,0,none⟩),.agg #[.int .i64 tk,.int .i64 ta,.int .u8 tm,.string ts,.bool dn,.string dd,.int .i64 dx]] w5 fun e w'=>Dw xs rb w5 at_ k ⟨tk,ta,tm,ts,⟨dn,dd,dx⟩⟩ e w':=Cp e0.out ⟨tk,ta,tm,ts,⟨dn,dd,dx⟩⟩
   have LF:=Qa lf;clear lf;go_wp2_with fail;refine Za LF ?_;rintro e w6 ⟨v,j,c,rfl,f2,d6,c2,c5⟩;have d2:=Qa c2;have f4:=Qa (b3.out.trans c5);have cc:=c2.code;have g7:∃A n q,v =.slice A n q:=by
    obtain⟨A,q,e,_⟩:=d6.form;exact⟨A,_,q,e⟩
   obtain⟨A,n,q,rfl⟩:=g7;have f6:=Qa f2;have g2:=Qa d6;clear c2 c5 f2 d6
   by_cases hc:c=0
   case neg=>
    have f8:(c !=0)=true:=by simpa using hc
    have Hc:=Qa hc;clear hc;go_wp2_with fail;go_ret;exact⟨_,_,_,at_,k,c,rfl,d2.out,f4.out,Zb _,fun h=>absurd h Hc.out⟩
   subst hc;have b0:=ac w6 (.cells #[.int .i64 3,.int .i64 d,.int .i64 0,.string es,.slice A n q] 239);have b4:=d2.out.lt;obtain⟨a1,a2,a3,a4,a5,a6,a7,L,m,hh,l,us,w0,h1,h2,h3,h4,h5,h6,h7⟩:=d2.out;have c12:=aa h1 (j:=12) (u:=.slice a3 k a4) rfl;have g1:=(b0.block _ b4).trans h1;have H:=Qa (And.intro g1 (And.intro h2 (And.intro h3 (And.intro (h4.trans (b0.mono (Zj b4))) (And.intro (ao h5 b0 (Zb _)) h6)))));have g6:=Qa (ap w6 [.int .i64 3,.int .i64 d,.int .i64 0,.string es,.slice A n q] 239);have e6:=Qa b0;have g5:=Qa (show rb+1<=w6.heap.size from b4);have f5:=Qa h6;clear h1 h2 h3 h4 h5 h6 h7 b0 g1 b4;go_wp2_with (at_builtin;refine km jp H.out.2.2.2.2.1 g6.out (Zc g5.out e6.out.size) ?_ (hlen:=(by have:=c9.out;have:=f5.out;unfold maxLen;omega)) (hby:=(by have:=c9.out;have:=f5.out;omega));intro v' w7 p1 p2 p3;have g8:=Qa p1;have f9:=Qa p2;(obtain⟨A',c',he,-⟩:=ag p1);subst he;have a9:=je H.out.1 H.out.2.1 H.out.2.2.1 H.out.2.2.2.1 H.out.2.2.2.2.1 H.out.2.2.2.2.2 c9.out g8.out f9.out;have r12:=aa a9.1 (j:=12) (u:=.slice a3 k a4) rfl;have f12:=ak a9.1 12;have f3:=Qa a9;clear p1 p2 p3 a9);go_ret;have b5:=(Rk.of_below e6.out (Zj d2.out.lt)).trans f3.out.2.2;exact⟨A,n,q,at_,k+1,0,rfl,f3.out.2.1,f4.out.trans b5,Zb _,fun _=>⟨b9.out,j,cF.of_leaf f6.out H8.out,(g2.out.keeps b5.2 gU kq kM).imp (fun g h _=>Zc b3.out.2.1 h),by rw[Lf.size f6.out];omega⟩⟩
theorem ld:∀ (l:List JV) (p q:Nat),q∈aV p l->q<=p+JV.sizes l
 | [],p,q,h=>by simp[aV] at h
 |v::vs,p,q,h=>by
  simp only[aV,List.mem_cons] at h;simp only[JV.sizes];rcases h with rfl|h
  ·omega
  ·have:=ld vs (p+v.size) q h;omega
theorem kx (l:List JV):l.length<=JV.sizes l:=cf l
theorem oF {asc:List ByteArray->Prop}{v:JV}(h:cF asc v):∀p,∀x∈v.flat p,x.names.length<=v.size/\∀q∈x.kids,q<=p+v.size:=by
 have key:∀ (ks:List JV),(∀u∈ks,∀p,∀x∈u.flat p,x.names.length<=u.size/\∀q∈x.kids,q<=p+u.size)->∀p,∀y∈JV.flats p ks,y.names.length<=JV.sizes ks/\∀q∈y.kids,q<=p+JV.sizes ks:=by
  intro ks
  induction ks with
  |nil=>intro _ p y h;simp[JV.flats] at h
  |cons v vs ih=>
   intro hu p y h;simp only[JV.flats,List.mem_append] at h;simp only[JV.sizes];rcases h with h|h
   ·have ⟨h1,h2⟩:=hu v (by simp) p y h;exact⟨by omega,fun q hq=>by have:=h2 q hq;omega⟩
   ·have ⟨h1,h2⟩:=ih (fun u hm=>hu u (Zm _ hm)) (p+v.size) y h;exact⟨by omega,fun q hq=>by have:=h2 q hq;omega⟩
 induction h with
 |null|bool b|num d _ _|text s _=>intro p x hx;simp[JV.flat,JV.flats,aV] at hx;subst hx;simp
 |list ks hks ih=>
  intro p x hx;simp only[JV.flat,List.mem_cons] at hx;simp only[JV.size];rcases hx with rfl|hx
  ·exact⟨by simp,fun q hq=>by have:=ld ks (p+1) q hq;omega⟩
  ·have ⟨h1,h2⟩:=key ks ih (p+1) x hx;exact⟨by omega,fun q hq=>by have:=h2 q hq;omega⟩
 |obj ns ks hl h8 ha hks ih=>
  intro p x hx;simp only[JV.flat,List.mem_cons] at hx;simp only[JV.size];rcases hx with rfl|hx
  ·have:=kx ks;exact⟨by show ns.length<=_;omega,fun q hq=>by have:=ld ks (p+1) q hq;omega⟩
  ·have ⟨h1,h2⟩:=key ks ih (p+1) x hx;exact⟨by omega,fun q hq=>by have:=h2 q hq;omega⟩
def mB (len rb:Nat)(wr:World):Nat:=2* (len - (intOf ((wr.cell? ⟨rb,1,none⟩).getD undef)).toNat)+ (if intOf ((wr.cell? ⟨rb,13,none⟩).getD undef)=0 then 1 else 0)
theorem Rd.mu {k:Nat}{c:Int}(h:Rd xs rb w at_ k c):mB xs.length rb w=2* (xs.length - at_)+ (if c=0 then 1 else 0):=by
 have hc:=h.code;obtain⟨a1,a2,a3,a4,a5,a6,a7,L,m,hh,l,us,w0,h1,_⟩:=h;have a0:=aa h1 (j:=1) (u:=.int .i64 at_) rfl;unfold mB;rw[a0,hc]
 by_cases h:c=0 <;> simp[intOf,h]
