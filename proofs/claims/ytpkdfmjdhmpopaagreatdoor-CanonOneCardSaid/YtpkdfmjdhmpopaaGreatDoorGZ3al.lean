import Derived.Test.YtpkdfmjdhmpopaaGreatDoorGZ3ak
set_option linter.unusedVariables false
set_option linter.unusedSimpArgs false
set_option maxHeartbeats 64000000
set_option maxRecDepth 100000
namespace Go.Proofs.YtpkdfmjdhmpopaaGreatDoor
open Go.RowKit
variable {j : JV} {xs : List UInt8} {us us' : List Value} {B at_ g k rb : Nat} {v : Value} {W W' w w' w0 : World}
def jW (xs:List UInt8)(rb:Nat)(w:World)(at_ k:Nat)(e:Ending)(w':World):Prop:=(∃v,e = .returned v)/\∃c:Int,c≠0/\Rd xs rb w' at_ k c/\Rk rb w w'
theorem ft {c:Int}(h:Rd xs rb w at_ k c)(t:Tk):Calls Tryz.prog 92 #[.pointer (some ⟨rb,0,none⟩),jV t] w (jW xs rb w at_ k):=by
 obtain⟨tk,ta,tm,ts,⟨dn,dd,dx⟩⟩:=t;unfold jV;have hlt:=h.lt;have a6:=ac w (.cells #[.int .i64 tk, .int .i64 ta, .int .u8 tm, .string ts, .bool dn, .string dd, .int .i64 dx] 204);have HR:=Qa (h.below a6);have a9:=Qa (Rk.of_below a6 (Zi hlt));clear h a6;go_enter Tryz.func92,Tryz.ntmps92
 by_cases h5:tk=5
 ·subst h5
  go_wp2_with fail;generalize (w.alloc (.cells #[.int .i64 5, .int .i64 ta, .int .u8 tm, .string ts, .bool dn, .string dd, .int .i64 dx] 204))=w1 at *;refine(cv 103 ta w1).mono ?_;rintro e w2 ⟨u,rfl,⟨fh,fl,fs,rfl,a2⟩,hb⟩;obtain⟨fA,fq,fr,rfl, -⟩:=a2.slice;have a4:=Qa (HR.out.below hb);have a0:=Qa (a9.out.trans (Rk.of_below hb (Zi HR.out.lt)));clear a2 hb;go_wp2_with fail;refine(el a4.out 103 fh fl fA fq fr).mono ?_;rintro e w3 ⟨⟨b,rfl⟩,a3,a1, -⟩;have a5:=Qa a3;have a7:=Qa a1;clear a3 a1;go_wp2_with fail;go_end0;exact⟨⟨_,rfl⟩,_,(by by_cases h:c=0 <;> simp [h]),a5.out,a0.out.trans a7.out⟩
 ·have b0: (tk==5)=false:=by simpa using h5
  clear h5;go_wp2_with fail;generalize (w.alloc (.cells #[.int .i64 tk, .int .i64 ta, .int .u8 tm, .string ts, .bool dn, .string dd, .int .i64 dx] 204))=w1 at *;refine(cv 111 ta w1).mono ?_;rintro e w2 ⟨u,rfl,⟨fh,fl,fs,rfl,a2⟩,hb⟩;obtain⟨fA,fq,fr,rfl, -⟩:=a2.slice;have a4:=Qa (HR.out.below hb);have a0:=Qa (a9.out.trans (Rk.of_below hb (Zi HR.out.lt)));clear a2 hb;go_wp2_with fail;refine(el a4.out 111 fh fl fA fq fr).mono ?_;rintro e w3 ⟨⟨b,rfl⟩,a3,a1, -⟩;have a5:=Qa a3;have a7:=Qa a1;clear a3 a1;go_wp2_with fail;go_end0;exact⟨⟨_,rfl⟩,_,(by by_cases h:c=0 <;> simp [h]),a5.out,a0.out.trans a7.out⟩
def ik (t:Tk)(X:Int)(w:World)(e:Ending)(w':World):Prop:= ∃b:Bool,e = .returned (.bool b)/\(b=true->t.kind=1)/\Below w.heap.size w w'
theorem fp (t:Tk)(X:Int)(w:World):Calls Tryz.prog 118 #[jV t, .int .u8 X] w (ik t X w):=by
 obtain⟨tk,ta,tm,ts,⟨dn,dd,dx⟩⟩:=t;unfold jV;go_enter Tryz.func118,Tryz.ntmps118
 by_cases h1:tk=1
 ·subst h1
  go_wp2;go_ret;exact⟨_,rfl,fun _=>rfl,ac _ _⟩
 ·have a0: (tk==1)=false:=by simpa using h1
  have H1:=Qa h1;clear h1;go_wp2;go_ret;exact⟨_,rfl,(fun h=>absurd h (by decide)),ac _ _⟩
def Bn (xs:List UInt8)(rb:Nat)(w:World)(at_ k:Nat)(e:Ending)(w':World):Prop:=(∃v,e = .returned v)/\∃c:Int,Rd xs rb w' at_ k c/\Rk rb w w'
theorem sD {c:Int}(h:Rd xs rb w at_ k c)(d:Int):Calls Tryz.prog 119 #[.pointer (some ⟨rb,0,none⟩), .int .i64 d] w (Bn xs rb w at_ k):=by
 have HR:=Qa h;obtain⟨a1,a2,a3,a4,a5,a6,a7,L,m,hh,l,us,w0,h1,h2,h3,h4,h5,h6,h7⟩:=h;have c2:=aa h1 (j:=2) (u:= .int .i64 (L 0)) rfl;have c3:=aa h1 (j:=3) (u:= .int .i64 (L 1)) rfl;have c4:=aa h1 (j:=4) (u:= .int .i64 (L 2)) rfl;have c5:=aa h1 (j:=5) (u:= .int .i64 (L 3)) rfl;have c6:=aa h1 (j:=6) (u:= .int .i64 (L 4)) rfl;have c7:=aa h1 (j:=7) (u:= .int .i64 (L 5)) rfl;clear h1 h2 h3 h4 h5 h6 h7;go_enter Tryz.func119,Tryz.ntmps119;go_wp2_with fail;refine(f7 (L 0) (L 1) (L 2) (L 3) (L 4) (L 5) 2 d w).mono ?_;rintro e w1 ⟨c1,u,rfl,⟨fh,fl,fs,rfl,b1⟩,hb⟩;obtain⟨fA,fq,fr,rfl, -⟩:=b1.slice;have b6:=Qa (HR.out.below hb);have b8:=Qa (Rk.of_below hb (Zi HR.out.lt));clear b1 hb c2 c3 c4 c5 c6 c7;go_wp2_with fail;refine(el b6.out c1 fh fl fA fq fr).mono ?_;rintro e w2 ⟨⟨b,rfl⟩,d2,b4, -⟩;have b9:=Qa (b8.out.trans b4);clear HR b6 b8 b4;obtain⟨a1,a2,a3,a4,a5,a6,a7,L,m,hh,l,us,w0,h1,h2,h3,h4,h5,h6,h7⟩:=d2;have c10:=aa h1 (j:=10) (u:= .int .i64 (m 2)) rfl;have f10:=aj h1 10;have hs:=ay h1 10 (.int .i64 (wrap64 (m 2+1)));have b5:Rd xs rb (w2.setCell ⟨rb,10,none⟩ (.int .i64 (wrap64 (m 2+1)))) at_ k (if c=0 then c1 else c):=
  ⟨a1,a2,a3,a4,a5,a6,a7,L,fun i=>if i=2 then wrap64 (m 2+1) else m i,hh,l,us,w0,hs,h2,h3,h4.trans (Rk.set h1 10 _).1,jt h5,h6,h7⟩
 have b0:=Qa b5;have b2:=Qa (b9.out.trans (Rk.set h1 10 (.int .i64 (wrap64 (m 2+1)))));have cs2:∀j u,j≠10->w2.cell? ⟨rb,j,none⟩=some u->(w2.setCell ⟨rb,10,none⟩ (.int .i64 (wrap64 (m 2+1)))).cell? ⟨rb,j,none⟩=some u:=fun j u hj hu=>by
  unfold World.cell? at hu ⊢;simp only [h1] at hu;simp only [hs];simpa [Array.getElem?_setIfInBounds,Ne.symm hj] using hu
 have HC:=Qa (And.intro (cs2 2 _ (by decide) (aa h1 (j:=2) (u:= .int .i64 (L 0)) rfl)) (And.intro (cs2 3 _ (by decide) (aa h1 (j:=3) (u:= .int .i64 (L 1)) rfl)) (And.intro (cs2 4 _ (by decide) (aa h1 (j:=4) (u:= .int .i64 (L 2)) rfl)) (And.intro (cs2 5 _ (by decide) (aa h1 (j:=5) (u:= .int .i64 (L 3)) rfl)) (And.intro (cs2 6 _ (by decide) (aa h1 (j:=6) (u:= .int .i64 (L 4)) rfl)) (And.intro (cs2 7 _ (by decide) (aa h1 (j:=7) (u:= .int .i64 (L 5)) rfl)) (aa hs (j:=10) (u:= .int .i64 (wrap64 (m 2+1))) rfl)))))));clear b9 b5 h1 h2 h3 h4 h5 h6 h7 hs cs2;go_wp2_with fail;generalize wrap64 (m 2+1)=N at *;generalize (w2.setCell ⟨rb,10,none⟩ (.int .i64 N))=w3 at *;have HC:=Qa (show(fun w':World=>w'.cell? ⟨rb,2,none⟩=some (.int .i64 (L 0))/\w'.cell? ⟨rb,3,none⟩=some (.int .i64 (L 1))/\w'.cell? ⟨rb,4,none⟩=some (.int .i64 (L 2))/\w'.cell? ⟨rb,5,none⟩=some (.int .i64 (L 3))/\w'.cell? ⟨rb,6,none⟩=some (.int .i64 (L 4))/\w'.cell? ⟨rb,7,none⟩=some (.int .i64 (L 5))/\w'.cell? ⟨rb,10,none⟩=some (.int .i64 N)) w3.drew from HC.out);have b0:=Qa (b0.out.below (Zd w3.heap.size w3).drew);have b2:=Qa (b2.out.trans (Rk.of_below (Zd w3.heap.size w3).drew (Zi b0.out.lt)));generalize hwq:w3.drew=wq at HC b0 b2;refine aW (fun w'=>w'.cell? ⟨rb,2,none⟩=some (.int .i64 (L 0))/\w'.cell? ⟨rb,3,none⟩=some (.int .i64 (L 1))/\w'.cell? ⟨rb,4,none⟩=some (.int .i64 (L 2))/\w'.cell? ⟨rb,5,none⟩=some (.int .i64 (L 3))/\w'.cell? ⟨rb,6,none⟩=some (.int .i64 (L 4))/\w'.cell? ⟨rb,7,none⟩=some (.int .i64 (L 5))/\w'.cell? ⟨rb,10,none⟩=some (.int .i64 N)) ((by rw [hwq];exact HC.out)) fun a0=> ?_
 rw [hwq] at a0 ⊢;clear hwq HC;refine tH 0 a0 ?_;refine tH 1 a0 ?_;refine tH 2 a0 ?_;refine tH 3 a0 ?_;refine tH 4 a0 ?_;refine tH 5 a0 ?_
 try simp only [Act.put,jP,jQ,jR]
 refine tH 6 a0 ?_;refine tH 7 a0 ?_;refine tH 8 a0 ?_;refine tH 9 a0 ?_
 try simp only [Act.put,jP,jQ,jR]
 rotate_left
 all_goals
  refine rH 10 fun K hK=> ?_
  go_simp;refine(f7 (L 0) (L 1) (L 2) (L 3) (L 4) (L 5) 3 N wq).mono ?_;rintro e w4 ⟨c4,u,rfl,⟨fh,fl,fs,rfl,b1⟩,hb⟩;obtain⟨fA,fq,fr,rfl, -⟩:=b1.slice;have d4:=Qa (b0.out.below hb);have d0:=Qa (b2.out.trans (Rk.of_below hb (Zi b0.out.lt)));clear b1;go_wp2_with fail;refine hK.out _ _ (⟨Zf hb a0.1,Zf hb a0.2.1,Zf hb a0.2.2.1,Zf hb a0.2.2.2.1,Zf hb a0.2.2.2.2.1,Zf hb a0.2.2.2.2.2.1,Zf hb a0.2.2.2.2.2.2⟩) (fun a0=> ?_);clear hK K
  try simp only [Act.put,jP,jQ,jR]
  refine rH 11 fun K hK=> ?_
  go_simp;refine(el d4.out c4 fh fl fA fq fr).mono ?_;rintro e w5 ⟨⟨b,rfl⟩,b7,c0,c8⟩;have d3:=Qa b7;have d1:=Qa (d0.out.trans c0);clear b7 c0;have a9:=Qa c8;clear c8;go_wp2_with fail;refine hK.out _ _ (⟨(a9.out 2 (by decide)).trans a0.1,(a9.out 3 (by decide)).trans a0.2.1,(a9.out 4 (by decide)).trans a0.2.2.1,(a9.out 5 (by decide)).trans a0.2.2.2.1,(a9.out 6 (by decide)).trans a0.2.2.2.2.1,(a9.out 7 (by decide)).trans a0.2.2.2.2.2.1,(a9.out 10 (by decide)).trans a0.2.2.2.2.2.2⟩) (fun a0=> ?_);clear hK K
  try simp only [Act.put,jP,jQ,jR]
  refine wpAnyH_done (by kernel_rfl) (NoPanic.normal ?_) _;clear a0 c10 f10;obtain⟨a1,a2,a3,a4,a5,a6,a7,L,m,hh,l,us,w0,h1,h2,h3,h4,h5,h6,h7⟩:=d3.out;have c9:=aa h1 (j:=9) (u:= .int .i64 (m 1)) rfl;have f9:=aj h1 9;have b3:∀X:Int,Bn xs rb w at_ k (.returned (.tuple #[])) (w5.setCell ⟨rb,9,none⟩ (.int .i64 X)):=fun X=>
   ⟨⟨_,rfl⟩,_,⟨a1,a2,a3,a4,a5,a6,a7,L,fun i=>if i=1 then X else m i,hh,l,us,w0,ay h1 9 (.int .i64 X),h2,h3,h4.trans (Rk.set h1 9 _).1,jt h5,h6,h7⟩,d1.out.trans (Rk.set h1 9 _)⟩
  have H6:=Qa b3;clear b3 h1 h2 h3 h4 h5 h6 h7;go_wp2_with fail
  all_goals
   go_end0;exact H6.out _
def Lf (t:Tk)(j:JV):Prop:=j = .mk 1 false es ll [] []\/(∃b,j = .mk 2 b es ll [] [])\/(t.kind=3/\j = .mk 3 false es t.num [] [])\/(t.kind=4/\j = .mk 4 false t.str ll [] [])
def AX (xs:List UInt8)(rb:Nat)(w:World)(at_ k:Nat)(t:Tk)(e:Ending)(w':World):Prop:= ∃ (v:Value) (j:JV) (c:Int),e = .returned v/\Lf t j/\bG (w.heap.size<= ·) w' rb v (j.flat 0)/\Rd xs rb w' at_ k c/\Rk rb w w'
theorem Bz {c:Int}(h:Rd xs rb w at_ k c)(t:Tk):Calls Tryz.prog 122 #[.pointer (some ⟨rb,0,none⟩),jV t] w (AX xs rb w at_ k t):=by
 obtain⟨tk,ta,tm,ts,⟨dn,dd,dx⟩⟩:=t;unfold jV;have hlt:=h.lt;have b5:=ac w (.cells #[.int .i64 tk, .int .i64 ta, .int .u8 tm, .string ts, .bool dn, .string dd, .int .i64 dx] 204);have b9:=Ze w (.cells #[.int .i64 tk, .int .i64 ta, .int .u8 tm, .string ts, .bool dn, .string dd, .int .i64 dx] 204);have HR:=Qa (h.below b5);have c0:=Qa b9;have b4:=Qa (Rk.of_below b5 (Zi hlt));clear h b5 b9;go_enter Tryz.func122,Tryz.ntmps122
 by_cases h3:tk=3
 ·subst h3
  obtain⟨a1,a2,a3,a4,a5,a6,a7,L,m,hh,l,us,w0,h1,h2,h3,h4,h5,h6,h7⟩:=HR.out;have c2:=aa h1 (j:=2) (u:= .int .i64 (L 0)) rfl;have c3:=aa h1 (j:=3) (u:= .int .i64 (L 1)) rfl;have c4:=aa h1 (j:=4) (u:= .int .i64 (L 2)) rfl;have c5:=aa h1 (j:=5) (u:= .int .i64 (L 3)) rfl;have c6:=aa h1 (j:=6) (u:= .int .i64 (L 4)) rfl;have c7:=aa h1 (j:=7) (u:= .int .i64 (L 5)) rfl;clear h1 h2 h3 h4 h5 h6 h7;go_wp2_with fail
  all_goals
   refine(f7 (L 0) (L 1) (L 2) (L 3) (L 4) (L 5) 5 _ _).mono ?_;rintro e w1 ⟨c1,u,rfl,⟨fh,fl,fs,rfl,b7⟩,hb⟩;obtain⟨fA,fq,fr,rfl, -⟩:=b7.slice;have d1:=Qa (HR.out.below hb);have d4:=Qa (b4.out.trans (Rk.of_below hb (Zi HR.out.lt)));have d2:=Qa ((hb.block _ (ae c0.out)).trans c0.out);clear b7 hb c2 c3 c4 c5 c6 c7;go_wp2_with fail;refine(el d1.out c1 fh fl fA fq fr).mono ?_;rintro e w2 ⟨⟨b,rfl⟩,d3,b2, -⟩;have a0:=b2.row d2.out cF;have c9:=Qa (d4.out.trans b2);obtain⟨a1,a2,a3,a4,a5,a6,a7,L,m,hh,l,us,w0,h1,h2,h3,h4,h5,h6,h7⟩:=d3;have c11:=aa h1 (j:=11) (u:= .int .i64 (m 3)) rfl;have f11:=aj h1 11;have hne:¬w.heap.size=rb:=by omega
   have t4:=aa a0 (j:=4) (u:= .bool dn) rfl;have t5:=aa a0 (j:=5) (u:= .string dd) rfl;have t6:=aa a0 (j:=6) (u:= .int .i64 dx) rfl;have b8:∀X:Int,Rd xs rb (w2.setCell ⟨rb,11,none⟩ (.int .i64 X)) at_ k (if c=0 then c1 else c):=fun X=>
    ⟨a1,a2,a3,a4,a5,a6,a7,L,fun i=>if i=3 then X else m i,hh,l,us,w0,ay h1 11 (.int .i64 X),h2,h3,h4.trans (Rk.set h1 11 _).1,jt h5,h6,h7⟩
   have b1:=Qa b8;have c8:=Qa (fun X:Int=>Rk.set h1 11 (.int .i64 X));clear b8 h1 h2 h3 h4 h5 h6 h7 b2 a0;go_wp2_with fail
   all_goals
    refine(oR ⟨dn,dd,dx⟩ _).mono ?_;rintro e w4 ⟨v,rfl,b3,b6⟩;have d6:=Qa ((b1.out _).below b3);have d0:=Qa ((c9.out.trans (c8.out _)).trans (Rk.of_below b3 (Zi (b1.out _).lt)));have d5:=Qa ((b6.low (Zi (b1.out _).lt)).imp (Q:=(w.heap.size<= ·)) (fun g h _=>Zb (c9.out.trans (c8.out _)).2.1 h));clear b3 b6;go_wp2_with fail;go_ret;exact⟨v, .mk 3 false es ⟨dn,dd,dx⟩ [] [],_,rfl, .inr (.inr (.inl ⟨rfl,rfl⟩)),d5.out,d6.out,d0.out⟩
 have b0:∀ (j:JV) (e:Ending) (x:Nd) (w':World),kK (w.alloc (.cells #[.int .i64 tk, .int .i64 ta, .int .u8 tm, .string ts, .bool dn, .string dd, .int .i64 dx] 204)) x e w'->j.flat 0 = [x]->Lf ⟨tk,ta,tm,ts,⟨dn,dd,dx⟩⟩ j->AX xs rb w at_ k ⟨tk,ta,tm,ts,⟨dn,dd,dx⟩⟩ e w':=by
  rintro j e x w' ⟨v,rfl,hb,hf⟩ hj hl;exact⟨v,j,c,rfl,hl,by rw [hj];exact(hf.low (Zi HR.out.lt)).imp (fun g h _=>Zb b4.out.2.1 h),HR.out.below hb,b4.out.trans (Rk.of_below hb (Zi HR.out.lt))⟩
 have a9:=Qa b0;clear b0
 by_cases h4:tk=4
 ·subst h4
  go_wp2_with fail;refine(uJ ts _).mono ?_;rintro e w' ⟨v,rfl,hb,hf⟩;have hp:=a9.out (.mk 4 false ts ll [] []) _ _ w' ⟨v,rfl,hb,hf⟩ rfl (.inr (.inr (.inr ⟨rfl,rfl⟩)));have Hp:=Qa hp;clear hp hb hf;go_wp2_with fail;go_ret;exact Hp.out
 have d9: (tk==3)=false:=by simpa using h3
 have e0: (tk==4)=false:=by simpa using h4
 clear h3 h4;go_wp2_with fail
 ·refine(se _).mono ?_
  rintro e w' ⟨v,rfl,hb,hf⟩;have hp:=a9.out (.mk 1 false es ll [] []) _ _ w' ⟨v,rfl,hb,hf⟩ rfl (.inl rfl);have Hp:=Qa hp;clear hp hb hf;go_wp2_with fail;go_ret;exact Hp.out
 ·refine(sU _ _).mono ?_
  rintro e w' ⟨v,rfl,hb,hf⟩;have hp:=a9.out (.mk 2 _ es ll [] []) _ _ w' ⟨v,rfl,hb,hf⟩ rfl (.inr (.inl ⟨_,rfl⟩));have Hp:=Qa hp;clear hp hb hf;go_wp2_with fail;go_ret;exact Hp.out
theorem jn:dM 152 260 (.agg #[.int .i64 0, .int .i64 0, .int .i64 0, .string ByteArray.empty, .slice none 0 0]) 5 64:=⟨Tryz.underlying152,by kernel_rfl,rfl,by decide⟩
inductive bK (asc:List ByteArray->Prop):JV->Prop
 | null:bK asc (.mk 1 false es ll [] [])
 | bool (b:Bool):bK asc (.mk 2 b es ll [] [])
 | num (d:Dc):d.digits.size<=6000+1->wh d->bK asc (.mk 3 false es d [] [])
 | text (s:ByteArray):iI s->bK asc (.mk 4 false s ll [] [])
 | list (ks:List JV): (∀u∈ks,bK asc u)->bK asc (.mk 5 false es ll [] ks)
 | obj (ns:List ByteArray) (ks:List JV):ns.length=ks.length->(∀s∈ns,iI s)->asc ns->(∀u∈ks,bK asc u)->bK asc (.mk 6 false es ll ns ks)
theorem bK.of_leaf {asc:List ByteArray->Prop}{t:Tk}(h:Lf t j)(ht:jx t):bK asc j:=by
 rcases h with rfl | ⟨b,rfl⟩ | ⟨hk,rfl⟩ | ⟨hk,rfl⟩
 ·exact .null
 ·exact .bool b
 ·exact .num _ ht.2.1 (ht.2.2 hk)
 ·exact .text _ (ht.1 hk)
theorem Lf.size {t:Tk}(h:Lf t j):j.size=1:=by
 rcases h with rfl | ⟨b,rfl⟩ | ⟨_,rfl⟩ | ⟨hk,rfl⟩ <;> simp [JV.size,JV.sizes]
theorem gF:¬TR 9:=by unfold TR;decide
theorem kz:¬TR 3:=by unfold TR;decide
theorem kE:¬TR 77:=by unfold TR;decide
def jA (asc:List ByteArray->Prop)(xs:List UInt8)(rb:Nat)(w:World)(at_:Nat)(p:Prop)(e:Ending)(w':World):Prop:= ∃ (A:Option Addr) (n q at' k':Nat) (c:Int),e = .returned (.slice A n q)/\Rd xs rb w' at' k' c/\Rk rb w w'/\at_<=at'/\
 (c=0->p/\∃j:JV,bK asc j/\bG (w.heap.size<= ·) w' rb (.slice A n q) (j.flat 0)/\j.size+at_<=at'+1)
theorem uK {asc:List ByteArray->Prop}{p:JV->Prop}(h:∃j:JV,bK asc j/\bG (w.heap.size<= ·) w' rb v (j.flat 0)/\p j)(hB:B<=w.heap.size):∃j:JV,bK asc j/\bG (B<= ·) w' rb v (j.flat 0)/\p j:=by
 obtain⟨j,h1,h2,h3⟩:=h;exact⟨j,h1,h2.imp (fun g h _=>Zb hB h),h3⟩
theorem be {t:Tk}(h:W.heap[g]?=some (.cells (d8 t) 204 (0,0))):W.cell? ⟨g,0,none⟩=some (.int .i64 t.kind)/\W.cell? ⟨g,1,none⟩=some (.int .i64 t.at_)/\W.cell? ⟨g,2,none⟩=some (.int .u8 t.mark)/\W.cell? ⟨g,3,none⟩=some (.string t.str)/\W.cell? ⟨g,4,none⟩=some (.bool t.num.neg)/\W.cell? ⟨g,5,none⟩=some (.string t.num.digits)/\W.cell? ⟨g,6,none⟩=some (.int .i64 t.num.exp):=
 ⟨aa h rfl,aa h rfl,aa h rfl,aa h rfl,aa h rfl,aa h rfl,aa h rfl⟩
theorem Rd.code {c:Int}(h:Rd xs rb w at_ k c):w.cell? ⟨rb,13,none⟩=some (.int .i64 c):=by
 obtain⟨a1,a2,a3,a4,a5,a6,a7,L,m,hh,l,us,w0,h1,_⟩:=h;exact aa h1 rfl
theorem jo {c:Int}{bA eA sA A':Option Addr}{bc ec sn sc c':Nat}{L:Fin 6->Int}{m:Fin 4->Int}{h l:Int}
  (h1:W.heap[rb]?=some (.cells (eF (.slice bA xs.length bc) at_ L m (.slice eA k ec) c h l (.slice sA sn sc)) 154 (0,0))) (h2:Bs w0 (.slice bA xs.length bc) xs) (h3:w0.heap.size<=rb) (h4:Below rb w0 W) (h5:W.ownsRow (rb+1) 260 5 (.slice eA k ec) k us) (h6:at_<=xs.length) (hk:k+1<=at_)
  (hv:W'.ownsRow (rb+1) 260 5 (.slice A' (k+1) c') (k+1) us') (hg:W.grownBy W' (Value.slice eA k ec).ownBlock) :
  W'.heap[rb]?=some (.cells (eF (.slice bA xs.length bc) at_ L m (.slice eA k ec) c h l (.slice sA sn sc)) 154 (0,0))/\Rd xs rb (W'.setCell ⟨rb,12,none⟩ (.slice A' (k+1) c')) at_ (k+1) c/\Rk rb W (W'.setCell ⟨rb,12,none⟩ (.slice A' (k+1) c')):=by
 have hlt:=ae h1;have hb:Below (rb+1) W W':=bz (Zd (rb+1) W) h5 hlt hg;have hr:=(hb.block rb (Nat.lt_succ_self _)).trans h1;have a0:Below rb W W':=hb.mono (Nat.le_succ _);have a1:Rk rb W W':=⟨a0,aP.of_grown hg (fun g e cs t z hh=>by obtain⟨cs',z',h'⟩:=cO h5 g e;rw [h'] at hh;injection hh with hh;injection hh with _ hh;exact .inl hh.symm)⟩;have hs:=Rk.set hr 12 (.slice A' (k+1) c');exact⟨hr,⟨bA,bc,A',c',sA,sn,sc,L,m,h,l,us',w0,ay hr 12 _,h2,h3,(h4.trans a0).trans hs.1,jt hv,h6,hk⟩,a1.trans hs⟩
theorem ni (asc:List ByteArray->Prop)(hl:xs.length<=6000)(t:Tk)
  (hL:t.kind=1->∀ (w:World) (k:Nat) (d:Int),Rd xs rb w at_ k 0->k+1<=at_->Calls Tryz.prog 120 #[.pointer (some ⟨rb,0,none⟩), .int .i64 d] w (jA asc xs rb w at_ True))
  (hO:t.kind=1->∀ (w:World) (k:Nat) (d:Int),Rd xs rb w at_ k 0->k+1<=at_->Calls Tryz.prog 121 #[.pointer (some ⟨rb,0,none⟩), .int .i64 d] w (jA asc xs rb w at_ True))
  {w:World} {k:Nat} {c:Int} (h:Rd xs rb w at_ k c) (hk:c=0->(t.kind≠5->k+1<=at_)/\jx t) (d:Int) :
  Calls Tryz.prog 91 #[.pointer (some ⟨rb,0,none⟩),jV t, .int .i64 d] w (jA asc xs rb w at_ (t.kind≠5)):=by
 have Ht:=Qa hk;have HL:=Qa hL;have HO:=Qa hO;have hlt:=h.lt;have b0:=ac w (.cells (d8 t) 204);have f3:=Ze w (.cells (d8 t) 204);have HR:=Qa (h.below b0);have b7:=Qa f3;have b6:=Qa (Rk.of_below b0 (Zi hlt));have cc:=(h.below b0).code;clear hk hL hO h b0 f3;obtain⟨tk,ta,tm,ts,⟨dn,dd,dx⟩⟩:=t;unfold jV;simp only [d8] at HR b7 b6 cc;go_enter Tryz.func91,Tryz.ntmps91
 by_cases hc:c=0
 case neg=>
  have e6: (c !=0)=true:=by simpa using hc
  have Hc:=Qa hc;clear hc;go_wp2_with fail;go_ret;exact⟨_,_,_,at_,k,c,rfl,HR.out,b6.out,Za _,fun h=>absurd h Hc.out⟩
 subst hc;obtain⟨hk,h8⟩:=Ht.out rfl;have Hk:=Qa hk;have H8:=Qa h8;clear hk h8 Ht;go_upto_region 3 with fail
 generalize (w.alloc (.cells #[.int .i64 tk, .int .i64 ta, .int .u8 tm, .string ts, .bool dn, .string dd, .int .i64 dx] 204))=w1 at *;have mk:∀ (X:Int) (W:World),Calls Tryz.prog 118 #[.agg #[.int .i64 tk, .int .i64 ta, .int .u8 tm, .string ts, .bool dn, .string dd, .int .i64 dx], .int .u8 X] W fun e w'=>ik ⟨tk,ta,tm,ts,⟨dn,dd,dx⟩⟩ X W e w':=fun X W=>fp ⟨tk,ta,tm,ts,⟨dn,dd,dx⟩⟩ X W
 have Mk:=Qa mk;clear mk cc;go_cut [7] (fun s7 wx=>(∃b:Bool,s7 = .bool b)/\Below w1.heap.size w1 wx)
 case first=>
  obtain⟨t0,t1,t2,t3,t4,t5,t6⟩:=be (t:=⟨tk,ta,tm,ts,⟨dn,dd,dx⟩⟩) b7.out;go_wp2_with fail;refine(Mk.out 91 w1).mono ?_;rintro e w2 ⟨b1,rfl, -,a9⟩;have u0:=Zf a9 t0;have u1:=Zf a9 t1;have u2:=Zf a9 t2;have u3:=Zf a9 t3;have u4:=Zf a9 t4;have u5:=Zf a9 t5;have u6:=Zf a9 t6;have Hb1:=Qa a9;clear a9 t0 t1 t2 t3 t4 t5 t6
  cases b1
  ·go_wp2_with fail
   refine(Mk.out 123 w2).mono ?_;rintro e w3 ⟨b2,rfl, -,f2⟩;have Hb2:=Qa (Hb1.out.trans (f2.mono Hb1.out.size));clear f2 u0 u1 u2 u3 u4 u5 u6;go_wp2_with fail;go_meet
   case rel=>exact⟨⟨_,rfl⟩,Hb2.out⟩
  ·clear u0 u1 u2 u3 u4 u5 u6
   go_wp2_with fail;go_meet
   case rel=>exact⟨⟨_,rfl⟩,Hb1.out⟩
 case rest=>
  obtain⟨⟨b,rfl⟩,a9⟩:=hcut;have HR:=Qa (HR.out.below a9);have b6:=Qa (b6.out.trans (Rk.of_below a9 (Zb (Zi hlt) b6.out.2.1)));have b7:=Qa ((a9.block _ (ae b7.out)).trans b7.out);clear a9;obtain⟨w2,e3⟩:∃x,wc=x:=⟨_,rfl⟩;rw [e3] at HR b6 b7 ⊢;clear e3;obtain⟨t0,t1,t2,t3,t4,t5,t6⟩:=be (t:=⟨tk,ta,tm,ts,⟨dn,dd,dx⟩⟩) b7.out;go_upto_region 4 with fail
  go_cut [32] (fun s32 wx=>(∃q:Bool,s32 = .bool q/\(q=false->tk≠5))/\w2=wx)
  case first=>
   by_cases e5:tk=5
   ·have e5': (tk==5)=true:=by simpa using e5
    clear e5;go_wp2_with fail;go_meet
    case rel=>exact⟨⟨_,rfl,fun h=>absurd h (by simp)⟩,rfl⟩
   have e5': (tk==5)=false:=by simpa using e5
   have E5:=Qa e5
   by_cases e1:tk=1
   ·have e1': (tk==1)=true:=by simpa using e1
    clear e5 e1;go_wp2_with fail;go_meet
    case rel=>exact⟨⟨_,rfl,fun _=>E5.out⟩,rfl⟩
   have e1': (tk==1)=false:=by simpa using e1
   clear e1 e5;go_wp2_with fail;go_meet
   case rel=>exact⟨⟨_,rfl,fun _=>E5.out⟩,rfl⟩
  case rest=>
   obtain⟨⟨q,rfl,hq⟩,rfl⟩:=hcut;have Hq:=Qa hq;clear hq;have wr:Calls Tryz.prog 92 #[.pointer (some ⟨rb,0,none⟩), .agg #[.int .i64 tk, .int .i64 ta, .int .u8 tm, .string ts, .bool dn, .string dd, .int .i64 dx]] w2 (jW xs rb w2 at_ k):=ft HR.out ⟨tk,ta,tm,ts,⟨dn,dd,dx⟩⟩;have Wr:=Qa wr;clear wr
   cases q
   case true=>
    go_wp2_with fail;refine Wr.out.mono ?_;rintro e w3 ⟨⟨v,rfl⟩,c,hc,c3,c4⟩;have Hc:=Qa hc;have c8:=Qa c3;have d2:=Qa (b6.out.trans c4);clear hc c3 c4;go_wp2_with fail;go_ret;exact⟨_,_,_,at_,k,c,rfl,c8.out,d2.out,Za _,fun h=>absurd h Hc.out⟩
   have c5:=Qa (Hk.out (Hq.out rfl));have c1:=Qa (show tk≠5 from Hq.out rfl);clear Wr Hk Hq;go_wp2_with fail;refine(sD HR.out d).mono ?_;rintro e w3 ⟨⟨v,rfl⟩,c,c3,c4⟩;have c0:=c4.row b7.out cF;obtain⟨u0,u1,u2,u3,u4,u5,u6⟩:=be (t:=⟨tk,ta,tm,ts,⟨dn,dd,dx⟩⟩) c0;have cc:=c3.code;have c8:=Qa c3;have d2:=Qa (b6.out.trans c4);have c6:=Qa c0;clear c3 c4 c0 t0 t1 t2 t3 t4 t5 t6
   by_cases hc:c=0
   case neg=>
    have e6: (c !=0)=true:=by simpa using hc
    have Hc:=Qa hc;clear hc;go_wp2_with fail;go_ret;exact⟨_,_,_,at_,k,c,rfl,c8.out,d2.out,Za _,fun h=>absurd h Hc.out⟩
   subst hc;go_wp2_with fail;refine(Mk.out 91 w3).mono ?_;rintro e w4 ⟨b1,rfl,e8,d0⟩;have g8:=Qa e8;have d6:=Qa (c8.out.below d0);have d4:=Qa (d2.out.trans (Rk.of_below d0 (Zi c8.out.lt)));have b8:=(d0.block _ (ae c6.out)).trans c6.out;have c7:=Qa b8;obtain⟨v0,v1,v2,v3,v4,v5,v6⟩:=be (t:=⟨tk,ta,tm,ts,⟨dn,dd,dx⟩⟩) b8;clear e8 d0 b8 u0 u1 u2 u3 u4 u5 u6 cc
   cases b1
   case true=>
    go_wp2_with fail;refine(HL.out (g8.out trivial) w4 k d d6.out c5.out).mono ?_;rintro e w5 ⟨A,n,q,at',k',c',rfl,e0,f8,hat,hj⟩;have HP:=Qa (show jA asc xs rb w at_ (tk≠5) (.returned (.slice A n q)) w5 from⟨A,n,q,at',k',c',rfl,e0,d4.out.trans f8,hat,fun h=>⟨c1.out,uK (hj h).2 d4.out.2.1⟩⟩);clear e0 f8 hat hj;go_wp2_with fail;go_ret;exact HP.out
   go_wp2_with fail;refine(Mk.out 123 w4).mono ?_;rintro e w5 ⟨b2,rfl,d9,d1⟩;have g2:=Qa d9;have f4:=Qa (d6.out.below d1);have b4:=Qa (d4.out.trans (Rk.of_below d1 (Zi d6.out.lt)));have b9:=(d1.block _ (ae c7.out)).trans c7.out;have g7:=Qa b9;obtain⟨x0,x1,x2,x3,x4,x5,x6⟩:=be (t:=⟨tk,ta,tm,ts,⟨dn,dd,dx⟩⟩) b9;clear d9 d1 b9 v0 v1 v2 v3 v4 v5 v6
   cases b2
   case true=>
    go_wp2_with fail;refine(HO.out (g2.out trivial) w5 k d f4.out c5.out).mono ?_;rintro e w6 ⟨A,n,q,at',k',c',rfl,c2,c9,hat,hj⟩;have HP:=Qa (show jA asc xs rb w at_ (tk≠5) (.returned (.slice A n q)) w6 from⟨A,n,q,at',k',c',rfl,c2,b4.out.trans c9,hat,fun h=>⟨c1.out,uK (hj h).2 b4.out.2.1⟩⟩);clear c2 c9 hat hj;go_wp2_with fail;go_ret;exact HP.out
   have lf:Calls Tryz.prog 122 #[.pointer (some ⟨rb,0,none⟩), .agg #[.int .i64 tk, .int .i64 ta, .int .u8 tm, .string ts, .bool dn, .string dd, .int .i64 dx]] w5 fun e w'=>AX xs rb w5 at_ k ⟨tk,ta,tm,ts,⟨dn,dd,dx⟩⟩ e w':=Bz f4.out ⟨tk,ta,tm,ts,⟨dn,dd,dx⟩⟩
   have LF:=Qa lf;clear lf;go_wp2_with fail;refine LF.out.mono ?_;rintro e w6 ⟨v,j,c,rfl,f5,d5,c2,c9⟩;have d3:=Qa c2;have f1:=Qa (b4.out.trans c9);have cc:=c2.code;have g5:∃A n q,v = .slice A n q:=by
    obtain⟨A,q,e,_⟩:=d5.form;exact⟨A,_,q,e⟩
   obtain⟨A,n,q,rfl⟩:=g5;have f0:=Qa f5;have g3:=Qa d5;clear c2 c9 f5 d5
   by_cases hc:c=0
   case neg=>
    have e6: (c !=0)=true:=by simpa using hc
    have Hc:=Qa hc;clear hc;go_wp2_with fail;go_ret;exact⟨_,_,_,at_,k,c,rfl,d3.out,f1.out,Za _,fun h=>absurd h Hc.out⟩
   subst hc;have b0:=ac w6 (.cells #[.int .i64 3, .int .i64 d, .int .i64 0, .string es, .slice A n q] 260);have b3:=d3.out.lt;obtain⟨a1,a2,a3,a4,a5,a6,a7,L,m,hh,l,us,w0,h1,h2,h3,h4,h5,h6,h7⟩:=d3.out;have c12:=aa h1 (j:=12) (u:= .slice a3 k a4) rfl;have g1:=(b0.block _ b3).trans h1;have H:=Qa (And.intro g1 (And.intro h2 (And.intro h3 (And.intro (h4.trans (b0.mono (Zi b3))) (And.intro (ap h5 b0 (Za _)) h6)))));have g0:=Qa (av w6 [.int .i64 3, .int .i64 d, .int .i64 0, .string es, .slice A n q] 260);have f6:=Qa b0;have g6:=Qa (show rb+1<=w6.heap.size from b3);have e2:=Qa h6;clear h1 h2 h3 h4 h5 h6 h7 b0 g1 b3;go_wp2_with (at_builtin;refine ar jn rfl (.tmp 68) (.tmp 72) rfl (rb+1) (.slice a3 k a4) k w6.heap.size 1 1 us [.int .i64 3, .int .i64 d, .int .i64 0, .string es, .slice A n q] (by simp [Act.eval]) H.out.2.2.2.2.1 (by simp [Act.eval]) rfl g0.out (by simp [Value.oneCell']) (by have:=c5.out;have:=e2.out;unfold maxLen;omega) (by have:=c5.out;have:=e2.out;omega) (Zb g6.out f6.out.size) ?_;intro v' w7 p1 p2 p3;have g4:=Qa p1;have f9:=Qa p2;(obtain⟨A',c',he, -⟩:=ag p1);subst he;have a0:=jo H.out.1 H.out.2.1 H.out.2.2.1 H.out.2.2.2.1 H.out.2.2.2.2.1 H.out.2.2.2.2.2 c5.out g4.out f9.out;have r12:=aa a0.1 (j:=12) (u:= .slice a3 k a4) rfl;have f12:=aj a0.1 12;have e4:=Qa a0;clear p1 p2 p3 a0);go_ret;have b5:=(Rk.of_below f6.out (Zi d3.out.lt)).trans e4.out.2.2;exact⟨A,n,q,at_,k+1,0,rfl,e4.out.2.1,f1.out.trans b5,Za _,fun _=>⟨c1.out,j,bK.of_leaf f0.out H8.out,(g3.out.keeps b5.2 gF kz kE).imp (fun g h _=>Zb b4.out.2.1 h),by rw [Lf.size f0.out];omega⟩⟩
theorem lg:∀ (l:List JV) (p q:Nat),q∈bi p l->q<=p+JV.sizes l
 | [],p,q,h=>by simp [bi] at h
 | v::vs,p,q,h=>by
  simp only [bi,List.mem_cons] at h;simp only [JV.sizes];rcases h with rfl | h
  ·omega
  ·have:=lg vs (p+v.size) q h;omega
theorem pV (l:List JV):l.length<=JV.sizes l:=cW l
theorem nL {asc:List ByteArray->Prop}{v:JV}(h:bK asc v):∀p,∀x∈v.flat p,x.names.length<=v.size/\∀q∈x.kids,q<=p+v.size:=by
 have key:∀ (ks:List JV),(∀u∈ks,∀p,∀x∈u.flat p,x.names.length<=u.size/\∀q∈x.kids,q<=p+u.size)->∀p,∀y∈JV.flats p ks,y.names.length<=JV.sizes ks/\∀q∈y.kids,q<=p+JV.sizes ks:=by
  intro ks
  induction ks with
  | nil=>intro _ p y h;simp [JV.flats] at h
  | cons v vs ih=>
   intro hu p y h;simp only [JV.flats,List.mem_append] at h;simp only [JV.sizes];rcases h with h | h
   ·have ⟨h1,h2⟩:=hu v (by simp) p y h
    exact⟨by omega,fun q hq=>by have:=h2 q hq;omega⟩
   ·have ⟨h1,h2⟩:=ih (fun u hm=>hu u (Zl _ hm)) (p+v.size) y h
    exact⟨by omega,fun q hq=>by have:=h2 q hq;omega⟩
 induction h with
 | null | bool b | num d _ _ | text s _=>intro p x hx;simp [JV.flat,JV.flats,bi] at hx;subst hx;simp
 | list ks hks ih=>
  intro p x hx;simp only [JV.flat,List.mem_cons] at hx;simp only [JV.size];rcases hx with rfl | hx
  ·exact⟨by simp,fun q hq=>by have:=lg ks (p+1) q hq;omega⟩
  ·have ⟨h1,h2⟩:=key ks ih (p+1) x hx
   exact⟨by omega,fun q hq=>by have:=h2 q hq;omega⟩
 | obj ns ks hl h8 ha hks ih=>
  intro p x hx;simp only [JV.flat,List.mem_cons] at hx;simp only [JV.size];rcases hx with rfl | hx
  ·have:=pV ks
   exact⟨by show ns.length<=_;omega,fun q hq=>by have:=lg ks (p+1) q hq;omega⟩
  ·have ⟨h1,h2⟩:=key ks ih (p+1) x hx
   exact⟨by omega,fun q hq=>by have:=h2 q hq;omega⟩
def mm (len rb:Nat)(wr:World):Nat:=2* (len - (intOf ((wr.cell? ⟨rb,1,none⟩).getD undef)).toNat)+ (if intOf ((wr.cell? ⟨rb,13,none⟩).getD undef)=0 then 1 else 0)
theorem Rd.mu {c:Int}(h:Rd xs rb w at_ k c):mm xs.length rb w=2* (xs.length - at_)+ (if c=0 then 1 else 0):=by
 have hc:=h.code;obtain⟨a1,a2,a3,a4,a5,a6,a7,L,m,hh,l,us,w0,h1,_⟩:=h;have a0:=aa h1 (j:=1) (u:= .int .i64 at_) rfl;unfold mm;rw [a0,hc]
 by_cases h:c=0 <;> simp [intOf,h]
