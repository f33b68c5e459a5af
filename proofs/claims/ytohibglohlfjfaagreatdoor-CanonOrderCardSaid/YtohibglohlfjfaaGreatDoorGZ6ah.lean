import Derived.Test.YtohibglohlfjfaaGreatDoorGZ6ag
set_option linter.unusedVariables false
set_option linter.unusedSimpArgs false
set_option maxHeartbeats 64000000
set_option maxRecDepth 100000
namespace Go.Proofs.YtohibglohlfjfaaGreatDoor
open Go.RowKit
variable {D:Array Value}{c0:Int}{bf q:Nat}{u y1 y2 y3:Value}{w w0:World}
def JQ (X:Int)(w:World)(e:Ending)(w':World):Prop:=(∃b:Bool,e =.returned (.bool b)/\(b=true->48<=X/\X<=57))/\w=w'
theorem og (X:Int)(w:World):Calls Tryz.prog 205 #[.int .u8 X] w (JQ X w):=by
 by_cases h1:48<=X
 ·by_cases h2:X<=57
  ·go_enter Tryz.func205,Tryz.ntmps205;go_wp2;go_ret;exact⟨⟨_,rfl,fun _=>⟨h1,h2⟩⟩,rfl⟩
  ·go_enter Tryz.func205,Tryz.ntmps205;go_wp2;go_ret;exact⟨⟨_,rfl,fun h=>by simp_all⟩,rfl⟩
 ·go_enter Tryz.func205,Tryz.ntmps205;go_wp2;go_ret;exact⟨⟨_,rfl,fun h=>by simp_all⟩,rfl⟩
def Jn (X:Int)(w:World)(e:Ending)(w':World):Prop:=(∃t:Int,e =.returned (.int .i64 t)/\1<=t/\t<=9/\(t=8->48<=X/\X<=57))/\w=w'
theorem zu (s X:Int)(w:World):Calls Tryz.prog 185 #[.int .i64 s,.int .u8 X] w (Jn X w):=by
 go_enter Tryz.func185,Tryz.ntmps185;go_wp2_with fail;refine(og X w).mono ?_;rintro e w' ⟨⟨b,rfl,hb⟩,rfl⟩;have Hb:=Qa hb;clear hb
 cases b
 ·go_wp2_with fail
  all_goals
   go_ret;exact⟨⟨_,rfl,by omega,by omega,fun h=>by cases h⟩,rfl⟩
 ·have a0:=Qa (Hb.out rfl);go_wp2_with fail
  all_goals
   go_ret;exact⟨⟨_,rfl,by omega,by omega,fun _=>a0.out⟩,rfl⟩
theorem fv {fn:Func}{p q:Tmp}(h:fn.results = #[.cell p 67,.cell q 62])(tmps:Array Value)(w:World)(g1 g:Nat)(t1 t:TypeId)(d0 d1 d2 c0 c1 c2 c3:Value)(fr1 fr:Nat×Nat)
  (a2:tmps.getD p undef =.pointer (some ⟨g1,0,none⟩)) (a4:w.heap[g1]?=some (.cells #[d0,d1,d2] t1 fr1))
  (hp:tmps.getD q undef =.pointer (some ⟨g,0,none⟩)) (hg:w.heap[g]?=some (.cells #[c0,c1,c2,c3] t fr)) :
  (results fn tmps).run Tryz.prog w =.ok (.tuple #[.agg #[d0,d1,d2],.agg #[c0,c1,c2,c3]]) w:=by
 have a0:tmps[p]?.getD undef =.pointer (some ⟨g1,0,none⟩):=by simpa using a2
 have a3:tmps[q]?.getD undef =.pointer (some ⟨g,0,none⟩):=by simpa using hp
 have a1:=run_loadVar_row (P:=Tryz.prog) w g1 t1 67 #[d0,d1,d2] fr1 _ a4 Tryz.underlying67 rfl (by kernel_rfl);have hl:=run_loadVar_row (P:=Tryz.prog) w g t 62 #[c0,c1,c2,c3] fr _ hg Tryz.underlying62 rfl bi;simp[results,h,a0,a3,asAddr,a1,hl]
theorem dk {k x2:Int}{x0:Bool}{x1:ByteArray}{bd:Nat}(hu:dE w k u)(hd:w.heap[bd]?=some (.cells #[.bool x0,.string x1,.int .i64 x2] 67 (0,0)))(hf:w.heap[bf]?=some (.cells #[.int .i64 c0,y1,y2,y3] 62 (0,0)))(a5:w0.heap.size<=bd)(a4:w0.heap.size<=bf)(hb:Below w0.heap.size w0 w) :
  ∃h l A q r,u =.agg #[.int .i64 k,.int .i64 h,.int .i64 l,.slice A q r]/\(w.setRow bd D).heap[bf]?=some (.cells #[.int .i64 c0,y1,y2,y3] 62 (0,0))/\((w.setRow bd D).setRow bf #[.int .i64 k,.int .i64 h,.int .i64 l,.slice A q r]).heap[bd]?=some (.cells D 67 (0,0))/\
   ((w.setRow bd D).setRow bf #[.int .i64 k,.int .i64 h,.int .i64 l,.slice A q r]).heap[bf]?=some (.cells #[.int .i64 k,.int .i64 h,.int .i64 l,.slice A q r] 62 (0,0))/\
   dE ((w.setRow bd D).setRow bf #[.int .i64 k,.int .i64 h,.int .i64 l,.slice A q r]) k u/\Below w0.heap.size w0 ((w.setRow bd D).setRow bf #[.int .i64 k,.int .i64 h,.int .i64 l,.slice A q r]):=by
 have hne:bd≠bf:=fun e=>by subst e;rw[hd] at hf;cases hf
 have a3:dE (w.setRow bd D) k u:=by
  obtain⟨h,l,s,rfl,hs⟩:=hu;refine⟨h,l,s,rfl,?_⟩;rcases hs with e|⟨g,c',b',p,s',e,h1,h2,h3⟩
  ·exact .inl e
  ·have hne:some g≠some bd:=fun e'=>by
    injection e' with e';subst e'
    have a2:=h2;unfold World.cell? at a2;simp[hd] at a2
   exact .inr ⟨g,c',b',p,s',e,(ah w _ _).cell h1 hne,(ah w _ _).cell h2 hne,(ah w _ _).cell h3 hne⟩
 have a0:(w.setRow bd D).heap[bf]?=some (.cells #[.int .i64 c0,y1,y2,y3] 62 (0,0)):=(setRow_other w bd bf D (Ne.symm hne)).trans hf;obtain⟨h,l,A,q,r,e,h1,h2⟩:=bH a3 a0;refine⟨h,l,A,q,r,e,a0,?_,setRow_heap _ _ _ _ _ _ a0,h2,?_⟩
 ·exact(setRow_other _ bf bd _ hne).trans (setRow_heap _ _ _ _ _ _ hd)
 ·have a1:Below w0.heap.size w0 (w.setRow bd D):=hb.grown (ah ..) hb.size (fun g e=>by cases e;exact a5);exact a1.grown (ah ..) a1.size (fun g e=>by cases e;exact a4)
theorem eK (c:Int)(w:World):Calls Tryz.prog 80 #[.int .i64 c] w fun e w'=>e =.returned (dA c 0 0 (.slice none 0 0))/\Below w.heap.size w w':=by
 go_enter Tryz.func80,Tryz.ntmps80;go_wp2;exact Zh (results_cell_row Tryz.results80 _ _ w.heap.size 62 #[.int .i64 c,.int .i64 0,.int .i64 0,.slice none 0 0] (0,0) _ (by simp) (Zf w _) Tryz.underlying62 rfl bi) rfl ⟨rfl,ac _ _⟩
def rI (neg:Bool)(s:ByteArray)(x:Int)(d:Dc):Prop:=0<s.size/\(∀i (h:i<s.size),48<=s[i].toNat/\s[i].toNat<=57)/\(((∀i (h:i<s.size),s[i].toNat=48)/\d= ⟨false,⟨#[48]⟩,0⟩)\/∃p q,p<q/\q<=s.size/\(∀i (h:i<s.size),i<p->s[i].toNat=48)/\(∀h:p<s.size,s[p].toNat≠48)/\(∀h:q - 1<s.size,s[q - 1].toNat≠48)/\(∀i (h:i<s.size),q<=i->s[i].toNat=48)/\d= ⟨neg,s.extract p q,x+s.size - q⟩/\ -1000000000<=d.exp/\d.exp<=1000000000)
def Ja (neg:Bool)(s:ByteArray)(x:Int)(w:World)(e:Ending)(w':World):Prop:= ∃ (d:Dc) (c:Int),e =.returned (.tuple #[Iy d,dA c 0 0 (.slice none 0 0)])/\Below w.heap.size w w'/\d.digits.size<=s.size+1/\(c=0->rI neg s x d)
def I3 (s:ByteArray)(w:World)(s8:Value)(wr:World):Prop:= ∃k:Nat,k<=s.size/\s8 =.int .i64 k/\w=wr/\(∀i (h:i<s.size),i<k->48<=s[i].toNat/\s[i].toNat<=57)
def IE (s:ByteArray)(w:World)(s8:Value)(wr:World):Prop:= ∃k:Nat,k<=s.size/\s8 =.int .i64 k/\w=wr/\(∀i (h:i<s.size),i<k->s[i].toNat=48)
def IF (p:Nat)(s:ByteArray)(w:World)(s12:Value)(wr:World):Prop:= ∃q:Nat,p<q/\q<=s.size/\s12 =.int .i64 q/\w=wr/\(∀i (h:i<s.size),q<=i->s[i].toNat=48)
theorem wT {s:ByteArray}{k:Nat}(hk:k<s.size)(h:∀i (h:i<s.size),i<k->48<=s[i].toNat/\s[i].toNat<=57)(hd:48<=s[k].toNat/\s[k].toNat<=57):∀i (h:i<s.size),i<k+1->48<=s[i].toNat/\s[i].toNat<=57:=by
 intro i hi hlt
 by_cases e:i=k
 ·subst e;exact hd
 ·exact h i hi (by omega)
theorem xE {s:ByteArray}{k:Nat}(hk:k<s.size)(h:∀i (h:i<s.size),i<k->s[i].toNat=48)(hd:s[k].toNat=48):∀i (h:i<s.size),i<k+1->s[i].toNat=48:=by
 intro i hi hlt
 by_cases e:i=k
 ·subst e;exact hd
 ·exact h i hi (by omega)
theorem wD {s:ByteArray}(hq:q - 1<s.size)(h:∀i (h:i<s.size),q<=i->s[i].toNat=48)(hd:s[q - 1].toNat=48):∀i (h:i<s.size),q - 1<=i->s[i].toNat=48:=by
 intro i hi hlt
 by_cases e:i=q - 1
 ·subst e;exact hd
 ·exact h i hi (by omega)
theorem vH (neg:Bool)(s:ByteArray)(x:Int)(hs:s.size<=1000000)(w:World):Calls Tryz.prog 186 #[.bool neg,.string s,.int .i64 x] w (Ja neg s x w):=by
 have d9:=Zf w (.cells #[.bool false,.string es,.int .i64 0] 67);have c2:=Zf (w.alloc (.cells #[.bool false,.string es,.int .i64 0] 67)) (.cells #[.int .i64 0,.int .i64 0,.int .i64 0,.slice none 0 0] 62);rw[World.size_alloc] at c2;have d0:Below w.heap.size w ((w.alloc (.cells #[.bool false,.string es,.int .i64 0] 67)).alloc (.cells #[.int .i64 0,.int .i64 0,.int .i64 0,.slice none 0 0] 62)):=((Ze _ _).alloc (Zb _) _).alloc (by simp) _;have b5:((w.alloc (.cells #[.bool false,.string es,.int .i64 0] 67)).alloc (.cells #[.int .i64 0,.int .i64 0,.int .i64 0,.slice none 0 0] 62)).heap[w.heap.size]?=some (.cells #[.bool false,.string es,.int .i64 0] 67 (0,0)):=(Below.heap_alloc _ _ _ (by simp)).trans d9;have b3:=Qa b5;have b0:=Qa c2;have b1:=Qa d0;clear d9 b5 c2 d0;go_enter Tryz.func186,Tryz.ntmps186
 by_cases h0:s=es
 ·subst h0;go_wp2_with fail;generalize (w.alloc (.cells #[.bool false,.string es,.int .i64 0] 67)).alloc (.cells #[.int .i64 0,.int .i64 0,.int .i64 0,.slice none 0 0] 62)=w0 at *;refine(eK 107 w0).mono ?_;rintro e wz ⟨rfl,a3⟩;have hu:dE wz 107 (dA 107 0 0 (.slice none 0 0)):=⟨0,0,_,rfl,.inl rfl⟩;rw[show dA 107 0 0 (.slice none 0 0) =.agg #[.int .i64 107,.int .i64 0,.int .i64 0,.slice none 0 0] from rfl];have a9:=Qa ((a3.block _ (ae b3.out)).trans b3.out);have b4:=Qa ((a3.block _ (ae b0.out)).trans b0.out);obtain⟨gh,gl',gA,gq,gr,a1,h3,h4,h5,h1,h2⟩:=dk (D:= #[.bool false,.string es,.int .i64 0]) hu a9.out b4.out (Zb _) (by omega) (b1.out.trans (a3.mono b1.out.size));injection a1 with a1
  obtain⟨rfl,rfl,a1⟩:0=gh/\0=gl'/\Value.slice none 0 0=Value.slice gA gq gr:=by simpa using a1
  obtain⟨rfl,rfl,rfl⟩:none=gA/\0=gq/\0=gr:=by simpa using a1
  have H1:=Qa h1;have H2:=Qa h2;have H3:=Qa h3;have H4:=Qa h4;have H5:=Qa h5;clear h1 h2 h3 h4 h5 hu a3 a1;go_wp2_with (first
   |(refine bF a9.out ?_)
   |(refine bF H3.out ?_))
  have h4:=H4.out;have h5:=H5.out;exact Zh (fv Tryz.results186 _ _ _ _ _ _ _ _ _ _ _ _ _ (0,0) (0,0) rfl h4 rfl h5) rfl ⟨⟨false,es,0⟩,107,rfl,H2.out,Zc (Nat.le_of_eq (rfl:es.size=0)) (Zk _),fun hc=>absurd hc (by decide)⟩
 have d6:¬s.toList = []:=fun h=>h0 (yU.1 (h.trans (by rw[ByteArray.toList_eq])))
 have f9:s.toList.isEmpty=false:=by simpa using d6
 have e3:Hid (0<s.size):=Qa (by rcases Nat.eq_zero_or_pos s.size with h|h;exact absurd (by rw[ByteArray.toList_eq];exact List.eq_nil_of_length_eq_zero h) d6;exact h);clear h0;go_wp2_with fail;generalize (w.alloc (.cells #[.bool false,.string es,.int .i64 0] 67)).alloc (.cells #[.int .i64 0,.int .i64 0,.int .i64 0,.slice none 0 0] 62)=w0 at *
 go_loopw [8] (I3 s w0) (fun i _=>s.size - (intOf i).toNat)
 case atStart=>exact⟨0,by omega,rfl,rfl,fun i hi h0=>absurd h0 (Nat.not_lt_zero _)⟩
 case round=>
  obtain⟨k,hk,rfl,rfl,hA⟩:=hrel;have HA:=Qa hA;clear hA
  by_cases hlt:k<s.size
  ·have hki:(k:Int)<s.size:=by omega
   go_wp2_with fail;refine(og _ w0).mono ?_;rintro e w' ⟨⟨b,rfl,d3⟩,rfl⟩;have e0:=Qa d3;clear d3
   cases b
   ·go_wp2_with fail;refine(eK 107 w0).mono ?_;rintro e wz ⟨rfl,a3⟩;have hu:dE wz 107 (dA 107 0 0 (.slice none 0 0)):=⟨0,0,_,rfl,.inl rfl⟩;rw[show dA 107 0 0 (.slice none 0 0) =.agg #[.int .i64 107,.int .i64 0,.int .i64 0,.slice none 0 0] from rfl];have a9:=Qa ((a3.block _ (ae b3.out)).trans b3.out);have b4:=Qa ((a3.block _ (ae b0.out)).trans b0.out);obtain⟨gh,gl',gA,gq,gr,a1,h3,h4,h5,h1,h2⟩:=dk (D:= #[.bool false,.string es,.int .i64 0]) hu a9.out b4.out (Zb _) (by omega) (b1.out.trans (a3.mono b1.out.size));injection a1 with a1
    obtain⟨rfl,rfl,a1⟩:0=gh/\0=gl'/\Value.slice none 0 0=Value.slice gA gq gr:=by simpa using a1
    obtain⟨rfl,rfl,rfl⟩:none=gA/\0=gq/\0=gr:=by simpa using a1
    have H1:=Qa h1;have H2:=Qa h2;have H3:=Qa h3;have H4:=Qa h4;have H5:=Qa h5;clear h1 h2 h3 h4 h5 hu a3 a1;go_wp2_with (first
     |(refine bF a9.out ?_)
     |(refine bF H3.out ?_))
    have h4:=H4.out;have h5:=H5.out;exact Zh (fv Tryz.results186 _ _ _ _ _ _ _ _ _ _ _ _ _ (0,0) (0,0) rfl h4 rfl h5) rfl ⟨⟨false,es,0⟩,107,rfl,H2.out,Zc (Nat.le_of_eq (rfl:es.size=0)) (Zk _),fun hc=>absurd hc (by decide)⟩
   ·go_wp2_with fail;exact⟨⟨k+1,by omega,by go_num,rfl,wT hlt HA.out (by have:=e0.out (by trivial);omega)⟩,by simp[intOf];omega⟩
  obtain rfl:k=s.size:=by omega
  have hki:¬ (s.size:Int)<s.size:=by omega
  go_wp2_with fail;refine(eK 0 w0).mono ?_;rintro e w1 ⟨rfl,b8⟩;have d4:Wr w1 (.slice none 0 0):=.inl rfl;rw[show dA 0 0 0 (.slice none 0 0) =.agg #[.int .i64 0,.int .i64 0,.int .i64 0,.slice none 0 0] from rfl];have c6:=ac w1 (.cells #[.int .i64 0,.int .i64 0,.int .i64 0,.slice none 0 0] 62);have b7:=ap w1 [.int .i64 0,.int .i64 0,.int .i64 0,.slice none 0 0] 62;have c8:=b7 0 _ rfl;have d5:=b7 1 _ rfl;have d1:=b7 2 _ rfl;have d2:=b7 3 _ rfl;have Hu:=Qa (show dE (w1.alloc (.cells #[.int .i64 0,.int .i64 0,.int .i64 0,.slice none 0 0] 62)) 0 (dA 0 0 0 (.slice none 0 0)) from⟨0,0,_,rfl,d4.below c6⟩);have a7:=b8.trans (c6.mono b8.size);have b9:=Qa (b1.out.trans (a7.mono b1.out.size));have b2:=Qa ((a7.block _ (ae b3.out)).trans b3.out);have c0:=Qa ((a7.block _ (ae b0.out)).trans b0.out);have e8:w.heap.size+1<w1.heap.size:=Nat.lt_of_lt_of_le (ae b0.out) b8.size;clear b7 c6 b8 d4 a7;have a0:=Qa (show(w1.alloc (.cells #[.int .i64 0,.int .i64 0,.int .i64 0,.slice none 0 0] 62)).cell? ⟨w1.heap.size,0,none⟩=some (.int .i64 0)/\(w1.alloc (.cells #[.int .i64 0,.int .i64 0,.int .i64 0,.slice none 0 0] 62)).cell? ⟨w1.heap.size,1,none⟩=some (.int .i64 0)/\(w1.alloc (.cells #[.int .i64 0,.int .i64 0,.int .i64 0,.slice none 0 0] 62)).cell? ⟨w1.heap.size,2,none⟩=some (.int .i64 0)/\(w1.alloc (.cells #[.int .i64 0,.int .i64 0,.int .i64 0,.slice none 0 0] 62)).cell? ⟨w1.heap.size,3,none⟩=some (.slice none 0 0) from⟨c8,d5,d1,d2⟩);clear c8 d5 d1 d2;go_wp2_with fail;generalize (w1.alloc (.cells #[.int .i64 0,.int .i64 0,.int .i64 0,.slice none 0 0] 62))=w2 at *;generalize w1.heap.size=fb at *
  go_loopw [11] (IE s w2) (fun i _=>s.size - (intOf i).toNat)
  case atStart=>exact⟨0,by omega,rfl,rfl,fun i hi h0=>absurd h0 (Nat.not_lt_zero _)⟩
  case round=>
   obtain⟨p,hp,rfl,rfl,hZ⟩:=hrel;have HZ:=Qa hZ;clear hZ
   by_cases hlt2:p<s.size
   ·have f2:(p:Int)<s.size:=by omega
    by_cases h48:s[p].toNat=48
    ·have c1:((s[p].toNat:Int)==48)=true:=by simp;omega
     have e5:=Qa (xE hlt2 HZ.out h48);clear h48;go_wp2_with fail;exact⟨⟨p+1,by omega,by go_num,rfl,e5.out⟩,by simp[intOf];omega⟩
    ·have c1:((s[p].toNat:Int)==48)=false:=by simp;omega
     have c9:=Qa h48;have f5:((p:Int)==s.size)=false:=by simp;omega
     clear h48;go_wp2_with fail
     go_loopw [12] (IF p s w2) (fun i _=>(intOf i).toNat)
     case atStart=>exact⟨s.size,by omega,by omega,rfl,rfl,fun i hi h0=>absurd hi (by omega)⟩
     case round=>
      obtain⟨q,g0,f4,rfl,rfl,hD⟩:=hrel;have HD:=Qa hD;clear hD;have e6:q - 1<s.size:=by omega
      have g1:(q:Int) - 1<s.size:=by omega
      have f3:1<=(q:Int):=by omega
      by_cases z48:s[q - 1].toNat=48
      ·have g2:q - 1≠p:=fun e=>c9.out (by subst e;exact z48)
       have z48':((s[q - 1].toNat:Int)==48)=true:=by simp;omega
       have e1:=Qa (wD e6 HD.out z48);clear z48;go_wp2_with fail;exact⟨⟨q - 1,by omega,by omega,by congr 1;omega,rfl,e1.out⟩,by simp[intOf];omega⟩
      ·have z48':((s[q - 1].toNat:Int)==48)=false:=by simp;omega
       have c3:=Qa z48;clear z48;have f1:p<=q:=by omega
       have f0:(p:Int)<=q:=by omega
       have e4:(q:Int)<=s.size:=by omega
       have c7:(s.extract p q).size<=s.size+1:=by simp[ByteArray.size_extract];omega
       have e2:=Qa c7;clear c7;go_wp2_with fail;have f8:p<=q:=by omega
       have f6:q<=s.size:=f4
       all_goals first
        |(with_reducible refine(eK 108 w2).mono ?_
          rintro e wz ⟨rfl,a3⟩;have hu:dE wz 108 (dA 108 0 0 (.slice none 0 0)):=⟨0,0,_,rfl,.inl rfl⟩;rw[show dA 108 0 0 (.slice none 0 0) =.agg #[.int .i64 108,.int .i64 0,.int .i64 0,.slice none 0 0] from rfl];have a9:=Qa ((a3.block _ (ae b2.out)).trans b2.out);have b4:=Qa ((a3.block _ (ae c0.out)).trans c0.out);obtain⟨gh,gl',gA,gq,gr,a1,h3,h4,h5,h1,h2⟩:=dk (D:= #[.bool false,.string es,.int .i64 0]) hu a9.out b4.out (Zb _) (by omega) (b9.out.trans (a3.mono b9.out.size));injection a1 with a1
          obtain⟨rfl,rfl,a1⟩:0=gh/\0=gl'/\Value.slice none 0 0=Value.slice gA gq gr:=by simpa using a1
          obtain⟨rfl,rfl,rfl⟩:none=gA/\0=gq/\0=gr:=by simpa using a1
          have H1:=Qa h1;have H2:=Qa h2;have H3:=Qa h3;have H4:=Qa h4;have H5:=Qa h5;clear h1 h2 h3 h4 h5 hu a3 a1;go_wp2_with (first
           |(refine bF a9.out ?_)
           |(refine bF H3.out ?_))
          have h4:=H4.out;have h5:=H5.out;exact Zh (fv Tryz.results186 _ _ _ _ _ _ _ _ _ _ _ _ _ (0,0) (0,0) rfl h4 rfl h5) rfl ⟨⟨false,es,0⟩,108,rfl,H2.out,Zc (Nat.le_of_eq (rfl:es.size=0)) (Zk _),fun hc=>absurd hc (by decide)⟩
         )
        |(skip
          obtain⟨gh,gl',gA,gq,gr,a1,h3,h4,h5,h1,h2⟩:=dk (w:=w2.drew) (D:= #[.bool neg,.string (s.extract p q),.int .i64 (x+s.size - q)]) Hu.out b2.out c0.out (Zb _) (by omega) (b9.out.drew);injection a1 with a1
          obtain⟨rfl,rfl,a1⟩:0=gh/\0=gl'/\Value.slice none 0 0=Value.slice gA gq gr:=by simpa using a1
          obtain⟨rfl,rfl,rfl⟩:none=gA/\0=gq/\0=gr:=by simpa using a1
          have H1:=Qa h1;have H2:=Qa h2;have H3:=Qa h3;have H4:=Qa h4;have H5:=Qa h5;have a6:some (fb)≠some (w.heap.size):=fun e=>by injection e with e;omega
          have a5:some (fb)≠some (w.heap.size+1):=fun e=>by injection e with e;omega
          have a4:(w2.drew.setRow w.heap.size #[.bool neg,.string (s.extract p q),.int .i64 (x+s.size - q)]).cell? ⟨fb,0,none⟩=some (.int .i64 0)/\(w2.drew.setRow w.heap.size #[.bool neg,.string (s.extract p q),.int .i64 (x+s.size - q)]).cell? ⟨fb,1,none⟩=some (.int .i64 0)/\(w2.drew.setRow w.heap.size #[.bool neg,.string (s.extract p q),.int .i64 (x+s.size - q)]).cell? ⟨fb,2,none⟩=some (.int .i64 0)/\(w2.drew.setRow w.heap.size #[.bool neg,.string (s.extract p q),.int .i64 (x+s.size - q)]).cell? ⟨fb,3,none⟩=some (.slice none 0 0):=⟨(ah _ _ _).cell a0.out.1 a6,(ah _ _ _).cell a0.out.2.1 a6,(ah _ _ _).cell a0.out.2.2.1 a6,(ah _ _ _).cell a0.out.2.2.2 a6⟩;have b6:((w2.drew.setRow w.heap.size #[.bool neg,.string (s.extract p q),.int .i64 (x+s.size - q)]).setRow (w.heap.size+1) #[.int .i64 0,.int .i64 0,.int .i64 0,.slice none 0 0]).cell? ⟨fb,0,none⟩=some (.int .i64 0)/\((w2.drew.setRow w.heap.size #[.bool neg,.string (s.extract p q),.int .i64 (x+s.size - q)]).setRow (w.heap.size+1) #[.int .i64 0,.int .i64 0,.int .i64 0,.slice none 0 0]).cell? ⟨fb,1,none⟩=some (.int .i64 0)/\((w2.drew.setRow w.heap.size #[.bool neg,.string (s.extract p q),.int .i64 (x+s.size - q)]).setRow (w.heap.size+1) #[.int .i64 0,.int .i64 0,.int .i64 0,.slice none 0 0]).cell? ⟨fb,2,none⟩=some (.int .i64 0)/\((w2.drew.setRow w.heap.size #[.bool neg,.string (s.extract p q),.int .i64 (x+s.size - q)]).setRow (w.heap.size+1) #[.int .i64 0,.int .i64 0,.int .i64 0,.slice none 0 0]).cell? ⟨fb,3,none⟩=some (.slice none 0 0):=⟨(ah _ _ _).cell a4.1 a5,(ah _ _ _).cell a4.2.1 a5,(ah _ _ _).cell a4.2.2.1 a5,(ah _ _ _).cell a4.2.2.2 a5⟩;have c4:=Qa a4;have c5:=Qa b6;clear h1 h2 h3 h4 h5 a1 a6 a5 a4 b6;refine aA (fun w'=>w'.cell? ⟨fb,0,none⟩=some (.int .i64 0)/\w'.cell? ⟨fb,1,none⟩=some (.int .i64 0)/\w'.cell? ⟨fb,2,none⟩=some (.int .i64 0)/\w'.cell? ⟨fb,3,none⟩=some (.slice none 0 0)) (a0.out) fun a2=>?_
          refine tH 0 a2 ?_;refine tH 1 a2 ?_;refine tH 2 a2 ?_;refine tH 3 a2 ?_;refine tH 4 a2 ?_;refine tH 5 a2 ?_
          try simp only[Act.put,jP,jQ,jR]
          refine tH 6 a2 ?_;refine tH 7 a2 ?_
          try simp only[Act.put,jP,jQ,jR]
          refine rH 8 fun K hK=>?_
          refine bM b2.out ?_;refine hK.out _ _ (c4.out) (fun a2=>?_);clear hK K
          try simp only[Act.put,jP,jQ,jR]
          refine rH 9 fun K hK=>?_
          refine bM H3.out ?_;refine hK.out _ _ (c5.out) (fun a2=>?_);clear hK K
          try simp only[Act.put,jP,jQ,jR]
          refine wpAnyH_done (by kernel_rfl) (NoPanic.normal ?_) _;go_wp2_with fail;have h4:=H4.out;have h5:=H5.out;exact Zh (fv Tryz.results186 _ _ _ _ _ _ _ _ _ _ _ _ _ (0,0) (0,0) rfl h4 rfl h5) rfl ⟨⟨neg,s.extract p q,x+s.size - q⟩,0,rfl,H2.out,e2.out,fun _=>⟨by omega,fun i hi=>HA.out i hi hi,.inr ⟨p,q,by omega,by omega,HZ.out,fun _=>c9.out,fun _=>c3.out,HD.out,rfl,by dsimp only;omega,by dsimp only;omega⟩⟩⟩
         )
   ·have f2:¬ (p:Int)<s.size:=by omega
    obtain rfl:p=s.size:=by omega
    go_wp2_with fail;obtain⟨gh,gl',gA,gq,gr,a1,h3,h4,h5,h1,h2⟩:=dk (w:=w2.drew) (D:= #[.bool false,.string ⟨#[48]⟩,.int .i64 0]) Hu.out b2.out c0.out (Zb _) (by omega) (b9.out.drew);injection a1 with a1
    obtain⟨rfl,rfl,a1⟩:0=gh/\0=gl'/\Value.slice none 0 0=Value.slice gA gq gr:=by simpa using a1
    obtain⟨rfl,rfl,rfl⟩:none=gA/\0=gq/\0=gr:=by simpa using a1
    have H1:=Qa h1;have H2:=Qa h2;have H3:=Qa h3;have H4:=Qa h4;have H5:=Qa h5;have a6:some (fb)≠some (w.heap.size):=fun e=>by injection e with e;omega
    have a5:some (fb)≠some (w.heap.size+1):=fun e=>by injection e with e;omega
    have a4:(w2.drew.setRow w.heap.size #[.bool false,.string ⟨#[48]⟩,.int .i64 0]).cell? ⟨fb,0,none⟩=some (.int .i64 0)/\(w2.drew.setRow w.heap.size #[.bool false,.string ⟨#[48]⟩,.int .i64 0]).cell? ⟨fb,1,none⟩=some (.int .i64 0)/\(w2.drew.setRow w.heap.size #[.bool false,.string ⟨#[48]⟩,.int .i64 0]).cell? ⟨fb,2,none⟩=some (.int .i64 0)/\(w2.drew.setRow w.heap.size #[.bool false,.string ⟨#[48]⟩,.int .i64 0]).cell? ⟨fb,3,none⟩=some (.slice none 0 0):=⟨(ah _ _ _).cell a0.out.1 a6,(ah _ _ _).cell a0.out.2.1 a6,(ah _ _ _).cell a0.out.2.2.1 a6,(ah _ _ _).cell a0.out.2.2.2 a6⟩;have b6:((w2.drew.setRow w.heap.size #[.bool false,.string ⟨#[48]⟩,.int .i64 0]).setRow (w.heap.size+1) #[.int .i64 0,.int .i64 0,.int .i64 0,.slice none 0 0]).cell? ⟨fb,0,none⟩=some (.int .i64 0)/\((w2.drew.setRow w.heap.size #[.bool false,.string ⟨#[48]⟩,.int .i64 0]).setRow (w.heap.size+1) #[.int .i64 0,.int .i64 0,.int .i64 0,.slice none 0 0]).cell? ⟨fb,1,none⟩=some (.int .i64 0)/\((w2.drew.setRow w.heap.size #[.bool false,.string ⟨#[48]⟩,.int .i64 0]).setRow (w.heap.size+1) #[.int .i64 0,.int .i64 0,.int .i64 0,.slice none 0 0]).cell? ⟨fb,2,none⟩=some (.int .i64 0)/\((w2.drew.setRow w.heap.size #[.bool false,.string ⟨#[48]⟩,.int .i64 0]).setRow (w.heap.size+1) #[.int .i64 0,.int .i64 0,.int .i64 0,.slice none 0 0]).cell? ⟨fb,3,none⟩=some (.slice none 0 0):=⟨(ah _ _ _).cell a4.1 a5,(ah _ _ _).cell a4.2.1 a5,(ah _ _ _).cell a4.2.2.1 a5,(ah _ _ _).cell a4.2.2.2 a5⟩;have c4:=Qa a4;have c5:=Qa b6;clear h1 h2 h3 h4 h5 a1 a6 a5 a4 b6;refine aA (fun w'=>w'.cell? ⟨fb,0,none⟩=some (.int .i64 0)/\w'.cell? ⟨fb,1,none⟩=some (.int .i64 0)/\w'.cell? ⟨fb,2,none⟩=some (.int .i64 0)/\w'.cell? ⟨fb,3,none⟩=some (.slice none 0 0)) (a0.out) fun a2=>?_
    refine tH 0 a2 ?_;refine tH 1 a2 ?_
    try simp only[Act.put,jP,jQ,jR]
    refine rH 2 fun K hK=>?_
    refine bM b2.out ?_;refine hK.out _ _ (c4.out) (fun a2=>?_);clear hK K
    try simp only[Act.put,jP,jQ,jR]
    refine rH 3 fun K hK=>?_
    refine bM H3.out ?_;refine hK.out _ _ (c5.out) (fun a2=>?_);clear hK K
    try simp only[Act.put,jP,jQ,jR]
    refine wpAnyH_done (by kernel_rfl) (NoPanic.normal ?_) _;go_wp2_with fail;have h4:=H4.out;have h5:=H5.out;exact Zh (fv Tryz.results186 _ _ _ _ _ _ _ _ _ _ _ _ _ (0,0) (0,0) rfl h4 rfl h5) rfl ⟨⟨false,⟨#[48]⟩,0⟩,0,rfl,H2.out,by show 1<=_;omega,fun _=>⟨by have:=e3.out;omega,fun i hi=>HA.out i hi hi,.inl ⟨fun i hi=>HZ.out i hi hi,rfl⟩⟩⟩
