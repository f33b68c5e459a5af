import Derived.Test.YtgkkffeagolnpaaGreatDoorGZ16bp
set_option linter.unusedVariables false
set_option linter.unusedSimpArgs false
set_option maxHeartbeats 64000000
set_option maxRecDepth 100000
namespace Go.Proofs.YtgkkffeagolnpaaGreatDoor
open Go.RowKit Go.Shelf
variable {m y:List ByteArray}{xs:List UInt8}{base c i n o oc:Nat}{A:Option Addr}{v xv yv:Value}{w:World}
def F6 (p:Prop)(w:World)(e:Ending)(w':World):Prop:= ∃b:Bool,e =.returned (.bool b)/\(b=true↔p)/\Below w.heap.size w w'
theorem kH {s:ByteArray}(hL:fP w)(hs:s.size<=1000000000):Calls Tryz.prog 21 #[.string s] w (F6 (aW s) w):=by
 have H:=Qa (nc hL hs);clear hL;go_enter Tryz.func21,Tryz.ntmps21;go_wp2_with fail;refine Za H ?_;rintro e w1 ⟨v,er,rfl,a0,⟨hp,rfl,-⟩|⟨hn,-,t,x,rfl⟩⟩
 ·have a1:=Qa a0;have Hp:=Qa hp;clear a0 hp;go_wp2_with fail;go_ret;exact⟨true,rfl,⟨fun _=>Hp.out,fun _=>rfl⟩,a1.out⟩
 ·have a1:=Qa a0;have Hn:=Qa hn;clear a0 hn;go_wp2_with fail;go_ret;exact⟨false,rfl,⟨fun h=>(by cases h),fun h=>absurd h Hn.out⟩,a1.out⟩
theorem tC {e:En}(hL:kn w)(h1:e.eAt.size<=1000000000)(h2:e.eSch.size<=1000000000):Calls Tryz.prog 20 #[.agg #[.string e.eAt,.string e.eSch,.string e.eKw]] w fun r w'=>F6 (gI e) w r w':=by
 have H1:=Qa (fun w1 (hb:Below w.heap.size w w1)=>kH (hL.p.below hb) h1);have H2:=Qa (fun w1 (hb:Below w.heap.size w w1)=>kH (hL.p.below hb) h2);have H3:=Qa (fun w1 (hb:Below w.heap.size w w1)=>mc (s:=e.eKw) (hL.below hb));have b5:=Qa (Zf w (.cells #[.string e.eAt,.string e.eSch,.string e.eKw] 45));have b0:=Qa (aa w (.cells #[.string e.eAt,.string e.eSch,.string e.eKw] 45));clear hL;go_enter Tryz.func20,Tryz.ntmps20;go_wp2_with fail;generalize w.alloc (.cells #[.string e.eAt,.string e.eSch,.string e.eKw] 45)=w0 at *;refine(H1.out _ b0.out).mono ?_;rintro r w1 ⟨b1,rfl,hb,a3⟩;have a4:=Qa (aj b0.out a3);have a5:=Qa hb;have b3:=Qa (ah b5.out a3);have c1:=ac b3.out (j:=1) (u:=.string e.eSch) rfl;clear a3 hb
 cases b1 with
 |false=>
  go_wp2_with fail;go_ret;exact⟨false,rfl,⟨fun h=>(by cases h),fun h=>a5.out.2 h.1⟩,a4.out⟩
 |true=>
  go_wp2_with fail;refine(H2.out _ a4.out).mono ?_;rintro r w2 ⟨b2,rfl,hb,a9⟩;have a0:=Qa (aj a4.out a9);have a1:=Qa hb;have b4:=Qa (ah b3.out a9);have c2:=ac b4.out (j:=2) (u:=.string e.eKw) rfl;clear a9 c1 hb
  cases b2 with
  |false=>
   go_wp2_with fail;go_ret;exact⟨false,rfl,⟨fun h=>(by cases h),fun h=>a1.out.2 h.2.1⟩,a0.out⟩
  |true=>
   by_cases hf:e.eKw=Gf
   ·have a2:e.eKw.toList = [102,97,108,115,101]:=by rw[hf,ByteArray.toList_eq];rfl
    have Hf:=Qa hf;clear hf;go_wp2_with fail;go_ret;exact⟨true,rfl,⟨fun _=>⟨a5.out.1 (by trivial),a1.out.1 (by trivial),.inl Hf.out⟩,fun _=>rfl⟩,a0.out⟩
   ·have a2:¬e.eKw.toList = [102,97,108,115,101]:=fun h=>hf (by
     rw[ByteArray.toList_eq] at h
     cases hx:e.eKw with|mk d=>rw[hx] at h;simp only at h;unfold Gf;rw[<-h])
    have b8:(e.eKw.toList == [102,97,108,115,101])=false:=by rw[beq_eq_false_iff_ne];exact a2
    have Hf:=Qa hf;clear hf a2;go_wp2_with fail;refine(H3.out _ a0.out).mono ?_;rintro r w3 ⟨rfl,z,rfl,⟨hm,hz⟩|⟨hn,rfl⟩⟩
    ·have Hm:=Qa hm;clear hm;go_wp2_with fail;go_ret;exact⟨true,rfl,⟨fun _=>⟨a5.out.1 (by trivial),a1.out.1 (by trivial),.inr Hm.out⟩,fun _=>rfl⟩,a0.out⟩
    ·have Hn:=Qa hn;clear hn;go_wp2_with fail;go_ret;exact⟨false,rfl,⟨fun h=>(by cases h),fun h=>(h.2.2.elim Hf.out Hn.out).elim⟩,a0.out⟩
theorem DG {o:Int}(hL:kn w)(ho:o<1\/6<=o):Calls Tryz.prog 19 #[.int .i64 o] w fun e w'=>e =.returned (.string ⟨#[]⟩)/\∃m,w'=w.drewN m:=by
 by_cases h:o<0
 ·clear hL;go_enter Tryz.func19,Tryz.ntmps19;go_wp2_with fail;go_ret;exact⟨rfl,0,rfl⟩
 ·rcases ho with h1|h1
  ·obtain rfl:o=0:=by omega
   exact(show Calls Tryz.prog 19 #[.int .i64 0] w _ from gT (o:=0) hL (by decide))
  ·clear hL;go_enter Tryz.func19,Tryz.ntmps19;go_wp2_with fail;go_ret;exact⟨rfl,0,rfl⟩
def Fw (oc:Int)(x:List En)(y:List ByteArray):Prop:=1<=oc/\oc<6/\(∀e∈x,gI e)/\(∀p∈y,aW p)/\(oc=2↔0<x.length+y.length)
def I2 (a:Addr)(w:World)(e:Ending)(w':World):Prop:=e =.returned (.tuple #[.slice none 0 0,bp a])/\Below w.heap.size w w'
theorem qY {α:Type}{p:α->Prop}{l:List α}{a:α}(h:∀e∈l.take i,p e)(ha:l[i]?=some a)(hp:p a):∀e∈l.take (i+1),p e:=by
 obtain⟨h1,rfl⟩:=List.getElem?_eq_some_iff.1 ha;intro e he;rw[List.take_succ_eq_append_getElem h1,List.mem_append,List.mem_singleton] at he;rcases he with he|rfl
 ·exact h e he
 ·exact hp
theorem nT {x:List En}{oc:Int}{a:Addr}(hR:kn w)(he:w.cell? ⟨0,0,none⟩=some (bp a))(hx:qV w xv x)(hy:kh w yv y)(hs:∀e∈x,e.eAt.size<=1000000000/\e.eSch.size<=1000000000)(hp:∀p∈y,p.size<=1000000000)(hn:¬Fw oc x y) :
  Calls Tryz.prog 7 #[.int .i64 oc,xv,yv] w (I2 a w):=by
 have a3:=Qa he;have b4:=Qa (fun (e:En) (he:e∈x) w1 (hb:Below w.heap.size w w1)=>tC (hR.below hb) (hs e he).1 (hs e he).2);have b1:=Qa (fun (p:ByteArray) (hq:p∈y) w1 (hb:Below w.heap.size w w1)=>kH (hR.p.below hb) (hp p hq));have Hn:=Qa hn;have c0:x.length<=1000000:=hx.1;have b5:y.length<=1000000:=hy.1;obtain⟨-,Ax,cx,rfl,-,-⟩:=id hx;obtain⟨-,Ay,cy,rfl,-,-⟩:=id hy;have Hx:=Qa hx.rd.2;have Hy:=Qa hy.rd.2.2
 by_cases ho:oc<1\/6<=oc
 ·have a9:=Qa (DG hR ho);clear hR he hx hy hs hp hn ho;go_enter Tryz.func7,Tryz.ntmps7;go_wp2_with fail;refine Za a9 ?_;rintro e w1 ⟨rfl,m,rfl⟩;have Hb1:=Qa (ap (Ze w.heap.size w) m);have c1:=Zg Hb1.out a3.out;generalize w.drewN m=w1 at *;go_wp2_with fail;go_quiet (fail);go_wp2_with fail;go_ret2;exact⟨rfl,ap Hb1.out nq⟩
 ·obtain⟨o,rfl⟩:∃o:Nat,oc=o:=⟨oc.toNat,by omega⟩;have a4:1<=o/\o<6:=by omega
  have a9:=Qa (gT hR a4.2);have b3:=pS a4;have b9:(bw o).toList.isEmpty=false:=by cases h:(bw o).toList with|nil=>exact absurd h b3|cons a l=>rfl
  have HO:=Qa a4;clear hR he hx hy hs hp hn ho a4;generalize bw o=wd at *;go_enter Tryz.func7,Tryz.ntmps7;go_wp2_with fail;refine Za a9 ?_;rintro e w1 ⟨rfl,m,rfl⟩;have Hb1:=Qa (ap (Ze w.heap.size w) m);generalize w.drewN m=w1 at *;go_wp2_with fail
  go_loopg [18] x.length (fun m s18 wr=> ∃i:Nat,m+i=x.length/\s18 =.int .i64 i/\Hid (∀e∈x.take i,gI e)/\Hid (Below w.heap.size w wr))
  case atStart=>exact⟨0,rfl,rfl,Qa (by simp),Hb1⟩
  case round=>
   clear Hb1;obtain⟨i,hm,rfl,HT,Hb⟩:=hrel;have Hm:=Qa hm
   by_cases hlt:i<x.length
   ·have a1:(i:Int)<x.length:=by omega
    obtain⟨p,hp⟩:∃p,x[i]?=some p:=⟨_,Zd hlt⟩;obtain⟨g,o2,rfl,q1,q2,q3⟩:=Hx.out i p hp;have c1:=Zg Hb.out q1;have c2:=Zg Hb.out q2;have c3:=Zg Hb.out q3;have a5:=Zf wr (.cells #[.string p.eAt,.string p.eSch,.string p.eKw] 45);have b0:=Qa (aj Hb.out (aa wr (.cells #[.string p.eAt,.string p.eSch,.string p.eKw] 45)));have HB:=Qa (b4.out p (Zk hp) _ b0.out);have d1:=ac a5 (j:=0) (u:=.string p.eAt) rfl;have d2:=ac a5 (j:=1) (u:=.string p.eSch) rfl;have d3:=ac a5 (j:=2) (u:=.string p.eKw) rfl;have Hp:=Qa hp;clear hp q1 q2 q3 hm a5;go_wp2_with fail;refine Za HB ?_;rintro e w2 ⟨b,rfl,hb,a2⟩;have Hb2:=Qa (aj b0.out a2);have HP:=Qa hb;have ce:=Zg Hb2.out a3.out;clear a2 d1 d2 d3 c1 c2 c3 hb
    cases b with
    |false=>
     go_wp2_with fail;go_quiet (fail);go_wp2_with fail;go_ret2;exact⟨rfl,ap Hb2.out nq⟩
    |true=>
     go_wp2_with fail;go_roundg (x.length - (i+1))
     case measure=>have:=Hm.out;omega
     case rel=>exact⟨i+1,by omega,by go_num,Qa (qY HT.out Hp.out (HP.out.1 (by trivial))),Hb2⟩
   ·obtain rfl:i=x.length:=by omega
    have a1:¬ (x.length:Int)<x.length:=by omega
    rw[List.take_length] at HT;have HX:=HT;clear hm hlt Hm HT;go_wp2_with fail
    go_loopg [29] y.length (fun m s29 wr=> ∃i:Nat,m+i=y.length/\s29 =.int .i64 i/\Hid (∀e∈y.take i,aW e)/\Hid (Below w.heap.size w wr))
    case atStart=>exact⟨0,rfl,rfl,Qa (by simp),Hb⟩
    case round=>
     clear Hb;obtain⟨i,hm,rfl,HT,Hb⟩:=hrel;have Hm:=Qa hm
     by_cases hlt:i<y.length
     ·have a1:(i:Int)<y.length:=by omega
      obtain⟨p,hp⟩:∃p,y[i]?=some p:=⟨_,Zd hlt⟩;obtain⟨g,o2,rfl,q1⟩:=Hy.out i p hp;have c1:=Zg Hb.out q1;have HB:=Qa (b1.out p (Zk hp) _ Hb.out);have Hp:=Qa hp;clear hp q1 hm;go_wp2_with fail;refine Za HB ?_;rintro e w2 ⟨b,rfl,hb,a2⟩;have Hb2:=Qa (aj Hb.out a2);have HP:=Qa hb;have ce:=Zg Hb2.out a3.out;clear a2 c1 hb
      cases b with
      |false=>
       go_wp2_with fail;go_quiet (fail);go_wp2_with fail;go_ret2;exact⟨rfl,ap Hb2.out nq⟩
      |true=>
       go_wp2_with fail;go_roundg (y.length - (i+1))
       case measure=>have:=Hm.out;omega
       case rel=>exact⟨i+1,by omega,by go_num,Qa (qY HT.out Hp.out (HP.out.1 (by trivial))),Hb2⟩
     ·obtain rfl:i=y.length:=by omega
      have a1:¬ (y.length:Int)<y.length:=by omega
      rw[List.take_length] at HT;have a0:¬ ((o:Int)=2↔0<x.length+y.length):=fun h=>Hn.out ⟨by have:=HO.out;omega,by have:=HO.out;omega,HX.out,HT.out,h⟩
      have ce:=Zg Hb.out a3.out;clear hm hlt Hm HT
      by_cases h2:o=2
      ·subst h2;have hz:¬0<x.length+y.length:=fun h=>a0 ⟨fun _=>h,fun _=>rfl⟩
       have b2:¬ (0:Int)<x.length+y.length:=by omega
       clear hz a0;go_wp2_with fail;go_quiet (fail);go_wp2_with fail;go_ret2;exact⟨rfl,ap Hb.out nq⟩
      ·have hz:0<x.length+y.length:=Classical.byContradiction fun h=>a0 ⟨fun e=>absurd (by omega) h2,fun h'=>absurd h' h⟩
       have b2:(0:Int)<x.length+y.length:=by omega
       have b8:((o:Int)==2)=false:=by rw[beq_eq_false_iff_ne];omega
       clear hz a0 h2;go_wp2_with fail;go_quiet (fail);go_wp2_with fail;go_ret2;exact⟨rfl,ap Hb.out nq⟩
def F2 (oc:Nat)(l:List En)(xs:List UInt8):Prop:= ∃es,bu (dn l) (db l) es/\xs= (bU oc es).txt
def JA (xs:List UInt8)(a:Addr)(w:World)(e:Ending)(w':World):Prop:=(∃ (oc:Nat) (u:Value) (l:List En),e =.returned (.tuple #[.int .i64 oc,u,.nilIface])/\bG w' w.heap.size u l/\l.length<=600000/\F2 oc l xs/\Below w.heap.size w w')\/(e =.returned (.tuple #[.int .i64 0,.slice none 0 0,bp a])/\Below w.heap.size w w')
theorem pk {a:Addr}(hA:jt w)(hT:gY w)(he:w.cell? ⟨0,0,none⟩=some (bp a))(hv:Bs w v xs)(h0:0<xs.length)(hl:xs.length<=140000) :
  Calls Tryz.prog 8 #[v] w (JA xs a w):=by
 have b4:Hid (Calls Tryz.prog 24 #[v] w (Cz 560000 w)):=Qa (by
  cases hp:dB xs with
  |none=>exact(CT hA hT hv h0 (by omega) hp).mono fun e w' h=>.inr h
  |some j=>exact CF hA hv h0 (by omega) hp (yt (by omega) (by omega) hp) (by omega))
 have HA:=Qa hA;have a9:=Qa he;have Hv:=Qa hv;obtain⟨-,A,c,rfl,-,-⟩:=id hv;clear hA hT he hv h0 hl;go_enter Tryz.func8,Tryz.ntmps8;go_wp2_with fail;refine Za b4 ?_;rintro e w1 (⟨oc,u,l,c0,b5,rfl,hE,a5,c2,a4⟩|⟨rfl,a4⟩)
 rotate_left
 ·have c1:=Zg a4 a9.out;have b2:=Qa a4;clear a4 b4;go_wp2_with fail;go_quiet (fail);go_wp2_with fail;go_ret3;exact .inr ⟨rfl,ap b2.out nq⟩
 obtain⟨A1,q1,rfl,-⟩:=ag hE;have c8:=Qa (nS (hE.sl (by omega)));have HE:=Qa hE;have b2:=Qa a4;have Hl:=Qa (And.intro a5 c2);have Ho:=Qa (And.intro c0 b5);clear hE a4 a5 c2 c0 b5;go_wp2_with fail;refine Za c8 ?_;rintro e w2 ⟨u1,u2,rfl,h1,h2,b1⟩;have a3:=Qa (aj b2.out b1);have c5:=Qa (show bG w2 w.heap.size (.slice A1 l.length q1) l from ai HE.out b1 (Zb _));have b8:=cB l;have a5:=Hl.out.1;have S1:=Qa (h1.sl (by omega));have S2:=Qa (h2.slt (by omega));have a2:∀e∈dn l,Fz 560000 e:=fun e he=>Hl.out.2 e (List.mem_filter.1 he).1
 have b0:∀p∈db l,p.size<=560000:=fun p hp=>by
  unfold db at hp;obtain⟨e,he,rfl⟩:=List.mem_map.1 hp;exact(Hl.out.2 e (List.mem_filter.1 he).1).1
 obtain⟨A2,q2,rfl,-⟩:=ag h1;obtain⟨A3,q3,rfl,-⟩:=ag h2
 by_cases hmk:Fw oc (dn l) (db l)
 ·have HM:=Qa (dT (oc:=oc) (HA.out.below a3.out).lr (HA.out.below a3.out).lw S1.out S2.out ⟨fun e he=>⟨hmk.2.2.1 e he,by have:=(a2 e he).1;omega,by have:=(a2 e he).2;omega⟩,fun p hp=>⟨hmk.2.2.2.1 p hp,by have:=b0 p hp;omega⟩,by omega⟩ Ho.out (by have:=hmk.2.2.2.2;omega));clear h1 h2 b1 HE b8 a5 a2 b0 hmk S1 S2;go_wp2_with fail;refine Za HM ?_;rintro e w3 ⟨es,u3,b9,rfl,h3,a1⟩;have a0:=Qa (aj a3.out a1);have c9:=Qa (show bG w3 w.heap.size (.slice A1 l.length q1) l from ai c5.out a1 (Zb _));have c7:=Qa (gD (Hv.out.below a0.out) h3.bs);have c4:=Qa b9;have c3:=Zg a0.out a9.out;obtain⟨A4,q4,c6,-⟩:=ag h3;clear h3 a1 b9;subst c6;have b3:=Qa (show decide (xs= (bU oc es).txt)=true↔xs= (bU oc es).txt from decide_eq_true_iff);generalize decide (xs= (bU oc es).txt)=b at *;generalize (bU oc es).txt.length=tn at *;go_wp2_with fail;refine Za c7 ?_;rintro e w' ⟨rfl,rfl⟩
  cases b with
  |true=>
   go_wp2_with fail;refine Zh (v:=.tuple #[.int .i64 oc,.slice A1 l.length q1,.nilIface]) (by simp[results,Tryz.results8,go_sem]) rfl (.inl ⟨oc,_,l,rfl,c9.out,by have:=Hl.out.1;omega,⟨es,c4.out,b3.out.1 (by trivial)⟩,a0.out⟩)
  |false=>
   go_wp2_with fail;go_quiet (fail);go_wp2_with fail;go_ret3;exact .inr ⟨rfl,ap a0.out nq⟩
 ·have HM:=Qa (nT (oc:=oc) (HA.out.below a3.out).lr (Zg a3.out a9.out) S1.out S2.out (fun e he=>⟨by have:=(a2 e he).1;omega,by have:=(a2 e he).2;omega⟩) (fun p hp=>by have:=b0 p hp;omega) hmk);clear h1 h2 b1 HE b8 a5 a2 b0 hmk S1 S2;go_wp2_with fail;refine Za HM ?_;rintro e w3 ⟨rfl,a1⟩;have a0:=Qa (aj a3.out a1);have c3:=Zg a0.out a9.out;clear a1;go_wp2_with fail;go_quiet (fail);go_wp2_with fail;go_ret3;exact .inr ⟨rfl,ap a0.out nq⟩
theorem Gi (a b:Nat)(ha:a<256)(hb:b<256):bits .xor .u8 (a:Int) (b:Int)= ((a ^^^ b:Nat):Int):=by
 have hx:a ^^^ b<2 ^ 8:=Nat.xor_lt_two_pow (by omega) (by omega);have h1:(BitVec.ofInt 8 (a:Int)).toNat=a:=by
  rw[BitVec.ofInt_natCast,BitVec.toNat_ofNat];exact Nat.mod_eq_of_lt (by omega)
 have h2:(BitVec.ofInt 8 (b:Int)).toNat=b:=by
  rw[BitVec.ofInt_natCast,BitVec.toNat_ofNat];exact Nat.mod_eq_of_lt (by omega)
 show IntKind.u8.wrap ((BitVec.ofInt 8 (a:Int) ^^^ BitVec.ofInt 8 (b:Int)).toNat:Int)=_
 rw[BitVec.toNat_xor,h1,h2];have:IntKind.u8.wrap ((a ^^^ b:Nat):Int)= ((a ^^^ b:Nat):Int) % 256:=by simp[IntKind.wrap,IntKind.bits,IntKind.signed]
 rw[this];omega
theorem tO {a b:Nat}(h:b≠0):a ^^^ b≠a:=by
 intro e;have h1:a ^^^ (a ^^^ b)=a ^^^ a:=by rw[e]
 rw[<-Nat.xor_assoc,Nat.xor_self,Nat.zero_xor] at h1;exact h h1
theorem yh {k:Nat}{z:Int}(hk:k<xs.length)(h0:0<=z)(h1:z<256)(hz:z≠0):∃u:UInt8,bits .xor .u8 (am xs k:Nat) z= (u.toNat:Int)/\xs.set k u≠xs:=by
 obtain⟨n,rfl⟩:∃n:Nat,z=n:=⟨z.toNat,by omega⟩;have hb:=a6 xs k;have hx:am xs k ^^^ n<2 ^ 8:=Nat.xor_lt_two_pow (by omega) (by omega);refine⟨UInt8.ofNat (am xs k ^^^ n),?_,fun e=>?_⟩
 ·rw[Gi _ _ hb (by omega),UInt8.toNat_ofNat',Nat.mod_eq_of_lt (by omega)]
 ·have h2:(xs.set k (UInt8.ofNat (am xs k ^^^ n))).getD k 0=xs.getD k 0:=by rw[e]
  rw[List.getD_eq_getElem?_getD,List.getElem?_set_self hk,Option.getD_some] at h2;have h3:am xs k=am xs k ^^^ n:=by
   have:=congrArg UInt8.toNat h2;rw[UInt8.toNat_ofNat',Nat.mod_eq_of_lt (by omega)] at this;exact this.symm
  exact tO (b:=n) (by omega) h3.symm
theorem E3 {z:Int}(h:0<n)(hn:n<=1000000000):0<=(z.tmod n+n).tmod n/\(z.tmod n+n).tmod n<n/\ -1000000000<=z.tmod n/\z.tmod n<=1000000000:=by
 have h1:=Int.tmod_lt_of_pos z (b:=n) (by omega);have h2:=Int.lt_tmod_of_pos z (b:=n) (by omega);have h3:0<=z.tmod n+n:=by omega
 exact⟨Int.tmod_nonneg _ h3,Int.tmod_lt_of_pos _ (by omega),by omega,by omega⟩
theorem Du {x:List En}{es:List En}(k:bu x y es)(hk:∀e∈x,e.eKw≠lK)(h:F2 oc es xs):xs= (bU oc es).txt:=by
 obtain⟨fs,h1,rfl⟩:=h;rw[h1.uniq (k.again hk) fun _=>Iff.rfl]
theorem ER {o:Int}{l:List En}(hl:∀e∈l,gI e)(hm:∀p∈m,aW p)(h:¬Fw o l m):o<1\/5<o\/¬ (o=2↔0<l.length+m.length):=by
 by_cases h1:o<1
 ·exact .inl h1
 ·by_cases h2:5<o
  ·exact .inr (.inl h2)
  ·exact .inr (.inr fun h3=>h ⟨by omega,by omega,hl,hm,h3⟩)
theorem vi {l m:List En}{a b:En}(h:l.take i=m.take i)(ha:l[i]?=some a)(hb:m[i]?=some b):(l.take (i+1)=m.take (i+1))↔a=b:=by
 obtain⟨h1,rfl⟩:=List.getElem?_eq_some_iff.1 ha;obtain⟨h2,rfl⟩:=List.getElem?_eq_some_iff.1 hb;have e1:=List.take_succ_eq_append_getElem h1;have e2:=List.take_succ_eq_append_getElem h2;rw[e1,e2,h];exact⟨fun e=>List.head_eq_of_cons_eq (List.append_cancel_left e),fun e=>by rw[e]⟩
theorem vL {l m:List En}(h:¬l.take i=m.take i):¬l=m:=fun e=>h (by rw[e])
theorem p9 (x:Value)(W:World):(Instr.typeAssert (.iface 52 x) 50 47 true).run Tryz.prog W =.ok (.tuple #[.agg #[.string ⟨#[]⟩,.string ⟨#[]⟩,.string ⟨#[]⟩],.bool false]) W:=by kernel_rfl
theorem kM (a b c:ByteArray):Calls Tryz.prog 57 #[.agg #[.string a,.string b,.string c]] w fun e w'=>e =.returned (.agg #[.string a,.string b,.string c])/\Below w.heap.size w w':=by
 have h1:=Zf (w.alloc (.cells #[.string a,.string b,.string c] 47)) (.cells #[.string a,.string b,.string c] 45);rw[World.size_alloc] at h1;have a0:Below w.heap.size w ((w.alloc (.cells #[.string a,.string b,.string c] 47)).alloc (.cells #[.string a,.string b,.string c] 45)):=((Ze _ _).alloc (Zb _) _).alloc (by simp) _;have c0:=ac h1 (j:=0) rfl;have c1:=ac h1 (j:=1) rfl;have c2:=ac h1 (j:=2) rfl;have a1:=Qa a0;clear h1 a0;go_enter Tryz.func57,Tryz.ntmps57;go_wp2_with fail;refine Zh (v:=.agg #[.string a,.string b,.string c]) ?_ rfl ⟨rfl,a1.out⟩;simp[results,Tryz.results57,go_sem,c0,c1,c2]
def G8 (w:World)(A:Option Addr)(l:List En):Prop:= ∀ (i:Nat) e,l[i]?=some e->∃g,A=some ⟨g,0,none⟩/\w.cell? ⟨g,i,none⟩=some (kN e)
theorem Aj {l:List En}(hA:jt w)(hr:G8 w A l)(hin:dM (dn l) (db l))(hl:l.length<=600000) :
  Calls Tryz.prog 27 #[.slice A l.length c] w fun e w'=>zI (dn l) (db l) (if l = [] then 1 else 2) w e w':=by
 have HA:=Qa hA;have Hr:=Qa hr;have c0:=Qa hin;have t1:=sR;have t2:=ol;have t3:=p9;clear hA hr hin;go_enter Tryz.func27,Tryz.ntmps27;go_wp2_with fail
 go_loopg [4,5,14] l.length (fun m s4 s5 s14 wr=> ∃i:Nat,m+i=l.length/\s14 =.int .i64 i/\Hid (bG wr w.heap.size s4 (dn (l.take i)))/\Hid (aV wr w.heap.size s5 (db (l.take i)))/\Hid (Below w.heap.size w wr))
 case atStart=>exact⟨0,rfl,rfl,Qa (by simpa [dn] using bG.nil _ _),Qa (by simpa [db] using aV.nil _ _),Qa (Ze _ _)⟩
 case round=>
  obtain⟨i,hm,rfl,HE,HS,Hb⟩:=hrel;have Hm:=Qa hm
  by_cases hlt:i<l.length
  ·have d6:(i:Int)<l.length:=by omega
   obtain⟨e,he⟩:∃e,l[i]?=some e:=⟨_,Zd hlt⟩;obtain⟨g,rfl,k1⟩:=Hr.out i e he;have c1:=Zg Hb.out k1;have b8:=Qa (show l.take (i+1)=l.take i ++ [e] by
    obtain⟨h1,h3⟩:=List.getElem?_eq_some_iff.1 he;rw[List.take_succ_eq_append_getElem h1,h3])
   have b1:=cB (l.take i);rw[List.length_take] at b1;have c3:=Qa (show(dn (l.take i)).length<=1000000/\(db (l.take i)).length<=1000000 by omega);have e4:=Qa (Zk he);clear b1 he k1 hm
   by_cases hq:e.eKw=lK
   ·have a9:kN e =.iface 52 (.agg #[.string e.eAt]):=if_pos hq;rw[a9] at c1;have c8:=Qa (show dn (l.take (i+1))=dn (l.take i) by rw[b8.out,fg,if_pos hq,List.append_nil]);have d4:=Qa (show db (l.take (i+1))=db (l.take i) ++ [e.eAt] by rw[b8.out,fi,if_pos hq]);have b5:e.eAt∈db l:=by unfold db;exact List.mem_map.2 ⟨e,List.mem_filter.2 ⟨e4.out,by simpa using hq⟩,rfl⟩
    have a1:=aa wr (.cells #[.string e.eAt] 52);have a2:=Zf wr (.cells #[.string e.eAt] 52);have d1:=ac a2 (j:=0) (u:=.string e.eAt) rfl;have b9:=Qa (aj Hb.out a1);have HP:=Qa (ii (HA.out.below b9.out).lr.p (c0.out.pls _ b5));have a5:=Qa (show bG (wr.alloc (.cells #[.string e.eAt] 52)) w.heap.size u4 (dn (l.take i)) from ai HE.out a1 (Zb _));have b0:=Qa (show aV (wr.alloc (.cells #[.string e.eAt] 52)) w.heap.size u5 (db (l.take i)) from ai HS.out a1 (Zb _));clear hq a9 b5 a1 a2 HE HS Hb;go_wp2_with fail;refine Za HP ?_;rintro r w2 ⟨rfl,a0⟩;have e1:=Zg a0 d1;have c5:=Qa (show bG (w2.alloc (.cells #[.string e.eAt] 9)) w.heap.size u4 (dn (l.take i)) from ai a5.out (aj a0 (aa _ _)) (Zb _));have a4:=Qa (show aV (w2.alloc (.cells #[.string e.eAt] 9)) w.heap.size u5 (db (l.take i)) from ai b0.out (aj a0 (aa _ _)) (Zb _));have a3:=Qa (aj b9.out (aj a0 (aa w2 (.cells #[.string e.eAt] 9))));have c6:=Qa (show ∀ (j:Nat) u, [cn e.eAt][j]?=some u->(w2.alloc (.cells #[.string e.eAt] 9)).cell? ⟨w2.heap.size,j,none⟩=some u from av w2 [cn e.eAt] 9);clear a0 d1 c1 a5 b0 HP;go_wp2_with (at_builtin;refine j3 jx a4.out c6.out a3.out.size ?_ (h1:=(by simp[cn,Value.oneCell'])) (hlen:=by have:=c3.out;unfold maxLen;omega) (hby:=by have:=c3.out;omega);intro v' w5 p1 p2 p3;have d5:=Qa p1;have d0:=Qa (aF a3.out a4.out a3.out.size p2);have b4:=Qa (na a4.out c5.out p2);clear p1 p2 p3);go_roundg (l.length - (i+1))
    case measure=>have:=Hm.out;omega
    case rel=>
     refine⟨i+1,by omega,by go_num,Qa (by rw[c8.out];exact b4.out),Qa ?_,d0⟩;rw[d4.out];unfold aV;rw[List.map_append,List.length_append];exact d5.out
   ·have a9:kN e =.iface 47 (.agg #[.string e.eAt,.string e.eSch,.string e.eKw]):=if_neg hq;rw[a9] at c1;have c8:=Qa (show dn (l.take (i+1))=dn (l.take i) ++ [e] by rw[b8.out,fg,if_neg hq]);have d4:=Qa (show db (l.take (i+1))=db (l.take i) by rw[b8.out,fi,if_neg hq,List.append_nil]);have b5:e∈dn l:=by unfold dn;exact List.mem_filter.2 ⟨e4.out,by simpa using hq⟩
    have a1:=aa wr (.cells #[.string e.eAt,.string e.eSch,.string e.eKw] 47);have a2:=Zf wr (.cells #[.string e.eAt,.string e.eSch,.string e.eKw] 47);have Hx:=Qa a2;have d1:=ac a2 (j:=0) (u:=.string e.eAt) rfl;have d2:=ac a2 (j:=1) (u:=.string e.eSch) rfl;have d3:=ac a2 (j:=2) (u:=.string e.eKw) rfl;have b9:=Qa (aj Hb.out a1);have HP:=Qa (fun W (hb:Below w.heap.size w W)=>lh (HA.out.below hb).lr (c0.out.bls _ b5));have a5:=Qa (show bG (wr.alloc (.cells #[.string e.eAt,.string e.eSch,.string e.eKw] 47)) w.heap.size u4 (dn (l.take i)) from ai HE.out a1 (Zb _));have b0:=Qa (show aV (wr.alloc (.cells #[.string e.eAt,.string e.eSch,.string e.eKw] 47)) w.heap.size u5 (db (l.take i)) from ai HS.out a1 (Zb _));clear hq a9 b5 a1 a2 HE HS Hb;go_wp2_with fail;refine(kM e.eAt e.eSch e.eKw).mono ?_;rintro r w2 ⟨rfl,a0⟩;have e0:=Qa (aj b9.out a0);have d9:=Qa (ah Hx.out a0);have c5:=Qa (show bG w2 w.heap.size u4 (dn (l.take i)) from ai a5.out a0 (Zb _));have a4:=Qa (show aV w2 w.heap.size u5 (db (l.take i)) from ai b0.out a0 (Zb _));clear a0 d1 d2 d3 c1 a5 b0 Hx;go_wp2_with fail;refine(HP.out w2 e0.out).mono ?_;rintro r w3 ⟨rfl,b2⟩;have e5:=Qa (aj e0.out b2);have c2:=ah d9.out b2;have d1:=ac c2 (j:=0) (u:=.string e.eAt) rfl;have d2:=ac c2 (j:=1) (u:=.string e.eSch) rfl;have d3:=ac c2 (j:=2) (u:=.string e.eKw) rfl;have e2:=Qa (show bG w3 w.heap.size u4 (dn (l.take i)) from ai c5.out b2 (Zb _));have e3:=Qa (show aV w3 w.heap.size u5 (db (l.take i)) from ai a4.out b2 (Zb _));clear b2 d9 c2 c5 a4 HP;go_wp2_with fail;refine(kM e.eAt e.eSch e.eKw).mono ?_;rintro r w4 ⟨rfl,c4⟩;have b4:=Qa (show bG (w4.alloc (.cells #[.string e.eAt,.string e.eSch,.string e.eKw] 45)) w.heap.size u4 (dn (l.take i)) from ai e2.out (aj c4 (aa _ _)) (Zb _));have e6:=Qa (show aV (w4.alloc (.cells #[.string e.eAt,.string e.eSch,.string e.eKw] 45)) w.heap.size u5 (db (l.take i)) from ai e3.out (aj c4 (aa _ _)) (Zb _));have a3:=Qa (aj e5.out (aj c4 (aa w4 (.cells #[.string e.eAt,.string e.eSch,.string e.eKw] 45))));have c6:=Qa (show ∀ (j:Nat) u,(dW e)[j]?=some u->(w4.alloc (.cells #[.string e.eAt,.string e.eSch,.string e.eKw] 45)).cell? ⟨w4.heap.size,j,none⟩=some u from av w4 (dW e) 45);clear c4 d1 d2 d3 e2 e3;go_wp2_with (at_builtin;refine j3 tz b4.out c6.out a3.out.size ?_ (h1:=(by simp[dW,Value.oneCell'])) (hlen:=by have:=c3.out;unfold maxLen;omega) (hby:=by have:=c3.out;omega);intro v' w5 p1 p2 p3;have d5:=Qa p1;have d0:=Qa (aF a3.out b4.out a3.out.size p2);have f0:=Qa (ky e6.out b4.out p2);clear p1 p2 p3);go_roundg (l.length - (i+1))
    case measure=>have:=Hm.out;omega
    case rel=>
     refine⟨i+1,by omega,by go_num,Qa ?_,Qa (by rw[d4.out];exact f0.out),d0⟩;rw[c8.out];unfold bG;rw[<-de,List.length_append];exact d5.out
  ·have d6:¬ (i:Int)<l.length:=by omega
   obtain rfl:i=l.length:=by omega
   rw[List.take_length] at HE HS;have b1:=cB l
   by_cases h0:l = []
   ·subst h0;have HM:=Qa (dT (oc:=1) (HA.out.below Hb.out).lr (HA.out.below Hb.out).lw (wN wr) (wX wr) c0.out (by decide) (by simp[dn,db]));clear hm hlt HE HS b1;go_wp2_with fail;refine Za HM ?_;rintro e w6 ⟨es,v6,h1,rfl,h2,b3⟩;have R:=Qa (And.intro h1 (And.intro (bj h2 Hb.out.size) (aj Hb.out b3)));obtain⟨A6,q6,c7,-⟩:=ag h2;subst c7;clear h1 h2 b3 HM;go_wp2_with fail;go_ret2;exact⟨es,_,R.out.1,rfl,R.out.2.1,R.out.2.2⟩
   ·have c9:0<l.length:=List.length_pos_iff.2 h0;have hne:((l.length:Int)==0)=false:=by rw[beq_eq_false_iff_ne];omega
    have HM:=Qa (dT (oc:=2) (HA.out.below Hb.out).lr (HA.out.below Hb.out).lw (HE.out.sl (by omega)) (HS.out.slt (by omega)) c0.out (by decide) (by omega));have Hz:=Qa (show(if l = [] then 1 else 2)=2 from if_neg h0);obtain⟨A7,q7,rfl,-⟩:=ag HE.out;obtain⟨A8,q8,rfl,-⟩:=ag HS.out;clear hm hlt HE HS b1 c9;go_wp2_with fail;refine(show Calls Tryz.prog 7 #[.int .i64 2,_,_] wr _ from HM.out).mono ?_;rintro e w6 ⟨es,v6,h1,rfl,h2,b3⟩;have R:=Qa (And.intro h1 (And.intro (bj h2 Hb.out.size) (aj Hb.out b3)));obtain⟨A6,q6,c7,-⟩:=ag h2;subst c7;clear h1 h2 b3 HM;go_wp2_with fail;go_ret2
    try rw[Hz.out]
    exact⟨es,_,R.out.1,rfl,R.out.2.1,R.out.2.2⟩
theorem BI {l:List En}(hA:jt w)(hr:G8 w A l)(hin:dM (dn l) (db l))(hl:l.length<=600000) :
  Calls Tryz.prog 12 #[.slice A l.length c] w fun e w'=>zI (dn l) (db l) (if l = [] then 1 else 2) w e w':=by
 have H2:=Qa (Aj (c:=c) hA hr hin hl);generalize (if l = [] then 1 else 2)=oc at *;clear hA hr hin hl;go_enter Tryz.func12,Tryz.ntmps12;go_wp2_with fail;refine Za H2 ?_;rintro e w6 ⟨es,v6,h1,rfl,h2,a0⟩;have R:=Qa (And.intro h1 (And.intro h2 a0));obtain⟨A6,q6,a1,-⟩:=ag h2;subst a1;clear h1 h2 a0;go_wp2_with fail;go_ret2;exact⟨es,_,R.out.1,rfl,R.out.2.1,R.out.2.2⟩
theorem mK.lint {l:List En}(h:mK w base (.slice A l.length c) l):G8 w A l:=by
 intro i e he;have hi:=(List.getElem?_eq_some_iff.1 he).1;obtain⟨A',c',e',-,-,hg⟩:=ag h;obtain⟨rfl,-,rfl⟩:=Value.slice.inj e';obtain⟨g,rfl⟩:=hg (by omega);refine⟨g,rfl,?_⟩;rw[aH h rfl i (by omega),List.getElem?_map,he];rfl
structure jv (o:Nat) (l:List En) (m:List ByteArray) (es:List En):Prop where
 ent:bu l m es
 ino:dM l m
 ho:1<=o/\o<6
 hq:o=2↔0<l.length+m.length
 len:es.length<=600000
 txt:(bU o es).txt.length<=140000
theorem jv.again {l:List En}{es:List En}(h:jv o l m es):dM (dn es) (db es)/\(o=2↔0< (dn es).length+ (db es).length):=
 ⟨h.ino.again h.ent,by rw[h.hq,h.ent.some,cB]⟩
theorem jv.same {l:List En}{es fs:List En}(h:jv o l m es)(k:bu (dn es) (db es) fs):fs=es:=k.uniq (h.ent.again h.ino.ne) fun _=>Iff.rfl
theorem jv.one {l:List En}{es:List En}(h:jv o l m es)(h2:o<=2):(if es = [] then 1 else 2)=o:=by
 have h1:=h.ent.some;have h3:=h.hq;have h4:=h.ho
 by_cases e:es = []
 ·subst e;rw[if_pos rfl];rw[h1] at h3;simp at h3;omega
 ·rw[if_neg e];have:=List.length_pos_iff.2 e;omega
theorem jv.pos {l:List En}{es:List En}(h:jv o l m es):0< (bU o es).txt.length:=by
 have a0:∀e∈es,e9 e:=h.ent.ok (fun e he=>(h.ino.bl e he).1) (fun p hp=>(h.ino.pl p hp).1);have hp:=jm (qw (o:=o) a0);rw[List.length_pos_iff];intro e;rw[e] at hp
 cases hp
