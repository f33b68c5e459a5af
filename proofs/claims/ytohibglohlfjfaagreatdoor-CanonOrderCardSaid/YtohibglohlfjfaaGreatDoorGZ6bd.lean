import Derived.Test.YtohibglohlfjfaaGreatDoorGZ6bc
import Derived.Test.YtohibglohlfjfaaGreatDoorGZ6at
set_option linter.unusedVariables false
set_option linter.unusedSimpArgs false
set_option maxHeartbeats 64000000
set_option maxRecDepth 100000
namespace Go.Proofs.YtohibglohlfjfaaGreatDoor
open Go.RowKit Go.Shelf
variable {aE aU:Addr}{j:JV}{l xs ys:List UInt8}{B g i k0 n p q:Nat}{e:TypeId}{v z:Value}{w w':World}
structure qG (w:World) (aU aE:Addr):Prop where
 glob:ce w aU aE
 goes:nB w
 begins:li w
 number:br w 12
 exponent:br w 13
 quote:br w 14
 escape:br w 19
 surrogate:br w 20
 control:br w 18
theorem qG.below (h:qG w aU aE)(hb:Below w.heap.size w w'):qG w' aU aE:=
 ⟨h.glob.below hb,h.goes.below hb,h.begins.below hb,h.number.below hb,h.exponent.below hb,h.quote.below hb,h.escape.below hb,h.surrogate.below hb,h.control.below hb⟩
def JV.kindOf:JV->Int | .mk k _ _ _ _ _=>k
def JV.numOf:JV->Dc | .mk _ _ _ d _ _=>d
def JV.trOf:JV->Bool | .mk _ t _ _ _ _=>t
def kf (j:JV):List UInt8:=if j.kindOf=1 then [110,117,108,108] else if j.trOf then [116,114,117,101] else [102,97,108,115,101]
def mw (k:Nat):sd->Value
 | .mark c=>.iface 274 (.agg #[.int .i64 k,.int .u8 c.toNat])
 | .str s=>.iface 277 (.agg #[.int .i64 k,.string s])
 | .leaf j=>if j.kindOf=3 then .iface 339 (.agg #[.int .i64 k,.bool j.numOf.neg,.string j.numOf.digits,.int .i64 j.numOf.exp]) else .iface 332 (.agg #[.int .i64 k,.string ⟨(kf j).toArray⟩])
def ph (w:World)(g:Nat)(v:Value)(xs:List UInt8)(k:Nat):Prop:=w.heap[g]?=some (.cells #[v,.int .i64 k] 265 (0,0))/\Bs w v xs
theorem ph.below {k:Nat}(h:ph w g v xs k)(hb:Below w.heap.size w w'):ph w' g v xs k:=⟨ai h.1 hb,h.2.below hb⟩
theorem xi (h:sK l=some j):Ih l=true/\j.kindOf≠3/\kf j=l:=by
 unfold sK at h
 split at h
 ·injection h with h;subst h;rename_i e;subst e;exact⟨by decide,by decide,rfl⟩
 split at h
 ·injection h with h;subst h;rename_i e;subst e;exact⟨by decide,by decide,rfl⟩
 split at h
 ·injection h with h;subst h;rename_i e;subst e;exact⟨by decide,by decide,rfl⟩
 ·cases h
theorem Jh (h:i< (l.takeWhile dP).length):∃c,l[i]?=some c/\dP c=true:=by
 induction l generalizing i with
 |nil=>simp at h
 |cons x t ih=>
  by_cases hx:dP x=true
  ·rw[List.takeWhile_cons,if_pos hx] at h
   cases i with
   |zero=>exact⟨x,rfl,hx⟩
   |succ i=>exact ih (by simpa using h)
  ·rw[List.takeWhile_cons,if_neg hx] at h;simp at h
theorem Is {c:UInt8}(h:l[(l.takeWhile dP).length]?=some c):dP c=false:=by
 induction l with
 |nil=>cases h
 |cons x t ih=>
  by_cases hx:dP x=true
  ·rw[List.takeWhile_cons,if_pos hx] at h;exact ih h
  ·rw[List.takeWhile_cons,if_neg hx] at h;injection h with h
   subst h;simpa using hx
theorem Fw (l:List UInt8):l.take (l.takeWhile dP).length=l.takeWhile dP:=by
 induction l with
 |nil=>rfl
 |cons x t ih=>
  by_cases hx:dP x=true
  ·rw[List.takeWhile_cons,if_pos hx,List.length_cons,List.take_succ_cons,ih]
  ·rw[List.takeWhile_cons,if_neg hx];rfl
def Ej (k:Nat)(t:sd)(n:Nat)(w:World)(e:Ending)(w':World):Prop:=e =.returned (.tuple #[mw k t,.int .i64 n,.nilIface])/\Below w.heap.size w w'
theorem qT {k:Nat}(hE:qG w aU aE)(h:ph w g v xs k0)(hl:xs.length<=1000000000){x:UInt8}(hx:xs[k]?=some x)(hk:co x=2):Calls Tryz.prog 171 #[.pointer (some ⟨g,0,none⟩),.int .i64 k] w (Ej k (.mark x) 1 w):=by
 obtain⟨hg,hb⟩:=h;obtain⟨hm,A,cap,rfl,a5,a0⟩:=id hb;have c0:=aa hg (j:=0) (u:=.slice A xs.length cap) rfl;obtain⟨hlt,a7⟩:=List.getElem?_eq_some_iff.1 hx;obtain⟨b,o,rfl,a2⟩:=a0 (by omega);have a3:am xs k=x.toNat:=by unfold am;rw[List.getD_eq_getElem?_getD,hx];rfl
 have ck:=a2 k hlt;rw[a3] at ck;have a1:=Qa (dM x hE.begins);have hki:(k:Int)<=xs.length:=by omega
 have a6:(0:Int)< (xs.length - k:Nat):=by omega
 have a4:0<xs.length - k:=by omega
 have a9:¬cap=k:=by omega
 clear hg hb a0 a2 hx a7 a3 hE;go_enter Tryz.func171,Tryz.ntmps171;go_wp2_with fail;refine Za a1 ?_;rintro e w' ⟨rfl,rfl⟩;rw[hk];clear hk a1;go_wp2_with fail;go_ret3;exact⟨rfl,Ze _ _⟩
theorem vA {k:Nat}(hE:qG w aU aE)(h:ph w g v xs k0)(hl:xs.length<=1000000000){x:UInt8}(hx:xs[k]?=some x)(hk:co x=5){p:List UInt8×Nat}(hp:mD (xs.drop k)=some p):Calls Tryz.prog 171 #[.pointer (some ⟨g,0,none⟩),.int .i64 k] w (Ej k (.str ⟨p.1.toArray⟩) p.2 w):=by
 obtain⟨hg,hb⟩:=h;obtain⟨hm,A,cap,rfl,a7,a0⟩:=id hb;have c0:=aa hg (j:=0) (u:=.slice A xs.length cap) rfl;obtain⟨hlt,b0⟩:=List.getElem?_eq_some_iff.1 hx;obtain⟨b,o,rfl,a5⟩:=a0 (by omega);have a2:am xs k=x.toNat:=by unfold am;rw[List.getD_eq_getElem?_getD,hx];rfl
 have ck:=a5 k hlt;rw[a2] at ck;have a4:=Qa (dM x hE.begins);have hki:(k:Int)<=xs.length:=by omega
 have a9:(0:Int)< (xs.length - k:Nat):=by omega
 have a6:0<xs.length - k:=by omega
 have b2:¬cap=k:=by omega
 have a1:=Qa (qA (show Bs w (.slice (some ⟨b,o+k,none⟩) (xs.length - k) (cap - k)) (xs.drop k) from hb.cut (Zj hlt)) hE.glob hE.quote hE.escape hE.surrogate hE.control (by rw[List.length_drop];omega));rw[hp] at a1;clear hg hb a0 a5 hx b0 a2 hE hp;go_enter Tryz.func171,Tryz.ntmps171;go_wp2_with fail;refine Za a4 ?_;rintro e w' ⟨rfl,rfl⟩;rw[hk];clear hk a4;go_wp2_with fail;refine Za a1 ?_;rintro e w1 (⟨q,hq,rfl,a3⟩|⟨hn,_⟩)
 case inr=>cases hn
 injection hq with hq
 subst hq;have b1:=Qa a3;clear a3;rw[show FO p =.tuple #[.string ⟨p.1.toArray⟩,.int .i64 p.2,.nilIface] from rfl];go_wp2_with fail;go_ret3;exact⟨rfl,b1.out⟩
theorem uY {k:Nat}(hE:qG w aU aE)(h:ph w g v xs k0)(hl:xs.length<=1000000000){x:UInt8}(hx:xs[k]?=some x)(hk:co x=4){p:Dc×Nat}(hp:nJ (xs.drop k)=some p):Calls Tryz.prog 171 #[.pointer (some ⟨g,0,none⟩),.int .i64 k] w fun e w'=>Ej k (.leaf (dW p.1)) p.2 w e w':=by
 obtain⟨hg,hb⟩:=h;obtain⟨hm,A,cap,rfl,a7,a0⟩:=id hb;have c0:=aa hg (j:=0) (u:=.slice A xs.length cap) rfl;obtain⟨hlt,b0⟩:=List.getElem?_eq_some_iff.1 hx;obtain⟨b,o,rfl,a5⟩:=a0 (by omega);have a2:am xs k=x.toNat:=by unfold am;rw[List.getD_eq_getElem?_getD,hx];rfl
 have ck:=a5 k hlt;rw[a2] at ck;have a4:=Qa (dM x hE.begins);have hki:(k:Int)<=xs.length:=by omega
 have a9:(0:Int)< (xs.length - k:Nat):=by omega
 have a6:0<xs.length - k:=by omega
 have b2:¬cap=k:=by omega
 have a1:=Qa (rr (show Bs w (.slice (some ⟨b,o+k,none⟩) (xs.length - k) (cap - k)) (xs.drop k) from hb.cut (Zj hlt)) (by rw[List.length_drop];omega) hE.goes hE.number hE.exponent);rw[hp] at a1;clear hg hb a0 a5 hx b0 a2 hE hp;go_enter Tryz.func171,Tryz.ntmps171;go_wp2_with fail;refine Za a4 ?_;rintro e w' ⟨rfl,rfl⟩;rw[hk];clear hk a4;go_wp2_with fail;refine Za a1 ?_;rintro e w1 ⟨a3,rfl⟩;have b1:=Qa a3;clear a3;obtain⟨⟨dneg,ddig,dexp⟩,n⟩:=p;rw[show J6 (⟨dneg,ddig,dexp⟩:Dc) =.agg #[.bool dneg,.string ddig,.int .i64 dexp] from rfl];go_wp2_with fail;go_ret3;exact⟨rfl,bu b1.out (ac _ _)⟩
theorem rG {k:Nat}(hE:qG w aU aE)(h:ph w g v xs k0)(hl:xs.length<=1000000000){x:UInt8}(hx:xs[k]?=some x)(hk:co x=3)(hp:sK (x:: (xs.drop (k+1)).takeWhile dP)=some j):Calls Tryz.prog 171 #[.pointer (some ⟨g,0,none⟩),.int .i64 k] w fun e w'=>Ej k (.leaf j) (1+ ((xs.drop (k+1)).takeWhile dP).length) w e w':=by
 obtain⟨hg,hb⟩:=h;obtain⟨hm,A,cap,rfl,c8,a0⟩:=id hb;have c0:=aa hg (j:=0) (u:=.slice A xs.length cap) rfl;obtain⟨hlt,b5⟩:=List.getElem?_eq_some_iff.1 hx;obtain⟨b,o,rfl,b0⟩:=a0 (by omega);have b6:am xs k=x.toNat:=by unfold am;rw[List.getD_eq_getElem?_getD,hx];rfl
 have ck:=b0 k hlt;rw[b6] at ck;have b7:=Qa (dM x hE.begins);have hki:(k:Int)<=xs.length:=by omega
 have d0:(0:Int)< (xs.length - k:Nat):=by omega
 have c7:0<xs.length - k:=by omega
 have d4:¬cap=k:=by omega
 have hd:xs.drop k=x::xs.drop (k+1):=by rw[List.drop_eq_getElem_cons hlt,b5]
 have hcut:Bs w (.slice (some ⟨b,o+k,none⟩) (xs.length - k) (cap - k)) (xs.drop k):=hb.cut (Zj hlt);obtain⟨a7,c1,a9⟩:=xi hp;obtain⟨tw,a2⟩:∃tw,tw= ((xs.drop (k+1)).takeWhile dP).length:=⟨_,rfl⟩;have hin:∀i,i<tw->∃c,xs[k+ (i+1)]?=some c/\dP c=true:=fun i hi=>by
  rw[a2] at hi;obtain⟨c,h1,h2⟩:=Jh hi;rw[List.getElem?_drop] at h1;exact⟨c,by rw[<-h1];congr 1;omega,h2⟩
 have a4:∀c,xs[k+ (tw+1)]?=some c->dP c=false:=fun c hc=>by
  refine Is (l:=xs.drop (k+1)) ?_;rw[<-a2,List.getElem?_drop,<-hc];congr 1;omega
 have d2:tw+1<=xs.length - k:=by
  have:=(List.takeWhile_prefix dP (l:=xs.drop (k+1))).length_le;rw[<-a2,List.length_drop] at this;omega
 have c4:(xs.drop k).take (tw+1)=x:: (xs.drop (k+1)).takeWhile dP:=by rw[hd,List.take_succ_cons,a2,Fw]
 have a5:(convert 22 9 (.slice (some ⟨b,o+k,none⟩) (tw+1) (cap - k))).run Tryz.prog w =.ok (.string ⟨(kf j).toArray⟩) w:=by
  rw[a9,<-c4];exact aO (hcut.upto (by rw[List.length_drop];omega))
 rw[<-a9] at a7;have c2:∀i c,i<xs.length - k->xs[k+i]?=some c->w.cell? ⟨b,o+k+i,none⟩=some (.int .u8 c.toNat):=fun i c hi hc=>by
  have h1:=b0 (k+i) (by omega);have h2:am xs (k+i)=c.toNat:=by unfold am;rw[List.getD_eq_getElem?_getD,hc];rfl
  rw[h2,<-Nat.add_assoc] at h1;exact h1
 have c3:=Qa c2;have c6:=Qa hin;have b2:=Qa a4;have b4:=Qa a7;have b3:=Qa a5;have Hv:=Qa (show mw k (.leaf j) =.iface 332 (.agg #[.int .i64 k,.string ⟨(kf j).toArray⟩]) from if_neg c1);rw[<-a2];generalize kf j=wl at *;have d6:tw+1<=cap - k:=by omega
 have d3:=Qa a2;clear hd hcut a7 c1 a9 hin a4 c4 a5 c2 hp a2;clear hg hb a0 b0 hx b5 b6 hE;go_enter Tryz.func171,Tryz.ntmps171;go_wp2_with fail;refine Za b7 ?_;rintro e w' ⟨rfl,rfl⟩;rw[hk];clear hk b7;go_wp2_with fail
 go_loopg [8] tw (fun m s8 wr=> ∃n:Nat,m+n=tw/\s8 =.int .i64 (n+1:Nat)/\wr=w)
 case atStart=>exact⟨0,rfl,rfl,rfl⟩
 case round=>
  obtain⟨n,a6,rfl,rfl⟩:=hrel;have a1:((n+1:Nat):Int)= (n:Int)+1:=by omega
  obtain⟨z,hz⟩:∃z:Int,((n+1:Nat):Int)=z:=⟨_,rfl⟩
  by_cases hlt2:n<tw
  ·obtain⟨c,a3,b8⟩:=c6.out n hlt2;have a0:=c3.out (n+1) c (by omega) a3;have c5:((n+1:Nat):Int)< (xs.length - k:Nat):=by omega
   have b9:n+1<xs.length - k:=by omega
   have s1:IntKind.i64.wrap ((n:Int)+1+1)= (n:Int)+1+1:=IntWalk.i64_in _ (by omega);have b1:=Qa b8;have Hmn:=Qa a6;clear a6 a3 b8 a1 hz;go_wp2_with fail;refine(kP c _).mono ?_;rintro e w' ⟨rfl,rfl⟩;rw[b1.out];go_wp2_with fail;go_roundg (tw - (n+1))
   case measure=>have:=Hmn.out;omega
   case rel=>exact⟨n+1,by have:=Hmn.out;omega,by go_num,rfl⟩
  ·obtain rfl:n=tw:=by omega
   have Hmn:=Qa a6;have c9:n+1<=xs.length - k:=d2;have q1:(0:Int)<=(n:Int)+1:=by omega
   have q2:(n:Int)+1<=(cap - k:Nat):=by omega
   have d5:=b3.out;have d9:((n:Int)+1).toNat=n+1:=by omega
   have d1:¬ (cap - k=0):=by omega
   clear a6 a1 hz hlt2
   by_cases hend:n+1=xs.length - k
   ·have c5:¬ (n:Int)+1< (xs.length - k:Nat):=by omega
    have b9:¬n+1<xs.length - k:=by omega
    clear hend;go_wp2_with fail;refine(l7 wl _).mono ?_;rintro e w' ⟨rfl,rfl⟩;rw[b4.out];go_wp2_with fail;go_ret3;refine⟨?_,Ze _ _⟩;rw[Hv.out,show((1+n:Nat):Int)= (n:Int)+1 from by omega];rfl
   ·obtain⟨c,a3⟩:∃c,xs[k+ (n+1)]?=some c:=⟨_,Zd (by omega)⟩;have a0:=c3.out (n+1) c (by omega) a3;have c5:(n:Int)+1< (xs.length - k:Nat):=by omega
    have b9:n+1<xs.length - k:=by omega
    have b1:=Qa (b2.out c a3);clear hend a3;go_wp2_with fail;refine(kP c _).mono ?_;rintro e w' ⟨rfl,rfl⟩;rw[b1.out];go_wp2_with fail;refine(l7 wl _).mono ?_;rintro e w' ⟨rfl,rfl⟩;rw[b4.out];go_wp2_with fail;go_ret3;refine⟨?_,Ze _ _⟩;rw[Hv.out,show((1+n:Nat):Int)= (n:Int)+1 from by omega];rfl
theorem uB {k:Nat}(hE:qG w aU aE)(h:ph w g v xs k0)(hl:xs.length<=1000000000){t:sd}(hx:dt (xs.drop k)=some (t,n)):Calls Tryz.prog 171 #[.pointer (some ⟨g,0,none⟩),.int .i64 k] w (Ej k t n w):=by
 obtain⟨x,a1⟩:∃x,xs[k]?=some x:=by
  cases hd:xs.drop k with
  |nil=>rw[hd] at hx;cases hx
  |cons x r=>exact⟨x,by have:=congrArg (·[0]?) hd;simpa [List.getElem?_drop] using this⟩
 obtain⟨hlt,a2⟩:=List.getElem?_eq_some_iff.1 a1;have hd:xs.drop k=x::xs.drop (k+1):=by rw[List.drop_eq_getElem_cons hlt,a2]
 have a0:=hx;rw[hd] at a0;simp only[dt] at a0
 split at a0
 ·rename_i hk
  injection a0 with a0
  injection a0 with e1 e2
  subst e1 e2;exact qT hE h hl a1 hk
 ·rename_i hk
  rw[Option.map_eq_some_iff] at a0;obtain⟨j,hj,a0⟩:=a0;injection a0 with e1 e2
  subst e1 e2;exact rG hE h hl a1 hk hj
 ·rename_i hk
  rw[Option.map_eq_some_iff] at a0;obtain⟨p,hp,a0⟩:=a0;injection a0 with e1 e2
  subst e1 e2;rw[<-hd] at hp;exact uY hE h hl a1 hk hp
 ·rename_i hk
  rw[Option.map_eq_some_iff] at a0;obtain⟨p,hp,a0⟩:=a0;injection a0 with e1 e2
  subst e1 e2;rw[<-hd] at hp;exact vA hE h hl a1 hk hp
 ·cases a0
theorem F5 (h:i< (l.takeWhile cW).length):∃c,l[i]?=some c/\cW c=true:=by
 induction l generalizing i with
 |nil=>simp at h
 |cons x t ih=>
  by_cases hx:cW x=true
  ·rw[List.takeWhile_cons,if_pos hx] at h
   cases i with
   |zero=>exact⟨x,rfl,hx⟩
   |succ i=>exact ih (by simpa using h)
  ·rw[List.takeWhile_cons,if_neg hx] at h;simp at h
theorem Gg {c:UInt8}(h:l[(l.takeWhile cW).length]?=some c):cW c=false:=by
 induction l with
 |nil=>cases h
 |cons x t ih=>
  by_cases hx:cW x=true
  ·rw[List.takeWhile_cons,if_pos hx] at h;exact ih h
  ·rw[List.takeWhile_cons,if_neg hx] at h;injection h with h
   subst h;simpa using hx
theorem rW (l:List UInt8):l.drop (l.takeWhile cW).length=l.dropWhile cW:=by
 induction l with
 |nil=>rfl
 |cons x t ih=>
  by_cases hx:cW x=true
  ·rw[List.takeWhile_cons,if_pos hx,List.length_cons,List.drop_succ_cons,ih,List.dropWhile_cons,if_pos hx]
  ·rw[List.takeWhile_cons,if_neg hx,List.dropWhile_cons,if_neg hx];rfl
theorem CZ (c:UInt8):((co c:Nat)==1)=cW c:=by
 have:=uM (p:=fun c=>decide (((co c:Nat)==1)=cW c)) (by decide +kernel) c;simpa using this
theorem n7 (c:UInt8):(((co c:Nat):Int)==1)=cW c:=by
 rw[<-CZ];rw[Bool.eq_iff_iff];simp only[beq_iff_eq];omega
def Jr (g:Nat)(v:Value)(xs:List UInt8)(tv:Value)(k:Nat)(w:World)(e:Ending)(w':World):Prop:=e =.returned (.tuple #[tv,.nilIface])/\ph w' g v xs k/\aZ (fun i=>i=g) w w'
theorem ph.apart {k b o:Nat}(h:w.heap[g]?=some (.cells #[v,.int .i64 k] 265 (0,0)))(hv:∃A n q,v =.slice A n q)(hc:∃z:Nat,w.cell? ⟨b,o,none⟩=some (.int .u8 z)):g≠b:=by
 intro e;subst e;obtain⟨z,hz⟩:=hc;obtain⟨A,n,q,rfl⟩:=hv;rcases o with _|_|o
 ·rw[aa h (j:=0) rfl] at hz;injection hz with hz
  cases hz
 ·rw[aa h (j:=1) rfl] at hz;injection hz with hz
  cases hz
 ·unfold World.cell? at hz;simp[h] at hz
theorem ph.set {k:Nat}(h:ph w g v xs k){z:Int}{j:Nat}(hz:z=j):ph (w.setCell ⟨g,1,none⟩ (.int .i64 z)) g v xs j:=by
 subst hz;refine⟨au h.1 1 _,?_⟩;obtain⟨hm,A,c,rfl,hc,a0⟩:=h.2;refine⟨hm,A,c,rfl,hc,fun h0=>?_⟩;obtain⟨b,o,rfl,a1⟩:=a0 h0;refine⟨b,o,rfl,fun i hi=>?_⟩;rw[World.cell?_setCell_far _ _ _ _ (ph.apart h.1 ⟨_,_,_,rfl⟩ ⟨_,a1 i hi⟩)];exact a1 i hi
theorem rM:∀ (f:Nat) (xs out:List UInt8) (n:Nat) (p:List UInt8×Nat),fG f xs out n=some p->p.2<=n+xs.length
 |0,_,_,_,_,h=>by cases h
 |f+1,xs,out,n,p,h=>by
  unfold fG at h
  split at h
  ·cases h
  ·rename_i hp
   have:=pU hp;injection h with h;subst h
   simp only;omega
  ·rename_i c k hp
   have h1:=(mQ hp).2.2;have h2:=rM f _ _ _ p h;rw[List.length_drop] at h2;simp only at h1;omega
theorem nH {t:sd}(h:dt xs=some (t,n)):1<=n/\n<=xs.length:=by
 refine⟨(BS h).1,?_⟩
 cases xs with
 |nil=>cases h
 |cons x xs=>
  simp only[dt] at h
  split at h
  ·injection h with h;injection h with _ h;subst h;simp
  ·rw[Option.map_eq_some_iff] at h;obtain⟨j,-,h⟩:=h;injection h with _ h;subst h
   have:=(List.takeWhile_prefix dP (l:=xs)).length_le;rw[List.length_cons];omega
  ·rw[Option.map_eq_some_iff] at h;obtain⟨p,hp,h⟩:=h;injection h with _ h;subst h
   exact(tG hp).2
  ·rw[Option.map_eq_some_iff] at h;obtain⟨p,hp,h⟩:=h;injection h with _ h;subst h
   unfold mD at hp
   split at hp
   ·rename_i ys e
    injection e with e1 e2
    subst e2;have:=rM _ _ _ _ _ hp;rw[List.length_cons];omega
   ·cases hp
  ·cases h
theorem yd (k:Nat)(t:sd):∃ty v,mw k t =.iface ty v:=by
 cases t with
 |mark c=>exact⟨_,_,rfl⟩
 |str s=>exact⟨_,_,rfl⟩
 |leaf j=>
  unfold mw;simp only
  split
  ·exact⟨_,_,rfl⟩
  ·exact⟨_,_,rfl⟩
theorem sV {k:Nat}(hE:qG w aU aE)(h:ph w g v xs k)(hk:k<=xs.length)(hl:xs.length<=1000000000)(hd:(xs.drop k).dropWhile cW = []):Calls Tryz.prog 141 #[.pointer (some ⟨g,0,none⟩)] w fun e w'=>Jr g v xs (.iface 272 (.agg #[.int .i64 xs.length])) xs.length w e w':=by
 obtain⟨hg,hb⟩:=id h;obtain⟨hm,A,cap,rfl,b3,a0⟩:=id hb;obtain⟨tw,a3⟩:∃tw,tw= ((xs.drop k).takeWhile cW).length:=⟨_,rfl⟩;have a5:=rW (xs.drop k);rw[hd,<-a3,List.drop_drop] at a5;have a6:=congrArg List.length a5;rw[List.length_drop,List.length_nil] at a6;have b5:tw+k<=xs.length:=by
  have:=(List.takeWhile_prefix cW (l:=xs.drop k)).length_le;rw[<-a3,List.length_drop] at this;omega
 have hin:∀i,i<tw->∃c,xs[k+i]?=some c/\(((co c:Nat):Int)==1)=true:=fun i hi=>by
  rw[a3] at hi;obtain⟨c,h1,h2⟩:=F5 hi;rw[List.getElem?_drop] at h1;exact⟨c,h1,by rw[n7];exact h2⟩
 have c0:=aa hg (j:=0) (u:=.slice A xs.length cap) rfl;have c1:=aa hg (j:=1) (u:=.int .i64 k) rfl;have f1:=ak hg 1;have b1:=Qa hin;have a2:=Qa a0;have H:=Qa h;have HB:=Qa hE.begins;clear hd a5 hin hg hb a0 h hE a3;go_enter Tryz.func141,Tryz.ntmps141;go_wp2_with fail
 go_loopg [4] tw (fun m s4 wr=> ∃n:Nat,m+n=tw/\s4 =.int .i64 (k+n:Nat)/\wr=w)
 case atStart=>exact⟨0,rfl,rfl,rfl⟩
 case round=>
  obtain⟨n,a4,rfl,rfl⟩:=hrel;have a1:((k+n:Nat):Int)= (k:Int)+n:=by omega
  by_cases hlt2:n<tw
  ·obtain⟨c,a9,a7⟩:=b1.out n hlt2;obtain⟨b,o,rfl,b0⟩:=a2.out (by omega);have b4:=b0 (k+n) (by omega);have h2:am xs (k+n)=c.toNat:=by unfold am;rw[List.getD_eq_getElem?_getD,a9];rfl
   rw[h2] at b4;have b9:(k:Int)+n<xs.length:=by omega
   have b7:k+n<xs.length:=by omega
   have s1:IntKind.i64.wrap (((k+n:Nat):Int)+1)= ((k+ (n+1):Nat):Int):=by rw[IntWalk.i64_in _ (by omega)];omega
   have b2:=Qa a7;have Hmn:=Qa a4;have b6:=Qa (dM c HB.out);clear a4 a9 a7 a1 b0 h2;go_wp2_with fail;refine Za b6 ?_;rintro e w' ⟨rfl,rfl⟩;have b8:=b2.out;go_wp2_with fail;go_roundg (tw - (n+1))
   case measure=>have:=Hmn.out;omega
   case rel=>exact⟨n+1,by have:=Hmn.out;omega,rfl,rfl⟩
  ·have e:k+n=xs.length:=by omega
   rw[e];have s2:(xs.length:Int)= ((xs.length:Nat):Int):=rfl;have H2:=Qa (H.out.set (z:=((xs.length:Nat):Int)) (j:=xs.length) rfl);clear a1 hlt2 a4 e a6 b5 s2;go_wp2_with fail;go_ret2;exact⟨rfl,H2.out,aZ.set g 1 _⟩
theorem vw {k:Nat}(hE:qG w aU aE)(h:ph w g v xs k)(hk:k<=xs.length)(hl:xs.length<=1000000000){y:UInt8}(hd:(xs.drop k).dropWhile cW=y::ys){t:sd}(hx:dt (y::ys)=some (t,n)):Calls Tryz.prog 141 #[.pointer (some ⟨g,0,none⟩)] w fun e w'=>Jr g v xs (mw (xs.length - (ys.length+1)) t) (xs.length - (ys.length+1)+n) w e w':=by
 obtain⟨hg,hb⟩:=id h;obtain⟨hm,A,cap,rfl,c2,a1⟩:=id hb;obtain⟨tw,a3⟩:∃tw,tw= ((xs.drop k).takeWhile cW).length:=⟨_,rfl⟩;have a4:=rW (xs.drop k);rw[hd,<-a3,List.drop_drop] at a4;have b3:=congrArg List.length a4;rw[List.length_drop,List.length_cons] at b3;have c5:tw+k<=xs.length:=by
  have:=(List.takeWhile_prefix cW (l:=xs.drop k)).length_le;rw[<-a3,List.length_drop] at this;omega
 have hin:∀i,i<tw->∃c,xs[k+i]?=some c/\(((co c:Nat):Int)==1)=true:=fun i hi=>by
  rw[a3] at hi;obtain⟨c,h1,h2⟩:=F5 hi;rw[List.getElem?_drop] at h1;exact⟨c,h1,by rw[n7];exact h2⟩
 have c0:=aa hg (j:=0) (u:=.slice A xs.length cap) rfl;have c1:=aa hg (j:=1) (u:=.int .i64 k) rfl;have f1:=ak hg 1;have hfr:xs.length - (ys.length+1)=k+tw:=by omega
 have d3:k+tw<xs.length:=by omega
 rw[hfr];have a9:xs[k+tw]?=some y:=by
  have:=congrArg (·[0]?) a4;simpa [List.getElem?_drop] using this
 have b7:cW y=false:=by
  refine Gg (l:=xs.drop k) ?_;rw[<-a3,List.getElem?_drop];exact a9
 rw[<-a4] at hx;have b8:=Qa (uB hE h hl hx);have hnl:=(nH hx).2;rw[List.length_drop] at hnl;have b6:(((co y:Nat):Int)==1)=false:=by rw[n7];exact b7
 have c6:=Qa b6;have d1:=Qa a9;clear a9 b7 hx b6 hfr;have b9:=Qa hin;have a0:=Qa a1;have H:=Qa h;have HB:=Qa hE.begins;clear hd a4 hin b3 hg hb a1 h hE a3;go_enter Tryz.func141,Tryz.ntmps141;go_wp2_with fail
 go_loopg [4] tw (fun m s4 wr=> ∃n0:Nat,m+n0=tw/\s4 =.int .i64 (k+n0:Nat)/\wr=w)
 case atStart=>exact⟨0,rfl,rfl,rfl⟩
 case round=>
  obtain⟨n0,b1,rfl,rfl⟩:=hrel;have a2:((k+n0:Nat):Int)= (k:Int)+n0:=by omega
  by_cases hlt2:n0<tw
  ·obtain⟨c,b5,b4⟩:=b9.out n0 hlt2;obtain⟨b,o,rfl,a5⟩:=a0.out (by omega);have b0:=a5 (k+n0) (by omega);have h2:am xs (k+n0)=c.toNat:=by unfold am;rw[List.getD_eq_getElem?_getD,b5];rfl
   rw[h2] at b0;have d2:(k:Int)+n0<xs.length:=by omega
   have c9:k+n0<xs.length:=by omega
   have s1:IntKind.i64.wrap (((k+n0:Nat):Int)+1)= ((k+ (n0+1):Nat):Int):=by rw[IntWalk.i64_in _ (by omega)];omega
   have c8:=Qa b4;have Hmn:=Qa b1;have a7:=Qa (dM c HB.out);clear b1 b5 b4 a2 a5 h2;go_wp2_with fail;refine Za a7 ?_;rintro e w' ⟨rfl,rfl⟩;have c3:=c8.out;go_wp2_with fail;go_roundg (tw - (n0+1))
   case measure=>have:=Hmn.out;omega
   case rel=>exact⟨n0+1,by have:=Hmn.out;omega,rfl,rfl⟩
  ·obtain rfl:n0=tw:=by omega
   obtain⟨b,o,rfl,a5⟩:=a0.out (by omega);have b0:=a5 (k+n0) (by omega);have h2:am xs (k+n0)=y.toNat:=by unfold am;rw[List.getD_eq_getElem?_getD,d1.out];rfl
   rw[h2] at b0;have d2:(k:Int)+n0<xs.length:=by omega
   have c9:k+n0<xs.length:=by omega
   have hne:(((k+n0:Nat):Int)== (xs.length:Int))=false:=by simp only[beq_eq_false_iff_ne];omega
   have a7:=Qa (dM y HB.out);have d0:k+n0+n<=1000000000:=by omega
   clear b1 a2 hlt2 a5 h2 c5;go_wp2_with fail;refine Za a7 ?_;rintro e w' ⟨rfl,rfl⟩;have c3:=c6.out;go_wp2_with fail;(try rw[show(k:Int)+n0= ((k+n0:Nat):Int) from by omega]);refine Za b8 ?_;rintro e w1 ⟨rfl,a6⟩;have H1:=Qa (H.out.below a6);have c4:=Qa a6;have f1':=ak H1.out.1 1;have c1':=aa H1.out.1 (j:=1) (u:=.int .i64 k) rfl;have s1:IntKind.i64.wrap (((k+n0:Nat):Int)+n)= ((k+n0+n:Nat):Int):=by rw[IntWalk.i64_in _ (by omega)];omega
   have H2:=Qa (H1.out.set (z:=((k+n0+n:Nat):Int)) (j:=k+n0+n) rfl);obtain⟨tt,tv,b2⟩:=yd (k+n0) t;rw[b2];have c7:=Qa b2;clear a6 b2;go_wp2_with fail;go_ret2;exact⟨by rw[c7.out];rfl,H2.out,(aZ.of_below c4.out).trans (aZ.set g 1 _) (fun i hi=>.inl hi)⟩
theorem xj (hb:Bs w v xs)(h0:0<xs.length)(hl:xs.length<=1000000000):Calls Tryz.prog 140 #[v] w fun e w'=> ∃u,e =.returned u/\aq w' w.heap.size u xs/\Below w.heap.size w w':=by
 obtain⟨hm,A,cap,rfl,a4,a0⟩:=id hb;obtain⟨b,o,rfl,a7⟩:=a0 h0;have a1:=ac w (.cells #[] 5);have Hb:=Qa (hb.below a1);have Ho:=Qa (aq.made (base:=w.heap.size) (Zf w (.cells #[] 5)) (Zb _) (cap:=0) (Zk _) rfl);have a2:=Qa a1;have a3:=Qa (show([]:List UInt8).length+xs.length<=140737488355328 by simp;omega);have a5:=Qa a1.size;clear hb a0 a7 a1;have hq:(binOp .eql 22 (.slice (some ⟨b,o,none⟩) xs.length cap) (.slice none 0 0)).run Tryz.prog w =.ok (.bool false) w:=by
  simp only[binOp];simp[run_equal_slice_nil w 22 5 (some ⟨b,o,none⟩) xs.length cap Tryz.underlying22]
 go_enter Tryz.func140,Tryz.ntmps140;go_wp2_with (at_builtin;refine pR Ho.out Hb.out a3.out a5.out ?_;intro v' w3 h1 h2 h3;have HK:=Qa h1;have a6:=Qa h2;clear h1 h2 h3);go_ret;exact⟨_,rfl,HK.out,a2.out.grown a6.out a2.out.size (fun g e=>Nat.le_of_eq (Zi e))⟩
theorem wN (hb:Bs w v xs)(h0:0<xs.length)(hl:xs.length<=1000000000):Calls Tryz.prog 100 #[v] w fun e w'=> ∃g u,e =.returned (.pointer (some ⟨g,0,none⟩))/\ph w' g u xs 0/\Below w.heap.size w w'/\w.heap.size<=g/\aq w' w.heap.size u xs:=by
 have Hc:=Qa (xj hb h0 hl);clear hb;go_enter Tryz.func100,Tryz.ntmps100;go_wp2_with fail;refine Za Hc ?_;rintro e w1 ⟨u,rfl,ho,a1⟩;obtain⟨A,q,rfl,-⟩:=ag ho;have Ho:=Qa (aq.bs ho);have a2:=Qa ho;have a0:=Qa a1;clear ho a1;go_wp2_with fail;go_ret;exact⟨w1.heap.size,_,rfl,⟨Zf _ _,Ho.out.below (ac _ _)⟩,bu a0.out (ac _ _),a0.out.size,ao a2.out (ac _ _) (Zb _)⟩
theorem gH {t:TypeId}{k:Nat}(E:dq t e z k B){ops:Array Oper}{rest:List Oper}{o:Oper}{a:Act}{Q:Exit->Act->World->Prop}(a2:o.guard=none)(s x:Operand)
  (ho:o.op =.call {callee:=.builtin .append,args:= #[s,x],argTypes:= #[t,t]})
  (base:Nat) (v:Value) (n g c m:Nat) (us news:List Value) (hs:a.eval s=v) (a1:w.ownsRow base e k v n us) (hx:a.eval x =.slice (some ⟨g,0,none⟩) m c) (hl:news.length=m*k)
  (hg:∀j u,news[j]?=some u->w.cell? ⟨g,j,none⟩=some u) (h1:∀u∈news,u.oneCell'=true) (hm:0<m)
  (hlen:n+m<=maxLen) (hby:(n+m)*B<=140737488355328) (a0:base<=w.heap.size)
  (h:∀v' w',w'.ownsRow base e k v' (n+m) (us++news)->w.grownBy w' v.ownBlock->w.drawn<=w'.drawn->wpList Tryz.prog ops Q rest (a.put o.dst v') w'):wpList Tryz.prog ops Q (o::rest) a w:=by
 refine wpList_plain a2 fun K hK=>?_
 obtain⟨v',w',hr,h2,h3,h4,h5⟩:=rU E (ty:=o.type) base v n g c m us news a1 hl hg h1 hm hlen hby a0;unfold Oper.wp execOp;simp only[ho,resolve,invoke,builtin,Sem.run_bind,Sem.run_pure,Result.andThen_ok,List.map_toArray,List.map_cons,List.map_nil,hs,hx,hr];exact hK _ _ (h v' w' h2 h3 h5)
theorem ss (w:World){s:ByteArray}{t:List UInt8}(hs:s.data.toList=239::191::189::t):Calls Tryz.prog 168 #[.string s,.string ⟨#[239,191,189]⟩] w fun e w'=>e =.returned (.bool true)/\w=w':=by
 have hsz:s.data.toList.length=s.size:=by simp
 rw[hs] at hsz;simp only[List.length_cons] at hsz;have h3:¬ (s.size:Int)<3:=by omega
 have a1:(3:Int)<=s.size:=by omega
 have a0:3<=s.size:=by omega
 have he:s.extract 0 3= ⟨#[239,191,189]⟩:=by
  have h:(s.extract 0 3).data.toList = [239,191,189]:=by
   rw[ByteArray.data_extract,Array.toList_extract,hs];rfl
  cases hx:s.extract 0 3 with
  |mk d=>rw[hx] at h;simp only at h;rw[<-h]
 have He:=Qa he;clear hs hsz he;go_enter Tryz.func168,Tryz.ntmps168;go_wp2_with fail;go_ret;refine⟨?_,rfl⟩
 show Ending.returned (.bool ((s.extract 0 3).toList == [239,191,189]))=_
 rw[He.out,ByteArray.toList_eq];rfl
theorem rF (w:World){s:ByteArray}{t:List UInt8}(hs:s.data.toList=239::191::189::t):Calls Tryz.prog 131 #[.string s,.string ⟨#[239,191,189]⟩] w fun e w'=>e =.returned (.bool true)/\w=w':=by
 have H:=Qa (ss w hs);clear hs;go_enter Tryz.func131,Tryz.ntmps131;go_wp2_with fail;refine Za H ?_;rintro e w' ⟨rfl,rfl⟩;go_wp2_with fail;go_ret;exact⟨rfl,rfl⟩
def Im (s:ByteArray)(cs:List Int)(j:Nat)(w:World)(m:Nat)(s3:Value)(wr:World):Prop:=
 ∃ (pre rest:List Int) (p:Nat),cs=pre++rest/\m=rest.length/\s.data.toList.drop p=rest.flatMap bE/\wr.heap[j]?=some (.stringIter s p)/\rC wr w.heap.size s3 pre/\bU w wr
theorem bU.iter {j:Nat}{s:ByteArray}(hj:w.heap[j]?=some (.stringIter s p)){B:World}(hb:bU B w)(hB:B.heap.size<=j):bU B (w.iterAt j s q):=by
 refine⟨hb.b.trans ((aZ.iter (w:=w) (j:=j) (q:=q) (s:=s)).below hb.b.size (fun k hk=>by rw[hk];exact hB)),Zc hb.d ?_⟩;exact Zb _
theorem pk {s:ByteArray}(hs:du s)(hl:s.size<=4294967296):Calls Tryz.prog 92 #[.string s] w fun e w'=> ∃v,e =.returned v/\rC w' w.heap.size v (nm s)/\bU w w':=by
 obtain⟨hc,hd⟩:=hs.nm;generalize Proofs.YtohibglohlfjfaaGreatDoor.nm s=cs at *;have c6:cs.length<=4294967296:=by
  have h1:=iA hc;rw[hd] at h1;have:s.data.toList.length=s.size:=by simp
  omega
 have Hd:=Qa hd;have Hc:=Qa hc;have Hi:=Qa (Zf w (.stringIter s 0));have Hb:=Qa (bU.alloc w (.stringIter s 0));clear hs hd hc;go_enter Tryz.func92,Tryz.ntmps92;go_wp2_with fail
 go_loopg [3] cs.length (fun m s3 wr=>Im s cs w.heap.size w m s3 wr)
 case atStart=>exact⟨[],cs,0,rfl,rfl,Hd.out.symm,Hi.out,⟨rfl,.inl ⟨rfl,rfl⟩⟩,Hb.out⟩
 case round=>
  clear Hi Hb;obtain⟨pre,rest,p,he,hm,a0,hi,ho,hb⟩:=hrel;have hji:w.heap.size<=w.heap.size:=Zb _;have hj:w.heap.size<wr.heap.size:=ae hi;obtain⟨j,a6⟩:∃j,w.heap.size=j:=⟨_,rfl⟩;rw[a6] at hi;have Ho:=Qa ho;have Hi:=Qa hi;have Hb:=Qa hb;have He:=Qa he;have c5:=Qa a0;have a7:=Qa a6;have hsz:s.data.toList.length=s.size:=by simp
  have b2:∀b,u3.ownBlock=some b->b≠j:=fun b b0 e=>by
   obtain⟨_,cur,hg⟩:=aj ho b0;rw[e,hi] at hg
   cases hg
  have c1:pre.length<=4294967296:=by have:=congrArg List.length he;rw[List.length_append] at this;omega
  rw[a6]
  cases rest with
  |nil=>
   have hlt:¬p<s.size:=by
    have:=congrArg List.length a0;rw[List.length_drop] at this;simp at this;omega
   have a9:∀ty,(Instr.next (.pointer (some ⟨j,0,none⟩)) true ty).run Tryz.prog wr =.ok (.tuple #[.bool false]) wr:=fun ty=>Lib.run_next_end_at wr j s p ty hi hlt
   clear ho hi hb he a0 b2 hlt hm hji hj a6;go_wp2_with fail;go_ret;have e:cs=pre:=by rw[He.out,List.append_nil]
   rw[e];exact⟨_,rfl,Ho.out,Hb.out⟩
  |cons c rest=>
   have h0:=Hc.out c (by rw[he];simp);have hlen:=congrArg List.length a0;rw[List.length_drop,hsz,List.flatMap_cons,List.length_append] at hlen;have b9:(bE c).length≠0:=fun e=>nY h0 (List.eq_nil_of_length_eq_zero e)
   have hlt:p<s.size:=by omega
   have a9:∀ty,(Instr.next (.pointer (some ⟨j,0,none⟩)) true ty).run Tryz.prog wr =.ok (.tuple #[.bool true,.int .i64 p,.int .i32 (Utf8.decode s p).1]) (wr.iterAt j s (p+ (Utf8.decode s p).2)):=fun ty=>Lib.run_next_any_at wr j s p ty hi hlt
   rw[mS s p hlt,a0,List.flatMap_cons,rh h0,if_pos rfl] at a9;have hcn:((c.toNat:Nat):Int)=c:=by have:=dZ h0;omega
   dsimp only at a9
   rw[hcn] at a9;have b3:bU w (wr.iterAt j s (p+ (bE c).length)):=bU.iter hi hb (by omega);have a4:=aZ.iter (w:=wr) (j:=j) (q:=p+ (bE c).length) (s:=s);have c3:=Qa (Lib.iterAt_heap wr j s p (p+ (bE c).length) hi);have b8:=Qa (show rC (wr.iterAt j s (p+ (bE c).length)) w.heap.size u3 pre from bw ho (fun b b0=>by obtain⟨_,cur,hg⟩:=aj ho b0;exact a4.block b (ae hg) (b2 b b0)));have c4:=Qa b3;have a5:=Qa (show s.data.toList.drop (p+ (bE c).length)=rest.flatMap bE by rw[<-List.drop_drop,a0,List.flatMap_cons,List.drop_left]);have q1:(p:Int)<=s.size:=by omega
   have q2:p<=s.size:=by omega
   have H0:=Qa h0;have Hgk:Hid (gk=rest.length+1):=Qa hm;have c0:=Qa (show c=65533->(s.extract p s.size).data.toList=239::191::189::rest.flatMap bE from fun e=>by
    rw[ByteArray.data_extract,Array.toList_extract,List.extract_eq_take_drop,a0,List.take_of_length_le (by rw[List.flatMap_cons,List.length_append];omega),List.flatMap_cons,e]
    show bE ((65533:Nat):Int)++_=_
    rw[Cq];rfl)
   clear ho hi hb he a0 b2 hlt hlen b9 a4 h0 hcn hm b3 hji hj a6;generalize wr.iterAt j s (p+ (bE c).length)=wi at *;have a3:=bU.alloc wi (.cells #[.int .i32 c] 21);have a2:=Qa (show rC (wi.alloc (.cells #[.int .i32 c] 21)) w.heap.size u3 pre from ao b8.out a3.b (Zb _));have b6:=Qa (ap wi [fp c] 21);have a1:=Qa (c4.out.trans a3);have b1:=Qa (ai c3.out a3.b);have b7:=Qa (show pre.length+1<=maxLen by unfold maxLen;omega);have b5:=Qa (show(pre.length+1)*4<=140737488355328 by omega);have b4:=Qa a1.out.b.size
   by_cases hf:c=65533
   ·have Hx:=Qa (c0.out hf);have c2:(c==65533)=true:=by simpa using hf
    clear a3 hf;go_wp2_with fail;refine(rF _ Hx.out).mono ?_;rintro e w' ⟨rfl,rfl⟩;go_wp2_with (at_builtin;refine gH lG rfl (.tmp 26) (.tmp 28) rfl w.heap.size u3 pre.length wi.heap.size 1 1 (pre.map fp) [fp c] (by simp[Act.eval]) a2.out (by simp[Act.eval]) rfl b6.out (by simp[fp,Value.oneCell']) (by decide) b7.out b5.out b4.out ?_;intro v' w5 p1 p2 p3;have HK:=Qa p1;have HG:=Qa p2;have HD:=Qa p3;clear p1 p2 p3);have hfin:Im s cs w.heap.size w rest.length v' w5:=by
     refine⟨pre ++ [c],rest,p+ (bE c).length,by rw[He.out];simp,rfl,a5.out,?_,by unfold rC;rw[List.length_append,List.map_append];exact HK.out,⟨aY a1.out.b a2.out a1.out.b.size HG.out,Zc a1.out.d HD.out⟩⟩;rw[a7.out];exact aB b1.out HG.out (fun e=>by
      obtain⟨_,cur,hg⟩:=aj a2.out e;rw[b1.out] at hg
      cases hg)
    rw[<-a7.out];go_roundg (rest.length)
    case measure=>have:=Hgk.out;omega
    case rel=>exact hfin
   ·have c2:(c==65533)=false:=by simpa using hf
    clear a3;go_wp2_with (at_builtin;refine gH lG rfl (.tmp 26) (.tmp 28) rfl w.heap.size u3 pre.length wi.heap.size 1 1 (pre.map fp) [fp c] (by simp[Act.eval]) a2.out (by simp[Act.eval]) rfl b6.out (by simp[fp,Value.oneCell']) (by decide) b7.out b5.out b4.out ?_;intro v' w5 p1 p2 p3;have HK:=Qa p1;have HG:=Qa p2;have HD:=Qa p3;clear p1 p2 p3);have hfin:Im s cs w.heap.size w rest.length v' w5:=by
     refine⟨pre ++ [c],rest,p+ (bE c).length,by rw[He.out];simp,rfl,a5.out,?_,by unfold rC;rw[List.length_append,List.map_append];exact HK.out,⟨aY a1.out.b a2.out a1.out.b.size HG.out,Zc a1.out.d HD.out⟩⟩;rw[a7.out];exact aB b1.out HG.out (fun e=>by
      obtain⟨_,cur,hg⟩:=aj a2.out e;rw[b1.out] at hg
      cases hg)
    rw[<-a7.out];go_roundg (rest.length)
    case measure=>have:=Hgk.out;omega
    case rel=>exact hfin
