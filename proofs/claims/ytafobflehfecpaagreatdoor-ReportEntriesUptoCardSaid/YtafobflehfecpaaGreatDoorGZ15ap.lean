import Derived.Test.YtafobflehfecpaaGreatDoorGZ15ao
set_option linter.unusedVariables false
set_option linter.unusedSimpArgs false
set_option maxHeartbeats 64000000
set_option maxRecDepth 100000
namespace Go.Proofs.YtafobflehfecpaaGreatDoor
open Go.RowKit Go.Shelf
variable {aE aU:Addr}{j:JV}{xs ys:List UInt8}{B g i k0 n o q:Nat}{e:TypeId}{v z:Value}{w w':World}
structure pr (w:World) (aU aE:Addr):Prop where
 glob:cf w aU aE
 goes:lm w
 begins:jn w
 number:a6 w 19
 exponent:a6 w 20
 quote:a6 w 22
 escape:a6 w 27
 surrogate:a6 w 28
 control:a6 w 24
theorem pr.below (h:pr w aU aE)(hb:Below w.heap.size w w'):pr w' aU aE:=
 ⟨h.glob.below hb,h.goes.below hb,h.begins.below hb,h.number.below hb,h.exponent.below hb,h.quote.below hb,h.escape.below hb,h.surrogate.below hb,h.control.below hb⟩
def JV.kindOf:JV->Int | .mk k _ _ _ _ _=>k
def JV.numOf:JV->Dc | .mk _ _ _ d _ _=>d
def JV.trOf:JV->Bool | .mk _ t _ _ _ _=>t
def im (j:JV):List UInt8:=if j.kindOf=1 then [110,117,108,108] else if j.trOf then [116,114,117,101] else [102,97,108,115,101]
def km (k:Nat):pq->Value
 | .mark c=>.iface 274 (.agg #[.int .i64 k,.int .u8 c.toNat])
 | .str s=>.iface 277 (.agg #[.int .i64 k,.string s])
 | .leaf j=>if j.kindOf=3 then .iface 330 (.agg #[.int .i64 k,.bool j.numOf.neg,.string j.numOf.digits,.int .i64 j.numOf.exp]) else .iface 323 (.agg #[.int .i64 k,.string ⟨(im j).toArray⟩])
def mG (w:World)(g:Nat)(v:Value)(xs:List UInt8)(k:Nat):Prop:=w.heap[g]?=some (.cells #[v,.int .i64 k] 266 (0,0))/\Bs w v xs
theorem mG.below {k:Nat}(h:mG w g v xs k)(hb:Below w.heap.size w w'):mG w' g v xs k:=⟨ah h.1 hb,h.2.below hb⟩
theorem sS {l:List UInt8}(h:qz l=some j):EL l=true/\j.kindOf≠3/\im j=l:=by
 unfold qz at h
 split at h
 ·injection h with h;subst h;rename_i e;subst e;exact⟨by decide,by decide,rfl⟩
 split at h
 ·injection h with h;subst h;rename_i e;subst e;exact⟨by decide,by decide,rfl⟩
 split at h
 ·injection h with h;subst h;rename_i e;subst e;exact⟨by decide,by decide,rfl⟩
 ·cases h
theorem FH {l:List UInt8}(h:i< (l.takeWhile cL).length):∃c,l[i]?=some c/\cL c=true:=by
 induction l generalizing i with
 |nil=>simp at h
 |cons x t ih=>
  by_cases hx:cL x=true
  ·rw[List.takeWhile_cons,if_pos hx] at h
   cases i with
   |zero=>exact⟨x,rfl,hx⟩
   |succ i=>exact ih (by simpa using h)
  ·rw[List.takeWhile_cons,if_neg hx] at h;simp at h
theorem EV {l:List UInt8}{c:UInt8}(h:l[(l.takeWhile cL).length]?=some c):cL c=false:=by
 induction l with
 |nil=>cases h
 |cons x t ih=>
  by_cases hx:cL x=true
  ·rw[List.takeWhile_cons,if_pos hx] at h;exact ih h
  ·rw[List.takeWhile_cons,if_neg hx] at h;injection h with h
   subst h;simpa using hx
theorem Dz (l:List UInt8):l.take (l.takeWhile cL).length=l.takeWhile cL:=by
 induction l with
 |nil=>rfl
 |cons x t ih=>
  by_cases hx:cL x=true
  ·rw[List.takeWhile_cons,if_pos hx,List.length_cons,List.take_succ_cons,ih]
  ·rw[List.takeWhile_cons,if_neg hx];rfl
def zQ (k:Nat)(t:pq)(n:Nat)(w:World)(e:Ending)(w':World):Prop:=e =.returned (.tuple #[km k t,.int .i64 n,.nilIface])/\Below w.heap.size w w'
theorem nV {k:Nat}(hE:pr w aU aE)(h:mG w g v xs k0)(hl:xs.length<=1000000000){x:UInt8}(hx:xs[k]?=some x)(hk:bJ x=2):Calls Tryz.prog 178 #[.pointer (some ⟨g,0,none⟩),.int .i64 k] w (zQ k (.mark x) 1 w):=by
 obtain⟨hg,hb⟩:=h;obtain⟨hm,A,cap,rfl,b0,a0⟩:=id hb;have c0:=aa hg (j:=0) (u:=.slice A xs.length cap) rfl;obtain⟨hlt,a5⟩:=List.getElem?_eq_some_iff.1 hx;obtain⟨b,o,rfl,a1⟩:=a0 (by omega);have a3:am xs k=x.toNat:=by unfold am;rw[List.getD_eq_getElem?_getD,hx];rfl
 have ck:=a1 k hlt;rw[a3] at ck;have a2:=Qa (cK x hE.begins);have b2:(k:Int)<=xs.length:=by omega
 have a4:(0:Int)< (xs.length - k:Nat):=by omega
 have a9:0<xs.length - k:=by omega
 have b1:¬cap=k:=by omega
 clear hg hb a0 a1 hx a5 a3 hE;go_enter Tryz.func178,Tryz.ntmps178;go_wp2_with fail;refine Za a2 ?_;rintro e w' ⟨rfl,rfl⟩;rw[hk];clear hk a2;go_wp2_with fail;go_ret3;exact⟨rfl,Ze _ _⟩
theorem qE {k:Nat}(hE:pr w aU aE)(h:mG w g v xs k0)(hl:xs.length<=1000000000){x:UInt8}(hx:xs[k]?=some x)(hk:bJ x=5){p:List UInt8×Nat}(hp:kB (xs.drop k)=some p):Calls Tryz.prog 178 #[.pointer (some ⟨g,0,none⟩),.int .i64 k] w (zQ k (.str ⟨p.1.toArray⟩) p.2 w):=by
 obtain⟨hg,hb⟩:=h;obtain⟨hm,A,cap,rfl,b3,a0⟩:=id hb;have c0:=aa hg (j:=0) (u:=.slice A xs.length cap) rfl;obtain⟨hlt,a9⟩:=List.getElem?_eq_some_iff.1 hx;obtain⟨b,o,rfl,a4⟩:=a0 (by omega);have a3:am xs k=x.toNat:=by unfold am;rw[List.getD_eq_getElem?_getD,hx];rfl
 have ck:=a4 k hlt;rw[a3] at ck;have a5:=Qa (cK x hE.begins);have b5:(k:Int)<=xs.length:=by omega
 have b1:(0:Int)< (xs.length - k:Nat):=by omega
 have b0:0<xs.length - k:=by omega
 have b4:¬cap=k:=by omega
 have a1:=Qa (n8 (show Bs w (.slice (some ⟨b,o+k,none⟩) (xs.length - k) (cap - k)) (xs.drop k) from hb.cut (Nat.le_of_lt hlt)) hE.glob hE.quote hE.escape hE.surrogate hE.control (by rw[List.length_drop];omega));rw[hp] at a1;clear hg hb a0 a4 hx a9 a3 hE hp;go_enter Tryz.func178,Tryz.ntmps178;go_wp2_with fail;refine Za a5 ?_;rintro e w' ⟨rfl,rfl⟩;rw[hk];clear hk a5;go_wp2_with fail;refine Za a1 ?_;rintro e w1 (⟨q,hq,rfl,a2⟩|⟨hn,_⟩)
 case inr=>cases hn
 injection hq with hq
 subst hq;have b2:=Qa a2;clear a2;rw[show Cy p =.tuple #[.string ⟨p.1.toArray⟩,.int .i64 p.2,.nilIface] from rfl];go_wp2_with fail;go_ret3;exact⟨rfl,b2.out⟩
theorem ra {k:Nat}(hE:pr w aU aE)(h:mG w g v xs k0)(hl:xs.length<=1000000000){x:UInt8}(hx:xs[k]?=some x)(hk:bJ x=4){p:Dc×Nat}(hp:mc (xs.drop k)=some p):Calls Tryz.prog 178 #[.pointer (some ⟨g,0,none⟩),.int .i64 k] w fun e w'=>zQ k (.leaf (ky p.1)) p.2 w e w':=by
 obtain⟨hg,hb⟩:=h;obtain⟨hm,A,cap,rfl,b3,a0⟩:=id hb;have c0:=aa hg (j:=0) (u:=.slice A xs.length cap) rfl;obtain⟨hlt,a9⟩:=List.getElem?_eq_some_iff.1 hx;obtain⟨b,o,rfl,a4⟩:=a0 (by omega);have a3:am xs k=x.toNat:=by unfold am;rw[List.getD_eq_getElem?_getD,hx];rfl
 have ck:=a4 k hlt;rw[a3] at ck;have a5:=Qa (cK x hE.begins);have b5:(k:Int)<=xs.length:=by omega
 have b1:(0:Int)< (xs.length - k:Nat):=by omega
 have b0:0<xs.length - k:=by omega
 have b4:¬cap=k:=by omega
 have a1:=Qa (pd (show Bs w (.slice (some ⟨b,o+k,none⟩) (xs.length - k) (cap - k)) (xs.drop k) from hb.cut (Nat.le_of_lt hlt)) (by rw[List.length_drop];omega) hE.goes hE.number hE.exponent);rw[hp] at a1;clear hg hb a0 a4 hx a9 a3 hE hp;go_enter Tryz.func178,Tryz.ntmps178;go_wp2_with fail;refine Za a5 ?_;rintro e w' ⟨rfl,rfl⟩;rw[hk];clear hk a5;go_wp2_with fail;refine Za a1 ?_;rintro e w1 ⟨a2,rfl⟩;have b2:=Qa a2;clear a2;obtain⟨⟨dneg,ddig,dexp⟩,n⟩:=p;rw[show GU (⟨dneg,ddig,dexp⟩:Dc) =.agg #[.bool dneg,.string ddig,.int .i64 dexp] from rfl];go_wp2_with fail;go_ret3;exact⟨rfl,ak b2.out (ac _ _)⟩
theorem oJ {k:Nat}(hE:pr w aU aE)(h:mG w g v xs k0)(hl:xs.length<=1000000000){x:UInt8}(hx:xs[k]?=some x)(hk:bJ x=3)(hp:qz (x:: (xs.drop (k+1)).takeWhile cL)=some j):Calls Tryz.prog 178 #[.pointer (some ⟨g,0,none⟩),.int .i64 k] w fun e w'=>zQ k (.leaf j) (1+ ((xs.drop (k+1)).takeWhile cL).length) w e w':=by
 obtain⟨hg,hb⟩:=h;obtain⟨hm,A,cap,rfl,d6,a0⟩:=id hb;have c0:=aa hg (j:=0) (u:=.slice A xs.length cap) rfl;obtain⟨hlt,c1⟩:=List.getElem?_eq_some_iff.1 hx;obtain⟨b,o,rfl,b3⟩:=a0 (by omega);have c4:am xs k=x.toNat:=by unfold am;rw[List.getD_eq_getElem?_getD,hx];rfl
 have ck:=b3 k hlt;rw[c4] at ck;have c5:=Qa (cK x hE.begins);have e3:(k:Int)<=xs.length:=by omega
 have d3:(0:Int)< (xs.length - k:Nat):=by omega
 have d2:0<xs.length - k:=by omega
 have e2:¬cap=k:=by omega
 have hd:xs.drop k=x::xs.drop (k+1):=by rw[List.drop_eq_getElem_cons hlt,c1]
 have hcut:Bs w (.slice (some ⟨b,o+k,none⟩) (xs.length - k) (cap - k)) (xs.drop k):=hb.cut (Nat.le_of_lt hlt);obtain⟨b2,c8,b1⟩:=sS hp;obtain⟨tw,a2⟩:∃tw,tw= ((xs.drop (k+1)).takeWhile cL).length:=⟨_,rfl⟩;have hin:∀i,i<tw->∃c,xs[k+ (i+1)]?=some c/\cL c=true:=fun i hi=>by
  rw[a2] at hi;obtain⟨c,h1,h2⟩:=FH hi;rw[List.getElem?_drop] at h1;exact⟨c,by rw[<-h1];congr 1;omega,h2⟩
 have a5:∀c,xs[k+ (tw+1)]?=some c->cL c=false:=fun c hc=>by
  refine EV (l:=xs.drop (k+1)) ?_;rw[<-a2,List.getElem?_drop,<-hc];congr 1;omega
 have d1:tw+1<=xs.length - k:=by
  have:=(List.takeWhile_prefix cL (l:=xs.drop (k+1))).length_le;rw[<-a2,List.length_drop] at this;omega
 have c9:(xs.drop k).take (tw+1)=x:: (xs.drop (k+1)).takeWhile cL:=by rw[hd,List.take_succ_cons,a2,Dz]
 have a4:(convert 28 9 (.slice (some ⟨b,o+k,none⟩) (tw+1) (cap - k))).run Tryz.prog w =.ok (.string ⟨(im j).toArray⟩) w:=by
  rw[b1,<-c9];exact aG (hcut.upto (by rw[List.length_drop];omega))
 rw[<-b1] at b2;have c2:∀i c,i<xs.length - k->xs[k+i]?=some c->w.cell? ⟨b,o+k+i,none⟩=some (.int .u8 c.toNat):=fun i c hi hc=>by
  have h1:=b3 (k+i) (by omega);have h2:am xs (k+i)=c.toNat:=by unfold am;rw[List.getD_eq_getElem?_getD,hc];rfl
  rw[h2,<-Nat.add_assoc] at h1;exact h1
 have b9:=Qa c2;have d0:=Qa hin;have b5:=Qa a5;have c3:=Qa b2;have b4:=Qa a4;have Hv:=Qa (show km k (.leaf j) =.iface 323 (.agg #[.int .i64 k,.string ⟨(im j).toArray⟩]) from if_neg c8);rw[<-a2];generalize im j=wl at *;have d9:tw+1<=cap - k:=by omega
 have e1:=Qa a2;clear hd hcut b2 c8 b1 hin a5 c9 a4 c2 hp a2;clear hg hb a0 b3 hx c1 c4 hE;go_enter Tryz.func178,Tryz.ntmps178;go_wp2_with fail;refine Za c5 ?_;rintro e w' ⟨rfl,rfl⟩;rw[hk];clear hk c5;go_wp2_with fail
 go_loopg [8] tw (fun m s8 wr=> ∃n:Nat,m+n=tw/\s8 =.int .i64 (n+1:Nat)/\wr=w)
 case atStart=>exact⟨0,rfl,rfl,rfl⟩
 case round=>
  obtain⟨n,a9,rfl,rfl⟩:=hrel;have a1:((n+1:Nat):Int)= (n:Int)+1:=by omega
  obtain⟨z,hz⟩:∃z:Int,((n+1:Nat):Int)=z:=⟨_,rfl⟩
  by_cases hlt2:n<tw
  ·obtain⟨c,a3,c7⟩:=d0.out n hlt2;have a0:=b9.out (n+1) c (by omega) a3;have b8:((n+1:Nat):Int)< (xs.length - k:Nat):=by omega
   have c6:n+1<xs.length - k:=by omega
   have s1:IntKind.i64.wrap ((n:Int)+1+1)= (n:Int)+1+1:=IntWalk.i64_in _ (by omega);have b0:=Qa c7;have Hmn:=Qa a9;clear a9 a3 c7 a1 hz;go_wp2_with fail;refine(iP c _).mono ?_;rintro e w' ⟨rfl,rfl⟩;rw[b0.out];go_wp2_with fail;go_roundg (tw - (n+1))
   case measure=>have:=Hmn.out;omega
   case rel=>exact⟨n+1,by have:=Hmn.out;omega,by go_num,rfl⟩
  ·obtain rfl:n=tw:=by omega
   have Hmn:=Qa a9;have d5:n+1<=xs.length - k:=d1;have q1:(0:Int)<=(n:Int)+1:=by omega
   have q2:(n:Int)+1<=(cap - k:Nat):=by omega
   have e4:=b4.out;have e0:((n:Int)+1).toNat=n+1:=by omega
   have d4:¬ (cap - k=0):=by omega
   clear a9 a1 hz hlt2
   by_cases hend:n+1=xs.length - k
   ·have b8:¬ (n:Int)+1< (xs.length - k:Nat):=by omega
    have c6:¬n+1<xs.length - k:=by omega
    clear hend;go_wp2_with fail;refine(kh wl _).mono ?_;rintro e w' ⟨rfl,rfl⟩;rw[c3.out];go_wp2_with fail;go_ret3;refine⟨?_,Ze _ _⟩;rw[Hv.out,show((1+n:Nat):Int)= (n:Int)+1 from by omega];rfl
   ·obtain⟨c,a3⟩:∃c,xs[k+ (n+1)]?=some c:=⟨_,Zd (by omega)⟩;have a0:=b9.out (n+1) c (by omega) a3;have b8:(n:Int)+1< (xs.length - k:Nat):=by omega
    have c6:n+1<xs.length - k:=by omega
    have b0:=Qa (b5.out c a3);clear hend a3;go_wp2_with fail;refine(iP c _).mono ?_;rintro e w' ⟨rfl,rfl⟩;rw[b0.out];go_wp2_with fail;refine(kh wl _).mono ?_;rintro e w' ⟨rfl,rfl⟩;rw[c3.out];go_wp2_with fail;go_ret3;refine⟨?_,Ze _ _⟩;rw[Hv.out,show((1+n:Nat):Int)= (n:Int)+1 from by omega];rfl
theorem rA {k:Nat}(hE:pr w aU aE)(h:mG w g v xs k0)(hl:xs.length<=1000000000){t:pq}(hx:cj (xs.drop k)=some (t,n)):Calls Tryz.prog 178 #[.pointer (some ⟨g,0,none⟩),.int .i64 k] w (zQ k t n w):=by
 obtain⟨x,a1⟩:∃x,xs[k]?=some x:=by
  cases hd:xs.drop k with
  |nil=>rw[hd] at hx;cases hx
  |cons x r=>exact⟨x,by have:=congrArg (·[0]?) hd;simpa [List.getElem?_drop] using this⟩
 obtain⟨hlt,a2⟩:=List.getElem?_eq_some_iff.1 a1;have hd:xs.drop k=x::xs.drop (k+1):=by rw[List.drop_eq_getElem_cons hlt,a2]
 have a0:=hx;rw[hd] at a0;simp only[cj] at a0
 split at a0
 ·rename_i hk
  injection a0 with a0
  injection a0 with e1 e2
  subst e1 e2;exact nV hE h hl a1 hk
 ·rename_i hk
  rw[Option.map_eq_some_iff] at a0;obtain⟨j,hj,a0⟩:=a0;injection a0 with e1 e2
  subst e1 e2;exact oJ hE h hl a1 hk hj
 ·rename_i hk
  rw[Option.map_eq_some_iff] at a0;obtain⟨p,hp,a0⟩:=a0;injection a0 with e1 e2
  subst e1 e2;rw[<-hd] at hp;exact ra hE h hl a1 hk hp
 ·rename_i hk
  rw[Option.map_eq_some_iff] at a0;obtain⟨p,hp,a0⟩:=a0;injection a0 with e1 e2
  subst e1 e2;rw[<-hd] at hp;exact qE hE h hl a1 hk hp
 ·cases a0
theorem DJ {l:List UInt8}(h:i< (l.takeWhile bQ).length):∃c,l[i]?=some c/\bQ c=true:=by
 induction l generalizing i with
 |nil=>simp at h
 |cons x t ih=>
  by_cases hx:bQ x=true
  ·rw[List.takeWhile_cons,if_pos hx] at h
   cases i with
   |zero=>exact⟨x,rfl,hx⟩
   |succ i=>exact ih (by simpa using h)
  ·rw[List.takeWhile_cons,if_neg hx] at h;simp at h
theorem EH {l:List UInt8}{c:UInt8}(h:l[(l.takeWhile bQ).length]?=some c):bQ c=false:=by
 induction l with
 |nil=>cases h
 |cons x t ih=>
  by_cases hx:bQ x=true
  ·rw[List.takeWhile_cons,if_pos hx] at h;exact ih h
  ·rw[List.takeWhile_cons,if_neg hx] at h;injection h with h
   subst h;simpa using hx
theorem oe (l:List UInt8):l.drop (l.takeWhile bQ).length=l.dropWhile bQ:=by
 induction l with
 |nil=>rfl
 |cons x t ih=>
  by_cases hx:bQ x=true
  ·rw[List.takeWhile_cons,if_pos hx,List.length_cons,List.drop_succ_cons,ih,List.dropWhile_cons,if_pos hx]
  ·rw[List.takeWhile_cons,if_neg hx,List.dropWhile_cons,if_neg hx];rfl
theorem zq (c:UInt8):((bJ c:Nat)==1)=bQ c:=by
 have:=qP (p:=fun c=>decide (((bJ c:Nat)==1)=bQ c)) (by decide +kernel) c;simpa using this
theorem mg (c:UInt8):(((bJ c:Nat):Int)==1)=bQ c:=by
 rw[<-zq];rw[Bool.eq_iff_iff];simp only[beq_iff_eq];omega
def Fq (g:Nat)(v:Value)(xs:List UInt8)(tv:Value)(k:Nat)(w:World)(e:Ending)(w':World):Prop:=e =.returned (.tuple #[tv,.nilIface])/\mG w' g v xs k/\aM (fun i=>i=g) w w'
theorem mG.apart {k b:Nat}(h:w.heap[g]?=some (.cells #[v,.int .i64 k] 266 (0,0)))(hv:∃A n q,v =.slice A n q)(hc:∃z:Nat,w.cell? ⟨b,o,none⟩=some (.int .u8 z)):g≠b:=by
 intro e;subst e;obtain⟨z,hz⟩:=hc;obtain⟨A,n,q,rfl⟩:=hv;rcases o with _|_|o
 ·rw[aa h (j:=0) rfl] at hz;injection hz with hz
  cases hz
 ·rw[aa h (j:=1) rfl] at hz;injection hz with hz
  cases hz
 ·unfold World.cell? at hz;simp[h] at hz
theorem mG.set {k:Nat}(h:mG w g v xs k){z:Int}{j:Nat}(hz:z=j):mG (w.setCell ⟨g,1,none⟩ (.int .i64 z)) g v xs j:=by
 subst hz;refine⟨ar h.1 1 _,?_⟩;obtain⟨hm,A,c,rfl,hc,a0⟩:=h.2;refine⟨hm,A,c,rfl,hc,fun h0=>?_⟩;obtain⟨b,o,rfl,a1⟩:=a0 h0;refine⟨b,o,rfl,fun i hi=>?_⟩;rw[World.cell?_setCell_far _ _ _ _ (mG.apart h.1 ⟨_,_,_,rfl⟩ ⟨_,a1 i hi⟩)];exact a1 i hi
theorem o9:∀ (f:Nat) (xs out:List UInt8) (n:Nat) (p:List UInt8×Nat),ef f xs out n=some p->p.2<=n+xs.length
 |0,_,_,_,_,h=>by cases h
 |f+1,xs,out,n,p,h=>by
  unfold ef at h
  split at h
  ·cases h
  ·rename_i hp
   have:=mM hp;injection h with h;subst h
   simp only;omega
  ·rename_i c k hp
   have h1:=(lf hp).2.2;have h2:=o9 f _ _ _ p h;rw[List.length_drop] at h2;simp only at h1;omega
theorem lW {t:pq}(h:cj xs=some (t,n)):1<=n/\n<=xs.length:=by
 refine⟨(lQ h).1,?_⟩
 cases xs with
 |nil=>cases h
 |cons x xs=>
  simp only[cj] at h
  split at h
  ·injection h with h;injection h with _ h;subst h;simp
  ·rw[Option.map_eq_some_iff] at h;obtain⟨j,-,h⟩:=h;injection h with _ h;subst h
   have:=(List.takeWhile_prefix cL (l:=xs)).length_le;rw[List.length_cons];omega
  ·rw[Option.map_eq_some_iff] at h;obtain⟨p,hp,h⟩:=h;injection h with _ h;subst h
   exact(su hp).2
  ·rw[Option.map_eq_some_iff] at h;obtain⟨p,hp,h⟩:=h;injection h with _ h;subst h
   unfold kB at hp
   split at hp
   ·rename_i ys e
    injection e with e1 e2
    subst e2;have:=o9 _ _ _ _ _ hp;rw[List.length_cons];omega
   ·cases hp
  ·cases h
theorem uN (k:Nat)(t:pq):∃ty v,km k t =.iface ty v:=by
 cases t with
 |mark c=>exact⟨_,_,rfl⟩
 |str s=>exact⟨_,_,rfl⟩
 |leaf j=>
  unfold km;simp only
  split
  ·exact⟨_,_,rfl⟩
  ·exact⟨_,_,rfl⟩
theorem pZ {k:Nat}(hE:pr w aU aE)(h:mG w g v xs k)(hk:k<=xs.length)(hl:xs.length<=1000000000)(hd:(xs.drop k).dropWhile bQ = []):Calls Tryz.prog 152 #[.pointer (some ⟨g,0,none⟩)] w fun e w'=>Fq g v xs (.iface 272 (.agg #[.int .i64 xs.length])) xs.length w e w':=by
 obtain⟨hg,hb⟩:=id h;obtain⟨hm,A,cap,rfl,c2,a1⟩:=id hb;obtain⟨tw,a3⟩:∃tw,tw= ((xs.drop k).takeWhile bQ).length:=⟨_,rfl⟩;have a5:=oe (xs.drop k);rw[hd,<-a3,List.drop_drop] at a5;have b1:=congrArg List.length a5;rw[List.length_drop,List.length_nil] at b1;have b4:tw+k<=xs.length:=by
  have:=(List.takeWhile_prefix bQ (l:=xs.drop k)).length_le;rw[<-a3,List.length_drop] at this;omega
 have hin:∀i,i<tw->∃c,xs[k+i]?=some c/\(((bJ c:Nat):Int)==1)=true:=fun i hi=>by
  rw[a3] at hi;obtain⟨c,h1,h2⟩:=DJ hi;rw[List.getElem?_drop] at h1;exact⟨c,h1,by rw[mg];exact h2⟩
 have c0:=aa hg (j:=0) (u:=.slice A xs.length cap) rfl;have c1:=aa hg (j:=1) (u:=.int .i64 k) rfl;have f1:=aj hg 1;have b3:=Qa hin;have a2:=Qa a1;have H:=Qa h;have HB:=Qa hE.begins;clear hd a5 hin hg hb a1 h hE a3;go_enter Tryz.func152,Tryz.ntmps152;go_wp2_with fail
 go_loopg [4] tw (fun m s4 wr=> ∃n:Nat,m+n=tw/\s4 =.int .i64 (k+n:Nat)/\wr=w)
 case atStart=>exact⟨0,rfl,rfl,rfl⟩
 case round=>
  obtain⟨n,a4,rfl,rfl⟩:=hrel;have a0:((k+n:Nat):Int)= (k:Int)+n:=by omega
  by_cases hlt2:n<tw
  ·obtain⟨c,b2,b0⟩:=b3.out n hlt2;obtain⟨b,o,rfl,a9⟩:=a2.out (by omega);have b8:=a9 (k+n) (by omega);have h2:am xs (k+n)=c.toNat:=by unfold am;rw[List.getD_eq_getElem?_getD,b2];rfl
   rw[h2] at b8;have c3:(k:Int)+n<xs.length:=by omega
   have c4:k+n<xs.length:=by omega
   have s1:IntKind.i64.wrap (((k+n:Nat):Int)+1)= ((k+ (n+1):Nat):Int):=by rw[IntWalk.i64_in _ (by omega)];omega
   have b9:=Qa b0;have Hmn:=Qa a4;have b5:=Qa (cK c HB.out);clear a4 b2 b0 a0 a9 h2;go_wp2_with fail;refine Za b5 ?_;rintro e w' ⟨rfl,rfl⟩;have c5:=b9.out;go_wp2_with fail;go_roundg (tw - (n+1))
   case measure=>have:=Hmn.out;omega
   case rel=>exact⟨n+1,by have:=Hmn.out;omega,rfl,rfl⟩
  ·have e:k+n=xs.length:=by omega
   rw[e];have s2:(xs.length:Int)= ((xs.length:Nat):Int):=rfl;have H2:=Qa (H.out.set (z:=((xs.length:Nat):Int)) (j:=xs.length) rfl);clear a0 hlt2 a4 e b1 b4 s2;go_wp2_with fail;go_ret2;exact⟨rfl,H2.out,aM.set g 1 _⟩
theorem sj {k:Nat}(hE:pr w aU aE)(h:mG w g v xs k)(hk:k<=xs.length)(hl:xs.length<=1000000000){y:UInt8}(hd:(xs.drop k).dropWhile bQ=y::ys){t:pq}(hx:cj (y::ys)=some (t,n)):Calls Tryz.prog 152 #[.pointer (some ⟨g,0,none⟩)] w fun e w'=>Fq g v xs (km (xs.length - (ys.length+1)) t) (xs.length - (ys.length+1)+n) w e w':=by
 obtain⟨hg,hb⟩:=id h;obtain⟨hm,A,cap,rfl,d4,a1⟩:=id hb;obtain⟨tw,a3⟩:∃tw,tw= ((xs.drop k).takeWhile bQ).length:=⟨_,rfl⟩;have a5:=oe (xs.drop k);rw[hd,<-a3,List.drop_drop] at a5;have b8:=congrArg List.length a5;rw[List.length_drop,List.length_cons] at b8;have d5:tw+k<=xs.length:=by
  have:=(List.takeWhile_prefix bQ (l:=xs.drop k)).length_le;rw[<-a3,List.length_drop] at this;omega
 have hin:∀i,i<tw->∃c,xs[k+i]?=some c/\(((bJ c:Nat):Int)==1)=true:=fun i hi=>by
  rw[a3] at hi;obtain⟨c,h1,h2⟩:=DJ hi;rw[List.getElem?_drop] at h1;exact⟨c,h1,by rw[mg];exact h2⟩
 have c0:=aa hg (j:=0) (u:=.slice A xs.length cap) rfl;have c1:=aa hg (j:=1) (u:=.int .i64 k) rfl;have f1:=aj hg 1;have c3:xs.length - (ys.length+1)=k+tw:=by omega
 have e1:k+tw<xs.length:=by omega
 rw[c3];have b2:xs[k+tw]?=some y:=by
  have:=congrArg (·[0]?) a5;simpa [List.getElem?_drop] using this
 have b5:bQ y=false:=by
  refine EH (l:=xs.drop k) ?_;rw[<-a3,List.getElem?_drop];exact b2
 rw[<-a5] at hx;have d3:=Qa (rA hE h hl hx);have d2:=(lW hx).2;rw[List.length_drop] at d2;have c2:(((bJ y:Nat):Int)==1)=false:=by rw[mg];exact b5
 have e0:=Qa c2;have c7:=Qa b2;clear b2 b5 hx c2 c3;have c5:=Qa hin;have a2:=Qa a1;have H:=Qa h;have HB:=Qa hE.begins;clear hd a5 hin b8 hg hb a1 h hE a3;go_enter Tryz.func152,Tryz.ntmps152;go_wp2_with fail
 go_loopg [4] tw (fun m s4 wr=> ∃n0:Nat,m+n0=tw/\s4 =.int .i64 (k+n0:Nat)/\wr=w)
 case atStart=>exact⟨0,rfl,rfl,rfl⟩
 case round=>
  obtain⟨n0,b0,rfl,rfl⟩:=hrel;have a0:((k+n0:Nat):Int)= (k:Int)+n0:=by omega
  by_cases hlt2:n0<tw
  ·obtain⟨c,c4,b9⟩:=c5.out n0 hlt2;obtain⟨b,o,rfl,a4⟩:=a2.out (by omega);have b4:=a4 (k+n0) (by omega);have h2:am xs (k+n0)=c.toNat:=by unfold am;rw[List.getD_eq_getElem?_getD,c4];rfl
   rw[h2] at b4;have c6:(k:Int)+n0<xs.length:=by omega
   have d6:k+n0<xs.length:=by omega
   have s1:IntKind.i64.wrap (((k+n0:Nat):Int)+1)= ((k+ (n0+1):Nat):Int):=by rw[IntWalk.i64_in _ (by omega)];omega
   have d0:=Qa b9;have Hmn:=Qa b0;have b3:=Qa (cK c HB.out);clear b0 c4 b9 a0 a4 h2;go_wp2_with fail;refine Za b3 ?_;rintro e w' ⟨rfl,rfl⟩;have d9:=d0.out;go_wp2_with fail;go_roundg (tw - (n0+1))
   case measure=>have:=Hmn.out;omega
   case rel=>exact⟨n0+1,by have:=Hmn.out;omega,rfl,rfl⟩
  ·obtain rfl:n0=tw:=by omega
   obtain⟨b,o,rfl,a4⟩:=a2.out (by omega);have b4:=a4 (k+n0) (by omega);have h2:am xs (k+n0)=y.toNat:=by unfold am;rw[List.getD_eq_getElem?_getD,c7.out];rfl
   rw[h2] at b4;have c6:(k:Int)+n0<xs.length:=by omega
   have d6:k+n0<xs.length:=by omega
   have hne:(((k+n0:Nat):Int)== (xs.length:Int))=false:=by simp only[beq_eq_false_iff_ne];omega
   have b3:=Qa (cK y HB.out);have c8:k+n0+n<=1000000000:=by omega
   clear b0 a0 hlt2 a4 h2 d5;go_wp2_with fail;refine Za b3 ?_;rintro e w' ⟨rfl,rfl⟩;have d9:=e0.out;go_wp2_with fail;(try rw[show(k:Int)+n0= ((k+n0:Nat):Int) from by omega]);refine Za d3 ?_;rintro e w1 ⟨rfl,a9⟩;have H1:=Qa (H.out.below a9);have d1:=Qa a9;have f1':=aj H1.out.1 1;have c1':=aa H1.out.1 (j:=1) (u:=.int .i64 k) rfl;have s1:IntKind.i64.wrap (((k+n0:Nat):Int)+n)= ((k+n0+n:Nat):Int):=by rw[IntWalk.i64_in _ (by omega)];omega
   have H2:=Qa (H1.out.set (z:=((k+n0+n:Nat):Int)) (j:=k+n0+n) rfl);obtain⟨tt,tv,b1⟩:=uN (k+n0) t;rw[b1];have c9:=Qa b1;clear a9 b1;go_wp2_with fail;go_ret2;exact⟨by rw[c9.out];rfl,H2.out,(aM.of_below d1.out).trans (aM.set g 1 _) (fun i hi=>.inl hi)⟩
theorem uS (hb:Bs w v xs)(h0:0<xs.length)(hl:xs.length<=1000000000):Calls Tryz.prog 151 #[v] w fun e w'=> ∃u,e =.returned u/\ao w' w.heap.size u xs/\Below w.heap.size w w':=by
 obtain⟨hm,A,cap,rfl,b0,a0⟩:=id hb;obtain⟨b,o,rfl,a3⟩:=a0 h0;have a1:=ac w (.cells #[] 5);have Hb:=Qa (hb.below a1);have Ho:=Qa (ao.made (base:=w.heap.size) (Zf w (.cells #[] 5)) (Zb _) (cap:=0) (Zj _) rfl);have a2:=Qa a1;have a4:=Qa (show([]:List UInt8).length+xs.length<=140737488355328 by simp;omega);have a5:=Qa a1.size;clear hb a0 a3 a1;have hq:(binOp .eql 28 (.slice (some ⟨b,o,none⟩) xs.length cap) (.slice none 0 0)).run Tryz.prog w =.ok (.bool false) w:=by
  simp only[binOp];simp[run_equal_slice_nil w 28 5 (some ⟨b,o,none⟩) xs.length cap Tryz.underlying28]
 go_enter Tryz.func151,Tryz.ntmps151;go_wp2_with (at_builtin;refine qh Ho.out Hb.out a4.out a5.out ?_;intro v' w3 h1 h2 h3;have HK:=Qa h1;have a9:=Qa h2;clear h1 h2 h3);go_ret;exact⟨_,rfl,HK.out,a2.out.grown a9.out a2.out.size (fun g e=>Nat.le_of_eq (Zi e))⟩
theorem uM (hb:Bs w v xs)(h0:0<xs.length)(hl:xs.length<=1000000000):Calls Tryz.prog 129 #[v] w fun e w'=> ∃g u,e =.returned (.pointer (some ⟨g,0,none⟩))/\mG w' g u xs 0/\Below w.heap.size w w'/\w.heap.size<=g/\ao w' w.heap.size u xs:=by
 have Hc:=Qa (uS hb h0 hl);clear hb;go_enter Tryz.func129,Tryz.ntmps129;go_wp2_with fail;refine Za Hc ?_;rintro e w1 ⟨u,rfl,ho,a0⟩;obtain⟨A,q,rfl,-⟩:=af ho;have Ho:=Qa (ao.bs ho);have a2:=Qa ho;have a1:=Qa a0;clear ho a0;go_wp2_with fail;go_ret;exact⟨w1.heap.size,_,rfl,⟨Zf _ _,Ho.out.below (ac _ _)⟩,ak a1.out (ac _ _),a1.out.size,ai a2.out (ac _ _) (Zb _)⟩
theorem eK {t:TypeId}{k:Nat}(E:cQ t e z k B){ops:Array Oper}{rest:List Oper}{o:Oper}{a:Act}{Q:Exit->Act->World->Prop}(a2:o.guard=none)(s x:Operand)
  (ho:o.op =.call {callee:=.builtin .append,args:= #[s,x],argTypes:= #[t,t]})
  (base:Nat) (v:Value) (n g c m:Nat) (us news:List Value) (hs:a.eval s=v) (a1:w.ownsRow base e k v n us) (hx:a.eval x =.slice (some ⟨g,0,none⟩) m c) (hl:news.length=m*k)
  (hg:∀j u,news[j]?=some u->w.cell? ⟨g,j,none⟩=some u) (h1:∀u∈news,u.oneCell'=true) (hm:0<m)
  (hlen:n+m<=maxLen) (hby:(n+m)*B<=140737488355328) (a0:base<=w.heap.size)
  (h:∀v' w',w'.ownsRow base e k v' (n+m) (us++news)->w.grownBy w' v.ownBlock->w.drawn<=w'.drawn->wpList Tryz.prog ops Q rest (a.put o.dst v') w'):wpList Tryz.prog ops Q (o::rest) a w:=by
 refine wpList_plain a2 fun K hK=>?_
 obtain⟨v',w',hr,h2,h3,h4,h5⟩:=ph E (ty:=o.type) base v n g c m us news a1 hl hg h1 hm hlen hby a0;unfold Oper.wp execOp;simp only[ho,resolve,invoke,builtin,Sem.run_bind,Sem.run_pure,Result.andThen_ok,List.map_toArray,List.map_cons,List.map_nil,hs,hx,hr];exact hK _ _ (h v' w' h2 h3 h5)
theorem rP (w:World){s:ByteArray}{t:List UInt8}(hs:s.data.toList=239::191::189::t):Calls Tryz.prog 70 #[.string s,.string ⟨#[239,191,189]⟩] w fun e w'=>e =.returned (.bool true)/\w=w':=by
 have a0:s.data.toList.length=s.size:=by simp
 rw[hs] at a0;simp only[List.length_cons] at a0;have h3:¬ (s.size:Int)<3:=by omega
 have a1:(3:Int)<=s.size:=by omega
 have a2:3<=s.size:=by omega
 have he:s.extract 0 3= ⟨#[239,191,189]⟩:=by
  have h:(s.extract 0 3).data.toList = [239,191,189]:=by
   rw[ByteArray.data_extract,Array.toList_extract,hs];rfl
  cases hx:s.extract 0 3 with
  |mk d=>rw[hx] at h;simp only at h;rw[<-h]
 have He:=Qa he;clear hs a0 he;go_enter Tryz.func70,Tryz.ntmps70;go_wp2_with fail;go_ret;refine⟨?_,rfl⟩
 show Ending.returned (.bool ((s.extract 0 3).toList == [239,191,189]))=_
 rw[He.out,ByteArray.toList_eq];rfl
theorem nW (w:World){s:ByteArray}{t:List UInt8}(hs:s.data.toList=239::191::189::t):Calls Tryz.prog 32 #[.string s,.string ⟨#[239,191,189]⟩] w fun e w'=>e =.returned (.bool true)/\w=w':=by
 have H:=Qa (rP w hs);clear hs;go_enter Tryz.func32,Tryz.ntmps32;go_wp2_with fail;refine Za H ?_;rintro e w' ⟨rfl,rfl⟩;go_wp2_with fail;go_ret;exact⟨rfl,rfl⟩
def E9 (s:ByteArray)(cs:List Int)(j:Nat)(w:World)(m:Nat)(s3:Value)(wr:World):Prop:=
 ∃ (pre rest:List Int) (p:Nat),cs=pre++rest/\m=rest.length/\s.data.toList.drop p=rest.flatMap aO/\wr.heap[j]?=some (.stringIter s p)/\yd wr w.heap.size s3 pre/\bo w wr
theorem bo.iter {j p:Nat}{s:ByteArray}(hj:w.heap[j]?=some (.stringIter s p)){B:World}(hb:bo B w)(hB:B.heap.size<=j):bo B (w.iterAt j s q):=by
 refine⟨hb.b.trans ((aM.iter (w:=w) (j:=j) (q:=q) (s:=s)).below hb.b.size (fun k hk=>by rw[hk];exact hB)),Zc hb.d ?_⟩;exact Zb _
theorem mQ {s:ByteArray}(hs:bf s)(hl:s.size<=4294967296):Calls Tryz.prog 125 #[.string s] w fun e w'=> ∃v,e =.returned v/\yd w' w.heap.size v (nm s)/\bo w w':=by
 obtain⟨hc,hd⟩:=hs.nm;generalize Proofs.YtafobflehfecpaaGreatDoor.nm s=cs at *;have d2:cs.length<=4294967296:=by
  have h1:=dw hc;rw[hd] at h1;have:s.data.toList.length=s.size:=by simp
  omega
 have Hd:=Qa hd;have Hc:=Qa hc;have Hi:=Qa (Zf w (.stringIter s 0));have Hb:=Qa (bo.alloc w (.stringIter s 0));clear hs hd hc;go_enter Tryz.func125,Tryz.ntmps125;go_wp2_with fail
 go_loopg [3] cs.length (fun m s3 wr=>E9 s cs w.heap.size w m s3 wr)
 case atStart=>exact⟨[],cs,0,rfl,rfl,Hd.out.symm,Hi.out,⟨rfl,.inl ⟨rfl,rfl⟩⟩,Hb.out⟩
 case round=>
  clear Hi Hb;obtain⟨pre,rest,p,he,hm,a0,hi,ho,hb⟩:=hrel;have hji:w.heap.size<=w.heap.size:=Zb _;have hj:w.heap.size<wr.heap.size:=ag hi;obtain⟨j,a5⟩:∃j,w.heap.size=j:=⟨_,rfl⟩;rw[a5] at hi;have Ho:=Qa ho;have Hi:=Qa hi;have Hb:=Qa hb;have He:=Qa he;have d1:=Qa a0;have b3:=Qa a5;have c9:s.data.toList.length=s.size:=by simp
  have b4:∀b,u3.ownBlock=some b->b≠j:=fun b b1 e=>by
   obtain⟨_,cur,hg⟩:=al ho b1;rw[e,hi] at hg
   cases hg
  have c7:pre.length<=4294967296:=by have:=congrArg List.length he;rw[List.length_append] at this;omega
  rw[a5]
  cases rest with
  |nil=>
   have hlt:¬p<s.size:=by
    have:=congrArg List.length a0;rw[List.length_drop] at this;simp at this;omega
   have b2:∀ty,(Instr.next (.pointer (some ⟨j,0,none⟩)) true ty).run Tryz.prog wr =.ok (.tuple #[.bool false]) wr:=fun ty=>Lib.run_next_end_at wr j s p ty hi hlt
   clear ho hi hb he a0 b4 hlt hm hji hj a5;go_wp2_with fail;go_ret;have e:cs=pre:=by rw[He.out,List.append_nil]
   rw[e];exact⟨_,rfl,Ho.out,Hb.out⟩
  |cons c rest=>
   have h0:=Hc.out c (by rw[he];simp);have hlen:=congrArg List.length a0;rw[List.length_drop,c9,List.flatMap_cons,List.length_append] at hlen;have d0:(aO c).length≠0:=fun e=>fO h0 (List.eq_nil_of_length_eq_zero e)
   have hlt:p<s.size:=by omega
   have b2:∀ty,(Instr.next (.pointer (some ⟨j,0,none⟩)) true ty).run Tryz.prog wr =.ok (.tuple #[.bool true,.int .i64 p,.int .i32 (Utf8.decode s p).1]) (wr.iterAt j s (p+ (Utf8.decode s p).2)):=fun ty=>Lib.run_next_any_at wr j s p ty hi hlt
   rw[iu s p hlt,a0,List.flatMap_cons,kL h0,if_pos rfl] at b2;have c2:((c.toNat:Nat):Int)=c:=by have:=bY h0;omega
   dsimp only at b2
   rw[c2] at b2;have b8:bo w (wr.iterAt j s (p+ (aO c).length)):=bo.iter hi hb (by omega);have a9:=aM.iter (w:=wr) (j:=j) (q:=p+ (aO c).length) (s:=s);have c5:=Qa (Lib.iterAt_heap wr j s p (p+ (aO c).length) hi);have c6:=Qa (show yd (wr.iterAt j s (p+ (aO c).length)) w.heap.size u3 pre from a8 ho (fun b b1=>by obtain⟨_,cur,hg⟩:=al ho b1;exact a9.block b (ag hg) (b4 b b1)));have c8:=Qa b8;have a3:=Qa (show s.data.toList.drop (p+ (aO c).length)=rest.flatMap aO by rw[<-List.drop_drop,a0,List.flatMap_cons,List.drop_left]);have q1:(p:Int)<=s.size:=by omega
   have q2:p<=s.size:=by omega
   have H0:=Qa h0;have Hgk:Hid (gk=rest.length+1):=Qa hm;have c4:=Qa (show c=65533->(s.extract p s.size).data.toList=239::191::189::rest.flatMap aO from fun e=>by
    rw[ByteArray.data_extract,Array.toList_extract,List.extract_eq_take_drop,a0,List.take_of_length_le (by rw[List.flatMap_cons,List.length_append];omega),List.flatMap_cons,e]
    show aO ((65533:Nat):Int)++_=_
    rw[Bq];rfl)
   clear ho hi hb he a0 b4 hlt hlen d0 a9 h0 c2 hm b8 hji hj a5;generalize wr.iterAt j s (p+ (aO c).length)=wi at *;have a4:=bo.alloc wi (.cells #[.int .i32 c] 21);have a2:=Qa (show yd (wi.alloc (.cells #[.int .i32 c] 21)) w.heap.size u3 pre from ai c6.out a4.b (Zb _));have c1:=Qa (av wi [eX c] 21);have a1:=Qa (c8.out.trans a4);have b0:=Qa (ah c5.out a4.b);have c0:=Qa (show pre.length+1<=maxLen by unfold maxLen;omega);have b9:=Qa (show(pre.length+1)*4<=140737488355328 by omega);have b5:=Qa a1.out.b.size
   by_cases hf:c=65533
   ·have Hx:=Qa (c4.out hf);have c3:(c==65533)=true:=by simpa using hf
    clear a4 hf;go_wp2_with fail;refine(nW _ Hx.out).mono ?_;rintro e w' ⟨rfl,rfl⟩;go_wp2_with (at_builtin;refine eK tu rfl (.tmp 26) (.tmp 28) rfl w.heap.size u3 pre.length wi.heap.size 1 1 (pre.map eX) [eX c] (by simp[Act.eval]) a2.out (by simp[Act.eval]) rfl c1.out (by simp[eX,Value.oneCell']) (by decide) c0.out b9.out b5.out ?_;intro v' w5 p1 p2 p3;have HK:=Qa p1;have HG:=Qa p2;have HD:=Qa p3;clear p1 p2 p3);have hfin:E9 s cs w.heap.size w rest.length v' w5:=by
     refine⟨pre ++ [c],rest,p+ (aO c).length,by rw[He.out];simp,rfl,a3.out,?_,by unfold yd;rw[List.length_append,List.map_append];exact HK.out,⟨aJ a1.out.b a2.out a1.out.b.size HG.out,Zc a1.out.d HD.out⟩⟩;rw[b3.out];exact ay b0.out HG.out (fun e=>by
      obtain⟨_,cur,hg⟩:=al a2.out e;rw[b0.out] at hg
      cases hg)
    rw[<-b3.out];go_roundg (rest.length)
    case measure=>have:=Hgk.out;omega
    case rel=>exact hfin
   ·have c3:(c==65533)=false:=by simpa using hf
    clear a4;go_wp2_with (at_builtin;refine eK tu rfl (.tmp 26) (.tmp 28) rfl w.heap.size u3 pre.length wi.heap.size 1 1 (pre.map eX) [eX c] (by simp[Act.eval]) a2.out (by simp[Act.eval]) rfl c1.out (by simp[eX,Value.oneCell']) (by decide) c0.out b9.out b5.out ?_;intro v' w5 p1 p2 p3;have HK:=Qa p1;have HG:=Qa p2;have HD:=Qa p3;clear p1 p2 p3);have hfin:E9 s cs w.heap.size w rest.length v' w5:=by
     refine⟨pre ++ [c],rest,p+ (aO c).length,by rw[He.out];simp,rfl,a3.out,?_,by unfold yd;rw[List.length_append,List.map_append];exact HK.out,⟨aJ a1.out.b a2.out a1.out.b.size HG.out,Zc a1.out.d HD.out⟩⟩;rw[b3.out];exact ay b0.out HG.out (fun e=>by
      obtain⟨_,cur,hg⟩:=al a2.out e;rw[b0.out] at hg
      cases hg)
    rw[<-b3.out];go_roundg (rest.length)
    case measure=>have:=Hgk.out;omega
    case rel=>exact hfin
