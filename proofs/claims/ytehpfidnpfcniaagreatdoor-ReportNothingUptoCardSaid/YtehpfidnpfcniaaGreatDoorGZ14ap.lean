import Derived.Test.YtehpfidnpfcniaaGreatDoorGZ14ao
set_option linter.unusedVariables false
set_option linter.unusedSimpArgs false
set_option maxHeartbeats 64000000
set_option maxRecDepth 100000
namespace Go.Proofs.YtehpfidnpfcniaaGreatDoor
open Go.RowKit Go.Shelf
variable {aE aU:Addr}{j:JV}{xs ys:List UInt8}{B g i k0 n o q:Nat}{e:TypeId}{v z:Value}{w w':World}
structure sA (w:World) (aU aE:Addr):Prop where
 glob:cd w aU aE
 goes:kV w
 begins:jS w
 number:a7 w 19
 exponent:a7 w 20
 quote:a7 w 22
 escape:a7 w 27
 surrogate:a7 w 28
 control:a7 w 24
theorem sA.below (h:sA w aU aE)(hb:Below w.heap.size w w'):sA w' aU aE:=
 ⟨h.glob.below hb,h.goes.below hb,h.begins.below hb,h.number.below hb,h.exponent.below hb,h.quote.below hb,h.escape.below hb,h.surrogate.below hb,h.control.below hb⟩
def JV.kindOf:JV->Int | .mk k _ _ _ _ _=>k
def JV.numOf:JV->Dc | .mk _ _ _ d _ _=>d
def JV.trOf:JV->Bool | .mk _ t _ _ _ _=>t
def gZ (j:JV):List UInt8:=if j.kindOf=1 then [110,117,108,108] else if j.trOf then [116,114,117,101] else [102,97,108,115,101]
def ko (k:Nat):pj->Value
 | .mark c=>.iface 302 (.agg #[.int .i64 k,.int .u8 c.toNat])
 | .str s=>.iface 305 (.agg #[.int .i64 k,.string s])
 | .leaf j=>if j.kindOf=3 then .iface 339 (.agg #[.int .i64 k,.bool j.numOf.neg,.string j.numOf.digits,.int .i64 j.numOf.exp]) else .iface 332 (.agg #[.int .i64 k,.string ⟨(gZ j).toArray⟩])
def mf (w:World)(g:Nat)(v:Value)(xs:List UInt8)(k:Nat):Prop:=w.heap[g]?=some (.cells #[v,.int .i64 k] 294 (0,0))/\Bs w v xs
theorem mf.below {k:Nat}(h:mf w g v xs k)(hb:Below w.heap.size w w'):mf w' g v xs k:=⟨ai h.1 hb,h.2.below hb⟩
theorem ti {l:List UInt8}(h:rQ l=some j):Eo l=true/\j.kindOf≠3/\gZ j=l:=by
 unfold rQ at h
 split at h
 ·injection h with h;subst h;rename_i e;subst e;exact⟨by decide,by decide,rfl⟩
 split at h
 ·injection h with h;subst h;rename_i e;subst e;exact⟨by decide,by decide,rfl⟩
 split at h
 ·injection h with h;subst h;rename_i e;subst e;exact⟨by decide,by decide,rfl⟩
 ·cases h
theorem Fo {l:List UInt8}(h:i< (l.takeWhile cL).length):∃c,l[i]?=some c/\cL c=true:=by
 induction l generalizing i with
 |nil=>simp at h
 |cons x t ih=>
  by_cases hx:cL x=true
  ·rw[List.takeWhile_cons,if_pos hx] at h
   cases i with
   |zero=>exact⟨x,rfl,hx⟩
   |succ i=>exact ih (by simpa using h)
  ·rw[List.takeWhile_cons,if_neg hx] at h;simp at h
theorem Eg {l:List UInt8}{c:UInt8}(h:l[(l.takeWhile cL).length]?=some c):cL c=false:=by
 induction l with
 |nil=>cases h
 |cons x t ih=>
  by_cases hx:cL x=true
  ·rw[List.takeWhile_cons,if_pos hx] at h;exact ih h
  ·rw[List.takeWhile_cons,if_neg hx] at h;injection h with h
   subst h;simpa using hx
theorem B3 (l:List UInt8):l.take (l.takeWhile cL).length=l.takeWhile cL:=by
 induction l with
 |nil=>rfl
 |cons x t ih=>
  by_cases hx:cL x=true
  ·rw[List.takeWhile_cons,if_pos hx,List.length_cons,List.take_succ_cons,ih]
  ·rw[List.takeWhile_cons,if_neg hx];rfl
def yV (k:Nat)(t:pj)(n:Nat)(w:World)(e:Ending)(w':World):Prop:=e =.returned (.tuple #[ko k t,.int .i64 n,.nilIface])/\Below w.heap.size w w'
theorem oy {k:Nat}(hE:sA w aU aE)(h:mf w g v xs k0)(hl:xs.length<=1000000000){x:UInt8}(hx:xs[k]?=some x)(hk:bL x=2):Calls Tryz.prog 188 #[.pointer (some ⟨g,0,none⟩),.int .i64 k] w (yV k (.mark x) 1 w):=by
 obtain⟨hg,hb⟩:=h;obtain⟨hm,A,cap,rfl,b0,a0⟩:=id hb;have c0:=aa hg (j:=0) (u:=.slice A xs.length cap) rfl;obtain⟨hlt,a9⟩:=List.getElem?_eq_some_iff.1 hx;obtain⟨b,o,rfl,a2⟩:=a0 (by omega);have a1:am xs k=x.toNat:=by unfold am;rw[List.getD_eq_getElem?_getD,hx];rfl
 have ck:=a2 k hlt;rw[a1] at ck;have a3:=H8 (cN x hE.begins);have b1:(k:Int)<=xs.length:=by omega
 have a4:(0:Int)< (xs.length - k:Nat):=by omega
 have a5:0<xs.length - k:=by omega
 have b2:¬cap=k:=by omega
 clear hg hb a0 a2 hx a9 a1 hE;go_enter Tryz.func188,Tryz.ntmps188;go_wp2_with fail;refine Za a3 ?_;rintro e w' ⟨rfl,rfl⟩;rw[hk];clear hk a3;go_wp2_with fail;go_ret3;exact⟨rfl,Ze _ _⟩
theorem qA {k:Nat}(hE:sA w aU aE)(h:mf w g v xs k0)(hl:xs.length<=1000000000){x:UInt8}(hx:xs[k]?=some x)(hk:bL x=5){p:List UInt8×Nat}(hp:kt (xs.drop k)=some p):Calls Tryz.prog 188 #[.pointer (some ⟨g,0,none⟩),.int .i64 k] w (yV k (.str ⟨p.1.toArray⟩) p.2 w):=by
 obtain⟨hg,hb⟩:=h;obtain⟨hm,A,cap,rfl,b3,a0⟩:=id hb;have c0:=aa hg (j:=0) (u:=.slice A xs.length cap) rfl;obtain⟨hlt,b2⟩:=List.getElem?_eq_some_iff.1 hx;obtain⟨b,o,rfl,a5⟩:=a0 (by omega);have a1:am xs k=x.toNat:=by unfold am;rw[List.getD_eq_getElem?_getD,hx];rfl
 have ck:=a5 k hlt;rw[a1] at ck;have a2:=H8 (cN x hE.begins);have b4:(k:Int)<=xs.length:=by omega
 have a9:(0:Int)< (xs.length - k:Nat):=by omega
 have b1:0<xs.length - k:=by omega
 have b5:¬cap=k:=by omega
 have a3:=H8 (oJ (show Bs w (.slice (some ⟨b,o+k,none⟩) (xs.length - k) (cap - k)) (xs.drop k) from hb.cut (Nat.le_of_lt hlt)) hE.glob hE.quote hE.escape hE.surrogate hE.control (by rw[List.length_drop];omega));rw[hp] at a3;clear hg hb a0 a5 hx b2 a1 hE hp;go_enter Tryz.func188,Tryz.ntmps188;go_wp2_with fail;refine Za a2 ?_;rintro e w' ⟨rfl,rfl⟩;rw[hk];clear hk a2;go_wp2_with fail;refine Za a3 ?_;rintro e w1 (⟨q,hq,rfl,a4⟩|⟨hn,_⟩)
 case inr=>cases hn
 injection hq with hq
 subst hq;have b0:=H8 a4;clear a4;rw[show CI p =.tuple #[.string ⟨p.1.toArray⟩,.int .i64 p.2,.nilIface] from rfl];go_wp2_with fail;go_ret3;exact⟨rfl,b0.out⟩
theorem pP {k:Nat}(hE:sA w aU aE)(h:mf w g v xs k0)(hl:xs.length<=1000000000){x:UInt8}(hx:xs[k]?=some x)(hk:bL x=4){p:Dc×Nat}(hp:kU (xs.drop k)=some p):Calls Tryz.prog 188 #[.pointer (some ⟨g,0,none⟩),.int .i64 k] w fun e w'=>yV k (.leaf (kw p.1)) p.2 w e w':=by
 obtain⟨hg,hb⟩:=h;obtain⟨hm,A,cap,rfl,b3,a0⟩:=id hb;have c0:=aa hg (j:=0) (u:=.slice A xs.length cap) rfl;obtain⟨hlt,b2⟩:=List.getElem?_eq_some_iff.1 hx;obtain⟨b,o,rfl,a5⟩:=a0 (by omega);have a1:am xs k=x.toNat:=by unfold am;rw[List.getD_eq_getElem?_getD,hx];rfl
 have ck:=a5 k hlt;rw[a1] at ck;have a2:=H8 (cN x hE.begins);have b4:(k:Int)<=xs.length:=by omega
 have a9:(0:Int)< (xs.length - k:Nat):=by omega
 have b1:0<xs.length - k:=by omega
 have b5:¬cap=k:=by omega
 have a3:=H8 (nT (show Bs w (.slice (some ⟨b,o+k,none⟩) (xs.length - k) (cap - k)) (xs.drop k) from hb.cut (Nat.le_of_lt hlt)) (by rw[List.length_drop];omega) hE.goes hE.number hE.exponent);rw[hp] at a3;clear hg hb a0 a5 hx b2 a1 hE hp;go_enter Tryz.func188,Tryz.ntmps188;go_wp2_with fail;refine Za a2 ?_;rintro e w' ⟨rfl,rfl⟩;rw[hk];clear hk a2;go_wp2_with fail;refine Za a3 ?_;rintro e w1 ⟨a4,rfl⟩;have b0:=H8 a4;clear a4;obtain⟨⟨dneg,ddig,dexp⟩,n⟩:=p;rw[show GE (⟨dneg,ddig,dexp⟩:Dc) =.agg #[.bool dneg,.string ddig,.int .i64 dexp] from rfl];go_wp2_with fail;go_ret3;exact⟨rfl,ak b0.out (ac _ _)⟩
theorem oL {k:Nat}(hE:sA w aU aE)(h:mf w g v xs k0)(hl:xs.length<=1000000000){x:UInt8}(hx:xs[k]?=some x)(hk:bL x=3)(hp:rQ (x:: (xs.drop (k+1)).takeWhile cL)=some j):Calls Tryz.prog 188 #[.pointer (some ⟨g,0,none⟩),.int .i64 k] w fun e w'=>yV k (.leaf j) (1+ ((xs.drop (k+1)).takeWhile cL).length) w e w':=by
 obtain⟨hg,hb⟩:=h;obtain⟨hm,A,cap,rfl,d6,a0⟩:=id hb;have c0:=aa hg (j:=0) (u:=.slice A xs.length cap) rfl;obtain⟨hlt,c8⟩:=List.getElem?_eq_some_iff.1 hx;obtain⟨b,o,rfl,b1⟩:=a0 (by omega);have c1:am xs k=x.toNat:=by unfold am;rw[List.getD_eq_getElem?_getD,hx];rfl
 have ck:=b1 k hlt;rw[c1] at ck;have c5:=H8 (cN x hE.begins);have e2:(k:Int)<=xs.length:=by omega
 have d0:(0:Int)< (xs.length - k:Nat):=by omega
 have d2:0<xs.length - k:=by omega
 have e4:¬cap=k:=by omega
 have hd:xs.drop k=x::xs.drop (k+1):=by rw[List.drop_eq_getElem_cons hlt,c8]
 have hcut:Bs w (.slice (some ⟨b,o+k,none⟩) (xs.length - k) (cap - k)) (xs.drop k):=hb.cut (Nat.le_of_lt hlt);obtain⟨b5,c9,b3⟩:=ti hp;obtain⟨tw,a2⟩:∃tw,tw= ((xs.drop (k+1)).takeWhile cL).length:=⟨_,rfl⟩;have hin:∀i,i<tw->∃c,xs[k+ (i+1)]?=some c/\cL c=true:=fun i hi=>by
  rw[a2] at hi;obtain⟨c,h1,h2⟩:=Fo hi;rw[List.getElem?_drop] at h1;exact⟨c,by rw[<-h1];congr 1;omega,h2⟩
 have a5:∀c,xs[k+ (tw+1)]?=some c->cL c=false:=fun c hc=>by
  refine Eg (l:=xs.drop (k+1)) ?_;rw[<-a2,List.getElem?_drop,<-hc];congr 1;omega
 have d5:tw+1<=xs.length - k:=by
  have:=(List.takeWhile_prefix cL (l:=xs.drop (k+1))).length_le;rw[<-a2,List.length_drop] at this;omega
 have c3:(xs.drop k).take (tw+1)=x:: (xs.drop (k+1)).takeWhile cL:=by rw[hd,List.take_succ_cons,a2,B3]
 have a4:(convert 28 9 (.slice (some ⟨b,o+k,none⟩) (tw+1) (cap - k))).run Tryz.prog w =.ok (.string ⟨(gZ j).toArray⟩) w:=by
  rw[b3,<-c3];exact aH (hcut.upto (by rw[List.length_drop];omega))
 rw[<-b3] at b5;have b9:∀i c,i<xs.length - k->xs[k+i]?=some c->w.cell? ⟨b,o+k+i,none⟩=some (.int .u8 c.toNat):=fun i c hi hc=>by
  have h1:=b1 (k+i) (by omega);have h2:am xs (k+i)=c.toNat:=by unfold am;rw[List.getD_eq_getElem?_getD,hc];rfl
  rw[h2,<-Nat.add_assoc] at h1;exact h1
 have c7:=H8 b9;have d1:=H8 hin;have b2:=H8 a5;have c6:=H8 b5;have b0:=H8 a4;have Hv:=H8 (show ko k (.leaf j) =.iface 332 (.agg #[.int .i64 k,.string ⟨(gZ j).toArray⟩]) from if_neg c9);rw[<-a2];generalize gZ j=wl at *;have e3:tw+1<=cap - k:=by omega
 have e1:=H8 a2;clear hd hcut b5 c9 b3 hin a5 c3 a4 b9 hp a2;clear hg hb a0 b1 hx c8 c1 hE;go_enter Tryz.func188,Tryz.ntmps188;go_wp2_with fail;refine Za c5 ?_;rintro e w' ⟨rfl,rfl⟩;rw[hk];clear hk c5;go_wp2_with fail
 go_loopg [8] tw (fun m s8 wr=> ∃n:Nat,m+n=tw/\s8 =.int .i64 (n+1:Nat)/\wr=w)
 case atStart=>exact⟨0,rfl,rfl,rfl⟩
 case round=>
  obtain⟨n,a9,rfl,rfl⟩:=hrel;have a1:((n+1:Nat):Int)= (n:Int)+1:=by omega
  obtain⟨z,hz⟩:∃z:Int,((n+1:Nat):Int)=z:=⟨_,rfl⟩
  by_cases hlt2:n<tw
  ·obtain⟨c,a3,b8⟩:=d1.out n hlt2;have a0:=c7.out (n+1) c (by omega) a3;have c2:((n+1:Nat):Int)< (xs.length - k:Nat):=by omega
   have c4:n+1<xs.length - k:=by omega
   have s1:IntKind.i64.wrap ((n:Int)+1+1)= (n:Int)+1+1:=IntWalk.i64_in _ (by omega);have b4:=H8 b8;have Hmn:=H8 a9;clear a9 a3 b8 a1 hz;go_wp2_with fail;refine(iC c _).mono ?_;rintro e w' ⟨rfl,rfl⟩;rw[b4.out];go_wp2_with fail;go_roundg (tw - (n+1))
   case measure=>have:=Hmn.out;omega
   case rel=>exact⟨n+1,by have:=Hmn.out;omega,by go_num,rfl⟩
  ·obtain rfl:n=tw:=by omega
   have Hmn:=H8 a9;have d3:n+1<=xs.length - k:=d5;have q1:(0:Int)<=(n:Int)+1:=by omega
   have q2:(n:Int)+1<=(cap - k:Nat):=by omega
   have d9:=b0.out;have e0:((n:Int)+1).toNat=n+1:=by omega
   have d4:¬ (cap - k=0):=by omega
   clear a9 a1 hz hlt2
   by_cases hend:n+1=xs.length - k
   ·have c2:¬ (n:Int)+1< (xs.length - k:Nat):=by omega
    have c4:¬n+1<xs.length - k:=by omega
    clear hend;go_wp2_with fail;refine(j1 wl _).mono ?_;rintro e w' ⟨rfl,rfl⟩;rw[c6.out];go_wp2_with fail;go_ret3;refine⟨?_,Ze _ _⟩;rw[Hv.out,show((1+n:Nat):Int)= (n:Int)+1 from by omega];rfl
   ·obtain⟨c,a3⟩:∃c,xs[k+ (n+1)]?=some c:=⟨_,Zd (by omega)⟩;have a0:=c7.out (n+1) c (by omega) a3;have c2:(n:Int)+1< (xs.length - k:Nat):=by omega
    have c4:n+1<xs.length - k:=by omega
    have b4:=H8 (b2.out c a3);clear hend a3;go_wp2_with fail;refine(iC c _).mono ?_;rintro e w' ⟨rfl,rfl⟩;rw[b4.out];go_wp2_with fail;refine(j1 wl _).mono ?_;rintro e w' ⟨rfl,rfl⟩;rw[c6.out];go_wp2_with fail;go_ret3;refine⟨?_,Ze _ _⟩;rw[Hv.out,show((1+n:Nat):Int)= (n:Int)+1 from by omega];rfl
theorem pW {k:Nat}(hE:sA w aU aE)(h:mf w g v xs k0)(hl:xs.length<=1000000000){t:pj}(hx:cm (xs.drop k)=some (t,n)):Calls Tryz.prog 188 #[.pointer (some ⟨g,0,none⟩),.int .i64 k] w (yV k t n w):=by
 obtain⟨x,a1⟩:∃x,xs[k]?=some x:=by
  cases hd:xs.drop k with
  |nil=>rw[hd] at hx;cases hx
  |cons x r=>exact⟨x,by have:=congrArg (·[0]?) hd;simpa [List.getElem?_drop] using this⟩
 obtain⟨hlt,a2⟩:=List.getElem?_eq_some_iff.1 a1;have hd:xs.drop k=x::xs.drop (k+1):=by rw[List.drop_eq_getElem_cons hlt,a2]
 have a0:=hx;rw[hd] at a0;simp only[cm] at a0
 split at a0
 ·rename_i hk
  injection a0 with a0
  injection a0 with e1 e2
  subst e1 e2;exact oy hE h hl a1 hk
 ·rename_i hk
  rw[Option.map_eq_some_iff] at a0;obtain⟨j,hj,a0⟩:=a0;injection a0 with e1 e2
  subst e1 e2;exact oL hE h hl a1 hk hj
 ·rename_i hk
  rw[Option.map_eq_some_iff] at a0;obtain⟨p,hp,a0⟩:=a0;injection a0 with e1 e2
  subst e1 e2;rw[<-hd] at hp;exact pP hE h hl a1 hk hp
 ·rename_i hk
  rw[Option.map_eq_some_iff] at a0;obtain⟨p,hp,a0⟩:=a0;injection a0 with e1 e2
  subst e1 e2;rw[<-hd] at hp;exact qA hE h hl a1 hk hp
 ·cases a0
theorem DE {l:List UInt8}(h:i< (l.takeWhile bR).length):∃c,l[i]?=some c/\bR c=true:=by
 induction l generalizing i with
 |nil=>simp at h
 |cons x t ih=>
  by_cases hx:bR x=true
  ·rw[List.takeWhile_cons,if_pos hx] at h
   cases i with
   |zero=>exact⟨x,rfl,hx⟩
   |succ i=>exact ih (by simpa using h)
  ·rw[List.takeWhile_cons,if_neg hx] at h;simp at h
theorem EC {l:List UInt8}{c:UInt8}(h:l[(l.takeWhile bR).length]?=some c):bR c=false:=by
 induction l with
 |nil=>cases h
 |cons x t ih=>
  by_cases hx:bR x=true
  ·rw[List.takeWhile_cons,if_pos hx] at h;exact ih h
  ·rw[List.takeWhile_cons,if_neg hx] at h;injection h with h
   subst h;simpa using hx
theorem ox (l:List UInt8):l.drop (l.takeWhile bR).length=l.dropWhile bR:=by
 induction l with
 |nil=>rfl
 |cons x t ih=>
  by_cases hx:bR x=true
  ·rw[List.takeWhile_cons,if_pos hx,List.length_cons,List.drop_succ_cons,ih,List.dropWhile_cons,if_pos hx]
  ·rw[List.takeWhile_cons,if_neg hx,List.dropWhile_cons,if_neg hx];rfl
theorem zu (c:UInt8):((bL c:Nat)==1)=bR c:=by
 have:=qn (p:=fun c=>decide (((bL c:Nat)==1)=bR c)) (by decide +kernel) c;simpa using this
theorem lg (c:UInt8):(((bL c:Nat):Int)==1)=bR c:=by
 rw[<-zu];rw[Bool.eq_iff_iff];simp only[beq_iff_eq];omega
def Fe (g:Nat)(v:Value)(xs:List UInt8)(tv:Value)(k:Nat)(w:World)(e:Ending)(w':World):Prop:=e =.returned (.tuple #[tv,.nilIface])/\mf w' g v xs k/\aM (fun i=>i=g) w w'
theorem mf.apart {k b:Nat}(h:w.heap[g]?=some (.cells #[v,.int .i64 k] 294 (0,0)))(hv:∃A n q,v =.slice A n q)(hc:∃z:Nat,w.cell? ⟨b,o,none⟩=some (.int .u8 z)):g≠b:=by
 intro e;subst e;obtain⟨z,hz⟩:=hc;obtain⟨A,n,q,rfl⟩:=hv;rcases o with _|_|o
 ·rw[aa h (j:=0) rfl] at hz;injection hz with hz
  cases hz
 ·rw[aa h (j:=1) rfl] at hz;injection hz with hz
  cases hz
 ·unfold World.cell? at hz;simp[h] at hz
theorem mf.set {k:Nat}(h:mf w g v xs k){z:Int}{j:Nat}(hz:z=j):mf (w.setCell ⟨g,1,none⟩ (.int .i64 z)) g v xs j:=by
 subst hz;refine⟨au h.1 1 _,?_⟩;obtain⟨hm,A,c,rfl,hc,a0⟩:=h.2;refine⟨hm,A,c,rfl,hc,fun h0=>?_⟩;obtain⟨b,o,rfl,a1⟩:=a0 h0;refine⟨b,o,rfl,fun i hi=>?_⟩;rw[World.cell?_setCell_far _ _ _ _ (mf.apart h.1 ⟨_,_,_,rfl⟩ ⟨_,a1 i hi⟩)];exact a1 i hi
theorem oW:∀ (f:Nat) (xs out:List UInt8) (n:Nat) (p:List UInt8×Nat),eb f xs out n=some p->p.2<=n+xs.length
 |0,_,_,_,_,h=>by cases h
 |f+1,xs,out,n,p,h=>by
  unfold eb at h
  split at h
  ·cases h
  ·rename_i hp
   have:=mV hp;injection h with h;subst h
   simp only;omega
  ·rename_i c k hp
   have h1:=(lN hp).2.2;have h2:=oW f _ _ _ p h;rw[List.length_drop] at h2;simp only at h1;omega
theorem kS {t:pj}(h:cm xs=some (t,n)):1<=n/\n<=xs.length:=by
 refine⟨(ln h).1,?_⟩
 cases xs with
 |nil=>cases h
 |cons x xs=>
  simp only[cm] at h
  split at h
  ·injection h with h;injection h with _ h;subst h;simp
  ·rw[Option.map_eq_some_iff] at h;obtain⟨j,-,h⟩:=h;injection h with _ h;subst h
   have:=(List.takeWhile_prefix cL (l:=xs)).length_le;rw[List.length_cons];omega
  ·rw[Option.map_eq_some_iff] at h;obtain⟨p,hp,h⟩:=h;injection h with _ h;subst h
   exact(pK hp).2
  ·rw[Option.map_eq_some_iff] at h;obtain⟨p,hp,h⟩:=h;injection h with _ h;subst h
   unfold kt at hp
   split at hp
   ·rename_i ys e
    injection e with e1 e2
    subst e2;have:=oW _ _ _ _ _ hp;rw[List.length_cons];omega
   ·cases hp
  ·cases h
theorem tX (k:Nat)(t:pj):∃ty v,ko k t =.iface ty v:=by
 cases t with
 |mark c=>exact⟨_,_,rfl⟩
 |str s=>exact⟨_,_,rfl⟩
 |leaf j=>
  unfold ko;simp only
  split
  ·exact⟨_,_,rfl⟩
  ·exact⟨_,_,rfl⟩
theorem py {k:Nat}(hE:sA w aU aE)(h:mf w g v xs k)(hk:k<=xs.length)(hl:xs.length<=1000000000)(hd:(xs.drop k).dropWhile bR = []):Calls Tryz.prog 175 #[.pointer (some ⟨g,0,none⟩)] w fun e w'=>Fe g v xs (.iface 300 (.agg #[.int .i64 xs.length])) xs.length w e w':=by
 obtain⟨hg,hb⟩:=id h;obtain⟨hm,A,cap,rfl,c2,a0⟩:=id hb;obtain⟨tw,a3⟩:∃tw,tw= ((xs.drop k).takeWhile bR).length:=⟨_,rfl⟩;have a4:=ox (xs.drop k);rw[hd,<-a3,List.drop_drop] at a4;have b1:=congrArg List.length a4;rw[List.length_drop,List.length_nil] at b1;have b5:tw+k<=xs.length:=by
  have:=(List.takeWhile_prefix bR (l:=xs.drop k)).length_le;rw[<-a3,List.length_drop] at this;omega
 have hin:∀i,i<tw->∃c,xs[k+i]?=some c/\(((bL c:Nat):Int)==1)=true:=fun i hi=>by
  rw[a3] at hi;obtain⟨c,h1,h2⟩:=DE hi;rw[List.getElem?_drop] at h1;exact⟨c,h1,by rw[lg];exact h2⟩
 have c0:=aa hg (j:=0) (u:=.slice A xs.length cap) rfl;have c1:=aa hg (j:=1) (u:=.int .i64 k) rfl;have f1:=aj hg 1;have b3:=H8 hin;have a2:=H8 a0;have H:=H8 h;have HB:=H8 hE.begins;clear hd a4 hin hg hb a0 h hE a3;go_enter Tryz.func175,Tryz.ntmps175;go_wp2_with fail
 go_loopg [4] tw (fun m s4 wr=> ∃n:Nat,m+n=tw/\s4 =.int .i64 (k+n:Nat)/\wr=w)
 case atStart=>exact⟨0,rfl,rfl,rfl⟩
 case round=>
  obtain⟨n,a5,rfl,rfl⟩:=hrel;have a1:((k+n:Nat):Int)= (k:Int)+n:=by omega
  by_cases hlt2:n<tw
  ·obtain⟨c,a9,b0⟩:=b3.out n hlt2;obtain⟨b,o,rfl,b2⟩:=a2.out (by omega);have b4:=b2 (k+n) (by omega);have h2:am xs (k+n)=c.toNat:=by unfold am;rw[List.getD_eq_getElem?_getD,a9];rfl
   rw[h2] at b4;have c5:(k:Int)+n<xs.length:=by omega
   have c4:k+n<xs.length:=by omega
   have s1:IntKind.i64.wrap (((k+n:Nat):Int)+1)= ((k+ (n+1):Nat):Int):=by rw[IntWalk.i64_in _ (by omega)];omega
   have b8:=H8 b0;have Hmn:=H8 a5;have b9:=H8 (cN c HB.out);clear a5 a9 b0 a1 b2 h2;go_wp2_with fail;refine Za b9 ?_;rintro e w' ⟨rfl,rfl⟩;have c3:=b8.out;go_wp2_with fail;go_roundg (tw - (n+1))
   case measure=>have:=Hmn.out;omega
   case rel=>exact⟨n+1,by have:=Hmn.out;omega,rfl,rfl⟩
  ·have e:k+n=xs.length:=by omega
   rw[e];have s2:(xs.length:Int)= ((xs.length:Nat):Int):=rfl;have H2:=H8 (H.out.set (z:=((xs.length:Nat):Int)) (j:=xs.length) rfl);clear a1 hlt2 a5 e b1 b5 s2;go_wp2_with fail;go_ret2;exact⟨rfl,H2.out,aM.set g 1 _⟩
theorem r9 {k:Nat}(hE:sA w aU aE)(h:mf w g v xs k)(hk:k<=xs.length)(hl:xs.length<=1000000000){y:UInt8}(hd:(xs.drop k).dropWhile bR=y::ys){t:pj}(hx:cm (y::ys)=some (t,n)):Calls Tryz.prog 175 #[.pointer (some ⟨g,0,none⟩)] w fun e w'=>Fe g v xs (ko (xs.length - (ys.length+1)) t) (xs.length - (ys.length+1)+n) w e w':=by
 obtain⟨hg,hb⟩:=id h;obtain⟨hm,A,cap,rfl,e0,a0⟩:=id hb;obtain⟨tw,a4⟩:∃tw,tw= ((xs.drop k).takeWhile bR).length:=⟨_,rfl⟩;have a3:=ox (xs.drop k);rw[hd,<-a4,List.drop_drop] at a3;have c2:=congrArg List.length a3;rw[List.length_drop,List.length_cons] at c2;have d6:tw+k<=xs.length:=by
  have:=(List.takeWhile_prefix bR (l:=xs.drop k)).length_le;rw[<-a4,List.length_drop] at this;omega
 have hin:∀i,i<tw->∃c,xs[k+i]?=some c/\(((bL c:Nat):Int)==1)=true:=fun i hi=>by
  rw[a4] at hi;obtain⟨c,h1,h2⟩:=DE hi;rw[List.getElem?_drop] at h1;exact⟨c,h1,by rw[lg];exact h2⟩
 have c0:=aa hg (j:=0) (u:=.slice A xs.length cap) rfl;have c1:=aa hg (j:=1) (u:=.int .i64 k) rfl;have f1:=aj hg 1;have c4:xs.length - (ys.length+1)=k+tw:=by omega
 have e1:k+tw<xs.length:=by omega
 rw[c4];have b4:xs[k+tw]?=some y:=by
  have:=congrArg (·[0]?) a3;simpa [List.getElem?_drop] using this
 have c3:bR y=false:=by
  refine EC (l:=xs.drop k) ?_;rw[<-a4,List.getElem?_drop];exact b4
 rw[<-a3] at hx;have c9:=H8 (pW hE h hl hx);have c8:=(kS hx).2;rw[List.length_drop] at c8;have b9:(((bL y:Nat):Int)==1)=false:=by rw[lg];exact c3
 have d2:=H8 b9;have d0:=H8 b4;clear b4 c3 hx b9 c4;have c5:=H8 hin;have a1:=H8 a0;have H:=H8 h;have HB:=H8 hE.begins;clear hd a3 hin c2 hg hb a0 h hE a4;go_enter Tryz.func175,Tryz.ntmps175;go_wp2_with fail
 go_loopg [4] tw (fun m s4 wr=> ∃n0:Nat,m+n0=tw/\s4 =.int .i64 (k+n0:Nat)/\wr=w)
 case atStart=>exact⟨0,rfl,rfl,rfl⟩
 case round=>
  obtain⟨n0,b0,rfl,rfl⟩:=hrel;have a2:((k+n0:Nat):Int)= (k:Int)+n0:=by omega
  by_cases hlt2:n0<tw
  ·obtain⟨c,b5,b8⟩:=c5.out n0 hlt2;obtain⟨b,o,rfl,a5⟩:=a1.out (by omega);have b2:=a5 (k+n0) (by omega);have h2:am xs (k+n0)=c.toNat:=by unfold am;rw[List.getD_eq_getElem?_getD,b5];rfl
   rw[h2] at b2;have d1:(k:Int)+n0<xs.length:=by omega
   have d5:k+n0<xs.length:=by omega
   have s1:IntKind.i64.wrap (((k+n0:Nat):Int)+1)= ((k+ (n0+1):Nat):Int):=by rw[IntWalk.i64_in _ (by omega)];omega
   have d9:=H8 b8;have Hmn:=H8 b0;have b3:=H8 (cN c HB.out);clear b0 b5 b8 a2 a5 h2;go_wp2_with fail;refine Za b3 ?_;rintro e w' ⟨rfl,rfl⟩;have c6:=d9.out;go_wp2_with fail;go_roundg (tw - (n0+1))
   case measure=>have:=Hmn.out;omega
   case rel=>exact⟨n0+1,by have:=Hmn.out;omega,rfl,rfl⟩
  ·obtain rfl:n0=tw:=by omega
   obtain⟨b,o,rfl,a5⟩:=a1.out (by omega);have b2:=a5 (k+n0) (by omega);have h2:am xs (k+n0)=y.toNat:=by unfold am;rw[List.getD_eq_getElem?_getD,d0.out];rfl
   rw[h2] at b2;have d1:(k:Int)+n0<xs.length:=by omega
   have d5:k+n0<xs.length:=by omega
   have hne:(((k+n0:Nat):Int)== (xs.length:Int))=false:=by simp only[beq_eq_false_iff_ne];omega
   have b3:=H8 (cN y HB.out);have d4:k+n0+n<=1000000000:=by omega
   clear b0 a2 hlt2 a5 h2 d6;go_wp2_with fail;refine Za b3 ?_;rintro e w' ⟨rfl,rfl⟩;have c6:=d2.out;go_wp2_with fail;(try rw[show(k:Int)+n0= ((k+n0:Nat):Int) from by omega]);refine Za c9 ?_;rintro e w1 ⟨rfl,a9⟩;have H1:=H8 (H.out.below a9);have c7:=H8 a9;have f1':=aj H1.out.1 1;have c1':=aa H1.out.1 (j:=1) (u:=.int .i64 k) rfl;have s1:IntKind.i64.wrap (((k+n0:Nat):Int)+n)= ((k+n0+n:Nat):Int):=by rw[IntWalk.i64_in _ (by omega)];omega
   have H2:=H8 (H1.out.set (z:=((k+n0+n:Nat):Int)) (j:=k+n0+n) rfl);obtain⟨tt,tv,b1⟩:=tX (k+n0) t;rw[b1];have d3:=H8 b1;clear a9 b1;go_wp2_with fail;go_ret2;exact⟨by rw[d3.out];rfl,H2.out,(aM.of_below c7.out).trans (aM.set g 1 _) (fun i hi=>.inl hi)⟩
theorem uL (hb:Bs w v xs)(h0:0<xs.length)(hl:xs.length<=1000000000):Calls Tryz.prog 174 #[v] w fun e w'=> ∃u,e =.returned u/\ao w' w.heap.size u xs/\Below w.heap.size w w':=by
 obtain⟨hm,A,cap,rfl,a9,a0⟩:=id hb;obtain⟨b,o,rfl,b0⟩:=a0 h0;have a1:=ac w (.cells #[] 5);have Hb:=H8 (hb.below a1);have Ho:=H8 (ao.made (base:=w.heap.size) (Zf w (.cells #[] 5)) (Zb _) (cap:=0) (Zj _) rfl);have a2:=H8 a1;have a5:=H8 (show([]:List UInt8).length+xs.length<=140737488355328 by simp;omega);have a3:=H8 a1.size;clear hb a0 b0 a1;have hq:(binOp .eql 28 (.slice (some ⟨b,o,none⟩) xs.length cap) (.slice none 0 0)).run Tryz.prog w =.ok (.bool false) w:=by
  simp only[binOp];simp[run_equal_slice_nil w 28 5 (some ⟨b,o,none⟩) xs.length cap Tryz.underlying28]
 go_enter Tryz.func174,Tryz.ntmps174;go_wp2_with (at_builtin;refine p9 Ho.out Hb.out a5.out a3.out ?_;intro v' w3 h1 h2 h3;have HK:=H8 h1;have a4:=H8 h2;clear h1 h2 h3);go_ret;exact⟨_,rfl,HK.out,a2.out.grown a4.out a2.out.size (fun g e=>Nat.le_of_eq (Zi e))⟩
theorem sO (hb:Bs w v xs)(h0:0<xs.length)(hl:xs.length<=1000000000):Calls Tryz.prog 148 #[v] w fun e w'=> ∃g u,e =.returned (.pointer (some ⟨g,0,none⟩))/\mf w' g u xs 0/\Below w.heap.size w w'/\w.heap.size<=g/\ao w' w.heap.size u xs:=by
 have Hc:=H8 (uL hb h0 hl);clear hb;go_enter Tryz.func148,Tryz.ntmps148;go_wp2_with fail;refine Za Hc ?_;rintro e w1 ⟨u,rfl,ho,a1⟩;obtain⟨A,q,rfl,-⟩:=af ho;have Ho:=H8 (ao.bs ho);have a2:=H8 ho;have a0:=H8 a1;clear ho a1;go_wp2_with fail;go_ret;exact⟨w1.heap.size,_,rfl,⟨Zf _ _,Ho.out.below (ac _ _)⟩,ak a0.out (ac _ _),a0.out.size,ag a2.out (ac _ _) (Zb _)⟩
theorem eI {t:TypeId}{k:Nat}(E:cV t e z k B){ops:Array Oper}{rest:List Oper}{o:Oper}{a:Act}{Q:Exit->Act->World->Prop}(a2:o.guard=none)(s x:Operand)
  (ho:o.op =.call {callee:=.builtin .append,args:= #[s,x],argTypes:= #[t,t]})
  (base:Nat) (v:Value) (n g c m:Nat) (us news:List Value) (hs:a.eval s=v) (a1:w.ownsRow base e k v n us) (hx:a.eval x =.slice (some ⟨g,0,none⟩) m c) (hl:news.length=m*k)
  (hg:∀j u,news[j]?=some u->w.cell? ⟨g,j,none⟩=some u) (h1:∀u∈news,u.oneCell'=true) (hm:0<m)
  (hlen:n+m<=maxLen) (hby:(n+m)*B<=140737488355328) (a0:base<=w.heap.size)
  (h:∀v' w',w'.ownsRow base e k v' (n+m) (us++news)->w.grownBy w' v.ownBlock->w.drawn<=w'.drawn->wpList Tryz.prog ops Q rest (a.put o.dst v') w'):wpList Tryz.prog ops Q (o::rest) a w:=by
 refine wpList_plain a2 fun K hK=>?_
 obtain⟨v',w',hr,h2,h3,h4,h5⟩:=o5 E (ty:=o.type) base v n g c m us news a1 hl hg h1 hm hlen hby a0;unfold Oper.wp execOp;simp only[ho,resolve,invoke,builtin,Sem.run_bind,Sem.run_pure,Result.andThen_ok,List.map_toArray,List.map_cons,List.map_nil,hs,hx,hr];exact hK _ _ (h v' w' h2 h3 h5)
theorem qN (w:World){s:ByteArray}{t:List UInt8}(hs:s.data.toList=239::191::189::t):Calls Tryz.prog 51 #[.string s,.string ⟨#[239,191,189]⟩] w fun e w'=>e =.returned (.bool true)/\w=w':=by
 have a0:s.data.toList.length=s.size:=by simp
 rw[hs] at a0;simp only[List.length_cons] at a0;have h3:¬ (s.size:Int)<3:=by omega
 have a2:(3:Int)<=s.size:=by omega
 have a1:3<=s.size:=by omega
 have he:s.extract 0 3= ⟨#[239,191,189]⟩:=by
  have h:(s.extract 0 3).data.toList = [239,191,189]:=by
   rw[ByteArray.data_extract,Array.toList_extract,hs];rfl
  cases hx:s.extract 0 3 with
  |mk d=>rw[hx] at h;simp only at h;rw[<-h]
 have He:=H8 he;clear hs a0 he;go_enter Tryz.func51,Tryz.ntmps51;go_wp2_with fail;go_ret;refine⟨?_,rfl⟩
 show Ending.returned (.bool ((s.extract 0 3).toList == [239,191,189]))=_
 rw[He.out,ByteArray.toList_eq];rfl
theorem oM (w:World){s:ByteArray}{t:List UInt8}(hs:s.data.toList=239::191::189::t):Calls Tryz.prog 25 #[.string s,.string ⟨#[239,191,189]⟩] w fun e w'=>e =.returned (.bool true)/\w=w':=by
 have H:=H8 (qN w hs);clear hs;go_enter Tryz.func25,Tryz.ntmps25;go_wp2_with fail;refine Za H ?_;rintro e w' ⟨rfl,rfl⟩;go_wp2_with fail;go_ret;exact⟨rfl,rfl⟩
def Eu (s:ByteArray)(cs:List Int)(j:Nat)(w:World)(m:Nat)(s3:Value)(wr:World):Prop:=
 ∃ (pre rest:List Int) (p:Nat),cs=pre++rest/\m=rest.length/\s.data.toList.drop p=rest.flatMap aO/\wr.heap[j]?=some (.stringIter s p)/\xp wr w.heap.size s3 pre/\bo w wr
theorem bo.iter {j p:Nat}{s:ByteArray}(hj:w.heap[j]?=some (.stringIter s p)){B:World}(hb:bo B w)(hB:B.heap.size<=j):bo B (w.iterAt j s q):=by
 refine⟨hb.b.trans ((aM.iter (w:=w) (j:=j) (q:=q) (s:=s)).below hb.b.size (fun k hk=>by rw[hk];exact hB)),Zc hb.d ?_⟩;exact Zb _
theorem nA {s:ByteArray}(hs:bf s)(hl:s.size<=4294967296):Calls Tryz.prog 125 #[.string s] w fun e w'=> ∃v,e =.returned v/\xp w' w.heap.size v (nm s)/\bo w w':=by
 obtain⟨hc,hd⟩:=hs.nm;generalize Proofs.YtehpfidnpfcniaaGreatDoor.nm s=cs at *;have d1:cs.length<=4294967296:=by
  have h1:=dq hc;rw[hd] at h1;have:s.data.toList.length=s.size:=by simp
  omega
 have Hd:=H8 hd;have Hc:=H8 hc;have Hi:=H8 (Zf w (.stringIter s 0));have Hb:=H8 (bo.alloc w (.stringIter s 0));clear hs hd hc;go_enter Tryz.func125,Tryz.ntmps125;go_wp2_with fail
 go_loopg [3] cs.length (fun m s3 wr=>Eu s cs w.heap.size w m s3 wr)
 case atStart=>exact⟨[],cs,0,rfl,rfl,Hd.out.symm,Hi.out,⟨rfl,.inl ⟨rfl,rfl⟩⟩,Hb.out⟩
 case round=>
  clear Hi Hb;obtain⟨pre,rest,p,he,hm,a0,hi,ho,hb⟩:=hrel;have hji:w.heap.size<=w.heap.size:=Zb _;have hj:w.heap.size<wr.heap.size:=ah hi;obtain⟨j,a5⟩:∃j,w.heap.size=j:=⟨_,rfl⟩;rw[a5] at hi;have Ho:=H8 ho;have Hi:=H8 hi;have Hb:=H8 hb;have He:=H8 he;have d2:=H8 a0;have b2:=H8 a5;have c4:s.data.toList.length=s.size:=by simp
  have b4:∀b,u3.ownBlock=some b->b≠j:=fun b b0 e=>by
   obtain⟨_,cur,hg⟩:=al ho b0;rw[e,hi] at hg
   cases hg
  have c3:pre.length<=4294967296:=by have:=congrArg List.length he;rw[List.length_append] at this;omega
  rw[a5]
  cases rest with
  |nil=>
   have hlt:¬p<s.size:=by
    have:=congrArg List.length a0;rw[List.length_drop] at this;simp at this;omega
   have b1:∀ty,(Instr.next (.pointer (some ⟨j,0,none⟩)) true ty).run Tryz.prog wr =.ok (.tuple #[.bool false]) wr:=fun ty=>Lib.run_next_end_at wr j s p ty hi hlt
   clear ho hi hb he a0 b4 hlt hm hji hj a5;go_wp2_with fail;go_ret;have e:cs=pre:=by rw[He.out,List.append_nil]
   rw[e];exact⟨_,rfl,Ho.out,Hb.out⟩
  |cons c rest=>
   have h0:=Hc.out c (by rw[he];simp);have hlen:=congrArg List.length a0;rw[List.length_drop,c4,List.flatMap_cons,List.length_append] at hlen;have c5:(aO c).length≠0:=fun e=>ga h0 (List.eq_nil_of_length_eq_zero e)
   have hlt:p<s.size:=by omega
   have b1:∀ty,(Instr.next (.pointer (some ⟨j,0,none⟩)) true ty).run Tryz.prog wr =.ok (.tuple #[.bool true,.int .i64 p,.int .i32 (Utf8.decode s p).1]) (wr.iterAt j s (p+ (Utf8.decode s p).2)):=fun ty=>Lib.run_next_any_at wr j s p ty hi hlt
   rw[iq s p hlt,a0,List.flatMap_cons,kH h0,if_pos rfl] at b1;have c0:((c.toNat:Nat):Int)=c:=by have:=bX h0;omega
   dsimp only at b1
   rw[c0] at b1;have b8:bo w (wr.iterAt j s (p+ (aO c).length)):=bo.iter hi hb (by omega);have a4:=aM.iter (w:=wr) (j:=j) (q:=p+ (aO c).length) (s:=s);have c7:=H8 (Lib.iterAt_heap wr j s p (p+ (aO c).length) hi);have c6:=H8 (show xp (wr.iterAt j s (p+ (aO c).length)) w.heap.size u3 pre from be ho (fun b b0=>by obtain⟨_,cur,hg⟩:=al ho b0;exact a4.block b (ah hg) (b4 b b0)));have c8:=H8 b8;have a9:=H8 (show s.data.toList.drop (p+ (aO c).length)=rest.flatMap aO by rw[<-List.drop_drop,a0,List.flatMap_cons,List.drop_left]);have q1:(p:Int)<=s.size:=by omega
   have q2:p<=s.size:=by omega
   have H0:=H8 h0;have Hgk:Hid (gk=rest.length+1):=H8 hm;have c9:=H8 (show c=65533->(s.extract p s.size).data.toList=239::191::189::rest.flatMap aO from fun e=>by
    rw[ByteArray.data_extract,Array.toList_extract,List.extract_eq_take_drop,a0,List.take_of_length_le (by rw[List.flatMap_cons,List.length_append];omega),List.flatMap_cons,e]
    show aO ((65533:Nat):Int)++_=_
    rw[yJ];rfl)
   clear ho hi hb he a0 b4 hlt hlen c5 a4 h0 c0 hm b8 hji hj a5;generalize wr.iterAt j s (p+ (aO c).length)=wi at *;have a3:=bo.alloc wi (.cells #[.int .i32 c] 21);have a2:=H8 (show xp (wi.alloc (.cells #[.int .i32 c] 21)) w.heap.size u3 pre from ag c6.out a3.b (Zb _));have c1:=H8 (ar wi [eC c] 21);have a1:=H8 (c8.out.trans a3);have b3:=H8 (ai c7.out a3.b);have b5:=H8 (show pre.length+1<=maxLen by unfold maxLen;omega);have c2:=H8 (show(pre.length+1)*4<=140737488355328 by omega);have b9:=H8 a1.out.b.size
   by_cases hf:c=65533
   ·have Hx:=H8 (c9.out hf);have d0:(c==65533)=true:=by simpa using hf
    clear a3 hf;go_wp2_with fail;refine(oM _ Hx.out).mono ?_;rintro e w' ⟨rfl,rfl⟩;go_wp2_with (at_builtin;refine eI sL rfl (.tmp 26) (.tmp 28) rfl w.heap.size u3 pre.length wi.heap.size 1 1 (pre.map eC) [eC c] (by simp[Act.eval]) a2.out (by simp[Act.eval]) rfl c1.out (by simp[eC,Value.oneCell']) (by decide) b5.out c2.out b9.out ?_;intro v' w5 p1 p2 p3;have HK:=H8 p1;have HG:=H8 p2;have HD:=H8 p3;clear p1 p2 p3);have hfin:Eu s cs w.heap.size w rest.length v' w5:=by
     refine⟨pre ++ [c],rest,p+ (aO c).length,by rw[He.out];simp,rfl,a9.out,?_,by unfold xp;rw[List.length_append,List.map_append];exact HK.out,⟨aA a1.out.b a2.out a1.out.b.size HG.out,Zc a1.out.d HD.out⟩⟩;rw[b2.out];exact ay b3.out HG.out (fun e=>by
      obtain⟨_,cur,hg⟩:=al a2.out e;rw[b3.out] at hg
      cases hg)
    rw[<-b2.out];go_roundg (rest.length)
    case measure=>have:=Hgk.out;omega
    case rel=>exact hfin
   ·have d0:(c==65533)=false:=by simpa using hf
    clear a3;go_wp2_with (at_builtin;refine eI sL rfl (.tmp 26) (.tmp 28) rfl w.heap.size u3 pre.length wi.heap.size 1 1 (pre.map eC) [eC c] (by simp[Act.eval]) a2.out (by simp[Act.eval]) rfl c1.out (by simp[eC,Value.oneCell']) (by decide) b5.out c2.out b9.out ?_;intro v' w5 p1 p2 p3;have HK:=H8 p1;have HG:=H8 p2;have HD:=H8 p3;clear p1 p2 p3);have hfin:Eu s cs w.heap.size w rest.length v' w5:=by
     refine⟨pre ++ [c],rest,p+ (aO c).length,by rw[He.out];simp,rfl,a9.out,?_,by unfold xp;rw[List.length_append,List.map_append];exact HK.out,⟨aA a1.out.b a2.out a1.out.b.size HG.out,Zc a1.out.d HD.out⟩⟩;rw[b2.out];exact ay b3.out HG.out (fun e=>by
      obtain⟨_,cur,hg⟩:=al a2.out e;rw[b3.out] at hg
      cases hg)
    rw[<-b2.out];go_roundg (rest.length)
    case measure=>have:=Hgk.out;omega
    case rel=>exact hfin
