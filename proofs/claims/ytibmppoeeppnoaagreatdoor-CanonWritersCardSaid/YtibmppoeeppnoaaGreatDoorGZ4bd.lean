import Derived.Test.YtibmppoeeppnoaaGreatDoorGZ4bc
set_option linter.unusedVariables false
set_option linter.unusedSimpArgs false
set_option maxHeartbeats 64000000
set_option maxRecDepth 100000
namespace Go.Proofs.YtibmppoeeppnoaaGreatDoor
open Go.RowKit Go.Shelf
variable {aE aU:Addr}{s:ByteArray}{j:JV}{l xs ys:List UInt8}{B b g i k k0 n p q:Nat}{e t:TypeId}{v z:Value}{w w':World}
structure qV (w:World) (aU aE:Addr):Prop where
 glob:co w aU aE
 goes:mU w
 begins:kQ w
 number:bo w 12
 exponent:bo w 13
 quote:bo w 16
 escape:bo w 19
 surrogate:bo w 20
 control:bo w 18
theorem qV.below (h:qV w aU aE)(hb:Below w.heap.size w w'):qV w' aU aE:=
 ⟨h.glob.below hb,h.goes.below hb,h.begins.below hb,h.number.below hb,h.exponent.below hb,h.quote.below hb,h.escape.below hb,h.surrogate.below hb,h.control.below hb⟩
def JV.kindOf:JV->Int | .mk k _ _ _ _ _=>k
def JV.numOf:JV->Dc | .mk _ _ _ d _ _=>d
def JV.trOf:JV->Bool | .mk _ t _ _ _ _=>t
def j8 (j:JV):List UInt8:=if j.kindOf=1 then [110,117,108,108] else if j.trOf then [116,114,117,101] else [102,97,108,115,101]
def mz (k:Nat):rG->Value
 | .mark c=>.iface 269 (.agg #[.int .i64 k,.int .u8 c.toNat])
 | .str s=>.iface 272 (.agg #[.int .i64 k,.string s])
 | .leaf j=>if j.kindOf=3 then .iface 340 (.agg #[.int .i64 k,.bool j.numOf.neg,.string j.numOf.digits,.int .i64 j.numOf.exp]) else .iface 333 (.agg #[.int .i64 k,.string ⟨(j8 j).toArray⟩])
def oU (w:World)(g:Nat)(v:Value)(xs:List UInt8)(k:Nat):Prop:=w.heap[g]?=some (.cells #[v,.int .i64 k] 260 (0,0))/\Bs w v xs
theorem oU.below (h:oU w g v xs k)(hb:Below w.heap.size w w'):oU w' g v xs k:=⟨ai h.1 hb,h.2.below hb⟩
theorem xZ (h:uV l=some j):FW l=true/\j.kindOf≠3/\j8 j=l:=by
 unfold uV at h
 split at h
 ·injection h with h;subst h;rename_i e;subst e;exact⟨by decide,by decide,rfl⟩
 split at h
 ·injection h with h;subst h;rename_i e;subst e;exact⟨by decide,by decide,rfl⟩
 split at h
 ·injection h with h;subst h;rename_i e;subst e;exact⟨by decide,by decide,rfl⟩
 ·cases h
theorem GS (h:i< (l.takeWhile dO).length):∃c,l[i]?=some c/\dO c=true:=by
 induction l generalizing i with
 |nil=>simp at h
 |cons x t ih=>
  by_cases hx:dO x=true
  ·rw[List.takeWhile_cons,if_pos hx] at h
   cases i with
   |zero=>exact⟨x,rfl,hx⟩
   |succ i=>exact ih (by simpa using h)
  ·rw[List.takeWhile_cons,if_neg hx] at h;simp at h
theorem Fa {c:UInt8}(h:l[(l.takeWhile dO).length]?=some c):dO c=false:=by
 induction l with
 |nil=>cases h
 |cons x t ih=>
  by_cases hx:dO x=true
  ·rw[List.takeWhile_cons,if_pos hx] at h;exact ih h
  ·rw[List.takeWhile_cons,if_neg hx] at h;injection h with h
   subst h;simpa using hx
theorem Dz (l:List UInt8):l.take (l.takeWhile dO).length=l.takeWhile dO:=by
 induction l with
 |nil=>rfl
 |cons x t ih=>
  by_cases hx:dO x=true
  ·rw[List.takeWhile_cons,if_pos hx,List.length_cons,List.take_succ_cons,ih]
  ·rw[List.takeWhile_cons,if_neg hx];rfl
def Cb (k:Nat)(t:rG)(n:Nat)(w:World)(e:Ending)(w':World):Prop:=e =.returned (.tuple #[mz k t,.int .i64 n,.nilIface])/\Below w.heap.size w w'
theorem rc (hE:qV w aU aE)(h:oU w g v xs k0)(hl:xs.length<=1000000000){x:UInt8}(hx:xs[k]?=some x)(hk:cm x=2):Calls Tryz.prog 169 #[.pointer (some ⟨g,0,none⟩),.int .i64 k] w (Cb k (.mark x) 1 w):=by
 obtain⟨hg,hb⟩:=h;obtain⟨hm,A,cap,rfl,a4,a0⟩:=id hb;have c0:=aa hg (j:=0) (u:=.slice A xs.length cap) rfl;obtain⟨hlt,a5⟩:=List.getElem?_eq_some_iff.1 hx;obtain⟨b,o,rfl,a3⟩:=a0 (by omega);have a2:am xs k=x.toNat:=by unfold am;rw[List.getD_eq_getElem?_getD,hx];rfl
 have ck:=a3 k hlt;rw[a2] at ck;have a1:=Qa (dK x hE.begins);have b0:(k:Int)<=xs.length:=by omega
 have a7:(0:Int)< (xs.length - k:Nat):=by omega
 have a6:0<xs.length - k:=by omega
 have a9:¬cap=k:=by omega
 clear hg hb a0 a3 hx a5 a2 hE;go_enter Tryz.func169,Tryz.ntmps169;go_wp2_with fail;(with_reducible refine a1.out.mono ?_);rintro e w' ⟨rfl,rfl⟩;rw[hk];clear hk a1;go_wp2_with fail;go_ret3;exact⟨rfl,Zd _ _⟩
theorem uU (hE:qV w aU aE)(h:oU w g v xs k0)(hl:xs.length<=1000000000){x:UInt8}(hx:xs[k]?=some x)(hk:cm x=5){p:List UInt8×Nat}(hp:mm (xs.drop k)=some p):Calls Tryz.prog 169 #[.pointer (some ⟨g,0,none⟩),.int .i64 k] w (Cb k (.str ⟨p.1.toArray⟩) p.2 w):=by
 obtain⟨hg,hb⟩:=h;obtain⟨hm,A,cap,rfl,a6,a0⟩:=id hb;have c0:=aa hg (j:=0) (u:=.slice A xs.length cap) rfl;obtain⟨hlt,a7⟩:=List.getElem?_eq_some_iff.1 hx;obtain⟨b,o,rfl,a4⟩:=a0 (by omega);have a3:am xs k=x.toNat:=by unfold am;rw[List.getD_eq_getElem?_getD,hx];rfl
 have ck:=a4 k hlt;rw[a3] at ck;have a1:=Qa (dK x hE.begins);have b3:(k:Int)<=xs.length:=by omega
 have b0:(0:Int)< (xs.length - k:Nat):=by omega
 have b1:0<xs.length - k:=by omega
 have b2:¬cap=k:=by omega
 have a2:=Qa (pY (show Bs w (.slice (some ⟨b,o+k,none⟩) (xs.length - k) (cap - k)) (xs.drop k) from hb.cut (Zi hlt)) hE.glob hE.quote hE.escape hE.surrogate hE.control (by rw[List.length_drop];omega));rw[hp] at a2;clear hg hb a0 a4 hx a7 a3 hE hp;go_enter Tryz.func169,Tryz.ntmps169;go_wp2_with fail;(with_reducible refine a1.out.mono ?_);rintro e w' ⟨rfl,rfl⟩;rw[hk];clear hk a1;go_wp2_with fail;(with_reducible refine a2.out.mono ?_);rintro e w1 (⟨q,hq,rfl,a5⟩|⟨hn,_⟩)
 case inr=>cases hn
 injection hq with hq
 subst hq;have a9:=Qa a5;clear a5;rw[show EG p =.tuple #[.string ⟨p.1.toArray⟩,.int .i64 p.2,.nilIface] from rfl];go_wp2_with fail;go_ret3;exact⟨rfl,a9.out⟩
theorem sd (hE:qV w aU aE)(h:oU w g v xs k0)(hl:xs.length<=1000000000){x:UInt8}(hx:xs[k]?=some x)(hk:cm x=4){p:Dc×Nat}(hp:nK (xs.drop k)=some p):Calls Tryz.prog 169 #[.pointer (some ⟨g,0,none⟩),.int .i64 k] w fun e w'=>Cb k (.leaf (dT p.1)) p.2 w e w':=by
 obtain⟨hg,hb⟩:=h;obtain⟨hm,A,cap,rfl,a6,a0⟩:=id hb;have c0:=aa hg (j:=0) (u:=.slice A xs.length cap) rfl;obtain⟨hlt,a7⟩:=List.getElem?_eq_some_iff.1 hx;obtain⟨b,o,rfl,a4⟩:=a0 (by omega);have a3:am xs k=x.toNat:=by unfold am;rw[List.getD_eq_getElem?_getD,hx];rfl
 have ck:=a4 k hlt;rw[a3] at ck;have a1:=Qa (dK x hE.begins);have b3:(k:Int)<=xs.length:=by omega
 have b0:(0:Int)< (xs.length - k:Nat):=by omega
 have b1:0<xs.length - k:=by omega
 have b2:¬cap=k:=by omega
 have a2:=Qa (qn (show Bs w (.slice (some ⟨b,o+k,none⟩) (xs.length - k) (cap - k)) (xs.drop k) from hb.cut (Zi hlt)) (by rw[List.length_drop];omega) hE.goes hE.number hE.exponent);rw[hp] at a2;clear hg hb a0 a4 hx a7 a3 hE hp;go_enter Tryz.func169,Tryz.ntmps169;go_wp2_with fail;(with_reducible refine a1.out.mono ?_);rintro e w' ⟨rfl,rfl⟩;rw[hk];clear hk a1;go_wp2_with fail;(with_reducible refine a2.out.mono ?_);rintro e w1 ⟨a5,rfl⟩;have a9:=Qa a5;clear a5;obtain⟨⟨dneg,ddig,dexp⟩,n⟩:=p;rw[show IG (⟨dneg,ddig,dexp⟩:Dc) =.agg #[.bool dneg,.string ddig,.int .i64 dexp] from rfl];go_wp2_with fail;go_ret3;exact⟨rfl,bt a9.out (ac _ _)⟩
theorem rE (hE:qV w aU aE)(h:oU w g v xs k0)(hl:xs.length<=1000000000){x:UInt8}(hx:xs[k]?=some x)(hk:cm x=3)(hp:uV (x:: (xs.drop (k+1)).takeWhile dO)=some j):Calls Tryz.prog 169 #[.pointer (some ⟨g,0,none⟩),.int .i64 k] w fun e w'=>Cb k (.leaf j) (1+ ((xs.drop (k+1)).takeWhile dO).length) w e w':=by
 obtain⟨hg,hb⟩:=h;obtain⟨hm,A,cap,rfl,c8,a0⟩:=id hb;have c0:=aa hg (j:=0) (u:=.slice A xs.length cap) rfl;obtain⟨hlt,b5⟩:=List.getElem?_eq_some_iff.1 hx;obtain⟨b,o,rfl,b3⟩:=a0 (by omega);have c1:am xs k=x.toNat:=by unfold am;rw[List.getD_eq_getElem?_getD,hx];rfl
 have ck:=b3 k hlt;rw[c1] at ck;have c3:=Qa (dK x hE.begins);have d5:(k:Int)<=xs.length:=by omega
 have d2:(0:Int)< (xs.length - k:Nat):=by omega
 have c7:0<xs.length - k:=by omega
 have d6:¬cap=k:=by omega
 have hd:xs.drop k=x::xs.drop (k+1):=by rw[List.drop_eq_getElem_cons hlt,b5]
 have hcut:Bs w (.slice (some ⟨b,o+k,none⟩) (xs.length - k) (cap - k)) (xs.drop k):=hb.cut (Zi hlt);obtain⟨b2,b6,a9⟩:=xZ hp;obtain⟨tw,a2⟩:∃tw,tw= ((xs.drop (k+1)).takeWhile dO).length:=⟨_,rfl⟩;have hin:∀i,i<tw->∃c,xs[k+ (i+1)]?=some c/\dO c=true:=fun i hi=>by
  rw[a2] at hi;obtain⟨c,h1,h2⟩:=GS hi;rw[List.getElem?_drop] at h1;exact⟨c,by rw[<-h1];congr 1;omega,h2⟩
 have a5:∀c,xs[k+ (tw+1)]?=some c->dO c=false:=fun c hc=>by
  refine Fa (l:=xs.drop (k+1)) ?_;rw[<-a2,List.getElem?_drop,<-hc];congr 1;omega
 have c9:tw+1<=xs.length - k:=by
  have:=(List.takeWhile_prefix dO (l:=xs.drop (k+1))).length_le;rw[<-a2,List.length_drop] at this;omega
 have c5:(xs.drop k).take (tw+1)=x:: (xs.drop (k+1)).takeWhile dO:=by rw[hd,List.take_succ_cons,a2,Dz]
 have a4:(convert 22 9 (.slice (some ⟨b,o+k,none⟩) (tw+1) (cap - k))).run Tryz.prog w =.ok (.string ⟨(j8 j).toArray⟩) w:=by
  rw[a9,<-c5];exact aJ (hcut.upto (by rw[List.length_drop];omega))
 rw[<-a9] at b2;have b8:∀i c,i<xs.length - k->xs[k+i]?=some c->w.cell? ⟨b,o+k+i,none⟩=some (.int .u8 c.toNat):=fun i c hi hc=>by
  have h1:=b3 (k+i) (by omega);have h2:am xs (k+i)=c.toNat:=by unfold am;rw[List.getD_eq_getElem?_getD,hc];rfl
  rw[h2,<-Nat.add_assoc] at h1;exact h1
 have b4:=Qa b8;have d1:=Qa hin;have b1:=Qa a5;have c2:=Qa b2;have b0:=Qa a4;have Hv:=Qa (show mz k (.leaf j) =.iface 333 (.agg #[.int .i64 k,.string ⟨(j8 j).toArray⟩]) from if_neg b6);rw[<-a2];generalize j8 j=wl at *;have d9:tw+1<=cap - k:=by omega
 have d7:=Qa a2;clear hd hcut b2 b6 a9 hin a5 c5 a4 b8 hp a2;clear hg hb a0 b3 hx b5 c1 hE;go_enter Tryz.func169,Tryz.ntmps169;go_wp2_with fail;(with_reducible refine c3.out.mono ?_);rintro e w' ⟨rfl,rfl⟩;rw[hk];clear hk c3;go_wp2_with fail
 go_loopg [8] tw (fun m s8 wr=> ∃n:Nat,m+n=tw/\s8 =.int .i64 (n+1:Nat)/\wr=w)
 case atStart=>exact⟨0,rfl,rfl,rfl⟩
 case round=>
  obtain⟨n,a6,rfl,rfl⟩:=hrel;have a1:((n+1:Nat):Int)= (n:Int)+1:=by omega
  obtain⟨z,hz⟩:∃z:Int,((n+1:Nat):Int)=z:=⟨_,rfl⟩
  by_cases hlt2:n<tw
  ·obtain⟨c,a3,b9⟩:=d1.out n hlt2;have a0:=b4.out (n+1) c (by omega) a3;have b7:((n+1:Nat):Int)< (xs.length - k:Nat):=by omega
   have c4:n+1<xs.length - k:=by omega
   have s1:IntKind.i64.wrap ((n:Int)+1+1)= (n:Int)+1+1:=IntWalk.i64_in _ (by omega);have a7:=Qa b9;have Hmn:=Qa a6;clear a6 a3 b9 a1 hz;go_wp2_with fail;(with_reducible refine(kl c _).mono ?_);rintro e w' ⟨rfl,rfl⟩;rw[a7.out];go_wp2_with fail;go_roundg (tw - (n+1))
   case measure=>have:=Hmn.out;omega
   case rel=>exact⟨n+1,by have:=Hmn.out;omega,by go_num,rfl⟩
  ·obtain rfl:n=tw:=by omega
   have Hmn:=Qa a6;have c6:n+1<=xs.length - k:=c9;have q1:(0:Int)<=(n:Int)+1:=by omega
   have q2:(n:Int)+1<=(cap - k:Nat):=by omega
   have d4:=b0.out;have d3:((n:Int)+1).toNat=n+1:=by omega
   have d0:¬ (cap - k=0):=by omega
   clear a6 a1 hz hlt2
   by_cases hend:n+1=xs.length - k
   ·have b7:¬ (n:Int)+1< (xs.length - k:Nat):=by omega
    have c4:¬n+1<xs.length - k:=by omega
    clear hend;go_wp2_with fail;(with_reducible refine(lV wl _).mono ?_);rintro e w' ⟨rfl,rfl⟩;rw[c2.out];go_wp2_with fail;go_ret3;refine⟨?_,Zd _ _⟩;rw[Hv.out,show((1+n:Nat):Int)= (n:Int)+1 from by omega];rfl
   ·obtain⟨c,a3⟩:∃c,xs[k+ (n+1)]?=some c:=⟨_,Zc (by omega)⟩;have a0:=b4.out (n+1) c (by omega) a3;have b7:(n:Int)+1< (xs.length - k:Nat):=by omega
    have c4:n+1<xs.length - k:=by omega
    have a7:=Qa (b1.out c a3);clear hend a3;go_wp2_with fail;(with_reducible refine(kl c _).mono ?_);rintro e w' ⟨rfl,rfl⟩;rw[a7.out];go_wp2_with fail;(with_reducible refine(lV wl _).mono ?_);rintro e w' ⟨rfl,rfl⟩;rw[c2.out];go_wp2_with fail;go_ret3;refine⟨?_,Zd _ _⟩;rw[Hv.out,show((1+n:Nat):Int)= (n:Int)+1 from by omega];rfl
theorem rL (hE:qV w aU aE)(h:oU w g v xs k0)(hl:xs.length<=1000000000){t:rG}(hx:dm (xs.drop k)=some (t,n)):Calls Tryz.prog 169 #[.pointer (some ⟨g,0,none⟩),.int .i64 k] w (Cb k t n w):=by
 obtain⟨x,a1⟩:∃x,xs[k]?=some x:=by
  cases hd:xs.drop k with
  |nil=>rw[hd] at hx;cases hx
  |cons x r=>exact⟨x,by have:=congrArg (·[0]?) hd;simpa [List.getElem?_drop] using this⟩
 obtain⟨hlt,a2⟩:=List.getElem?_eq_some_iff.1 a1;have hd:xs.drop k=x::xs.drop (k+1):=by rw[List.drop_eq_getElem_cons hlt,a2]
 have a0:=hx;rw[hd] at a0;simp only[dm] at a0
 split at a0
 ·rename_i hk
  injection a0 with a0
  injection a0 with e1 e2
  subst e1 e2;exact rc hE h hl a1 hk
 ·rename_i hk
  rw[Option.map_eq_some_iff] at a0;obtain⟨j,hj,a0⟩:=a0;injection a0 with e1 e2
  subst e1 e2;exact rE hE h hl a1 hk hj
 ·rename_i hk
  rw[Option.map_eq_some_iff] at a0;obtain⟨p,hp,a0⟩:=a0;injection a0 with e1 e2
  subst e1 e2;rw[<-hd] at hp;exact sd hE h hl a1 hk hp
 ·rename_i hk
  rw[Option.map_eq_some_iff] at a0;obtain⟨p,hp,a0⟩:=a0;injection a0 with e1 e2
  subst e1 e2;rw[<-hd] at hp;exact uU hE h hl a1 hk hp
 ·cases a0
theorem EN (h:i< (l.takeWhile cO).length):∃c,l[i]?=some c/\cO c=true:=by
 induction l generalizing i with
 |nil=>simp at h
 |cons x t ih=>
  by_cases hx:cO x=true
  ·rw[List.takeWhile_cons,if_pos hx] at h
   cases i with
   |zero=>exact⟨x,rfl,hx⟩
   |succ i=>exact ih (by simpa using h)
  ·rw[List.takeWhile_cons,if_neg hx] at h;simp at h
theorem FJ {c:UInt8}(h:l[(l.takeWhile cO).length]?=some c):cO c=false:=by
 induction l with
 |nil=>cases h
 |cons x t ih=>
  by_cases hx:cO x=true
  ·rw[List.takeWhile_cons,if_pos hx] at h;exact ih h
  ·rw[List.takeWhile_cons,if_neg hx] at h;injection h with h
   subst h;simpa using hx
theorem rp (l:List UInt8):l.drop (l.takeWhile cO).length=l.dropWhile cO:=by
 induction l with
 |nil=>rfl
 |cons x t ih=>
  by_cases hx:cO x=true
  ·rw[List.takeWhile_cons,if_pos hx,List.length_cons,List.drop_succ_cons,ih,List.dropWhile_cons,if_pos hx]
  ·rw[List.takeWhile_cons,if_neg hx,List.dropWhile_cons,if_neg hx];rfl
theorem C9 (c:UInt8):((cm c:Nat)==1)=cO c:=by
 have:=ti (p:=fun c=>decide (((cm c:Nat)==1)=cO c)) (by decide +kernel) c;simpa using this
theorem od (c:UInt8):(((cm c:Nat):Int)==1)=cO c:=by
 rw[<-C9];rw[Bool.eq_iff_iff];simp only[beq_iff_eq];omega
def GW (g:Nat)(v:Value)(xs:List UInt8)(tv:Value)(k:Nat)(w:World)(e:Ending)(w':World):Prop:=e =.returned (.tuple #[tv,.nilIface])/\oU w' g v xs k/\a8 (fun i=>i=g) w w'
theorem oU.apart {o:Nat}(h:w.heap[g]?=some (.cells #[v,.int .i64 k] 260 (0,0)))(hv:∃A n q,v =.slice A n q)(hc:∃z:Nat,w.cell? ⟨b,o,none⟩=some (.int .u8 z)):g≠b:=by
 intro e;subst e;obtain⟨z,hz⟩:=hc;obtain⟨A,n,q,rfl⟩:=hv;rcases o with _|_|o
 ·rw[aa h (j:=0) rfl] at hz;injection hz with hz
  cases hz
 ·rw[aa h (j:=1) rfl] at hz;injection hz with hz
  cases hz
 ·unfold World.cell? at hz;simp[h] at hz
theorem oU.set (h:oU w g v xs k){z:Int}{j:Nat}(hz:z=j):oU (w.setCell ⟨g,1,none⟩ (.int .i64 z)) g v xs j:=by
 subst hz;refine⟨au h.1 1 _,?_⟩;obtain⟨hm,A,c,rfl,hc,a0⟩:=h.2;refine⟨hm,A,c,rfl,hc,fun h0=>?_⟩;obtain⟨b,o,rfl,a1⟩:=a0 h0;refine⟨b,o,rfl,fun i hi=>?_⟩;rw[World.cell?_setCell_far _ _ _ _ (oU.apart h.1 ⟨_,_,_,rfl⟩ ⟨_,a1 i hi⟩)];exact a1 i hi
theorem re:∀ (f:Nat) (xs out:List UInt8) (n:Nat) (p:List UInt8×Nat),fL f xs out n=some p->p.2<=n+xs.length
 |0,_,_,_,_,h=>by cases h
 |f+1,xs,out,n,p,h=>by
  unfold fL at h
  split at h
  ·cases h
  ·rename_i hp
   have:=pl hp;injection h with h;subst h
   simp only;omega
  ·rename_i c k hp
   have h1:=(mM hp).2.2;have h2:=re f _ _ _ p h;rw[List.length_drop] at h2;simp only at h1;omega
theorem nG {t:rG}(h:dm xs=some (t,n)):1<=n/\n<=xs.length:=by
 refine⟨(BR h).1,?_⟩
 cases xs with
 |nil=>cases h
 |cons x xs=>
  simp only[dm] at h
  split at h
  ·injection h with h;injection h with _ h;subst h;simp
  ·rw[Option.map_eq_some_iff] at h;obtain⟨j,-,h⟩:=h;injection h with _ h;subst h
   have:=(List.takeWhile_prefix dO (l:=xs)).length_le;rw[List.length_cons];omega
  ·rw[Option.map_eq_some_iff] at h;obtain⟨p,hp,h⟩:=h;injection h with _ h;subst h
   exact(uw hp).2
  ·rw[Option.map_eq_some_iff] at h;obtain⟨p,hp,h⟩:=h;injection h with _ h;subst h
   unfold mm at hp
   split at hp
   ·rename_i ys e
    injection e with e1 e2
    subst e2;have:=re _ _ _ _ _ hp;rw[List.length_cons];omega
   ·cases hp
  ·cases h
theorem wC (k:Nat)(t:rG):∃ty v,mz k t =.iface ty v:=by
 cases t with
 |mark c=>exact⟨_,_,rfl⟩
 |str s=>exact⟨_,_,rfl⟩
 |leaf j=>
  unfold mz;simp only
  split
  ·exact⟨_,_,rfl⟩
  ·exact⟨_,_,rfl⟩
theorem uo (hE:qV w aU aE)(h:oU w g v xs k)(hk:k<=xs.length)(hl:xs.length<=1000000000)(hd:(xs.drop k).dropWhile cO = []):Calls Tryz.prog 132 #[.pointer (some ⟨g,0,none⟩)] w fun e w'=>GW g v xs (.iface 267 (.agg #[.int .i64 xs.length])) xs.length w e w':=by
 obtain⟨hg,hb⟩:=id h;obtain⟨hm,A,cap,rfl,b3,a1⟩:=id hb;obtain⟨tw,a3⟩:∃tw,tw= ((xs.drop k).takeWhile cO).length:=⟨_,rfl⟩;have a4:=rp (xs.drop k);rw[hd,<-a3,List.drop_drop] at a4;have b0:=congrArg List.length a4;rw[List.length_drop,List.length_nil] at b0;have b5:tw+k<=xs.length:=by
  have:=(List.takeWhile_prefix cO (l:=xs.drop k)).length_le;rw[<-a3,List.length_drop] at this;omega
 have hin:∀i,i<tw->∃c,xs[k+i]?=some c/\(((cm c:Nat):Int)==1)=true:=fun i hi=>by
  rw[a3] at hi;obtain⟨c,h1,h2⟩:=EN hi;rw[List.getElem?_drop] at h1;exact⟨c,h1,by rw[od];exact h2⟩
 have c0:=aa hg (j:=0) (u:=.slice A xs.length cap) rfl;have c1:=aa hg (j:=1) (u:=.int .i64 k) rfl;have f1:=aj hg 1;have b6:=Qa hin;have a2:=Qa a1;have H:=Qa h;have HB:=Qa hE.begins;clear hd a4 hin hg hb a1 h hE a3;go_enter Tryz.func132,Tryz.ntmps132;go_wp2_with fail
 go_loopg [4] tw (fun m s4 wr=> ∃n:Nat,m+n=tw/\s4 =.int .i64 (k+n:Nat)/\wr=w)
 case atStart=>exact⟨0,rfl,rfl,rfl⟩
 case round=>
  obtain⟨n,a5,rfl,rfl⟩:=hrel;have a0:((k+n:Nat):Int)= (k:Int)+n:=by omega
  by_cases hlt2:n<tw
  ·obtain⟨c,a6,a7⟩:=b6.out n hlt2;obtain⟨b,o,rfl,a9⟩:=a2.out (by omega);have b4:=a9 (k+n) (by omega);have h2:am xs (k+n)=c.toNat:=by unfold am;rw[List.getD_eq_getElem?_getD,a6];rfl
   rw[h2] at b4;have b8:(k:Int)+n<xs.length:=by omega
   have b7:k+n<xs.length:=by omega
   have s1:IntKind.i64.wrap (((k+n:Nat):Int)+1)= ((k+ (n+1):Nat):Int):=by rw[IntWalk.i64_in _ (by omega)];omega
   have b2:=Qa a7;have Hmn:=Qa a5;have b1:=Qa (dK c HB.out);clear a5 a6 a7 a0 a9 h2;go_wp2_with fail;(with_reducible refine b1.out.mono ?_);rintro e w' ⟨rfl,rfl⟩;have b9:=b2.out;go_wp2_with fail;go_roundg (tw - (n+1))
   case measure=>have:=Hmn.out;omega
   case rel=>exact⟨n+1,by have:=Hmn.out;omega,rfl,rfl⟩
  ·have e:k+n=xs.length:=by omega
   rw[e];have s2:(xs.length:Int)= ((xs.length:Nat):Int):=rfl;have H2:=Qa (H.out.set (z:=((xs.length:Nat):Int)) (j:=xs.length) rfl);clear a0 hlt2 a5 e b0 b5 s2;go_wp2_with fail;go_ret2;exact⟨rfl,H2.out,a8.set g 1 _⟩
theorem rX (hE:qV w aU aE)(h:oU w g v xs k)(hk:k<=xs.length)(hl:xs.length<=1000000000){y:UInt8}(hd:(xs.drop k).dropWhile cO=y::ys){t:rG}(hx:dm (y::ys)=some (t,n)):Calls Tryz.prog 132 #[.pointer (some ⟨g,0,none⟩)] w fun e w'=>GW g v xs (mz (xs.length - (ys.length+1)) t) (xs.length - (ys.length+1)+n) w e w':=by
 obtain⟨hg,hb⟩:=id h;obtain⟨hm,A,cap,rfl,c6,a2⟩:=id hb;obtain⟨tw,a4⟩:∃tw,tw= ((xs.drop k).takeWhile cO).length:=⟨_,rfl⟩;have a3:=rp (xs.drop k);rw[hd,<-a4,List.drop_drop] at a3;have b7:=congrArg List.length a3;rw[List.length_drop,List.length_cons] at b7;have d1:tw+k<=xs.length:=by
  have:=(List.takeWhile_prefix cO (l:=xs.drop k)).length_le;rw[<-a4,List.length_drop] at this;omega
 have hin:∀i,i<tw->∃c,xs[k+i]?=some c/\(((cm c:Nat):Int)==1)=true:=fun i hi=>by
  rw[a4] at hi;obtain⟨c,h1,h2⟩:=EN hi;rw[List.getElem?_drop] at h1;exact⟨c,h1,by rw[od];exact h2⟩
 have c0:=aa hg (j:=0) (u:=.slice A xs.length cap) rfl;have c1:=aa hg (j:=1) (u:=.int .i64 k) rfl;have f1:=aj hg 1;have b8:xs.length - (ys.length+1)=k+tw:=by omega
 have d4:k+tw<xs.length:=by omega
 rw[b8];have b2:xs[k+tw]?=some y:=by
  have:=congrArg (·[0]?) a3;simpa [List.getElem?_drop] using this
 have b4:cO y=false:=by
  refine FJ (l:=xs.drop k) ?_;rw[<-a4,List.getElem?_drop];exact b2
 rw[<-a3] at hx;have c5:=Qa (rL hE h hl hx);have hnl:=(nG hx).2;rw[List.length_drop] at hnl;have b5:(((cm y:Nat):Int)==1)=false:=by rw[od];exact b4
 have d3:=Qa b5;have d0:=Qa b2;clear b2 b4 hx b5 b8;have d2:=Qa hin;have a0:=Qa a2;have H:=Qa h;have HB:=Qa hE.begins;clear hd a3 hin b7 hg hb a2 h hE a4;go_enter Tryz.func132,Tryz.ntmps132;go_wp2_with fail
 go_loopg [4] tw (fun m s4 wr=> ∃n0:Nat,m+n0=tw/\s4 =.int .i64 (k+n0:Nat)/\wr=w)
 case atStart=>exact⟨0,rfl,rfl,rfl⟩
 case round=>
  obtain⟨n0,b1,rfl,rfl⟩:=hrel;have a1:((k+n0:Nat):Int)= (k:Int)+n0:=by omega
  by_cases hlt2:n0<tw
  ·obtain⟨c,b6,b3⟩:=d2.out n0 hlt2;obtain⟨b,o,rfl,a5⟩:=a0.out (by omega);have b0:=a5 (k+n0) (by omega);have h2:am xs (k+n0)=c.toNat:=by unfold am;rw[List.getD_eq_getElem?_getD,b6];rfl
   rw[h2] at b0;have c2:(k:Int)+n0<xs.length:=by omega
   have c8:k+n0<xs.length:=by omega
   have s1:IntKind.i64.wrap (((k+n0:Nat):Int)+1)= ((k+ (n0+1):Nat):Int):=by rw[IntWalk.i64_in _ (by omega)];omega
   have b9:=Qa b3;have Hmn:=Qa b1;have a9:=Qa (dK c HB.out);clear b1 b6 b3 a1 a5 h2;go_wp2_with fail;(with_reducible refine a9.out.mono ?_);rintro e w' ⟨rfl,rfl⟩;have c3:=b9.out;go_wp2_with fail;go_roundg (tw - (n0+1))
   case measure=>have:=Hmn.out;omega
   case rel=>exact⟨n0+1,by have:=Hmn.out;omega,rfl,rfl⟩
  ·obtain rfl:n0=tw:=by omega
   obtain⟨b,o,rfl,a5⟩:=a0.out (by omega);have b0:=a5 (k+n0) (by omega);have h2:am xs (k+n0)=y.toNat:=by unfold am;rw[List.getD_eq_getElem?_getD,d0.out];rfl
   rw[h2] at b0;have c2:(k:Int)+n0<xs.length:=by omega
   have c8:k+n0<xs.length:=by omega
   have hne:(((k+n0:Nat):Int)== (xs.length:Int))=false:=by simp only[beq_eq_false_iff_ne];omega
   have a9:=Qa (dK y HB.out);have c4:k+n0+n<=1000000000:=by omega
   clear b1 a1 hlt2 a5 h2 d1;go_wp2_with fail;(with_reducible refine a9.out.mono ?_);rintro e w' ⟨rfl,rfl⟩;have c3:=d3.out;go_wp2_with fail;(try rw[show(k:Int)+n0= ((k+n0:Nat):Int) from by omega]);(with_reducible refine c5.out.mono ?_);rintro e w1 ⟨rfl,a7⟩;have H1:=Qa (H.out.below a7);have c7:=Qa a7;have f1':=aj H1.out.1 1;have c1':=aa H1.out.1 (j:=1) (u:=.int .i64 k) rfl;have s1:IntKind.i64.wrap (((k+n0:Nat):Int)+n)= ((k+n0+n:Nat):Int):=by rw[IntWalk.i64_in _ (by omega)];omega
   have H2:=Qa (H1.out.set (z:=((k+n0+n:Nat):Int)) (j:=k+n0+n) rfl);obtain⟨tt,tv,a6⟩:=wC (k+n0) t;rw[a6];have c9:=Qa a6;clear a7 a6;go_wp2_with fail;go_ret2;exact⟨by rw[c9.out];rfl,H2.out,(a8.of_below c7.out).trans (a8.set g 1 _) (fun i hi=>.inl hi)⟩
theorem ya (hb:Bs w v xs)(h0:0<xs.length)(hl:xs.length<=1000000000):Calls Tryz.prog 131 #[v] w fun e w'=> ∃u,e =.returned u/\aq w' w.heap.size u xs/\Below w.heap.size w w':=by
 obtain⟨hm,A,cap,rfl,a4,a0⟩:=id hb;obtain⟨b,o,rfl,a5⟩:=a0 h0;have a1:=ac w (.cells #[] 5);have Hb:=Qa (hb.below a1);have Ho:=Qa (aq.made (base:=w.heap.size) (Ze w (.cells #[] 5)) (Za _) (cap:=0) (Zj _) rfl);have a2:=Qa a1;have a6:=Qa (show([]:List UInt8).length+xs.length<=140737488355328 by simp;omega);have a7:=Qa a1.size;clear hb a0 a5 a1;have hq:(binOp .eql 22 (.slice (some ⟨b,o,none⟩) xs.length cap) (.slice none 0 0)).run Tryz.prog w =.ok (.bool false) w:=by
  simp only[binOp];simp[run_equal_slice_nil w 22 5 (some ⟨b,o,none⟩) xs.length cap Tryz.underlying22]
 go_enter Tryz.func131,Tryz.ntmps131;go_wp2_with (at_builtin;refine pP Ho.out Hb.out a6.out a7.out ?_;intro v' w3 h1 h2 h3;have HK:=Qa h1;have a3:=Qa h2;clear h1 h2 h3);go_ret;exact⟨_,rfl,HK.out,a2.out.grown a3.out a2.out.size (fun g e=>Nat.le_of_eq (Zh e))⟩
theorem xw (hb:Bs w v xs)(h0:0<xs.length)(hl:xs.length<=1000000000):Calls Tryz.prog 95 #[v] w fun e w'=> ∃g u,e =.returned (.pointer (some ⟨g,0,none⟩))/\oU w' g u xs 0/\Below w.heap.size w w'/\w.heap.size<=g/\aq w' w.heap.size u xs:=by
 have Hc:=Qa (ya hb h0 hl);clear hb;go_enter Tryz.func95,Tryz.ntmps95;go_wp2_with fail;(with_reducible refine Hc.out.mono ?_);rintro e w1 ⟨u,rfl,ho,a0⟩;obtain⟨A,q,rfl,-⟩:=ag ho;have Ho:=Qa (aq.bs ho);have a2:=Qa ho;have a1:=Qa a0;clear ho a0;go_wp2_with fail;go_ret;exact⟨w1.heap.size,_,rfl,⟨Ze _ _,Ho.out.below (ac _ _)⟩,bt a1.out (ac _ _),a1.out.size,ao a2.out (ac _ _) (Za _)⟩
theorem gR (E:dl t e z k B){ops:Array Oper}{rest:List Oper}{o:Oper}{a:Act}{Q:Exit->Act->World->Prop}(a2:o.guard=none)(s x:Operand)
  (ho:o.op =.call {callee:=.builtin .append,args:= #[s,x],argTypes:= #[t,t]})
  (base:Nat) (v:Value) (n g c m:Nat) (us news:List Value) (hs:a.eval s=v) (a1:w.ownsRow base e k v n us) (hx:a.eval x =.slice (some ⟨g,0,none⟩) m c) (hl:news.length=m*k)
  (hg:∀j u,news[j]?=some u->w.cell? ⟨g,j,none⟩=some u) (h1:∀u∈news,u.oneCell'=true) (hm:0<m)
  (hlen:n+m<=maxLen) (hby:(n+m)*B<=140737488355328) (a0:base<=w.heap.size)
  (h:∀v' w',w'.ownsRow base e k v' (n+m) (us++news)->w.grownBy w' v.ownBlock->w.drawn<=w'.drawn->wpList Tryz.prog ops Q rest (a.put o.dst v') w'):wpList Tryz.prog ops Q (o::rest) a w:=by
 refine wpList_plain a2 fun K hK=>?_
 obtain⟨v',w',hr,h2,h3,h4,h5⟩:=qQ E (ty:=o.type) base v n g c m us news a1 hl hg h1 hm hlen hby a0;unfold Oper.wp execOp;simp only[ho,resolve,invoke,builtin,Sem.run_bind,Sem.run_pure,Result.andThen_ok,List.map_toArray,List.map_cons,List.map_nil,hs,hx,hr];exact hK _ _ (h v' w' h2 h3 h5)
theorem uE (w:World){t:List UInt8}(hs:s.data.toList=239::191::189::t):Calls Tryz.prog 167 #[.string s,.string ⟨#[239,191,189]⟩] w fun e w'=>e =.returned (.bool true)/\w=w':=by
 have a0:s.data.toList.length=s.size:=by simp
 rw[hs] at a0;simp only[List.length_cons] at a0;have h3:¬ (s.size:Int)<3:=by omega
 have a1:(3:Int)<=s.size:=by omega
 have a2:3<=s.size:=by omega
 have he:s.extract 0 3= ⟨#[239,191,189]⟩:=by
  have h:(s.extract 0 3).data.toList = [239,191,189]:=by
   rw[ByteArray.data_extract,Array.toList_extract,hs];rfl
  cases hx:s.extract 0 3 with
  |mk d=>rw[hx] at h;simp only at h;rw[<-h]
 have He:=Qa he;clear hs a0 he;go_enter Tryz.func167,Tryz.ntmps167;go_wp2_with fail;go_ret;refine⟨?_,rfl⟩
 show Ending.returned (.bool ((s.extract 0 3).toList == [239,191,189]))=_
 rw[He.out,ByteArray.toList_eq];rfl
theorem qt (w:World){t:List UInt8}(hs:s.data.toList=239::191::189::t):Calls Tryz.prog 128 #[.string s,.string ⟨#[239,191,189]⟩] w fun e w'=>e =.returned (.bool true)/\w=w':=by
 have H:=Qa (uE w hs);clear hs;go_enter Tryz.func128,Tryz.ntmps128;go_wp2_with fail;(with_reducible refine H.out.mono ?_);rintro e w' ⟨rfl,rfl⟩;go_wp2_with fail;go_ret;exact⟨rfl,rfl⟩
def F7 (s:ByteArray)(cs:List Int)(j:Nat)(w:World)(m:Nat)(s3:Value)(wr:World):Prop:=
 ∃ (pre rest:List Int) (p:Nat),cs=pre++rest/\m=rest.length/\s.data.toList.drop p=rest.flatMap bD/\wr.heap[j]?=some (.stringIter s p)/\rA wr w.heap.size s3 pre/\bN w wr
theorem bN.iter {j:Nat}(hj:w.heap[j]?=some (.stringIter s p)){B:World}(hb:bN B w)(hB:B.heap.size<=j):bN B (w.iterAt j s q):=by
 refine⟨hb.b.trans ((a8.iter (w:=w) (j:=j) (q:=q) (s:=s)).below hb.b.size (fun k hk=>by rw[hk];exact hB)),Zb hb.d ?_⟩;exact Za _
theorem pC (hs:dq s)(hl:s.size<=4294967296):Calls Tryz.prog 91 #[.string s] w fun e w'=> ∃v,e =.returned v/\rA w' w.heap.size v (nm s)/\bN w w':=by
 obtain⟨hc,hd⟩:=hs.nm;generalize Proofs.YtibmppoeeppnoaaGreatDoor.nm s=cs at *;have c7:cs.length<=4294967296:=by
  have h1:=iP hc;rw[hd] at h1;have:s.data.toList.length=s.size:=by simp
  omega
 have Hd:=Qa hd;have Hc:=Qa hc;have Hi:=Qa (Ze w (.stringIter s 0));have Hb:=Qa (bN.alloc w (.stringIter s 0));clear hs hd hc;go_enter Tryz.func91,Tryz.ntmps91;go_wp2_with fail
 go_loopg [3] cs.length (fun m s3 wr=>F7 s cs w.heap.size w m s3 wr)
 case atStart=>exact⟨[],cs,0,rfl,rfl,Hd.out.symm,Hi.out,⟨rfl,.inl ⟨rfl,rfl⟩⟩,Hb.out⟩
 case round=>
  clear Hi Hb;obtain⟨pre,rest,p,he,hm,a0,hi,ho,hb⟩:=hrel;have hji:w.heap.size<=w.heap.size:=Za _;have hj:w.heap.size<wr.heap.size:=ae hi;obtain⟨j,a6⟩:∃j,w.heap.size=j:=⟨_,rfl⟩;rw[a6] at hi;have Ho:=Qa ho;have Hi:=Qa hi;have Hb:=Qa hb;have He:=Qa he;have c6:=Qa a0;have b0:=Qa a6;have c0:s.data.toList.length=s.size:=by simp
  have b2:∀b,u3.ownBlock=some b->b≠j:=fun b b1 e=>by
   obtain⟨_,cur,hg⟩:=ak ho b1;rw[e,hi] at hg
   cases hg
  have c2:pre.length<=4294967296:=by have:=congrArg List.length he;rw[List.length_append] at this;omega
  rw[a6]
  cases rest with
  |nil=>
   have hlt:¬p<s.size:=by
    have:=congrArg List.length a0;rw[List.length_drop] at this;simp at this;omega
   have a9:∀ty,(Instr.next (.pointer (some ⟨j,0,none⟩)) true ty).run Tryz.prog wr =.ok (.tuple #[.bool false]) wr:=fun ty=>Lib.run_next_end_at wr j s p ty hi hlt
   clear ho hi hb he a0 b2 hlt hm hji hj a6;go_wp2_with fail;go_ret;have e:cs=pre:=by rw[He.out,List.append_nil]
   rw[e];exact⟨_,rfl,Ho.out,Hb.out⟩
  |cons c rest=>
   have h0:=Hc.out c (by rw[he];simp);have hlen:=congrArg List.length a0;rw[List.length_drop,c0,List.flatMap_cons,List.length_append] at hlen;have b8:(bD c).length≠0:=fun e=>oA h0 (List.eq_nil_of_length_eq_zero e)
   have hlt:p<s.size:=by omega
   have a9:∀ty,(Instr.next (.pointer (some ⟨j,0,none⟩)) true ty).run Tryz.prog wr =.ok (.tuple #[.bool true,.int .i64 p,.int .i32 (Utf8.decode s p).1]) (wr.iterAt j s (p+ (Utf8.decode s p).2)):=fun ty=>Lib.run_next_any_at wr j s p ty hi hlt
   rw[oG s p hlt,a0,List.flatMap_cons,rj h0,if_pos rfl] at a9;have hcn:((c.toNat:Nat):Int)=c:=by have:=eb h0;omega
   dsimp only at a9
   rw[hcn] at a9;have b3:bN w (wr.iterAt j s (p+ (bD c).length)):=bN.iter hi hb (by omega);have a4:=a8.iter (w:=wr) (j:=j) (q:=p+ (bD c).length) (s:=s);have c5:=Qa (Lib.iterAt_heap wr j s p (p+ (bD c).length) hi);have c4:=Qa (show rA (wr.iterAt j s (p+ (bD c).length)) w.heap.size u3 pre from bz ho (fun b b1=>by obtain⟨_,cur,hg⟩:=ak ho b1;exact a4.block b (ae hg) (b2 b b1)));have c3:=Qa b3;have a5:=Qa (show s.data.toList.drop (p+ (bD c).length)=rest.flatMap bD by rw[<-List.drop_drop,a0,List.flatMap_cons,List.drop_left]);have q1:(p:Int)<=s.size:=by omega
   have q2:p<=s.size:=by omega
   have H0:=Qa h0;have Hgk:Hid (gk=rest.length+1):=Qa hm;have c1:=Qa (show c=65533->(s.extract p s.size).data.toList=239::191::189::rest.flatMap bD from fun e=>by
    rw[ByteArray.data_extract,Array.toList_extract,List.extract_eq_take_drop,a0,List.take_of_length_le (by rw[List.flatMap_cons,List.length_append];omega),List.flatMap_cons,e]
    show bD ((65533:Nat):Int)++_=_
    rw[AR];rfl)
   clear ho hi hb he a0 b2 hlt hlen b8 a4 h0 hcn hm b3 hji hj a6;generalize wr.iterAt j s (p+ (bD c).length)=wi at *;have a3:=bN.alloc wi (.cells #[.int .i32 c] 21);have a2:=Qa (show rA (wi.alloc (.cells #[.int .i32 c] 21)) w.heap.size u3 pre from ao c4.out a3.b (Za _));have b4:=Qa (ap wi [fC c] 21);have a1:=Qa (c3.out.trans a3);have a7:=Qa (ai c5.out a3.b);have b6:=Qa (show pre.length+1<=maxLen by unfold maxLen;omega);have b5:=Qa (show(pre.length+1)*4<=140737488355328 by omega);have b7:=Qa a1.out.b.size
   by_cases hf:c=65533
   ·have Hx:=Qa (c1.out hf);have b9:(c==65533)=true:=by simpa using hf
    clear a3 hf;go_wp2_with fail;(with_reducible refine(qt _ Hx.out).mono ?_);rintro e w' ⟨rfl,rfl⟩;go_wp2_with (at_builtin;refine gR lh rfl (.tmp 26) (.tmp 28) rfl w.heap.size u3 pre.length wi.heap.size 1 1 (pre.map fC) [fC c] (by simp[Act.eval]) a2.out (by simp[Act.eval]) rfl b4.out (by simp[fC,Value.oneCell']) (by decide) b6.out b5.out b7.out ?_;intro v' w5 p1 p2 p3;have HK:=Qa p1;have HG:=Qa p2;have HD:=Qa p3;clear p1 p2 p3);have hfin:F7 s cs w.heap.size w rest.length v' w5:=by
     refine⟨pre ++ [c],rest,p+ (bD c).length,by rw[He.out];simp,rfl,a5.out,?_,by unfold rA;rw[List.length_append,List.map_append];exact HK.out,⟨bw a1.out.b a2.out a1.out.b.size HG.out,Zb a1.out.d HD.out⟩⟩;rw[b0.out];exact az a7.out HG.out (fun e=>by
      obtain⟨_,cur,hg⟩:=ak a2.out e;rw[a7.out] at hg
      cases hg)
    rw[<-b0.out];go_roundg (rest.length)
    case measure=>have:=Hgk.out;omega
    case rel=>exact hfin
   ·have b9:(c==65533)=false:=by simpa using hf
    clear a3;go_wp2_with (at_builtin;refine gR lh rfl (.tmp 26) (.tmp 28) rfl w.heap.size u3 pre.length wi.heap.size 1 1 (pre.map fC) [fC c] (by simp[Act.eval]) a2.out (by simp[Act.eval]) rfl b4.out (by simp[fC,Value.oneCell']) (by decide) b6.out b5.out b7.out ?_;intro v' w5 p1 p2 p3;have HK:=Qa p1;have HG:=Qa p2;have HD:=Qa p3;clear p1 p2 p3);have hfin:F7 s cs w.heap.size w rest.length v' w5:=by
     refine⟨pre ++ [c],rest,p+ (bD c).length,by rw[He.out];simp,rfl,a5.out,?_,by unfold rA;rw[List.length_append,List.map_append];exact HK.out,⟨bw a1.out.b a2.out a1.out.b.size HG.out,Zb a1.out.d HD.out⟩⟩;rw[b0.out];exact az a7.out HG.out (fun e=>by
      obtain⟨_,cur,hg⟩:=ak a2.out e;rw[a7.out] at hg
      cases hg)
    rw[<-b0.out];go_roundg (rest.length)
    case measure=>have:=Hgk.out;omega
    case rel=>exact hfin
