import Derived.Test.YtgkkffeagolnpaaGreatDoorGZ16an
import Derived.Test.YtgkkffeagolnpaaGreatDoorGZ16ao
set_option linter.unusedVariables false
set_option linter.unusedSimpArgs false
set_option maxHeartbeats 64000000
set_option maxRecDepth 100000
namespace Go.Proofs.YtgkkffeagolnpaaGreatDoor
open Go.RowKit Go.Shelf
variable {aE aU:Addr}{j:JV}{xs ys:List UInt8}{B g i k0 n o p q:Nat}{e:TypeId}{v z:Value}{w w':World}
structure lg (w:World) (aU aE:Addr):Prop where
 glob:cD w aU aE
 goes:ma w
 begins:km w
 number:aO w 19
 exponent:aO w 20
 quote:aO w 22
 escape:aO w 27
 surrogate:aO w 28
 control:aO w 24
theorem lg.below (h:lg w aU aE)(hb:Below w.heap.size w w'):lg w' aU aE:=
 ⟨h.glob.below hb,h.goes.below hb,h.begins.below hb,h.number.below hb,h.exponent.below hb,h.quote.below hb,h.escape.below hb,h.surrogate.below hb,h.control.below hb⟩
def JV.kindOf:JV->Int | .mk k _ _ _ _ _=>k
def JV.numOf:JV->Dc | .mk _ _ _ d _ _=>d
def JV.trOf:JV->Bool | .mk _ t _ _ _ _=>t
def jd (j:JV):List UInt8:=if j.kindOf=1 then [110,117,108,108] else if j.trOf then [116,114,117,101] else [102,97,108,115,101]
def eV (k:Nat):lx->Value
 | .mark c=>.iface 293 (.agg #[.int .i64 k,.int .u8 c.toNat])
 | .str s=>.iface 296 (.agg #[.int .i64 k,.string s])
 | .leaf j=>if j.kindOf=3 then .iface 338 (.agg #[.int .i64 k,.bool j.numOf.neg,.string j.numOf.digits,.int .i64 j.numOf.exp]) else .iface 331 (.agg #[.int .i64 k,.string ⟨(jd j).toArray⟩])
def kE (w:World)(g:Nat)(v:Value)(xs:List UInt8)(k:Nat):Prop:=w.heap[g]?=some (.cells #[v,.int .i64 k] 285 (0,0))/\Bs w v xs
theorem kE.below {k:Nat}(h:kE w g v xs k)(hb:Below w.heap.size w w'):kE w' g v xs k:=⟨ah h.1 hb,h.2.below hb⟩
theorem vo {l:List UInt8}(h:kW l=some j):CG l=true/\j.kindOf≠3/\jd j=l:=by
 unfold kW at h
 split at h
 ·injection h with h;subst h;rename_i e;subst e;exact⟨by decide,by decide,rfl⟩
 split at h
 ·injection h with h;subst h;rename_i e;subst e;exact⟨by decide,by decide,rfl⟩
 split at h
 ·injection h with h;subst h;rename_i e;subst e;exact⟨by decide,by decide,rfl⟩
 ·cases h
theorem F1 {l:List UInt8}(h:i< (l.takeWhile cv).length):∃c,l[i]?=some c/\cv c=true:=by
 induction l generalizing i with
 |nil=>simp at h
 |cons x t ih=>
  by_cases hx:cv x=true
  ·rw[List.takeWhile_cons,if_pos hx] at h
   cases i with
   |zero=>exact⟨x,rfl,hx⟩
   |succ i=>exact ih (by simpa using h)
  ·rw[List.takeWhile_cons,if_neg hx] at h;simp at h
theorem Bg {l:List UInt8}{c:UInt8}(h:l[(l.takeWhile cv).length]?=some c):cv c=false:=by
 induction l with
 |nil=>cases h
 |cons x t ih=>
  by_cases hx:cv x=true
  ·rw[List.takeWhile_cons,if_pos hx] at h;exact ih h
  ·rw[List.takeWhile_cons,if_neg hx] at h;injection h with h
   subst h;simpa using hx
theorem xA (l:List UInt8):l.take (l.takeWhile cv).length=l.takeWhile cv:=by
 induction l with
 |nil=>rfl
 |cons x t ih=>
  by_cases hx:cv x=true
  ·rw[List.takeWhile_cons,if_pos hx,List.length_cons,List.take_succ_cons,ih]
  ·rw[List.takeWhile_cons,if_neg hx];rfl
def Bq (k:Nat)(t:lx)(n:Nat)(w:World)(e:Ending)(w':World):Prop:=e =.returned (.tuple #[eV k t,.int .i64 n,.nilIface])/\Below w.heap.size w w'
theorem qx {k:Nat}(hE:lg w aU aE)(h:kE w g v xs k0)(hl:xs.length<=1000000000){x:UInt8}(hx:xs[k]?=some x)(hk:bo x=2):Calls Tryz.prog 183 #[.pointer (some ⟨g,0,none⟩),.int .i64 k] w (Bq k (.mark x) 1 w):=by
 obtain⟨hg,hb⟩:=h;obtain⟨hm,A,cap,rfl,a9,a0⟩:=id hb;have c0:=ac hg (j:=0) (u:=.slice A xs.length cap) rfl;obtain⟨hlt,a4⟩:=List.getElem?_eq_some_iff.1 hx;obtain⟨b,o,rfl,a2⟩:=a0 (by omega);have a3:am xs k=x.toNat:=by unfold am;rw[List.getD_eq_getElem?_getD,hx];rfl
 have ck:=a2 k hlt;rw[a3] at ck;have a1:=Qa (bt x hE.begins);have b2:(k:Int)<=xs.length:=by omega
 have b0:(0:Int)< (xs.length - k:Nat):=by omega
 have a5:0<xs.length - k:=by omega
 have b1:¬cap=k:=by omega
 clear hg hb a0 a2 hx a4 a3 hE;go_enter Tryz.func183,Tryz.ntmps183;go_wp2_with fail;refine Za a1 ?_;rintro e w' ⟨rfl,rfl⟩;rw[hk];clear hk a1;go_wp2_with fail;go_ret3;exact⟨rfl,Ze _ _⟩
theorem tf {k:Nat}(hE:lg w aU aE)(h:kE w g v xs k0)(hl:xs.length<=1000000000){x:UInt8}(hx:xs[k]?=some x)(hk:bo x=5){p:List UInt8×Nat}(hp:jI (xs.drop k)=some p):Calls Tryz.prog 183 #[.pointer (some ⟨g,0,none⟩),.int .i64 k] w (Bq k (.str ⟨p.1.toArray⟩) p.2 w):=by
 obtain⟨hg,hb⟩:=h;obtain⟨hm,A,cap,rfl,b0,a0⟩:=id hb;have c0:=ac hg (j:=0) (u:=.slice A xs.length cap) rfl;obtain⟨hlt,a9⟩:=List.getElem?_eq_some_iff.1 hx;obtain⟨b,o,rfl,a2⟩:=a0 (by omega);have a5:am xs k=x.toNat:=by unfold am;rw[List.getD_eq_getElem?_getD,hx];rfl
 have ck:=a2 k hlt;rw[a5] at ck;have a1:=Qa (bt x hE.begins);have b5:(k:Int)<=xs.length:=by omega
 have b3:(0:Int)< (xs.length - k:Nat):=by omega
 have b1:0<xs.length - k:=by omega
 have b4:¬cap=k:=by omega
 have a4:=Qa (jS (show Bs w (.slice (some ⟨b,o+k,none⟩) (xs.length - k) (cap - k)) (xs.drop k) from hb.cut (Nat.le_of_lt hlt)) hE.glob hE.quote hE.escape hE.surrogate hE.control (by rw[List.length_drop];omega));rw[hp] at a4;clear hg hb a0 a2 hx a9 a5 hE hp;go_enter Tryz.func183,Tryz.ntmps183;go_wp2_with fail;refine Za a1 ?_;rintro e w' ⟨rfl,rfl⟩;rw[hk];clear hk a1;go_wp2_with fail;refine Za a4 ?_;rintro e w1 (⟨q,hq,rfl,a3⟩|⟨hn,_⟩)
 case inr=>cases hn
 injection hq with hq
 subst hq;have b2:=Qa a3;clear a3;rw[show DV p =.tuple #[.string ⟨p.1.toArray⟩,.int .i64 p.2,.nilIface] from rfl];go_wp2_with fail;go_ret3;exact⟨rfl,b2.out⟩
theorem sr {k:Nat}(hE:lg w aU aE)(h:kE w g v xs k0)(hl:xs.length<=1000000000){x:UInt8}(hx:xs[k]?=some x)(hk:bo x=4){p:Dc×Nat}(hp:lD (xs.drop k)=some p):Calls Tryz.prog 183 #[.pointer (some ⟨g,0,none⟩),.int .i64 k] w fun e w'=>Bq k (.leaf (lA p.1)) p.2 w e w':=by
 obtain⟨hg,hb⟩:=h;obtain⟨hm,A,cap,rfl,b0,a0⟩:=id hb;have c0:=ac hg (j:=0) (u:=.slice A xs.length cap) rfl;obtain⟨hlt,a9⟩:=List.getElem?_eq_some_iff.1 hx;obtain⟨b,o,rfl,a2⟩:=a0 (by omega);have a5:am xs k=x.toNat:=by unfold am;rw[List.getD_eq_getElem?_getD,hx];rfl
 have ck:=a2 k hlt;rw[a5] at ck;have a1:=Qa (bt x hE.begins);have b5:(k:Int)<=xs.length:=by omega
 have b3:(0:Int)< (xs.length - k:Nat):=by omega
 have b1:0<xs.length - k:=by omega
 have b4:¬cap=k:=by omega
 have a4:=Qa (jz (show Bs w (.slice (some ⟨b,o+k,none⟩) (xs.length - k) (cap - k)) (xs.drop k) from hb.cut (Nat.le_of_lt hlt)) (by rw[List.length_drop];omega) hE.goes hE.number hE.exponent);rw[hp] at a4;clear hg hb a0 a2 hx a9 a5 hE hp;go_enter Tryz.func183,Tryz.ntmps183;go_wp2_with fail;refine Za a1 ?_;rintro e w' ⟨rfl,rfl⟩;rw[hk];clear hk a1;go_wp2_with fail;refine Za a4 ?_;rintro e w1 ⟨a3,rfl⟩;have b2:=Qa a3;clear a3;obtain⟨⟨dneg,ddig,dexp⟩,n⟩:=p;rw[show Ka (⟨dneg,ddig,dexp⟩:Dc) =.agg #[.bool dneg,.string ddig,.int .i64 dexp] from rfl];go_wp2_with fail;go_ret3;exact⟨rfl,aj b2.out (aa _ _)⟩
theorem pi {k:Nat}(hE:lg w aU aE)(h:kE w g v xs k0)(hl:xs.length<=1000000000){x:UInt8}(hx:xs[k]?=some x)(hk:bo x=3)(hp:kW (x:: (xs.drop (k+1)).takeWhile cv)=some j):Calls Tryz.prog 183 #[.pointer (some ⟨g,0,none⟩),.int .i64 k] w fun e w'=>Bq k (.leaf j) (1+ ((xs.drop (k+1)).takeWhile cv).length) w e w':=by
 obtain⟨hg,hb⟩:=h;obtain⟨hm,A,cap,rfl,d3,a0⟩:=id hb;have c0:=ac hg (j:=0) (u:=.slice A xs.length cap) rfl;obtain⟨hlt,b8⟩:=List.getElem?_eq_some_iff.1 hx;obtain⟨b,o,rfl,b1⟩:=a0 (by omega);have c9:am xs k=x.toNat:=by unfold am;rw[List.getD_eq_getElem?_getD,hx];rfl
 have ck:=b1 k hlt;rw[c9] at ck;have c5:=Qa (bt x hE.begins);have e2:(k:Int)<=xs.length:=by omega
 have d6:(0:Int)< (xs.length - k:Nat):=by omega
 have d5:0<xs.length - k:=by omega
 have e1:¬cap=k:=by omega
 have hd:xs.drop k=x::xs.drop (k+1):=by rw[List.drop_eq_getElem_cons hlt,b8]
 have hcut:Bs w (.slice (some ⟨b,o+k,none⟩) (xs.length - k) (cap - k)) (xs.drop k):=hb.cut (Nat.le_of_lt hlt);obtain⟨b3,c8,b4⟩:=vo hp;obtain⟨tw,a2⟩:∃tw,tw= ((xs.drop (k+1)).takeWhile cv).length:=⟨_,rfl⟩;have hin:∀i,i<tw->∃c,xs[k+ (i+1)]?=some c/\cv c=true:=fun i hi=>by
  rw[a2] at hi;obtain⟨c,h1,h2⟩:=F1 hi;rw[List.getElem?_drop] at h1;exact⟨c,by rw[<-h1];congr 1;omega,h2⟩
 have a4:∀c,xs[k+ (tw+1)]?=some c->cv c=false:=fun c hc=>by
  refine Bg (l:=xs.drop (k+1)) ?_;rw[<-a2,List.getElem?_drop,<-hc];congr 1;omega
 have d2:tw+1<=xs.length - k:=by
  have:=(List.takeWhile_prefix cv (l:=xs.drop (k+1))).length_le;rw[<-a2,List.length_drop] at this;omega
 have c4:(xs.drop k).take (tw+1)=x:: (xs.drop (k+1)).takeWhile cv:=by rw[hd,List.take_succ_cons,a2,xA]
 have a5:(convert 28 9 (.slice (some ⟨b,o+k,none⟩) (tw+1) (cap - k))).run Tryz.prog w =.ok (.string ⟨(jd j).toArray⟩) w:=by
  rw[b4,<-c4];exact aI (hcut.upto (by rw[List.length_drop];omega))
 rw[<-b4] at b3;have c1:∀i c,i<xs.length - k->xs[k+i]?=some c->w.cell? ⟨b,o+k+i,none⟩=some (.int .u8 c.toNat):=fun i c hi hc=>by
  have h1:=b1 (k+i) (by omega);have h2:am xs (k+i)=c.toNat:=by unfold am;rw[List.getD_eq_getElem?_getD,hc];rfl
  rw[h2,<-Nat.add_assoc] at h1;exact h1
 have b9:=Qa c1;have d1:=Qa hin;have b5:=Qa a4;have c7:=Qa b3;have b2:=Qa a5;have Hv:=Qa (show eV k (.leaf j) =.iface 331 (.agg #[.int .i64 k,.string ⟨(jd j).toArray⟩]) from if_neg c8);rw[<-a2];generalize jd j=wl at *;have e3:tw+1<=cap - k:=by omega
 have e0:=Qa a2;clear hd hcut b3 c8 b4 hin a4 c4 a5 c1 hp a2;clear hg hb a0 b1 hx b8 c9 hE;go_enter Tryz.func183,Tryz.ntmps183;go_wp2_with fail;refine Za c5 ?_;rintro e w' ⟨rfl,rfl⟩;rw[hk];clear hk c5;go_wp2_with fail
 go_loopg [8] tw (fun m s8 wr=> ∃n:Nat,m+n=tw/\s8 =.int .i64 (n+1:Nat)/\wr=w)
 case atStart=>exact⟨0,rfl,rfl,rfl⟩
 case round=>
  obtain⟨n,a9,rfl,rfl⟩:=hrel;have a1:((n+1:Nat):Int)= (n:Int)+1:=by omega
  obtain⟨z,hz⟩:∃z:Int,((n+1:Nat):Int)=z:=⟨_,rfl⟩
  by_cases hlt2:n<tw
  ·obtain⟨c,a3,c6⟩:=d1.out n hlt2;have a0:=b9.out (n+1) c (by omega) a3;have c2:((n+1:Nat):Int)< (xs.length - k:Nat):=by omega
   have c3:n+1<xs.length - k:=by omega
   have s1:IntKind.i64.wrap ((n:Int)+1+1)= (n:Int)+1+1:=IntWalk.i64_in _ (by omega);have b0:=Qa c6;have Hmn:=Qa a9;clear a9 a3 c6 a1 hz;go_wp2_with fail;refine(ec c _).mono ?_;rintro e w' ⟨rfl,rfl⟩;rw[b0.out];go_wp2_with fail;go_roundg (tw - (n+1))
   case measure=>have:=Hmn.out;omega
   case rel=>exact⟨n+1,by have:=Hmn.out;omega,by go_num,rfl⟩
  ·obtain rfl:n=tw:=by omega
   have Hmn:=Qa a9;have d0:n+1<=xs.length - k:=d2;have q1:(0:Int)<=(n:Int)+1:=by omega
   have q2:(n:Int)+1<=(cap - k:Nat):=by omega
   have d9:=b2.out;have e4:((n:Int)+1).toNat=n+1:=by omega
   have d4:¬ (cap - k=0):=by omega
   clear a9 a1 hz hlt2
   by_cases hend:n+1=xs.length - k
   ·have c2:¬ (n:Int)+1< (xs.length - k:Nat):=by omega
    have c3:¬n+1<xs.length - k:=by omega
    clear hend;go_wp2_with fail;refine(eQ wl _).mono ?_;rintro e w' ⟨rfl,rfl⟩;rw[c7.out];go_wp2_with fail;go_ret3;refine⟨?_,Ze _ _⟩;rw[Hv.out,show((1+n:Nat):Int)= (n:Int)+1 from by omega];rfl
   ·obtain⟨c,a3⟩:∃c,xs[k+ (n+1)]?=some c:=⟨_,Zd (by omega)⟩;have a0:=b9.out (n+1) c (by omega) a3;have c2:(n:Int)+1< (xs.length - k:Nat):=by omega
    have c3:n+1<xs.length - k:=by omega
    have b0:=Qa (b5.out c a3);clear hend a3;go_wp2_with fail;refine(ec c _).mono ?_;rintro e w' ⟨rfl,rfl⟩;rw[b0.out];go_wp2_with fail;refine(eQ wl _).mono ?_;rintro e w' ⟨rfl,rfl⟩;rw[c7.out];go_wp2_with fail;go_ret3;refine⟨?_,Ze _ _⟩;rw[Hv.out,show((1+n:Nat):Int)= (n:Int)+1 from by omega];rfl
theorem rJ {k:Nat}(hE:lg w aU aE)(h:kE w g v xs k0)(hl:xs.length<=1000000000){t:lx}(hx:bK (xs.drop k)=some (t,n)):Calls Tryz.prog 183 #[.pointer (some ⟨g,0,none⟩),.int .i64 k] w (Bq k t n w):=by
 obtain⟨x,a1⟩:∃x,xs[k]?=some x:=by
  cases hd:xs.drop k with
  |nil=>rw[hd] at hx;cases hx
  |cons x r=>exact⟨x,by have:=congrArg (·[0]?) hd;simpa [List.getElem?_drop] using this⟩
 obtain⟨hlt,a2⟩:=List.getElem?_eq_some_iff.1 a1;have hd:xs.drop k=x::xs.drop (k+1):=by rw[List.drop_eq_getElem_cons hlt,a2]
 have a0:=hx;rw[hd] at a0;simp only[bK] at a0
 split at a0
 ·rename_i hk
  injection a0 with a0
  injection a0 with e1 e2
  subst e1 e2;exact qx hE h hl a1 hk
 ·rename_i hk
  rw[Option.map_eq_some_iff] at a0;obtain⟨j,hj,a0⟩:=a0;injection a0 with e1 e2
  subst e1 e2;exact pi hE h hl a1 hk hj
 ·rename_i hk
  rw[Option.map_eq_some_iff] at a0;obtain⟨p,hp,a0⟩:=a0;injection a0 with e1 e2
  subst e1 e2;rw[<-hd] at hp;exact sr hE h hl a1 hk hp
 ·rename_i hk
  rw[Option.map_eq_some_iff] at a0;obtain⟨p,hp,a0⟩:=a0;injection a0 with e1 e2
  subst e1 e2;rw[<-hd] at hp;exact tf hE h hl a1 hk hp
 ·cases a0
theorem z8 {l:List UInt8}(h:i< (l.takeWhile bA).length):∃c,l[i]?=some c/\bA c=true:=by
 induction l generalizing i with
 |nil=>simp at h
 |cons x t ih=>
  by_cases hx:bA x=true
  ·rw[List.takeWhile_cons,if_pos hx] at h
   cases i with
   |zero=>exact⟨x,rfl,hx⟩
   |succ i=>exact ih (by simpa using h)
  ·rw[List.takeWhile_cons,if_neg hx] at h;simp at h
theorem C6 {l:List UInt8}{c:UInt8}(h:l[(l.takeWhile bA).length]?=some c):bA c=false:=by
 induction l with
 |nil=>cases h
 |cons x t ih=>
  by_cases hx:bA x=true
  ·rw[List.takeWhile_cons,if_pos hx] at h;exact ih h
  ·rw[List.takeWhile_cons,if_neg hx] at h;injection h with h
   subst h;simpa using hx
theorem io (l:List UInt8):l.drop (l.takeWhile bA).length=l.dropWhile bA:=by
 induction l with
 |nil=>rfl
 |cons x t ih=>
  by_cases hx:bA x=true
  ·rw[List.takeWhile_cons,if_pos hx,List.length_cons,List.drop_succ_cons,ih,List.dropWhile_cons,if_pos hx]
  ·rw[List.takeWhile_cons,if_neg hx,List.dropWhile_cons,if_neg hx];rfl
theorem CS (c:UInt8):((bo c:Nat)==1)=bA c:=by
 have:=sN (p:=fun c=>decide (((bo c:Nat)==1)=bA c)) (by decide +kernel) c;simpa using this
theorem gB (c:UInt8):(((bo c:Nat):Int)==1)=bA c:=by
 rw[<-CS];rw[Bool.eq_iff_iff];simp only[beq_iff_eq];omega
def IK (g:Nat)(v:Value)(xs:List UInt8)(tv:Value)(k:Nat)(w:World)(e:Ending)(w':World):Prop:=e =.returned (.tuple #[tv,.nilIface])/\kE w' g v xs k/\aP (fun i=>i=g) w w'
theorem kE.apart {k b:Nat}(h:w.heap[g]?=some (.cells #[v,.int .i64 k] 285 (0,0)))(hv:∃A n q,v =.slice A n q)(hc:∃z:Nat,w.cell? ⟨b,o,none⟩=some (.int .u8 z)):g≠b:=by
 intro e;subst e;obtain⟨z,hz⟩:=hc;obtain⟨A,n,q,rfl⟩:=hv;rcases o with _|_|o
 ·rw[ac h (j:=0) rfl] at hz;injection hz with hz
  cases hz
 ·rw[ac h (j:=1) rfl] at hz;injection hz with hz
  cases hz
 ·unfold World.cell? at hz;simp[h] at hz
theorem kE.set {k:Nat}(h:kE w g v xs k){z:Int}{j:Nat}(hz:z=j):kE (w.setCell ⟨g,1,none⟩ (.int .i64 z)) g v xs j:=by
 subst hz;refine⟨ar h.1 1 _,?_⟩;obtain⟨hm,A,c,rfl,hc,a0⟩:=h.2;refine⟨hm,A,c,rfl,hc,fun h0=>?_⟩;obtain⟨b,o,rfl,a1⟩:=a0 h0;refine⟨b,o,rfl,fun i hi=>?_⟩;rw[World.cell?_setCell_far _ _ _ _ (kE.apart h.1 ⟨_,_,_,rfl⟩ ⟨_,a1 i hi⟩)];exact a1 i hi
theorem lL:∀ (f:Nat) (xs out:List UInt8) (n:Nat) (p:List UInt8×Nat),eM f xs out n=some p->p.2<=n+xs.length
 |0,_,_,_,_,h=>by cases h
 |f+1,xs,out,n,p,h=>by
  unfold eM at h
  split at h
  ·cases h
  ·rename_i hp
   have:=oq hp;injection h with h;subst h
   simp only;omega
  ·rename_i c k hp
   have h1:=(mr hp).2.2;have h2:=lL f _ _ _ p h;rw[List.length_drop] at h2;simp only at h1;omega
theorem gU {t:lx}(h:bK xs=some (t,n)):1<=n/\n<=xs.length:=by
 refine⟨(mH h).1,?_⟩
 cases xs with
 |nil=>cases h
 |cons x xs=>
  simp only[bK] at h
  split at h
  ·injection h with h;injection h with _ h;subst h;simp
  ·rw[Option.map_eq_some_iff] at h;obtain⟨j,-,h⟩:=h;injection h with _ h;subst h
   have:=(List.takeWhile_prefix cv (l:=xs)).length_le;rw[List.length_cons];omega
  ·rw[Option.map_eq_some_iff] at h;obtain⟨p,hp,h⟩:=h;injection h with _ h;subst h
   exact(sB hp).2
  ·rw[Option.map_eq_some_iff] at h;obtain⟨p,hp,h⟩:=h;injection h with _ h;subst h
   unfold jI at hp
   split at hp
   ·rename_i ys e
    injection e with e1 e2
    subst e2;have:=lL _ _ _ _ _ hp;rw[List.length_cons];omega
   ·cases hp
  ·cases h
theorem wm (k:Nat)(t:lx):∃ty v,eV k t =.iface ty v:=by
 cases t with
 |mark c=>exact⟨_,_,rfl⟩
 |str s=>exact⟨_,_,rfl⟩
 |leaf j=>
  unfold eV;simp only
  split
  ·exact⟨_,_,rfl⟩
  ·exact⟨_,_,rfl⟩
theorem kZ {k:Nat}(hE:lg w aU aE)(h:kE w g v xs k)(hk:k<=xs.length)(hl:xs.length<=1000000000)(hd:(xs.drop k).dropWhile bA = []):Calls Tryz.prog 166 #[.pointer (some ⟨g,0,none⟩)] w fun e w'=>IK g v xs (.iface 291 (.agg #[.int .i64 xs.length])) xs.length w e w':=by
 obtain⟨hg,hb⟩:=id h;obtain⟨hm,A,cap,rfl,b8,a0⟩:=id hb;obtain⟨tw,a3⟩:∃tw,tw= ((xs.drop k).takeWhile bA).length:=⟨_,rfl⟩;have a5:=io (xs.drop k);rw[hd,<-a3,List.drop_drop] at a5;have b2:=congrArg List.length a5;rw[List.length_drop,List.length_nil] at b2;have c2:tw+k<=xs.length:=by
  have:=(List.takeWhile_prefix bA (l:=xs.drop k)).length_le;rw[<-a3,List.length_drop] at this;omega
 have hin:∀i,i<tw->∃c,xs[k+i]?=some c/\(((bo c:Nat):Int)==1)=true:=fun i hi=>by
  rw[a3] at hi;obtain⟨c,h1,h2⟩:=z8 hi;rw[List.getElem?_drop] at h1;exact⟨c,h1,by rw[gB];exact h2⟩
 have c0:=ac hg (j:=0) (u:=.slice A xs.length cap) rfl;have c1:=ac hg (j:=1) (u:=.int .i64 k) rfl;have f1:=al hg 1;have b4:=Qa hin;have a2:=Qa a0;have H:=Qa h;have HB:=Qa hE.begins;clear hd a5 hin hg hb a0 h hE a3;go_enter Tryz.func166,Tryz.ntmps166;go_wp2_with fail
 go_loopg [4] tw (fun m s4 wr=> ∃n:Nat,m+n=tw/\s4 =.int .i64 (k+n:Nat)/\wr=w)
 case atStart=>exact⟨0,rfl,rfl,rfl⟩
 case round=>
  obtain⟨n,a4,rfl,rfl⟩:=hrel;have a1:((k+n:Nat):Int)= (k:Int)+n:=by omega
  by_cases hlt2:n<tw
  ·obtain⟨c,b1,a9⟩:=b4.out n hlt2;obtain⟨b,o,rfl,b0⟩:=a2.out (by omega);have b9:=b0 (k+n) (by omega);have h2:am xs (k+n)=c.toNat:=by unfold am;rw[List.getD_eq_getElem?_getD,b1];rfl
   rw[h2] at b9;have c5:(k:Int)+n<xs.length:=by omega
   have c3:k+n<xs.length:=by omega
   have s1:IntKind.i64.wrap (((k+n:Nat):Int)+1)= ((k+ (n+1):Nat):Int):=by rw[IntWalk.i64_in _ (by omega)];omega
   have b3:=Qa a9;have Hmn:=Qa a4;have b5:=Qa (bt c HB.out);clear a4 b1 a9 a1 b0 h2;go_wp2_with fail;refine Za b5 ?_;rintro e w' ⟨rfl,rfl⟩;have c4:=b3.out;go_wp2_with fail;go_roundg (tw - (n+1))
   case measure=>have:=Hmn.out;omega
   case rel=>exact⟨n+1,by have:=Hmn.out;omega,rfl,rfl⟩
  ·have e:k+n=xs.length:=by omega
   rw[e];have s2:(xs.length:Int)= ((xs.length:Nat):Int):=rfl;have H2:=Qa (H.out.set (z:=((xs.length:Nat):Int)) (j:=xs.length) rfl);clear a1 hlt2 a4 e b2 c2 s2;go_wp2_with fail;go_ret2;exact⟨rfl,H2.out,aP.set g 1 _⟩
theorem qU {k:Nat}(hE:lg w aU aE)(h:kE w g v xs k)(hk:k<=xs.length)(hl:xs.length<=1000000000){y:UInt8}(hd:(xs.drop k).dropWhile bA=y::ys){t:lx}(hx:bK (y::ys)=some (t,n)):Calls Tryz.prog 166 #[.pointer (some ⟨g,0,none⟩)] w fun e w'=>IK g v xs (eV (xs.length - (ys.length+1)) t) (xs.length - (ys.length+1)+n) w e w':=by
 obtain⟨hg,hb⟩:=id h;obtain⟨hm,A,cap,rfl,d4,a0⟩:=id hb;obtain⟨tw,a4⟩:∃tw,tw= ((xs.drop k).takeWhile bA).length:=⟨_,rfl⟩;have a5:=io (xs.drop k);rw[hd,<-a4,List.drop_drop] at a5;have b9:=congrArg List.length a5;rw[List.length_drop,List.length_cons] at b9;have e0:tw+k<=xs.length:=by
  have:=(List.takeWhile_prefix bA (l:=xs.drop k)).length_le;rw[<-a4,List.length_drop] at this;omega
 have hin:∀i,i<tw->∃c,xs[k+i]?=some c/\(((bo c:Nat):Int)==1)=true:=fun i hi=>by
  rw[a4] at hi;obtain⟨c,h1,h2⟩:=z8 hi;rw[List.getElem?_drop] at h1;exact⟨c,h1,by rw[gB];exact h2⟩
 have c0:=ac hg (j:=0) (u:=.slice A xs.length cap) rfl;have c1:=ac hg (j:=1) (u:=.int .i64 k) rfl;have f1:=al hg 1;have c4:xs.length - (ys.length+1)=k+tw:=by omega
 have e1:k+tw<xs.length:=by omega
 rw[c4];have a9:xs[k+tw]?=some y:=by
  have:=congrArg (·[0]?) a5;simpa [List.getElem?_drop] using this
 have b5:bA y=false:=by
  refine C6 (l:=xs.drop k) ?_;rw[<-a4,List.getElem?_drop];exact a9
 rw[<-a5] at hx;have d2:=Qa (rJ hE h hl hx);have c7:=(gU hx).2;rw[List.length_drop] at c7;have b8:(((bo y:Nat):Int)==1)=false:=by rw[gB];exact b5
 have d6:=Qa b8;have c8:=Qa a9;clear a9 b5 hx b8 c4;have d3:=Qa hin;have a1:=Qa a0;have H:=Qa h;have HB:=Qa hE.begins;clear hd a5 hin b9 hg hb a0 h hE a4;go_enter Tryz.func166,Tryz.ntmps166;go_wp2_with fail
 go_loopg [4] tw (fun m s4 wr=> ∃n0:Nat,m+n0=tw/\s4 =.int .i64 (k+n0:Nat)/\wr=w)
 case atStart=>exact⟨0,rfl,rfl,rfl⟩
 case round=>
  obtain⟨n0,b2,rfl,rfl⟩:=hrel;have a2:((k+n0:Nat):Int)= (k:Int)+n0:=by omega
  by_cases hlt2:n0<tw
  ·obtain⟨c,c3,c2⟩:=d3.out n0 hlt2;obtain⟨b,o,rfl,a3⟩:=a1.out (by omega);have b4:=a3 (k+n0) (by omega);have h2:am xs (k+n0)=c.toNat:=by unfold am;rw[List.getD_eq_getElem?_getD,c3];rfl
   rw[h2] at b4;have c9:(k:Int)+n0<xs.length:=by omega
   have d1:k+n0<xs.length:=by omega
   have s1:IntKind.i64.wrap (((k+n0:Nat):Int)+1)= ((k+ (n0+1):Nat):Int):=by rw[IntWalk.i64_in _ (by omega)];omega
   have c5:=Qa c2;have Hmn:=Qa b2;have b3:=Qa (bt c HB.out);clear b2 c3 c2 a2 a3 h2;go_wp2_with fail;refine Za b3 ?_;rintro e w' ⟨rfl,rfl⟩;have c6:=c5.out;go_wp2_with fail;go_roundg (tw - (n0+1))
   case measure=>have:=Hmn.out;omega
   case rel=>exact⟨n0+1,by have:=Hmn.out;omega,rfl,rfl⟩
  ·obtain rfl:n0=tw:=by omega
   obtain⟨b,o,rfl,a3⟩:=a1.out (by omega);have b4:=a3 (k+n0) (by omega);have h2:am xs (k+n0)=y.toNat:=by unfold am;rw[List.getD_eq_getElem?_getD,c8.out];rfl
   rw[h2] at b4;have c9:(k:Int)+n0<xs.length:=by omega
   have d1:k+n0<xs.length:=by omega
   have hne:(((k+n0:Nat):Int)== (xs.length:Int))=false:=by simp only[beq_eq_false_iff_ne];omega
   have b3:=Qa (bt y HB.out);have d0:k+n0+n<=1000000000:=by omega
   clear b2 a2 hlt2 a3 h2 e0;go_wp2_with fail;refine Za b3 ?_;rintro e w' ⟨rfl,rfl⟩;have c6:=d6.out;go_wp2_with fail;(try rw[show(k:Int)+n0= ((k+n0:Nat):Int) from by omega]);refine Za d2 ?_;rintro e w1 ⟨rfl,b0⟩;have H1:=Qa (H.out.below b0);have d9:=Qa b0;have f1':=al H1.out.1 1;have c1':=ac H1.out.1 (j:=1) (u:=.int .i64 k) rfl;have s1:IntKind.i64.wrap (((k+n0:Nat):Int)+n)= ((k+n0+n:Nat):Int):=by rw[IntWalk.i64_in _ (by omega)];omega
   have H2:=Qa (H1.out.set (z:=((k+n0+n:Nat):Int)) (j:=k+n0+n) rfl);obtain⟨tt,tv,b1⟩:=wm (k+n0) t;rw[b1];have d5:=Qa b1;clear b0 b1;go_wp2_with fail;go_ret2;exact⟨by rw[d5.out];rfl,H2.out,(aP.of_below d9.out).trans (aP.set g 1 _) (fun i hi=>.inl hi)⟩
theorem uQ (hb:Bs w v xs)(h0:0<xs.length)(hl:xs.length<=1000000000):Calls Tryz.prog 165 #[v] w fun e w'=> ∃u,e =.returned u/\aq w' w.heap.size u xs/\Below w.heap.size w w':=by
 obtain⟨hm,A,cap,rfl,a5,a0⟩:=id hb;obtain⟨b,o,rfl,a9⟩:=a0 h0;have a1:=aa w (.cells #[] 5);have Hb:=Qa (hb.below a1);have Ho:=Qa (aq.made (base:=w.heap.size) (Zf w (.cells #[] 5)) (Zb _) (cap:=0) (Zj _) rfl);have a2:=Qa a1;have b0:=Qa (show([]:List UInt8).length+xs.length<=140737488355328 by simp;omega);have a4:=Qa a1.size;clear hb a0 a9 a1;have hq:(binOp .eql 28 (.slice (some ⟨b,o,none⟩) xs.length cap) (.slice none 0 0)).run Tryz.prog w =.ok (.bool false) w:=by
  simp only[binOp];simp[run_equal_slice_nil w 28 5 (some ⟨b,o,none⟩) xs.length cap Tryz.underlying28]
 go_enter Tryz.func165,Tryz.ntmps165;go_wp2_with (at_builtin;refine tF Ho.out Hb.out b0.out a4.out ?_;intro v' w3 h1 h2 h3;have HK:=Qa h1;have a3:=Qa h2;clear h1 h2 h3);go_ret;exact⟨_,rfl,HK.out,a2.out.grown a3.out a2.out.size (fun g e=>Nat.le_of_eq (Zi e))⟩
theorem mj (hb:Bs w v xs)(h0:0<xs.length)(hl:xs.length<=1000000000):Calls Tryz.prog 138 #[v] w fun e w'=> ∃g u,e =.returned (.pointer (some ⟨g,0,none⟩))/\kE w' g u xs 0/\Below w.heap.size w w'/\w.heap.size<=g/\aq w' w.heap.size u xs:=by
 have Hc:=Qa (uQ hb h0 hl);clear hb;go_enter Tryz.func138,Tryz.ntmps138;go_wp2_with fail;refine Za Hc ?_;rintro e w1 ⟨u,rfl,ho,a1⟩;obtain⟨A,q,rfl,-⟩:=ag ho;have Ho:=Qa (aq.bs ho);have a2:=Qa ho;have a0:=Qa a1;clear ho a1;go_wp2_with fail;go_ret;exact⟨w1.heap.size,_,rfl,⟨Zf _ _,Ho.out.below (aa _ _)⟩,aj a0.out (aa _ _),a0.out.size,ai a2.out (aa _ _) (Zb _)⟩
theorem fw {t:TypeId}{k:Nat}(E:da t e z k B){ops:Array Oper}{rest:List Oper}{o:Oper}{a:Act}{Q:Exit->Act->World->Prop}(a2:o.guard=none)(s x:Operand)
  (ho:o.op =.call {callee:=.builtin .append,args:= #[s,x],argTypes:= #[t,t]})
  (base:Nat) (v:Value) (n g c m:Nat) (us news:List Value) (hs:a.eval s=v) (a1:w.ownsRow base e k v n us) (hx:a.eval x =.slice (some ⟨g,0,none⟩) m c) (hl:news.length=m*k)
  (hg:∀j u,news[j]?=some u->w.cell? ⟨g,j,none⟩=some u) (h1:∀u∈news,u.oneCell'=true) (hm:0<m)
  (hlen:n+m<=maxLen) (hby:(n+m)*B<=140737488355328) (a0:base<=w.heap.size)
  (h:∀v' w',w'.ownsRow base e k v' (n+m) (us++news)->w.grownBy w' v.ownBlock->w.drawn<=w'.drawn->wpList Tryz.prog ops Q rest (a.put o.dst v') w'):wpList Tryz.prog ops Q (o::rest) a w:=by
 refine wpList_plain a2 fun K hK=>?_
 obtain⟨v',w',hr,h2,h3,h4,h5⟩:=pq E (ty:=o.type) base v n g c m us news a1 hl hg h1 hm hlen hby a0;unfold Oper.wp execOp;simp only[ho,resolve,invoke,builtin,Sem.run_bind,Sem.run_pure,Result.andThen_ok,List.map_toArray,List.map_cons,List.map_nil,hs,hx,hr];exact hK _ _ (h v' w' h2 h3 h5)
theorem tG (w:World){s:ByteArray}{t:List UInt8}(hs:s.data.toList=239::191::189::t):Calls Tryz.prog 100 #[.string s,.string ⟨#[239,191,189]⟩] w fun e w'=>e =.returned (.bool true)/\w=w':=by
 have a0:s.data.toList.length=s.size:=by simp
 rw[hs] at a0;simp only[List.length_cons] at a0;have h3:¬ (s.size:Int)<3:=by omega
 have a1:(3:Int)<=s.size:=by omega
 have a2:3<=s.size:=by omega
 have he:s.extract 0 3= ⟨#[239,191,189]⟩:=by
  have h:(s.extract 0 3).data.toList = [239,191,189]:=by
   rw[ByteArray.data_extract,Array.toList_extract,hs];rfl
  cases hx:s.extract 0 3 with
  |mk d=>rw[hx] at h;simp only at h;rw[<-h]
 have He:=Qa he;clear hs a0 he;go_enter Tryz.func100,Tryz.ntmps100;go_wp2_with fail;go_ret;refine⟨?_,rfl⟩
 show Ending.returned (.bool ((s.extract 0 3).toList == [239,191,189]))=_
 rw[He.out,ByteArray.toList_eq];rfl
theorem pR (w:World){s:ByteArray}{t:List UInt8}(hs:s.data.toList=239::191::189::t):Calls Tryz.prog 72 #[.string s,.string ⟨#[239,191,189]⟩] w fun e w'=>e =.returned (.bool true)/\w=w':=by
 have H:=Qa (tG w hs);clear hs;go_enter Tryz.func72,Tryz.ntmps72;go_wp2_with fail;refine Za H ?_;rintro e w' ⟨rfl,rfl⟩;go_wp2_with fail;go_ret;exact⟨rfl,rfl⟩
def Ib (s:ByteArray)(cs:List Int)(j:Nat)(w:World)(m:Nat)(s3:Value)(wr:World):Prop:=
 ∃ (pre rest:List Int) (p:Nat),cs=pre++rest/\m=rest.length/\s.data.toList.drop p=rest.flatMap a7/\wr.heap[j]?=some (.stringIter s p)/\ze wr w.heap.size s3 pre/\bB w wr
theorem bB.iter {j:Nat}{s:ByteArray}(hj:w.heap[j]?=some (.stringIter s p)){B:World}(hb:bB B w)(hB:B.heap.size<=j):bB B (w.iterAt j s q):=by
 refine⟨hb.b.trans ((aP.iter (w:=w) (j:=j) (q:=q) (s:=s)).below hb.b.size (fun k hk=>by rw[hk];exact hB)),Zc hb.d ?_⟩;exact Zb _
theorem nZ {s:ByteArray}(hs:bi s)(hl:s.size<=4294967296):Calls Tryz.prog 116 #[.string s] w fun e w'=> ∃v,e =.returned v/\ze w' w.heap.size v (nm s)/\bB w w':=by
 obtain⟨hc,hd⟩:=hs.nm;generalize Proofs.YtgkkffeagolnpaaGreatDoor.nm s=cs at *;have d1:cs.length<=4294967296:=by
  have h1:=dQ hc;rw[hd] at h1;have:s.data.toList.length=s.size:=by simp
  omega
 have Hd:=Qa hd;have Hc:=Qa hc;have Hi:=Qa (Zf w (.stringIter s 0));have Hb:=Qa (bB.alloc w (.stringIter s 0));clear hs hd hc;go_enter Tryz.func116,Tryz.ntmps116;go_wp2_with fail
 go_loopg [3] cs.length (fun m s3 wr=>Ib s cs w.heap.size w m s3 wr)
 case atStart=>exact⟨[],cs,0,rfl,rfl,Hd.out.symm,Hi.out,⟨rfl,.inl ⟨rfl,rfl⟩⟩,Hb.out⟩
 case round=>
  clear Hi Hb;obtain⟨pre,rest,p,he,hm,a0,hi,ho,hb⟩:=hrel;have hji:w.heap.size<=w.heap.size:=Zb _;have hj:w.heap.size<wr.heap.size:=ak hi;obtain⟨j,a9⟩:∃j,w.heap.size=j:=⟨_,rfl⟩;rw[a9] at hi;have Ho:=Qa ho;have Hi:=Qa hi;have Hb:=Qa hb;have He:=Qa he;have d2:=Qa a0;have b3:=Qa a9;have c3:s.data.toList.length=s.size:=by simp
  have b4:∀b,u3.ownBlock=some b->b≠j:=fun b b1 e=>by
   obtain⟨_,cur,hg⟩:=ao ho b1;rw[e,hi] at hg
   cases hg
  have c5:pre.length<=4294967296:=by have:=congrArg List.length he;rw[List.length_append] at this;omega
  rw[a9]
  cases rest with
  |nil=>
   have hlt:¬p<s.size:=by
    have:=congrArg List.length a0;rw[List.length_drop] at this;simp at this;omega
   have b2:∀ty,(Instr.next (.pointer (some ⟨j,0,none⟩)) true ty).run Tryz.prog wr =.ok (.tuple #[.bool false]) wr:=fun ty=>Lib.run_next_end_at wr j s p ty hi hlt
   clear ho hi hb he a0 b4 hlt hm hji hj a9;go_wp2_with fail;go_ret;have e:cs=pre:=by rw[He.out,List.append_nil]
   rw[e];exact⟨_,rfl,Ho.out,Hb.out⟩
  |cons c rest=>
   have h0:=Hc.out c (by rw[he];simp);have hlen:=congrArg List.length a0;rw[List.length_drop,c3,List.flatMap_cons,List.length_append] at hlen;have c6:(a7 c).length≠0:=fun e=>gQ h0 (List.eq_nil_of_length_eq_zero e)
   have hlt:p<s.size:=by omega
   have b2:∀ty,(Instr.next (.pointer (some ⟨j,0,none⟩)) true ty).run Tryz.prog wr =.ok (.tuple #[.bool true,.int .i64 p,.int .i32 (Utf8.decode s p).1]) (wr.iterAt j s (p+ (Utf8.decode s p).2)):=fun ty=>Lib.run_next_any_at wr j s p ty hi hlt
   rw[i7 s p hlt,a0,List.flatMap_cons,lJ h0,if_pos rfl] at b2;have c0:((c.toNat:Nat):Int)=c:=by have:=cq h0;omega
   dsimp only at b2
   rw[c0] at b2;have c1:bB w (wr.iterAt j s (p+ (a7 c).length)):=bB.iter hi hb (by omega);have a3:=aP.iter (w:=wr) (j:=j) (q:=p+ (a7 c).length) (s:=s);have c7:=Qa (Lib.iterAt_heap wr j s p (p+ (a7 c).length) hi);have c4:=Qa (show ze (wr.iterAt j s (p+ (a7 c).length)) w.heap.size u3 pre from bh ho (fun b b1=>by obtain⟨_,cur,hg⟩:=ao ho b1;exact a3.block b (ak hg) (b4 b b1)));have c8:=Qa c1;have a4:=Qa (show s.data.toList.drop (p+ (a7 c).length)=rest.flatMap a7 by rw[<-List.drop_drop,a0,List.flatMap_cons,List.drop_left]);have q1:(p:Int)<=s.size:=by omega
   have q2:p<=s.size:=by omega
   have H0:=Qa h0;have Hgk:Hid (gk=rest.length+1):=Qa hm;have d0:=Qa (show c=65533->(s.extract p s.size).data.toList=239::191::189::rest.flatMap a7 from fun e=>by
    rw[ByteArray.data_extract,Array.toList_extract,List.extract_eq_take_drop,a0,List.take_of_length_le (by rw[List.flatMap_cons,List.length_append];omega),List.flatMap_cons,e]
    show a7 ((65533:Nat):Int)++_=_
    rw[AS];rfl)
   clear ho hi hb he a0 b4 hlt hlen c6 a3 h0 c0 hm c1 hji hj a9;generalize wr.iterAt j s (p+ (a7 c).length)=wi at *;have a5:=bB.alloc wi (.cells #[.int .i32 c] 21);have a2:=Qa (show ze (wi.alloc (.cells #[.int .i32 c] 21)) w.heap.size u3 pre from ai c4.out a5.b (Zb _));have b5:=Qa (av wi [fj c] 21);have a1:=Qa (c8.out.trans a5);have b0:=Qa (ah c7.out a5.b);have c2:=Qa (show pre.length+1<=maxLen by unfold maxLen;omega);have b8:=Qa (show(pre.length+1)*4<=140737488355328 by omega);have b9:=Qa a1.out.b.size
   by_cases hf:c=65533
   ·have Hx:=Qa (d0.out hf);have c9:(c==65533)=true:=by simpa using hf
    clear a5 hf;go_wp2_with fail;refine(pR _ Hx.out).mono ?_;rintro e w' ⟨rfl,rfl⟩;go_wp2_with (at_builtin;refine fw uR rfl (.tmp 26) (.tmp 28) rfl w.heap.size u3 pre.length wi.heap.size 1 1 (pre.map fj) [fj c] (by simp[Act.eval]) a2.out (by simp[Act.eval]) rfl b5.out (by simp[fj,Value.oneCell']) (by decide) c2.out b8.out b9.out ?_;intro v' w5 p1 p2 p3;have HK:=Qa p1;have HG:=Qa p2;have HD:=Qa p3;clear p1 p2 p3);have hfin:Ib s cs w.heap.size w rest.length v' w5:=by
     refine⟨pre ++ [c],rest,p+ (a7 c).length,by rw[He.out];simp,rfl,a4.out,?_,by unfold ze;rw[List.length_append,List.map_append];exact HK.out,⟨aF a1.out.b a2.out a1.out.b.size HG.out,Zc a1.out.d HD.out⟩⟩;rw[b3.out];exact ay b0.out HG.out (fun e=>by
      obtain⟨_,cur,hg⟩:=ao a2.out e;rw[b0.out] at hg
      cases hg)
    rw[<-b3.out];go_roundg (rest.length)
    case measure=>have:=Hgk.out;omega
    case rel=>exact hfin
   ·have c9:(c==65533)=false:=by simpa using hf
    clear a5;go_wp2_with (at_builtin;refine fw uR rfl (.tmp 26) (.tmp 28) rfl w.heap.size u3 pre.length wi.heap.size 1 1 (pre.map fj) [fj c] (by simp[Act.eval]) a2.out (by simp[Act.eval]) rfl b5.out (by simp[fj,Value.oneCell']) (by decide) c2.out b8.out b9.out ?_;intro v' w5 p1 p2 p3;have HK:=Qa p1;have HG:=Qa p2;have HD:=Qa p3;clear p1 p2 p3);have hfin:Ib s cs w.heap.size w rest.length v' w5:=by
     refine⟨pre ++ [c],rest,p+ (a7 c).length,by rw[He.out];simp,rfl,a4.out,?_,by unfold ze;rw[List.length_append,List.map_append];exact HK.out,⟨aF a1.out.b a2.out a1.out.b.size HG.out,Zc a1.out.d HD.out⟩⟩;rw[b3.out];exact ay b0.out HG.out (fun e=>by
      obtain⟨_,cur,hg⟩:=ao a2.out e;rw[b0.out] at hg
      cases hg)
    rw[<-b3.out];go_roundg (rest.length)
    case measure=>have:=Hgk.out;omega
    case rel=>exact hfin
