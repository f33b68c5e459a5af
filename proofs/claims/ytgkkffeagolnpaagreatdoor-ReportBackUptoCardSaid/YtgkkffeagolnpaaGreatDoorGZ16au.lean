import Derived.Test.YtgkkffeagolnpaaGreatDoorGZ16at
import Derived.Shelf.SlicesQ.IndexFunc
set_option linter.unusedVariables false
set_option linter.unusedSimpArgs false
set_option maxHeartbeats 64000000
set_option maxRecDepth 100000
namespace Go.Proofs.YtgkkffeagolnpaaGreatDoor
open Go.RowKit Go.Shelf
variable {l y:List ByteArray}{base base2 c g n o q r:Nat}{A:Option Addr}{v:Value}{W w w' w1 w2:World}
theorem aV.read (h:aV w base (.slice A n q) l):n=l.length/\∀ (i:Nat) c,l[i]?=some c->∃g,A=some ⟨g,0,none⟩/\w.cell? ⟨g,i,none⟩=some (.string c):=by
 obtain⟨A',q',e,_,_,hA⟩:=ag h;obtain⟨rfl,rfl,rfl⟩:=Value.slice.inj e;refine⟨rfl,fun i c hc=>?_⟩;obtain⟨_,⟨e1,h0⟩|⟨g,cap,cur,e1,_⟩⟩:=id h
 ·have:=(List.getElem?_eq_some_iff.1 hc).1;omega
 ·obtain⟨rfl,-,rfl⟩:=Value.slice.inj e1;refine⟨g,rfl,?_⟩;rw[aH h rfl i (by have:=(List.getElem?_eq_some_iff.1 hc).1;omega),List.getElem?_map,hc];rfl
def tP (x y:ByteArray):Int:=aJ (nm x) (nm y)
theorem DS (x:List ByteArray):∀y:List ByteArray,cO EY (x.map (·.data.toList)) (y.map (·.data.toList))=cO tP x y:=by
 induction x with
 |nil=>intro y;cases y <;> rfl
 |cons a x ih=>
  intro y
  cases y with
  |nil=>rfl
  |cons b y=>
   have e:EY a.data.toList b.data.toList=tP a b:=rfl;simp only[List.map_cons,cO,e,ih]
def Id (p:ByteArray):Prop:=bi p/\p.size<=1000000000
theorem Bd {B:Option Addr}{m:Nat}{x:List ByteArray}(hx:aV w base (.slice A n q) x)(hy:aV w base2 (.slice B m r) y)(c3:x.length<=4294967296)(c1:y.length<=4294967296)(a5:∀p∈x,Id p)(b1:∀p∈y,Id p) :
  Calls Tryz.prog 133 #[.slice A n q,.slice B m r,.func (.func 134) #[] #[]] w fun e w'=>e =.returned (.int .i64 (cO tP x y))/\Below w.heap.size w w':=by
 obtain⟨rfl,rx⟩:=hx.read;obtain⟨rfl,ry⟩:=hy.read;have Hx:=Qa rx;have Hy:=Qa ry;have b8:=Qa a5;have b5:=Qa b1;clear hx hy rx ry a5 b1;go_enter Tryz.func133,Tryz.ntmps133;go_wp2_with fail
 go_loopg [13] x.length (fun k s13 wr=> ∃i:Nat,k+i=x.length/\s13 =.int .i64 i/\i<=y.length/\cO tP (x.drop i) (y.drop i)=cO tP x y/\Below w.heap.size w wr)
 case atStart=>exact⟨0,rfl,rfl,Zj _,rfl,Ze _ _⟩
 case round=>
  obtain⟨i,hk,rfl,c2,hc,hb⟩:=hrel;have Hc:=Qa hc;have Hk:=Qa hk;have Hb:=Qa hb;clear hb
  by_cases hlt:i<x.length
  ·obtain⟨a,ha⟩:∃a,x[i]?=some a:=⟨_,Zd hlt⟩;obtain⟨gx,rfl,cx0⟩:=Hx.out i a ha;have cx:=Zg Hb.out cx0;have c0:(i:Int)<x.length:=by omega
   have a0:x.drop i=a::x.drop (i+1):=by rw[List.drop_eq_getElem_cons hlt];congr 1;rw[Zd hlt] at ha;exact Zi ha
   by_cases hly:i<y.length
   ·obtain⟨b,hb⟩:∃b,y[i]?=some b:=⟨_,Zd hly⟩;obtain⟨gy,rfl,cy0⟩:=Hy.out i b hb;have cy:=Zg Hb.out cy0;have b4:y.drop i=b::y.drop (i+1):=by rw[List.drop_eq_getElem_cons hly];congr 1;rw[Zd hly] at hb;exact Zi hb
    have a1:(i:Int)<y.length:=by omega
    have a3:¬ (y.length:Int)<=i:=by omega
    have Hc2:=Qa (show cO tP x y=if tP a b=0 then cO tP (x.drop (i+1)) (y.drop (i+1)) else tP a b by rw[<-Hc.out,a0,b4];rfl);have a2:=b8.out a (Zk ha);have a4:=b5.out b (Zk hb);have b2:=Qa (wj (w:=wr) a2.1 a4.1 a2.2 a4.2);have a9:=Qa (show tP a b=aJ (nm a) (nm b) from rfl);rw[<-a9.out] at b2;clear hc a0 b4 ha hb hk cx0 cy0 a2 a4 a9;generalize tP a b=z at *;have s1:IntKind.i64.wrap ((i:Int)+1)= ((i+1:Nat):Int):=by rw[IntWalk.i64_in _ (by omega)];omega
    go_wp2_with fail;refine Za b2 ?_;rintro e w' ⟨rfl,b3⟩;have Hb2:=Qa (aj Hb.out b3);clear b3
    by_cases h3:z=0
    ·have b9:(z !=0)=false:=by rw[h3];rfl
     rw[if_pos h3] at Hc2;clear h3;go_wp2_with fail;go_roundg (x.length - (i+1))
     case measure=>have:=Hk.out;omega
     case rel=>exact⟨i+1,by omega,rfl,by omega,Hc2.out.symm,Hb2.out⟩
    ·have b9:(z !=0)=true:=by rw[bne_iff_ne];exact h3
     rw[if_neg h3] at Hc2;clear h3;go_wp2_with fail;go_ret;exact⟨by rw[Hc2.out];rfl,Hb2.out⟩
   ·have a3:(y.length:Int)<=i:=by omega
    have Hc2:=Qa (show cO tP x y=1 by rw[<-Hc.out,a0,show y.drop i = [] from List.drop_of_length_le (by omega)];rfl);clear hc a0 ha hk cx0;go_wp2_with fail;go_ret;exact⟨by rw[Hc2.out];rfl,Hb.out⟩
  ·have c0:¬ (i:Int)<x.length:=by omega
   have b0:i=x.length:=by omega
   have a0:x.drop i = []:=List.drop_of_length_le (by omega)
   by_cases hly:i<y.length
   ·have a1:(x.length:Int)<y.length:=by omega
    have Hc2:=Qa (show cO tP x y = -1 by rw[<-Hc.out,a0,List.drop_eq_getElem_cons hly];rfl);clear hc a0 hk b0;go_wp2_with fail;go_ret;exact⟨by rw[Hc2.out];rfl,Hb.out⟩
   ·have a1:¬ (x.length:Int)<y.length:=by omega
    have Hc2:=Qa (show cO tP x y=0 by rw[<-Hc.out,a0,show y.drop i = [] from List.drop_of_length_le (by omega)];rfl);clear hc a0 hk b0;go_wp2_with fail;go_ret;exact⟨by rw[Hc2.out];rfl,Hb.out⟩
theorem xh {s:ByteArray}{ps:List ByteArray}(h:aW s)(hs:s.size<=1000000000)(hp:ps.map (·.data.toList)=bq s.data.toList):ps.length<=4294967296/\∀p∈ps,Id p:=by
 have hl:s.data.toList.length=s.size:=by simp
 have key:(bq s.data.toList).length<=s.size+1/\∀p∈bq s.data.toList,p.length<=s.size:=by
  cases hc:s.data.toList with
  |nil=>simp[bq]
  |cons c t=>
   rw[hc] at hl;have ht:=qC t;simp only[List.length_cons] at hl;refine⟨by simp only[bq,List.length_map];omega,fun p hp=>?_⟩;obtain⟨q,hq,rfl⟩:=List.mem_map.1 hp;have h1:=ht.2 q hq;have h2:=my 49 47 _ q (Zb _);have h3:=my 48 126 _ (cG 49 47 q) (Zb _);unfold ru;omega
 constructor
 ·have:=congrArg List.length hp;rw[List.length_map] at this;omega
 ·intro p hq;have hm:p.data.toList∈bq s.data.toList:=by rw[<-hp];exact List.mem_map.2 ⟨p,hq,rfl⟩
  refine⟨zt h _ hm,?_⟩;have:=key.2 _ hm;simp at this;omega
def Fi (a b:ByteArray):Int:=cO EY (bq a.data.toList) (bq b.data.toList)
theorem nJ {a b:ByteArray}(hL:fP w)(ha:aW a)(hr:aW b)(a1:a.size<=1000000000)(b1:b.size<=1000000000):Calls Tryz.prog 111 #[.string a,.string b] w fun e w'=>DP (decide (Fi a b<0)) w e w':=by
 have H1:=Qa (hL.fault a1);have HL:=Qa hL;have Ha:=Qa ha;have Hr:=Qa hr;have Hs:=Qa (And.intro a1 b1);clear hL ha hr a1 b1;go_enter Tryz.func111,Tryz.ntmps111;go_wp2_with fail;refine Za H1 ?_;rintro e w1 ⟨i,er,rfl,⟨-,rfl⟩|⟨hn,-⟩,a5⟩
 rotate_left
 ·exact absurd Ha.out hn
 have c3:=Qa a5;have H2:=Qa ((HL.out.below a5).fault Hs.out.2);clear a5;go_wp2_with fail;refine Za H2 ?_;rintro e w2 ⟨i,er,rfl,⟨-,rfl⟩|⟨hn,-⟩,c0⟩
 rotate_left
 ·exact absurd Hr.out hn
 have b5:=Qa (aj c3.out c0);have H3:=Qa (kz (HL.out.below b5.out).max Hs.out.1);clear c0;go_wp2_with fail;refine Za H3 ?_;rintro e w3 ⟨v,ps,rfl,b3,b9,b2⟩;have b8:=Qa (aj b5.out b2);have H4:=Qa (kz (HL.out.below b8.out).max Hs.out.2);have Hp:=Qa (And.intro b3 b9);clear b2 b3 b9;go_wp2_with fail;refine Za H4 ?_;rintro e w4 ⟨u,qs,rfl,a3,a9,a4⟩;have c2:=Qa (aj b8.out a4);have a0:aV w4 w2.heap.size v ps:=ai Hp.out.2 a4 (Zb _);obtain⟨A,q,rfl,-⟩:=ag a0;obtain⟨B,r,rfl,-⟩:=ag a9;have b0:=xh Ha.out Hs.out.1 Hp.out.1;have a2:=xh Hr.out Hs.out.2 a3;have H5:=Qa (Bd a0 a9 b0.1 a2.1 b0.2 a2.2);have Hz:=Qa (show Fi a b=cO tP ps qs by unfold Fi;rw[<-Hp.out.1,<-a3,DS]);clear a4 a0 a3 a9 b0 a2;generalize cO tP ps qs=z at *;go_wp2_with fail;refine Za H5 ?_;rintro e w5 ⟨rfl,b4⟩;have c1:=Qa (aj c2.out b4);clear b4;go_wp2_with fail;go_ret;exact⟨by rw[Hz.out];rfl,c1.out⟩
theorem Ij (a b:ByteArray):yg a b=if Fi a b<0 then -1 else if Fi b a<0 then 1 else 0:=by
 have h:yg a b=va (Fi a b):=rfl;have c:=(kG ri).ctn (bq b.data.toList) (bq a.data.toList);rw[h];unfold va;unfold Fi at *
 by_cases h1:cO EY (bq a.data.toList) (bq b.data.toList)<0
 ·rw[if_pos h1,if_pos h1]
 ·rw[if_neg h1,if_neg h1]
  by_cases h2:0<cO EY (bq a.data.toList) (bq b.data.toList)
  ·rw[if_pos h2,if_pos (c.2 h2)]
  ·rw[if_neg h2,if_neg (fun e=>h2 (c.1 e))]
def gp (s:ByteArray):Prop:=aW s/\s.size<=1000000000
def Iy (z:Int)(w:World)(e:Ending)(w':World):Prop:=e =.returned (.int .i64 z)/\Below w.heap.size w w'
theorem mz {a b:ByteArray}(hL:fP w)(ha:gp a)(hb:gp b):Calls Tryz.prog 76 #[.string a,.string b] w (Iy (yg a b) w):=by
 have H1:=Qa (nJ hL ha.1 hb.1 ha.2 hb.2);have H2:=Qa (fun w1 (h:Below w.heap.size w w1)=>nJ (hL.below h) hb.1 ha.1 hb.2 ha.2);have Hp:=Qa (Ij a b);clear hL ha hb;generalize yg a b=z at *;generalize Fi a b=x at *;generalize Fi b a=y at *
 by_cases hx:x<0
 ·rw[decide_eq_true hx] at H1;rw[if_pos hx] at Hp;clear hx;go_enter Tryz.func76,Tryz.ntmps76;go_wp2_with fail;refine Za H1 ?_;rintro e w1 ⟨rfl,a0⟩;have a2:=Qa a0;clear a0;go_wp2_with fail;go_ret;exact⟨by rw[Hp.out];rfl,a2.out⟩
 ·rw[decide_eq_false hx] at H1;rw[if_neg hx] at Hp;clear hx;go_enter Tryz.func76,Tryz.ntmps76;go_wp2_with fail;refine Za H1 ?_;rintro e w1 ⟨rfl,a0⟩;have a2:=Qa a0;have H3:=Qa (H2.out w1 a0);clear a0
  by_cases hy:y<0
  ·rw[decide_eq_true hy] at H3;rw[if_pos hy] at Hp;clear hy;go_wp2_with fail;refine Za H3 ?_;rintro e w2 ⟨rfl,a1⟩;have a3:=Qa (aj a2.out a1);clear a1;go_wp2_with fail;go_ret;exact⟨by rw[Hp.out];rfl,a3.out⟩
  ·rw[decide_eq_false hy] at H3;rw[if_neg hy] at Hp;clear hy;go_wp2_with fail;refine Za H3 ?_;rintro e w2 ⟨rfl,a1⟩;have a3:=Qa (aj a2.out a1);clear a1;go_wp2_with fail;go_ret;exact⟨by rw[Hp.out];rfl,a3.out⟩
def DM:List Int->Int
 | []=>0
 |a::l=>if a=0 then DM l else a
theorem GZ {l:List Int}(hl:l.length<=1000)(h:∀ (i:Nat) a,l[i]?=some a->w.cell? ⟨g,i,none⟩=some (.int .i64 a)):Calls Tryz.prog 75 #[.slice (some ⟨g,0,none⟩) l.length c] w fun e w'=>e =.returned (.int .i64 (DM l))/\w=w':=by
 have H:=Qa h;clear h;go_enter Tryz.func75,Tryz.ntmps75;go_wp2_with fail
 go_loopg [8] l.length (fun k s8 wr=> ∃i:Nat,k+i=l.length/\s8 =.int .i64 i/\DM (l.drop i)=DM l/\wr=w)
 case atStart=>exact⟨0,rfl,rfl,rfl,rfl⟩
 case round=>
  obtain⟨i,hk,rfl,hc,rfl⟩:=hrel;have Hc:=Qa hc;have Hk:=Qa hk
  by_cases hlt:i<l.length
  ·obtain⟨a,ha⟩:∃a,l[i]?=some a:=⟨_,Zd hlt⟩;have cx:=H.out i a ha;have a2:(i:Int)<l.length:=by omega
   have a0:l.drop i=a::l.drop (i+1):=by rw[List.drop_eq_getElem_cons hlt];congr 1;rw[Zd hlt] at ha;exact Zi ha
   have Hc2:=Qa (show DM l=if a=0 then DM (l.drop (i+1)) else a by rw[<-Hc.out,a0];rfl);clear hc a0 ha hk
   by_cases h3:a=0
   ·have a1:(a !=0)=false:=by rw[h3];rfl
    rw[if_pos h3] at Hc2;clear h3;go_wp2_with fail;go_roundg (l.length - (i+1))
    case measure=>have:=Hk.out;omega
    case rel=>exact⟨i+1,by omega,by go_num,Hc2.out.symm,rfl⟩
   ·have a1:(a !=0)=true:=by rw[bne_iff_ne];exact h3
    rw[if_neg h3] at Hc2;clear h3;go_wp2_with fail;go_ret;exact⟨by rw[Hc2.out];rfl,rfl⟩
  ·have a2:¬ (i:Int)<l.length:=by omega
   have Hc2:=Qa (show DM l=0 by rw[<-Hc.out,show l.drop i = [] from List.drop_of_length_le (by omega)];rfl);clear hc hk;go_wp2_with fail;go_ret;exact⟨by rw[Hc2.out];rfl,rfl⟩
def dW (e:En):List Value:= [.string e.eAt,.string e.eSch,.string e.eKw]
def FO (e:En):Prop:=gp e.eAt/\gp e.eSch
theorem J2 {a b:En}(h:Below (w.heap.size+2) ((w.alloc (.cells (dW a).toArray 45)).alloc (.cells (dW b).toArray 45)) w') :
  w'.cell? ⟨w.heap.size,0,none⟩=some (.string a.eAt)/\w'.cell? ⟨w.heap.size,1,none⟩=some (.string a.eSch)/\w'.cell? ⟨w.heap.size,2,none⟩=some (.string a.eKw)/\
  w'.cell? ⟨w.heap.size+1,0,none⟩=some (.string b.eAt)/\w'.cell? ⟨w.heap.size+1,1,none⟩=some (.string b.eSch)/\w'.cell? ⟨w.heap.size+1,2,none⟩=some (.string b.eKw):=by
 have h0:((w.alloc (.cells (dW a).toArray 45)).alloc (.cells (dW b).toArray 45)).heap[w.heap.size]?=some (.cells (dW a).toArray 45 (0,0)):=(Below.heap_alloc _ _ _ (by simp)).trans (Zf w _);have h1:((w.alloc (.cells (dW a).toArray 45)).alloc (.cells (dW b).toArray 45)).heap[w.heap.size+1]?=some (.cells (dW b).toArray 45 (0,0)):=by
  have:=Zf (w.alloc (.cells (dW a).toArray 45)) (.cells (dW b).toArray 45)
  rwa[World.size_alloc] at this
 have k0:=(h.block _ (by omega)).trans h0;have k1:=(h.block _ (by omega)).trans h1;exact⟨ac k0 rfl,ac k0 rfl,ac k0 rfl,ac k1 rfl,ac k1 rfl,ac k1 rfl⟩
def sj (w:World)(a b:En)(w':World):Prop:=Hid (Below w.heap.size w w'/\Below (w.heap.size+2) ((w.alloc (.cells (dW a).toArray 45)).alloc (.cells (dW b).toArray 45)) w')
theorem sj.next {a b:En}(h:sj w a b w1)(hb:Below w1.heap.size w1 w2):sj w a b w2:=Qa ⟨aj h.out.1 hb,h.out.2.trans (hb.mono (by have:=h.out.2.size;simpa using this))⟩
theorem yl {a b:En}(hL:fP w)(ha:FO a)(hb:FO b):Calls Tryz.prog 46 #[.agg #[.string a.eAt,.string a.eSch,.string a.eKw],.agg #[.string b.eAt,.string b.eSch,.string b.eKw]] w (Iy (xw a b) w):=by
 have H1:=Qa (fun w1 (h:sj w a b w1)=>mz (hL.below h.out.1) ha.1 hb.1);have H2:=Qa (fun w1 (h:sj w a b w1)=>mz (hL.below h.out.1) ha.2 hb.2);have H3:=Qa (fun w1=>uz (w:=w1) (a:=a.eKw) (b:=b.eKw));rw[Ce] at H3;have He:=Qa (show xw a b=DM [yg a.eAt b.eAt,yg a.eSch b.eSch,vG a.eKw b.eKw] by
  simp only[xw,GT,DM]
  (repeat' split) <;> simp_all)
 have HS:=Qa (fun w' (h:sj w a b w')=>J2 h.out.2);have a2:=Qa (show sj w a b ((w.alloc (.cells (dW a).toArray 45)).alloc (.cells (dW b).toArray 45)) from Qa ⟨((Ze _ _).alloc (Zb _) _).alloc (by simp) _,Ze _ _⟩);have HO:=Qa (fun (w1:World) (x y z:Int)=>show Calls Tryz.prog 75 #[.slice (some ⟨w1.heap.size,0,none⟩) 3 3] (w1.alloc (.cells #[.int .i64 x,.int .i64 y,.int .i64 z] 3)) (fun e w'=>e =.returned (.int .i64 (DM [x,y,z]))/\w1.alloc (.cells #[.int .i64 x,.int .i64 y,.int .i64 z] 3)=w') from GZ (w:=w1.alloc (.cells #[.int .i64 x,.int .i64 y,.int .i64 z] 3)) (g:=w1.heap.size) (c:=3) (l:= [x,y,z]) (by simp) (fun i u hu=>by
  match i,hu with
  |0,hu=>cases hu;exact av w1 [.int .i64 x,.int .i64 y,.int .i64 z] 3 0 _ rfl
  |1,hu=>cases hu;exact av w1 [.int .i64 x,.int .i64 y,.int .i64 z] 3 1 _ rfl
  |2,hu=>cases hu;exact av w1 [.int .i64 x,.int .i64 y,.int .i64 z] 3 2 _ rfl))
 clear hL ha hb;generalize yg a.eAt b.eAt=p1 at *;generalize yg a.eSch b.eSch=p2 at *;generalize vG a.eKw b.eKw=p3 at *;go_enter Tryz.func46,Tryz.ntmps46;go_wp2_with fail;refine bF (fun w'=>sj w a b w'/\w'.cell? ⟨w.heap.size,0,none⟩=some (.string a.eAt)/\w'.cell? ⟨w.heap.size,1,none⟩=some (.string a.eSch)/\w'.cell? ⟨w.heap.size,2,none⟩=some (.string a.eKw)/\w'.cell? ⟨w.heap.size+1,0,none⟩=some (.string b.eAt)/\w'.cell? ⟨w.heap.size+1,1,none⟩=some (.string b.eSch)/\w'.cell? ⟨w.heap.size+1,2,none⟩=some (.string b.eKw)) ((have h:=a2.out.next (ap (Ze _ _) 1);⟨h,HS.out _ h⟩)) fun a0=>?_
 refine tH 0 a0 ?_;refine tH 1 a0 ?_;refine tH 2 a0 ?_;refine tH 3 a0 ?_;refine tH 5 a0 ?_;refine tH 6 a0 ?_
 try simp only[Act.put,jP,jQ,jR]
 refine tH 7 a0 ?_;refine tH 8 a0 ?_;refine tH 10 a0 ?_;refine tH 11 a0 ?_;refine tH 12 a0 ?_;refine tH 13 a0 ?_
 try simp only[Act.put,jP,jQ,jR]
 refine rH 4 fun K hK=>?_
 go_simp;refine(H1.out _ a0.1).mono ?_;rintro e w2 ⟨rfl,a3⟩;refine hK.out _ _ ((have h:=a0.1.next a3;⟨h,HS.out _ h⟩)) (fun a0=>?_);clear hK K
 try simp only[Act.put,jP,jQ,jR]
 refine rH 9 fun K hK=>?_
 go_simp;refine(H2.out _ a0.1).mono ?_;rintro e w3 ⟨rfl,a1⟩;refine hK.out _ _ ((have h:=a0.1.next a1;⟨h,HS.out _ h⟩)) (fun a0=>?_);clear hK K
 try simp only[Act.put,jP,jQ,jR]
 refine rH 14 fun K hK=>?_
 go_simp;refine(H3.out _).mono ?_;rintro e w4 ⟨rfl,rfl⟩;refine hK.out _ _ (a0) (fun a0=>?_);clear hK K
 try simp only[Act.put,jP,jQ,jR]
 refine rH 15 fun K hK=>?_
 go_simp;refine hK.out _ _ ((have h:=a0.1.next (aa _ _);⟨h,HS.out _ h⟩)) (fun a0=>?_);clear hK K
 try simp only[Act.put,jP,jQ,jR]
 refine rH 16 fun K hK=>?_
 go_simp;refine(HO.out _ _ _ _).mono ?_;rintro e w5 ⟨rfl,rfl⟩;refine hK.out _ _ (a0) (fun a0=>?_);clear hK K
 try simp only[Act.put,jP,jQ,jR]
 refine tH 17 a0 ?_
 try simp only[Act.put,jP,jQ,jR]
 refine wpAnyH_done (by kernel_rfl) (NoPanic.normal ?_) _;go_wp2_with fail;go_ret;exact⟨by rw[He.out];rfl,a0.1.out.1⟩
def Gt (l:List ByteArray)(s:ByteArray)(w:World)(e:Ending)(w':World):Prop:=w=w'/\∃z:Int,e =.returned (.int .i64 z)/\((∃i:Nat,z=i/\l[i]?=some s/\∀j,j<i->l[j]?≠some s)\/(z = -1/\s∉l))
theorem iu {s:ByteArray}(hl:l.length<=1000000)(h:∀ (i:Nat) a,l[i]?=some a->∃g o,A=some ⟨g,o,none⟩/\w.cell? ⟨g,o+i,none⟩=some (.string a)):Calls Tryz.prog 53 #[.slice A l.length c,.string s] w (Gt l s w):=by
 have H:=Qa h;clear h;go_enter Tryz.func53,Tryz.ntmps53;go_wp2_with fail
 go_loopg [8] l.length (fun k s8 wr=> ∃i:Nat,k+i=l.length/\s8 =.int .i64 i/\Hid (∀j,j<i->l[j]?≠some s)/\wr=w)
 case atStart=>exact⟨0,rfl,rfl,Qa (fun j hj=>absurd hj (Nat.not_lt_zero _)),rfl⟩
 case round=>
  obtain⟨i,hk,rfl,Hc,rfl⟩:=hrel;have Hk:=Qa hk
  by_cases hlt:i<l.length
  ·obtain⟨a,ha⟩:∃a,l[i]?=some a:=⟨_,Zd hlt⟩;obtain⟨g,o,rfl,cx⟩:=H.out i a ha;have a1:(i:Int)<l.length:=by omega
   have Ha:=Qa ha;clear ha hk
   by_cases h3:s=a
   ·have a0:(s.toList==a.toList)=true:=by rw[h3];simp
    have H3:=Qa h3;clear h3;go_wp2_with fail;go_ret;exact⟨rfl,i,rfl,.inl ⟨i,rfl,by rw[H3.out];exact Ha.out,Hc.out⟩⟩
   ·have a0:(s.toList==a.toList)=false:=by rw[eo];simpa using h3
    have H3:=Qa h3;clear h3;go_wp2_with fail;go_roundg (l.length - (i+1))
    case measure=>have:=Hk.out;omega
    case rel=>
     refine⟨i+1,by omega,by go_num,Qa fun j hj=>?_,rfl⟩
     by_cases e:j=i
     ·rw[e,Ha.out];exact fun h=>H3.out (Zi h).symm
     ·exact Hc.out j (by omega)
  ·have a1:¬ (i:Int)<l.length:=by omega
   have Hn:=Qa (show s∉l from fun hm=>by
    obtain⟨j,hj,e⟩:=List.getElem_of_mem hm;exact Hc.out j (by omega) (by rw[Zd hj,e]))
   clear hk;go_wp2_with fail;go_ret;exact⟨rfl,-1,rfl,.inr ⟨rfl,Hn.out⟩⟩
structure kn (w:World):Prop where
 p:fP w
 rules:∀ (i:Nat) p,bP[i]?=some p->w.cell? ⟨4,i,none⟩=some (.string p)
 words:∀ (i:Nat) p,cH[i]?=some p->w.cell? ⟨2,i,none⟩=some (.string p)
 eRep:aO w 0
theorem kn.below (h:kn w)(hb:Below w.heap.size w w'):kn w':=⟨h.p.below hb,fun i p hp=>Zg hb (h.rules i p hp),fun i p hp=>Zg hb (h.words i p hp),h.eRep.below hb⟩
theorem mc {s:ByteArray}(hL:kn w):Calls Tryz.prog 31 #[.string s] w fun e w'=>w=w'/\∃z:Int,e =.returned (.int .i64 z)/\((s∈bP/\0<z)\/(s∉bP/\z=0)):=by
 have H:=Qa (iu (w:=w) (s:=s) (A:=some ⟨4,0,none⟩) (c:=32) (l:=bP) (by decide) (fun i a ha=>⟨_,0,rfl,by rw[Nat.zero_add];exact hL.rules i a ha⟩));rw[show bP.length=32 from rfl] at H;clear hL;go_enter Tryz.func31,Tryz.ntmps31;go_wp2_with fail;refine Za H ?_;rintro e w1 ⟨rfl,z,rfl,⟨i,rfl,hi,-⟩|⟨rfl,hn⟩⟩
 ·have hlt:=(List.getElem?_eq_some_iff.1 hi).1;rw[show bP.length=32 from rfl] at hlt;have Hi:=Qa (Zk hi);have h0:¬ (i:Int)<0:=by omega
  clear hi;go_wp2_with fail;go_ret;exact⟨rfl,_,rfl,.inl ⟨Hi.out,by omega⟩⟩
 ·have Hn:=Qa hn;clear hn;go_wp2_with fail;go_ret;exact⟨rfl,_,rfl,.inr ⟨Hn.out,rfl⟩⟩
theorem ii {s:ByteArray}(hL:fP w)(hp:gp s):Calls Tryz.prog 21 #[.string s] w (DP true w):=by
 have H:=Qa (nc hL hp.2);have Hp:=Qa hp.1;clear hL hp;go_enter Tryz.func21,Tryz.ntmps21;go_wp2_with fail;refine Za H ?_;rintro e w1 ⟨v,er,rfl,a0,⟨-,rfl,-⟩|⟨hn,-⟩⟩
 rotate_left
 ·exact absurd Hp.out hn
 have a1:=Qa a0;clear a0;go_wp2_with fail;go_ret;exact⟨rfl,a1.out⟩
def FW (e:En):Prop:=gI e/\e.eAt.size<=1000000000/\e.eSch.size<=1000000000
theorem FW.at {e:En}(h:FW e):gp e.eAt:=⟨h.1.1,h.2.1⟩
theorem FW.sch {e:En}(h:FW e):gp e.eSch:=⟨h.1.2.1,h.2.2⟩
theorem lh {e:En}(hL:kn w)(h:FW e):Calls Tryz.prog 20 #[.agg #[.string e.eAt,.string e.eSch,.string e.eKw]] w fun r w'=>DP true w r w':=by
 have H1:=Qa (fun w1 (hb:Below w.heap.size w w1)=>ii (hL.p.below hb) h.at);have H2:=Qa (fun w1 (hb:Below w.heap.size w w1)=>ii (hL.p.below hb) h.sch);have H3:=Qa (fun w1 (hb:Below w.heap.size w w1)=>mc (s:=e.eKw) (hL.below hb));have Hk:=Qa h.1.2.2;have b1:=Qa (Zf w (.cells #[.string e.eAt,.string e.eSch,.string e.eKw] 45));have a3:=Qa (aa w (.cells #[.string e.eAt,.string e.eSch,.string e.eKw] 45));clear hL h;go_enter Tryz.func20,Tryz.ntmps20;go_wp2_with fail;generalize w.alloc (.cells #[.string e.eAt,.string e.eSch,.string e.eKw] 45)=w0 at *;refine(H1.out _ a3.out).mono ?_;rintro r w1 ⟨rfl,a1⟩;have a4:=Qa (aj a3.out a1);have a5:=Qa (ah b1.out a1);have c1:=ac a5.out (j:=1) (u:=.string e.eSch) rfl;clear a1;go_wp2_with fail;refine(H2.out _ a4.out).mono ?_;rintro r w2 ⟨rfl,a2⟩;have a0:=Qa (aj a4.out a2);have b0:=Qa (ah a5.out a2);have c2:=ac b0.out (j:=2) (u:=.string e.eKw) rfl;clear a2 c1
 by_cases hf:e.eKw=Gf
 ·have a9:e.eKw.toList = [102,97,108,115,101]:=by rw[hf,ByteArray.toList_eq];rfl
  clear hf;go_wp2_with fail;go_ret;exact⟨rfl,a0.out⟩
 ·have a9:¬e.eKw.toList = [102,97,108,115,101]:=fun h=>hf (by
   rw[ByteArray.toList_eq] at h
   cases hx:e.eKw with|mk d=>rw[hx] at h;simp only at h;unfold Gf;rw[<-h])
  have Hm:=Qa (Hk.out.resolve_left hf);clear hf;go_wp2_with fail;refine(H3.out _ a0.out).mono ?_;rintro r w3 ⟨rfl,z,rfl,⟨-,hz⟩|⟨hn,-⟩⟩
  rotate_left
  ·exact absurd Hm.out hn
  go_wp2_with fail;go_ret;exact⟨rfl,a0.out⟩
theorem gT (hL:kn w)(ho:o<6):Calls Tryz.prog 19 #[.int .i64 o] w fun e w'=>e =.returned (.string (bw o))/\∃m,w'=w.drewN m:=by
 have hg:cH[o]?=some (bw o):=by
  unfold bw;rw[List.getD_eq_getElem?_getD,Zd (by exact ho)];rfl
 have c:=hL.words o _ hg;generalize bw o=s at *;have h1:¬ (o:Int)<0:=by omega
 have h2:¬ (6:Int)<=o:=by omega
 have h3:(o:Int)<6:=by omega
 clear hL hg;go_enter Tryz.func19,Tryz.ntmps19;go_wp2_with fail;go_ret;exact⟨rfl,0,rfl⟩
def kh (w:World)(v:Value)(l:List ByteArray):Prop:=l.length<=1000000/\∃A c,v =.slice A l.length c/\l.length<=c/\∀ (i:Nat) a,l[i]?=some a->∃g o,A=some ⟨g,o,none⟩/\w.cell? ⟨g,o+i,none⟩=some (.string a)
theorem kh.below (h:kh w v l)(hb:Below w.heap.size w w'):kh w' v l:=by
 obtain⟨h1,A,c,h2,h3,h4⟩:=h;exact⟨h1,A,c,h2,h3,fun i a ha=>by obtain⟨g,o,e,k⟩:=h4 i a ha;exact⟨g,o,e,Zg hb k⟩⟩
theorem kh.take (h:kh w (.slice A n c) l)(i:Nat)(hi:i<=l.length):kh w (.slice A i c) (l.take i):=by
 obtain⟨h1,A',c',e,h3,h4⟩:=h;obtain⟨rfl,-,rfl⟩:=Value.slice.inj e;refine⟨by simp;omega,A,c,by simp[Nat.min_eq_left hi],by simp;omega,fun j a ha=>h4 j a ?_⟩;rw[List.getElem?_take] at ha
 split at ha
 ·exact ha
 ·cases ha
def xx (g:Nat)(lb:Array Value)(p:ByteArray->Bool)(l:List ByteArray)(w:World):Prop:= ∀ (W:World) (x:ByteArray),x∈l->Below w.heap.size w W->Calls Tryz.prog g (#[.string x]++lb) W (DP (p x) W)
theorem xx.go {lb:Array Value}{p:ByteArray->Bool}{x:ByteArray}(h:xx g lb p l w)(hx:x∈l)(hb:Below w.heap.size w W):Calls Tryz.prog g (#[.string x]++lb) W (DP (p x) W):=h W x hx hb
def Kq (b:Bool)(w:World)(e:Ending)(w':World):Prop:=Below w.heap.size w w'/\∃z:Int,e =.returned (.int .i64 z)/\decide (0<=z)=b
theorem Bj {lb:Array Value}{p:ByteArray->Bool}(eg:∀args w,(callFunc g args).run Tryz.prog w =.ok (.enter g args) w)(hp:xx g lb p l w)(hv:kh w v l) :
  Calls Tryz.prog 71 #[v,.func (.func g) #[] lb] w (Kq (l.any p) w):=by
 obtain⟨hl,A,c,rfl,-,h⟩:=hv;have H:=Qa h;have HP:=Qa hp;clear h hp;go_enter Tryz.func71,Tryz.ntmps71;go_wp2
 go_loopg [8] l.length (fun k s8 wr=> ∃i:Nat,k+i=l.length/\s8 =.int .i64 i/\Hid ((l.drop i).any p=l.any p)/\Hid (Below w.heap.size w wr))
 case atStart=>exact⟨0,rfl,rfl,Qa rfl,Qa (Ze _ _)⟩
 case round=>
  obtain⟨i,hk,rfl,Hc,Hb⟩:=hrel;have Hk:=Qa hk
  by_cases hlt:i<l.length
  ·obtain⟨a,ha⟩:∃a,l[i]?=some a:=⟨_,Zd hlt⟩;obtain⟨g0,o,rfl,cx0⟩:=H.out i a ha;have cx:=Zg Hb.out cx0;have a4:(i:Int)<l.length:=by omega
   have a0:=HP.out.go (Zk ha) Hb.out;have a2:l.drop i=a::l.drop (i+1):=by rw[List.drop_eq_getElem_cons hlt];congr 1;rw[Zd hlt] at ha;exact Zi ha
   have Hc2:=Qa (show l.any p= (p a||(l.drop (i+1)).any p) by rw[<-Hc.out,a2];rfl);clear ha hk cx0 a2
   cases hq:p a with
   |true=>
    rw[hq] at a0 Hc2;clear hq;go_wp2_with (go_at_fn g;refine a0.mono ?_;rintro e w' ⟨rfl,a1⟩);go_ret;exact⟨aj Hb.out a1,i,rfl,by rw[Hc2.out];simp⟩
   |false=>
    rw[hq] at a0 Hc2;clear hq;go_wp2_with (go_at_fn g;refine a0.mono ?_;rintro e w' ⟨rfl,a1⟩;have a3:=Qa (aj Hb.out a1);clear a1);go_roundg (l.length - (i+1))
    case measure=>have:=Hk.out;omega
    case rel=>exact⟨i+1,by omega,by go_num,Qa (by rw[Hc2.out];rfl),a3⟩
  ·have a4:¬ (i:Int)<l.length:=by omega
   have Hn:=Qa (show l.any p=false by rw[<-Hc.out,show l.drop i = [] from List.drop_of_length_le (by omega)];rfl);clear hk;go_wp2;go_ret;exact⟨Hb.out,-1,rfl,by rw[Hn.out];rfl⟩
theorem oh {lb:Array Value}{p:ByteArray->Bool}(eg:∀args w,(callFunc g args).run Tryz.prog w =.ok (.enter g args) w)(hp:xx g lb p l w)(hv:kh w v l) :
  Calls Tryz.prog 41 #[v,.func (.func g) #[] lb] w (DP (l.any p) w):=by
 have H:=Qa (Bj eg hp hv);clear hp;obtain⟨-,A,c,rfl,-,-⟩:=hv;generalize l.any p=b at *;go_enter Tryz.func41,Tryz.ntmps41;go_wp2_with fail;refine Za H ?_;rintro e w1 ⟨hb,z,rfl,hz⟩;have Hb:=Qa hb;have Hz:=Qa hz;clear hb hz;go_wp2_with fail;go_ret;exact⟨by rw[<-Hz.out];rfl,Hb.out⟩
theorem qg {s:ByteArray}(hv:kh w v l):Calls Tryz.prog 44 #[v,.string s] w fun e w'=>e =.returned (.bool (l.any fun q=>decide (q=s)))/\w=w':=by
 obtain⟨hl,A,c,rfl,-,h⟩:=hv;have H:=Qa (iu (s:=s) (c:=c) hl h);clear h;obtain⟨b,hb⟩:∃b,(l.any fun q=>decide (q=s))=b:=⟨_,rfl⟩;rw[hb];have Hb:=Qa hb;clear hb;go_enter Tryz.func44,Tryz.ntmps44;go_wp2_with fail;refine Za H ?_;rintro e w1 ⟨rfl,z,rfl,⟨i,rfl,hi,-⟩|⟨rfl,hn⟩⟩
 ·have Hm:=Qa (show b=true by rw[<-Hb.out,List.any_eq_true];exact⟨s,Zk hi,decide_eq_true rfl⟩);clear hi;go_wp2_with fail;go_ret;exact⟨by rw[Hm.out];simp,rfl⟩
 ·have Hm:=Qa (show b=false by
   rw[<-Hb.out,List.any_eq_false];intro q hq;rw[decide_eq_true_iff];rintro rfl;exact hn hq)
  clear hn;go_wp2_with fail;go_ret;exact⟨by rw[Hm.out];rfl,rfl⟩
theorem Ct {a q:ByteArray}(hL:fP w)(ha:gp a)(hq:gp q)(hg:w.cell? ⟨g,0,none⟩=some (.string a)):Calls Tryz.prog 70 #[.string q,.pointer (some ⟨g,0,none⟩)] w (DP (cV a q) w):=by
 have H:=Qa (ow hL ha.1 hq.1 ha.2 hq.2);clear hL ha hq;go_enter Tryz.func70,Tryz.ntmps70;go_wp2_with fail;refine Za H ?_;rintro e w1 ⟨rfl,hb⟩;have Hb:=Qa hb;clear hb;go_wp2_with fail;go_ret;exact⟨rfl,Hb.out⟩
theorem uL:∀args w,(callFunc 70 args).run Tryz.prog w =.ok (.enter 70 args) w:=fun _ _=>by kernel_rfl
theorem si {a:ByteArray}(hL:fP w)(ha:gp a)(hl:∀q∈l,gp q)(hv:kh w v l):Calls Tryz.prog 40 #[.string a,v] w (DP (dV a l) w):=by
 have a0:=aa w (.cells #[.string a] 9);have a1:=Zf w (.cells #[.string a] 9);have H:=Qa (oh (w:=w.alloc (.cells #[.string a] 9)) (v:=v) (l:=l) (g:=70) (lb:= #[.pointer (some ⟨w.heap.size,0,none⟩)]) (p:=cV a) uL (fun W x hx hW=>Ct (hL.below (aj a0 hW)) ha (hl x hx) (ac (ah a1 hW) (j:=0) rfl)) (hv.below a0));rw[show l.any (cV a)=dV a l from rfl] at H;have a2:=Qa a0;obtain⟨-,A,c,rfl,-,-⟩:=hv;have a3:∀ (fn:Fn) (first cap:Array Value) (w:World),(Instr.makeFunc fn first cap).run Tryz.prog w =.ok (.func fn first cap) w:=fun _ _ _ _=>rfl
 clear hL ha hl a0 a1;generalize dV a l=b at *;go_enter Tryz.func40,Tryz.ntmps40;go_wp2_with fail;refine Za H ?_;rintro e w1 ⟨rfl,hb⟩;have Hb:=Qa (aj a2.out hb);clear hb;go_wp2_with fail;go_ret;exact⟨rfl,Hb.out⟩
theorem DA {p q:ByteArray}(hL:fP w)(hp:gp p)(hq:gp q)(hg:w.cell? ⟨g,0,none⟩=some (.string p)):Calls Tryz.prog 42 #[.string q,.pointer (some ⟨g,0,none⟩)] w fun e w'=>DP (!decide (q=p)&&cV p q) w e w':=by
 have H:=Qa (ow hL hp.1 hq.1 hp.2 hq.2);clear hL hp hq
 by_cases he:q=p
 ·have a0:(q.toList==p.toList)=true:=by rw[he];simp
  have a2:(q.toList !=p.toList)=false:=by rw[he];simp
  have Hb:=Qa (show(!decide (q=p)&&cV p q)=false by rw[decide_eq_true he];rfl);generalize (!decide (q=p)&&cV p q)=b at *;clear he;go_enter Tryz.func42,Tryz.ntmps42;go_wp2_with fail;go_ret;exact⟨by rw[Hb.out];rfl,Ze _ _⟩
 ·have a0:(q.toList==p.toList)=false:=by rw[eo];simpa using he
  have a2:(q.toList !=p.toList)=true:=by unfold bne;rw[a0];rfl
  have Hb:=Qa (show(!decide (q=p)&&cV p q)=cV p q by rw[decide_eq_false he];rfl);generalize (!decide (q=p)&&cV p q)=b at *;generalize cV p q=u at *;clear he;go_enter Tryz.func42,Tryz.ntmps42;go_wp2_with fail;refine Za H ?_;rintro e w1 ⟨rfl,hb⟩;have a1:=Qa hb;clear hb;go_wp2_with fail;go_ret;exact⟨by rw[Hb.out];rfl,a1.out⟩
theorem vE:∀args w,(callFunc 42 args).run Tryz.prog w =.ok (.enter 42 args) w:=fun _ _=>by kernel_rfl
abbrev Io (e:En):Value:=.agg #[.string e.eAt,.string e.eSch,.string e.eKw]
theorem mh {p:ByteArray}:Calls Tryz.prog 16 #[.agg #[.string p]] w fun e w'=>e =.returned (.agg #[.string p,.string ⟨#[]⟩,.string ⟨#[120,45,115,101,99,114,101,116]⟩])/\Below w.heap.size w w':=by
 have h1:=Zf (w.alloc (.cells #[.string p] 52)) (.cells #[.string p,.string ⟨#[]⟩,.string ⟨#[120,45,115,101,99,114,101,116]⟩] 45);rw[World.size_alloc] at h1;have a0:Below w.heap.size w ((w.alloc (.cells #[.string p] 52)).alloc (.cells #[.string p,.string ⟨#[]⟩,.string ⟨#[120,45,115,101,99,114,101,116]⟩] 45)):=((Ze _ _).alloc (Zb _) _).alloc (by simp) _;have c0:=ac h1 (j:=0) rfl;have c1:=ac h1 (j:=1) rfl;have c2:=ac h1 (j:=2) rfl;have a1:=Qa a0;clear h1 a0;go_enter Tryz.func16,Tryz.ntmps16;go_wp2_with fail;refine Zh (v:=.agg #[.string p,.string ⟨#[]⟩,.string ⟨#[120,45,115,101,99,114,101,116]⟩]) ?_ rfl ⟨rfl,a1.out⟩;simp[results,Tryz.results16,go_sem,c0,c1,c2]
def qV (w:World)(v:Value)(l:List En):Prop:=l.length<=1000000/\∃A c,v =.slice A l.length c/\l.length<=c/\∀ (i:Nat) e,l[i]?=some e->∃g o,A=some ⟨g,o,none⟩/\w.cell? ⟨g,o+i*3,none⟩=some (.string e.eAt)/\w.cell? ⟨g,o+i*3+1,none⟩=some (.string e.eSch)/\w.cell? ⟨g,o+i*3+2,none⟩=some (.string e.eKw)
theorem qV.below {l:List En}(h:qV w v l)(hb:Below w.heap.size w w'):qV w' v l:=by
 obtain⟨h1,A,c,h2,h3,h4⟩:=h;exact⟨h1,A,c,h2,h3,fun i a ha=>by obtain⟨g,o,e,k1,k2,k3⟩:=h4 i a ha;exact⟨g,o,e,Zg hb k1,Zg hb k2,Zg hb k3⟩⟩
theorem tz:da 22 45 (.agg #[.string ByteArray.empty,.string ByteArray.empty,.string ByteArray.empty]) 3 48:=⟨Tryz.underlying22,by kernel_rfl,rfl,by decide⟩
def bJ (l:List En):List Value:=l.flatMap dW
theorem fE (l:List En):(bJ l).length=l.length*3:=by
 induction l with
 |nil=>rfl
 |cons e l ih=>simp only[bJ,List.flatMap_cons,List.length_append] at ih ⊢;rw[ih];simp[dW];omega
theorem it:∀ (l:List En) (i:Nat) (e:En),l[i]?=some e->(bJ l)[i*3]?=some (.string e.eAt)/\(bJ l)[i*3+1]?=some (.string e.eSch)/\(bJ l)[i*3+2]?=some (.string e.eKw)
 | [],i,p,h=>by simp at h
 |a::l,0,p,h=>by simp at h;subst h;exact⟨rfl,rfl,rfl⟩
 |a::l,i+1,p,h=>by
  have ih:=it l i p (by simpa using h);rw[show(i+1)*3=i*3+3 by omega];exact ih
def bG (w:World)(base:Nat)(v:Value)(l:List En):Prop:=w.ownsRow base 45 3 v l.length (bJ l)
theorem bG.nil (w:World)(base:Nat):bG w base (.slice none 0 0) []:=⟨rfl,.inl ⟨rfl,rfl⟩⟩
theorem bG.sl {l:List En}(h:bG w base v l)(hl:l.length<=1000000):qV w v l:=by
 obtain⟨_,⟨rfl,h0⟩|⟨g,cap,cur,rfl,_,hg,hc,_,_,ht⟩⟩:=id h
 ·obtain rfl:=List.eq_nil_of_length_eq_zero h0;exact⟨by simp,none,0,rfl,Zb _,fun i e hi=>by simp at hi⟩
 ·refine⟨hl,_,cap,rfl,hc,fun i e hi=>⟨g,0,rfl,?_⟩⟩;have hlt:=(List.getElem?_eq_some_iff.1 hi).1;obtain⟨f1,f2,f3⟩:=it l i e hi;rw[Nat.zero_add];refine⟨?_,?_,?_⟩
  ·rw[aH h rfl (i*3) (by omega),f1]
  ·rw[aH h rfl (i*3+1) (by omega),f2]
  ·rw[aH h rfl (i*3+2) (by omega),f3]
theorem de (l:List En)(e:En):bJ l++dW e=bJ (l ++ [e]):=by simp[bJ]
