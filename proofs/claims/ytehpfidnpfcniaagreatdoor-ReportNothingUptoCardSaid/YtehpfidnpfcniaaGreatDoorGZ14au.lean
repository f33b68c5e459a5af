import Derived.Test.YtehpfidnpfcniaaGreatDoorGZ14at
import Derived.Shelf.SlicesQ.IndexFunc
set_option linter.unusedVariables false
set_option linter.unusedSimpArgs false
set_option maxHeartbeats 64000000
set_option maxRecDepth 100000
namespace Go.Proofs.YtehpfidnpfcniaaGreatDoor
open Go.RowKit Go.Shelf
variable {p:ByteArray}{l y:List ByteArray}{base base2 c g m n o q r:Nat}{A:Option Addr}{v:Value}{W w w' w1 w2:World}
theorem aZ.read (h:aZ w base (.slice A n q) l):n=l.length/\∀ (i:Nat) c,l[i]?=some c->∃g,A=some ⟨g,0,none⟩/\w.cell? ⟨g,i,none⟩=some (.string c):=by
 obtain⟨A',q',e,_,_,hA⟩:=af h;obtain⟨rfl,rfl,rfl⟩:=Value.slice.inj e;refine⟨rfl,fun i c hc=>?_⟩;obtain⟨_,⟨e1,h0⟩|⟨g,cap,cur,e1,_⟩⟩:=id h
 ·have:=(List.getElem?_eq_some_iff.1 hc).1;omega
 ·obtain⟨rfl,-,rfl⟩:=Value.slice.inj e1;refine⟨g,rfl,?_⟩;rw[aK h rfl i (by have:=(List.getElem?_eq_some_iff.1 hc).1;omega),List.getElem?_map,hc];rfl
def su (x y:ByteArray):Int:=aJ (nm x) (nm y)
theorem B1 (x:List ByteArray):∀y:List ByteArray,cB Ci (x.map (·.data.toList)) (y.map (·.data.toList))=cB su x y:=by
 induction x with
 |nil=>intro y;cases y <;> rfl
 |cons a x ih=>
  intro y
  cases y with
  |nil=>rfl
  |cons b y=>
   have e:Ci a.data.toList b.data.toList=su a b:=rfl;simp only[List.map_cons,cB,e,ih]
def EY (p:ByteArray):Prop:=bf p/\p.size<=1000000000
theorem zj {B:Option Addr}{x:List ByteArray}(hx:aZ w base (.slice A n q) x)(hy:aZ w base2 (.slice B m r) y)(c2:x.length<=4294967296)(c1:y.length<=4294967296)(b2:∀p∈x,EY p)(a9:∀p∈y,EY p) :
  Calls Tryz.prog 137 #[.slice A n q,.slice B m r,.func (.func 138) #[] #[]] w fun e w'=>e =.returned (.int .i64 (cB su x y))/\Below w.heap.size w w':=by
 obtain⟨rfl,rx⟩:=hx.read;obtain⟨rfl,ry⟩:=hy.read;have Hx:=H8 rx;have Hy:=H8 ry;have b5:=H8 b2;have b8:=H8 a9;clear hx hy rx ry b2 a9;go_enter Tryz.func137,Tryz.ntmps137;go_wp2_with fail
 go_loopg [13] x.length (fun k s13 wr=> ∃i:Nat,k+i=x.length/\s13 =.int .i64 i/\i<=y.length/\cB su (x.drop i) (y.drop i)=cB su x y/\Below w.heap.size w wr)
 case atStart=>exact⟨0,rfl,rfl,Zj _,rfl,Ze _ _⟩
 case round=>
  obtain⟨i,hk,rfl,c3,hc,hb⟩:=hrel;have Hc:=H8 hc;have Hk:=H8 hk;have Hb:=H8 hb;clear hb
  by_cases hlt:i<x.length
  ·obtain⟨a,ha⟩:∃a,x[i]?=some a:=⟨_,Zd hlt⟩;obtain⟨gx,rfl,cx0⟩:=Hx.out i a ha;have cx:=Zg Hb.out cx0;have c0:(i:Int)<x.length:=by omega
   have a0:x.drop i=a::x.drop (i+1):=by rw[List.drop_eq_getElem_cons hlt];congr 1;rw[Zd hlt] at ha;exact Zi ha
   by_cases hly:i<y.length
   ·obtain⟨b,hb⟩:∃b,y[i]?=some b:=⟨_,Zd hly⟩;obtain⟨gy,rfl,cy0⟩:=Hy.out i b hb;have cy:=Zg Hb.out cy0;have b0:y.drop i=b::y.drop (i+1):=by rw[List.drop_eq_getElem_cons hly];congr 1;rw[Zd hly] at hb;exact Zi hb
    have a1:(i:Int)<y.length:=by omega
    have a4:¬ (y.length:Int)<=i:=by omega
    have Hc2:=H8 (show cB su x y=if su a b=0 then cB su (x.drop (i+1)) (y.drop (i+1)) else su a b by rw[<-Hc.out,a0,b0];rfl);have a3:=b5.out a (Zk ha);have a2:=b8.out b (Zk hb);have b4:=H8 (uy (w:=wr) a3.1 a2.1 a3.2 a2.2);have b3:=H8 (show su a b=aJ (nm a) (nm b) from rfl);rw[<-b3.out] at b4;clear hc a0 b0 ha hb hk cx0 cy0 a3 a2 b3;generalize su a b=z at *;have s1:IntKind.i64.wrap ((i:Int)+1)= ((i+1:Nat):Int):=by rw[IntWalk.i64_in _ (by omega)];omega
    go_wp2_with fail;refine Za b4 ?_;rintro e w' ⟨rfl,a5⟩;have Hb2:=H8 (ak Hb.out a5);clear a5
    by_cases h3:z=0
    ·have b9:(z !=0)=false:=by rw[h3];rfl
     rw[if_pos h3] at Hc2;clear h3;go_wp2_with fail;go_roundg (x.length - (i+1))
     case measure=>have:=Hk.out;omega
     case rel=>exact⟨i+1,by omega,rfl,by omega,Hc2.out.symm,Hb2.out⟩
    ·have b9:(z !=0)=true:=by rw[bne_iff_ne];exact h3
     rw[if_neg h3] at Hc2;clear h3;go_wp2_with fail;go_ret;exact⟨by rw[Hc2.out];rfl,Hb2.out⟩
   ·have a4:(y.length:Int)<=i:=by omega
    have Hc2:=H8 (show cB su x y=1 by rw[<-Hc.out,a0,show y.drop i = [] from List.drop_of_length_le (by omega)];rfl);clear hc a0 ha hk cx0;go_wp2_with fail;go_ret;exact⟨by rw[Hc2.out];rfl,Hb.out⟩
  ·have c0:¬ (i:Int)<x.length:=by omega
   have b1:i=x.length:=by omega
   have a0:x.drop i = []:=List.drop_of_length_le (by omega)
   by_cases hly:i<y.length
   ·have a1:(x.length:Int)<y.length:=by omega
    have Hc2:=H8 (show cB su x y = -1 by rw[<-Hc.out,a0,List.drop_eq_getElem_cons hly];rfl);clear hc a0 hk b1;go_wp2_with fail;go_ret;exact⟨by rw[Hc2.out];rfl,Hb.out⟩
   ·have a1:¬ (x.length:Int)<y.length:=by omega
    have Hc2:=H8 (show cB su x y=0 by rw[<-Hc.out,a0,show y.drop i = [] from List.drop_of_length_le (by omega)];rfl);clear hc a0 hk b1;go_wp2_with fail;go_ret;exact⟨by rw[Hc2.out];rfl,Hb.out⟩
theorem vw {s:ByteArray}{ps:List ByteArray}(h:aT s)(hs:s.size<=1000000000)(hp:ps.map (·.data.toList)=bi s.data.toList):ps.length<=4294967296/\∀p∈ps,EY p:=by
 have hl:s.data.toList.length=s.size:=by simp
 have key:(bi s.data.toList).length<=s.size+1/\∀p∈bi s.data.toList,p.length<=s.size:=by
  cases hc:s.data.toList with
  |nil=>simp[bi]
  |cons c t=>
   rw[hc] at hl;have ht:=pM t;simp only[List.length_cons] at hl;refine⟨by simp only[bi,List.length_map];omega,fun p hp=>?_⟩;obtain⟨q,hq,rfl⟩:=List.mem_map.1 hp;have h1:=ht.2 q hq;have h2:=lQ 49 47 _ q (Zb _);have h3:=lQ 48 126 _ (cj 49 47 q) (Zb _);unfold pC;omega
 constructor
 ·have:=congrArg List.length hp;rw[List.length_map] at this;omega
 ·intro p hq;have hm:p.data.toList∈bi s.data.toList:=by rw[<-hp];exact List.mem_map.2 ⟨p,hq,rfl⟩
  refine⟨wF h _ hm,?_⟩;have:=key.2 _ hm;simp at this;omega
def Db (a b:ByteArray):Int:=cB Ci (bi a.data.toList) (bi b.data.toList)
theorem nE {a b:ByteArray}(hL:fv w)(ha:aT a)(hr:aT b)(a4:a.size<=1000000000)(b9:b.size<=1000000000):Calls Tryz.prog 113 #[.string a,.string b] w fun e w'=>BQ (decide (Db a b<0)) w e w':=by
 have H1:=H8 (hL.fault a4);have HL:=H8 hL;have Ha:=H8 ha;have Hr:=H8 hr;have Hs:=H8 (And.intro a4 b9);clear hL ha hr a4 b9;go_enter Tryz.func113,Tryz.ntmps113;go_wp2_with fail;refine Za H1 ?_;rintro e w1 ⟨i,er,rfl,⟨-,rfl⟩|⟨hn,-⟩,b0⟩
 rotate_left
 ·exact absurd Ha.out hn
 have c1:=H8 b0;have H2:=H8 ((HL.out.below b0).fault Hs.out.2);clear b0;go_wp2_with fail;refine Za H2 ?_;rintro e w2 ⟨i,er,rfl,⟨-,rfl⟩|⟨hn,-⟩,b2⟩
 rotate_left
 ·exact absurd Hr.out hn
 have b1:=H8 (ak c1.out b2);have H3:=H8 (jw (HL.out.below b1.out).max Hs.out.1);clear b2;go_wp2_with fail;refine Za H3 ?_;rintro e w3 ⟨v,ps,rfl,c0,b8,b5⟩;have b3:=H8 (ak b1.out b5);have H4:=H8 (jw (HL.out.below b3.out).max Hs.out.2);have Hp:=H8 (And.intro c0 b8);clear b5 c0 b8;go_wp2_with fail;refine Za H4 ?_;rintro e w4 ⟨u,qs,rfl,a3,a2,a5⟩;have c3:=H8 (ak b3.out a5);have a0:aZ w4 w2.heap.size v ps:=ag Hp.out.2 a5 (Zb _);obtain⟨A,q,rfl,-⟩:=af a0;obtain⟨B,r,rfl,-⟩:=af a2;have a1:=vw Ha.out Hs.out.1 Hp.out.1;have a9:=vw Hr.out Hs.out.2 a3;have H5:=H8 (zj a0 a2 a1.1 a9.1 a1.2 a9.2);have Hz:=H8 (show Db a b=cB su ps qs by unfold Db;rw[<-Hp.out.1,<-a3,B1]);clear a5 a0 a3 a2 a1 a9;generalize cB su ps qs=z at *;go_wp2_with fail;refine Za H5 ?_;rintro e w5 ⟨rfl,b4⟩;have c2:=H8 (ak c3.out b4);clear b4;go_wp2_with fail;go_ret;exact⟨by rw[Hz.out];rfl,c2.out⟩
theorem D3 (a b:ByteArray):xZ a b=if Db a b<0 then -1 else if Db b a<0 then 1 else 0:=by
 have h:xZ a b=uK (Db a b):=rfl;have c:=(jr qm).ctn (bi b.data.toList) (bi a.data.toList);rw[h];unfold uK;unfold Db at *
 by_cases h1:cB Ci (bi a.data.toList) (bi b.data.toList)<0
 ·rw[if_pos h1,if_pos h1]
 ·rw[if_neg h1,if_neg h1]
  by_cases h2:0<cB Ci (bi a.data.toList) (bi b.data.toList)
  ·rw[if_pos h2,if_pos (c.2 h2)]
  ·rw[if_neg h2,if_neg (fun e=>h2 (c.1 e))]
def fw (s:ByteArray):Prop:=aT s/\s.size<=1000000000
def Fs (z:Int)(w:World)(e:Ending)(w':World):Prop:=e =.returned (.int .i64 z)/\Below w.heap.size w w'
theorem lD {a b:ByteArray}(hL:fv w)(ha:fw a)(hb:fw b):Calls Tryz.prog 77 #[.string a,.string b] w (Fs (xZ a b) w):=by
 have H1:=H8 (nE hL ha.1 hb.1 ha.2 hb.2);have H2:=H8 (fun w1 (h:Below w.heap.size w w1)=>nE (hL.below h) hb.1 ha.1 hb.2 ha.2);have Hp:=H8 (D3 a b);clear hL ha hb;generalize xZ a b=z at *;generalize Db a b=x at *;generalize Db b a=y at *
 by_cases hx:x<0
 ·rw[decide_eq_true hx] at H1;rw[if_pos hx] at Hp;clear hx;go_enter Tryz.func77,Tryz.ntmps77;go_wp2_with fail;refine Za H1 ?_;rintro e w1 ⟨rfl,a0⟩;have a2:=H8 a0;clear a0;go_wp2_with fail;go_ret;exact⟨by rw[Hp.out];rfl,a2.out⟩
 ·rw[decide_eq_false hx] at H1;rw[if_neg hx] at Hp;clear hx;go_enter Tryz.func77,Tryz.ntmps77;go_wp2_with fail;refine Za H1 ?_;rintro e w1 ⟨rfl,a0⟩;have a2:=H8 a0;have H3:=H8 (H2.out w1 a0);clear a0
  by_cases hy:y<0
  ·rw[decide_eq_true hy] at H3;rw[if_pos hy] at Hp;clear hy;go_wp2_with fail;refine Za H3 ?_;rintro e w2 ⟨rfl,a1⟩;have a3:=H8 (ak a2.out a1);clear a1;go_wp2_with fail;go_ret;exact⟨by rw[Hp.out];rfl,a3.out⟩
  ·rw[decide_eq_false hy] at H3;rw[if_neg hy] at Hp;clear hy;go_wp2_with fail;refine Za H3 ?_;rintro e w2 ⟨rfl,a1⟩;have a3:=H8 (ak a2.out a1);clear a1;go_wp2_with fail;go_ret;exact⟨by rw[Hp.out];rfl,a3.out⟩
def BR:List Int->Int
 | []=>0
 |a::l=>if a=0 then BR l else a
theorem DT {l:List Int}(hl:l.length<=1000)(h:∀ (i:Nat) a,l[i]?=some a->w.cell? ⟨g,i,none⟩=some (.int .i64 a)):Calls Tryz.prog 76 #[.slice (some ⟨g,0,none⟩) l.length c] w fun e w'=>e =.returned (.int .i64 (BR l))/\w=w':=by
 have H:=H8 h;clear h;go_enter Tryz.func76,Tryz.ntmps76;go_wp2_with fail
 go_loopg [8] l.length (fun k s8 wr=> ∃i:Nat,k+i=l.length/\s8 =.int .i64 i/\BR (l.drop i)=BR l/\wr=w)
 case atStart=>exact⟨0,rfl,rfl,rfl,rfl⟩
 case round=>
  obtain⟨i,hk,rfl,hc,rfl⟩:=hrel;have Hc:=H8 hc;have Hk:=H8 hk
  by_cases hlt:i<l.length
  ·obtain⟨a,ha⟩:∃a,l[i]?=some a:=⟨_,Zd hlt⟩;have cx:=H.out i a ha;have a2:(i:Int)<l.length:=by omega
   have a0:l.drop i=a::l.drop (i+1):=by rw[List.drop_eq_getElem_cons hlt];congr 1;rw[Zd hlt] at ha;exact Zi ha
   have Hc2:=H8 (show BR l=if a=0 then BR (l.drop (i+1)) else a by rw[<-Hc.out,a0];rfl);clear hc a0 ha hk
   by_cases h3:a=0
   ·have a1:(a !=0)=false:=by rw[h3];rfl
    rw[if_pos h3] at Hc2;clear h3;go_wp2_with fail;go_roundg (l.length - (i+1))
    case measure=>have:=Hk.out;omega
    case rel=>exact⟨i+1,by omega,by go_num,Hc2.out.symm,rfl⟩
   ·have a1:(a !=0)=true:=by rw[bne_iff_ne];exact h3
    rw[if_neg h3] at Hc2;clear h3;go_wp2_with fail;go_ret;exact⟨by rw[Hc2.out];rfl,rfl⟩
  ·have a2:¬ (i:Int)<l.length:=by omega
   have Hc2:=H8 (show BR l=0 by rw[<-Hc.out,show l.drop i = [] from List.drop_of_length_le (by omega)];rfl);clear hc hk;go_wp2_with fail;go_ret;exact⟨by rw[Hc2.out];rfl,rfl⟩
def dh (e:En):List Value:= [.string e.eAt,.string e.eSch,.string e.eKw]
def DN (e:En):Prop:=fw e.eAt/\fw e.eSch
theorem Gv {a b:En}(h:Below (w.heap.size+2) ((w.alloc (.cells (dh a).toArray 34)).alloc (.cells (dh b).toArray 34)) w') :
  w'.cell? ⟨w.heap.size,0,none⟩=some (.string a.eAt)/\w'.cell? ⟨w.heap.size,1,none⟩=some (.string a.eSch)/\w'.cell? ⟨w.heap.size,2,none⟩=some (.string a.eKw)/\
  w'.cell? ⟨w.heap.size+1,0,none⟩=some (.string b.eAt)/\w'.cell? ⟨w.heap.size+1,1,none⟩=some (.string b.eSch)/\w'.cell? ⟨w.heap.size+1,2,none⟩=some (.string b.eKw):=by
 have h0:((w.alloc (.cells (dh a).toArray 34)).alloc (.cells (dh b).toArray 34)).heap[w.heap.size]?=some (.cells (dh a).toArray 34 (0,0)):=(Below.heap_alloc _ _ _ (by simp)).trans (Zf w _);have h1:((w.alloc (.cells (dh a).toArray 34)).alloc (.cells (dh b).toArray 34)).heap[w.heap.size+1]?=some (.cells (dh b).toArray 34 (0,0)):=by
  have:=Zf (w.alloc (.cells (dh a).toArray 34)) (.cells (dh b).toArray 34)
  rwa[World.size_alloc] at this
 have k0:=(h.block _ (by omega)).trans h0;have k1:=(h.block _ (by omega)).trans h1;exact⟨aa k0 rfl,aa k0 rfl,aa k0 rfl,aa k1 rfl,aa k1 rfl,aa k1 rfl⟩
def qT (w:World)(a b:En)(w':World):Prop:=Hid (Below w.heap.size w w'/\Below (w.heap.size+2) ((w.alloc (.cells (dh a).toArray 34)).alloc (.cells (dh b).toArray 34)) w')
theorem qT.next {a b:En}(h:qT w a b w1)(hb:Below w1.heap.size w1 w2):qT w a b w2:=H8 ⟨ak h.out.1 hb,h.out.2.trans (hb.mono (by have:=h.out.2.size;simpa using this))⟩
theorem xM {a b:En}(hL:fv w)(ha:DN a)(hb:DN b):Calls Tryz.prog 46 #[.agg #[.string a.eAt,.string a.eSch,.string a.eKw],.agg #[.string b.eAt,.string b.eSch,.string b.eKw]] w (Fs (vK a b) w):=by
 have H1:=H8 (fun w1 (h:qT w a b w1)=>lD (hL.below h.out.1) ha.1 hb.1);have H2:=H8 (fun w1 (h:qT w a b w1)=>lD (hL.below h.out.1) ha.2 hb.2);have H3:=H8 (fun w1=>tc (w:=w1) (a:=a.eKw) (b:=b.eKw));rw[yU] at H3;have He:=H8 (show vK a b=BR [xZ a.eAt b.eAt,xZ a.eSch b.eSch,tT a.eKw b.eKw] by
  simp only[vK,Ec,BR]
  (repeat' split) <;> simp_all)
 have HS:=H8 (fun w' (h:qT w a b w')=>Gv h.out.2);have a3:=H8 (show qT w a b ((w.alloc (.cells (dh a).toArray 34)).alloc (.cells (dh b).toArray 34)) from H8 ⟨((Ze _ _).alloc (Zb _) _).alloc (by simp) _,Ze _ _⟩);have HO:=H8 (fun (w1:World) (x y z:Int)=>show Calls Tryz.prog 76 #[.slice (some ⟨w1.heap.size,0,none⟩) 3 3] (w1.alloc (.cells #[.int .i64 x,.int .i64 y,.int .i64 z] 3)) (fun e w'=>e =.returned (.int .i64 (BR [x,y,z]))/\w1.alloc (.cells #[.int .i64 x,.int .i64 y,.int .i64 z] 3)=w') from DT (w:=w1.alloc (.cells #[.int .i64 x,.int .i64 y,.int .i64 z] 3)) (g:=w1.heap.size) (c:=3) (l:= [x,y,z]) (by simp) (fun i u hu=>by
  match i,hu with
  |0,hu=>cases hu;exact ar w1 [.int .i64 x,.int .i64 y,.int .i64 z] 3 0 _ rfl
  |1,hu=>cases hu;exact ar w1 [.int .i64 x,.int .i64 y,.int .i64 z] 3 1 _ rfl
  |2,hu=>cases hu;exact ar w1 [.int .i64 x,.int .i64 y,.int .i64 z] 3 2 _ rfl))
 clear hL ha hb;generalize xZ a.eAt b.eAt=p1 at *;generalize xZ a.eSch b.eSch=p2 at *;generalize tT a.eKw b.eKw=p3 at *;go_enter Tryz.func46,Tryz.ntmps46;go_wp2_with fail;refine bp (fun w'=>qT w a b w'/\w'.cell? ⟨w.heap.size,0,none⟩=some (.string a.eAt)/\w'.cell? ⟨w.heap.size,1,none⟩=some (.string a.eSch)/\w'.cell? ⟨w.heap.size,2,none⟩=some (.string a.eKw)/\w'.cell? ⟨w.heap.size+1,0,none⟩=some (.string b.eAt)/\w'.cell? ⟨w.heap.size+1,1,none⟩=some (.string b.eSch)/\w'.cell? ⟨w.heap.size+1,2,none⟩=some (.string b.eKw)) ((have h:=a3.out.next (ap (Ze _ _) 1);⟨h,HS.out _ h⟩)) fun a0=>?_
 refine tH 0 a0 ?_;refine tH 1 a0 ?_;refine tH 2 a0 ?_;refine tH 3 a0 ?_;refine tH 5 a0 ?_;refine tH 6 a0 ?_
 try simp only[Act.put,jP,jQ,jR]
 refine tH 7 a0 ?_;refine tH 8 a0 ?_;refine tH 10 a0 ?_;refine tH 11 a0 ?_;refine tH 12 a0 ?_;refine tH 13 a0 ?_
 try simp only[Act.put,jP,jQ,jR]
 refine rH 4 fun K hK=>?_
 go_simp;refine(H1.out _ a0.1).mono ?_;rintro e w2 ⟨rfl,a1⟩;refine hK.out _ _ ((have h:=a0.1.next a1;⟨h,HS.out _ h⟩)) (fun a0=>?_);clear hK K
 try simp only[Act.put,jP,jQ,jR]
 refine rH 9 fun K hK=>?_
 go_simp;refine(H2.out _ a0.1).mono ?_;rintro e w3 ⟨rfl,a2⟩;refine hK.out _ _ ((have h:=a0.1.next a2;⟨h,HS.out _ h⟩)) (fun a0=>?_);clear hK K
 try simp only[Act.put,jP,jQ,jR]
 refine rH 14 fun K hK=>?_
 go_simp;refine(H3.out _).mono ?_;rintro e w4 ⟨rfl,rfl⟩;refine hK.out _ _ (a0) (fun a0=>?_);clear hK K
 try simp only[Act.put,jP,jQ,jR]
 refine rH 15 fun K hK=>?_
 go_simp;refine hK.out _ _ ((have h:=a0.1.next (ac _ _);⟨h,HS.out _ h⟩)) (fun a0=>?_);clear hK K
 try simp only[Act.put,jP,jQ,jR]
 refine rH 16 fun K hK=>?_
 go_simp;refine(HO.out _ _ _ _).mono ?_;rintro e w5 ⟨rfl,rfl⟩;refine hK.out _ _ (a0) (fun a0=>?_);clear hK K
 try simp only[Act.put,jP,jQ,jR]
 refine tH 17 a0 ?_
 try simp only[Act.put,jP,jQ,jR]
 refine wpAnyH_done (by kernel_rfl) (NoPanic.normal ?_) _;go_wp2_with fail;go_ret;exact⟨by rw[He.out];rfl,a0.1.out.1⟩
def FJ (l:List ByteArray)(s:ByteArray)(w:World)(e:Ending)(w':World):Prop:=w=w'/\∃z:Int,e =.returned (.int .i64 z)/\((∃i:Nat,z=i/\l[i]?=some s/\∀j,j<i->l[j]?≠some s)\/(z = -1/\s∉l))
theorem jB {s:ByteArray}(hl:l.length<=1000000)(h:∀ (i:Nat) a,l[i]?=some a->∃g o,A=some ⟨g,o,none⟩/\w.cell? ⟨g,o+i,none⟩=some (.string a)):Calls Tryz.prog 57 #[.slice A l.length c,.string s] w (FJ l s w):=by
 have H:=H8 h;clear h;go_enter Tryz.func57,Tryz.ntmps57;go_wp2_with fail
 go_loopg [8] l.length (fun k s8 wr=> ∃i:Nat,k+i=l.length/\s8 =.int .i64 i/\Hid (∀j,j<i->l[j]?≠some s)/\wr=w)
 case atStart=>exact⟨0,rfl,rfl,H8 (fun j hj=>absurd hj (Nat.not_lt_zero _)),rfl⟩
 case round=>
  obtain⟨i,hk,rfl,Hc,rfl⟩:=hrel;have Hk:=H8 hk
  by_cases hlt:i<l.length
  ·obtain⟨a,ha⟩:∃a,l[i]?=some a:=⟨_,Zd hlt⟩;obtain⟨g,o,rfl,cx⟩:=H.out i a ha;have a1:(i:Int)<l.length:=by omega
   have Ha:=H8 ha;clear ha hk
   by_cases h3:s=a
   ·have a0:(s.toList==a.toList)=true:=by rw[h3];simp
    have H3:=H8 h3;clear h3;go_wp2_with fail;go_ret;exact⟨rfl,i,rfl,.inl ⟨i,rfl,by rw[H3.out];exact Ha.out,Hc.out⟩⟩
   ·have a0:(s.toList==a.toList)=false:=by rw[dJ];simpa using h3
    have H3:=H8 h3;clear h3;go_wp2_with fail;go_roundg (l.length - (i+1))
    case measure=>have:=Hk.out;omega
    case rel=>
     refine⟨i+1,by omega,by go_num,H8 fun j hj=>?_,rfl⟩
     by_cases e:j=i
     ·rw[e,Ha.out];exact fun h=>H3.out (Zi h).symm
     ·exact Hc.out j (by omega)
  ·have a1:¬ (i:Int)<l.length:=by omega
   have Hn:=H8 (show s∉l from fun hm=>by
    obtain⟨j,hj,e⟩:=List.getElem_of_mem hm;exact Hc.out j (by omega) (by rw[Zd hj,e]))
   clear hk;go_wp2_with fail;go_ret;exact⟨rfl,-1,rfl,.inr ⟨rfl,Hn.out⟩⟩
structure mi (w:World):Prop where
 p:fv w
 rules:∀ (i:Nat) p,bE[i]?=some p->w.cell? ⟨5,i,none⟩=some (.string p)
 words:∀ (i:Nat) p,cJ[i]?=some p->w.cell? ⟨2,i,none⟩=some (.string p)
 eRep:a7 w 0
theorem mi.below (h:mi w)(hb:Below w.heap.size w w'):mi w':=⟨h.p.below hb,fun i p hp=>Zg hb (h.rules i p hp),fun i p hp=>Zg hb (h.words i p hp),h.eRep.below hb⟩
theorem ue {s:ByteArray}(hL:mi w):Calls Tryz.prog 33 #[.string s] w fun e w'=>w=w'/\∃z:Int,e =.returned (.int .i64 z)/\((s∈bE/\0<z)\/(s∉bE/\z=0)):=by
 have H:=H8 (jB (w:=w) (s:=s) (A:=some ⟨5,0,none⟩) (c:=32) (l:=bE) (by decide) (fun i a ha=>⟨_,0,rfl,by rw[Nat.zero_add];exact hL.rules i a ha⟩));rw[show bE.length=32 from rfl] at H;clear hL;go_enter Tryz.func33,Tryz.ntmps33;go_wp2_with fail;refine Za H ?_;rintro e w1 ⟨rfl,z,rfl,⟨i,rfl,hi,-⟩|⟨rfl,hn⟩⟩
 ·have hlt:=(List.getElem?_eq_some_iff.1 hi).1;rw[show bE.length=32 from rfl] at hlt;have Hi:=H8 (Zk hi);have h0:¬ (i:Int)<0:=by omega
  clear hi;go_wp2_with fail;go_ret;exact⟨rfl,_,rfl,.inl ⟨Hi.out,by omega⟩⟩
 ·have Hn:=H8 hn;clear hn;go_wp2_with fail;go_ret;exact⟨rfl,_,rfl,.inr ⟨Hn.out,rfl⟩⟩
theorem js {s:ByteArray}(hL:fv w)(hp:fw s):Calls Tryz.prog 20 #[.string s] w (BQ true w):=by
 have H:=H8 (lf hL hp.2);have Hp:=H8 hp.1;clear hL hp;go_enter Tryz.func20,Tryz.ntmps20;go_wp2_with fail;refine Za H ?_;rintro e w1 ⟨v,er,rfl,a0,⟨-,rfl,-⟩|⟨hn,-⟩⟩
 rotate_left
 ·exact absurd Hp.out hn
 have a1:=H8 a0;clear a0;go_wp2_with fail;go_ret;exact⟨rfl,a1.out⟩
def DR (e:En):Prop:=kj e/\e.eAt.size<=1000000000/\e.eSch.size<=1000000000
theorem DR.at {e:En}(h:DR e):fw e.eAt:=⟨h.1.1,h.2.1⟩
theorem DR.sch {e:En}(h:DR e):fw e.eSch:=⟨h.1.2.1,h.2.2⟩
theorem qU {e:En}(hL:mi w)(h:DR e):Calls Tryz.prog 19 #[.agg #[.string e.eAt,.string e.eSch,.string e.eKw]] w fun r w'=>BQ true w r w':=by
 have H1:=H8 (fun w1 (hb:Below w.heap.size w w1)=>js (hL.p.below hb) h.at);have H2:=H8 (fun w1 (hb:Below w.heap.size w w1)=>js (hL.p.below hb) h.sch);have H3:=H8 (fun w1 (hb:Below w.heap.size w w1)=>ue (s:=e.eKw) (hL.below hb));have Hk:=H8 h.1.2.2;have b0:=H8 (Zf w (.cells #[.string e.eAt,.string e.eSch,.string e.eKw] 34));have a3:=H8 (ac w (.cells #[.string e.eAt,.string e.eSch,.string e.eKw] 34));clear hL h;go_enter Tryz.func19,Tryz.ntmps19;go_wp2_with fail;generalize w.alloc (.cells #[.string e.eAt,.string e.eSch,.string e.eKw] 34)=w0 at *;refine(H1.out _ a3.out).mono ?_;rintro r w1 ⟨rfl,a1⟩;have a4:=H8 (ak a3.out a1);have a5:=H8 (ai b0.out a1);have c1:=aa a5.out (j:=1) (u:=.string e.eSch) rfl;clear a1;go_wp2_with fail;refine(H2.out _ a4.out).mono ?_;rintro r w2 ⟨rfl,a2⟩;have a0:=H8 (ak a4.out a2);have a9:=H8 (ai a5.out a2);have c2:=aa a9.out (j:=2) (u:=.string e.eKw) rfl;clear a2 c1
 by_cases hf:e.eKw=vD
 ·have b1:e.eKw.toList = [102,97,108,115,101]:=by rw[hf,ByteArray.toList_eq];rfl
  clear hf;go_wp2_with fail;go_ret;exact⟨rfl,a0.out⟩
 ·have b1:¬e.eKw.toList = [102,97,108,115,101]:=fun h=>hf (by
   rw[ByteArray.toList_eq] at h
   cases hx:e.eKw with|mk d=>rw[hx] at h;simp only at h;unfold vD;rw[<-h])
  have Hm:=H8 (Hk.out.resolve_left hf);clear hf;go_wp2_with fail;refine(H3.out _ a0.out).mono ?_;rintro r w3 ⟨rfl,z,rfl,⟨-,hz⟩|⟨hn,-⟩⟩
  rotate_left
  ·exact absurd Hm.out hn
  go_wp2_with fail;go_ret;exact⟨rfl,a0.out⟩
theorem lL (hL:mi w)(ho:o<6):Calls Tryz.prog 18 #[.int .i64 o] w fun e w'=>e =.returned (.string (bA o))/\∃m,w'=w.drewN m:=by
 have hg:cJ[o]?=some (bA o):=by
  unfold bA;rw[List.getD_eq_getElem?_getD,Zd (by exact ho)];rfl
 have c:=hL.words o _ hg;generalize bA o=s at *;have h1:¬ (o:Int)<0:=by omega
 have h2:¬ (6:Int)<=o:=by omega
 have h3:(o:Int)<6:=by omega
 clear hL hg;go_enter Tryz.func18,Tryz.ntmps18;go_wp2_with fail;go_ret;exact⟨rfl,0,rfl⟩
def mE (w:World)(v:Value)(l:List ByteArray):Prop:=l.length<=1000000/\∃A c,v =.slice A l.length c/\l.length<=c/\∀ (i:Nat) a,l[i]?=some a->∃g o,A=some ⟨g,o,none⟩/\w.cell? ⟨g,o+i,none⟩=some (.string a)
theorem mE.below (h:mE w v l)(hb:Below w.heap.size w w'):mE w' v l:=by
 obtain⟨h1,A,c,h2,h3,h4⟩:=h;exact⟨h1,A,c,h2,h3,fun i a ha=>by obtain⟨g,o,e,k⟩:=h4 i a ha;exact⟨g,o,e,Zg hb k⟩⟩
theorem mE.take (h:mE w (.slice A n c) l)(i:Nat)(hi:i<=l.length):mE w (.slice A i c) (l.take i):=by
 obtain⟨h1,A',c',e,h3,h4⟩:=h;obtain⟨rfl,-,rfl⟩:=Value.slice.inj e;refine⟨by simp;omega,A,c,by simp[Nat.min_eq_left hi],by simp;omega,fun j a ha=>h4 j a ?_⟩;rw[List.getElem?_take] at ha
 split at ha
 ·exact ha
 ·cases ha
def vO (g:Nat)(lb:Array Value)(p:ByteArray->Bool)(l:List ByteArray)(w:World):Prop:= ∀ (W:World) (x:ByteArray),x∈l->Below w.heap.size w W->Calls Tryz.prog g (#[.string x]++lb) W (BQ (p x) W)
theorem vO.go {lb:Array Value}{p:ByteArray->Bool}{x:ByteArray}(h:vO g lb p l w)(hx:x∈l)(hb:Below w.heap.size w W):Calls Tryz.prog g (#[.string x]++lb) W (BQ (p x) W):=h W x hx hb
def GS (b:Bool)(w:World)(e:Ending)(w':World):Prop:=Below w.heap.size w w'/\∃z:Int,e =.returned (.int .i64 z)/\decide (0<=z)=b
theorem AK {lb:Array Value}{p:ByteArray->Bool}(eg:∀args w,(callFunc g args).run Tryz.prog w =.ok (.enter g args) w)(hp:vO g lb p l w)(hv:mE w v l) :
  Calls Tryz.prog 73 #[v,.func (.func g) #[] lb] w (GS (l.any p) w):=by
 obtain⟨hl,A,c,rfl,-,h⟩:=hv;have H:=H8 h;have HP:=H8 hp;clear h hp;go_enter Tryz.func73,Tryz.ntmps73;go_wp2
 go_loopg [8] l.length (fun k s8 wr=> ∃i:Nat,k+i=l.length/\s8 =.int .i64 i/\Hid ((l.drop i).any p=l.any p)/\Hid (Below w.heap.size w wr))
 case atStart=>exact⟨0,rfl,rfl,H8 rfl,H8 (Ze _ _)⟩
 case round=>
  obtain⟨i,hk,rfl,Hc,Hb⟩:=hrel;have Hk:=H8 hk
  by_cases hlt:i<l.length
  ·obtain⟨a,ha⟩:∃a,l[i]?=some a:=⟨_,Zd hlt⟩;obtain⟨g0,o,rfl,cx0⟩:=H.out i a ha;have cx:=Zg Hb.out cx0;have a4:(i:Int)<l.length:=by omega
   have a0:=HP.out.go (Zk ha) Hb.out;have a2:l.drop i=a::l.drop (i+1):=by rw[List.drop_eq_getElem_cons hlt];congr 1;rw[Zd hlt] at ha;exact Zi ha
   have Hc2:=H8 (show l.any p= (p a||(l.drop (i+1)).any p) by rw[<-Hc.out,a2];rfl);clear ha hk cx0 a2
   cases hq:p a with
   |true=>
    rw[hq] at a0 Hc2;clear hq;go_wp2_with (go_at_fn g;refine a0.mono ?_;rintro e w' ⟨rfl,a1⟩);go_ret;exact⟨ak Hb.out a1,i,rfl,by rw[Hc2.out];simp⟩
   |false=>
    rw[hq] at a0 Hc2;clear hq;go_wp2_with (go_at_fn g;refine a0.mono ?_;rintro e w' ⟨rfl,a1⟩;have a3:=H8 (ak Hb.out a1);clear a1);go_roundg (l.length - (i+1))
    case measure=>have:=Hk.out;omega
    case rel=>exact⟨i+1,by omega,by go_num,H8 (by rw[Hc2.out];rfl),a3⟩
  ·have a4:¬ (i:Int)<l.length:=by omega
   have Hn:=H8 (show l.any p=false by rw[<-Hc.out,show l.drop i = [] from List.drop_of_length_le (by omega)];rfl);clear hk;go_wp2;go_ret;exact⟨Hb.out,-1,rfl,by rw[Hn.out];rfl⟩
theorem mX {lb:Array Value}{p:ByteArray->Bool}(eg:∀args w,(callFunc g args).run Tryz.prog w =.ok (.enter g args) w)(hp:vO g lb p l w)(hv:mE w v l) :
  Calls Tryz.prog 42 #[v,.func (.func g) #[] lb] w (BQ (l.any p) w):=by
 have H:=H8 (AK eg hp hv);clear hp;obtain⟨-,A,c,rfl,-,-⟩:=hv;generalize l.any p=b at *;go_enter Tryz.func42,Tryz.ntmps42;go_wp2_with fail;refine Za H ?_;rintro e w1 ⟨hb,z,rfl,hz⟩;have Hb:=H8 hb;have Hz:=H8 hz;clear hb hz;go_wp2_with fail;go_ret;exact⟨by rw[<-Hz.out];rfl,Hb.out⟩
theorem oR {s:ByteArray}(hv:mE w v l):Calls Tryz.prog 44 #[v,.string s] w fun e w'=>e =.returned (.bool (l.any fun q=>decide (q=s)))/\w=w':=by
 obtain⟨hl,A,c,rfl,-,h⟩:=hv;have H:=H8 (jB (s:=s) (c:=c) hl h);clear h;obtain⟨b,hb⟩:∃b,(l.any fun q=>decide (q=s))=b:=⟨_,rfl⟩;rw[hb];have Hb:=H8 hb;clear hb;go_enter Tryz.func44,Tryz.ntmps44;go_wp2_with fail;refine Za H ?_;rintro e w1 ⟨rfl,z,rfl,⟨i,rfl,hi,-⟩|⟨rfl,hn⟩⟩
 ·have Hm:=H8 (show b=true by rw[<-Hb.out,List.any_eq_true];exact⟨s,Zk hi,decide_eq_true rfl⟩);clear hi;go_wp2_with fail;go_ret;exact⟨by rw[Hm.out];simp,rfl⟩
 ·have Hm:=H8 (show b=false by
   rw[<-Hb.out,List.any_eq_false];intro q hq;rw[decide_eq_true_iff];rintro rfl;exact hn hq)
  clear hn;go_wp2_with fail;go_ret;exact⟨by rw[Hm.out];rfl,rfl⟩
theorem Bc {a q:ByteArray}(hL:fv w)(ha:fw a)(hq:fw q)(hg:w.cell? ⟨g,0,none⟩=some (.string a)):Calls Tryz.prog 72 #[.string q,.pointer (some ⟨g,0,none⟩)] w (BQ (cr a q) w):=by
 have H:=H8 (jv hL ha.1 hq.1 ha.2 hq.2);clear hL ha hq;go_enter Tryz.func72,Tryz.ntmps72;go_wp2_with fail;refine Za H ?_;rintro e w1 ⟨rfl,hb⟩;have Hb:=H8 hb;clear hb;go_wp2_with fail;go_ret;exact⟨rfl,Hb.out⟩
theorem sT:∀args w,(callFunc 72 args).run Tryz.prog w =.ok (.enter 72 args) w:=fun _ _=>by kernel_rfl
theorem sg {a:ByteArray}(hL:fv w)(ha:fw a)(hl:∀q∈l,fw q)(hv:mE w v l):Calls Tryz.prog 41 #[.string a,v] w (BQ (dA a l) w):=by
 have a0:=ac w (.cells #[.string a] 9);have a1:=Zf w (.cells #[.string a] 9);have H:=H8 (mX (w:=w.alloc (.cells #[.string a] 9)) (v:=v) (l:=l) (g:=72) (lb:= #[.pointer (some ⟨w.heap.size,0,none⟩)]) (p:=cr a) sT (fun W x hx hW=>Bc (hL.below (ak a0 hW)) ha (hl x hx) (aa (ai a1 hW) (j:=0) rfl)) (hv.below a0));rw[show l.any (cr a)=dA a l from rfl] at H;have a2:=H8 a0;obtain⟨-,A,c,rfl,-,-⟩:=hv;have a3:∀ (fn:Fn) (first cap:Array Value) (w:World),(Instr.makeFunc fn first cap).run Tryz.prog w =.ok (.func fn first cap) w:=fun _ _ _ _=>rfl
 clear hL ha hl a0 a1;generalize dA a l=b at *;go_enter Tryz.func41,Tryz.ntmps41;go_wp2_with fail;refine Za H ?_;rintro e w1 ⟨rfl,hb⟩;have Hb:=H8 (ak a2.out hb);clear hb;go_wp2_with fail;go_ret;exact⟨rfl,Hb.out⟩
theorem Ap {q:ByteArray}(hL:fv w)(hp:fw p)(hq:fw q)(hg:w.cell? ⟨g,0,none⟩=some (.string p)):Calls Tryz.prog 43 #[.string q,.pointer (some ⟨g,0,none⟩)] w fun e w'=>BQ (!decide (q=p)&&cr p q) w e w':=by
 have H:=H8 (jv hL hp.1 hq.1 hp.2 hq.2);clear hL hp hq
 by_cases he:q=p
 ·have a0:(q.toList==p.toList)=true:=by rw[he];simp
  have a2:(q.toList !=p.toList)=false:=by rw[he];simp
  have Hb:=H8 (show(!decide (q=p)&&cr p q)=false by rw[decide_eq_true he];rfl);generalize (!decide (q=p)&&cr p q)=b at *;clear he;go_enter Tryz.func43,Tryz.ntmps43;go_wp2_with fail;go_ret;exact⟨by rw[Hb.out];rfl,Ze _ _⟩
 ·have a0:(q.toList==p.toList)=false:=by rw[dJ];simpa using he
  have a2:(q.toList !=p.toList)=true:=by unfold bne;rw[a0];rfl
  have Hb:=H8 (show(!decide (q=p)&&cr p q)=cr p q by rw[decide_eq_false he];rfl);generalize (!decide (q=p)&&cr p q)=b at *;generalize cr p q=u at *;clear he;go_enter Tryz.func43,Tryz.ntmps43;go_wp2_with fail;refine Za H ?_;rintro e w1 ⟨rfl,hb⟩;have a1:=H8 hb;clear hb;go_wp2_with fail;go_ret;exact⟨by rw[Hb.out];rfl,a1.out⟩
theorem ug:∀args w,(callFunc 43 args).run Tryz.prog w =.ok (.enter 43 args) w:=fun _ _=>by kernel_rfl
abbrev E8 (e:En):Value:=.agg #[.string e.eAt,.string e.eSch,.string e.eKw]
theorem lY:Calls Tryz.prog 15 #[.agg #[.string p]] w fun e w'=>e =.returned (.agg #[.string p,.string ⟨#[]⟩,.string ⟨#[120,45,115,101,99,114,101,116]⟩])/\Below w.heap.size w w':=by
 have h1:=Zf (w.alloc (.cells #[.string p] 49)) (.cells #[.string p,.string ⟨#[]⟩,.string ⟨#[120,45,115,101,99,114,101,116]⟩] 34);rw[World.size_alloc] at h1;have a0:Below w.heap.size w ((w.alloc (.cells #[.string p] 49)).alloc (.cells #[.string p,.string ⟨#[]⟩,.string ⟨#[120,45,115,101,99,114,101,116]⟩] 34)):=((Ze _ _).alloc (Zb _) _).alloc (by simp) _;have c0:=aa h1 (j:=0) rfl;have c1:=aa h1 (j:=1) rfl;have c2:=aa h1 (j:=2) rfl;have a1:=H8 a0;clear h1 a0;go_enter Tryz.func15,Tryz.ntmps15;go_wp2_with fail;refine Zh (v:=.agg #[.string p,.string ⟨#[]⟩,.string ⟨#[120,45,115,101,99,114,101,116]⟩]) ?_ rfl ⟨rfl,a1.out⟩;simp[results,Tryz.results15,go_sem,c0,c1,c2]
def vv (w:World)(v:Value)(l:List En):Prop:=l.length<=1000000/\∃A c,v =.slice A l.length c/\l.length<=c/\∀ (i:Nat) e,l[i]?=some e->∃g o,A=some ⟨g,o,none⟩/\w.cell? ⟨g,o+i*3,none⟩=some (.string e.eAt)/\w.cell? ⟨g,o+i*3+1,none⟩=some (.string e.eSch)/\w.cell? ⟨g,o+i*3+2,none⟩=some (.string e.eKw)
theorem vv.below {l:List En}(h:vv w v l)(hb:Below w.heap.size w w'):vv w' v l:=by
 obtain⟨h1,A,c,h2,h3,h4⟩:=h;exact⟨h1,A,c,h2,h3,fun i a ha=>by obtain⟨g,o,e,k1,k2,k3⟩:=h4 i a ha;exact⟨g,o,e,Zg hb k1,Zg hb k2,Zg hb k3⟩⟩
theorem sV:cV 22 34 (.agg #[.string ByteArray.empty,.string ByteArray.empty,.string ByteArray.empty]) 3 48:=⟨Tryz.underlying22,by kernel_rfl,rfl,by decide⟩
def bk (l:List En):List Value:=l.flatMap dh
theorem eL (l:List En):(bk l).length=l.length*3:=by
 induction l with
 |nil=>rfl
 |cons e l ih=>simp only[bk,List.flatMap_cons,List.length_append] at ih ⊢;rw[ih];simp[dh];omega
theorem gc:∀ (l:List En) (i:Nat) (e:En),l[i]?=some e->(bk l)[i*3]?=some (.string e.eAt)/\(bk l)[i*3+1]?=some (.string e.eSch)/\(bk l)[i*3+2]?=some (.string e.eKw)
 | [],i,p,h=>by simp at h
 |a::l,0,p,h=>by simp at h;subst h;exact⟨rfl,rfl,rfl⟩
 |a::l,i+1,p,h=>by
  have ih:=gc l i p (by simpa using h);rw[show(i+1)*3=i*3+3 by omega];exact ih
def bJ (w:World)(base:Nat)(v:Value)(l:List En):Prop:=w.ownsRow base 34 3 v l.length (bk l)
theorem bJ.nil (w:World)(base:Nat):bJ w base (.slice none 0 0) []:=⟨rfl,.inl ⟨rfl,rfl⟩⟩
theorem bJ.sl {l:List En}(h:bJ w base v l)(hl:l.length<=1000000):vv w v l:=by
 obtain⟨_,⟨rfl,h0⟩|⟨g,cap,cur,rfl,_,hg,hc,_,_,ht⟩⟩:=id h
 ·obtain rfl:=List.eq_nil_of_length_eq_zero h0;exact⟨by simp,none,0,rfl,Zb _,fun i e hi=>by simp at hi⟩
 ·refine⟨hl,_,cap,rfl,hc,fun i e hi=>⟨g,0,rfl,?_⟩⟩;have hlt:=(List.getElem?_eq_some_iff.1 hi).1;obtain⟨f1,f2,f3⟩:=gc l i e hi;rw[Nat.zero_add];refine⟨?_,?_,?_⟩
  ·rw[aK h rfl (i*3) (by omega),f1]
  ·rw[aK h rfl (i*3+1) (by omega),f2]
  ·rw[aK h rfl (i*3+2) (by omega),f3]
theorem eO (l:List En)(e:En):bk l++dh e=bk (l ++ [e]):=by simp[bk]
