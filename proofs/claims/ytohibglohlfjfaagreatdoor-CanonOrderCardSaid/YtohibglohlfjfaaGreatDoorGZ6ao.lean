import Derived.Test.YtohibglohlfjfaaGreatDoorGZ6an
import Derived.Lib.ConvBytes
set_option linter.unusedVariables false
set_option linter.unusedSimpArgs false
set_option maxHeartbeats 64000000
set_option maxRecDepth 100000
namespace Go.Proofs.YtohibglohlfjfaaGreatDoor
open Go.RowKit
variable {y:List Int}{N base n q:Nat}{A:Option Addr}{e:TypeId}{v:Value}{w w':World}
theorem _root_.Go.World.ownsRow.below' {k:Nat}{xs:List Value}(h:w.ownsRow base e k v n xs)(hb:Below w.heap.size w w'):w'.ownsRow base e k v n xs:=ao h hb (Zb _)
theorem ij (W:World)(s:ByteArray)(hs:s.size<=9223372036854775807):∃W2 cap,(convert 9 22 (.string s)).run Tryz.prog W =.ok (.slice (some ⟨W.heap.size,0,none⟩) s.size cap) W2/\
  Below W.heap.size W W2/\Bs W2 (.slice (some ⟨W.heap.size,0,none⟩) s.size cap) s.data.toList:=by
 refine⟨Lib.bytesWorld W 5 s,grownCap W s.size 0 5,Lib.run_convert_string_bytes W 9 22 5 s Tryz.underlying9 Tryz.underlying22 Tryz.underlying5,?_,?_⟩
 ·exact⟨rfl,rfl,rfl,by rw[Lib.bytesWorld_size];omega,fun k hk=>Lib.bytesWorld_at_old _ _ _ _ hk⟩
 ·have hl:s.data.toList.length=s.size:=by simp
  refine⟨by omega,_,_,by rw[hl],by rw[hl];exact grownCap_ge _ _ _ _,fun _=>⟨_,0,rfl,fun i hi=>?_⟩⟩;rw[Nat.zero_add];exact Lib.bytesWorld_cell W 5 s i (by omega)
theorem lG:dq 191 21 (.int .i32 0) 1 4:=⟨Tryz.underlying191,by kernel_rfl,rfl,by decide⟩
def fp (c:Int):Value:=.int .i32 c
def rC (w:World)(base:Nat)(v:Value)(l:List Int):Prop:=w.ownsRow base 21 1 v l.length (l.map fp)
def my (_:UInt8):Int:= -1
def CH (w:World)(s:ByteArray)(e:Ending)(w':World):Prop:= ∃A n q,e =.returned (.slice A n q)/\Below w.heap.size w w'/\rC w' w.heap.size (.slice A n q) (bO my s.data.toList)
def Gx (w:World)(xs:List UInt8)(s3 s4:Value)(wr:World):Prop:= ∃ (ys:List UInt8) (A:Option Addr) (c:Nat) (pre:List Int),s4 =.slice A ys.length c/\Bs w (.slice A ys.length c) ys/\bO my xs=pre++bO my ys/\pre.length+ys.length<=xs.length/\Below w.heap.size w wr/\rC wr w.heap.size s3 pre
theorem kE (w:World)(s:ByteArray)(hs:s.size<=4000000):Calls Tryz.prog 206 #[.string s] w (CH w s):=by
 obtain⟨W2,cap,b4,c4,b8⟩:=ij w s (by omega);have hl:s.data.toList.length=s.size:=by simp
 rw[<-hl] at b4 b8 hs;unfold CH;generalize s.data.toList=xs at *;have c0:=Qa c4;have Hbs:=Qa b8;clear c4 b8 hl;go_enter Tryz.func206,Tryz.ntmps206;go_wp2_with fail
 go_loopw [3,4,5,6,7,13] (fun s3 s4 _ _ _ _ wr=>Gx W2 xs s3 s4 wr) (fun _ v _ _ _ _ _=>match v with | .slice _ n _=>n|_=>0)
 case atStart=>exact⟨xs,_,_, [],rfl,Hbs.out,rfl,by simp,Ze _ _,rfl,.inl ⟨rfl,rfl⟩⟩
 case round=>
  obtain⟨ys,A,c,pre,rfl,hb,he,hlen,b0,ho⟩:=hrel;obtain⟨hm,_,_,e',c6,a6⟩:=id hb;injection e' with e1 e2 e3
  subst e1 e3;have Hb:=Qa hb;have He:=Qa he;have a5:=Qa b0;have Ho:=Qa ho;have a0:=b0.size;clear hb he b0 ho e2
  by_cases h0:0<ys.length
  ·obtain⟨b,o,rfl,-⟩:=a6 h0;have hlt:(0:Int)<ys.length:=by omega
   clear a6;go_wp2_with fail;refine(oK (Hb.out.below a5.out)).mono ?_;rintro e w3 ⟨⟨code,rfl,a2⟩,b7⟩;have b6:=Qa b7;have a1:=b7.size;clear b7;have hne:ys≠ []:=by intro e;subst e;simp at h0
   have b2:=Qa (fun (k:Nat) (hk:k<=ys.length)=>Hb.out.cut hk)
   by_cases hz:(bD ys).2.2=0
   ·have c2:code=0:=a2.2 hz;subst c2;have c7:1<=(bD ys).2.1:=eB hz;have b9:(bD ys).2.1<=ys.length:=ob ys;have a3:=Qa (show bO my xs= (pre ++ [((bD ys).1:Int)])++bO my (ys.drop (bD ys).2.1) by rw[He.out,fF hne hz];simp);clear a2 hz;generalize (bD ys).1=ch at *;generalize (bD ys).2.1=nn at *;have b5:=Qa (ap w3 [fp (ch:Int)] 21);have a4:=Qa ((ao Ho.out b6.out (Zb _)).below' (ac w3 (.cells #[.int .i32 (ch:Int)] 21)));have b3:=Qa (a5.out.trans (b6.out.mono a0));have a9:=Qa (b2.out nn b9)
    by_cases hcn:c=nn
    ·have c1:(c==nn)=true:=by simpa using hcn
     go_wp2_with (at_builtin;refine km lG a4.out b5.out (by simp;omega) ?_ (h1:=(by simp[fp,Value.oneCell']));intro v' w5 p1 p2 p3;have b1:=Qa p1;have a7:=Qa p2;clear p1 p2 p3);refine⟨⟨ys.drop nn,_,_,pre ++ [(ch:Int)],by rw[List.length_drop],by rw[List.length_drop];exact⟨by rw[List.length_drop];omega,_,_,by rw[List.length_drop],by rw[List.length_drop];omega,fun h=>absurd h (by rw[List.length_drop];omega)⟩,a3.out,by rw[List.length_drop];simp;omega,aY (b3.out.alloc (Zc a0 a1) _) a4.out (Zc (Zc a0 a1) (by simp)) a7.out,by unfold rC;rw[List.length_append,List.map_append];exact b1.out⟩,?_⟩
     show ys.length - nn<ys.length
     omega
    ·go_wp2_with (at_builtin;refine km lG a4.out b5.out (by simp;omega) ?_ (h1:=(by simp[fp,Value.oneCell']));intro v' w5 p1 p2 p3;have b1:=Qa p1;have a7:=Qa p2;clear p1 p2 p3);refine⟨⟨ys.drop nn,_,_,pre ++ [(ch:Int)],by rw[List.length_drop],by rw[List.length_drop];exact a9.out,a3.out,by rw[List.length_drop];simp;omega,aY (b3.out.alloc (Zc a0 a1) _) a4.out (Zc (Zc a0 a1) (by simp)) a7.out,by unfold rC;rw[List.length_append,List.map_append];exact b1.out⟩,?_⟩
     show ys.length - nn<ys.length
     omega
   ·have c5:bO my ys= (-1)::bO my (ys.drop 1):=by
     cases ys with
     |nil=>exact absurd rfl hne
     |cons x t=>rw[jo hz];rfl
    have c2:(code !=0)=true:=by
     have:code≠0:=fun h=>hz (a2.1 h)
     simpa using this
    have c7:1<=1:=Zb _;have b9:1<=ys.length:=h0;have a3:=Qa (show bO my xs= (pre ++ [(-1:Int)])++bO my (ys.drop 1) by rw[He.out,c5];simp);clear a2 hz hne c5;have b5:=Qa (ap w3 [fp (-1)] 21);have a4:=Qa ((ao Ho.out b6.out (Zb _)).below' (ac w3 (.cells #[.int .i32 (-1)] 21)));have b3:=Qa (a5.out.trans (b6.out.mono a0));have a9:=Qa (b2.out 1 b9)
    by_cases hcn:c=1
    ·have c1:(c==1)=true:=by simpa using hcn
     go_wp2_with (at_builtin;refine km lG a4.out b5.out (by simp;omega) ?_ (h1:=(by simp[fp,Value.oneCell']));intro v' w5 p1 p2 p3;have b1:=Qa p1;have a7:=Qa p2;clear p1 p2 p3);refine⟨⟨ys.drop 1,_,_,pre ++ [(-1)],by rw[List.length_drop],by rw[List.length_drop];exact⟨by rw[List.length_drop];omega,_,_,by rw[List.length_drop],by rw[List.length_drop];omega,fun h=>absurd h (by rw[List.length_drop];omega)⟩,a3.out,by rw[List.length_drop];simp;omega,aY (b3.out.alloc (Zc a0 a1) _) a4.out (Zc (Zc a0 a1) (by simp)) a7.out,by unfold rC;rw[List.length_append,List.map_append];exact b1.out⟩,?_⟩
     show ys.length - 1<ys.length
     omega
    ·go_wp2_with (at_builtin;refine km lG a4.out b5.out (by simp;omega) ?_ (h1:=(by simp[fp,Value.oneCell']));intro v' w5 p1 p2 p3;have b1:=Qa p1;have a7:=Qa p2;clear p1 p2 p3);refine⟨⟨ys.drop 1,_,_,pre ++ [(-1)],by rw[List.length_drop],by rw[List.length_drop];exact a9.out,a3.out,by rw[List.length_drop];simp;omega,aY (b3.out.alloc (Zc a0 a1) _) a4.out (Zc (Zc a0 a1) (by simp)) a7.out,by unfold rC;rw[List.length_append,List.map_append];exact b1.out⟩,?_⟩
     show ys.length - 1<ys.length
     omega
  ·have c3:ys.length=0:=by omega
   obtain rfl:ys = []:=List.eq_nil_of_length_eq_zero c3;clear h0 c3;go_wp2_with fail;go_ret;have h:=He.out;rw[lu,List.append_nil] at h;obtain⟨A3,q3,rfl,-⟩:=ag Ho.out;exact⟨A3,pre.length,q3,rfl,c0.out.trans (a5.out.mono c0.out.size),by rw[h];exact bV Ho.out c0.out.size⟩
def o9 (s:ByteArray):List Int:=bO my s.data.toList
theorem BJ {s:ByteArray}(h:fo s.data.toList):o9 s=nm s:=pf h
theorem zq {x:List Int}{k:Nat}(h:aw x y=aw (x.drop k) (y.drop k)){a b:Int}(ha:x[k]?=some a)(hb:y[k]?=some b)(he:a=b):aw x y=aw (x.drop (k+1)) (y.drop (k+1)):=by
 subst he;obtain⟨h1,a0⟩:=List.getElem?_eq_some_iff.1 ha;obtain⟨h2,a1⟩:=List.getElem?_eq_some_iff.1 hb;rw[h,List.drop_eq_getElem_cons h1,List.drop_eq_getElem_cons h2,a0,a1];rw[aw,if_neg (by omega),if_neg (by omega)]
theorem Al {x:List Int}{k:Nat}(h:aw x y=aw (x.drop k) (y.drop k)){a b:Int}(ha:x[k]?=some a)(hb:y[k]?=some b)(he:a≠b):decide (aw x y<0)=decide (a<b):=by
 obtain⟨h1,a0⟩:=List.getElem?_eq_some_iff.1 ha;obtain⟨h2,a1⟩:=List.getElem?_eq_some_iff.1 hb;rw[h,List.drop_eq_getElem_cons h1,List.drop_eq_getElem_cons h2,a0,a1,aw]
 by_cases hlt:a<b
 ·simp[hlt]
 ·rw[if_neg hlt,if_pos (by omega)];simp[hlt]
theorem sU {x:List Int}{k:Nat}(h:aw x y=aw (x.drop k) (y.drop k))(hk:k<=x.length/\k<=y.length)(he:¬ (k<x.length/\k<y.length)):decide (aw x y<0)=decide (x.length<y.length):=by
 rw[h]
 by_cases h1:k<x.length
 ·have h2:y.length<=k:=by omega
  rw[List.drop_eq_getElem_cons h1,List.drop_eq_nil_of_le h2,aw];simp;omega
 ·rw[List.drop_eq_nil_of_le (by omega:x.length<=k)]
  by_cases h2:k<y.length
  ·rw[List.drop_eq_getElem_cons h2,aw];simp;omega
  ·rw[List.drop_eq_nil_of_le (by omega:y.length<=k),aw];simp;omega
theorem kw (bad:UInt8->Int):∀ (n:Nat) (xs:List UInt8),xs.length<=n->(bO bad xs).length<=xs.length
 |_, [],_=>Zb _
 |0,x::t,h=>by simp at h
 |n+1,x::t,h=>by
  simp only[List.length_cons] at h
  by_cases hd:(bD (x::t)).2.2=0
  ·have hp:=eB hd;have:=kw bad n ((x::t).drop (bD (x::t)).2.1) (by rw[List.length_drop,List.length_cons];omega);rw[fF (by simp) hd];rw[List.length_drop] at this;simp only[List.length_cons] at this ⊢;omega
  ·have:=kw bad n t (by omega);rw[jo hd];simp only[List.length_cons];omega
theorem r9 {k:Nat}{xs:List Value}(h:w.ownsRow base e k (.slice A n q) N xs):n=N:=by
 obtain⟨_,_,e,_⟩:=ag h;injection e
theorem kt {k:Nat}{xs:List Value}(h:w.ownsRow base e k (.slice A n q) N xs)(h0:0<N):∃g,A=some ⟨g,0,none⟩:=by
 obtain⟨_,_,e,_,_,h'⟩:=ag h;injection e with e1 e2 e3;subst e1;exact h' h0
def j6 (x y:List Int):Bool:=decide (aw x y<0)
def Jk (w:World)(x y:List Int)(s7:Value)(wr:World):Prop:= ∃k:Nat,(k<=x.length/\k<=y.length)/\s7 =.int .i64 k/\Below w.heap.size w wr/\aw x y=aw (x.drop k) (y.drop k)
theorem rq (w:World)(s t:ByteArray)(hs:s.size<=4000000)(ht:t.size<=4000000):Calls Tryz.prog 189 #[.string s,.string t] w fun e w'=>e =.returned (.bool (j6 (o9 s) (o9 t)))/\Below w.heap.size w w':=by
 have hlx:(o9 s).length<=4000000:=by have:=kw my _ s.data.toList (Zb _);simp at this;unfold o9;omega
 have hly:(o9 t).length<=4000000:=by have:=kw my _ t.data.toList (Zb _);simp at this;unfold o9;omega
 go_enter Tryz.func189,Tryz.ntmps189;go_wp2_with fail;refine(kE w s hs).mono ?_;rintro e w1 ⟨A1,n1,q1,rfl,b4,b5⟩;have a7:=Qa b4;have a1:=Qa b5;clear b4 b5;go_wp2_with fail;refine(kE w1 t ht).mono ?_;rintro e w2 ⟨A2,n2,q2,rfl,a6,b7⟩;have a1:=Qa (a1.out.below' a6);have a2:=Qa (a7.out.trans (a6.mono a7.out.size));have a3:=Qa b7;have e1:n1= (o9 s).length:=r9 a1.out;have e2:n2= (o9 t).length:=r9 a3.out;subst e1 e2;change Hid (rC w2 _ _ (o9 s)) at a1;change Hid (rC w2 _ _ (o9 t)) at a3;clear a6 b7 a7;obtain⟨x,a5⟩:∃x,o9 s=x:=⟨_,rfl⟩;obtain⟨y,a4⟩:∃x,o9 t=x:=⟨_,rfl⟩;rw[a5] at hlx a1 ⊢;rw[a4] at hly a3 ⊢;have a0:=Qa (show j6 (o9 s) (o9 t)=j6 x y by rw[a5,a4]);clear a5 a4;go_wp2_with fail
 go_loopw [7] (fun s7 wr=>Jk w2 x y s7 wr) (fun i _=>x.length - (intOf i).toNat)
 case atStart=>exact⟨0,by omega,rfl,Ze _ _,rfl⟩
 case round=>
  obtain⟨k,hk,rfl,hb,hc⟩:=hrel;have Hb:=Qa hb;have Hc:=Qa hc;have b3:=hk.1;have b1:=hk.2;clear hb hc hk
  by_cases hx:k<x.length
  ·by_cases hy:k<y.length
   ·have b0:=Qa (a1.out.below' Hb.out);have a9:=Qa (a3.out.below' Hb.out);obtain⟨g1,rfl⟩:=kt a1.out (by omega);obtain⟨g2,rfl⟩:=kt a3.out (by omega);obtain⟨a,ha⟩:∃s,x[k]?=some s:=⟨_,Zd hx⟩;obtain⟨b,hb⟩:∃s,y[k]?=some s:=⟨_,Zd hy⟩;have c1:=aL b0.out rfl k (by omega);have c2:=aL a9.out rfl k (by omega);rw[List.getElem?_map,ha] at c1;rw[List.getElem?_map,hb] at c2;simp only[Option.map_some,fp] at c1 c2;have Ha:=Qa ha;have b6:=Qa hb;have b2:(k:Int)<x.length:=by omega
    have b9:(k:Int)<y.length:=by omega
    clear ha hb
    by_cases he:a=b
    ·have b8:(a !=b)=false:=by simp[he]
     have Hs:=Qa (zq Hc.out Ha.out b6.out he);clear he;go_wp2_with fail;go_quiet (fail);go_wp2_with fail;exact⟨⟨k+1,by omega,by go_num,av Hb.out _,Hs.out⟩,by simp[intOf];omega⟩
    ·have b8:(a !=b)=true:=by simp[he]
     have Hs:=Qa (Al Hc.out Ha.out b6.out he);clear he;go_wp2_with fail;go_quiet (fail);go_wp2_with fail;go_quiet (fail);go_wp2_with fail;go_ret;exact⟨iJ (Hs.out.symm.trans a0.out.symm),a2.out.trans ((av (av Hb.out _) _).mono a2.out.size)⟩
   ·have b2:(k:Int)<x.length:=by omega
    have b9:¬ (k:Int)<y.length:=by omega
    have Hs:=Qa (sU Hc.out ⟨b3,b1⟩ (by omega));go_wp2_with fail;go_ret;exact⟨iJ (Hs.out.symm.trans a0.out.symm),a2.out.trans (Hb.out.mono a2.out.size)⟩
  ·have b2:¬ (k:Int)<x.length:=by omega
   have Hs:=Qa (sU Hc.out ⟨b3,b1⟩ (by omega));go_wp2_with fail;go_ret;exact⟨iJ (Hs.out.symm.trans a0.out.symm),a2.out.trans (Hb.out.mono a2.out.size)⟩
