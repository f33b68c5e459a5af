import Derived.Test.YtibmppoeeppnoaaGreatDoorGZ4an
import Derived.Lib.ConvBytes
set_option linter.unusedVariables false
set_option linter.unusedSimpArgs false
set_option maxHeartbeats 64000000
set_option maxRecDepth 100000
namespace Go.Proofs.YtibmppoeeppnoaaGreatDoor
open Go.RowKit
variable {s:ByteArray}{y:List Int}{N base k n q:Nat}{A:Option Addr}{e:TypeId}{v:Value}{w w':World}
theorem _root_.Go.World.ownsRow.below' {xs:List Value}(h:w.ownsRow base e k v n xs)(hb:Below w.heap.size w w'):w'.ownsRow base e k v n xs:=ao h hb (Za _)
theorem gZ (W:World)(s:ByteArray)(hs:s.size<=9223372036854775807):∃W2 cap,(convert 9 22 (.string s)).run Tryz.prog W =.ok (.slice (some ⟨W.heap.size,0,none⟩) s.size cap) W2/\
  Below W.heap.size W W2/\Bs W2 (.slice (some ⟨W.heap.size,0,none⟩) s.size cap) s.data.toList:=by
 refine⟨Lib.bytesWorld W 5 s,grownCap W s.size 0 5,Lib.run_convert_string_bytes W 9 22 5 s Tryz.underlying9 Tryz.underlying22 Tryz.underlying5,?_,?_⟩
 ·exact⟨rfl,rfl,rfl,by rw[Lib.bytesWorld_size];omega,fun k hk=>Lib.bytesWorld_at_old _ _ _ _ hk⟩
 ·have hl:s.data.toList.length=s.size:=by simp
  refine⟨by omega,_,_,by rw[hl],by rw[hl];exact grownCap_ge _ _ _ _,fun _=>⟨_,0,rfl,fun i hi=>?_⟩⟩;rw[Nat.zero_add];exact Lib.bytesWorld_cell W 5 s i (by omega)
theorem lh:dl 189 21 (.int .i32 0) 1 4:=⟨Tryz.underlying189,by kernel_rfl,rfl,by decide⟩
def fC (c:Int):Value:=.int .i32 c
def rA (w:World)(base:Nat)(v:Value)(l:List Int):Prop:=w.ownsRow base 21 1 v l.length (l.map fC)
def mr (_:UInt8):Int:= -1
def BB (w:World)(s:ByteArray)(e:Ending)(w':World):Prop:= ∃A n q,e =.returned (.slice A n q)/\Below w.heap.size w w'/\rA w' w.heap.size (.slice A n q) (bM mr s.data.toList)
def Fk (w:World)(xs:List UInt8)(s3 s4:Value)(wr:World):Prop:= ∃ (ys:List UInt8) (A:Option Addr) (c:Nat) (pre:List Int),s4 =.slice A ys.length c/\Bs w (.slice A ys.length c) ys/\bM mr xs=pre++bM mr ys/\pre.length+ys.length<=xs.length/\Below w.heap.size w wr/\rA wr w.heap.size s3 pre
theorem kk (w:World)(s:ByteArray)(hs:s.size<=4000000):Calls Tryz.prog 201 #[.string s] w (BB w s):=by
 obtain⟨W2,cap,b4,c3,c1⟩:=gZ w s (by omega);have hl:s.data.toList.length=s.size:=by simp
 rw[<-hl] at b4 c1 hs;unfold BB;generalize s.data.toList=xs at *;have b8:=Qa c3;have Hbs:=Qa c1;clear c3 c1 hl;go_enter Tryz.func201,Tryz.ntmps201;go_wp2_with fail
 go_loopw [3,4,5,6,7,13] (fun s3 s4 _ _ _ _ wr=>Fk W2 xs s3 s4 wr) (fun _ v _ _ _ _ _=>match v with | .slice _ n _=>n|_=>0)
 case atStart=>exact⟨xs,_,_, [],rfl,Hbs.out,rfl,by simp,Zd _ _,rfl,.inl ⟨rfl,rfl⟩⟩
 case round=>
  obtain⟨ys,A,c,pre,rfl,hb,he,hlen,a7,ho⟩:=hrel;obtain⟨hm,_,_,e',c6,a6⟩:=id hb;injection e' with e1 e2 e3
  subst e1 e3;have Hb:=Qa hb;have He:=Qa he;have a5:=Qa a7;have Ho:=Qa ho;have a0:=a7.size;clear hb he a7 ho e2
  by_cases h0:0<ys.length
  ·obtain⟨b,o,rfl,-⟩:=a6 h0;have hlt:(0:Int)<ys.length:=by omega
   clear a6;go_wp2_with fail;refine(nW (Hb.out.below a5.out)).mono ?_;rintro e w3 ⟨⟨code,rfl,a2⟩,c0⟩;have b6:=Qa c0;have a1:=c0.size;clear c0;have hne:ys≠ []:=by intro e;subst e;simp at h0
   have b2:=Qa (fun (k:Nat) (hk:k<=ys.length)=>Hb.out.cut hk)
   by_cases hz:(bC ys).2.2=0
   ·have c2:code=0:=a2.2 hz;subst c2;have c7:1<=(bC ys).2.1:=eB hz;have b9:(bC ys).2.1<=ys.length:=nt ys;have a3:=Qa (show bM mr xs= (pre ++ [((bC ys).1:Int)])++bM mr (ys.drop (bC ys).2.1) by rw[He.out,fy hne hz];simp);clear a2 hz;generalize (bC ys).1=ch at *;generalize (bC ys).2.1=nn at *;have b5:=Qa (ap w3 [fC (ch:Int)] 21);have a4:=Qa ((ao Ho.out b6.out (Za _)).below' (ac w3 (.cells #[.int .i32 (ch:Int)] 21)));have b3:=Qa (a5.out.trans (b6.out.mono a0));have a9:=Qa (b2.out nn b9)
    by_cases hcn:c=nn
    ·have b7:(c==nn)=true:=by simpa using hcn
     go_wp2_with (at_builtin;refine lH lh a4.out b5.out (by simp;omega) ?_ (h1:=(by simp[fC,Value.oneCell']));intro v' w5 p1 p2 p3;have b0:=Qa p1;have b1:=Qa p2;clear p1 p2 p3);refine⟨⟨ys.drop nn,_,_,pre ++ [(ch:Int)],by rw[List.length_drop],by rw[List.length_drop];exact⟨by rw[List.length_drop];omega,_,_,by rw[List.length_drop],by rw[List.length_drop];omega,fun h=>absurd h (by rw[List.length_drop];omega)⟩,a3.out,by rw[List.length_drop];simp;omega,bw (b3.out.alloc (Zb a0 a1) _) a4.out (Zb (Zb a0 a1) (by simp)) b1.out,by unfold rA;rw[List.length_append,List.map_append];exact b0.out⟩,?_⟩
     show ys.length - nn<ys.length
     omega
    ·go_wp2_with (at_builtin;refine lH lh a4.out b5.out (by simp;omega) ?_ (h1:=(by simp[fC,Value.oneCell']));intro v' w5 p1 p2 p3;have b0:=Qa p1;have b1:=Qa p2;clear p1 p2 p3);refine⟨⟨ys.drop nn,_,_,pre ++ [(ch:Int)],by rw[List.length_drop],by rw[List.length_drop];exact a9.out,a3.out,by rw[List.length_drop];simp;omega,bw (b3.out.alloc (Zb a0 a1) _) a4.out (Zb (Zb a0 a1) (by simp)) b1.out,by unfold rA;rw[List.length_append,List.map_append];exact b0.out⟩,?_⟩
     show ys.length - nn<ys.length
     omega
   ·have c5:bM mr ys= (-1)::bM mr (ys.drop 1):=by
     cases ys with
     |nil=>exact absurd rfl hne
     |cons x t=>rw[je hz];rfl
    have c2:(code !=0)=true:=by
     have:code≠0:=fun h=>hz (a2.1 h)
     simpa using this
    have c7:1<=1:=Za _;have b9:1<=ys.length:=h0;have a3:=Qa (show bM mr xs= (pre ++ [(-1:Int)])++bM mr (ys.drop 1) by rw[He.out,c5];simp);clear a2 hz hne c5;have b5:=Qa (ap w3 [fC (-1)] 21);have a4:=Qa ((ao Ho.out b6.out (Za _)).below' (ac w3 (.cells #[.int .i32 (-1)] 21)));have b3:=Qa (a5.out.trans (b6.out.mono a0));have a9:=Qa (b2.out 1 b9)
    by_cases hcn:c=1
    ·have b7:(c==1)=true:=by simpa using hcn
     go_wp2_with (at_builtin;refine lH lh a4.out b5.out (by simp;omega) ?_ (h1:=(by simp[fC,Value.oneCell']));intro v' w5 p1 p2 p3;have b0:=Qa p1;have b1:=Qa p2;clear p1 p2 p3);refine⟨⟨ys.drop 1,_,_,pre ++ [(-1)],by rw[List.length_drop],by rw[List.length_drop];exact⟨by rw[List.length_drop];omega,_,_,by rw[List.length_drop],by rw[List.length_drop];omega,fun h=>absurd h (by rw[List.length_drop];omega)⟩,a3.out,by rw[List.length_drop];simp;omega,bw (b3.out.alloc (Zb a0 a1) _) a4.out (Zb (Zb a0 a1) (by simp)) b1.out,by unfold rA;rw[List.length_append,List.map_append];exact b0.out⟩,?_⟩
     show ys.length - 1<ys.length
     omega
    ·go_wp2_with (at_builtin;refine lH lh a4.out b5.out (by simp;omega) ?_ (h1:=(by simp[fC,Value.oneCell']));intro v' w5 p1 p2 p3;have b0:=Qa p1;have b1:=Qa p2;clear p1 p2 p3);refine⟨⟨ys.drop 1,_,_,pre ++ [(-1)],by rw[List.length_drop],by rw[List.length_drop];exact a9.out,a3.out,by rw[List.length_drop];simp;omega,bw (b3.out.alloc (Zb a0 a1) _) a4.out (Zb (Zb a0 a1) (by simp)) b1.out,by unfold rA;rw[List.length_append,List.map_append];exact b0.out⟩,?_⟩
     show ys.length - 1<ys.length
     omega
  ·have c4:ys.length=0:=by omega
   obtain rfl:ys = []:=List.eq_nil_of_length_eq_zero c4;clear h0 c4;go_wp2_with fail;go_ret;have h:=He.out;rw[ll,List.append_nil] at h;obtain⟨A3,q3,rfl,-⟩:=ag Ho.out;exact⟨A3,pre.length,q3,rfl,b8.out.trans (a5.out.mono b8.out.size),by rw[h];exact bZ Ho.out b8.out.size⟩
def o8 (s:ByteArray):List Int:=bM mr s.data.toList
theorem Bc (h:fH s.data.toList):o8 s=nm s:=oJ h
theorem zy {x:List Int}(h:aw x y=aw (x.drop k) (y.drop k)){a b:Int}(ha:x[k]?=some a)(hb:y[k]?=some b)(he:a=b):aw x y=aw (x.drop (k+1)) (y.drop (k+1)):=by
 subst he;obtain⟨h1,a1⟩:=List.getElem?_eq_some_iff.1 ha;obtain⟨h2,a0⟩:=List.getElem?_eq_some_iff.1 hb;rw[h,List.drop_eq_getElem_cons h1,List.drop_eq_getElem_cons h2,a1,a0];rw[aw,if_neg (by omega),if_neg (by omega)]
theorem zY {x:List Int}(h:aw x y=aw (x.drop k) (y.drop k)){a b:Int}(ha:x[k]?=some a)(hb:y[k]?=some b)(he:a≠b):decide (aw x y<0)=decide (a<b):=by
 obtain⟨h1,a1⟩:=List.getElem?_eq_some_iff.1 ha;obtain⟨h2,a0⟩:=List.getElem?_eq_some_iff.1 hb;rw[h,List.drop_eq_getElem_cons h1,List.drop_eq_getElem_cons h2,a1,a0,aw]
 by_cases hlt:a<b
 ·simp[hlt]
 ·rw[if_neg hlt,if_pos (by omega)];simp[hlt]
theorem tM {x:List Int}(h:aw x y=aw (x.drop k) (y.drop k))(hk:k<=x.length/\k<=y.length)(he:¬ (k<x.length/\k<y.length)):decide (aw x y<0)=decide (x.length<y.length):=by
 rw[h]
 by_cases h1:k<x.length
 ·have h2:y.length<=k:=by omega
  rw[List.drop_eq_getElem_cons h1,List.drop_eq_nil_of_le h2,aw];simp;omega
 ·rw[List.drop_eq_nil_of_le (by omega:x.length<=k)]
  by_cases h2:k<y.length
  ·rw[List.drop_eq_getElem_cons h2,aw];simp;omega
  ·rw[List.drop_eq_nil_of_le (by omega:y.length<=k),aw];simp;omega
theorem kn (bad:UInt8->Int):∀ (n:Nat) (xs:List UInt8),xs.length<=n->(bM bad xs).length<=xs.length
 |_, [],_=>Za _
 |0,x::t,h=>by simp at h
 |n+1,x::t,h=>by
  simp only[List.length_cons] at h
  by_cases hd:(bC (x::t)).2.2=0
  ·have hp:=eB hd;have:=kn bad n ((x::t).drop (bC (x::t)).2.1) (by rw[List.length_drop,List.length_cons];omega);rw[fy (by simp) hd];rw[List.length_drop] at this;simp only[List.length_cons] at this ⊢;omega
  ·have:=kn bad n t (by omega);rw[je hd];simp only[List.length_cons];omega
theorem qN {xs:List Value}(h:w.ownsRow base e k (.slice A n q) N xs):n=N:=by
 obtain⟨_,_,e,_⟩:=ag h;injection e
theorem oa {xs:List Value}(h:w.ownsRow base e k (.slice A n q) N xs)(h0:0<N):∃g,A=some ⟨g,0,none⟩:=by
 obtain⟨_,_,e,_,_,h'⟩:=ag h;injection e with e1 e2 e3;subst e1;exact h' h0
def jV (x y:List Int):Bool:=decide (aw x y<0)
def GN (w:World)(x y:List Int)(s7:Value)(wr:World):Prop:= ∃k:Nat,(k<=x.length/\k<=y.length)/\s7 =.int .i64 k/\Below w.heap.size w wr/\aw x y=aw (x.drop k) (y.drop k)
theorem qI (w:World)(s t:ByteArray)(hs:s.size<=4000000)(ht:t.size<=4000000):Calls Tryz.prog 184 #[.string s,.string t] w fun e w'=>e =.returned (.bool (jV (o8 s) (o8 t)))/\Below w.heap.size w w':=by
 have hlx:(o8 s).length<=4000000:=by have:=kn mr _ s.data.toList (Za _);simp at this;unfold o8;omega
 have hly:(o8 t).length<=4000000:=by have:=kn mr _ t.data.toList (Za _);simp at this;unfold o8;omega
 go_enter Tryz.func184,Tryz.ntmps184;go_wp2_with fail;refine(kk w s hs).mono ?_;rintro e w1 ⟨A1,n1,q1,rfl,b7,b6⟩;have a5:=Qa b7;have a1:=Qa b6;clear b7 b6;go_wp2_with fail;refine(kk w1 t ht).mono ?_;rintro e w2 ⟨A2,n2,q2,rfl,a4,b3⟩;have a1:=Qa (a1.out.below' a4);have a2:=Qa (a5.out.trans (a4.mono a5.out.size));have a3:=Qa b3;have e1:n1= (o8 s).length:=qN a1.out;have e2:n2= (o8 t).length:=qN a3.out;subst e1 e2;change Hid (rA w2 _ _ (o8 s)) at a1;change Hid (rA w2 _ _ (o8 t)) at a3;clear a4 b3 a5;obtain⟨x,b0⟩:∃x,o8 s=x:=⟨_,rfl⟩;obtain⟨y,a9⟩:∃x,o8 t=x:=⟨_,rfl⟩;rw[b0] at hlx a1 ⊢;rw[a9] at hly a3 ⊢;have a0:=Qa (show jV (o8 s) (o8 t)=jV x y by rw[b0,a9]);clear b0 a9;go_wp2_with fail
 go_loopw [7] (fun s7 wr=>GN w2 x y s7 wr) (fun i _=>x.length - (intOf i).toNat)
 case atStart=>exact⟨0,by omega,rfl,Zd _ _,rfl⟩
 case round=>
  obtain⟨k,hk,rfl,hb,hc⟩:=hrel;have Hb:=Qa hb;have Hc:=Qa hc;have b4:=hk.1;have b2:=hk.2;clear hb hc hk
  by_cases hx:k<x.length
  ·by_cases hy:k<y.length
   ·have a6:=Qa (a1.out.below' Hb.out);have a7:=Qa (a3.out.below' Hb.out);obtain⟨g1,rfl⟩:=oa a1.out (by omega);obtain⟨g2,rfl⟩:=oa a3.out (by omega);obtain⟨a,ha⟩:∃s,x[k]?=some s:=⟨_,Zc hx⟩;obtain⟨b,hb⟩:∃s,y[k]?=some s:=⟨_,Zc hy⟩;have c1:=aD a6.out rfl k (by omega);have c2:=aD a7.out rfl k (by omega);rw[List.getElem?_map,ha] at c1;rw[List.getElem?_map,hb] at c2;simp only[Option.map_some,fC] at c1 c2;have Ha:=Qa ha;have b1:=Qa hb;have b5:(k:Int)<x.length:=by omega
    have b9:(k:Int)<y.length:=by omega
    clear ha hb
    by_cases he:a=b
    ·have b8:(a !=b)=false:=by simp[he]
     have Hs:=Qa (zy Hc.out Ha.out b1.out he);clear he;go_wp2_with fail;go_quiet (fail);go_wp2_with fail;exact⟨⟨k+1,by omega,by go_num,av Hb.out _,Hs.out⟩,by simp[intOf];omega⟩
    ·have b8:(a !=b)=true:=by simp[he]
     have Hs:=Qa (zY Hc.out Ha.out b1.out he);clear he;go_wp2_with fail;go_quiet (fail);go_wp2_with fail;go_quiet (fail);go_wp2_with fail;go_ret;exact⟨iR (Hs.out.symm.trans a0.out.symm),a2.out.trans ((av (av Hb.out _) _).mono a2.out.size)⟩
   ·have b5:(k:Int)<x.length:=by omega
    have b9:¬ (k:Int)<y.length:=by omega
    have Hs:=Qa (tM Hc.out ⟨b4,b2⟩ (by omega));go_wp2_with fail;go_ret;exact⟨iR (Hs.out.symm.trans a0.out.symm),a2.out.trans (Hb.out.mono a2.out.size)⟩
  ·have b5:¬ (k:Int)<x.length:=by omega
   have Hs:=Qa (tM Hc.out ⟨b4,b2⟩ (by omega));go_wp2_with fail;go_ret;exact⟨iR (Hs.out.symm.trans a0.out.symm),a2.out.trans (Hb.out.mono a2.out.size)⟩
