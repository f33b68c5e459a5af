import Derived.Test.YtpkdfmjdhmpopaaGreatDoorGZ3an
import Derived.Lib.ConvBytes
set_option linter.unusedVariables false
set_option linter.unusedSimpArgs false
set_option maxHeartbeats 64000000
set_option maxRecDepth 100000
namespace Go.Proofs.YtpkdfmjdhmpopaaGreatDoor
open Go.RowKit
variable {s : ByteArray} {y : List Int} {N base k n q : Nat} {A : Option Addr} {e : TypeId} {v : Value} {w w' : World}
theorem _root_.Go.World.ownsRow.below' {xs:List Value}(h:w.ownsRow base e k v n xs)(hb:Below w.heap.size w w'):w'.ownsRow base e k v n xs:=ap h hb (Za _)
theorem ia (W:World)(s:ByteArray)(hs:s.size<=9223372036854775807):∃W2 cap,(convert 9 22 (.string s)).run Tryz.prog W = .ok (.slice (some ⟨W.heap.size,0,none⟩) s.size cap) W2/\
  Below W.heap.size W W2/\Bs W2 (.slice (some ⟨W.heap.size,0,none⟩) s.size cap) s.data.toList:=by
 refine⟨Lib.bytesWorld W 5 s,grownCap W s.size 0 5,Lib.run_convert_string_bytes W 9 22 5 s Tryz.underlying9 Tryz.underlying22 Tryz.underlying5, ?_, ?_⟩
 ·exact⟨rfl,rfl,rfl,by rw [Lib.bytesWorld_size];omega,fun k hk=>Lib.bytesWorld_at_old _ _ _ _ hk⟩
 ·have hl:s.data.toList.length=s.size:=by simp
  refine⟨by omega,_,_,by rw [hl],by rw [hl];exact grownCap_ge _ _ _ _,fun _=>⟨_,0,rfl,fun i hi=> ?_⟩⟩;rw [Nat.zero_add];exact Lib.bytesWorld_cell W 5 s i (by omega)
theorem ly:dM 214 21 (.int .i32 0) 1 4:=⟨Tryz.underlying214,by kernel_rfl,rfl,by decide⟩
def dA (c:Int):Value:= .int .i32 c
def qj (w:World)(base:Nat)(v:Value)(l:List Int):Prop:=w.ownsRow base 21 1 v l.length (l.map dA)
def mo (_:UInt8):Int:= -1
def B8 (w:World)(s:ByteArray)(e:Ending)(w':World):Prop:= ∃A n q,e = .returned (.slice A n q)/\Below w.heap.size w w'/\qj w' w.heap.size (.slice A n q) (bN mo s.data.toList)
def FI (w:World)(xs:List UInt8)(s3 s4:Value)(wr:World):Prop:= ∃ (ys:List UInt8) (A:Option Addr) (c:Nat) (pre:List Int),s4 = .slice A ys.length c/\Bs w (.slice A ys.length c) ys/\bN mo xs=pre++bN mo ys/\pre.length+ys.length<=xs.length/\Below w.heap.size w wr/\qj wr w.heap.size s3 pre
theorem kn (w:World)(s:ByteArray)(hs:s.size<=4000000):Calls Tryz.prog 209 #[.string s] w (B8 w s):=by
 obtain⟨W2,cap,b3,c5,b9⟩:=ia w s (by omega);have hl:s.data.toList.length=s.size:=by simp
 rw [<- hl] at b3 b9 hs;unfold B8;generalize s.data.toList=xs at *;have b7:=Qa c5;have Hbs:=Qa b9;clear c5 b9 hl;go_enter Tryz.func209,Tryz.ntmps209;go_wp2_with fail
 go_loopw [3,4,5,6,7,13] (fun s3 s4 _ _ _ _ wr=>FI W2 xs s3 s4 wr) (fun _ v _ _ _ _ _=>match v with | .slice _ n _=>n | _=>0)
 case atStart=>exact⟨xs,_,_, [],rfl,Hbs.out,rfl,by simp,Zd _ _,rfl, .inl ⟨rfl,rfl⟩⟩
 case round=>
  obtain⟨ys,A,c,pre,rfl,hb,he,hlen,b0,ho⟩:=hrel;obtain⟨hm,_,_,e',c7,a6⟩:=id hb;injection e' with e1 e2 e3
  subst e1 e3;have Hb:=Qa hb;have He:=Qa he;have a5:=Qa b0;have Ho:=Qa ho;have a0:=b0.size;clear hb he b0 ho e2
  by_cases h0:0<ys.length
  ·obtain⟨b,o,rfl, -⟩:=a6 h0
   have hlt: (0:Int)<ys.length:=by omega
   clear a6;go_wp2_with fail;refine(mR (Hb.out.below a5.out)).mono ?_;rintro e w3 ⟨⟨code,rfl,a2⟩,c0⟩;have b6:=Qa c0;have a1:=c0.size;clear c0;have hne:ys≠ []:=by intro e;subst e;simp at h0
   have b4:=Qa (fun (k:Nat) (hk:k<=ys.length)=>Hb.out.cut hk)
   by_cases hz: (bE ys).2.2=0
   ·have c2:code=0:=a2.2 hz
    subst c2;have c6:1<=(bE ys).2.1:=eE hz;have c1: (bE ys).2.1<=ys.length:=nX ys;have a3:=Qa (show bN mo xs= (pre ++ [((bE ys).1:Int)])++bN mo (ys.drop (bE ys).2.1) by rw [He.out,fD hne hz];simp);clear a2 hz;generalize (bE ys).1=ch at *;generalize (bE ys).2.1=nn at *;have b5:=Qa (av w3 [dA (ch:Int)] 21);have a4:=Qa ((ap Ho.out b6.out (Za _)).below' (ac w3 (.cells #[.int .i32 (ch:Int)] 21)));have b2:=Qa (a5.out.trans (b6.out.mono a0));have a7:=Qa (b4.out nn c1)
    by_cases hcn:c=nn
    ·have b8: (c==nn)=true:=by simpa using hcn
     go_wp2_with (at_builtin;refine ar ly rfl (.tmp 21) (.tmp 23) rfl W2.heap.size u3 pre.length w3.heap.size 1 1 (pre.map dA) [dA (ch:Int)] (by simp [Act.eval]) a4.out (by simp [Act.eval]) rfl b5.out (by simp [dA,Value.oneCell']) (by unfold maxLen;omega) (by omega) (by simp;omega) ?_;intro v' w5 p1 p2 p3;have b1:=Qa p1;have a9:=Qa p2;clear p1 p2 p3);refine⟨⟨ys.drop nn,_,_,pre ++ [(ch:Int)],by rw [List.length_drop],by rw [List.length_drop];exact⟨by rw [List.length_drop];omega,_,_,by rw [List.length_drop],by rw [List.length_drop];omega,fun h=>absurd h (by rw [List.length_drop];omega)⟩,a3.out,by rw [List.length_drop];simp;omega,bz (b2.out.alloc (Zb a0 a1) _) a4.out (Zb (Zb a0 a1) (by simp)) a9.out,by unfold qj;rw [List.length_append,List.map_append];exact b1.out⟩, ?_⟩
     show ys.length - nn<ys.length
     omega
    ·go_wp2_with (at_builtin;refine ar ly rfl (.tmp 21) (.tmp 23) rfl W2.heap.size u3 pre.length w3.heap.size 1 1 (pre.map dA) [dA (ch:Int)] (by simp [Act.eval]) a4.out (by simp [Act.eval]) rfl b5.out (by simp [dA,Value.oneCell']) (by unfold maxLen;omega) (by omega) (by simp;omega) ?_;intro v' w5 p1 p2 p3;have b1:=Qa p1;have a9:=Qa p2;clear p1 p2 p3)
     refine⟨⟨ys.drop nn,_,_,pre ++ [(ch:Int)],by rw [List.length_drop],by rw [List.length_drop];exact a7.out,a3.out,by rw [List.length_drop];simp;omega,bz (b2.out.alloc (Zb a0 a1) _) a4.out (Zb (Zb a0 a1) (by simp)) a9.out,by unfold qj;rw [List.length_append,List.map_append];exact b1.out⟩, ?_⟩
     show ys.length - nn<ys.length
     omega
   ·have c3:bN mo ys= (-1)::bN mo (ys.drop 1):=by
     cases ys with
     | nil=>exact absurd rfl hne
     | cons x t=>rw [jp hz];rfl
    have c2: (code !=0)=true:=by
     have:code≠0:=fun h=>hz (a2.1 h)
     simpa using this
    have c6:1<=1:=Za _;have c1:1<=ys.length:=h0;have a3:=Qa (show bN mo xs= (pre ++ [(-1:Int)])++bN mo (ys.drop 1) by rw [He.out,c3];simp);clear a2 hz hne c3;have b5:=Qa (av w3 [dA (-1)] 21);have a4:=Qa ((ap Ho.out b6.out (Za _)).below' (ac w3 (.cells #[.int .i32 (-1)] 21)));have b2:=Qa (a5.out.trans (b6.out.mono a0));have a7:=Qa (b4.out 1 c1)
    by_cases hcn:c=1
    ·have b8: (c==1)=true:=by simpa using hcn
     go_wp2_with (at_builtin;refine ar ly rfl (.tmp 21) (.tmp 23) rfl W2.heap.size u3 pre.length w3.heap.size 1 1 (pre.map dA) [dA (-1)] (by simp [Act.eval]) a4.out (by simp [Act.eval]) rfl b5.out (by simp [dA,Value.oneCell']) (by unfold maxLen;omega) (by omega) (by simp;omega) ?_;intro v' w5 p1 p2 p3;have b1:=Qa p1;have a9:=Qa p2;clear p1 p2 p3);refine⟨⟨ys.drop 1,_,_,pre ++ [(-1)],by rw [List.length_drop],by rw [List.length_drop];exact⟨by rw [List.length_drop];omega,_,_,by rw [List.length_drop],by rw [List.length_drop];omega,fun h=>absurd h (by rw [List.length_drop];omega)⟩,a3.out,by rw [List.length_drop];simp;omega,bz (b2.out.alloc (Zb a0 a1) _) a4.out (Zb (Zb a0 a1) (by simp)) a9.out,by unfold qj;rw [List.length_append,List.map_append];exact b1.out⟩, ?_⟩
     show ys.length - 1<ys.length
     omega
    ·go_wp2_with (at_builtin;refine ar ly rfl (.tmp 21) (.tmp 23) rfl W2.heap.size u3 pre.length w3.heap.size 1 1 (pre.map dA) [dA (-1)] (by simp [Act.eval]) a4.out (by simp [Act.eval]) rfl b5.out (by simp [dA,Value.oneCell']) (by unfold maxLen;omega) (by omega) (by simp;omega) ?_;intro v' w5 p1 p2 p3;have b1:=Qa p1;have a9:=Qa p2;clear p1 p2 p3)
     refine⟨⟨ys.drop 1,_,_,pre ++ [(-1)],by rw [List.length_drop],by rw [List.length_drop];exact a7.out,a3.out,by rw [List.length_drop];simp;omega,bz (b2.out.alloc (Zb a0 a1) _) a4.out (Zb (Zb a0 a1) (by simp)) a9.out,by unfold qj;rw [List.length_append,List.map_append];exact b1.out⟩, ?_⟩
     show ys.length - 1<ys.length
     omega
  ·have c4:ys.length=0:=by omega
   obtain rfl:ys = []:=List.eq_nil_of_length_eq_zero c4;clear h0 c4;go_wp2_with fail;go_ret;have h:=He.out;rw [ld,List.append_nil] at h;obtain⟨A3,q3,rfl, -⟩:=ag Ho.out;exact⟨A3,pre.length,q3,rfl,b7.out.trans (a5.out.mono b7.out.size),by rw [h];exact cQ Ho.out b7.out.size⟩
def oN (s:ByteArray):List Int:=bN mo s.data.toList
theorem Bq (h:fF s.data.toList):oN s=nm s:=oP h
theorem yv {x:List Int}(h:aG x y=aG (x.drop k) (y.drop k)){a b:Int}(ha:x[k]?=some a)(hb:y[k]?=some b)(he:a=b):aG x y=aG (x.drop (k+1)) (y.drop (k+1)):=by
 subst he;obtain⟨h1,a0⟩:=List.getElem?_eq_some_iff.1 ha;obtain⟨h2,a1⟩:=List.getElem?_eq_some_iff.1 hb;rw [h,List.drop_eq_getElem_cons h1,List.drop_eq_getElem_cons h2,a0,a1];rw [aG,if_neg (by omega),if_neg (by omega)]
theorem y4 {x:List Int}(h:aG x y=aG (x.drop k) (y.drop k)){a b:Int}(ha:x[k]?=some a)(hb:y[k]?=some b)(he:a≠b):decide (aG x y<0)=decide (a<b):=by
 obtain⟨h1,a0⟩:=List.getElem?_eq_some_iff.1 ha;obtain⟨h2,a1⟩:=List.getElem?_eq_some_iff.1 hb;rw [h,List.drop_eq_getElem_cons h1,List.drop_eq_getElem_cons h2,a0,a1,aG]
 by_cases hlt:a<b
 ·simp [hlt]
 ·rw [if_neg hlt,if_pos (by omega)];simp [hlt]
theorem tB {x:List Int}(h:aG x y=aG (x.drop k) (y.drop k))(hk:k<=x.length/\k<=y.length)(he:¬ (k<x.length/\k<y.length)):decide (aG x y<0)=decide (x.length<y.length):=by
 rw [h]
 by_cases h1:k<x.length
 ·have h2:y.length<=k:=by omega
  rw [List.drop_eq_getElem_cons h1,List.drop_eq_nil_of_le h2,aG];simp;omega
 ·rw [List.drop_eq_nil_of_le (by omega:x.length<=k)]
  by_cases h2:k<y.length
  ·rw [List.drop_eq_getElem_cons h2,aG];simp;omega
  ·rw [List.drop_eq_nil_of_le (by omega:y.length<=k),aG];simp;omega
theorem kw (bad:UInt8->Int):∀ (n:Nat) (xs:List UInt8),xs.length<=n->(bN bad xs).length<=xs.length
 | _, [],_=>Za _
 | 0,x::t,h=>by simp at h
 | n+1,x::t,h=>by
  simp only [List.length_cons] at h
  by_cases hd: (bE (x::t)).2.2=0
  ·have hp:=eE hd
   have:=kw bad n ((x::t).drop (bE (x::t)).2.1) (by rw [List.length_drop,List.length_cons];omega);rw [fD (by simp) hd];rw [List.length_drop] at this;simp only [List.length_cons] at this ⊢;omega
  ·have:=kw bad n t (by omega)
   rw [jp hd];simp only [List.length_cons];omega
theorem qK {xs:List Value}(h:w.ownsRow base e k (.slice A n q) N xs):n=N:=by
 obtain⟨_,_,e,_⟩:=ag h;injection e
theorem mV {xs:List Value}(h:w.ownsRow base e k (.slice A n q) N xs)(h0:0<N):∃g,A=some ⟨g,0,none⟩:=by
 obtain⟨_,_,e,_,_,h'⟩:=ag h;injection e with e1 e2 e3;subst e1;exact h' h0
def jY (x y:List Int):Bool:=decide (aG x y<0)
def Gq (w:World)(x y:List Int)(s7:Value)(wr:World):Prop:= ∃k:Nat,(k<=x.length/\k<=y.length)/\s7 = .int .i64 k/\Below w.heap.size w wr/\aG x y=aG (x.drop k) (y.drop k)
theorem qY (w:World)(s t:ByteArray)(hs:s.size<=4000000)(ht:t.size<=4000000):Calls Tryz.prog 190 #[.string s, .string t] w fun e w'=>e = .returned (.bool (jY (oN s) (oN t)))/\Below w.heap.size w w':=by
 have hlx: (oN s).length<=4000000:=by have:=kw mo _ s.data.toList (Za _);simp at this;unfold oN;omega
 have hly: (oN t).length<=4000000:=by have:=kw mo _ t.data.toList (Za _);simp at this;unfold oN;omega
 go_enter Tryz.func190,Tryz.ntmps190;go_wp2_with fail;refine(kn w s hs).mono ?_;rintro e w1 ⟨A1,n1,q1,rfl,b2,b5⟩;have b0:=Qa b2;have a1:=Qa b5;clear b2 b5;go_wp2_with fail;refine(kn w1 t ht).mono ?_;rintro e w2 ⟨A2,n2,q2,rfl,a5,b1⟩;have a1:=Qa (a1.out.below' a5);have a2:=Qa (b0.out.trans (a5.mono b0.out.size));have a3:=Qa b1;have e1:n1= (oN s).length:=qK a1.out;have e2:n2= (oN t).length:=qK a3.out;subst e1 e2;change Hid (qj w2 _ _ (oN s)) at a1;change Hid (qj w2 _ _ (oN t)) at a3;clear a5 b1 b0;obtain⟨x,a6⟩:∃x,oN s=x:=⟨_,rfl⟩;obtain⟨y,a7⟩:∃x,oN t=x:=⟨_,rfl⟩;rw [a6] at hlx a1 ⊢;rw [a7] at hly a3 ⊢;have a0:=Qa (show jY (oN s) (oN t)=jY x y by rw [a6,a7]);clear a6 a7;go_wp2_with fail
 go_loopw [7] (fun s7 wr=>Gq w2 x y s7 wr) (fun i _=>x.length - (intOf i).toNat)
 case atStart=>exact⟨0,by omega,rfl,Zd _ _,rfl⟩
 case round=>
  obtain⟨k,hk,rfl,hb,hc⟩:=hrel;have Hb:=Qa hb;have Hc:=Qa hc;have b7:=hk.1;have b3:=hk.2;clear hb hc hk
  by_cases hx:k<x.length
  ·by_cases hy:k<y.length
   ·have a9:=Qa (a1.out.below' Hb.out)
    have a4:=Qa (a3.out.below' Hb.out);obtain⟨g1,rfl⟩:=mV a1.out (by omega);obtain⟨g2,rfl⟩:=mV a3.out (by omega);obtain⟨a,ha⟩:∃s,x[k]?=some s:=⟨_,Zc hx⟩;obtain⟨b,hb⟩:∃s,y[k]?=some s:=⟨_,Zc hy⟩;have c1:=bg a9.out rfl k (by omega);have c2:=bg a4.out rfl k (by omega);rw [List.getElem?_map,ha] at c1;rw [List.getElem?_map,hb] at c2;simp only [Option.map_some,dA] at c1 c2;have Ha:=Qa ha;have b6:=Qa hb;have b4: (k:Int)<x.length:=by omega
    have b8: (k:Int)<y.length:=by omega
    clear ha hb
    by_cases he:a=b
    ·have b9: (a !=b)=false:=by simp [he]
     have Hs:=Qa (yv Hc.out Ha.out b6.out he);clear he;go_wp2_with fail;go_quiet (fail);go_wp2_with fail;exact⟨⟨k+1,by omega,by go_num,aD Hb.out _,Hs.out⟩,by simp [intOf];omega⟩
    ·have b9: (a !=b)=true:=by simp [he]
     have Hs:=Qa (y4 Hc.out Ha.out b6.out he);clear he;go_wp2_with fail;go_quiet (fail);go_wp2_with fail;go_quiet (fail);go_wp2_with fail;go_ret;exact⟨i6 (Hs.out.symm.trans a0.out.symm),a2.out.trans ((aD (aD Hb.out _) _).mono a2.out.size)⟩
   ·have b4: (k:Int)<x.length:=by omega
    have b8:¬ (k:Int)<y.length:=by omega
    have Hs:=Qa (tB Hc.out ⟨b7,b3⟩ (by omega));go_wp2_with fail;go_ret;exact⟨i6 (Hs.out.symm.trans a0.out.symm),a2.out.trans (Hb.out.mono a2.out.size)⟩
  ·have b4:¬ (k:Int)<x.length:=by omega
   have Hs:=Qa (tB Hc.out ⟨b7,b3⟩ (by omega));go_wp2_with fail;go_ret;exact⟨i6 (Hs.out.symm.trans a0.out.symm),a2.out.trans (Hb.out.mono a2.out.size)⟩
