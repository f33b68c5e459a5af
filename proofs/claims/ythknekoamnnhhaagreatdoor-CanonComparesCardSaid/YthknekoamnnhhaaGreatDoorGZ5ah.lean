import Derived.Test.YthknekoamnnhhaaGreatDoorGZ5ag
import Derived.Lib.ConvBytes
set_option linter.unusedVariables false
set_option linter.unusedSimpArgs false
set_option maxHeartbeats 64000000
set_option maxRecDepth 100000
namespace Go.Proofs.YthknekoamnnhhaaGreatDoor
open Go.RowKit
variable {c4:Int}{y:List Int}{ts:List JV}{so:List Nat}{xs:List UInt8}{us vs:List Value}{B N at4 at_ base g i k1 k2 k4 lo n q q6 rb:Nat}{A A6:Option Addr}{e:TypeId}{T:TypeId->Prop}{v vn z:Value}{W W' W2 w w' w1 w2 wx:World}
theorem _root_.Go.World.ownsRow.below' {k:Nat}{xs:List Value}(h:w.ownsRow base e k v n xs)(hb:Below w.heap.size w w'):w'.ownsRow base e k v n xs:=aq h hb (Za _)
theorem iy (W:World)(s:ByteArray)(hs:s.size<=9223372036854775807):∃W2 cap,(convert 9 22 (.string s)).run Tryz.prog W =.ok (.slice (some ⟨W.heap.size,0,none⟩) s.size cap) W2/\
  Below W.heap.size W W2/\Bs W2 (.slice (some ⟨W.heap.size,0,none⟩) s.size cap) s.data.toList:=by
 refine⟨Lib.bytesWorld W 5 s,grownCap W s.size 0 5,Lib.run_convert_string_bytes W 9 22 5 s Tryz.underlying9 Tryz.underlying22 Tryz.underlying5,?_,?_⟩
 ·exact⟨rfl,rfl,rfl,by rw[Lib.bytesWorld_size];omega,fun k hk=>Lib.bytesWorld_at_old _ _ _ _ hk⟩
 ·have hl:s.data.toList.length=s.size:=by simp
  refine⟨by omega,_,_,by rw[hl],by rw[hl];exact grownCap_ge _ _ _ _,fun _=>⟨_,0,rfl,fun i hi=>?_⟩⟩;rw[Nat.zero_add];exact Lib.bytesWorld_cell W 5 s i (by omega)
theorem lM:dE 215 21 (.int .i32 0) 1 4:=⟨Tryz.underlying215,by kernel_rfl,rfl,by decide⟩
def ft (c:Int):Value:=.int .i32 c
def qy (w:World)(base:Nat)(v:Value)(l:List Int):Prop:=w.ownsRow base 21 1 v l.length (l.map ft)
def ei (_:UInt8):Int:= -1
def Cm (w:World)(s:ByteArray)(e:Ending)(w':World):Prop:= ∃A n q,e =.returned (.slice A n q)/\Below w.heap.size w w'/\qy w' w.heap.size (.slice A n q) (be ei s.data.toList)
def G7 (w:World)(xs:List UInt8)(s3 s4:Value)(wr:World):Prop:= ∃ (ys:List UInt8) (A:Option Addr) (c:Nat) (pre:List Int),s4 =.slice A ys.length c/\Bs w (.slice A ys.length c) ys/\be ei xs=pre++be ei ys/\pre.length+ys.length<=xs.length/\Below w.heap.size w wr/\qy wr w.heap.size s3 pre
theorem iw (w:World)(s:ByteArray)(hs:s.size<=4000000):Calls Tryz.prog 126 #[.string s] w (Cm w s):=by
 obtain⟨W2,cap,b5,c3,b7⟩:=iy w s (by omega);have hl:s.data.toList.length=s.size:=by simp
 rw[<-hl] at b5 b7 hs;unfold Cm;generalize s.data.toList=xs at *;have c1:=Qa c3;have Hbs:=Qa b7;clear c3 b7 hl;go_enter Tryz.func126,Tryz.ntmps126;go_wp2_with fail
 go_loopw [3,4,5,6,7,13] (fun s3 s4 _ _ _ _ wr=>G7 W2 xs s3 s4 wr) (fun _ v _ _ _ _ _=>match v with | .slice _ n _=>n|_=>0)
 case atStart=>exact⟨xs,_,_, [],rfl,Hbs.out,rfl,by simp,Zd _ _,rfl,.inl ⟨rfl,rfl⟩⟩
 case round=>
  obtain⟨ys,A,c,pre,rfl,hb,he,hlen,b1,ho⟩:=hrel;obtain⟨hm,_,_,e',c6,a6⟩:=id hb;injection e' with e1 e2 e3
  subst e1 e3;have Hb:=Qa hb;have He:=Qa he;have a5:=Qa b1;have Ho:=Qa ho;have a0:=b1.size;clear hb he b1 ho e2
  by_cases h0:0<ys.length
  ·obtain⟨b,o,rfl,-⟩:=a6 h0;have hlt:(0:Int)<ys.length:=by omega
   clear a6;go_wp2_with fail;refine(oJ (Hb.out.below a5.out)).mono ?_;rintro e w3 ⟨⟨code,rfl,a2⟩,b9⟩;have b6:=Qa b9;have a1:=b9.size;clear b9;have hne:ys≠ []:=by intro e;subst e;simp at h0
   have b2:=Qa (fun (k:Nat) (hk:k<=ys.length)=>Hb.out.cut hk)
   by_cases hz:(bF ys).2.2=0
   ·have c5:code=0:=a2.2 hz;subst c5;have c7:1<=(bF ys).2.1:=eO hz;have c0:(bF ys).2.1<=ys.length:=lG ys;have a3:=Qa (show be ei xs= (pre ++ [((bF ys).1:Int)])++be ei (ys.drop (bF ys).2.1) by rw[He.out,dA hne hz];simp);clear a2 hz;generalize (bF ys).1=ch at *;generalize (bF ys).2.1=nn at *;have b4:=Qa (ar w3 [ft (ch:Int)] 21);have a4:=Qa ((aq Ho.out b6.out (Za _)).below' (ac w3 (.cells #[.int .i32 (ch:Int)] 21)));have b3:=Qa (a5.out.trans (b6.out.mono a0));have b0:=Qa (b2.out nn c0)
    by_cases hcn:c=nn
    ·have b8:(c==nn)=true:=by simpa using hcn
     go_wp2_with (at_builtin;refine ju lM a4.out b4.out (by simp;omega) ?_ (h1:=(by simp[ft,Value.oneCell']));intro v' w5 p1 p2 p3;have a9:=Qa p1;have a7:=Qa p2;clear p1 p2 p3);refine⟨⟨ys.drop nn,_,_,pre ++ [(ch:Int)],by rw[List.length_drop],by rw[List.length_drop];exact⟨by rw[List.length_drop];omega,_,_,by rw[List.length_drop],by rw[List.length_drop];omega,fun h=>absurd h (by rw[List.length_drop];omega)⟩,a3.out,by rw[List.length_drop];simp;omega,aL (b3.out.alloc (Zb a0 a1) _) a4.out (Zb (Zb a0 a1) (by simp)) a7.out,by unfold qy;rw[List.length_append,List.map_append];exact a9.out⟩,?_⟩
     show ys.length - nn<ys.length
     omega
    ·go_wp2_with (at_builtin;refine ju lM a4.out b4.out (by simp;omega) ?_ (h1:=(by simp[ft,Value.oneCell']));intro v' w5 p1 p2 p3;have a9:=Qa p1;have a7:=Qa p2;clear p1 p2 p3);refine⟨⟨ys.drop nn,_,_,pre ++ [(ch:Int)],by rw[List.length_drop],by rw[List.length_drop];exact b0.out,a3.out,by rw[List.length_drop];simp;omega,aL (b3.out.alloc (Zb a0 a1) _) a4.out (Zb (Zb a0 a1) (by simp)) a7.out,by unfold qy;rw[List.length_append,List.map_append];exact a9.out⟩,?_⟩
     show ys.length - nn<ys.length
     omega
   ·have c2:be ei ys= (-1)::be ei (ys.drop 1):=by
     cases ys with
     |nil=>exact absurd rfl hne
     |cons x t=>rw[eL hz];rfl
    have c5:(code !=0)=true:=by
     have:code≠0:=fun h=>hz (a2.1 h)
     simpa using this
    have c7:1<=1:=Za _;have c0:1<=ys.length:=h0;have a3:=Qa (show be ei xs= (pre ++ [(-1:Int)])++be ei (ys.drop 1) by rw[He.out,c2];simp);clear a2 hz hne c2;have b4:=Qa (ar w3 [ft (-1)] 21);have a4:=Qa ((aq Ho.out b6.out (Za _)).below' (ac w3 (.cells #[.int .i32 (-1)] 21)));have b3:=Qa (a5.out.trans (b6.out.mono a0));have b0:=Qa (b2.out 1 c0)
    by_cases hcn:c=1
    ·have b8:(c==1)=true:=by simpa using hcn
     go_wp2_with (at_builtin;refine ju lM a4.out b4.out (by simp;omega) ?_ (h1:=(by simp[ft,Value.oneCell']));intro v' w5 p1 p2 p3;have a9:=Qa p1;have a7:=Qa p2;clear p1 p2 p3);refine⟨⟨ys.drop 1,_,_,pre ++ [(-1)],by rw[List.length_drop],by rw[List.length_drop];exact⟨by rw[List.length_drop];omega,_,_,by rw[List.length_drop],by rw[List.length_drop];omega,fun h=>absurd h (by rw[List.length_drop];omega)⟩,a3.out,by rw[List.length_drop];simp;omega,aL (b3.out.alloc (Zb a0 a1) _) a4.out (Zb (Zb a0 a1) (by simp)) a7.out,by unfold qy;rw[List.length_append,List.map_append];exact a9.out⟩,?_⟩
     show ys.length - 1<ys.length
     omega
    ·go_wp2_with (at_builtin;refine ju lM a4.out b4.out (by simp;omega) ?_ (h1:=(by simp[ft,Value.oneCell']));intro v' w5 p1 p2 p3;have a9:=Qa p1;have a7:=Qa p2;clear p1 p2 p3);refine⟨⟨ys.drop 1,_,_,pre ++ [(-1)],by rw[List.length_drop],by rw[List.length_drop];exact b0.out,a3.out,by rw[List.length_drop];simp;omega,aL (b3.out.alloc (Zb a0 a1) _) a4.out (Zb (Zb a0 a1) (by simp)) a7.out,by unfold qy;rw[List.length_append,List.map_append];exact a9.out⟩,?_⟩
     show ys.length - 1<ys.length
     omega
  ·have c4:ys.length=0:=by omega
   obtain rfl:ys = []:=List.eq_nil_of_length_eq_zero c4;clear h0 c4;go_wp2_with fail;go_ret;have h:=He.out;rw[jy,List.append_nil] at h;obtain⟨A3,q3,rfl,-⟩:=ah Ho.out;exact⟨A3,pre.length,q3,rfl,c1.out.trans (a5.out.mono c1.out.size),by rw[h];exact bV Ho.out c1.out.size⟩
def po (s:ByteArray):List Int:=be ei s.data.toList
theorem Cb {s:ByteArray}(h:fM s.data.toList):po s=nm s:=pH h
theorem pX {x:List Int}{k:Nat}(h:ay x y=ay (x.drop k) (y.drop k)){a b:Int}(ha:x[k]?=some a)(hb:y[k]?=some b)(he:a=b):ay x y=ay (x.drop (k+1)) (y.drop (k+1)):=by
 subst he;obtain⟨h1,a0⟩:=List.getElem?_eq_some_iff.1 ha;obtain⟨h2,a1⟩:=List.getElem?_eq_some_iff.1 hb;rw[h,List.drop_eq_getElem_cons h1,List.drop_eq_getElem_cons h2,a0,a1];rw[ay,if_neg (by omega),if_neg (by omega)]
theorem AU {x:List Int}{k:Nat}(h:ay x y=ay (x.drop k) (y.drop k)){a b:Int}(ha:x[k]?=some a)(hb:y[k]?=some b)(he:a≠b):decide (ay x y<0)=decide (a<b):=by
 obtain⟨h1,a0⟩:=List.getElem?_eq_some_iff.1 ha;obtain⟨h2,a1⟩:=List.getElem?_eq_some_iff.1 hb;rw[h,List.drop_eq_getElem_cons h1,List.drop_eq_getElem_cons h2,a0,a1,ay]
 by_cases hlt:a<b
 ·simp[hlt]
 ·rw[if_neg hlt,if_pos (by omega)];simp[hlt]
theorem uk {x:List Int}{k:Nat}(h:ay x y=ay (x.drop k) (y.drop k))(hk:k<=x.length/\k<=y.length)(he:¬ (k<x.length/\k<y.length)):decide (ay x y<0)=decide (x.length<y.length):=by
 rw[h]
 by_cases h1:k<x.length
 ·have h2:y.length<=k:=by omega
  rw[List.drop_eq_getElem_cons h1,List.drop_eq_nil_of_le h2,ay];simp;omega
 ·rw[List.drop_eq_nil_of_le (by omega:x.length<=k)]
  by_cases h2:k<y.length
  ·rw[List.drop_eq_getElem_cons h2,ay];simp;omega
  ·rw[List.drop_eq_nil_of_le (by omega:y.length<=k),ay];simp;omega
theorem fP (bad:UInt8->Int):∀ (n:Nat) (xs:List UInt8),xs.length<=n->(be bad xs).length<=xs.length
 |_, [],_=>Za _
 |0,x::t,h=>by simp at h
 |n+1,x::t,h=>by
  simp only[List.length_cons] at h
  by_cases hd:(bF (x::t)).2.2=0
  ·have hp:=eO hd;have:=fP bad n ((x::t).drop (bF (x::t)).2.1) (by rw[List.length_drop,List.length_cons];omega);rw[dA (by simp) hd];rw[List.length_drop] at this;simp only[List.length_cons] at this ⊢;omega
  ·have:=fP bad n t (by omega);rw[eL hd];simp only[List.length_cons];omega
theorem nr {k:Nat}{xs:List Value}(h:w.ownsRow base e k (.slice A n q) N xs):n=N:=by
 obtain⟨_,_,e,_⟩:=ah h;injection e
theorem ia {k:Nat}{xs:List Value}(h:w.ownsRow base e k (.slice A n q) N xs)(h0:0<N):∃g,A=some ⟨g,0,none⟩:=by
 obtain⟨_,_,e,_,_,h'⟩:=ah h;injection e with e1 e2 e3;subst e1;exact h' h0
def kk (x y:List Int):Bool:=decide (ay x y<0)
def FO (w:World)(x y:List Int)(s7:Value)(wr:World):Prop:= ∃k:Nat,(k<=x.length/\k<=y.length)/\s7 =.int .i64 k/\Below w.heap.size w wr/\ay x y=ay (x.drop k) (y.drop k)
theorem rM (w:World)(s t:ByteArray)(hs:s.size<=4000000)(ht:t.size<=4000000):Calls Tryz.prog 225 #[.string s,.string t] w fun e w'=>e =.returned (.bool (kk (po s) (po t)))/\Below w.heap.size w w':=by
 have hlx:(po s).length<=4000000:=by have:=fP ei _ s.data.toList (Za _);simp at this;unfold po;omega
 have hly:(po t).length<=4000000:=by have:=fP ei _ t.data.toList (Za _);simp at this;unfold po;omega
 go_enter Tryz.func225,Tryz.ntmps225;go_wp2_with fail;refine(iw w s hs).mono ?_;rintro e w1 ⟨A1,n1,q1,rfl,b1,b3⟩;have b0:=Qa b1;have a1:=Qa b3;clear b1 b3;go_wp2_with fail;refine(iw w1 t ht).mono ?_;rintro e w2 ⟨A2,n2,q2,rfl,a5,b5⟩;have a1:=Qa (a1.out.below' a5);have a2:=Qa (b0.out.trans (a5.mono b0.out.size));have a3:=Qa b5;have e1:n1= (po s).length:=nr a1.out;have e2:n2= (po t).length:=nr a3.out;subst e1 e2;change Hid (qy w2 _ _ (po s)) at a1;change Hid (qy w2 _ _ (po t)) at a3;clear a5 b5 b0;obtain⟨x,a4⟩:∃x,po s=x:=⟨_,rfl⟩;obtain⟨y,a6⟩:∃x,po t=x:=⟨_,rfl⟩;rw[a4] at hlx a1 ⊢;rw[a6] at hly a3 ⊢;have a0:=Qa (show kk (po s) (po t)=kk x y by rw[a4,a6]);clear a4 a6;go_wp2_with fail
 go_loopw [7] (fun s7 wr=>FO w2 x y s7 wr) (fun i _=>x.length - (intOf i).toNat)
 case atStart=>exact⟨0,by omega,rfl,Zd _ _,rfl⟩
 case round=>
  obtain⟨k,hk,rfl,hb,hc⟩:=hrel;have Hb:=Qa hb;have Hc:=Qa hc;have b7:=hk.1;have b4:=hk.2;clear hb hc hk
  by_cases hx:k<x.length
  ·by_cases hy:k<y.length
   ·have a7:=Qa (a1.out.below' Hb.out);have a9:=Qa (a3.out.below' Hb.out);obtain⟨g1,rfl⟩:=ia a1.out (by omega);obtain⟨g2,rfl⟩:=ia a3.out (by omega);obtain⟨a,ha⟩:∃s,x[k]?=some s:=⟨_,Zc hx⟩;obtain⟨b,hb⟩:∃s,y[k]?=some s:=⟨_,Zc hy⟩;have c1:=aA a7.out rfl k (by omega);have c2:=aA a9.out rfl k (by omega);rw[List.getElem?_map,ha] at c1;rw[List.getElem?_map,hb] at c2;simp only[Option.map_some,ft] at c1 c2;have Ha:=Qa ha;have b2:=Qa hb;have b6:(k:Int)<x.length:=by omega
    have b9:(k:Int)<y.length:=by omega
    clear ha hb
    by_cases he:a=b
    ·have b8:(a !=b)=false:=by simp[he]
     have Hs:=Qa (pX Hc.out Ha.out b2.out he);clear he;go_wp2_with fail;go_quiet (fail);go_wp2_with fail;exact⟨⟨k+1,by omega,by go_num,az Hb.out _,Hs.out⟩,by simp[intOf];omega⟩
    ·have b8:(a !=b)=true:=by simp[he]
     have Hs:=Qa (AU Hc.out Ha.out b2.out he);clear he;go_wp2_with fail;go_quiet (fail);go_wp2_with fail;go_quiet (fail);go_wp2_with fail;go_ret;exact⟨iZ (Hs.out.symm.trans a0.out.symm),a2.out.trans ((az (az Hb.out _) _).mono a2.out.size)⟩
   ·have b6:(k:Int)<x.length:=by omega
    have b9:¬ (k:Int)<y.length:=by omega
    have Hs:=Qa (uk Hc.out ⟨b7,b4⟩ (by omega));go_wp2_with fail;go_ret;exact⟨iZ (Hs.out.symm.trans a0.out.symm),a2.out.trans (Hb.out.mono a2.out.size)⟩
  ·have b6:¬ (k:Int)<x.length:=by omega
   have Hs:=Qa (uk Hc.out ⟨b7,b4⟩ (by omega));go_wp2_with fail;go_ret;exact⟨iZ (Hs.out.symm.trans a0.out.symm),a2.out.trans (Hb.out.mono a2.out.size)⟩
def nD (names:List ByteArray)(k:Nat):ByteArray:=names.getD k ⟨#[]⟩
theorem fQ {names:List ByteArray}{k:Nat}{s:ByteArray}(h:names[k]?=some s):nD names k=s:=by unfold nD;rw[List.getD_eq_getElem?_getD,h];rfl
def FQ (w:World)(names:List ByteArray)(s6 s7:Value)(wr:World):Prop:= ∃ (i:Nat) (so:List Nat) (A:Option Addr) (n q:Nat),i<=names.length/\s7 =.int .i64 i/\s6 =.slice A n q/\bK wr w.heap.size s6 so/\n=i/\so.Perm (List.range i)/\Below w.heap.size w wr/\(so.map (nD names)).Pairwise fN
def Iz (w1:World)(names:List ByteArray)(so:List Nat)(i:Nat)(s8:Value)(wr:World):Prop:= ∃a:Nat,a<=so.length/\s8 =.int .i64 a/\Below w1.heap.size w1 wr/\∀j x,j<a->so[j]?=some x->fN (nD names x) (nD names i)
def Id (w1:World)(names:List ByteArray)(so:List Nat)(i:Nat)(s8:Value)(wr:World):Prop:= ∃a:Nat,a<=so.length/\s8 =.int .i64 a/\Below w1.heap.size w1 wr/\(∀j x,j<a->so[j]?=some x->fN (nD names x) (nD names i))/\∀x,so[a]?=some x->¬fN (nD names x) (nD names i)
def CV (w3:World)(names:List ByteArray)(so:List Nat)(i a:Nat)(s8:Value)(wx:World):Prop:= ∃b:Bool,s8 =.bool b/\Below w3.heap.size w3 wx/\(b=true->¬names.Nodup)/\(b=false->∀x,so[a]?=some x->fN (nD names i) (nD names x))
def JG (w:World)(names:List ByteArray)(ts:List JV)(e:Ending)(w':World):Prop:= ∃ (A:Option Addr) (n q:Nat) (ok:Bool),e =.returned (.tuple #[.slice A n q,.bool ok])/\Below w.heap.size w w'/\(ok=true↔names.Nodup)/\(ok=false->n=0)/\
 (ok=true->∃ps,lz names ts ps/\bu (w.heap.size<= ·) w' w.heap.size (.slice A n q) (JV.flat 0 (.mk 6 false es kr (ps.map Prod.fst) (ps.map Prod.snd))))
theorem wL {s t:ByteArray}(hs:i6 s)(ht:i6 t):kk (po s) (po t)=true↔fN s t:=by
 unfold kk fN;rw[Cb hs.1,Cb ht.1];simp
theorem Cv {a:Nat}(h:w.ownsRow base e 1 (.slice A n q) n (so.map cI))(ha:a<=n):w.ownsRow base e 1 (.slice A a q) a ((so.take a).map cI):=by
 have hl:so.length=n:=by have:=h.1;simpa using this
 rcases h.2 with ⟨e,h0⟩|⟨g,cap,cur,e,hb,hg,h1,h2,h3,h4⟩
 ·injection e with e1 e2 e3
  subst e1 e3;obtain rfl:a=0:=by omega
  exact⟨by simp,.inl ⟨rfl,rfl⟩⟩
 ·injection e with e1 _ e3
  subst e1 e3;refine⟨by simp;omega,.inr ⟨g,q,cur,rfl,hb,hg,by omega,h2,h3,?_⟩⟩;rw[Nat.mul_one] at h4 ⊢;rw[List.map_take,<-h4,List.take_take,Nat.min_eq_left ha]
theorem o0 {k:Nat}(h:W.ownsRow B 9 k v n us)(hg:W.grownBy W' v.ownBlock):aJ (fun e=>e=9) W W':=
 aJ.of_grown hg (fun g e cs t z hh=>by obtain⟨cs',z',h'⟩:=cm h g e;rw[h'] at hh;injection hh with hh;injection hh with _ hh;exact hh.symm)
theorem pL {k:Nat}(h:W.ownsRow B 28 k v n us)(hg:W.grownBy W' v.ownBlock):aJ (fun e=>e=28) W W':=
 aJ.of_grown hg (fun g e cs t z hh=>by obtain⟨cs',z',h'⟩:=cm h g e;rw[h'] at hh;injection hh with hh;injection hh with _ hh;exact hh.symm)
def IM (vs:List Value)(k:Nat):Value:=vs.getD k undef
def IP (w:World)(names:List ByteArray)(vs:List Value)(so:List Nat)(A6:Option Addr)(q6:Nat)(s10 s11 s12:Value)(wx:World):Prop:= ∃ (k:Nat) (A10:Option Addr) (q10:Nat) (A11:Option Addr) (q11:Nat),k<=names.length/\s12 =.int .i64 k/\s10 =.slice A10 k q10/\s11 =.slice A11 k q11/\
 wx.ownsRow w.heap.size 9 1 (.slice A10 k q10) k (((so.take k).map (nD names)).map dR)/\wx.ownsRow w.heap.size 28 1 (.slice A11 k q11) k ((so.take k).map (IM vs))/\wx.ownsRow w.heap.size 3 1 (.slice A6 names.length q6) names.length (so.map cI)/\Below w.heap.size w wx
theorem yL {names:List ByteArray}(h:wx.ownsRow w.heap.size 3 1 (.slice A6 names.length q6) names.length (so.map cI))(hb:Below w.heap.size w wx):IP w names vs so A6 q6 (.slice none 0 0) (.slice none 0 0) (.int .i64 0) wx:=
 ⟨0,none,0,none,0,Zj _,rfl,rfl,rfl,⟨by simp,.inl ⟨rfl,rfl⟩⟩,⟨by simp,.inl ⟨rfl,rfl⟩⟩,h,hb⟩
theorem uC {k:Nat}{s:Value}(h:vs[k]?=some s):IM vs k=s:=by unfold IM;rw[List.getD_eq_getElem?_getD,h];rfl
theorem EV {names:List ByteArray}(hlen:names.length=ts.length)(a1:vs.length=ts.length)(hp:so.Perm (List.range names.length))(hr:(so.map (nD names)).Pairwise fN)(hv:bB (fun v ns=>dI w 0 v ns) vs (ts.map (JV.flat 0))) :
  lz names ts (so.map (fm names ts))/\(so.map (fm names ts)).map Prod.fst=so.map (nD names)/\bB (fun v ns=>dI w 0 v ns) (so.map (IM vs)) (((so.map (fm names ts)).map Prod.snd).map (JV.flat 0)):=by
 have hm:∀k∈so,k<names.length:=fun k hk=>by have:=hp.mem_iff.1 hk;simpa using this
 have hf:(so.map (fm names ts)).map Prod.fst=so.map (nD names):=by
  rw[List.map_map];exact List.map_congr_left (fun k hk=>DR hlen (hm k hk))
 refine⟨⟨yP (by rw[List.length_zip,<-hlen,Nat.min_self];exact hp),by unfold gO;rw[hf];exact hr⟩,hf,by simp,fun i a b ha hb=>?_⟩;rw[List.getElem?_map] at ha;rw[List.getElem?_map,List.getElem?_map,List.getElem?_map] at hb
 cases hk:so[i]? with
 |none=>rw[hk] at ha;simp at ha
 |some k=>
  rw[hk] at ha hb;have hlt:=hm k (Zk hk);have ht:=Zc (l:=ts) (i:=k) (by omega);have a0:=Zc (l:=vs) (i:=k) (by omega);simp only[Option.map_some,Option.some.injEq] at ha hb;rw[Ee hlen ht] at hb;rw[uC a0] at ha;subst ha hb;exact hv.2 k _ _ a0 (by rw[List.getElem?_map,ht];rfl)
theorem hnum (i:Nat):((i+1:Nat):Int)= (i:Int)+1:=by omega
theorem ny {w7:World}{names:List ByteArray}{s2:List Nat}{a:Nat}(hlt:i<names.length)(hp:so.Perm (List.range i))(ha:a<=i)(a4:so.drop a=s2)(hN:N=a+1+s2.length)
  (a0:w7.ownsRow w.heap.size 3 1 v N ((so.take a).map cI ++ [cI i]++s2.map cI)) (hb:Below w.heap.size w w7) (hr:(so.map (nD names)).Pairwise fN) (a1:∀j x,j<a->so[j]?=some x->fN (nD names x) (nD names i)) (a2:∀x,so[a]?=some x->fN (nD names i) (nD names x)) :
  FQ w names v (.int .i64 ((i+1:Nat):Int)) w7:=by
 subst a4;have hl:so.length=i:=by have:=hp.length_eq;simpa using this
 have a3:N=i+1:=by rw[hN,List.length_drop];omega
 subst a3;obtain⟨A,q,rfl,-⟩:=ah a0;refine⟨i+1,so.take a ++ [i]++so.drop a,A,i+1,q,by omega,rfl,rfl,?_,rfl,vK a hp,hb,up hr a1 a2⟩;unfold bK;have:(so.take a ++ [i]++so.drop a).length=i+1:=by simp;omega
 rw[this,List.map_append,List.map_append];exact a0
theorem mI {t:TypeId}{k:Nat}(E:dE t e z k B)(w:World)(base:Nat)(ty:TypeId)(v:Value)(n:Nat)(xs:List Value)(a0:w.ownsRow base e k v n xs)(c:Nat) :
  (Builtin.append_ #[t,t] ty #[v,.slice none 0 c]).run Tryz.prog w =.ok v w:=by
 obtain⟨i0,hi,a3,a4,a2⟩:=info_parts E.hi;rcases a0.2 with ⟨rfl,rfl⟩|⟨g,cap,cur,rfl,_,_,a1,_⟩
 ·simp[Builtin.append_,run_underlying E.ht,sizeOf,typeInfo,hi,Builtin.lenOf,Builtin.firstCells]
 ·simp[Builtin.append_,run_underlying E.ht,sizeOf,typeInfo,hi,Builtin.lenOf,Builtin.firstCells,a1,storeCells]
theorem km {t:TypeId}{k:Nat}(E:dE t e z k B){ops:Array Oper}{rest:List Oper}{o:Oper}{a:Act}{Q:Exit->Act->World->Prop}(a1:o.guard=none)(s x:Operand)
  (ho:o.op =.call {callee:=.builtin .append,args:= #[s,x],argTypes:= #[t,t]}) (base:Nat) (v:Value) (n:Nat) (us:List Value) (hs:a.eval s=v) (a0:w.ownsRow base e k v n us) (c:Nat) (hx:a.eval x =.slice none 0 c)
  (h:wpList Tryz.prog ops Q rest (a.put o.dst v) w):wpList Tryz.prog ops Q (o::rest) a w:=
 wpList_plain a1 fun _ hK=>by
  unfold Oper.wp execOp;simp only[ho,resolve,invoke,builtin,Sem.run_bind,Sem.run_pure,Result.andThen_ok,List.map_toArray,List.map_cons,List.map_nil,hs,hx,mI E w base _ v n us a0 c];exact hK _ _ h
theorem pd (A:Option Addr)(a b q:Nat):(Value.slice A a q).ownBlock= (Value.slice A b q).ownBlock:=by cases A <;> rfl
theorem pN {xs:List Value}(h:w.ownsRow base e 1 (.slice (some ⟨g,0,none⟩) n q) n xs):∀j u,xs[j]?=some u->w.cell? ⟨g,j,none⟩=some u:=fun j u hu=>by
 have hl:xs.length=n:=by have:=h.1;simpa using this
 have:=(List.getElem?_eq_some_iff.1 hu).1;rw[aA h rfl j (by omega),hu]
theorem tC {vl:Value}{names:List ByteArray}(hn:Sl w vn (names.map dR))(hl:iz w vl (ts.map (JV.flat 0)))(hlen:names.length=ts.length)(h8:∀s∈names,i6 s)(hnl:names.length<=1000000)(hsz:JV.sizes ts<=1000000)
  (hkl:∀t∈ts,∀x∈t.flat 0,x.names.length<=1000000/\∀q∈x.kids,q<=1000000) :
  Calls Tryz.prog 192 #[vn,vl] w (JG w names ts):=by
 obtain⟨hm,A,cap,rfl,i5,hA⟩:=id hn;rw[List.length_map] at hm i5 hA ⊢;obtain⟨vs,k0,i0⟩:=id hl;obtain⟨q2,A2,cap2,rfl,d0,i2⟩:=id k0;have a5:vs.length=ts.length:=by have:=i0.1;simpa using this
 rw[a5] at q2 d0 i2 ⊢;have HA:=Qa hA;have m2:=Qa i2;have Hn:=Qa hn;have Hl:=Qa hl;have j3:=Qa i0;have i9:=Qa a5;have a4:=Qa hlen;have H8:=Qa h8;have r6:=Qa hkl;have t1:ts.length<=1000000:=by omega
 clear hn hl hA i2 k0 i0 a5 hlen h8 hkl;go_enter Tryz.func192,Tryz.ntmps192;go_wp2_with fail
 go_loopw [6,7,8,9] (fun s6 s7 _ _ wr=>FQ w names s6 s7 wr) (fun _ v _ _ _=>names.length - (intOf v).toNat)
 case atStart=>exact⟨0, [],none,0,0,Zj _,rfl,rfl,bK.nil _ _,rfl,by simp,Zd _ _,by simp⟩
 case round=>
  obtain⟨i,so,A6,n6,q6,hi,rfl,rfl,ho,n3,hp,hb,hr⟩:=hrel;subst n3;have b9:so.length=n6:=by have:=hp.length_eq;simpa using this
  unfold bK at ho;rw[b9] at ho;have Hp:=Qa hp;have Ho:=Qa ho;have Hb:=Qa hb;have Hr:=Qa hr;have Hsol:=Qa b9;have q0:=hb.size;obtain⟨_,cq,eq6,s4,q4,k2⟩:=ah ho;injection eq6 with e1 e2 e3
  subst e1 e3;have l4:=Qa k2;clear hp ho hb hr b9 k2 e2
  by_cases hlt:n6<names.length
  ·obtain⟨gn,on,rfl,hcn⟩:=HA.out (by omega);obtain⟨si,j1⟩:∃s,names[n6]?=some s:=⟨_,Zc hlt⟩;have b4:=Qa j1;have g0:=Qa hcn;have r7:(n6:Int)<names.length:=by omega
   clear j1 hcn;obtain⟨wo,rfl⟩:∃wo:World,wo=wr:=⟨_,rfl⟩;go_upto_block 2 with fail
   go_cut [8] (fun s8 wx=>Id wo names so n6 s8 wx)
   case first=>
    go_wp2_with fail
    go_loopw [8] (fun s8 wx=>Iz wo names so n6 s8 wx) (fun v _=>n6 - (intOf v).toNat)
    case atStart=>exact⟨0,Zj _,rfl,Zd _ _,fun j x h=>by omega⟩
    case round=>
     obtain⟨a,ha,rfl,hb,d2⟩:=hrel;have Hbi:=Qa hb;have Hlo:=Qa d2;rw[Hsol.out] at ha;clear hb d2
     by_cases hat:a<n6
     ·obtain⟨z,hz⟩:∃z,so[a]?=some z:=⟨_,Zc (by rw[Hsol.out];exact hat)⟩;obtain⟨g6,rfl⟩:=l4.out (by omega);have i4:z<n6:=by have:=Hp.out.mem_iff.1 (Zk hz);simpa using this
      obtain⟨sz,a0⟩:∃s,names[z]?=some s:=⟨_,Zc (by omega)⟩;have c1:=aA (Ho.out.below' Hbi.out) rfl a (by omega);rw[List.getElem?_map,hz] at c1;simp only[Option.map_some,cI] at c1;have c8:=Hb.out.trans (Hbi.out.mono Hb.out.size);have c2:=Zf c8 (g0.out z (dR sz) (by rw[List.getElem?_map,a0];rfl));have c3:=Zf c8 (g0.out n6 (dR si) (by rw[List.getElem?_map,b4.out];rfl));unfold dR at c2 c3;have g1:=H8.out sz (Zk a0);have f3:=H8.out si (Zk b4.out);have q7:=g1.2;have e5:=f3.2;have Hz:=Qa hz;have a6:=Qa a0;clear hz a0;have h4:(a:Int)<n6:=by omega
      have n4:z<names.length:=by omega
      go_wp2_with fail;refine aR (fun w'=>w'.cell? ⟨g6,a,none⟩=some (.int .i64 z)/\w'.cell? ⟨gn,on+z,none⟩=some (.string sz)/\w'.cell? ⟨gn,on+n6,none⟩=some (.string si)) (⟨c1,c2,c3⟩) fun a1=>?_
      refine tH 0 a1 ?_;refine tH 1 a1 ?_;refine tH 2 a1 ?_;refine tH 3 a1 ?_;refine tH 4 a1 ?_;refine tH 5 a1 ?_
      try simp only[Act.put,jP,jQ,jR]
      refine tH 6 a1 ?_;refine tH 7 a1 ?_;refine tH 8 a1 ?_;refine tH 9 a1 ?_;refine tH 10 a1 ?_;refine tH 11 a1 ?_
      try simp only[Act.put,jP,jQ,jR]
      refine tH 12 a1 ?_;refine tH 13 a1 ?_;refine tH 14 a1 ?_;refine tH 15 a1 ?_
      try simp only[Act.put,jP,jQ,jR]
      refine rH 16 fun K hK=>?_
      go_simp;refine(rM _ sz si (Zb q7 (by decide)) (Zb e5 (by decide))).mono ?_;rintro e w9 ⟨rfl,b0⟩;have b1:=Qa (Hbi.out.trans (((Zd wr.heap.size wr).drew.trans b0).mono Hbi.out.size));go_simp;refine hK.out _ _ (⟨Zf b0 a1.1,Zf b0 a1.2.1,Zf b0 a1.2.2⟩) (fun a1=>?_);clear hK K
      try simp only[Act.put,jP,jQ,jR]
      refine tH 17 a1 ?_
      try simp only[Act.put,jP,jQ,jR]
      refine wpAnyH_done (by kernel_rfl) (NoPanic.normal ?_) _
      by_cases hah:kk (po sz) (po si)=true
      ·rw[hah];have Hlt:=Qa ((wL g1 f3).1 hah);go_wp2_with fail;refine⟨⟨a+1,by rw[Hsol.out];omega,by go_num,b1.out,fun j x hj hx=>?_⟩,by simp[intOf];omega⟩
       by_cases hja:j=a
       ·subst hja;have:=hx.symm.trans Hz.out;injection this with this
        subst this;rw[fQ a6.out,fQ b4.out];exact Hlt.out
       ·exact Hlo.out j x (by omega) hx
      ·have h2:kk (po sz) (po si)=false:=by simpa using hah
       have n5:=Qa (fun h=>hah ((wL g1 f3).2 h));rw[h2];clear hah;go_wp2_with fail;go_meet
       case rel=>
        refine⟨a,by rw[Hsol.out];omega,rfl,b1.out,Hlo.out,fun x hx=>?_⟩;have:=hx.symm.trans Hz.out;injection this with this
        subst this;rw[fQ a6.out,fQ b4.out];exact n5.out
     ·have h4:¬ (a:Int)<n6:=by omega
      go_wp2_with fail;go_quiet (fail);go_wp2_with fail;go_meet
      case rel=>exact⟨a,by rw[Hsol.out];omega,rfl,az Hbi.out _,Hlo.out,fun x hx=>by have:=(List.getElem?_eq_some_iff.1 hx).1;rw[Hsol.out] at this;omega⟩
   case rest=>
    obtain⟨a,ha,rfl,k5,d2,k9⟩:=hcut;rw[Hsol.out] at ha;have Hbi:=Qa k5;have Hlo:=Qa d2;have n1:=Qa k9;clear k5 d2 k9;have c8:=Hb.out.trans (Hbi.out.mono Hb.out.size);have c3:=Zf c8 (g0.out n6 (dR si) (by rw[List.getElem?_map,b4.out];rfl));unfold dR at c3;have g8:=Qa c8;clear c8;go_upto_if 56 with fail
    obtain⟨w3,rfl⟩:∃w3:World,w3=wc:=⟨_,rfl⟩;go_cut [56] (fun s56 wx=>CV w3 names so n6 a s56 wx)
    case first=>
     by_cases hat:a<n6
     ·obtain⟨z,hz⟩:∃z,so[a]?=some z:=⟨_,Zc (by rw[Hsol.out];exact hat)⟩;obtain⟨g6,rfl⟩:=l4.out (by omega);have i4:z<n6:=by have:=Hp.out.mem_iff.1 (Zk hz);simpa using this
      obtain⟨sz,a0⟩:∃s,names[z]?=some s:=⟨_,Zc (by omega)⟩;have c1:=aA (Ho.out.below' Hbi.out) rfl a (by omega);rw[List.getElem?_map,hz] at c1;simp only[Option.map_some,cI] at c1;have c2:=Zf g8.out (g0.out z (dR sz) (by rw[List.getElem?_map,a0];rfl));unfold dR at c2;have g1:=H8.out sz (Zk a0);have f3:=H8.out si (Zk b4.out);have Hz:=Qa hz;have a6:=Qa a0;clear hz a0;have h4:(a:Int)<n6:=by omega
      have n4:z<names.length:=by omega
      by_cases he:sz=si
      ·have q8:(sz.toList==si.toList)=true:=by rw[gj];simp[he]
       have a7:¬names.Nodup:=fun hd=>by
        have h1:=a6.out;rw[he] at h1;have:=Bq hd h1 b4.out;omega
       have Hdup:=Qa a7;clear he a7;go_wp2_with fail;go_quiet (fail);go_wp2_with fail;go_meet
       case rel=>exact⟨_,rfl,az (Zd _ _) _,(fun _=>Hdup.out),(fun h=>by cases h)⟩
      ·have q8:(sz.toList==si.toList)=false:=by rw[gj];simp[he]
       have Hlt:Hid (∀x,so[a]?=some x->fN (nD names n6) (nD names x)):=Qa (fun x hx=>by
        have h0:=n1.out x hx;have:=hx.symm.trans Hz.out;injection this with this
        subst this;rw[fQ a6.out,fQ b4.out] at h0 ⊢;exact jI h0 he)
       clear he;go_wp2_with fail;go_quiet (fail);go_wp2_with fail;go_meet
       case rel=>exact⟨_,rfl,az (Zd _ _) _,(fun h=>by cases h),(fun _=>Hlt.out)⟩
     ·have h4:¬ (a:Int)<n6:=by omega
      go_wp2_with fail;go_quiet (fail);go_wp2_with fail;go_meet
      case rel=>exact⟨_,rfl,az (Zd _ _) _,(fun h=>by cases h),fun _ x hx=>by have:=(List.getElem?_eq_some_iff.1 hx).1;rw[Hsol.out] at this;omega⟩
    case rest=>
     obtain⟨b,rfl,h3,a7,d5⟩:=hcut;have Hdup:=Qa a7;have Hlt:=Qa d5;have l5:=Qa h3;have a2:=Qa (g8.out.trans (h3.mono g8.out.size));clear d5 h3 a7
     cases b
     case true=>
      have Hd:=Qa (Hdup.out rfl);clear Hdup;go_wp2_with fail;go_ret2;exact⟨none,0,0,false,rfl,a2.out,⟨(fun h=>by cases h),(fun h=>absurd h Hd.out)⟩,(fun _=>rfl),(fun h=>by cases h)⟩
     have Hlt:=Qa (Hlt.out rfl);obtain⟨w4,m1⟩:∃x,wc=x:=⟨_,rfl⟩;rw[m1] at l5 a2 ⊢;clear m1 Hdup c3;have f0:=Qa ((Ho.out.below' Hbi.out).below' l5.out);have b2:(so.drop a).length=n6 - a:=by rw[List.length_drop,Hsol.out]
     have h7:∀A' c',(a=n6\/∃g6,A6=some ⟨g6,0,none⟩/\A'=some ⟨g6,a,none⟩/\c'=q6 - a)->n6 - a<=c'\/a=n6->Sl w4 (.slice A' (n6 - a) c') ((so.drop a).map cI):=by
      rintro A' c' h hc;refine⟨by rw[List.length_map,b2];unfold maxLen at q4;omega,A',c',by rw[List.length_map,b2],by rw[List.length_map,b2];omega,fun h0=>?_⟩;rw[List.length_map,b2] at h0;rcases h with h|⟨g6,rfl,rfl,rfl⟩
      ·omega
      ·refine⟨g6,a,rfl,fun j u hu=>?_⟩;have hj:=(List.getElem?_eq_some_iff.1 hu).1;rw[List.length_map,b2] at hj;rw[aA f0.out rfl (a+j) (by omega),<-hu,List.getElem?_map,List.getElem?_map,List.getElem?_drop]
     obtain⟨s2,e5⟩:∃l,so.drop a=l:=⟨_,rfl⟩;rw[e5] at h7 b2;have l3:=Qa e5;have k6:=Qa h7;have j5:=Qa b2;clear h7 b2 e5;have a3:=bU f0.out;have e0:=Qa a3;clear a3;go_upto_region 10 with fail
     go_cut [9] (fun s9 wx=> ∃A n q,s9 =.slice A n q/\bK wx w4.heap.size (.slice A n q) s2/\Below w4.heap.size w4 wx)
     case first=>
      have m0:s2.length<=1000000:=by rw[j5.out];omega
      by_cases c7:q6=a
      ·have m3:∀x y:Value,(if q6=a then x else y)=x:=fun x y=>if_pos c7
       have r4:∀x y:Option Addr,(if q6=a then x else y)=x:=fun x y=>if_pos c7
       have s0:=Qa c7;clear c7;go_wp2_with fail;have c7:=s0.out;refine(uW (k6.out _ _ (.inl (by omega)) (.inr (by omega))) m0).mono ?_;clear c7;rintro e w5 ⟨v,rfl,e7,b6⟩;obtain⟨A5,q5,rfl,-⟩:=ah b6;have Hb5:=Qa e7;have Hr5:=Qa b6;clear e7 b6;go_wp2_with fail;go_meet
       case rel=>exact⟨_,_,_,rfl,Hr5.out,Hb5.out⟩
      ·rcases e0.out with ⟨e,h0,-⟩|⟨g6,c6,e,s3,s1,-⟩
       ·injection e with _ _ e;omega
       injection e with e1 _ e3
       subst e1 e3;go_wp2_with fail;refine(uW (k6.out _ _ (.inr ⟨g6,rfl,rfl,rfl⟩) (by omega)) m0).mono ?_;rintro e w5 ⟨v,rfl,e7,b6⟩;obtain⟨A5,q5,rfl,-⟩:=ah b6;have Hb5:=Qa e7;have Hr5:=Qa b6;clear e7 b6;go_wp2_with fail;go_meet
       case rel=>exact⟨_,_,_,rfl,Hr5.out,Hb5.out⟩
     case rest=>
      obtain⟨A9,n9,q9,rfl,g5,b0⟩:=hcut;have f4:=Qa g5;have b1:=Qa b0;have m9:n9=s2.length:=nr g5;subst m9;obtain⟨w5,k4⟩:∃x,wc=x:=⟨_,rfl⟩;rw[k4] at f4 b1 ⊢;clear g5 b0 k4;have q3:=Qa (Cv (ha:=ha) (f0.out.below' b1.out));have f5:w.heap.size<=w5.heap.size:=Zb a2.out.size b1.out.size;have n2:=Qa (show(((so.take a).map cI)).length=a by rw[List.length_map,List.length_take,Hsol.out];omega);have f9:=Qa (q3.out.below' (ac w5 (.cells #[.int .i64 (n6:Int)] 3)));have b2:=j5.out;have t3:a+1+s2.length<=1000001:=by omega
      clear b2;rcases bU f4.out with ⟨e,h0,-⟩|⟨g9,c9,e,t2,s5,-⟩
      ·injection e with e1 e2 e3
       have d4:s2 = []:=by have:=bU f4.out;exact List.eq_nil_of_length_eq_zero h0
       subst e1 e3;have e4:=Qa d4;clear d4;go_wp2_with (first
        |(at_builtin;refine ju eU f9.out (ar w5 [cI n6] 3) (by simp;omega) ?_ (h1:=(by simp[cI,Value.oneCell']));intro v' w6 p1 p2 p3;have b5:=Qa p1;have d9:=Qa p2;clear p1 p2 p3)
        |(at_builtin;refine km eU rfl (.tmp 66) (.tmp 67) rfl w.heap.size v' (a+1) ((so.take a).map cI ++ [cI n6]) (by simp[Act.eval]) b5.out 0 (by simp[Act.eval]) ?_))
       have f6:Below w.heap.size w w6:=aL (((a2.out.trans (b1.out.mono a2.out.size)).alloc f5 _)) f9.out (Zb f5 (by simp)) d9.out;have hN:=hnum n6;exact⟨hN▸ny hlt Hp.out ha l3.out (N:=a+1) (by rw[e4.out];simp) (by rw[e4.out];simpa using b5.out) f6 Hr.out Hlo.out Hlt.out,by simp[intOf];omega⟩
      ·injection e with e1 e2 e3
       subst e1 e3;go_wp2_with (first
        |(at_builtin;refine ju eU f9.out (ar w5 [cI n6] 3) (by simp;omega) ?_ (h1:=(by simp[cI,Value.oneCell']));intro v' w6 p1 p2 p3;have b5:=Qa p1;have d9:=Qa p2;have j0:=World.ownsRow.kept (f4.out.below' (ac w5 (.cells #[.int .i64 (n6:Int)] 3))) p2 (.inr (fun e=>by have:=(World.ownsRow.lt f0.out g9 (by rw[<-pd A6 a n6 q6];exact e.symm)).2;omega));have n0:=Qa (pN j0);clear j0;clear p1 p2 p3)
        |(at_builtin;refine ju eU b5.out n0.out (by have:=d9.out.size;simp at this;omega) ?_ (hl:=(by simp)) (h1:=(by intro u hu;obtain⟨x,_,rfl⟩:=List.mem_map.1 hu;rfl));intro v7 w7 p1 p2 p3;have f2:=Qa p1;have e8:=Qa p2;clear p1 p2 p3))
       have f6:Below w.heap.size w w6:=aL (((a2.out.trans (b1.out.mono a2.out.size)).alloc f5 _)) f9.out (Zb f5 (by simp)) d9.out;have q1:Below w.heap.size w w7:=aL f6 b5.out f6.size e8.out;have hN:=hnum n6;exact⟨hN▸ny hlt Hp.out ha l3.out (N:=a+1+s2.length) rfl f2.out q1 Hr.out Hlo.out Hlt.out,by simp[intOf];omega⟩
  ·obtain rfl:n6=names.length:=by omega
   obtain⟨wo,rfl⟩:∃wo:World,wo=wr:=⟨_,rfl⟩;have HFill:=Qa (yL (vs:=vs) Ho.out Hb.out (names:=names));go_wp2_with fail
   go_loopw [10,11,12] (fun s10 s11 s12 wx=>IP w names vs so A6 q6 s10 s11 s12 wx) (fun _ _ v _=>names.length - (intOf v).toNat)
   case atStart=>exact HFill.out
   case round=>
    obtain⟨k,A10,q10,A11,q11,hk,rfl,rfl,rfl,c5,c0,h6,hb⟩:=hrel;have l1:=Qa c5;have k3:=Qa c0;have H6:=Qa h6;have d6:=Qa hb;have a9:=hb.size;clear c5 c0 h6 hb
    by_cases hlt:k<names.length
    ·obtain⟨z,hz⟩:∃z,so[k]?=some z:=⟨_,Zc (by rw[Hsol.out];exact hlt)⟩;have i4:z<names.length:=by have:=Hp.out.mem_iff.1 (Zk hz);simpa using this
     obtain⟨gn,on,rfl,hcn⟩:=HA.out (by omega);obtain⟨g2,o2,rfl,h9⟩:=m2.out (by have:=a4.out;omega);obtain⟨sz,a0⟩:∃s,names[z]?=some s:=⟨_,Zc i4⟩;obtain⟨vz,c4⟩:∃s,vs[z]?=some s:=⟨_,Zc (by have:=a4.out;have:=i9.out;omega)⟩;obtain⟨tz,l2⟩:∃s,ts[z]?=some s:=⟨_,Zc (by have:=a4.out;omega)⟩;have j2:=j3.out.2 z vz _ c4 (by rw[List.getElem?_map,l2];rfl);obtain⟨Az,cz,rfl,-⟩:=j2.form;rw[JV.flat_len] at c4;obtain⟨g6,rfl⟩:=ia H6.out (by omega);have c1:=aA H6.out rfl k (by omega);rw[List.getElem?_map,hz] at c1;simp only[Option.map_some,cI] at c1;have c2:=Zf d6.out (hcn z (dR sz) (by rw[List.getElem?_map,a0];rfl));have c3:=Zf d6.out (h9 z _ c4);unfold dR at c2;have hki:(k:Int)<names.length:=by omega
     have t0:z<ts.length:=by have:=a4.out;omega
     have Hz:=Qa hz;have o1:=Qa a0;have r3:=Qa c4;have n8:=Qa (h9 z _ c4);have m5:=Qa (fun (f:Nat->ByteArray)=>show(so.take (k+1)).map f= (so.take k).map f ++ [f z] by rw[cf hz,List.map_append];rfl);have r0:=Qa (fun (f:Nat->Value)=>show(so.take (k+1)).map f= (so.take k).map f ++ [f z] by rw[cf hz,List.map_append];rfl);have g3:=Qa (l1.out.below' (ac wr (.cells #[.string sz] 9)));clear hz a0 c4 l2 j2 hcn h9;go_wp2_with (first
      |(at_builtin;refine ju zy g3.out (ar wr [dR sz] 9) (by simp;omega) ?_ (h1:=(by simp[dR,Value.oneCell']));intro v1 w1 p1 p2 p3;have b5:=Qa p1;have d9:=Qa p2;have f1:=ac wr (.cells #[.string sz] 9);have f8:Below w.heap.size w w1:=aL (d6.out.alloc a9 _) g3.out (Zb a9 f1.size) p2;have i8:=o0 g3.out p2;have k1:=Qa (ao (H6.out.below' f1) i8 (by decide));have h5:=Qa (ao (k3.out.below' f1) i8 (by decide));have p0:=Qa f8;have d1:=(pN k1.out) k _ (by rw[List.getElem?_map,Hz.out];rfl);unfold cI at d1;have d3:=Zf f8 n8.out;have e6:=f8.size;have b8:=Qa (h5.out.below' (ac w1 (.cells #[.slice Az tz.size cz] 28)));clear p1 p2 p3 f1 f8 i8)
      |(at_builtin;refine ju nj b8.out (ar w1 [.slice Az tz.size cz] 28) (by simp;omega) ?_;intro v2 w2 p1 p2 p3;have f2:=Qa p1;have e8:=Qa p2;clear p1 p2 p3))
     obtain⟨B1,r1,rfl,-⟩:=ah b5.out;obtain⟨B2,r2,rfl,-⟩:=ah f2.out;have b7:=ac w1 (.cells #[.slice Az tz.size cz] 28);have hkt:=pL b8.out e8.out;refine⟨⟨k+1,B1,r1,B2,r2,by omega,by go_num,rfl,rfl,?_,?_,ao (k1.out.below' b7) hkt (by decide),aL (p0.out.alloc e6 _) b8.out (Zb e6 b7.size) e8.out⟩,by simp[intOf];omega⟩
     ·have h1:=ao (b5.out.below' b7) hkt (by decide);rw[m5.out,List.map_append,List.map_singleton,fQ o1.out];exact h1
     ·have h1:=f2.out;rw[r0.out,uC r3.out];exact h1
    ·obtain rfl:k=names.length:=by omega
     have c5:=l1.out;have c0:=k3.out;rw[List.take_of_length_le (by rw[Hsol.out];exact Za _)] at c5 c0;have b3:=Qa (EV a4.out i9.out Hp.out Hr.out j3.out);have l0:=Qa (lz.sizes a4.out b3.out.1);have m4:=Qa (wm Hp.out Hr.out);have p4:=Hsol.out;have i3:=Qa (Sl.of_own c5);have g4:=Qa (Sl.of_own c0);clear c5 c0;go_wp2_with fail;refine(pp (names:=so.map (nD names)) (ts:=(so.map (fm names ts)).map Prod.snd) i3.out ⟨so.map (IM vs),g4.out,b3.out.2.2.mono fun _ _ h=>h.below d6.out (Za _)⟩ (by rw[List.length_map,p4];exact hnl) (by rw[l0.out.1];exact hsz) (fun t ht x hx=>r6.out t (l0.out.2.1.mem_iff.1 ht) x hx)).mono ?_;rintro e w9 ⟨v,rfl,b0,g7⟩;have a3:∃A n q,v =.slice A n q:=by obtain⟨A,q,e,_⟩:=g7.form;exact⟨_,_,_,e⟩
     obtain⟨A9,n9,q9,rfl⟩:=a3;have b1:=Qa (d6.out.trans (b0.mono a9));have r5:=Qa ((g7.low a9).imp (Q:=(w.heap.size<= ·)) (fun g h _=>Zb a9 h));clear b0 g7;go_wp2_with fail;go_ret2;exact⟨A9,n9,q9,true,rfl,b1.out,⟨fun _=>m4.out,fun _=>rfl⟩,(fun h=>by cases h),fun _=>⟨_,b3.out.1,by rw[b3.out.2.1];exact r5.out⟩⟩
def o4 (xs:List UInt8)(rb:Nat)(w:World)(at_ lo:Nat)(n:Nat)(names:List ByteArray)(own:Option Nat)(vs:List Value)(ts:List JV)(wx:World):Prop:=
 n<=lo/\names.Nodup/\(∀s∈names,i6 s)/\(∀u∈ts,cK gO u)/\bB (fun v ns=>bu (fun g=>own≠some g) wx rb v ns) vs (ts.map (JV.flat 0))/\JV.sizes ts+at_<=lo
def CD (xs:List UInt8)(rb:Nat)(w:World)(at_:Nat)(s5 s6:Value)(wx:World):Prop:= ∃ (A:Option Addr) (n q:Nat) (A6:Option Addr) (q6:Nat) (names:List ByteArray) (vs:List Value) (ts:List JV) (at' k':Nat) (c:Int),s5 =.slice A n q/\s6 =.slice A6 n q6/\
 wx.ownsRow w.heap.size 9 1 (.slice A n q) n (names.map dR)/\wx.ownsRow w.heap.size 28 1 (.slice A6 n q6) n vs/\Rd xs rb wx at' k' c/\Rk rb w wx/\at_<=at'/\(c=0->k'+1<=at'/\o4 xs rb w at_ at' n names (Value.slice A n q).ownBlock vs ts wx)
def OS (xs:List UInt8)(rb:Nat)(w:World)(at_ tb lo:Nat)(p:Prop)(at' k':Nat)(c:Int)(s5 s6:Value)(t:Tk)(wx:World):Prop:= ∃ (A:Option Addr) (n q:Nat) (A6:Option Addr) (q6:Nat) (names:List ByteArray) (vs:List Value) (ts:List JV),s5 =.slice A n q/\s6 =.slice A6 n q6/\
 wx.ownsRow w.heap.size 9 1 (.slice A n q) n (names.map dR)/\wx.ownsRow w.heap.size 28 1 (.slice A6 n q6) n vs/\lo<=at'/\Rd xs rb wx at' k' c/\Rk rb w wx/\at_<=lo/\
 wx.heap[tb]?=some (.cells (eJ t) 205 (0,0))/\w.heap.size<=tb/\rb<w.heap.size/\(p->o4 xs rb w at_ lo n names (Value.slice A n q).ownBlock vs ts wx)
theorem o4.keeps {names:List ByteArray}{own:Option Nat}(h:o4 xs rb w at_ lo n names own vs ts wx)(hk:aJ T wx w2)(h1:¬T 9)(h2:¬T 3)(h3:¬T 78):o4 xs rb w at_ lo n names own vs ts w2:=by
 obtain⟨g1,g2,g3,g4,g5,g6⟩:=h;exact⟨g1,g2,g3,g4,g5.mono fun _ _ h=>h.keeps hk h1 h2 h3,g6⟩
section
variable {xs:List UInt8}{rb:Nat}{w wx:World}{at_ tb lo at' k':Nat}{p:Prop}{c:Int}{s5 s6:Value}{t:Tk}
theorem OS.rd (h:OS xs rb w at_ tb lo p at' k' c s5 s6 t wx):Rd xs rb wx at' k' c:=by obtain⟨_,_,_,_,_,_,_,_,_,_,_,_,_,h,_⟩:=h;exact h
theorem OS.tok (h:OS xs rb w at_ tb lo p at' k' c s5 s6 t wx):wx.heap[tb]?=some (.cells (eJ t) 205 (0,0)):=by obtain⟨_,_,_,_,_,_,_,_,_,_,_,_,_,_,_,_,h,_⟩:=h;exact h
theorem OS.shape (h:OS xs rb w at_ tb lo p at' k' c s5 s6 t wx):∃A n q A6 q6,s5 =.slice A n q/\s6 =.slice A6 n q6:=by obtain⟨A,n,q,A6,q6,_,_,_,h,h',_⟩:=h;exact⟨A,n,q,A6,q6,h,h'⟩
theorem OS.rk (h:OS xs rb w at_ tb lo p at' k' c s5 s6 t wx):Rk rb w wx/\at_<=lo/\lo<=at'/\w.heap.size<=tb/\rb<w.heap.size:=by
 obtain⟨_,_,_,_,_,_,_,_,_,_,_,_,h1,_,h2,h3,_,h4,h5,_⟩:=h;exact⟨h2,h3,h1,h4,h5⟩
theorem OS.step {kH:Nat}{c2:Int}(h:OS xs rb w at_ tb lo p at' k' c s5 s6 t wx)(hR:Rd xs rb w2 kH k2 c2)(hk:Rk rb wx w2)(hat:at'<=kH):OS xs rb w at_ tb lo p kH k2 c2 s5 s6 t w2:=by
 obtain⟨A,n,q,A6,q6,names,vs,ts,rfl,rfl,h1,h2,h3,h4,h5,h6,h7,h8,h9,a0⟩:=h;exact⟨A,n,q,A6,q6,names,vs,ts,rfl,rfl,ao h1 hk.2 ij,ao h2 hk.2 (by unfold TR;decide),by omega,hR,h5.trans hk,h6,hk.row h7 cM,h8,h9,fun e=>(a0 e).keeps hk.2 ij lk lg⟩
theorem OS.put (h:OS xs rb w at_ tb lo p at' k' c s5 s6 t wx)(t2:Tk):OS xs rb w at_ tb lo p at' k' c s5 s6 t2 (wx.setRow tb (eJ t2)):=by
 obtain⟨A,n,q,A6,q6,names,vs,ts,rfl,rfl,h1,h2,h3,h4,h5,h6,h7,h8,h9,a1⟩:=h;have a0:aJ (fun e=>e=205) wx (wx.setRow tb (eJ t2)):=aJ.of_grown (ai ..) (fun g e cs T z hh=>by cases e;rw[h7] at hh;injection hh with hh;injection hh with _ hh;exact hh.symm);exact⟨A,n,q,A6,q6,names,vs,ts,rfl,rfl,ao h1 a0 (by decide),ao h2 a0 (by decide),h3,h4.other h7 cM (by omega) _,h5.fresh h8 (Zi h9) _,h6,setRow_heap _ _ _ _ _ _ h7,h8,h9,fun e=>(a1 e).keeps a0 (by decide) (by decide) (by decide)⟩
theorem OS.below (h:OS xs rb w at_ tb lo p at' k' c s5 s6 t wx)(hb:Below wx.heap.size wx w2):OS xs rb w at_ tb lo p at' k' c s5 s6 t w2:=
 h.step (h.rd.below hb) (Rk.of_below hb (Zi h.rd.lt)) (Za _)
theorem OS.open (h:OS xs rb w at_ tb lo p at' k' c (.slice A n q) (.slice A6 n q6) t wx):∃names vs ts,wx.ownsRow w.heap.size 9 1 (.slice A n q) n (names.map dR)/\wx.ownsRow w.heap.size 28 1 (.slice A6 n q6) n vs/\(p->o4 xs rb w at_ lo n names (Value.slice A n q).ownBlock vs ts wx):=by
 obtain⟨_,_,_,_,_,names,vs,ts,e,e',h1,h2,_,_,_,_,_,_,_,a0⟩:=h;injection e with e1 e2 e3
 injection e' with e4 _ e6
 subst e1 e2 e3 e4 e6;exact⟨names,vs,ts,h1,h2,a0⟩
theorem OS.obj (h:OS xs rb w at_ tb lo p at' k' c s5 s6 t wx)(he:c=0->p/\k'+1<=at'):CD xs rb w at_ s5 s6 wx:=by
 obtain⟨A,n,q,A6,q6,names,vs,ts,rfl,rfl,h1,h2,h3,h4,h5,h6,h7,h8,h9,a0⟩:=h;exact⟨A,n,q,A6,q6,names,vs,ts,at',k',c,rfl,rfl,h1,h2,h4,h5,by omega,fun e=>⟨(he e).2,by obtain⟨g1,g2,g3,g4,g5,g6⟩:=a0 (he e).1;exact⟨by omega,g2,g3,g4,g5,by omega⟩⟩⟩
theorem Rd.grownRow {k:Nat}{T:TypeId}(h:Rd xs rb W at' k' c)(hv:W.ownsRow B T k v n vs)(hT:T≠264)(hB:rb<B)(a9:B<=W.heap.size)(hg:W.grownBy W' v.ownBlock):Rd xs rb W' at' k' c:=by
 have hlt:=h.lt;have hb:Below B W W':=aL (Zd B W) hv a9 hg;obtain⟨a1,a2,a3,a4,a5,a6,a7,L,m,hh,l,us,w0,h1,h2,h3,h4,h5,h6⟩:=h;refine⟨a1,a2,a3,a4,a5,a6,a7,L,m,hh,l,us,w0,(hb.block rb hB).trans h1,h2,h3,h4.trans (hb.mono (Zi hB)),World.ownsRow.kept h5 hg ?_,h6⟩
 cases hb:(Value.slice a3 _ a4).ownBlock with
 |none=>exact .inl rfl
 |some x=>
  obtain⟨_,cur,hx⟩:=al h5 hb;refine .inr (fun e=>?_);obtain⟨_,cur2,a0⟩:=al hv e.symm;rw[hx] at a0;injection a0 with a0;injection a0 with _ a0;exact hT a0.symm
theorem OS.push {W1 W3:World}{Av:Option Addr}{vn vq:Nat}{names:List ByteArray}{s:ByteArray}{v5 v6:Value}
  (h1:wx.ownsRow w.heap.size 9 1 (.slice A n q) n (names.map dR)) (h2:wx.ownsRow w.heap.size 28 1 (.slice A6 n q6) n vs) (h5:Rk rb w wx) (h7:wx.heap[tb]?=some (.cells (eJ t) 205 (0,0))) (h8:w.heap.size<=tb) (h9:rb<w.heap.size)
  (c1:o4 xs rb w at_ lo n names (Value.slice A n q).ownBlock vs ts wx) (hat:at_<=at4) (hR:Rd xs rb W1 at4 k4 c4) (hk:Rk rb wx W1)
  (hj:c4=0->n+1<=at4/\i6 s/\s∉names/\∃j:JV,cK gO j/\bu (wx.heap.size<= ·) W1 rb (.slice Av vn vq) (j.flat 0)/\j.size+lo<=at4)
  (b7:W2.ownsRow w.heap.size 9 1 v5 (n+1) (names.map dR ++ [dR s])) (b3:v5.ownBlock= (Value.slice A n q).ownBlock\/v5.ownBlock=some (W1.alloc (.cells #[.string s] 9)).heap.size) (a5:(W1.alloc (.cells #[.string s] 9)).grownBy W2 (Value.slice A n q).ownBlock)
  (b5:W3.ownsRow w.heap.size 28 1 v6 (n+1) (vs ++ [.slice Av vn vq])) (b0:(W2.alloc (.cells #[.slice Av vn vq] 28)).grownBy W3 (Value.slice A6 n q6).ownBlock) :
  OS xs rb w at_ tb at4 (c4=0) at4 k4 c4 v5 v6 t W3:=by
 obtain⟨A',q',rfl,-⟩:=ah b7;obtain⟨A6',q6',rfl,-⟩:=ah b5;have a2:=ac W1 (.cells #[.string s] 9);have a0:=ac W2 (.cells #[.slice Av vn vq] 28);have hrb:=Zi h9;have a3:Rk rb wx (W1.alloc (.cells #[.string s] 9)):=hk.trans (Rk.of_below a2 (Zi hR.lt));have a4:=ao h1 a3.2 ij;have c2:=Zb h5.2.1 a3.2.1;have b4:=o0 a4 a5;have b6:=(hR.below a2).grownRow a4 (by decide) h9 c2 a5;have b1:=b6.below a0;have b8:=((h5.trans a3).grownFresh a5 (fun g e=>(al a4 e).1) hrb).trans (Rk.of_below a0 (Zi b6.lt));have a6:=(ao (ao h2 a3.2 (by unfold TR;decide)) b4 (by decide)).below' a0;have a9:=pL a6 b0;have c0:=b8.2.1;have b9:(W2.alloc (.cells #[.slice Av vn vq] 28)).heap[tb]?=some (.cells (eJ t) 205 (0,0)):=by
  have a1:=b4.2 _ _ _ _ (a3.row h7 cM) (by decide);exact(a0.block _ (ae a1)).trans a1
 refine⟨A',n+1,q',A6',q6',names ++ [s],vs ++ [.slice Av vn vq],(@dite _ (c4=0) (Classical.propDecidable _) (fun h=>ts ++ [Classical.choose (hj h).2.2.2]) (fun _=> [])),rfl,rfl,by rw[List.map_append];exact ao (b7.below' a0) a9 (by decide),b5,Za _,b1.grownRow a6 (by decide) h9 c0 b0,b8.grownFresh b0 (fun g e=>(al a6 e).1) hrb,hat,a9.2 _ _ _ _ b9 (by decide),h8,h9,fun e=>?_⟩;simp only[dif_pos e];obtain⟨g1,g2,g3,g4,g5,g6⟩:=c1;obtain⟨r1,r2,r3,r4⟩:=hj e;obtain⟨q1,q2,q3⟩:=Classical.choose_spec (hj e).2.2.2;generalize Classical.choose (hj e).2.2.2=j at *;refine⟨r1,?_,?_,?_,?_,?_⟩
 ·rw[List.nodup_append];exact⟨g2,by simp,fun a ha b hb e=>by simp at hb;subst hb;subst e;exact r3 ha⟩
 ·intro x hx;rcases List.mem_append.1 hx with hx|hx;exact g3 x hx;simp at hx;subst hx;exact r2
 ·intro u hu;rcases List.mem_append.1 hu with hu|hu;exact g4 u hu;simp at hu;subst hu;exact q1
 ·rw[List.map_append];have b2:∀g,(Value.slice A n q).ownBlock=some g->g<wx.heap.size:=fun g e=>(World.ownsRow.lt h1 g e).2
  have a7:∀g:Nat,(Value.slice A n q).ownBlock≠some g->g< (W1.alloc (.cells #[.string s] 9)).heap.size->(Value.slice A' (n+1) q').ownBlock≠some g:=fun g h1 h2 e=>by
   rcases b3 with h|h
   ·rw[h] at e;exact h1 e
   ·rw[h] at e;injection e with e;omega
  have step:∀ (v:Value) (ns:List Nd),bu (fun g=>(Value.slice A n q).ownBlock≠some g) (W1.alloc (.cells #[.string s] 9)) rb v ns->bu (fun g=>(Value.slice A' (n+1) q').ownBlock≠some g) W3 rb v ns:=fun v ns h=>by
   have h':=(h.imp (Q:=fun g=>(Value.slice A n q).ownBlock≠some g/\(Value.slice A' (n+1) q').ownBlock≠some g) (fun g a b=>⟨a,a7 g a b⟩)).grownStr a5 (cm a4) (fun g a=>a.1);exact((h'.below a0 (Za _)).keeps a9 (by decide) (by decide) (by decide)).imp (fun g a _=>a.2)
  refine(g5.mono fun v ns h=>step v ns (h.keeps a3.2 ij lk lg)).snoc (step _ _ ((q2.below a2 (Za _)).imp (fun g a _ e=>?_)));have:=b2 g e;omega
 ·rw[cY];simp only[JV.sizes];omega
end
theorem Rd.mu_lt' {iO kH:Nat}{c1 c2:Int}(h1:Rd xs rb w1 iO k1 c1)(h2:Rd xs rb w2 kH k2 c2)(h:iO+1<=kH):mL xs.length rb w2<mL xs.length rb w1:=by
 rw[h1.mu,h2.mu];have:=h2.atle;split <;> split <;> omega
def JS (xs:List UInt8)(rb:Nat)(w:World)(at_ tb:Nat)(s5 s6:Value)(wx:World):Prop:= ∃lo at' k' c t,OS xs rb w at_ tb lo True at' k' c s5 s6 t wx/\(c=0->(t.kind≠5->k'+1<=at')/\jO t)
theorem wj (hl:xs.length<=6000)
  (hV:∀ (iO:Nat) (t:Tk) (w:World) (k:Nat) (c:Int) (d:Int),(c=0->t.kind≠5->at_+1<=iO)->Rd xs rb w iO k c->(c=0->(t.kind≠5->k+1<=iO)/\jO t)->
   Calls Tryz.prog 117 #[.pointer (some ⟨rb,0,none⟩),kE t,.int .i64 d] w (jU gO xs rb w iO (t.kind≠5)))
  {w:World} {k:Nat} (d:Int) (h:Rd xs rb w at_ k 0) (hk:k+1<=at_):Calls Tryz.prog 151 #[.pointer (some ⟨rb,0,none⟩),.int .i64 d] w (jU gO xs rb w at_ True):=by
 have HR:=Qa h;have Hk:=Qa hk;have HV:=Qa hV;clear hV hk h;have b7:=ac w (.cells #[.int .i64 1,.int .i64 d,.int .i64 6,.string es,.slice none 0 0] 264);have b3:=HR.out.lt;obtain⟨a1,a2,a3,a4,a5,a6,a7,L,m,hh,l,us,w0,h1,h2,h3,h4,h5,h6,h7⟩:=HR.out;have c12:=aa h1 (j:=12) (u:=.slice a3 _ a4) rfl;have g1:=(b7.block _ b3).trans h1;have H:=Qa (And.intro g1 (And.intro h2 (And.intro h3 (And.intro (h4.trans (b7.mono (Zi b3))) (And.intro (aq h5 b7 (Za _)) h6)))));have f9:=Qa (ar w [.int .i64 1,.int .i64 d,.int .i64 6,.string es,.slice none 0 0] 264);have c4:=Qa b7;have f6:=Qa (show rb+1<=w.heap.size from b3);have b9:=Qa h6;clear h1 h2 h3 h4 h5 h6 h7 b7 g1 b3;go_enter Tryz.func151,Tryz.ntmps151;go_wp2_with (at_builtin;refine ju jL H.out.2.2.2.2.1 f9.out (Zb f6.out c4.out.size) ?_ (hlen:=(by have:=Hk.out;have:=b9.out;unfold maxLen;omega)) (hby:=(by have:=Hk.out;have:=b9.out;omega));intro v' w1 p1 p2 p3;have d1:=Qa p1;have d0:=Qa p2;(obtain⟨A',c',he,-⟩:=ah p1);subst he;have a0:=jF H.out.1 H.out.2.1 H.out.2.2.1 H.out.2.2.2.1 H.out.2.2.2.2.1 H.out.2.2.2.2.2 Hk.out d1.out d0.out;have r12:=aa a0.1 (j:=12) (u:=.slice a3 k a4) rfl;have f12:=am a0.1 12;have b8:=Qa a0;clear p1 p2 p3 a0);refine(df b8.out.2.1 (by omega)).mono ?_;rintro e w2 ⟨t,kH,c,rfl,l3,m3,e4,k0⟩;have h0:=Qa l3;have i5:=Qa (((Rk.of_below c4.out (Zi HR.out.lt)).trans b8.out.2.2).trans m3);have Ht2:=Qa k0;have i8:=Qa e4;obtain⟨tk,ta,tm,ts,⟨dn,dd,dx⟩⟩:=t;rw[show kE ⟨tk,ta,tm,ts,⟨dn,dd,dx⟩⟩ =.agg #[.int .i64 tk,.int .i64 ta,.int .u8 tm,.string ts,.bool dn,.string dd,.int .i64 dx] from rfl];have c3:=ac w2 (.cells #[.int .i64 tk,.int .i64 ta,.int .u8 tm,.string ts,.bool dn,.string dd,.int .i64 dx] 205);have f3:=Qa (Ze w2 (.cells #[.int .i64 tk,.int .i64 ta,.int .u8 tm,.string ts,.bool dn,.string dd,.int .i64 dx] 205));have f2:=Qa (h0.out.below c3);have k1:=Qa (i5.out.trans (Rk.of_below c3 (Zi h0.out.lt)));have n4:=Qa (show w.heap.size<=w2.heap.size from i5.out.2.1);have n6:=Qa HR.out.lt;clear l3 m3 k0 e4 c3 h0 i5 c12 r12 f12;have mk:∀ (X:Int) (W:World),Calls Tryz.prog 148 #[.agg #[.int .i64 tk,.int .i64 ta,.int .u8 tm,.string ts,.bool dn,.string dd,.int .i64 dx],.int .u8 X] W fun e w'=>iM ⟨tk,ta,tm,ts,⟨dn,dd,dx⟩⟩ X W e w':=fun X W=>fF ⟨tk,ta,tm,ts,⟨dn,dd,dx⟩⟩ X W
 have Mk:=Qa mk;clear mk;go_upto_region 5 with fail
 generalize (w2.alloc (.cells #[.int .i64 tk,.int .i64 ta,.int .u8 tm,.string ts,.bool dn,.string dd,.int .i64 dx] 205))=w3 at *;generalize w2.heap.size=tb at *;go_cut [35] (fun s35 wx=>(∃b:Bool,s35 =.bool b/\(b=false->c=0->tk=1)/\(b=true->c=0))/\Below w3.heap.size w3 wx)
 case first=>
  have cc:=f2.out.code;obtain⟨t0,t1,t2,t3,t4,t5,t6⟩:=a8 (t:=⟨tk,ta,tm,ts,⟨dn,dd,dx⟩⟩) f3.out
  by_cases hc:c=0
  ·have Hc:=Qa hc;subst hc;go_wp2_with fail;refine(Mk.out 125 w3).mono ?_;rintro e w4 ⟨b,rfl,hm,m0⟩;have Hm:=Qa hm;have Hb4:=Qa m0;clear hm m0 t0 t1 t2 t3 t4 t5 t6 cc
   cases b
   ·go_wp2_with fail;go_meet
    case rel=>exact⟨⟨_,rfl,(fun h=>absurd h (by decide)),(fun _=>by trivial)⟩,Hb4.out⟩
   ·have Hm1:=Qa (Hm.out rfl);go_wp2_with fail;go_meet
    case rel=>exact⟨⟨_,rfl,(fun _ _=>Hm1.out),(fun h=>absurd h (by decide))⟩,Hb4.out⟩
  ·have m1:(c==0)=false:=by simpa using hc
   have Hc:=Qa hc;clear hc;go_wp2_with fail;go_meet
   case rel=>exact⟨⟨_,rfl,(fun _ h=>absurd h Hc.out),(fun h=>absurd h (by decide))⟩,Zd _ _⟩
 case rest=>
  obtain⟨⟨b,rfl,l0,m5⟩,f4⟩:=hcut;have Hq1:=Qa l0;have c7:=Qa m5;have g8:=Qa (f2.out.below f4);have h8:=Qa (k1.out.trans (Rk.of_below f4 (Zi f2.out.lt)));have c2:=Qa ((f4.block _ (ae f3.out)).trans f3.out);clear l0 m5 f4;obtain⟨w4,n0⟩:∃x,wc=x:=⟨_,rfl⟩;rw[n0] at g8 h8 c2 ⊢;clear n0;have HO4:Hid (OS xs rb w at_ tb at_ True kH (k+1) c (.slice none 0 0) (.slice none 0 0) ⟨tk,ta,tm,ts,⟨dn,dd,dx⟩⟩ w4):=Qa ⟨none,0,0,none,0, [], [], [],rfl,rfl,⟨rfl,.inl ⟨rfl,rfl⟩⟩,⟨rfl,.inl ⟨rfl,rfl⟩⟩,i8.out,g8.out,h8.out,Za _,c2.out,n4.out,n6.out,fun _=>⟨Zj _,by simp,by simp,by simp,bB.nil _,by simp[JV.sizes]⟩⟩;go_upto_if 35 with fail
  go_cut [5,6] (fun s5 s6 wx=>CD xs rb w at_ s5 s6 wx)
  case first=>
   cases b
   ·go_wp2_with fail;go_meet
    case rel=>exact HO4.out.obj (fun h=>⟨by trivial,by have e1:tk=1:=(by first|exact Hq1.out rfl h|exact Hq1.out h|exact Hq1.out trivial h);have:=(Ht2.out h).1 (by show ¬tk=5;omega);have:=Hk.out;omega⟩)
   ·have p0:c=0:=(by first|exact c7.out rfl|exact c7.out trivial|exact c7.out);subst p0;have Hst:Hid (JS xs rb w at_ tb (.slice none 0 0) (.slice none 0 0) w4):=Qa ⟨_,_,_,_,_,HO4.out,fun _=>⟨fun h=>by have:=(Ht2.out (by trivial)).1 h;have:=Hk.out;omega,(Ht2.out (by trivial)).2⟩⟩;clear Mk Hq1 c7 HO4 g8 h8 c2 f2 k1 f3 Ht2;go_wp2_with fail
    go_loopw [5,6,8,9,36] (fun s5 s6 _ _ _ wx=>JS xs rb w at_ tb s5 s6 wx) (fun _ _ _ _ _ wx=>mL xs.length rb wx)
    case atStart=>exact Hst.out
    case round=>
     obtain⟨lo,at',k',c',tt,d5,e7⟩:=hrel;obtain⟨A,n,q,A6,q6,rfl,rfl⟩:=d5.shape;obtain⟨Eh,ta0,tm0,ts0,⟨dn0,dd0,dx0⟩⟩:=tt;have e6:=Qa d5;have o2:=Qa e7;have b6:=Qa d5.rk;obtain⟨names,vs,ts,h1,h2,h9⟩:=d5.open;have hn:n=names.length:=by have:=h1.1;simpa using this.symm
     subst hn;have H1:=Qa h1;have H2:=Qa h2;have H9:=Qa (h9 trivial);have cc:=e6.out.rd.code;obtain⟨t0,t1,t2,t3,t4,t5,t6⟩:=a8 e6.out.tok;clear d5 e7 h1 h2 h9;have hm:=wv gO hl HV.out ⟨Eh,ta0,tm0,ts0,⟨dn0,dd0,dx0⟩⟩ d e6.out.rd H1.out (Zb b6.out.2.1 b6.out.2.2.1) o2.out;rw[show kE ⟨Eh,ta0,tm0,ts0,⟨dn0,dd0,dx0⟩⟩ =.agg #[.int .i64 Eh,.int .i64 ta0,.int .u8 tm0,.string ts0,.bool dn0,.string dd0,.int .i64 dx0] from rfl] at hm;have Hm:=Qa hm;clear hm;go_wp2_with fail;refine Hm.out.mono ?_;rintro e w5 ⟨s,Av,vn,vq,at5,k5,c5,rfl,i4,g9,d3,l5⟩;have k4:=Qa i4;have f8:=Qa g9;have d4:=Qa d3;have i2:=Qa l5;have b9:=Qa i4.atle;have hS:=(ao H1.out g9.2 ij).below' (ac w5 (.cells #[.string s] 9));have HS:=Qa hS;have q3:names.length<=100000:=by have:=H9.out.1;have:=b6.out.2.2.1;have:=d4.out;have:=b9.out;omega
     clear i4 g9 d3 l5 hS Hm cc t0 t1 t2 t3 t4 t5 t6;go_wp2_with (first
      |(at_builtin;refine ju zy HS.out (ar w5 [.string s] 9) (by have:=b6.out.1.2.1;have:=f8.out.2.1;simp;omega) ?_ (h1:=(by simp[dR,Value.oneCell']));intro v5 w6 p1 p2 p3;have d1:=Qa p1;have d0:=Qa p2;have l2:=Qa p3;have n3:=p2.size;have HT:=Qa ((ao (ao H2.out (f8.out.trans (Rk.of_below (ac w5 (.cells #[.string s] 9)) (Zi k4.out.lt))).2 (by unfold TR;decide)) (o0 HS.out p2) (by decide)).below' (ac w6 (.cells #[.slice Av vn vq] 28)));clear p1 p2 p3)
      |(at_builtin;refine ju nj HT.out (ar w6 [.slice Av vn vq] 28) (by have:=b6.out.1.2.1;have:=f8.out.2.1;simp at n3 ⊢;omega) ?_;intro v6 w7 p1 p2 p3;have Hq1:=Qa p1;have c7:=Qa p2;have c1:=OS.push (s:=s) (t:=⟨Eh,ta0,tm0,ts0,⟨dn0,dd0,dx0⟩⟩) H1.out H2.out b6.out.1 e6.out.tok b6.out.2.2.2.1 b6.out.2.2.2.2 H9.out (by have:=b6.out.2.1;have:=b6.out.2.2.1;have:=d4.out;omega) k4.out f8.out (fun h=>by obtain⟨j1,j2,j3,j,g1,g2,g3⟩:=i2.out h;exact⟨by have:=H9.out.1;have:=b6.out.2.2.1;omega,j2,j3,j,g1,g2,by have:=b6.out.2.2.1;omega⟩) d1.out l2.out d0.out p1 p2;have HLS7:=Qa c1;have cc:=c1.rd.code;clear p1 p2 p3 c1))
     ·have f5:¬c5=0:=by have h:(c5 !=0)=true:=(by assumption);simpa using h
      have Hc5:=Qa f5;clear f5;go_meet
      case rel=>exact HLS7.out.obj (fun h=>absurd h Hc5.out)
     have f5:c5=0:=by have h:(c5 !=0)=false:=(by assumption);simpa using h
     subst f5;have Hj:=Qa (i2.out (by trivial)).1;have Hkle:=Qa HLS7.out.rd.kle;clear i2 d1 d0 l2 Hq1 c7 HT HS H1 H2 H9 cc;refine(df HLS7.out.rd (by omega)).mono ?_;rintro e wn8 ⟨tn,at8,c8,rfl,f0,e0,b4,e2⟩;have b0:=Qa (HLS7.out.step f0 e0 b4);have o1:=Qa b4;obtain⟨tk8,ta8,tm8,ts8,⟨dn8,dd8,dx8⟩⟩:=tn;have Ht8:=Qa e2;clear f0 e0 b4 e2;rw[show kE ⟨tk8,ta8,tm8,ts8,⟨dn8,dd8,dx8⟩⟩ =.agg #[.int .i64 tk8,.int .i64 ta8,.int .u8 tm8,.string ts8,.bool dn8,.string dd8,.int .i64 dx8] from rfl];have HLS8:=Qa (b0.out.put ⟨tk8,ta8,tm8,ts8,⟨dn8,dd8,dx8⟩⟩)
     by_cases hc8:c8=0
     case neg=>
      have m1:(c8 !=0)=true:=by simpa using hc8
      have Hc:=Qa hc8;clear hc8;go_wp2_with (refine wpList_store_rowTo rfl 205 (.tmp 7) (.tmp 59) rfl rfl tb (eJ ⟨tk8,ta8,tm8,ts8,⟨dn8,dd8,dx8⟩⟩) (by simp[Act.eval]) (by simp[Act.eval,eJ]) 205 _ b0.out.tok de rfl (fv ..) ?_;generalize wn8.setRow tb (eJ ⟨tk8,ta8,tm8,ts8,⟨dn8,dd8,dx8⟩⟩)=w8 at *;have cc:=HLS8.out.rd.code;obtain⟨t0,t1,t2,t3,t4,t5,t6⟩:=a8 HLS8.out.tok;clear b0);go_meet
      case rel=>exact HLS8.out.obj (fun h=>absurd h Hc.out)
     subst hc8;go_wp2_with (refine wpList_store_rowTo rfl 205 (.tmp 7) (.tmp 59) rfl rfl tb (eJ ⟨tk8,ta8,tm8,ts8,⟨dn8,dd8,dx8⟩⟩) (by simp[Act.eval]) (by simp[Act.eval,eJ]) 205 _ b0.out.tok de rfl (fv ..) ?_;generalize wn8.setRow tb (eJ ⟨tk8,ta8,tm8,ts8,⟨dn8,dd8,dx8⟩⟩)=w8 at *;have cc:=HLS8.out.rd.code;obtain⟨t0,t1,t2,t3,t4,t5,t6⟩:=a8 HLS8.out.tok;clear b0);have mk8:∀ (X:Int) (W:World),Calls Tryz.prog 148 #[.agg #[.int .i64 tk8,.int .i64 ta8,.int .u8 tm8,.string ts8,.bool dn8,.string dd8,.int .i64 dx8],.int .u8 X] W fun e w'=>iM ⟨tk8,ta8,tm8,ts8,⟨dn8,dd8,dx8⟩⟩ X W e w':=fun X W=>fF ⟨tk8,ta8,tm8,ts8,⟨dn8,dd8,dx8⟩⟩ X W
     have Mk8:=Qa mk8;clear mk8;refine(Mk8.out 125 w8).mono ?_;rintro e w9 ⟨b1,rfl,m4,j0⟩;have HLS9:=Qa (HLS8.out.below j0);have Hm1:=Qa m4;clear cc t0 t1 t2 t3 t4 t5 t6 m4 j0;have cc:=HLS9.out.rd.code;obtain⟨t0,t1,t2,t3,t4,t5,t6⟩:=a8 HLS9.out.tok
     cases b1
     case true=>
      have Hm:=Qa (Hm1.out rfl);go_wp2_with fail;go_meet
      case rel=>exact HLS9.out.obj (fun _=>⟨by trivial,by have h1:=(Ht8.out (by trivial)).1;have h2:=Hm.out;have h3:=Hkle.out;have h4:at5+1<=at8:=h1 (by show ¬tk8=5;have:tk8=1:=h2;omega);omega⟩)
     go_wp2_with fail;refine(Mk8.out 44 w9).mono ?_;rintro e w10 ⟨b2,rfl,k6,e5⟩;have a9:=Qa (HLS9.out.below e5);have k3:=Qa k6;clear cc t0 t1 t2 t3 t4 t5 t6 k6 e5;have cc:=a9.out.rd.code;obtain⟨t0,t1,t2,t3,t4,t5,t6⟩:=a8 a9.out.tok
     cases b2
     case false=>
      have wr:Calls Tryz.prog 118 #[.pointer (some ⟨rb,0,none⟩),.agg #[.int .i64 tk8,.int .i64 ta8,.int .u8 tm8,.string ts8,.bool dn8,.string dd8,.int .i64 dx8]] w10 (kt xs rb w10 at8 k5):=fJ a9.out.rd ⟨tk8,ta8,tm8,ts8,⟨dn8,dd8,dx8⟩⟩;have Wr:=Qa wr;clear wr;go_wp2_with fail;refine Wr.out.mono ?_;rintro e w11 ⟨⟨v,rfl⟩,c11,d6,e3,f1⟩;have HLS11:=Qa (a9.out.step e3 f1 (Za _));have Hc11:=Qa d6;clear e3 f1 d6;go_wp2_with fail;go_meet
      case rel=>exact HLS11.out.obj (fun h=>absurd h Hc11.out)
     have e8:=Qa (show at5+1<=at8 from(Ht8.out (by trivial)).1 (by show ¬tk8=5;have:tk8=1:=k3.out rfl;omega));clear Mk8 Hm1 k3 Ht8;go_wp2_with fail;refine(df a9.out.rd (by omega)).mono ?_;rintro e wn12 ⟨tn,at12,c12,rfl,f0,e0,b4,e2⟩;have b0:=Qa (a9.out.step f0 e0 b4);have c0:=Qa b4;obtain⟨tk12,ta12,tm12,ts12,⟨dn12,dd12,dx12⟩⟩:=tn;have i9:=Qa e2;clear f0 e0 b4 e2;rw[show kE ⟨tk12,ta12,tm12,ts12,⟨dn12,dd12,dx12⟩⟩ =.agg #[.int .i64 tk12,.int .i64 ta12,.int .u8 tm12,.string ts12,.bool dn12,.string dd12,.int .i64 dx12] from rfl];have b5:=Qa (b0.out.put ⟨tk12,ta12,tm12,ts12,⟨dn12,dd12,dx12⟩⟩);clear cc t0 t1 t2 t3 t4 t5 t6;go_wp2_with (refine wpList_store_rowTo rfl 205 (.tmp 7) (.tmp 77) rfl rfl tb (eJ ⟨tk12,ta12,tm12,ts12,⟨dn12,dd12,dx12⟩⟩) (by simp[Act.eval]) (by simp[Act.eval,eJ]) 205 _ b0.out.tok de rfl (fv ..) ?_;generalize wn12.setRow tb (eJ ⟨tk12,ta12,tm12,ts12,⟨dn12,dd12,dx12⟩⟩)=w12 at *;have cc:=b5.out.rd.code;obtain⟨t0,t1,t2,t3,t4,t5,t6⟩:=a8 b5.out.tok;clear b0);exact⟨⟨_,_,_,_,_,b5.out,fun h=>⟨fun _=>by have:=Hkle.out;have:=e8.out;have:=c0.out;omega,(i9.out h).2⟩⟩,by show mL xs.length rb _<mL xs.length rb _;exact e6.out.rd.mu_lt' b5.out.rd (by have:=Hj.out;have:=e8.out;have:=c0.out;omega)⟩
  case rest=>
   obtain⟨A,n,q,A6,q6,names,vs,ts,at9,k9,c9,rfl,rfl,h1,h2,h3,h4,h5,h6⟩:=hcut;have hn:n=names.length:=by have:=h1.1;simpa using this.symm
   subst hn;have HT:=Qa h6;have c6:=Qa h3;have i0:=Qa h4;have H1:=Qa h1;have H2:=Qa h2;have d2:=Qa h5;have cc:=h3.code;clear h1 h2 h3 h4 h5 h6
   by_cases hc:c9=0
   case neg=>
    have m1:(c9 !=0)=true:=by simpa using hc
    have Hc:=Qa hc;clear hc;go_wp2_with fail;go_ret;exact⟨none,0,0,at9,k9,c9,rfl,c6.out,i0.out,d2.out,fun h=>absurd h Hc.out⟩
   subst hc;obtain⟨g0,g1,g2,g3,g4,g5,g6⟩:=HT.out rfl;have G0:=Qa g0;have G2:=Qa g2;have G3:=Qa g3;have G4:=Qa g4;have G5:=Qa g5;have G6:=Qa g6;have hnl:names.length<=100000:=by have:=c6.out.atle;omega
   have m2:names.length=ts.length:=by have h:=g5.1;rw[List.length_map] at h;have:=H2.out.1;omega
   have k2:=Qa m2;clear g0 g1 g2 g3 g4 g5 g6 HT m2 H f9 c4 f6 b9 b8;have b7:=ac wc (.cells #[.int .i64 4,.int .i64 d,.int .i64 6,.string es,.slice none 0 0] 264);have b3:=c6.out.lt;obtain⟨a1,a2,a3,a4,a5,a6,a7,L,m,hh,l,us,w0,h1,h2,h3,h4,h5,h6,h7⟩:=c6.out;have c12:=aa h1 (j:=12) (u:=.slice a3 _ a4) rfl;have g1:=(b7.block _ b3).trans h1;have H:=Qa (And.intro g1 (And.intro h2 (And.intro h3 (And.intro (h4.trans (b7.mono (Zi b3))) (And.intro (aq h5 b7 (Za _)) h6)))));have f9:=Qa (ar wc [.int .i64 4,.int .i64 d,.int .i64 6,.string es,.slice none 0 0] 264);have c4:=Qa b7;have f6:=Qa (show rb+1<=wc.heap.size from b3);have b9:=Qa h6;clear h1 h2 h3 h4 h5 h6 h7 b7 g1 b3;go_wp2_with (at_builtin;refine ju jL H.out.2.2.2.2.1 f9.out (Zb f6.out c4.out.size) ?_ (hlen:=(by have:=G0.out;have:=b9.out;unfold maxLen;omega)) (hby:=(by have:=G0.out;have:=b9.out;omega));intro v' w7 p1 p2 p3;have d1:=Qa p1;have d0:=Qa p2;(obtain⟨A',c',he,-⟩:=ah p1);subst he;have a0:=jF H.out.1 H.out.2.1 H.out.2.2.1 H.out.2.2.2.1 H.out.2.2.2.2.1 H.out.2.2.2.2.2 G0.out d1.out d0.out;have r12:=aa a0.1 (j:=12) (u:=.slice a3 k9 a4) rfl;have f12:=am a0.1 12;have b8:=Qa a0;clear p1 p2 p3 a0);have d9:=(Rk.of_below c4.out (Zi c6.out.lt)).trans b8.out.2.2;have j5:=Qa d9;have n2:=Qa (ao H1.out d9.2 ij);have q0:=Qa (ao H2.out d9.2 (by unfold TR;decide));have n9:=Qa (G5.out.mono fun _ _ h=>h.flat.keeps d9.2 ij lk lg);have hsz:JV.sizes ts<=100000:=by have:=G6.out;have:=c6.out.atle;omega
   clear d9 c12 r12 f12;have l4:=tC (Sl.of_own n2.out) (ts:=ts) ⟨vs,Sl.of_own q0.out,n9.out.mono fun _ _ h=>h.low (Zj _)⟩ k2.out G3.out (by omega) (by omega) (fun t ht x hx=>by
    obtain⟨q1,q2⟩:=oN (G4.out t ht) 0 x hx;have:=mt ht;exact⟨by omega,fun z hz=>by have:=q2 z hz;omega⟩)
   refine l4.mono ?_;rintro e w8 ⟨A8,n8,q8,ok,rfl,g7,e7,-,l1⟩;obtain rfl:ok=true:=e7.2 G2.out;obtain⟨ps,hs,m9⟩:=l1 rfl;have Hs:=Qa hs;have p4:=Qa (b8.out.2.1.below g7);have n1:=Qa ((i0.out.trans j5.out).trans (Rk.of_below g7 (Zi b8.out.2.1.lt)));have n5:=Qa ((m9.low (Zi b8.out.2.1.lt)).imp (Q:=(w.heap.size<= ·)) (fun g h _=>Zb (i0.out.trans j5.out).2.1 h));have i3:=Qa (lz.sizes k2.out hs);clear g7 m9 l4 e7 l1 hs;go_wp2_with fail;go_ret;exact⟨A8,n8,q8,at9,k9+1,0,rfl,p4.out,n1.out,d2.out,fun _=>⟨trivial,.mk 6 false es kr (ps.map Prod.fst) (ps.map Prod.snd),.obj _ _ (by simp) (fun s hs=>G3.out s (i3.out.2.2.mem_iff.1 hs)) Hs.out.2 (fun u hu=>G4.out u (i3.out.2.1.mem_iff.1 hu)),n5.out,by have:=G6.out;have:=i3.out.1;simp only[JV.size];omega⟩⟩
