import Derived.Test.YtgkkffeagolnpaaGreatDoorGZ16aa
import Derived.Test.YtgkkffeagolnpaaGreatDoorProg
import Derived.WalkLawsBesides
import Derived.BigQuiet
import Derived.Deep.AppendLies
import Derived.Laws.CopyOwn
import Derived.Great.BuildSlice
import Derived.RangeFuncFrom
set_option linter.unusedVariables false
set_option linter.unusedSimpArgs false
namespace Go.Proofs.YtgkkffeagolnpaaGreatDoor
open Go.RowKit
variable {args cells cur old:Array Value}{fill:Int}{xs ys:List UInt8}{B base base' c cap g n o:Nat}{ty:TypeId}{u v:Value}{W w w':World}
def di (x:Int):Bool:=bits .and .u8 x 192==128
def cS (x y:Int):Bool:=
 if x=224 then decide (160<=y)&&decide (y<=191) else if x=237 then decide (128<=y)&&decide (y<=159)
 else if x=240 then decide (144<=y)&&decide (y<=191) else if x=244 then decide (128<=y)&&decide (y<=143) else di y
def dU:List Int:= [1,1,1,1,1,1,1,1,0,0,0,0,2,2,3,4]
def aY (x:Int):Int:=if x=192\/x=193\/244<x then -1 else dU.getD (x/16).toNat 0
theorem bZ {P:Program}{f:FuncId}{a:Nat}
  (h:Calls P f args (w.drewN (a+n)) fun e w'=>e =.returned v/\w.drewN (a+n)=w') :
  Calls P f args (w.drewN (a+n)) fun e w''=>e =.returned v/\∃m,w''=w.drewN (a+m):=
 h.mono fun _ _ ⟨he,hm⟩=>⟨he,n,hm.symm⟩
theorem rV {a b:Bool}(h:a=b):Ending.returned (.bool a) =.returned (.bool b):=by rw[h]
theorem Fu {k:IntKind}{a b:Int}(h:a=b):Ending.returned (.int k a) =.returned (.int k b):=by rw[h]
theorem nK (n:Nat): -1<=dU.getD n 0/\dU.getD n 0<=4:=by
 by_cases hn:n<16
 ·have:∀n<16,-1<=dU.getD n 0/\dU.getD n 0<=4:=by decide
  exact this n hn
 ·rw[List.getD_eq_getElem?_getD,List.getElem?_eq_none (show dU.length<=n by simp[dU];omega)];decide
def am (xs:List UInt8)(i:Nat):Nat:=(xs.getD i 0).toNat
theorem a6 (xs:List UInt8)(i:Nat):am xs i<256:=UInt8.toNat_lt _
def b7 (n x:Nat):Nat:=if n=1 then x else if n=2 then x % 32 else if n=3 then x % 16 else x % 8
def dx (n:Nat)(xs:List UInt8):Nat->Nat
 |0=>0
 |1=>b7 n (am xs 0)
 |k+2=>dx n xs (k+1)*64+am xs (k+1) % 64
def nB (xs:List UInt8)(k:Nat):Bool:=(k !=1||cS (am xs 0) (am xs 1))&&di (am xs k)
def aB (xs:List UInt8)(n:Nat):Nat->Nat->Nat×Nat×Nat
 |0,_=>(dx n xs n,n,0)
 |f+1,k=>if k=xs.length then(0,0,1) else if nB xs k then aB xs n f (k+1) else(0,0,2)
def bg (xs:List UInt8):Nat×Nat×Nat:=
 if xs = [] then(0,0,1) else if aY (am xs 0)<1 then(0,0,2) else
  aB xs (aY (am xs 0)).toNat ((aY (am xs 0)).toNat - 1) 1
theorem jH {x0 y:Nat}(h0:am xs 0=x0)(h1:am xs 1=y):nB xs 1= (cS x0 y&&di y):=by simp[nB,h0,h1]
theorem ix {k y:Nat}(hk:k≠1)(h1:am xs k=y):nB xs k=di y:=by simp[nB,h1,hk]
theorem ak {k:Nat}{o:Obj}(h:w.heap[k]?=some o):k<w.heap.size:=(Array.getElem?_eq_some_iff.1 h).1
theorem ee (x:Nat)(hx:x<256):aY x<1\/aY x=1\/aY x=2\/aY x=3\/aY x=4:=by
 have h:∀x:Nat,x<256->aY (x:Int)<1\/aY (x:Int)=1\/aY (x:Int)=2\/aY (x:Int)=3\/aY (x:Int)=4:=by decide +kernel
 exact h x hx
theorem DF (h:0<xs.length)(hc:aY (am xs 0)<1):bg xs= (0,0,2):=by
 unfold bg;rw[if_neg (by intro e;subst e;simp at h),if_pos hc]
theorem lc (h:0<xs.length)(hn:1<=n)(hc:aY (am xs 0)=n):bg xs=aB xs n (n - 1) 1:=by
 unfold bg;rw[if_neg (by intro e;subst e;simp at h),if_neg (by omega),hc];rfl
def G7 (xs:List UInt8):Nat->Nat
 |0=>0
 |k+1=>if decide (xs.length<k+1+4)&&di (am xs (k+1)) then G7 xs k else k+1
def JX (xs:List UInt8):Nat×Nat×Nat:=
 if xs = [] then(0,0,1) else
  let f:=G7 xs (xs.length - 1)
  let r:=bg (xs.drop f)
  if r.2.2=0/\f+r.2.1=xs.length then(r.1,r.2.1,0) else(0,0,2)
theorem gM (xs:List UInt8)(k i:Nat):am (xs.drop k) i=am xs (k+i):=by simp[am,List.getElem?_drop]
theorem m6 (xs:List UInt8)(n:Nat)(hn:n<=4):∀f k,(aB xs n f k).2.1<=4/\(aB xs n f k).2.2<=2
 |0,_=>⟨hn,by simp[aB]⟩
 |f+1,k=>by
  unfold aB;split
  ·simp
  ·split
   ·exact m6 xs n hn f (k+1)
   ·simp
theorem pd (xs:List UInt8):(bg xs).2.1<=4/\(bg xs).2.2<=2:=by
 unfold bg;split
 ·simp
 ·split
  ·simp
  ·exact m6 xs _ (by have:=ee _ (a6 xs 0);omega) _ _
theorem mo (xs:List UInt8)(n:Nat):∀f k,k+f=n->k<=xs.length->(aB xs n f k).2.1<=xs.length
 |0,k,h,hk=>by show n<=_;omega
 |f+1,k,h,hk=>by
  unfold aB;split
  ·exact Zj _
  ·split
   ·exact mo xs n f (k+1) (by omega) (by omega)
   ·exact Zj _
theorem vV (xs:List UInt8):(bg xs).2.1<=xs.length:=by
 unfold bg;split
 ·exact Zj _
 ·rename_i h0
  split
  ·exact Zj _
  ·have:0<xs.length:=List.length_pos_iff.2 h0;exact mo xs _ _ 1 (by omega) (by omega)
def cA (c:Int):Bool:=decide (0<=c)&&decide (c<=1114111)&& !(decide (55296<=c)&&decide (c<=57343))
def a7 (c:Int):List UInt8:=
 if cA c then
  if c<128 then [UInt8.ofNat c.toNat]
  else if c<2048 then [UInt8.ofNat (192+c/64).toNat,UInt8.ofNat (128+c % 64).toNat]
  else if c<65536 then [UInt8.ofNat (224+c/4096).toNat,UInt8.ofNat (128+c/64 % 64).toNat,UInt8.ofNat (128+c % 64).toNat]
  else [UInt8.ofNat (240+c/262144).toNat,UInt8.ofNat (128+c/4096 % 64).toNat,UInt8.ofNat (128+c/64 % 64).toNat,UInt8.ofNat (128+c % 64).toNat]
 else []
theorem lS (c:Int):(a7 c).length<=4:=by
 unfold a7
 repeat' split
 all_goals simp
theorem aG (n:Int)(h:0<=n/\n<256):(((UInt8.ofNat n.toNat).toNat:Nat):Int)=n:=by
 rw[UInt8.toNat_ofNat'];omega
def eE (xs:List UInt8):Nat->Nat->List (Nat×Nat)
 |0,_=> []
 |f+1,k=>if(bg (xs.drop k)).2.2=0 then(k,(bg (xs.drop k)).1)::eE xs f (k+ (bg (xs.drop k)).2.1) else []
def dz (xs:List UInt8):List (Nat×Nat):=eE xs (xs.length+1) 0
theorem kS (xs:List UInt8)(n:Nat):∀f k,(aB xs n f k).2.2=0->(aB xs n f k).2.1=n
 |0,_,_=>rfl
 |f+1,k,h=>by
  unfold aB at h ⊢;split
  ·rename_i hk;rw[if_pos hk] at h;simp at h
  ·rename_i hk;rw[if_neg hk] at h;split
   ·rename_i ho;rw[if_pos ho] at h;exact kS xs n f (k+1) h
   ·rename_i ho;rw[if_neg ho] at h;simp at h
theorem ei (h:(bg xs).2.2=0):1<=(bg xs).2.1:=by
 unfold bg at h ⊢;split
 ·rename_i h0;rw[if_pos h0] at h;simp at h
 ·rename_i h0;rw[if_neg h0] at h;split
  ·rename_i hc;rw[if_pos hc] at h;simp at h
  ·rename_i hc;rw[if_neg hc] at h;rw[kS _ _ _ _ h];omega
theorem dR (xs:List UInt8)(k:Nat)(hk:k<=xs.length):k+ (bg (xs.drop k)).2.1<=xs.length:=by
 have:=vV (xs.drop k);rw[List.length_drop] at this;omega
theorem vn {f k:Nat}(h:(bg (xs.drop k)).2.2≠0):eE xs f k = []:=by
 cases f with
 |zero=>rfl
 |succ f=>unfold eE;rw[if_neg h]
theorem uu {f k:Nat}(h:(bg (xs.drop k)).2.2=0):eE xs (f+1) k= (k,(bg (xs.drop k)).1)::eE xs f (k+ (bg (xs.drop k)).2.1):=by
 rw[eE,if_pos h]
theorem lZ (x:Nat)(h:x<256):di x=decide (128<=x/\x<192):=by
 have h':∀x:Nat,x<256->di (x:Int)=decide (128<=x/\x<192):=by decide +kernel
 exact h' x h
theorem wg (x y:Nat)(hy:y<256):cS x y= (if x=224 then decide (160<=y/\y<=191) else if x=237 then decide (128<=y/\y<=159) else if x=240 then decide (144<=y/\y<=191) else if x=244 then decide (128<=y/\y<=143) else decide (128<=y/\y<192)):=by
 unfold cS;rw[lZ y hy,Bool.eq_iff_iff]
 by_cases h1:x=224
 ·subst h1;simp <;> omega
 by_cases h2:x=237
 ·subst h2;simp <;> omega
 by_cases h3:x=240
 ·subst h3;simp <;> omega
 by_cases h4:x=244
 ·subst h4;simp <;> omega
 have e1:¬ (x:Int)=224:=by omega
 have e2:¬ (x:Int)=237:=by omega
 have e3:¬ (x:Int)=240:=by omega
 have e4:¬ (x:Int)=244:=by omega
 simp only[e1,e2,e3,e4,h1,h2,h3,h4,if_false]
theorem bN (x:Nat)(h:x<256):(aY x=1↔x<128)/\(aY x=2↔194<=x/\x<=223)/\(aY x=3↔224<=x/\x<=239)/\(aY x=4↔240<=x/\x<=244):=by
 have h':∀x:Nat,x<256->((aY (x:Int)=1↔x<128)/\(aY (x:Int)=2↔194<=x/\x<=223)/\(aY (x:Int)=3↔224<=x/\x<=239)/\(aY (x:Int)=4↔240<=x/\x<=244)):=by decide +kernel
 exact h' x h
theorem b8 (a:UInt8):a.toNat<256:=a.toNat_lt
theorem xt (a:UInt8)(t:List UInt8):am (a::t) 0=a.toNat:=rfl
theorem DN (a b:UInt8)(t:List UInt8):am (a::b::t) 1=b.toNat:=rfl
theorem GG (a b c:UInt8)(t:List UInt8):am (a::b::c::t) 2=c.toNat:=rfl
theorem Jm (a b c d:UInt8)(t:List UInt8):am (a::b::c::d::t) 3=d.toNat:=rfl
def gG (a b:Nat):Prop:=128<=b/\b<192/\(a=224->160<=b)/\(a=237->b<=159)/\(a=240->144<=b)/\(a=244->b<=143)
instance (a b:Nat):Decidable (gG a b):=by unfold gG;exact inferInstance
def tl (b:Nat):Prop:=128<=b/\b<192
instance (b:Nat):Decidable (tl b):=by unfold tl;exact inferInstance
theorem Gn (x y:Nat)(hy:y<256):(cS x y&&di y)=decide (gG x y):=by
 rw[wg x y hy,lZ y hy,Bool.eq_iff_iff];unfold gG
 by_cases h1:x=224
 ·subst h1;simp;omega
 by_cases h2:x=237
 ·subst h2;simp;omega
 by_cases h3:x=240
 ·subst h3;simp;omega
 by_cases h4:x=244
 ·subst h4;simp;omega
 simp only[h1,h2,h3,h4,if_false,Bool.and_eq_true,decide_eq_true_eq,false_implies,and_true];omega
theorem FU (y:Nat)(hy:y<256):di y=decide (tl y):=lZ y hy
theorem oK (a b:UInt8)(t:List UInt8):nB (a::b::t) 1=decide (gG a.toNat b.toNat):=by
 rw[jH (xt _ _) (DN ..)];exact Gn _ _ (b8 b)
theorem BA (a b c:UInt8)(t:List UInt8):nB (a::b::c::t) 2=decide (tl c.toNat):=by
 rw[ix (by decide) (GG ..)];exact FU _ (b8 c)
theorem Jh (a b c d:UInt8)(t:List UInt8):nB (a::b::c::d::t) 3=decide (tl d.toNat):=by
 rw[ix (by decide) (Jm ..)];exact FU _ (b8 d)
theorem pn (a:UInt8)(t:List UInt8)(h:a.toNat<128):bg (a::t)= (a.toNat,1,0):=by
 rw[lc (xs:=a::t) (n:=1) (by simp) (by omega) (by rw[xt,((bN _ (b8 a)).1).2 h];rfl)];simp[aB,dx,b7,xt]
theorem If (a:UInt8)(t:List UInt8)(h:¬a.toNat<128)(h2:¬ (194<=a.toNat/\a.toNat<=244)):bg (a::t)= (0,0,2):=by
 apply DF (by simp)
 have hc:=bN _ (b8 a);rcases ee _ (b8 a) with h'|h'|h'|h'|h'
 ·exact h'
 ·have:=hc.1.1 h';omega
 ·have:=hc.2.1.1 h';omega
 ·have:=hc.2.2.1.1 h';omega
 ·have:=hc.2.2.2.1 h';omega
theorem uM (a:UInt8)(t:List UInt8)(h:194<=a.toNat/\a.toNat<=223):bg (a::t)=match t with
  | []=>(0,0,1)
  |b::_=>if gG a.toNat b.toNat then((a.toNat % 32)*64+b.toNat % 64,2,0) else(0,0,2):=by
 rw[lc (xs:=a::t) (n:=2) (by simp) (by omega) (by rw[xt,((bN _ (b8 a)).2.1).2 h];rfl)]
 cases t with
 |nil=>simp[aB]
 |cons b t=>simp[aB,dx,b7,xt,DN,oK]
theorem wh (a:UInt8)(t:List UInt8)(h:224<=a.toNat/\a.toNat<=239):bg (a::t)=match t with
  | []=>(0,0,1)
  | [b]=>if gG a.toNat b.toNat then(0,0,1) else(0,0,2)
  |b::c::_=>if gG a.toNat b.toNat then(if tl c.toNat then(((a.toNat % 16)*64+b.toNat % 64)*64+c.toNat % 64,3,0) else(0,0,2)) else(0,0,2):=by
 rw[lc (xs:=a::t) (n:=3) (by simp) (by omega) (by rw[xt,((bN _ (b8 a)).2.2.1).2 h];rfl)]
 match t with
 | []=>simp[aB]
 | [b]=>simp[aB,oK]
 |b::c::t=>simp[aB,dx,b7,xt,DN,GG,oK,BA]
theorem vR (a:UInt8)(t:List UInt8)(h:240<=a.toNat/\a.toNat<=244):bg (a::t)=match t with
  | []=>(0,0,1)
  | [b]=>if gG a.toNat b.toNat then(0,0,1) else(0,0,2)
  | [b,c]=>if gG a.toNat b.toNat then(if tl c.toNat then(0,0,1) else(0,0,2)) else(0,0,2)
  |b::c::d::_=>if gG a.toNat b.toNat then(if tl c.toNat then(if tl d.toNat then((((a.toNat % 8)*64+b.toNat % 64)*64+c.toNat % 64)*64+d.toNat % 64,4,0) else(0,0,2)) else(0,0,2)) else(0,0,2):=by
 rw[lc (xs:=a::t) (n:=4) (by simp) (by omega) (by rw[xt,((bN _ (b8 a)).2.2.2).2 h];rfl)]
 match t with
 | []=>simp[aB]
 | [b]=>simp[aB,oK]
 | [b,c]=>simp[aB,oK,BA]
 |b::c::d::t=>simp[aB,dx,b7,xt,DN,GG,Jm,oK,BA,Jh]
theorem iN {a:UInt8}(h:n=a.toNat):UInt8.ofNat n=a:=by rw[h];exact UInt8.ofNat_toNat
theorem bY (c:Nat):cA c=decide (c<=1114111/\¬ (55296<=c/\c<=57343)):=by
 unfold cA;rw[Bool.eq_iff_iff];simp;omega
theorem la (c:Nat)(h:c<128):a7 c = [UInt8.ofNat c]:=by
 have hr:cA c=true:=by rw[bY];simp;omega
 rw[a7,if_pos hr,if_pos (by omega)];rfl
theorem og (c:Nat)(h:128<=c/\c<2048):a7 c = [UInt8.ofNat (192+c/64),UInt8.ofNat (128+c % 64)]:=by
 have hr:cA c=true:=by rw[bY];simp;omega
 rw[a7,if_pos hr,if_neg (by omega),if_pos (by omega),show(192+ (c:Int)/64).toNat=192+c/64 by omega,show(128+ (c:Int) % 64).toNat=128+c % 64 by omega]
theorem l9 (c:Nat)(h:2048<=c/\c<65536)(h':¬ (55296<=c/\c<=57343)):a7 c = [UInt8.ofNat (224+c/4096),UInt8.ofNat (128+c/64 % 64),UInt8.ofNat (128+c % 64)]:=by
 have hr:cA c=true:=by rw[bY];simp;omega
 rw[a7,if_pos hr,if_neg (by omega),if_neg (by omega),if_pos (by omega),show(224+ (c:Int)/4096).toNat=224+c/4096 by omega,show(128+ (c:Int)/64 % 64).toNat=128+c/64 % 64 by omega,show(128+ (c:Int) % 64).toNat=128+c % 64 by omega]
theorem nX (c:Nat)(h:65536<=c/\c<=1114111):a7 c = [UInt8.ofNat (240+c/262144),UInt8.ofNat (128+c/4096 % 64),UInt8.ofNat (128+c/64 % 64),UInt8.ofNat (128+c % 64)]:=by
 have hr:cA c=true:=by rw[bY];simp;omega
 rw[a7,if_pos hr,if_neg (by omega),if_neg (by omega),if_neg (by omega),show(240+ (c:Int)/262144).toNat=240+c/262144 by omega,show(128+ (c:Int)/4096 % 64).toNat=128+c/4096 % 64 by omega,show(128+ (c:Int)/64 % 64).toNat=128+c/64 % 64 by omega,show(128+ (c:Int) % 64).toNat=128+c % 64 by omega]
theorem kA (h:(bg xs).2.2=0) :
  (∃a t,xs=a::t/\a.toNat<128/\bg xs= (a.toNat,1,0))\/
  (∃a b t,xs=a::b::t/\(194<=a.toNat/\a.toNat<=223)/\gG a.toNat b.toNat/\bg xs= ((a.toNat % 32)*64+b.toNat % 64,2,0))\/
  (∃a b c t,xs=a::b::c::t/\(224<=a.toNat/\a.toNat<=239)/\gG a.toNat b.toNat/\tl c.toNat/\bg xs= (((a.toNat % 16)*64+b.toNat % 64)*64+c.toNat % 64,3,0))\/
  (∃a b c d t,xs=a::b::c::d::t/\(240<=a.toNat/\a.toNat<=244)/\gG a.toNat b.toNat/\tl c.toNat/\tl d.toNat/\bg xs= ((((a.toNat % 8)*64+b.toNat % 64)*64+c.toNat % 64)*64+d.toNat % 64,4,0)):=by
 cases xs with
 |nil=>simp[bg] at h
 |cons a t=>
  by_cases h1:a.toNat<128
  ·exact .inl ⟨a,t,rfl,h1,pn a t h1⟩
  by_cases h2:194<=a.toNat/\a.toNat<=223
  ·have e:=uM a t h2
   match t with
   | []=>rw[e] at h;simp at h
   |b::t=>
    by_cases hs:gG a.toNat b.toNat
    ·simp only[hs,if_true] at e;exact .inr (.inl ⟨a,b,t,rfl,h2,hs,e⟩)
    ·rw[e] at h;simp[hs] at h
  by_cases h3:224<=a.toNat/\a.toNat<=239
  ·have e:=wh a t h3
   match t with
   | []=>rw[e] at h;simp at h
   | [b]=>rw[e] at h;by_cases hs:gG a.toNat b.toNat <;> simp[hs] at h
   |b::c::t=>
    by_cases hs:gG a.toNat b.toNat
    ·by_cases ht:tl c.toNat
     ·simp only[hs,ht,if_true] at e;exact .inr (.inr (.inl ⟨a,b,c,t,rfl,h3,hs,ht,e⟩))
     ·rw[e] at h;simp[hs,ht] at h
    ·rw[e] at h;simp[hs] at h
  by_cases h4:240<=a.toNat/\a.toNat<=244
  ·have e:=vR a t h4
   match t with
   | []=>rw[e] at h;simp at h
   | [b]=>rw[e] at h;by_cases hs:gG a.toNat b.toNat <;> simp[hs] at h
   | [b,c]=>rw[e] at h;by_cases hs:gG a.toNat b.toNat <;> by_cases ht:tl c.toNat <;> simp[hs,ht] at h
   |b::c::d::t=>
    by_cases hs:gG a.toNat b.toNat
    ·by_cases ht:tl c.toNat
     ·by_cases hd:tl d.toNat
      ·simp only[hs,ht,hd,if_true] at e;exact .inr (.inr (.inr ⟨a,b,c,d,t,rfl,h4,hs,ht,hd,e⟩))
      ·rw[e] at h;simp[hs,ht,hd] at h
     ·rw[e] at h;simp[hs,ht] at h
    ·rw[e] at h;simp[hs] at h
  ·have e:=If a t h1 (by omega);rw[e] at h;simp at h
theorem il (h:(bg xs).2.2=0):a7 (bg xs).1=xs.take (bg xs).2.1/\cA (bg xs).1=true:=by
 rcases kA h with ⟨a,t,rfl,h1,e⟩|⟨a,b,t,rfl,h1,hs,e⟩|⟨a,b,c,t,rfl,h1,hs,ht,e⟩|⟨a,b,c,d,t,rfl,h1,hs,ht,hd,e⟩ <;> rw[e] <;> simp only
 ·exact⟨by rw[la _ h1,iN rfl];rfl,by rw[bY];simp;omega⟩
 ·unfold gG at hs;have hb:=b8 b;refine⟨?_,by rw[bY];simp;omega⟩;rw[og _ (by omega),iN (a:=a) (by omega),iN (a:=b) (by omega)];rfl
 ·unfold gG at hs;unfold tl at ht;have hb:=b8 b;have hc:=b8 c;refine⟨?_,by rw[bY];simp;omega⟩;rw[l9 _ (by omega) (by omega),iN (a:=a) (by omega),iN (a:=b) (by omega),iN (a:=c) (by omega)];rfl
 ·unfold gG at hs;unfold tl at ht hd;have hb:=b8 b;have hc:=b8 c;have a0:=b8 d;refine⟨?_,by rw[bY];simp;omega⟩;rw[nX _ (by omega),iN (a:=a) (by omega),iN (a:=b) (by omega),iN (a:=c) (by omega),iN (a:=d) (by omega)];rfl
theorem gQ {c:Int}(h:cA c=true):a7 c≠ []:=by
 rw[a7,if_pos h];repeat' split
 all_goals simp
theorem cq {c:Int}(h:cA c=true):0<=c:=by simp[cA] at h;omega
theorem bm (n:Nat)(h:n<256):(UInt8.ofNat n).toNat=n:=by rw[UInt8.toNat_ofNat'];omega
theorem eI (c:Nat)(h:cA c=true)(ys:List UInt8):bg (a7 c++ys)= (c,(a7 c).length,0):=by
 rw[bY] at h;simp only[decide_eq_true_eq] at h
 by_cases h1:c<128
 ·rw[la c h1];have e:=bm c (by omega);rw[List.singleton_append,pn _ _ (by omega),e];rfl
 by_cases h2:c<2048
 ·rw[og c (by omega)];have e1:=bm (192+c/64) (by omega);have e2:=bm (128+c % 64) (by omega);rw[List.cons_append,uM _ _ (by omega)];simp only[List.cons_append,List.nil_append,e1,e2];rw[if_pos (by unfold gG;omega)];simp only[Prod.mk.injEq,List.length_cons,List.length_nil,and_true];omega
 by_cases h3:c<65536
 ·rw[l9 c (by omega) (by omega)];have e1:=bm (224+c/4096) (by omega);have e2:=bm (128+c/64 % 64) (by omega);have e3:=bm (128+c % 64) (by omega);rw[List.cons_append,wh _ _ (by omega)];simp only[List.cons_append,List.nil_append,e1,e2,e3];rw[if_pos (by unfold gG;omega),if_pos (by unfold tl;omega)];simp only[Prod.mk.injEq,List.length_cons,List.length_nil,and_true];omega
 ·rw[nX c (by omega)];have e1:=bm (240+c/262144) (by omega);have e2:=bm (128+c/4096 % 64) (by omega);have e3:=bm (128+c/64 % 64) (by omega);have e4:=bm (128+c % 64) (by omega);rw[List.cons_append,vR _ _ (by omega)];simp only[List.cons_append,List.nil_append,e1,e2,e3,e4];rw[if_pos (by unfold gG;omega),if_pos (by unfold tl;omega),if_pos (by unfold tl;omega)];simp only[Prod.mk.injEq,List.length_cons,List.length_nil,and_true];omega
theorem nN (c:Nat)(h:cA c=true):∃ (a:UInt8) (t:List UInt8),a7 c=a::t/\t.length<=3/\¬tl a.toNat/\(∀x∈t,tl x.toNat)/\aY a.toNat= ((t.length+1:Nat):Int):=by
 rw[bY] at h;simp only[decide_eq_true_eq] at h
 by_cases h1:c<128
 ·rw[la c h1];have e:=bm c (by omega);exact⟨_,_,rfl,by simp,by rw[e];unfold tl;omega,by simp,by rw[e,(bN _ (by omega)).1.2 h1];rfl⟩
 by_cases h2:c<2048
 ·rw[og c (by omega)];have e1:=bm (192+c/64) (by omega);have e2:=bm (128+c % 64) (by omega);refine⟨_,_,rfl,by simp,by rw[e1];unfold tl;omega,?_,by rw[e1,(bN _ (by omega)).2.1.2 (by omega)];rfl⟩;intro x hx;simp only[List.mem_singleton] at hx;subst hx;rw[e2];unfold tl;omega
 by_cases h3:c<65536
 ·rw[l9 c (by omega) (by omega)];have e1:=bm (224+c/4096) (by omega);have e2:=bm (128+c/64 % 64) (by omega);have e3:=bm (128+c % 64) (by omega);refine⟨_,_,rfl,by simp,by rw[e1];unfold tl;omega,?_,by rw[e1,(bN _ (by omega)).2.2.1.2 (by omega)];rfl⟩;intro x hx;simp only[List.mem_cons,List.not_mem_nil,or_false] at hx;rcases hx with rfl|rfl
  ·rw[e2];unfold tl;omega
  ·rw[e3];unfold tl;omega
 ·rw[nX c (by omega)];have e1:=bm (240+c/262144) (by omega);have e2:=bm (128+c/4096 % 64) (by omega);have e3:=bm (128+c/64 % 64) (by omega);have e4:=bm (128+c % 64) (by omega);refine⟨_,_,rfl,by simp,by rw[e1];unfold tl;omega,?_,by rw[e1,(bN _ (by omega)).2.2.2.2 (by omega)];rfl⟩;intro x hx;simp only[List.mem_cons,List.not_mem_nil,or_false] at hx;rcases hx with rfl|rfl|rfl
  ·rw[e2];unfold tl;omega
  ·rw[e3];unfold tl;omega
  ·rw[e4];unfold tl;omega
theorem tN (xs:List UInt8):∀f k,k<=xs.length->(eE xs f k).length<=xs.length - k
 |0,k,_=>Zj _
 |f+1,k,hk=>by
  unfold eE
  split
  ·rename_i h
   have h1:=ei h;have h2:=dR xs k hk;have h3:=tN xs f (k+ (bg (xs.drop k)).2.1) h2;simp only[List.length_cons];omega
  ·exact Zj _
theorem Ac (xs:List UInt8):(dz xs).length<=xs.length:=tN xs _ 0 (Zj _)
def fl (x n:Int):Int:=if n=2 then x - 192 else if n=3 then x - 224 else if n=4 then x - 240 else x
def fh (xs:List UInt8)(fill:Int)(i:Nat):Int:=if i<xs.length then(am xs i:Int) - 128 else fill
def eY (xs:List UInt8)(n fill:Int):Nat->Int
 |0=>fl (am xs 0) n
 |k+1=>eY xs n fill k*64+fh xs fill (k+1)
theorem pW (xs:List UInt8)(hf:0<=fill/\fill<=63)(i:Nat): -128<=fh xs fill i/\fh xs fill i<=127:=by
 unfold fh;have:=a6 xs i
 split <;> omega
theorem Ba (xs:List UInt8)(n:Int): -256<=fl (am xs 0) n/\fl (am xs 0) n<=256:=by
 have:=a6 xs 0;unfold fl
 split
 ·omega
 ·split
  ·omega
  ·split <;> omega
theorem EE (xs:List UInt8)(n:Int)(hf:0<=fill/\fill<=63)(k:Nat)(hk:k<=3): -100000000<=eY xs n fill k/\eY xs n fill k<=100000000:=by
 have h0:=Ba xs n;have h1:=pW xs hf 1;have h2:=pW xs hf 2;have h3:=pW xs hf 3;have a0:k=0\/k=1\/k=2\/k=3:=by omega
 rcases a0 with rfl|rfl|rfl|rfl <;> simp only[eY,Nat.zero_add,Nat.reduceAdd] <;> omega
def ea (xs:List UInt8):Nat->Bool
 |0=>true
 |k+1=>ea xs k&& (decide (128<=am xs (k+1))&&decide (am xs (k+1)<=191))
theorem Ej (hn:aY (am xs 0)=n){c:Int}(hr:cA c=true)(hb:xs.take (a7 c).length=a7 c):bg xs= (c.toNat,n,0):=by
 have a0:((c.toNat:Nat):Int)=c:=by have:=cq hr;omega
 obtain⟨a,t,e,-,-,-,a1⟩:=nN c.toNat (by rw[a0];exact hr);rw[a0] at e;have hx:xs=a7 c++xs.drop (a7 c).length:=by
  have:=List.take_append_drop (a7 c).length xs;rw[hb] at this;exact this.symm
 have hd:=eI c.toNat (by rw[a0];exact hr) (xs.drop (a7 c).length);rw[a0,<-hx] at hd;have a2:am xs 0=a.toNat:=by rw[hx,e];simp[am]
 have hl:(a7 c).length=n:=by
  rw[a2,a1] at hn;rw[e];simp only[List.length_cons];omega
 rw[hd,hl]
theorem BX (h:(bg xs).2.2=0):∃n:Nat,1<=n/\n<=4/\aY (am xs 0)=n/\ea xs (n - 1)=true/\eY xs n 0 (n - 1)= (bg xs).1/\cA (bg xs).1=true/\xs.take (a7 (bg xs).1).length=a7 (bg xs).1:=by
 obtain⟨hf,hr⟩:=il h;have a0:xs.take (a7 (bg xs).1).length=a7 (bg xs).1:=by
  rw[hf,List.length_take]
  by_cases hle:(bg xs).2.1<=xs.length
  ·rw[Nat.min_eq_left hle]
  ·rw[Nat.min_eq_right (by omega),List.take_length,List.take_of_length_le (by omega)]
 rcases kA h with ⟨a,t,rfl,h1,e⟩|⟨a,b,t,rfl,h1,hs,e⟩|⟨a,b,c,t,rfl,h1,hs,ht,e⟩|⟨a,b,c,d,t,rfl,h1,hs,ht,hd,e⟩
 all_goals
  have ha:=b8 a;rw[e] at hr a0 ⊢;simp only at hr a0 ⊢
 ·exact⟨1,by omega,by omega,by simp only[am,List.getD_cons_zero];exact(bN _ (by omega)).1.2 h1,rfl,by simp[eY,fl,am],hr,a0⟩
 ·have hb:=b8 b;unfold gG at hs;refine⟨2,by omega,by omega,by simp only[am,List.getD_cons_zero];exact(bN _ (by omega)).2.1.2 h1,?_,?_,hr,a0⟩
  ·simp[ea,am];omega
  ·simp[eY,fl,fh,am];omega
 ·have hb:=b8 b;have hc:=b8 c;unfold gG at hs;unfold tl at ht;refine⟨3,by omega,by omega,by simp only[am,List.getD_cons_zero];exact(bN _ (by omega)).2.2.1.2 h1,?_,?_,hr,a0⟩
  ·simp[ea,am];omega
  ·simp[eY,fl,fh,am];omega
 ·have hb:=b8 b;have hc:=b8 c;have a1:=b8 d;unfold gG at hs;unfold tl at ht hd;refine⟨4,by omega,by omega,by simp only[am,List.getD_cons_zero];exact(bN _ (by omega)).2.2.2.2 h1,?_,?_,hr,a0⟩
  ·simp[ea,am];omega
  ·simp[eY,fl,fh,am];omega
theorem ln (xs:List UInt8)(n:Nat):∀f k,(aB xs n f k).2.2≠0->aB xs n f k= (0,0,(aB xs n f k).2.2)
 |0,_,h=>absurd rfl h
 |f+1,k,h=>by
  unfold aB at h ⊢;split
  ·rfl
  ·rename_i hk;rw[if_neg hk] at h;split
   ·rename_i ho;rw[if_pos ho] at h;exact ln xs n f (k+1) h
   ·rfl
theorem eR (h:(bg xs).2.2≠0):bg xs= (0,0,(bg xs).2.2):=by
 unfold bg at h ⊢;split
 ·rfl
 ·rename_i h0;rw[if_neg h0] at h;split
  ·rfl
  ·rename_i hc;rw[if_neg hc] at h;exact ln _ _ _ _ h
theorem xP {x:Int}(h0:0<=x)(h1:x<2147483648):wrap32 x=x:=by
 unfold wrap32;omega
theorem Bw {c:Int}(h:cA c=true):c<=1114111:=by
 simp only[cA,Bool.and_eq_true,decide_eq_true_eq] at h;exact h.1.2
def fN (x:Int):Int:=if x<128 then 1 else if x<192 then 0 else if 194<=x/\x<=223 then 2 else if 224<=x/\x<=239 then 3 else if 240<=x/\x<=244 then 4 else -1
theorem Eg (x:Nat)(h:x<256):fN x=aY x:=by
 have h':∀x:Nat,x<256->fN (x:Int)=aY (x:Int):=by decide +kernel
 exact h' x h
def Bs (w:World)(v:Value)(xs:List UInt8):Prop:=
 xs.length<=9223372036854775807/\∃A c,v =.slice A xs.length c/\xs.length<=c/\(0<xs.length->∃b o,A=some ⟨b,o,none⟩/\∀i,i<xs.length->w.cell? ⟨b,o+i,none⟩=some (.int .u8 (am xs i)))
theorem Bs.drewN (h:Bs w v xs)(m:Nat):Bs (w.drewN m) v xs:=h
theorem Bs.below (h:Bs w v xs)(hb:Below w.heap.size w w'):Bs w' v xs:=by
 obtain⟨hm,A,c,e,hc,a0⟩:=h;refine⟨hm,A,c,e,hc,fun h0=>?_⟩;obtain⟨b,o,e,a1⟩:=a0 h0;exact⟨b,o,e,fun i hi=>Zg hb (a1 i hi)⟩
theorem Bs.cut {b:Nat}(h:Bs w (.slice (some ⟨b,o,none⟩) xs.length c) xs){k:Nat}(hk:k<=xs.length) :
  Bs w (.slice (some ⟨b,o+k,none⟩) (xs.length - k) (c - k)) (xs.drop k):=by
 obtain⟨hm,A,c',e,hc,a0⟩:=h;injection e with e1 e2 e3
 subst e1 e3;refine⟨by simp;omega,_,_,by rw[List.length_drop],by simp;omega,fun h=>⟨b,o+k,rfl,fun i hi=>?_⟩⟩;simp at h hi;obtain⟨b',o',e,a1⟩:=a0 (by omega);injection e with e;injection e with e e';subst e e'
 rw[Nat.add_assoc,gM];exact a1 (k+i) (by omega)
theorem Dw:(Tryz.prog.info? 5).map (fun i=>(i.zero,i.size,i.bytes))=some (some (.int .u8 0),1,1):=by kernel_rfl
def bv (c:UInt8):Value:=.int .u8 c.toNat
def eB (xs:List UInt8):List Value:=xs.map bv
theorem xi (xs:List UInt8):(eB xs).length=xs.length:=by simp[eB]
theorem mO (xs ys:List UInt8):eB (xs++ys)=eB xs++eB ys:=by simp[eB]
theorem Ft (xs:List UInt8):∀u∈eB xs,u.oneCell'=true:=by
 intro u hu;obtain⟨c,_,rfl⟩:=List.mem_map.1 hu;rfl
theorem lO (xs:List UInt8)(i:Nat)(h:i<xs.length):(eB xs)[i]?=some (.int .u8 (am xs i)):=by
 simp[eB,bv,am,Zd h]
def aq (w:World)(base:Nat)(v:Value)(ys:List UInt8):Prop:=w.ownsRow base 5 1 v ys.length (eB ys)
theorem Bs.cellsAt {ad:Addr}{m:Nat}(hr:Bs w (.slice (some ad) m c) xs):m=xs.length/\∀j u,(eB xs)[j]?=some u->w.cell? (ad.add j)=some u:=by
 obtain⟨_,A,c',e,_,hc⟩:=hr;injection e with e1 e2 e3
 refine⟨e2,fun j u hu=>?_⟩;have hj:j<xs.length:=by have:=(List.getElem?_eq_some_iff.1 hu).1;rwa[xi] at this
 obtain⟨b,o,e,a0⟩:=hc (by omega);rw[<-e1] at e;injection e with e
 subst e;rw[lO xs j hj] at hu;injection hu with hu
 subst hu;have:=a0 j hj;unfold Addr.add
 split
 ·rename_i h0;subst h0;simpa using this
 ·exact this
theorem mq (w:World)(base:Nat)(ty:TypeId)(v:Value)(n:Nat)(xs:List Value)(a0:w.ownsRow base 5 1 v n xs)(c:Nat) :
  (Builtin.append_ #[28,28] ty #[v,.slice none 0 c]).run Tryz.prog w =.ok v w:=by
 obtain⟨i0,hi,a3,a2,a4⟩:=info_parts Dw;rcases a0.2 with ⟨rfl,rfl⟩|⟨g,cap,cur,rfl,_,_,a1,_⟩
 ·simp[Builtin.append_,run_underlying Tryz.underlying28,sizeOf,typeInfo,hi,Builtin.lenOf,Builtin.firstCells]
 ·simp[Builtin.append_,run_underlying Tryz.underlying28,sizeOf,typeInfo,hi,Builtin.lenOf,Builtin.firstCells,a1,storeCells]
theorem nD (w:World)(base:Nat)(ty:TypeId)(v u:Value)(ys xs:List UInt8)(a0:aq w base v ys)(hr:Bs w u xs)(hlen:ys.length+xs.length<=140737488355328)(a3:base<=w.heap.size) :
  ∃v' w',(Builtin.append_ #[28,28] ty #[v,u]).run Tryz.prog w =.ok v' w'/\aq w' base v' (ys++xs)/\w.grownBy w' v.ownBlock/\(v'.ownBlock=v.ownBlock\/v'.ownBlock=some w.heap.size):=by
 obtain⟨i0,hi,a9,b0,b1⟩:=info_parts Dw;have a5:=hr;obtain⟨_,A,c,rfl,hc,_⟩:=a5
 cases A with
 |none=>
  obtain rfl:xs = []:=by
   obtain⟨_,A',c',e,_,a2⟩:=hr;rcases Nat.eq_zero_or_pos xs.length with h0|h0
   ·exact List.eq_nil_of_length_eq_zero h0
   ·obtain⟨b,o,e',_⟩:=a2 h0;exact absurd ((Value.slice.inj e).1.trans e') (fun h=>by cases h)
  have h0:=mq w base ty v ys.length (eB ys) a0 c;refine⟨v,w,?_,?_,World.grownBy.refl w _,.inl rfl⟩
  ·exact h0
  ·rw[List.append_nil];exact a0
 |some ad=>
  obtain⟨_,a1⟩:=hr.cellsAt;obtain⟨v',w',a4,h2,h3,_,h5⟩:=run_append_own_at (P:=Tryz.prog) w base 28 ty 5 i0 (.int .u8 0) 1 1 Tryz.underlying28 hi a9 b0 b1 rfl (by decide) v ys.length (eB ys) a0 ad xs.length c (eB xs)
   (by rw[xi];omega) a1 (Ft xs) (by unfold maxLen;omega) (by omega) a3
  exact⟨v',w',a4,by unfold aq;rw[mO,List.length_append];exact h2,h3,h5⟩
theorem pN {o:Oper}{a:Act}{K:Act->World->Prop}{Q:Exit->Act->World->Prop}(w:World)(s x:Operand)
  (ho:o.op =.call {callee:=.builtin .append,args:= #[s,x],argTypes:= #[28,28]})
  (base:Nat) (v u:Value) (ys xs:List UInt8) (hs:a.eval s=v) (a2:aq w base v ys) (hx:a.eval x=u) (hr:Bs w u xs)
  (hlen:ys.length+xs.length<=140737488355328) (a0:base<=w.heap.size)
  (h:∀v' w',aq w' base v' (ys++xs)->w.grownBy w' v.ownBlock->(v'.ownBlock=v.ownBlock\/v'.ownBlock=some w.heap.size)->K (a.put o.dst v') w'):o.wp Tryz.prog a w K Q:=by
 obtain⟨v',w',a1,h2,h3,h4⟩:=nD w base o.type v u ys xs a2 hr hlen a0;unfold Oper.wp execOp;simp only[ho,resolve,invoke,builtin,Sem.run_bind,Sem.run_pure,Result.andThen_ok,List.map_toArray,List.map_cons,List.map_nil,hs,hx,a1];exact h v' w' h2 h3 h4
theorem kD {ops:Array Oper}{rest:List Oper}{o:Oper}{a:Act}{Q:Exit->Act->World->Prop}(a2:o.guard=none)(s x:Operand)
  (ho:o.op =.call {callee:=.builtin .append,args:= #[s,x],argTypes:= #[28,28]})
  (base:Nat) (v u:Value) (ys xs:List UInt8) (hs:a.eval s=v) (a1:aq w base v ys) (hx:a.eval x=u) (hr:Bs w u xs)
  (hlen:ys.length+xs.length<=140737488355328) (a0:base<=w.heap.size)
  (h:∀v' w',aq w' base v' (ys++xs)->w.grownBy w' v.ownBlock->(v'.ownBlock=v.ownBlock\/v'.ownBlock=some w.heap.size)->wpList Tryz.prog ops Q rest (a.put o.dst v') w'):wpList Tryz.prog ops Q (o::rest) a w:=
 wpList_plain a2 fun _ hK=>pN w s x ho base v u ys xs hs a1 hx hr hlen a0 fun v' w' h2 h3 h4=>hK _ _ (h v' w' h2 h3 h4)
theorem tF {ops:Array Oper}{rest:List Oper}{o:Oper}{a:Act}{Q:Exit->Act->World->Prop}{s x:Operand}(a1:aq w base v ys)(hr:Bs w u xs)(hlen:ys.length+xs.length<=140737488355328)(a0:base<=w.heap.size)
  (h:∀v' w',aq w' base v' (ys++xs)->w.grownBy w' v.ownBlock->(v'.ownBlock=v.ownBlock\/v'.ownBlock=some w.heap.size)->wpList Tryz.prog ops Q rest (a.put o.dst v') w')
  (ho:o.op =.call {callee:=.builtin .append,args:= #[s,x],argTypes:= #[28,28]}:=by exact rfl) (a2:o.guard=none:=by exact rfl) (hs:a.eval s=v:=by exact rfl) (hx:a.eval x=u:=by exact rfl):wpList Tryz.prog ops Q (o::rest) a w:=
 kD a2 s x ho base v u ys xs hs a1 hx hr hlen a0 h
theorem aq.bs (h:aq w base v ys):Bs w v ys:=by
 obtain⟨_,⟨rfl,h0⟩|⟨g,cap,cur,rfl,_,hg,hn,hm,hs,ht⟩⟩:=h
 ·exact⟨by omega,none,0,by rw[h0],by omega,fun h=>by omega⟩
 ·refine⟨by unfold maxLen at hm;omega,some ⟨g,0,none⟩,cap,rfl,hn,fun _=>⟨g,0,rfl,fun i hi=>?_⟩⟩;rw[Nat.zero_add];have e:=lO ys i hi;rw[<-ht,List.getElem?_take] at e;rw[if_pos (by omega)] at e;simp[World.cell?,hg];simpa using e
theorem aq.below (h:aq w base v ys)(hb:Below B w w')(hB:w.heap.size<=B):aq w' base v ys:=by
 obtain⟨h1,⟨rfl,h0⟩|⟨g,cap,cur,rfl,a0,hg,r⟩⟩:=h
 ·exact⟨h1,.inl ⟨rfl,h0⟩⟩
 ·exact⟨h1,.inr ⟨g,cap,cur,rfl,a0,(hb.block g (Nat.lt_of_lt_of_le (ak hg) hB)).trans hg,r⟩⟩
theorem aq.drewN (h:aq w base v ys)(m:Nat):aq (w.drewN m) base v ys:=h
theorem aq.low (h:aq w base v ys)(hb:base'<=base):aq w base' v ys:=by
 obtain⟨h1,⟨rfl,h0⟩|⟨g,cap,cur,rfl,a0,r⟩⟩:=h
 ·exact⟨h1,.inl ⟨rfl,h0⟩⟩
 ·exact⟨h1,.inr ⟨g,cap,cur,rfl,Zc hb a0,r⟩⟩
theorem aq.grown {row:Option Nat}(h:aq w base v ys)(hg:w.grownBy w' row)(hr:∀g,v.ownBlock=some g->row≠some g):aq w' base v ys:=by
 obtain⟨h1,⟨rfl,h0⟩|⟨g,cap,cur,rfl,a0,hh,r⟩⟩:=h
 ·exact⟨h1,.inl ⟨rfl,h0⟩⟩
 ·exact⟨h1,.inr ⟨g,cap,cur,rfl,a0,(hg.block g (ak hh) (fun e=>hr g rfl e.symm)).trans hh,r⟩⟩
theorem aq.nil (w:World)(base:Nat):aq w base (.slice none 0 0) []:=⟨rfl,.inl ⟨rfl,rfl⟩⟩
theorem aq.made (hg:w.heap[g]?=some (.cells cur 5 (0,0)))(hb:base<=g)(hc:cap<=maxLen)(hs:cur.size=cap):aq w base (.slice (some ⟨g,0,none⟩) 0 cap) []:=
 ⟨rfl,.inr ⟨g,cap,cur,rfl,hb,hg,Zj _,hc,by omega,by simp[eB]⟩⟩
theorem ap {a:World}(h:Below B a w)(n:Nat):Below B a (w.drewN n):=⟨h.os,h.tape,h.output,h.size,h.block⟩
theorem aI (h:Bs w v xs):(convert 28 9 v).run Tryz.prog w =.ok (.string ⟨xs.toArray⟩) w:=by
 obtain⟨hm,A,c,rfl,hc,a0⟩:=h;rcases Nat.eq_zero_or_pos xs.length with h0|h0
 ·obtain rfl:xs = []:=List.eq_nil_of_length_eq_zero h0;rw[run_convert_bytes_string w 28 9 5 A _ c Tryz.underlying28 Tryz.underlying5 Tryz.underlying9]
  cases A with
  |none=>simp[Conv.bytesToString];rfl
  |some a=>simp[Conv.bytesToString,loadCells,loadCellsFrom];rfl
 ·obtain⟨b,o,rfl,a1⟩:=a0 h0;refine run_convert_bytes_back w 28 9 5 ⟨b,o,none⟩ c xs Tryz.underlying28 Tryz.underlying5 Tryz.underlying9 fun j hj=>?_
  have:=a1 j hj;unfold Addr.add
  split
  ·rename_i h;subst h;simpa [am,Zd hj] using this
  ·simpa [am,Zd hj] using this
theorem Cg {z:Nat×Nat}(xs:List UInt8)(hm:xs.length<=9223372036854775807)(hc:xs.length<=c)(hg:W.heap[g]?=some (.cells (eB xs).toArray 5 z)):Bs W (.slice (some ⟨g,0,none⟩) xs.length c) xs:=by
 refine⟨hm,_,c,rfl,hc,fun _=>⟨g,0,rfl,fun i hi=>?_⟩⟩;have:=lO xs i hi;simp only[World.cell?,hg,Nat.zero_add];simpa using this
theorem aa (w:World)(o:Obj):Below w.heap.size w (w.alloc o):=(Ze _ _).alloc (Zb _) _
theorem aj {a b c:World}(h:Below a.heap.size a b)(k:Below b.heap.size b c):Below a.heap.size a c:=h.trans (k.mono h.size)
def Bx (W:World)(k:Nat)(t:TypeId)(v:Value):Prop:=W.heap[k]?=some (.cells #[v] t (0,0))
section
variable {W W':World}{k:Nat}{t:TypeId}{v:Value}
theorem Bx.lt (h:Bx W k t v):k<W.heap.size:=ak h
theorem Bx.cell (h:Bx W k t v):W.cell? ⟨k,0,none⟩=some v:=by unfold Bx at h;simp[World.cell?,h]
theorem Bx.frozen (h:Bx W k t v):W.frozen? ⟨k,0,none⟩=false:=by unfold Bx at h;simp[World.frozen?,h]
theorem Bx.new (W:World)(t:TypeId)(v:Value):Bx (W.alloc (.cells #[v] t)) W.heap.size t v:=Zf W _
theorem Bx.alloc (h:Bx W k t v)(o:Obj):Bx (W.alloc o) k t v:=(Below.heap_alloc W o k h.lt).trans h
theorem Bx.below (h:Bx W k t v)(hb:Below B W W')(hk:k<B):Bx W' k t v:=(hb.block k hk).trans h
theorem Bx.later (h:Bx W k t v)(hb:Below W.heap.size W W'):Bx W' k t v:=h.below hb h.lt
theorem Bx.drewN (h:Bx W k t v)(m:Nat):Bx (W.drewN m) k t v:=h
theorem Bx.set (h:Bx W k t v)(u:Value):Bx (W.setCell ⟨k,0,none⟩ u) k t u:=by
 unfold Bx at h ⊢;simp[World.setCell,Array.getElem?_modify,h]
theorem Bx.far (h:Bx W k t v){p:Addr}(hp:k≠p.block)(u:Value):Bx (W.setCell p u) k t v:=(Below.heap_setCell W p u k hp).trans h
theorem Bx.kept (h:Bx W k t v){row:Option Nat}(hg:W.grownBy W' row)(hr:∀r,row=some r->∃o:Obj,W.heap[r]?=some o/\o.isCells=false):Bx W' k t v:=
 (hg.block k h.lt (fun e=>by
  obtain⟨o,ho,hc⟩:=hr k e.symm;unfold Bx at h;rw[h] at ho;cases ho;simp[Obj.isCells] at hc)).trans h
end
structure Jv (t e:TypeId) (z:Value) (B:Nat):Prop where
 ht:Tryz.prog.underlying t=some (.slice e)
 hi:(Tryz.prog.info? e).map (fun i=>(i.zero,i.size,i.bytes))=some (some z,1,B)
 hz:z.cells.size=1
theorem aD (w:World)(g:Nat)(cs:Array Value):w.grownBy (w.setRow g cs) (some g):=
 ⟨rfl,rfl,rfl,by simp,fun k _ hk=>setRow_other w g k cs (fun e=>hk (by simp[e]))⟩
theorem eX {ops:Array Oper}{rest:List Oper}{o:Oper}{a:Act}{Q:Exit->Act->World->Prop}{t:TypeId}{x y:Operand}(hg:w.heap[g]?=some (.cells old t (0,0)))(h:wpList Tryz.prog ops Q rest a (w.setRow g cells))
  (ho:o.op =.store ty x y:=by exact rfl) (hx:a.eval x =.pointer (some ⟨g,0,none⟩):=by exact rfl) (hy:a.eval y =.agg cells:=by exact rfl) (a1:o.guard=none:=by exact rfl) (hd:o.dst=none:=by exact rfl)
  (hi:(Tryz.prog.info? ty).map (·.size)=some cells.size:=by kernel_rfl) (a0:old.size=cells.size:=by exact rfl) (h1:cells.all (·.oneCell')=true:=by simp[Value.oneCell']):wpList Tryz.prog ops Q (o::rest) a w:=
 wpList_store_rowTo a1 ty x y ho hd g cells hx hy t old hg hi a0 h1 h
