import Derived.Test.YtgkkffeagolnpaaGreatDoorGZ16ad
import Derived.Lib.ItoaMem
set_option linter.unusedVariables false
set_option linter.unusedSimpArgs false
namespace Go.Proofs.YtgkkffeagolnpaaGreatDoor
variable {d:Dc}{j:JV}{xs ys zs:List UInt8}{c n:Nat}
def F4 (x y:List Int):Prop:= ∃p a b s t,x=p++a::s/\y=p++b::t/\a≠b
def Pf (x y:List Int):Prop:=x=y\/F4 x y
theorem F4.app {x y:List Int}(h:F4 x y)(s t:List Int):F4 (x++s) (y++t):=by
 obtain⟨p,a,b,u,v,rfl,rfl,hne⟩:=h;exact⟨p,a,b,u++s,v++t,by simp,by simp,hne⟩
theorem F4.pre {x y:List Int}(h:F4 x y)(q:List Int):F4 (q++x) (q++y):=by
 obtain⟨p,a,b,u,v,rfl,rfl,hne⟩:=h;exact⟨q++p,a,b,u,v,by simp,by simp,hne⟩
theorem Pf.app {x y s t:List Int}(h:Pf x y)(h2:Pf s t):Pf (x++s) (y++t):=by
 rcases h with rfl|h
 ·rcases h2 with rfl|h2
  ·exact .inl rfl
  ·exact .inr (h2.pre _)
 ·exact .inr (h.app _ _)
theorem Pf.head {a b:Int}{s t:List Int}(h:a=b->Pf s t):Pf (a::s) (b::t):=by
 by_cases e:a=b
 ·subst e;exact Pf.app (x:= [a]) (y:= [a]) (.inl rfl) (h rfl)
 ·exact .inr ⟨[],a,b,s,t,rfl,rfl,e⟩
theorem ey (a b:Int)(x y:List Int):aJ (a::x) (b::y)=if a<b then -1 else if b<a then 1 else aJ x y:=by
 conv=>lhs;unfold aJ
theorem rO (q x y:List Int):aJ (q++x) (q++y)=aJ x y:=by
 induction q with
 |nil=>rfl
 |cons a q ih=>show aJ (a:: (q++x)) (a:: (q++y))=_;rw[ey,if_neg (by omega),if_neg (by omega),ih]
theorem Cw {x y:List Int}(h:F4 x y)(s t:List Int):aJ (x++s) (y++t)=aJ x y/\aJ x y≠0:=by
 obtain⟨p,a,b,u,v,rfl,rfl,hne⟩:=h;rw[List.append_assoc,List.append_assoc,rO,rO];simp only[List.cons_append,ey]
 by_cases h1:a<b
 ·simp[h1]
 ·have h2:b<a:=by omega
  simp[h1,h2]
theorem AJ:∀ {x y:List Int},(∀c∈x,0<=c)->(∀c∈y,0<=c)->Pf (x ++ [-1]) (y ++ [-1])/\aJ (x ++ [-1]) (y ++ [-1])=aJ x y
 | [], [],_,_=>⟨.inl rfl,rfl⟩
 | [],b::y,_,hy=>by
  have:=hy b (by simp);refine⟨Pf.head fun e=>by omega,?_⟩
  show aJ (-1:: []) (b:: (y ++ [-1])) = -1
  rw[ey,if_pos (by omega)]
 |a::x, [],hx,_=>by
  have:=hx a (by simp);refine⟨Pf.head fun e=>by omega,?_⟩
  show aJ (a:: (x ++ [-1])) (-1:: [])=1
  rw[ey,if_neg (by omega),if_pos (by omega)]
 |a::x,b::y,hx,hy=>by
  have ih:=AJ (x:=x) (y:=y) (fun c h=>hx c (Zl _ h)) (fun c h=>hy c (Zl _ h));refine⟨Pf.head fun _=>ih.1,?_⟩
  show aJ (a:: (x ++ [-1])) (b:: (y ++ [-1]))=aJ (a::x) (b::y)
  rw[ey,ey,ih.2]
theorem i6:∀ (f:Nat) (xs:List UInt8),∀c∈dX zH f xs,0<=c
 |0,_,c,h=>by simp[dX] at h
 |_+1, [],c,h=>by simp[dX] at h
 |f+1,x::t,c,h=>by
  unfold dX at h
  split at h
  ·rcases List.mem_cons.1 h with rfl|h
   ·exact Int.natCast_nonneg _
   ·exact i6 f _ c h
  ·rcases List.mem_cons.1 h with rfl|h
   ·unfold zH;omega
   ·exact i6 f _ c h
theorem BR (s:ByteArray):∀c∈nm s,0<=c:=i6 _ _
def rt (s:ByteArray):List Int:=nm s ++ [-1]
theorem oX (s t:ByteArray):Pf (rt s) (rt t):=(AJ (BR s) (BR t)).1
theorem sZ {s t:ByteArray}(h:rt s=rt t):s=t:=qt (List.append_cancel_right h)
def zF (d:Dc):Int:=if d.digits= ⟨#[48]⟩ then 0 else if d.neg then -1 else 1
def p7 (s:Int):List UInt8->List Int
 | []=> [0]
 |c::l=>s* (c.toNat+1)::p7 s l
def wB (d:Dc):List Int:=if zF d=0 then [0] else zF d::zF d* (d.digits.size+d.exp)::p7 (zF d) d.digits.data.toList
theorem wZ {s:Int}(hs:s≠0):∀ (l m:List UInt8),Pf (p7 s l) (p7 s m)
 | [], []=>.inl rfl
 | [],c::m=>Pf.head fun e=>by
  have:=(Int.mul_eq_zero.1 e.symm).resolve_left hs;omega
 |c::l, []=>Pf.head fun e=>by
  have:=(Int.mul_eq_zero.1 e).resolve_left hs;omega
 |c::l,d::m=>Pf.head fun _=>wZ hs l m
theorem rg {s:Int}(hs:s≠0):∀ {l m:List UInt8},p7 s l=p7 s m->l=m
 | [], [],_=>rfl
 | [],c::m,e=>by
  simp only[p7,List.cons.injEq] at e;have:=(Int.mul_eq_zero.1 e.1.symm).resolve_left hs;omega
 |c::l, [],e=>by
  simp only[p7,List.cons.injEq] at e;have:=(Int.mul_eq_zero.1 e.1).resolve_left hs;omega
 |c::l,d::m,e=>by
  simp only[p7,List.cons.injEq] at e;have h1:=Int.eq_of_mul_eq_mul_left hs e.1;rw[rg hs e.2,show c=d from UInt8.toNat_inj.1 (by omega)]
theorem DQ (a b:Dc):Pf (wB a) (wB b):=by
 unfold wB
 by_cases ha:zF a=0
 ·rw[if_pos ha]
  by_cases hb:zF b=0
  ·rw[if_pos hb];exact .inl rfl
  ·rw[if_neg hb];exact Pf.head fun e=>absurd e.symm hb
 ·rw[if_neg ha]
  by_cases hb:zF b=0
  ·rw[if_pos hb];exact Pf.head fun e=>absurd e ha
  ·rw[if_neg hb];exact Pf.head fun e=>Pf.head fun _=>by rw[e];exact wZ hb _ _
def pT (d:Dc):Prop:=d.digits= ⟨#[48]⟩->d= ⟨false,⟨#[48]⟩,0⟩
theorem Ca {a b:Dc}(ha:pT a)(hb:pT b)(h:wB a=wB b):a=b:=by
 unfold wB at h
 by_cases h1:zF a=0
 ·rw[if_pos h1] at h
  by_cases h2:zF b=0
  ·have e1:a.digits= ⟨#[48]⟩:=by unfold zF at h1;split at h1;assumption;split at h1 <;> simp at h1
   have e2:b.digits= ⟨#[48]⟩:=by unfold zF at h2;split at h2;assumption;split at h2 <;> simp at h2
   rw[ha e1,hb e2]
  ·rw[if_neg h2] at h;injection h with h;exact absurd h.symm h2
 ·rw[if_neg h1] at h
  by_cases h2:zF b=0
  ·rw[if_pos h2] at h;injection h with h;exact absurd h h1
  ·rw[if_neg h2] at h;injection h with e1 h
   injection h with e2 e3
   rw[e1] at e2 e3;have hd:a.digits=b.digits:=by
    have:=rg h2 e3
    cases ha':a.digits with|mk x=>cases hb':b.digits with|mk y=>rw[ha',hb'] at this;simp at this;rw[this]
   have hx:=Int.eq_of_mul_eq_mul_left h2 e2;have hn:a.neg=b.neg:=by
    unfold zF at e1 h1 h2
    split at h1
    ·exact absurd rfl h1
    ·split at h2
     ·exact absurd rfl h2
     ·rename_i g1 g2
      rw[if_neg g1,if_neg g2] at e1
      revert e1;cases a.neg <;> cases b.neg <;> simp
   obtain⟨an,ad,ax⟩:=a;obtain⟨bn,bd,bx⟩:=b;simp only at hd hn hx;subst hd hn;rw[show ax=bx by omega]
mutual
/-- What stands for a value. -/
def JV.key:JV->List Int
 | .mk k t x n ns ks=>k:: (if k=2 then [if t then 1 else 0] else if k=3 then wB n else if k=4 then rt x else JV.keys (k=6) ns ks)
def JV.keys:Bool->List ByteArray->List JV->List Int
 |_,_, []=> [0]
 |o,ns,v::vs=>1:: ((if o then rt (ns.headD ⟨#[]⟩) else [])++ (JV.key v++JV.keys o ns.tail vs))
end
theorem uv {us:List JV}(h:∀u∈us,∀w:JV,Pf u.key w.key)(o:Bool):∀ (ns ms:List ByteArray) (ws:List JV),Pf (JV.keys o ns us) (JV.keys o ms ws):=by
 induction us with
 |nil=>
  intro ns ms ws
  cases ws with
  |nil=>exact .inl rfl
  |cons w ws=>exact Pf.head fun e=>by omega
 |cons u us ih=>
  intro ns ms ws
  cases ws with
  |nil=>exact Pf.head fun e=>by omega
  |cons w ws=>
   refine Pf.head fun _=>Pf.app ?_ ((h u (by simp) w).app (ih (fun u hu=>h u (Zl _ hu)) ..))
   cases o
   ·exact .inl rfl
   ·exact oX _ _
theorem GY (u:JV):∀w:JV,Pf u.key w.key:=by
 refine JV.ind (P:=fun u=> ∀w:JV,Pf u.key w.key) (fun k t x n ns ks ih w=>?_) u;obtain⟨k',t',x',n',ns',ks'⟩:=w;unfold JV.key;refine Pf.head fun e=>?_
 subst e
 by_cases h2:k=2
 ·rw[if_pos h2,if_pos h2];exact Pf.head fun _=>.inl rfl
 ·rw[if_neg h2,if_neg h2]
  by_cases h3:k=3
  ·rw[if_pos h3,if_pos h3];exact DQ _ _
  ·rw[if_neg h3,if_neg h3]
   by_cases h4:k=4
   ·rw[if_pos h4,if_pos h4];exact oX _ _
   ·rw[if_neg h4,if_neg h4];exact uv ih _ _ _ _
inductive Vl:JV->Prop
 |null:Vl (.mk 1 false ⟨#[]⟩ ⟨false,⟨#[]⟩,0⟩ [] [])
 |bool (b:Bool):Vl (.mk 2 b ⟨#[]⟩ ⟨false,⟨#[]⟩,0⟩ [] [])
 |num (d:Dc):pT d->Vl (.mk 3 false ⟨#[]⟩ d [] [])
 |text (s:ByteArray):Vl (.mk 4 false s ⟨false,⟨#[]⟩,0⟩ [] [])
 |hole:Vl (.mk 7 false ⟨#[]⟩ ⟨false,⟨#[]⟩,0⟩ [] [])
 |list (ks:List JV):(∀u∈ks,Vl u)->Vl (.mk 5 false ⟨#[]⟩ ⟨false,⟨#[]⟩,0⟩ [] ks)
 |obj (ns:List ByteArray) (ks:List JV):ns.length=ks.length->(∀u∈ks,Vl u)->Vl (.mk 6 false ⟨#[]⟩ ⟨false,⟨#[]⟩,0⟩ ns ks)
theorem Pf.split {x y s t:List Int}(h:Pf x y)(e:x++s=y++t):x=y/\s=t:=by
 rcases h with rfl|h
 ·exact⟨rfl,List.append_cancel_left e⟩
 ·have h1:=Cw h s t;rw[e,ev] at h1;exact absurd h1.1.symm h1.2
theorem qW {us:List JV}(h:∀u∈us,∀w:JV,Vl w->u.key=w.key->u=w)(o:Bool):∀ (ns ms:List ByteArray) (ws:List JV),(∀w∈ws,Vl w)->JV.keys o ns us=JV.keys o ms ws->us=ws/\(o=true->ns.length=us.length->ms.length=ws.length->ns=ms):=by
 induction us with
 |nil=>
  intro ns ms ws hw e
  cases ws with
  |nil=>exact⟨rfl,fun _ h1 h2=>by rw[List.eq_nil_of_length_eq_zero h1,List.eq_nil_of_length_eq_zero h2]⟩
  |cons w ws=>simp[JV.keys] at e
 |cons u us ih=>
  intro ns ms ws hw e
  cases ws with
  |nil=>simp[JV.keys] at e
  |cons w ws=>
   simp only[JV.keys,List.cons.injEq,true_and] at e;have hp:Pf (if o then rt (ns.headD ⟨#[]⟩) else []) (if o then rt (ms.headD ⟨#[]⟩) else []):=by
    cases o
    ·exact .inl rfl
    ·exact oX _ _
   obtain⟨e1,e2⟩:=hp.split e;obtain⟨e3,e4⟩:=(GY u w).split e2;obtain rfl:=h u (by simp) w (hw w (by simp)) e3;obtain⟨rfl,h5⟩:=ih (fun u hu=>h u (Zl _ hu)) _ _ ws (fun w h=>hw w (Zl _ h)) e4;refine⟨rfl,fun ho h1 h2=>?_⟩;subst ho
   cases ns with
   |nil=>simp at h1
   |cons a ns=>
    cases ms with
    |nil=>simp at h2
    |cons b ms=>
     simp only[if_true,List.headD_cons] at e1;have h6:ns=ms:=h5 rfl (by simpa using h1) (by simpa using h2);rw[sZ e1,h6]
theorem Vl.inj {u:JV}(hu:Vl u):∀w:JV,Vl w->u.key=w.key->u=w:=by
 induction hu with
 |null=>intro w hw e;cases hw <;> simp[JV.key] at e ⊢
 |bool b=>intro w hw e;cases hw <;> simp[JV.key] at e ⊢;rename_i c;cases b <;> cases c <;> simp at e ⊢
 |num d hd=>
  intro w hw e
  cases hw with
  |num d' hd'=>simp[JV.key] at e;rw[Ca hd hd' e]
  |null|bool|text|hole|list|obj=>simp[JV.key] at e
 |text s=>
  intro w hw e
  cases hw with
  |text s'=>simp[JV.key] at e;rw[sZ e]
  |null|bool|num|hole|list|obj=>simp[JV.key] at e
 |hole=>intro w hw e;cases hw <;> simp[JV.key] at e ⊢
 |list ks _ ih=>
  intro w hw e
  cases hw with
  |list ks' h'=>simp[JV.key] at e;rw[(qW ih false [] [] ks' h' e).1]
  |null|bool|num|hole|text|obj=>simp[JV.key] at e
 |obj ns ks hl _ ih=>
  intro w hw e
  cases hw with
  |obj ns' ks' hl' h'=>
   simp[JV.key] at e;obtain⟨h1,h2⟩:=qW ih true ns ns' ks' h' e;rw[h1,h2 rfl hl hl']
  |null|bool|num|hole|text|list=>simp[JV.key] at e
theorem Vl.kind {u:JV}(h:Vl u):1<=u.key.headD 0:=by cases h <;> simp[JV.key]
def bA (x:UInt8):Bool:=x==32||x==9||x==10||x==13
def cv (x:UInt8):Bool:=decide (97<=x.toNat/\x.toNat<=122\/65<=x.toNat/\x.toNat<=90)
def ef (x:UInt8):Bool:=decide (48<=x.toNat/\x.toNat<=57)
def I7 (x:UInt8):Bool:=x==44||x==58||x==91||x==93||x==123||x==125
def bo (x:UInt8):Nat:=if bA x then 1 else if I7 x then 2 else if cv x then 3 else if ef x||x==45 then 4 else if x==34 then 5 else 0
def bf (c:UInt8):Nat:=if c==45 then 0 else if c==43 then 1 else if c==48 then 2 else if decide (49<=c.toNat/\c.toNat<=57) then 3 else if c==46 then 4 else if c==101||c==69 then 5 else 6
def mA:List Nat:= [1,9,2,3,9,9,9,9,2,3,9,9,9,9,9,9,4,6,9,9,3,3,4,6,9,9,5,5,9,9,9,9,5,5,9,6,7,7,8,8,9,9,9,9,8,8,9,9,9,9,8,8,9,9]
def dK (s k:Nat):Nat:=if k<6 then mA.getD (s*6+k) 9 else 9
structure NS where
 neg:Bool
 down:Bool
 digs:List UInt8
 part:Nat
 exps:List UInt8
 st:Nat
 n:Nat
def fX:NS:=⟨false,false, [],0, [],0,0⟩
def NS.next (t:NS)(c:UInt8):NS:=
 let s:=dK t.st (bf c)
 {neg:=t.neg||s==1
  down:=if s=7 then c==45 else t.down
  digs:=if s=2\/s=3\/s=5 then t.digs ++ [c] else t.digs
  part:=if s=5 then t.part+1 else t.part
  exps:=if s=8 then t.exps ++ [c] else t.exps
  st:=s
  n:=t.n+1}
def aA:NS->List UInt8->NS
 |t, []=>t
 |t,c::xs=>if dK t.st (bf c)=9 then t else aA (t.next c) xs
def du (s:Nat):Bool:=s==2||s==3||s==5||s==8
def cZ (l:List UInt8):List UInt8:=l.dropWhile (· == 48)
def mg (l:List UInt8):List UInt8:=(cZ l.reverse).reverse
def iF (l:List UInt8):Nat:=l.foldl (fun a c=>a*10+ (c.toNat - 48)) 0
def eL (t:NS):Int:=
 let e:=cZ t.exps
 let n:Int:=if e.length<=12 then iF e else 1099511627776
 if t.down then -n else n
def mT (x:Int):Int:=max (-2199023255552) (min x 2199023255552)
def gd (neg:Bool)(digs:List UInt8)(exp more:Int):Option Dc:=
 let d:=cZ digs
 if d = [] then some ⟨false,⟨#[48]⟩,0⟩ else
 let s:=mg d
 let x:=mT exp+more+ (d.length - s.length:Int)
 if -1000000000<=x/\x<=1000000000 then some ⟨neg,⟨s.toArray⟩,x⟩ else none
def lD (xs:List UInt8):Option (Dc×Nat):=
 let t:=aA fX xs
 if du t.st then(gd t.neg t.digs (eL t) (-(t.part:Int))).map fun d=>(d,t.n) else none
def fQ (c:UInt8):Option Nat:=if 48<=c.toNat/\c.toNat<=57 then some (c.toNat - 48) else if 97<=c.toNat/\c.toNat<=102 then some (c.toNat - 87) else if 65<=c.toNat/\c.toNat<=70 then some (c.toNat - 55) else none
def cm:List UInt8->Option Nat
 |a::b::c::d::_=>do
  let a <-fQ a;let b <-fQ b;let c <-fQ c;let d <-fQ d
  return ((a*16+b)*16+c)*16+d
 |_=>none
def jn (xs:List UInt8):Option (Nat×Nat):=do
 let x <-cm xs
 if x<55296\/57343<x then return (x,6)
 match xs.drop 4 with
 |a::b::ys=>if x>56319\/a≠92\/b≠117 then none else do
  let y <-cm ys
  if y<56320\/57343<y then none else return (65536+ (x - 55296)*1024+ (y - 56320),12)
 |_=>none
def rj:List UInt8->Option (Nat×Nat)
 |98::_=>some (8,2)
 |116::_=>some (9,2)
 |110::_=>some (10,2)
 |102::_=>some (12,2)
 |114::_=>some (13,2)
 |34::_=>some (34,2)
 |92::_=>some (92,2)
 |47::_=>some (47,2)
 |117::xs=>jn xs
 |_=>none
def bC:List UInt8->Option (Option (Nat×Nat))
 | []=>none
 |x::xs=>if x=34 then some none else if x=92 then(rj xs).map some else if x.toNat<32 then none
  else if(bg (x::xs)).2.2=0 then some (some ((bg (x::xs)).1,(bg (x::xs)).2.1)) else none
def eM:Nat->List UInt8->List UInt8->Nat->Option (List UInt8×Nat)
 |0,_,_,_=>none
 |f+1,xs,out,n=>match bC xs with
  |none=>none
  |some none=>some (out,n+1)
  |some (some (c,k))=>eM f (xs.drop k) (out++a7 c) (n+k)
def jI:List UInt8->Option (List UInt8×Nat)
 |34::xs=>eM (xs.length+1) xs [] 1
 |_=>none
inductive lx where
 |mark (c:UInt8)
 |str (s:ByteArray)
 |leaf (j:JV)
def oM:JV:=.mk 1 false ⟨#[]⟩ ⟨false,⟨#[]⟩,0⟩ [] []
def iH (b:Bool):JV:=.mk 2 b ⟨#[]⟩ ⟨false,⟨#[]⟩,0⟩ [] []
def lA (d:Dc):JV:=.mk 3 false ⟨#[]⟩ d [] []
def aZ (s:ByteArray):JV:=.mk 4 false s ⟨false,⟨#[]⟩,0⟩ [] []
def cJ (ks:List JV):JV:=.mk 5 false ⟨#[]⟩ ⟨false,⟨#[]⟩,0⟩ [] ks
def fV (ms:List (ByteArray×JV)):JV:=.mk 6 false ⟨#[]⟩ ⟨false,⟨#[]⟩,0⟩ (ms.map Prod.fst) (ms.map Prod.snd)
def kW (w:List UInt8):Option JV:=if w = [110,117,108,108] then some oM else if w = [116,114,117,101] then some (iH true) else if w = [102,97,108,115,101] then some (iH false) else none
def bK:List UInt8->Option (lx×Nat)
 | []=>none
 |x::xs=>match bo x with
  |2=>some (.mark x,1)
  |3=>(kW (x::xs.takeWhile cv)).map fun j=>(.leaf j,1+ (xs.takeWhile cv).length)
  |4=>(lD (x::xs)).map fun p=>(.leaf (lA p.1),p.2)
  |5=>(jI (x::xs)).map fun p=>(.str ⟨p.1.toArray⟩,p.2)
  |_=>none
structure Fr where
 obj:Bool
 items:List JV
 mems:List (ByteArray×JV)
 name:Option ByteArray
structure bR where
 frs:List Fr
 want:Nat
 done:Option JV
def px (want:Nat)(c:UInt8):Bool:=(match want with
 |0=> [91,123]
 |1=> [91,123,93]
 |3=> [125]
 |4=> [58]
 |5=> [44,93]
 |6=> [44,125]
 |_=>([]:List UInt8)).contains c
def bD (frs:List Fr)(j:JV):bR:=match frs with
 | []=>⟨[],7,some j⟩
 |f::fs=>if f.obj then⟨{f with mems:=f.mems ++ [(f.name.getD ⟨#[]⟩,j)],name:=none}::fs,6,none⟩ else⟨{f with items:=f.items ++ [j]}::fs,5,none⟩
def ml (m:ByteArray×JV):List (ByteArray×JV)->List (ByteArray×JV)
 | []=> [m]
 |x::l=>if aJ (nm m.1) (nm x.1)<0 then m::x::l else x::ml m l
def cW (l:List (ByteArray×JV)):List (ByteArray×JV):=l.foldr ml []
def cK (f:Fr):JV:=if f.obj then fV (cW f.mems) else cJ f.items
def bH (c:bR):lx->Option bR
 | .mark x=>if px c.want x then
   (if x=91 then some ⟨⟨false, [], [],none⟩::c.frs,1,none⟩
   else if x=123 then some ⟨⟨true, [], [],none⟩::c.frs,3,none⟩
   else match c.frs with
    | []=>none
    |f::fs=>if x=93\/x=125 then some (bD fs (cK f)) else if x=44 then some ⟨f::fs,if f.obj then 2 else 0,none⟩ else some ⟨f::fs,0,none⟩) else none
 | .str s=>if c.want=2\/c.want=3 then(match c.frs with
   | []=>none
   |f::fs=>if f.mems.any (fun p=>decide (p.1=s)) then none else some ⟨{f with name:=some s}::fs,4,none⟩)
  else if c.want=0\/c.want=1 then some (bD c.frs (aZ s)) else none
 | .leaf j=>if c.want=0\/c.want=1 then some (bD c.frs j) else none
def gi:Nat->bR->List UInt8->Option JV
 |0,_,_=>none
 |f+1,c,xs=>match xs.dropWhile bA with
  | []=>if c.want=7 then c.done else none
  |y::ys=>match bK (y::ys) with
   |none=>none
   |some (t,n)=>match bH c t with
    |none=>none
    |some c'=>gi f c' ((y::ys).drop n)
def dB (xs:List UInt8):Option JV:=gi (xs.length+1) ⟨[],0,none⟩ xs
inductive cR:bR->List UInt8->bR->List UInt8->Prop
 |refl (c:bR) (xs:List UInt8):cR c xs c xs
 |step {c c' c'':bR} {xs ys zs:List UInt8} {y:UInt8} {t:lx} {n:Nat} (h1:xs.dropWhile bA=y::ys) (h2:bK (y::ys)=some (t,n)) (h3:bH c t=some c') (h4:cR c' ((y::ys).drop n) c'' zs):cR c xs c'' zs
theorem cR.trans {a b c:bR}(h:cR a xs b ys)(k:cR b ys c zs):cR a xs c zs:=by
 induction h with
 |refl=>exact k
 |step h1 h2 h3 _ ih=>exact .step h1 h2 h3 (ih k)
theorem cR.one {c c':bR}{y:UInt8}{t:lx}(h1:bA y=false)(h2:bK (y::ys)=some (t,n))(h3:bH c t=some c'):cR c (y::ys) c' ((y::ys).drop n):=
 .step (by rw[List.dropWhile_cons,if_neg (by simp[h1])]) h2 h3 (.refl _ _)
theorem mB:∀ (xs:List UInt8) (t:NS),t.n<=(aA t xs).n/\(aA t xs).n<=t.n+xs.length
 | [],t=>⟨Zb _,Zb _⟩
 |c::xs,t=>by
  unfold aA
  split
  ·exact⟨Zb _,by simp⟩
  ·have:=mB xs (t.next c);simp only[NS.next,List.length_cons] at this ⊢;omega
theorem sB {x:UInt8}{p:Dc×Nat}(h:lD (x::xs)=some p):1<=p.2/\p.2<=xs.length+1:=by
 simp only[lD] at h
 split at h
 ·rename_i hw
  rw[Option.map_eq_some_iff] at h;obtain⟨d,-,rfl⟩:=h;have hb:=mB (x::xs) fX;refine⟨?_,by simpa [fX] using hb.2⟩;unfold aA at hw ⊢
  split at hw
  ·simp[fX,du] at hw
  ·rename_i h9
   rw[if_neg h9];have:=(mB xs (fX.next x)).1;simp only[NS.next,fX] at this ⊢;omega
 ·cases h
theorem xr:∀ (f:Nat) (xs out:List UInt8) (n:Nat) (p:List UInt8×Nat),eM f xs out n=some p->n+1<=p.2
 |0,_,_,_,_,h=>by cases h
 |f+1,xs,out,n,p,h=>by
  unfold eM at h
  split at h
  ·cases h
  ·injection h with h;subst h;exact Zb _
  ·have:=xr f _ _ _ p h;omega
theorem mH {t:lx}(h:bK xs=some (t,n)):1<=n/\xs≠ []:=by
 cases xs with
 |nil=>cases h
 |cons x xs=>
  refine⟨?_,by simp⟩;simp only[bK] at h
  split at h
  ·injection h with h;injection h with _ h;omega
  ·rw[Option.map_eq_some_iff] at h;obtain⟨j,-,h⟩:=h;injection h with _ h;omega
  ·rw[Option.map_eq_some_iff] at h;obtain⟨p,hp,h⟩:=h;injection h with _ h
   have:=sB hp;omega
  ·rw[Option.map_eq_some_iff] at h;obtain⟨p,hp,h⟩:=h;injection h with _ h
   unfold jI at hp
   split at hp
   ·have:=xr _ _ _ _ _ hp;omega
   ·cases hp
  ·cases h
theorem bV (xs:List UInt8):(xs.dropWhile bA).length<=xs.length:=(List.dropWhile_sublist _).length_le
theorem nP:∀ (f g:Nat) (c:bR) (xs:List UInt8),xs.length<f->xs.length<g->gi f c xs=gi g c xs
 |0,_,_,_,h,_=>absurd h (Nat.not_lt_zero _)
 |_+1,0,_,_,_,h=>absurd h (Nat.not_lt_zero _)
 |f+1,g+1,c,xs,h1,h2=>by
  unfold gi
  cases he:xs.dropWhile bA with
  |nil=>rfl
  |cons y ys=>
   simp only
   cases hl:bK (y::ys) with
   |none=>rfl
   |some p=>
    obtain⟨t,n⟩:=p;simp only
    cases bH c t with
    |none=>rfl
    |some c'=>
     simp only;have hn:=(mH hl).1;have hd:=bV xs;rw[he] at hd;simp only[List.length_cons] at hd;exact nP f g c' _ (by rw[List.length_drop,List.length_cons];omega) (by rw[List.length_drop,List.length_cons];omega)
theorem xI {c c':bR}(h:cR c xs c' ys):gi (xs.length+1) c xs=gi (ys.length+1) c' ys:=by
 induction h with
 |refl=>rfl
 | @step c c' c'' xs ys zs y t n h1 h2 h3 _ ih=>
  rw[<-ih];have hn:=(mH h2).1;have hd:=bV xs;rw[h1] at hd;simp only[List.length_cons] at hd
  conv=>lhs;unfold gi
  simp only[h1,h2,h3];exact nP _ _ _ _ (by rw[List.length_drop,List.length_cons];omega) (by omega)
theorem sS (h:cR ⟨[],0,none⟩ xs ⟨[],7,some j⟩ ys)(hy:ys.dropWhile bA = []):dB xs=some j:=by
 unfold dB;rw[xI h];unfold gi;rw[hy];rfl
theorem sN {p:UInt8->Bool}(h:∀n,n<256->p (UInt8.ofNat n)=true)(c:UInt8):p c=true:=by
 have:=h c.toNat c.toNat_lt
 rwa[UInt8.ofNat_toNat] at this
theorem so {c:UInt8}(h:ef c=true):bf c=2\/bf c=3:=by
 have:=sN (p:=fun c=> !ef c||(bf c==2||bf c==3)) (by decide +kernel) c;simp[h] at this;exact this
theorem Ey {c:UInt8}(h:ef c=true)(h0:c≠48):bf c=3:=by
 have:=sN (p:=fun c=> !ef c||(c==48||bf c==3)) (by decide +kernel) c;simpa [h,h0] using this
def ob (zs:List UInt8):Prop:= ∀c l,zs=c::l->bf c=6
theorem je {t:NS}(h:ob zs):aA t zs=t:=by
 cases zs with
 |nil=>rfl
 |cons c l=>
  unfold aA;rw[h c l rfl,if_pos (by simp[dK])]
theorem zQ {s:Nat}(hs:s=3\/s=5\/s=8){k:Nat}(hk:k=2\/k=3):dK s k=s:=by
 rcases hs with rfl|rfl|rfl <;> rcases hk with rfl|rfl <;> rfl
theorem jp {s:Nat}(hs:s=3\/s=5\/s=8):∀ (ds:List UInt8) (t:NS) (zs:List UInt8),t.st=s->(∀c∈ds,ef c=true)->
  aA t (ds++zs)=aA {neg:=t.neg,down:=t.down,digs:=if s=8 then t.digs else t.digs++ds,part:=if s=5 then t.part+ds.length else t.part,exps:=if s=8 then t.exps++ds else t.exps,st:=t.st,n:=t.n+ds.length} zs
 | [],t,zs,h,_=>by obtain⟨a,b,c,d,e,f,g⟩:=t;simp
 |c::ds,t,zs,h,hd=>by
  have hk:=zQ hs (so (hd c (by simp)));rw[<-h] at hk;have h1:aA t (c::ds++zs)=aA (t.next c) (ds++zs):=by
   show aA t (c:: (ds++zs))=_
   conv=>lhs;unfold aA
   rw[hk,h,if_neg (by omega)]
  have hn:(t.next c).st=s:=by show dK t.st (bf c)=s;rw[hk,h]
  rw[h1,jp hs ds _ zs hn (fun c hc=>hd c (Zl _ hc))];obtain⟨a,b,c',d,e,f,g⟩:=t;simp only at h hk;subst h;simp only[NS.next,hk,List.length_cons];rcases hs with rfl|rfl|rfl <;> simp[Nat.add_assoc,Nat.add_comm 1]
theorem jb {c:UInt8}{l:List UInt8}(h:c≠48):cZ (c::l)=c::l:=by
 unfold cZ;rw[List.dropWhile_cons,if_neg (by simpa using h)]
theorem vB {l:List UInt8}(h:∀c,l.getLast?=some c->c≠48):mg l=l:=by
 unfold mg
 cases hr:l.reverse with
 |nil=>simp[cZ];simpa using hr.symm
 |cons c m=>
  rw[jb (h c (by rw[List.getLast?_eq_head?_reverse,hr];rfl)),<-hr,List.reverse_reverse]
theorem nU (l:List UInt8)(c:UInt8):iF (l ++ [c])=iF l*10+ (c.toNat - 48):=by
 unfold iF;rw[List.foldl_append];rfl
theorem EI {k:Nat}(h:k<10):(UInt8.ofNat (48+k)).toNat=48+k:=bm _ (by omega)
theorem wV {k:Nat}(h:k<10):ef (UInt8.ofNat (48+k))=true:=by unfold ef;rw[EI h];simp;omega
theorem nu (u:Nat):∀c∈Lib.decDigits u,ef c=true:=by
 induction u using Nat.strongRecOn with
 |ind u ih=>
  rw[Lib.decDigits]
  split
  ·rename_i h
   intro c hc;rw[List.mem_singleton.1 hc];exact wV h
  ·intro c hc;rcases List.mem_append.1 hc with hc|hc
   ·exact ih (u/10) (by omega) c hc
   ·rw[List.mem_singleton.1 hc];exact wV (by omega)
theorem zS (u:Nat):iF (Lib.decDigits u)=u:=by
 induction u using Nat.strongRecOn with
 |ind u ih=>
  rw[Lib.decDigits]
  split
  ·rename_i h
   show 0*10+ ((UInt8.ofNat (48+u)).toNat - 48)=u
   rw[EI h];omega
  ·rw[nU,ih (u/10) (by omega),EI (by omega)];omega
theorem mN (u:Nat):∃c l,Lib.decDigits u=c::l/\(0<u->c≠48):=by
 induction u using Nat.strongRecOn with
 |ind u ih=>
  rw[Lib.decDigits]
  split
  ·rename_i h
   refine⟨_, [],rfl,fun h0 e=>?_⟩;have:=congrArg UInt8.toNat e;rw[EI h] at this;simp at this;omega
  ·obtain⟨c,l,h1,h2⟩:=ih (u/10) (by omega);rw[h1];exact⟨c,_,rfl,fun _=>h2 (by omega)⟩
theorem eZ {u:Nat}(h:u<=1000000000):(Lib.decDigits u).length<=10:=by
 rw[Lib.decDigits_length];rw[Lib.nDigits];split
 ·omega
 rw[Lib.nDigits];split
 ·omega
 rw[Lib.nDigits];split
 ·omega
 rw[Lib.nDigits];split
 ·omega
 rw[Lib.nDigits];split
 ·omega
 rw[Lib.nDigits];split
 ·omega
 rw[Lib.nDigits];split
 ·omega
 rw[Lib.nDigits];split
 ·omega
 rw[Lib.nDigits];split
 ·omega
 rw[Lib.nDigits];split
 ·omega
 ·omega
def gj (x:Int):List UInt8:=if x=0 then [] else 101::Lib.itoa x
def eb (d:Dc):List UInt8:=(if d.neg then [45] else [])++ (d.digits.data.toList++gj d.exp)
structure IU (l:List UInt8):Prop where
 dig:∀c∈l,ef c=true
 ne:l≠ []
 first:∀c,l.head?=some c->c≠48
 JX:∀c,l.getLast?=some c->c≠48
def j1 (d:Dc):Prop:=d= ⟨false,⟨#[48]⟩,0⟩\/(IU d.digits.data.toList/\ -1000000000<=d.exp/\d.exp<=1000000000)
theorem yW {t:NS}(ht:t.st=3\/t.st=2)(h0:t.exps = [])(hd:t.down=false)(x:Int)(hx: -1000000000<=x/\x<=1000000000)(hz:ob zs) :
  ∃t',aA t (gj x++zs)=t'/\t'.neg=t.neg/\t'.digs=t.digs/\t'.part=t.part/\t'.n=t.n+ (gj x).length/\du t'.st=true/\eL t'=x:=by
 unfold gj
 by_cases h:x=0
 ·subst h;rw[if_pos rfl,List.nil_append,je hz];refine⟨t,rfl,rfl,rfl,rfl,rfl,?_,?_⟩
  ·rcases ht with h|h <;> rw[h] <;> rfl
  ·unfold eL;rw[h0,hd];simp[cZ,iF]
 ·rw[if_neg h];have e1:aA t (101::Lib.itoa x++zs)=aA (t.next 101) (Lib.itoa x++zs):=by
   show aA t (101:: (Lib.itoa x++zs))=_
   conv=>lhs;unfold aA
   rw[if_neg (by rcases ht with h|h <;> rw[h] <;> decide)]
  have s1:(t.next 101).st=6:=by simp only[NS.next];rcases ht with h|h <;> rw[h] <;> rfl
  have q1:(t.next 101).neg=t.neg/\(t.next 101).digs=t.digs/\(t.next 101).part=t.part/\(t.next 101).n=t.n+1/\(t.next 101).exps = []/\(t.next 101).down=false:=by
   have s1':=s1;simp only[NS.next] at s1' ⊢;rw[s1'];simp[h0,hd]
  rw[e1];generalize t.next 101=u at s1 q1;obtain⟨k1,k2,k3,k4,k5,k6⟩:=q1
  -- the digits
  have main:∀ (v:NS) (m:Nat),(v.st=6\/v.st=7)->v.exps = []->0<m->m<=1000000000->∃t',aA v (Lib.decDigits m++zs)=t'/\t'.neg=v.neg/\t'.digs=v.digs/\t'.part=v.part/\t'.n=v.n+ (Lib.decDigits m).length/\du t'.st=true/\eL t'=if v.down then -(m:Int) else m:=by
   intro v m hv he hm a1;obtain⟨c,l,hc,a2⟩:=mN m;have a0:=nu m;rw[hc] at a0;have hk:=so (a0 c (by simp));have g8:dK v.st (bf c)=8:=by rcases hv with h|h <;> rcases hk with h'|h' <;> rw[h,h'] <;> rfl
   have e2:aA v (Lib.decDigits m++zs)=aA (v.next c) (l++zs):=by
    rw[hc]
    show aA v (c:: (l++zs))=_
    conv=>lhs;unfold aA
    rw[g8,if_neg (by omega)]
   have s2:(v.next c).st=8:=by simp only[NS.next];exact g8
   refine⟨_,rfl,?_⟩;rw[e2,jp (.inr (.inr rfl)) l _ zs s2 (fun c h=>a0 c (Zl _ h)),je hz];have hlen:=eZ a1;rw[hc] at hlen;have a4:v.exps ++ [c]++l=Lib.decDigits m:=by rw[he,hc];rfl
   have a3:(v.next c).exps++l=Lib.decDigits m:=by simp only[NS.next,g8];simpa [he] using hc.symm
   refine⟨by simp[NS.next,g8],by simp[NS.next,g8],by simp[NS.next,g8],by simp[NS.next,hc];omega,by show du (v.next c).st=true;rw[s2];rfl,?_⟩;unfold eL;simp only[if_true,a3];have e4:(if(c::l).length<=12 then((iF (c::l):Nat):Int) else 1099511627776)=m:=by rw[if_pos (by omega),<-hc,zS]
   rw[hc,jb (a2 hm),e4];simp[NS.next,g8]
  by_cases hn:x<0
  ·obtain⟨m,rfl⟩:∃m:Nat,x = -(m:Int):=⟨x.natAbs,by omega⟩;rw[Lib.itoa_neg m (by omega)];have e3:aA u (45::Lib.decDigits m++zs)=aA (u.next 45) (Lib.decDigits m++zs):=by
    show aA u (45:: (Lib.decDigits m++zs))=_
    conv=>lhs;unfold aA
    rw[s1,if_neg (by decide)]
   have g7:dK u.st (bf 45)=7:=by rw[s1];rfl
   obtain⟨t',r1,r2,r3,r4,r5,r6,r7⟩:=main (u.next 45) m (by simp[NS.next,g7]) (by simp[NS.next,g7,k5]) (by omega) (by omega);refine⟨t',by rw[e3,r1],?_,?_,?_,?_,r6,?_⟩
   ·rw[r2,<-k1];simp[NS.next,g7]
   ·rw[r3,<-k2];simp[NS.next,g7]
   ·rw[r4,<-k3];simp[NS.next,g7]
   ·rw[r5,show(u.next 45).n=u.n+1 from rfl,k4];simp;omega
   ·rw[r7];simp[NS.next,g7]
  ·obtain⟨m,rfl⟩:∃m:Nat,x= (m:Int):=⟨x.natAbs,by omega⟩;rw[Lib.itoa_nonneg m];obtain⟨t',r1,r2,r3,r4,r5,r6,r7⟩:=main u m (.inl s1) k5 (by omega) (by omega);exact⟨t',r1,r2.trans k1,r3.trans k2,r4.trans k3,by rw[r5,k4];simp;omega,r6,by rw[r7,k6];simp⟩
theorem se {x:Int}(h: -1000000000<=x/\x<=1000000000):mT x=x:=by unfold mT;omega
theorem DK (h:j1 d)(hz:ob zs):lD (eb d++zs)=some (d,(eb d).length):=by
 rcases h with rfl|⟨hl,hx⟩
 ·have e:eb ⟨false,⟨#[48]⟩,0⟩++zs=48::zs:=rfl;have e1:aA fX (48::zs)=fX.next 48:=by
   conv=>lhs;unfold aA
   rw[if_neg (by decide),je hz]
  simp only[lD,e,e1];rfl
 ·obtain⟨neg,⟨⟨ds⟩⟩,x⟩:=d;simp only[eb] at hl hx ⊢;obtain⟨hd,hne,hf,a1⟩:=hl
  cases ds with
  |nil=>exact absurd rfl hne
  |cons c l=>
   have a0:=hf c rfl;have hk:=Ey (hd c (by simp)) a0;have key:∀v:NS,(v.st=0\/v.st=1)->v.exps = []->v.down=false->v.digs = []->v.part=0->∃t',aA v ((c::l++gj x)++zs)=t'/\t'.neg=v.neg/\t'.digs=c::l/\t'.part=0/\t'.n=v.n+ (c::l++gj x).length/\du t'.st=true/\eL t'=x:=by
    intro v hv h1 h2 h3 h4;have g3:dK v.st (bf c)=3:=by rcases hv with h|h <;> rw[h,hk] <;> rfl
    have e2:aA v ((c::l++gj x)++zs)=aA (v.next c) (l++ (gj x++zs)):=by
     rw[List.append_assoc]
     show aA v (c:: (l++ (gj x++zs)))=_
     conv=>lhs;unfold aA
     rw[g3,if_neg (by omega)]
    have s2:(v.next c).st=3:=by simp only[NS.next];exact g3
    rw[e2,jp (.inl rfl) l _ _ s2 (fun c h=>hd c (Zl _ h))];obtain⟨t',r1,r2,r3,r4,r5,r6,r7⟩:=yW (t:={neg:=(v.next c).neg,down:=(v.next c).down,digs:=if 3=8 then(v.next c).digs else(v.next c).digs++l,part:=if 3=5 then(v.next c).part+l.length else(v.next c).part,exps:=if 3=8 then(v.next c).exps++l else(v.next c).exps,st:=(v.next c).st,n:=(v.next c).n+l.length}) (.inl s2) (by simp[NS.next,g3,h1]) (by simp[NS.next,g3,h2]) x hx hz;refine⟨t',r1,?_,?_,?_,?_,r6,r7⟩
    ·rw[r2];simp[NS.next,g3]
    ·rw[r3];simp[NS.next,g3,h3]
    ·rw[r4];simp[NS.next,g3,h4]
    ·rw[r5];simp[NS.next];omega
   have fin:∀t':NS,t'.neg=neg->t'.digs=c::l->t'.part=0->du t'.st=true->eL t'=x->(if du t'.st then(gd t'.neg t'.digs (eL t') (-(t'.part:Int))).map fun d=>(d,t'.n) else none)=some (⟨neg,⟨(c::l).toArray⟩,x⟩,t'.n):=by
    intro t' h1 h2 h3 h4 h5;rw[if_pos h4,h1,h2,h3,h5];simp only[gd,jb a0,vB a1,se hx];simp[hx]
   cases neg with
   |false=>
    obtain⟨t',r1,r2,r3,r4,r5,r6,r7⟩:=key fX (.inl rfl) rfl rfl rfl rfl;simp only[lD,Bool.false_eq_true,if_false,List.nil_append,r1];rw[fin t' r2 r3 r4 r6 r7,r5];simp[fX]
   |true=>
    have e3:aA fX (([45]++ (c::l++gj x))++zs)=aA (fX.next 45) ((c::l++gj x)++zs):=by
     show aA fX (45:: ((c::l++gj x)++zs))=_
     conv=>lhs;unfold aA
     rw[if_neg (by decide)]
    obtain⟨t',r1,r2,r3,r4,r5,r6,r7⟩:=key (fX.next 45) (.inr rfl) rfl rfl rfl rfl;simp only[lD,if_true,e3,r1];rw[fin t' r2 r3 r4 r6 r7,r5];simp[fX,NS.next];omega
def nG (n:Nat):UInt8:=if n<10 then UInt8.ofNat (48+n) else UInt8.ofNat (87+n)
def cf (c:Int):List UInt8:=
 if c=34 then [92,34] else if c=92 then [92,92] else if c=8 then [92,98] else if c=9 then [92,116] else if c=10 then [92,110] else if c=12 then [92,102] else if c=13 then [92,114]
 else if c<32 then [92,117,48,48,nG (c.toNat/16),nG (c.toNat % 16)] else a7 c
def kr (cs:List Int):List UInt8:=34:: (cs.flatMap cf ++ [34])
def bW (s:ByteArray):List UInt8:=kr (nm s)
theorem Cn (h:cA c=true)(a0:32<=c)(a2:c≠34)(a1:c≠92):∃x l,a7 c=x::l/\x≠34/\x≠92/\¬x.toNat<32:=by
 have hr:=h;rw[bY] at h;simp at h
 by_cases h1:c<128
 ·refine⟨_, [],la c h1,?_,?_,?_⟩
  ·intro e;have:=congrArg UInt8.toNat e;rw[bm _ (by omega)] at this;simp at this;omega
  ·intro e;have:=congrArg UInt8.toNat e;rw[bm _ (by omega)] at this;simp at this;omega
  ·rw[bm _ (by omega)];omega
 ·have key:∃n l,a7 c=UInt8.ofNat n::l/\128<=n/\n<256:=by
   by_cases h2:c<2048
   ·exact⟨_,_,og c ⟨by omega,h2⟩,by omega,by omega⟩
   ·by_cases h3:c<65536
    ·exact⟨_,_,l9 c ⟨by omega,h3⟩ (by omega),by omega,by omega⟩
    ·exact⟨_,_,nX c ⟨by omega,by omega⟩,by omega,by omega⟩
  obtain⟨n,l,e,h3,h4⟩:=key;refine⟨_,l,e,?_,?_,?_⟩
  ·intro e;have:=congrArg UInt8.toNat e;rw[bm _ h4] at this;simp at this;omega
  ·intro e;have:=congrArg UInt8.toNat e;rw[bm _ h4] at this;simp at this;omega
  ·rw[bm _ h4];omega
theorem yV (h:cA c=true)(a0:32<=c)(a1:c≠34)(a2:c≠92)(zs:List UInt8):bC (a7 c++zs)=some (some (c,(a7 c).length)):=by
 obtain⟨x,l,e,h1,h2,h3⟩:=Cn h a0 a1 a2;have hd:=eI c h zs;rw[e] at hd ⊢;rw[List.cons_append] at hd ⊢;simp only[bC];rw[if_neg h1,if_neg h2,if_neg h3,hd];rfl
theorem oN (n:Nat)(h:n<16):fQ (nG n)=some n:=by
 have:∀n,n<16->fQ (nG n)=some n:=by decide +kernel
 exact this n h
theorem oD (h:cA c=true)(zs:List UInt8):bC (cf c++zs)=some (some (c,(cf c).length)):=by
 unfold cf
 by_cases h34:(c:Int)=34
 ·rw[if_pos h34];obtain rfl:c=34:=by omega
  rfl
 rw[if_neg h34]
 by_cases h92:(c:Int)=92
 ·rw[if_pos h92];obtain rfl:c=92:=by omega
  rfl
 rw[if_neg h92]
 by_cases h8:(c:Int)=8
 ·rw[if_pos h8];obtain rfl:c=8:=by omega
  rfl
 rw[if_neg h8]
 by_cases h9:(c:Int)=9
 ·rw[if_pos h9];obtain rfl:c=9:=by omega
  rfl
 rw[if_neg h9]
 by_cases h10:(c:Int)=10
 ·rw[if_pos h10];obtain rfl:c=10:=by omega
  rfl
 rw[if_neg h10]
 by_cases h12:(c:Int)=12
 ·rw[if_pos h12];obtain rfl:c=12:=by omega
  rfl
 rw[if_neg h12]
 by_cases h13:(c:Int)=13
 ·rw[if_pos h13];obtain rfl:c=13:=by omega
  rfl
 rw[if_neg h13]
 by_cases h32:(c:Int)<32
 ·rw[if_pos h32];have e1:=oN (c/16) (by omega);have e2:=oN (c % 16) (by omega);have e3:cm (48::48::nG (c/16)::nG (c % 16)::zs)=some c:=by
   simp only[cm,e1,e2,show fQ 48=some 0 from rfl,bind,pure,Option.bind]
   congr 1;omega
  show bC (92::117::48::48::nG (c/16)::nG (c % 16)::zs)=some (some (c,6))
  simp only[bC];rw[if_neg (by decide),if_pos trivial]
  show(jn (48::48::nG (c/16)::nG (c % 16)::zs)).map some=_
  unfold jn;simp only[e3,bind,pure,Option.bind];rw[if_pos (by omega)];rfl
 ·rw[if_neg h32];exact yV h (by omega) (by omega) (by omega) zs
theorem AW (h:cA c=true):1<=(cf c).length:=by
 have:=oD h [];rcases hl:cf c with _|⟨x,l⟩
 ·rw[hl] at this;simp[bC] at this
 ·simp
theorem rX:∀ (cs:List Int) (f:Nat) (out:List UInt8) (n:Nat) (zs:List UInt8),(∀c∈cs,cA c=true)->cs.length<f->eM f (cs.flatMap cf++34::zs) out n=some (out++cs.flatMap a7,n+ (cs.flatMap cf).length+1)
 | [],0,_,_,_,_,h=>absurd h (Nat.not_lt_zero _)
 | [],f+1,out,n,zs,_,_=>by
  show eM (f+1) (34::zs) out n=_
  simp[eM,bC]
 |c::cs,0,_,_,_,_,h=>absurd h (Nat.not_lt_zero _)
 |c::cs,f+1,out,n,zs,hc,h=>by
  have h0:=hc c (by simp);obtain⟨k,rfl⟩:∃k:Nat,c=k:=⟨c.toNat,by have:=cq h0;omega⟩;have hp:=oD h0 (cs.flatMap cf++34::zs);have e:(((k:Int)::cs).flatMap cf++34::zs)=cf k++ (cs.flatMap cf++34::zs):=by simp
  rw[e];unfold eM;rw[hp];simp only[List.drop_left];rw[rX cs f _ _ zs (fun c h=>hc c (Zl _ h)) (by simpa using h)];simp[Nat.add_assoc]
theorem BD {cs:List Int}(hc:∀c∈cs,cA c=true)(zs:List UInt8):jI (kr cs++zs)=some (cs.flatMap a7,(kr cs).length):=by
 have hl:∀ {cs:List Int},(∀c∈cs,cA c=true)->cs.length<=(cs.flatMap cf).length:=by
  intro cs
  induction cs with
  |nil=>intro _;simp
  |cons c cs ih=>
   intro hc;have h0:=hc c (by simp);obtain⟨k,rfl⟩:∃k:Nat,c=k:=⟨c.toNat,by have:=cq h0;omega⟩;have:=AW h0;have:=ih (fun c h=>hc c (Zl _ h));rw[List.flatMap_cons,List.length_append,List.length_cons];omega
 have e:kr cs++zs=34:: (cs.flatMap cf++34::zs):=by simp[kr]
 rw[e]
 show eM _ _ [] 1=_
 rw[rX cs _ [] 1 zs hc (by have:=hl hc;rw[List.length_append];omega)];simp[kr];omega
def bi (s:ByteArray):Prop:= ∃cs:List Int,(∀c∈cs,cA c=true)/\s.data.toList=cs.flatMap a7
theorem bi.nm {s:ByteArray}(h:bi s):(∀c∈nm s,cA c=true)/\(nm s).flatMap a7=s.data.toList:=by
 obtain⟨cs,h1,h2⟩:=h;have e:Proofs.YtgkkffeagolnpaaGreatDoor.nm s=cs:=by unfold Proofs.YtgkkffeagolnpaaGreatDoor.nm;rw[h2];exact m8 zH h1
 rw[e];exact⟨h1,h2.symm⟩
theorem r8 {s:ByteArray}(h:bi s)(zs:List UInt8):bK (bW s++zs)=some (.str s,(bW s).length):=by
 have hq:=BD h.nm.1 zs;have e:bW s++zs=34:: ((Proofs.YtgkkffeagolnpaaGreatDoor.nm s).flatMap cf ++ [34]++zs):=by simp[bW,kr]
 have e2:kr (Proofs.YtgkkffeagolnpaaGreatDoor.nm s)++zs=34:: ((Proofs.YtgkkffeagolnpaaGreatDoor.nm s).flatMap cf ++ [34]++zs):=by simp[kr]
 rw[e2] at hq;rw[e];have hk:bo 34=5:=by decide
 simp only[bK,hk,hq,Option.map_some,h.nm.2];rfl
