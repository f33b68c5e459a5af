import Derived.Test.YtafobflehfecpaaGreatDoorGZ15ad
import Derived.Lib.ItoaMem
set_option linter.unusedVariables false
set_option linter.unusedSimpArgs false
namespace Go.Proofs.YtafobflehfecpaaGreatDoor
variable {d:Dc}{j:JV}{xs ys zs:List UInt8}{c n:Nat}
inductive Vl:JV->Prop
 |null:Vl (.mk 1 false ⟨#[]⟩ ⟨false,⟨#[]⟩,0⟩ [] [])
 |bool (b:Bool):Vl (.mk 2 b ⟨#[]⟩ ⟨false,⟨#[]⟩,0⟩ [] [])
 |num (d:Dc):oL d->Vl (.mk 3 false ⟨#[]⟩ d [] [])
 |text (s:ByteArray):Vl (.mk 4 false s ⟨false,⟨#[]⟩,0⟩ [] [])
 |hole:Vl (.mk 7 false ⟨#[]⟩ ⟨false,⟨#[]⟩,0⟩ [] [])
 |list (ks:List JV):(∀u∈ks,Vl u)->Vl (.mk 5 false ⟨#[]⟩ ⟨false,⟨#[]⟩,0⟩ [] ks)
 |obj (ns:List ByteArray) (ks:List JV):ns.length=ks.length->(∀u∈ks,Vl u)->Vl (.mk 6 false ⟨#[]⟩ ⟨false,⟨#[]⟩,0⟩ ns ks)
theorem Pf.split {x y s t:List Int}(h:Pf x y)(e:x++s=y++t):x=y/\s=t:=by
 rcases h with rfl|h
 ·exact⟨rfl,List.append_cancel_left e⟩
 ·have h1:=zM h s t;rw[e,gc] at h1;exact absurd h1.1.symm h1.2
theorem qG {us:List JV}(h:∀u∈us,∀w:JV,Vl w->u.key=w.key->u=w)(o:Bool):∀ (ns ms:List ByteArray) (ws:List JV),(∀w∈ws,Vl w)->JV.keys o ns us=JV.keys o ms ws->us=ws/\(o=true->ns.length=us.length->ms.length=ws.length->ns=ms):=by
 induction us with
 |nil=>
  intro ns ms ws hw e
  cases ws with
  |nil=>exact⟨rfl,fun _ h1 h2=>by rw[List.eq_nil_of_length_eq_zero h1,List.eq_nil_of_length_eq_zero h2]⟩
  |cons w ws=>simp[JV.keys] at e
 |cons u us ih=>
  intro ns ms ws hw e
  cases ws with
  |nil=>simp[JV.keys] at e
  |cons w ws=>
   simp only[JV.keys,List.cons.injEq,true_and] at e;have hp:Pf (if o then ru (ns.headD ⟨#[]⟩) else []) (if o then ru (ms.headD ⟨#[]⟩) else []):=by
    cases o
    ·exact .inl rfl
    ·exact oE _ _
   obtain⟨e1,e2⟩:=hp.split e;obtain⟨e3,e4⟩:=(EA u w).split e2;obtain rfl:=h u (by simp) w (hw w (by simp)) e3;obtain⟨rfl,h5⟩:=ih (fun u hu=>h u (Zl _ hu)) _ _ ws (fun w h=>hw w (Zl _ h)) e4;refine⟨rfl,fun ho h1 h2=>?_⟩;subst ho
   cases ns with
   |nil=>simp at h1
   |cons a ns=>
    cases ms with
    |nil=>simp at h2
    |cons b ms=>
     simp only[if_true,List.headD_cons] at e1;have h6:ns=ms:=h5 rfl (by simpa using h1) (by simpa using h2);rw[sC e1,h6]
theorem Vl.inj {u:JV}(hu:Vl u):∀w:JV,Vl w->u.key=w.key->u=w:=by
 induction hu with
 |null=>intro w hw e;cases hw <;> simp[JV.key] at e ⊢
 |bool b=>intro w hw e;cases hw <;> simp[JV.key] at e ⊢;rename_i c;cases b <;> cases c <;> simp at e ⊢
 |num d hd=>
  intro w hw e
  cases hw with
  |num d' hd'=>simp[JV.key] at e;rw[B4 hd hd' e]
  |null|bool|text|hole|list|obj=>simp[JV.key] at e
 |text s=>
  intro w hw e
  cases hw with
  |text s'=>simp[JV.key] at e;rw[sC e]
  |null|bool|num|hole|list|obj=>simp[JV.key] at e
 |hole=>intro w hw e;cases hw <;> simp[JV.key] at e ⊢
 |list ks _ ih=>
  intro w hw e
  cases hw with
  |list ks' h'=>simp[JV.key] at e;rw[(qG ih false [] [] ks' h' e).1]
  |null|bool|num|hole|text|obj=>simp[JV.key] at e
 |obj ns ks hl _ ih=>
  intro w hw e
  cases hw with
  |obj ns' ks' hl' h'=>
   simp[JV.key] at e;obtain⟨h1,h2⟩:=qG ih true ns ns' ks' h' e;rw[h1,h2 rfl hl hl']
  |null|bool|num|hole|text|list=>simp[JV.key] at e
theorem Vl.kind {u:JV}(h:Vl u):1<=u.key.headD 0:=by cases h <;> simp[JV.key]
def bQ (x:UInt8):Bool:=x==32||x==9||x==10||x==13
def cL (x:UInt8):Bool:=decide (97<=x.toNat/\x.toNat<=122\/65<=x.toNat/\x.toNat<=90)
def dN (x:UInt8):Bool:=decide (48<=x.toNat/\x.toNat<=57)
def F0 (x:UInt8):Bool:=x==44||x==58||x==91||x==93||x==123||x==125
def bJ (x:UInt8):Nat:=if bQ x then 1 else if F0 x then 2 else if cL x then 3 else if dN x||x==45 then 4 else if x==34 then 5 else 0
def aZ (c:UInt8):Nat:=if c==45 then 0 else if c==43 then 1 else if c==48 then 2 else if decide (49<=c.toNat/\c.toNat<=57) then 3 else if c==46 then 4 else if c==101||c==69 then 5 else 6
def la:List Nat:= [1,9,2,3,9,9,9,9,2,3,9,9,9,9,9,9,4,6,9,9,3,3,4,6,9,9,5,5,9,9,9,9,5,5,9,6,7,7,8,8,9,9,9,9,8,8,9,9,9,9,8,8,9,9]
def dn (s k:Nat):Nat:=if k<6 then la.getD (s*6+k) 9 else 9
structure NS where
 neg:Bool
 down:Bool
 digs:List UInt8
 part:Nat
 exps:List UInt8
 st:Nat
 n:Nat
def e9:NS:=⟨false,false, [],0, [],0,0⟩
def NS.next (t:NS)(c:UInt8):NS:=
 let s:=dn t.st (aZ c)
 {neg:=t.neg||s==1
  down:=if s=7 then c==45 else t.down
  digs:=if s=2\/s=3\/s=5 then t.digs ++ [c] else t.digs
  part:=if s=5 then t.part+1 else t.part
  exps:=if s=8 then t.exps ++ [c] else t.exps
  st:=s
  n:=t.n+1}
def aw:NS->List UInt8->NS
 |t, []=>t
 |t,c::xs=>if dn t.st (aZ c)=9 then t else aw (t.next c) xs
def da (s:Nat):Bool:=s==2||s==3||s==5||s==8
def cI (l:List UInt8):List UInt8:=l.dropWhile (· == 48)
def kZ (l:List UInt8):List UInt8:=(cI l.reverse).reverse
def gC (l:List UInt8):Nat:=l.foldl (fun a c=>a*10+ (c.toNat - 48)) 0
def eh (t:NS):Int:=
 let e:=cI t.exps
 let n:Int:=if e.length<=12 then gC e else 1099511627776
 if t.down then -n else n
def lq (x:Int):Int:=max (-2199023255552) (min x 2199023255552)
def fu (neg:Bool)(digs:List UInt8)(exp more:Int):Option Dc:=
 let d:=cI digs
 if d = [] then some ⟨false,⟨#[48]⟩,0⟩ else
 let s:=kZ d
 let x:=lq exp+more+ (d.length - s.length:Int)
 if -1000000000<=x/\x<=1000000000 then some ⟨neg,⟨s.toArray⟩,x⟩ else none
def mc (xs:List UInt8):Option (Dc×Nat):=
 let t:=aw e9 xs
 if da t.st then(fu t.neg t.digs (eh t) (-(t.part:Int))).map fun d=>(d,t.n) else none
def fi (c:UInt8):Option Nat:=if 48<=c.toNat/\c.toNat<=57 then some (c.toNat - 48) else if 97<=c.toNat/\c.toNat<=102 then some (c.toNat - 87) else if 65<=c.toNat/\c.toNat<=70 then some (c.toNat - 55) else none
def bW:List UInt8->Option Nat
 |a::b::c::d::_=>do
  let a <-fi a;let b <-fi b;let c <-fi c;let d <-fi d
  return ((a*16+b)*16+c)*16+d
 |_=>none
def io (xs:List UInt8):Option (Nat×Nat):=do
 let x <-bW xs
 if x<55296\/57343<x then return (x,6)
 match xs.drop 4 with
 |a::b::ys=>if x>56319\/a≠92\/b≠117 then none else do
  let y <-bW ys
  if y<56320\/57343<y then none else return (65536+ (x - 55296)*1024+ (y - 56320),12)
 |_=>none
def sA:List UInt8->Option (Nat×Nat)
 |98::_=>some (8,2)
 |116::_=>some (9,2)
 |110::_=>some (10,2)
 |102::_=>some (12,2)
 |114::_=>some (13,2)
 |34::_=>some (34,2)
 |92::_=>some (92,2)
 |47::_=>some (47,2)
 |117::xs=>io xs
 |_=>none
def bk:List UInt8->Option (Option (Nat×Nat))
 | []=>none
 |x::xs=>if x=34 then some none else if x=92 then(sA xs).map some else if x.toNat<32 then none
  else if(a7 (x::xs)).2.2=0 then some (some ((a7 (x::xs)).1,(a7 (x::xs)).2.1)) else none
def ef:Nat->List UInt8->List UInt8->Nat->Option (List UInt8×Nat)
 |0,_,_,_=>none
 |f+1,xs,out,n=>match bk xs with
  |none=>none
  |some none=>some (out,n+1)
  |some (some (c,k))=>ef f (xs.drop k) (out++aO c) (n+k)
def kB:List UInt8->Option (List UInt8×Nat)
 |34::xs=>ef (xs.length+1) xs [] 1
 |_=>none
inductive pq where
 |mark (c:UInt8)
 |str (s:ByteArray)
 |leaf (j:JV)
def nM:JV:=.mk 1 false ⟨#[]⟩ ⟨false,⟨#[]⟩,0⟩ [] []
def gP (b:Bool):JV:=.mk 2 b ⟨#[]⟩ ⟨false,⟨#[]⟩,0⟩ [] []
def ky (d:Dc):JV:=.mk 3 false ⟨#[]⟩ d [] []
def aY (s:ByteArray):JV:=.mk 4 false s ⟨false,⟨#[]⟩,0⟩ [] []
def cD (ks:List JV):JV:=.mk 5 false ⟨#[]⟩ ⟨false,⟨#[]⟩,0⟩ [] ks
def fU (ms:List (ByteArray×JV)):JV:=.mk 6 false ⟨#[]⟩ ⟨false,⟨#[]⟩,0⟩ (ms.map Prod.fst) (ms.map Prod.snd)
def qz (w:List UInt8):Option JV:=if w = [110,117,108,108] then some nM else if w = [116,114,117,101] then some (gP true) else if w = [102,97,108,115,101] then some (gP false) else none
def cj:List UInt8->Option (pq×Nat)
 | []=>none
 |x::xs=>match bJ x with
  |2=>some (.mark x,1)
  |3=>(qz (x::xs.takeWhile cL)).map fun j=>(.leaf j,1+ (xs.takeWhile cL).length)
  |4=>(mc (x::xs)).map fun p=>(.leaf (ky p.1),p.2)
  |5=>(kB (x::xs)).map fun p=>(.str ⟨p.1.toArray⟩,p.2)
  |_=>none
structure Fr where
 obj:Bool
 items:List JV
 mems:List (ByteArray×JV)
 name:Option ByteArray
structure ci where
 frs:List Fr
 want:Nat
 done:Option JV
def yf (want:Nat)(c:UInt8):Bool:=(match want with
 |0=> [91,123]
 |1=> [91,123,93]
 |3=> [125]
 |4=> [58]
 |5=> [44,93]
 |6=> [44,125]
 |_=>([]:List UInt8)).contains c
def bu (frs:List Fr)(j:JV):ci:=match frs with
 | []=>⟨[],7,some j⟩
 |f::fs=>if f.obj then⟨{f with mems:=f.mems ++ [(f.name.getD ⟨#[]⟩,j)],name:=none}::fs,6,none⟩ else⟨{f with items:=f.items ++ [j]}::fs,5,none⟩
def lG (m:ByteArray×JV):List (ByteArray×JV)->List (ByteArray×JV)
 | []=> [m]
 |x::l=>if aI (nm m.1) (nm x.1)<0 then m::x::l else x::lG m l
def cF (l:List (ByteArray×JV)):List (ByteArray×JV):=l.foldr lG []
def cN (f:Fr):JV:=if f.obj then fU (cF f.mems) else cD f.items
def cC (c:ci):pq->Option ci
 | .mark x=>if yf c.want x then
   (if x=91 then some ⟨⟨false, [], [],none⟩::c.frs,1,none⟩
   else if x=123 then some ⟨⟨true, [], [],none⟩::c.frs,3,none⟩
   else match c.frs with
    | []=>none
    |f::fs=>if x=93\/x=125 then some (bu fs (cN f)) else if x=44 then some ⟨f::fs,if f.obj then 2 else 0,none⟩ else some ⟨f::fs,0,none⟩) else none
 | .str s=>if c.want=2\/c.want=3 then(match c.frs with
   | []=>none
   |f::fs=>if f.mems.any (fun p=>decide (p.1=s)) then none else some ⟨{f with name:=some s}::fs,4,none⟩)
  else if c.want=0\/c.want=1 then some (bu c.frs (aY s)) else none
 | .leaf j=>if c.want=0\/c.want=1 then some (bu c.frs j) else none
def kA:Nat->ci->List UInt8->Option JV
 |0,_,_=>none
 |f+1,c,xs=>match xs.dropWhile bQ with
  | []=>if c.want=7 then c.done else none
  |y::ys=>match cj (y::ys) with
   |none=>none
   |some (t,n)=>match cC c t with
    |none=>none
    |some c'=>kA f c' ((y::ys).drop n)
def fE (xs:List UInt8):Option JV:=kA (xs.length+1) ⟨[],0,none⟩ xs
inductive cA:ci->List UInt8->ci->List UInt8->Prop
 |refl (c:ci) (xs:List UInt8):cA c xs c xs
 |step {c c' c'':ci} {xs ys zs:List UInt8} {y:UInt8} {t:pq} {n:Nat} (h1:xs.dropWhile bQ=y::ys) (h2:cj (y::ys)=some (t,n)) (h3:cC c t=some c') (h4:cA c' ((y::ys).drop n) c'' zs):cA c xs c'' zs
theorem cA.trans {a b c:ci}(h:cA a xs b ys)(k:cA b ys c zs):cA a xs c zs:=by
 induction h with
 |refl=>exact k
 |step h1 h2 h3 _ ih=>exact .step h1 h2 h3 (ih k)
theorem cA.one {c c':ci}{y:UInt8}{t:pq}(h1:bQ y=false)(h2:cj (y::ys)=some (t,n))(h3:cC c t=some c'):cA c (y::ys) c' ((y::ys).drop n):=
 .step (by rw[List.dropWhile_cons,if_neg (by simp[h1])]) h2 h3 (.refl _ _)
theorem lN:∀ (xs:List UInt8) (t:NS),t.n<=(aw t xs).n/\(aw t xs).n<=t.n+xs.length
 | [],t=>⟨Zb _,Zb _⟩
 |c::xs,t=>by
  unfold aw
  split
  ·exact⟨Zb _,by simp⟩
  ·have:=lN xs (t.next c);simp only[NS.next,List.length_cons] at this ⊢;omega
theorem su {x:UInt8}{p:Dc×Nat}(h:mc (x::xs)=some p):1<=p.2/\p.2<=xs.length+1:=by
 simp only[mc] at h
 split at h
 ·rename_i hw
  rw[Option.map_eq_some_iff] at h;obtain⟨d,-,rfl⟩:=h;have hb:=lN (x::xs) e9;refine⟨?_,by simpa [e9] using hb.2⟩;unfold aw at hw ⊢
  split at hw
  ·simp[e9,da] at hw
  ·rename_i h9
   rw[if_neg h9];have:=(lN xs (e9.next x)).1;simp only[NS.next,e9] at this ⊢;omega
 ·cases h
theorem vW:∀ (f:Nat) (xs out:List UInt8) (n:Nat) (p:List UInt8×Nat),ef f xs out n=some p->n+1<=p.2
 |0,_,_,_,_,h=>by cases h
 |f+1,xs,out,n,p,h=>by
  unfold ef at h
  split at h
  ·cases h
  ·injection h with h;subst h;exact Zb _
  ·have:=vW f _ _ _ p h;omega
theorem lQ {t:pq}(h:cj xs=some (t,n)):1<=n/\xs≠ []:=by
 cases xs with
 |nil=>cases h
 |cons x xs=>
  refine⟨?_,by simp⟩;simp only[cj] at h
  split at h
  ·injection h with h;injection h with _ h;omega
  ·rw[Option.map_eq_some_iff] at h;obtain⟨j,-,h⟩:=h;injection h with _ h;omega
  ·rw[Option.map_eq_some_iff] at h;obtain⟨p,hp,h⟩:=h;injection h with _ h
   have:=su hp;omega
  ·rw[Option.map_eq_some_iff] at h;obtain⟨p,hp,h⟩:=h;injection h with _ h
   unfold kB at hp
   split at hp
   ·have:=vW _ _ _ _ _ hp;omega
   ·cases hp
  ·cases h
theorem db (xs:List UInt8):(xs.dropWhile bQ).length<=xs.length:=(List.dropWhile_sublist _).length_le
theorem nG:∀ (f g:Nat) (c:ci) (xs:List UInt8),xs.length<f->xs.length<g->kA f c xs=kA g c xs
 |0,_,_,_,h,_=>absurd h (Nat.not_lt_zero _)
 |_+1,0,_,_,_,h=>absurd h (Nat.not_lt_zero _)
 |f+1,g+1,c,xs,h1,h2=>by
  unfold kA
  cases he:xs.dropWhile bQ with
  |nil=>rfl
  |cons y ys=>
   simp only
   cases hl:cj (y::ys) with
   |none=>rfl
   |some p=>
    obtain⟨t,n⟩:=p;simp only
    cases cC c t with
    |none=>rfl
    |some c'=>
     simp only;have hn:=(lQ hl).1;have hd:=db xs;rw[he] at hd;simp only[List.length_cons] at hd;exact nG f g c' _ (by rw[List.length_drop,List.length_cons];omega) (by rw[List.length_drop,List.length_cons];omega)
theorem yE {c c':ci}(h:cA c xs c' ys):kA (xs.length+1) c xs=kA (ys.length+1) c' ys:=by
 induction h with
 |refl=>rfl
 | @step c c' c'' xs ys zs y t n h1 h2 h3 _ ih=>
  rw[<-ih];have hn:=(lQ h2).1;have hd:=db xs;rw[h1] at hd;simp only[List.length_cons] at hd
  conv=>lhs;unfold kA
  simp only[h1,h2,h3];exact nG _ _ _ _ (by rw[List.length_drop,List.length_cons];omega) (by omega)
theorem sg (h:cA ⟨[],0,none⟩ xs ⟨[],7,some j⟩ ys)(hy:ys.dropWhile bQ = []):fE xs=some j:=by
 unfold fE;rw[yE h];unfold kA;rw[hy];rfl
theorem qP {p:UInt8->Bool}(h:∀n,n<256->p (UInt8.ofNat n)=true)(c:UInt8):p c=true:=by
 have:=h c.toNat c.toNat_lt
 rwa[UInt8.ofNat_toNat] at this
theorem sG {c:UInt8}(h:dN c=true):aZ c=2\/aZ c=3:=by
 have:=qP (p:=fun c=> !dN c||(aZ c==2||aZ c==3)) (by decide +kernel) c;simp[h] at this;exact this
theorem Cu {c:UInt8}(h:dN c=true)(h0:c≠48):aZ c=3:=by
 have:=qP (p:=fun c=> !dN c||(c==48||aZ c==3)) (by decide +kernel) c;simpa [h,h0] using this
def mX (zs:List UInt8):Prop:= ∀c l,zs=c::l->aZ c=6
theorem ib {t:NS}(h:mX zs):aw t zs=t:=by
 cases zs with
 |nil=>rfl
 |cons c l=>
  unfold aw;rw[h c l rfl,if_pos (by simp[dn])]
theorem zw {s:Nat}(hs:s=3\/s=5\/s=8){k:Nat}(hk:k=2\/k=3):dn s k=s:=by
 rcases hs with rfl|rfl|rfl <;> rcases hk with rfl|rfl <;> rfl
theorem ig {s:Nat}(hs:s=3\/s=5\/s=8):∀ (ds:List UInt8) (t:NS) (zs:List UInt8),t.st=s->(∀c∈ds,dN c=true)->
  aw t (ds++zs)=aw {neg:=t.neg,down:=t.down,digs:=if s=8 then t.digs else t.digs++ds,part:=if s=5 then t.part+ds.length else t.part,exps:=if s=8 then t.exps++ds else t.exps,st:=t.st,n:=t.n+ds.length} zs
 | [],t,zs,h,_=>by obtain⟨a,b,c,d,e,f,g⟩:=t;simp
 |c::ds,t,zs,h,hd=>by
  have hk:=zw hs (sG (hd c (by simp)));rw[<-h] at hk;have h1:aw t (c::ds++zs)=aw (t.next c) (ds++zs):=by
   show aw t (c:: (ds++zs))=_
   conv=>lhs;unfold aw
   rw[hk,h,if_neg (by omega)]
  have hn:(t.next c).st=s:=by show dn t.st (aZ c)=s;rw[hk,h]
  rw[h1,ig hs ds _ zs hn (fun c hc=>hd c (Zl _ hc))];obtain⟨a,b,c',d,e,f,g⟩:=t;simp only at h hk;subst h;simp only[NS.next,hk,List.length_cons];rcases hs with rfl|rfl|rfl <;> simp[Nat.add_assoc,Nat.add_comm 1]
theorem ia {c:UInt8}{l:List UInt8}(h:c≠48):cI (c::l)=c::l:=by
 unfold cI;rw[List.dropWhile_cons,if_neg (by simpa using h)]
theorem uY {l:List UInt8}(h:∀c,l.getLast?=some c->c≠48):kZ l=l:=by
 unfold kZ
 cases hr:l.reverse with
 |nil=>simp[cI];simpa using hr.symm
 |cons c m=>
  rw[ia (h c (by rw[List.getLast?_eq_head?_reverse,hr];rfl)),<-hr,List.reverse_reverse]
theorem nD (l:List UInt8)(c:UInt8):gC (l ++ [c])=gC l*10+ (c.toNat - 48):=by
 unfold gC;rw[List.foldl_append];rfl
theorem CE {k:Nat}(h:k<10):(UInt8.ofNat (48+k)).toNat=48+k:=bh _ (by omega)
theorem vX {k:Nat}(h:k<10):dN (UInt8.ofNat (48+k))=true:=by unfold dN;rw[CE h];simp;omega
theorem mr (u:Nat):∀c∈Lib.decDigits u,dN c=true:=by
 induction u using Nat.strongRecOn with
 |ind u ih=>
  rw[Lib.decDigits]
  split
  ·rename_i h
   intro c hc;rw[List.mem_singleton.1 hc];exact vX h
  ·intro c hc;rcases List.mem_append.1 hc with hc|hc
   ·exact ih (u/10) (by omega) c hc
   ·rw[List.mem_singleton.1 hc];exact vX (by omega)
theorem BE (u:Nat):gC (Lib.decDigits u)=u:=by
 induction u using Nat.strongRecOn with
 |ind u ih=>
  rw[Lib.decDigits]
  split
  ·rename_i h
   show 0*10+ ((UInt8.ofNat (48+u)).toNat - 48)=u
   rw[CE h];omega
  ·rw[nD,ih (u/10) (by omega),CE (by omega)];omega
theorem lY (u:Nat):∃c l,Lib.decDigits u=c::l/\(0<u->c≠48):=by
 induction u using Nat.strongRecOn with
 |ind u ih=>
  rw[Lib.decDigits]
  split
  ·rename_i h
   refine⟨_, [],rfl,fun h0 e=>?_⟩;have:=congrArg UInt8.toNat e;rw[CE h] at this;simp at this;omega
  ·obtain⟨c,l,h1,h2⟩:=ih (u/10) (by omega);rw[h1];exact⟨c,_,rfl,fun _=>h2 (by omega)⟩
theorem et {u:Nat}(h:u<=1000000000):(Lib.decDigits u).length<=10:=by
 rw[Lib.decDigits_length];rw[Lib.nDigits];split
 ·omega
 rw[Lib.nDigits];split
 ·omega
 rw[Lib.nDigits];split
 ·omega
 rw[Lib.nDigits];split
 ·omega
 rw[Lib.nDigits];split
 ·omega
 rw[Lib.nDigits];split
 ·omega
 rw[Lib.nDigits];split
 ·omega
 rw[Lib.nDigits];split
 ·omega
 rw[Lib.nDigits];split
 ·omega
 rw[Lib.nDigits];split
 ·omega
 ·omega
def fw (x:Int):List UInt8:=if x=0 then [] else 101::Lib.itoa x
def dM (d:Dc):List UInt8:=(if d.neg then [45] else [])++ (d.digits.data.toList++fw d.exp)
structure F1 (l:List UInt8):Prop where
 dig:∀c∈l,dN c=true
 ne:l≠ []
 first:∀c,l.head?=some c->c≠48
 Gj:∀c,l.getLast?=some c->c≠48
def i6 (d:Dc):Prop:=d= ⟨false,⟨#[48]⟩,0⟩\/(F1 d.digits.data.toList/\ -1000000000<=d.exp/\d.exp<=1000000000)
theorem wG {t:NS}(ht:t.st=3\/t.st=2)(h0:t.exps = [])(hd:t.down=false)(x:Int)(hx: -1000000000<=x/\x<=1000000000)(hz:mX zs) :
  ∃t',aw t (fw x++zs)=t'/\t'.neg=t.neg/\t'.digs=t.digs/\t'.part=t.part/\t'.n=t.n+ (fw x).length/\da t'.st=true/\eh t'=x:=by
 unfold fw
 by_cases h:x=0
 ·subst h;rw[if_pos rfl,List.nil_append,ib hz];refine⟨t,rfl,rfl,rfl,rfl,rfl,?_,?_⟩
  ·rcases ht with h|h <;> rw[h] <;> rfl
  ·unfold eh;rw[h0,hd];simp[cI,gC]
 ·rw[if_neg h];have e1:aw t (101::Lib.itoa x++zs)=aw (t.next 101) (Lib.itoa x++zs):=by
   show aw t (101:: (Lib.itoa x++zs))=_
   conv=>lhs;unfold aw
   rw[if_neg (by rcases ht with h|h <;> rw[h] <;> decide)]
  have s1:(t.next 101).st=6:=by simp only[NS.next];rcases ht with h|h <;> rw[h] <;> rfl
  have q1:(t.next 101).neg=t.neg/\(t.next 101).digs=t.digs/\(t.next 101).part=t.part/\(t.next 101).n=t.n+1/\(t.next 101).exps = []/\(t.next 101).down=false:=by
   have s1':=s1;simp only[NS.next] at s1' ⊢;rw[s1'];simp[h0,hd]
  rw[e1];generalize t.next 101=u at s1 q1;obtain⟨k1,k2,k3,k4,k5,k6⟩:=q1
  -- the digits
  have main:∀ (v:NS) (m:Nat),(v.st=6\/v.st=7)->v.exps = []->0<m->m<=1000000000->∃t',aw v (Lib.decDigits m++zs)=t'/\t'.neg=v.neg/\t'.digs=v.digs/\t'.part=v.part/\t'.n=v.n+ (Lib.decDigits m).length/\da t'.st=true/\eh t'=if v.down then -(m:Int) else m:=by
   intro v m hv he hm a2;obtain⟨c,l,hc,a3⟩:=lY m;have a0:=mr m;rw[hc] at a0;have hk:=sG (a0 c (by simp));have g8:dn v.st (aZ c)=8:=by rcases hv with h|h <;> rcases hk with h'|h' <;> rw[h,h'] <;> rfl
   have e2:aw v (Lib.decDigits m++zs)=aw (v.next c) (l++zs):=by
    rw[hc]
    show aw v (c:: (l++zs))=_
    conv=>lhs;unfold aw
    rw[g8,if_neg (by omega)]
   have s2:(v.next c).st=8:=by simp only[NS.next];exact g8
   refine⟨_,rfl,?_⟩;rw[e2,ig (.inr (.inr rfl)) l _ zs s2 (fun c h=>a0 c (Zl _ h)),ib hz];have hlen:=et a2;rw[hc] at hlen;have a4:v.exps ++ [c]++l=Lib.decDigits m:=by rw[he,hc];rfl
   have a1:(v.next c).exps++l=Lib.decDigits m:=by simp only[NS.next,g8];simpa [he] using hc.symm
   refine⟨by simp[NS.next,g8],by simp[NS.next,g8],by simp[NS.next,g8],by simp[NS.next,hc];omega,by show da (v.next c).st=true;rw[s2];rfl,?_⟩;unfold eh;simp only[if_true,a1];have e4:(if(c::l).length<=12 then((gC (c::l):Nat):Int) else 1099511627776)=m:=by rw[if_pos (by omega),<-hc,BE]
   rw[hc,ia (a3 hm),e4];simp[NS.next,g8]
  by_cases hn:x<0
  ·obtain⟨m,rfl⟩:∃m:Nat,x = -(m:Int):=⟨x.natAbs,by omega⟩;rw[Lib.itoa_neg m (by omega)];have e3:aw u (45::Lib.decDigits m++zs)=aw (u.next 45) (Lib.decDigits m++zs):=by
    show aw u (45:: (Lib.decDigits m++zs))=_
    conv=>lhs;unfold aw
    rw[s1,if_neg (by decide)]
   have g7:dn u.st (aZ 45)=7:=by rw[s1];rfl
   obtain⟨t',r1,r2,r3,r4,r5,r6,r7⟩:=main (u.next 45) m (by simp[NS.next,g7]) (by simp[NS.next,g7,k5]) (by omega) (by omega);refine⟨t',by rw[e3,r1],?_,?_,?_,?_,r6,?_⟩
   ·rw[r2,<-k1];simp[NS.next,g7]
   ·rw[r3,<-k2];simp[NS.next,g7]
   ·rw[r4,<-k3];simp[NS.next,g7]
   ·rw[r5,show(u.next 45).n=u.n+1 from rfl,k4];simp;omega
   ·rw[r7];simp[NS.next,g7]
  ·obtain⟨m,rfl⟩:∃m:Nat,x= (m:Int):=⟨x.natAbs,by omega⟩;rw[Lib.itoa_nonneg m];obtain⟨t',r1,r2,r3,r4,r5,r6,r7⟩:=main u m (.inl s1) k5 (by omega) (by omega);exact⟨t',r1,r2.trans k1,r3.trans k2,r4.trans k3,by rw[r5,k4];simp;omega,r6,by rw[r7,k6];simp⟩
theorem pG {x:Int}(h: -1000000000<=x/\x<=1000000000):lq x=x:=by unfold lq;omega
theorem AR (h:i6 d)(hz:mX zs):mc (dM d++zs)=some (d,(dM d).length):=by
 rcases h with rfl|⟨hl,hx⟩
 ·have e:dM ⟨false,⟨#[48]⟩,0⟩++zs=48::zs:=rfl;have e1:aw e9 (48::zs)=e9.next 48:=by
   conv=>lhs;unfold aw
   rw[if_neg (by decide),ib hz]
  simp only[mc,e,e1];rfl
 ·obtain⟨neg,⟨⟨ds⟩⟩,x⟩:=d;simp only[dM] at hl hx ⊢;obtain⟨hd,hne,hf,a1⟩:=hl
  cases ds with
  |nil=>exact absurd rfl hne
  |cons c l=>
   have a0:=hf c rfl;have hk:=Cu (hd c (by simp)) a0;have key:∀v:NS,(v.st=0\/v.st=1)->v.exps = []->v.down=false->v.digs = []->v.part=0->∃t',aw v ((c::l++fw x)++zs)=t'/\t'.neg=v.neg/\t'.digs=c::l/\t'.part=0/\t'.n=v.n+ (c::l++fw x).length/\da t'.st=true/\eh t'=x:=by
    intro v hv h1 h2 h3 h4;have g3:dn v.st (aZ c)=3:=by rcases hv with h|h <;> rw[h,hk] <;> rfl
    have e2:aw v ((c::l++fw x)++zs)=aw (v.next c) (l++ (fw x++zs)):=by
     rw[List.append_assoc]
     show aw v (c:: (l++ (fw x++zs)))=_
     conv=>lhs;unfold aw
     rw[g3,if_neg (by omega)]
    have s2:(v.next c).st=3:=by simp only[NS.next];exact g3
    rw[e2,ig (.inl rfl) l _ _ s2 (fun c h=>hd c (Zl _ h))];obtain⟨t',r1,r2,r3,r4,r5,r6,r7⟩:=wG (t:={neg:=(v.next c).neg,down:=(v.next c).down,digs:=if 3=8 then(v.next c).digs else(v.next c).digs++l,part:=if 3=5 then(v.next c).part+l.length else(v.next c).part,exps:=if 3=8 then(v.next c).exps++l else(v.next c).exps,st:=(v.next c).st,n:=(v.next c).n+l.length}) (.inl s2) (by simp[NS.next,g3,h1]) (by simp[NS.next,g3,h2]) x hx hz;refine⟨t',r1,?_,?_,?_,?_,r6,r7⟩
    ·rw[r2];simp[NS.next,g3]
    ·rw[r3];simp[NS.next,g3,h3]
    ·rw[r4];simp[NS.next,g3,h4]
    ·rw[r5];simp[NS.next];omega
   have fin:∀t':NS,t'.neg=neg->t'.digs=c::l->t'.part=0->da t'.st=true->eh t'=x->(if da t'.st then(fu t'.neg t'.digs (eh t') (-(t'.part:Int))).map fun d=>(d,t'.n) else none)=some (⟨neg,⟨(c::l).toArray⟩,x⟩,t'.n):=by
    intro t' h1 h2 h3 h4 h5;rw[if_pos h4,h1,h2,h3,h5];simp only[fu,ia a0,uY a1,pG hx];simp[hx]
   cases neg with
   |false=>
    obtain⟨t',r1,r2,r3,r4,r5,r6,r7⟩:=key e9 (.inl rfl) rfl rfl rfl rfl;simp only[mc,Bool.false_eq_true,if_false,List.nil_append,r1];rw[fin t' r2 r3 r4 r6 r7,r5];simp[e9]
   |true=>
    have e3:aw e9 (([45]++ (c::l++fw x))++zs)=aw (e9.next 45) ((c::l++fw x)++zs):=by
     show aw e9 (45:: ((c::l++fw x)++zs))=_
     conv=>lhs;unfold aw
     rw[if_neg (by decide)]
    obtain⟨t',r1,r2,r3,r4,r5,r6,r7⟩:=key (e9.next 45) (.inr rfl) rfl rfl rfl rfl;simp only[mc,if_true,e3,r1];rw[fin t' r2 r3 r4 r6 r7,r5];simp[e9,NS.next];omega
def mD (n:Nat):UInt8:=if n<10 then UInt8.ofNat (48+n) else UInt8.ofNat (87+n)
def bT (c:Int):List UInt8:=
 if c=34 then [92,34] else if c=92 then [92,92] else if c=8 then [92,98] else if c=9 then [92,116] else if c=10 then [92,110] else if c=12 then [92,102] else if c=13 then [92,114]
 else if c<32 then [92,117,48,48,mD (c.toNat/16),mD (c.toNat % 16)] else aO c
def jH (cs:List Int):List UInt8:=34:: (cs.flatMap bT ++ [34])
def cY (s:ByteArray):List UInt8:=jH (nm s)
theorem Bk (h:ce c=true)(a0:32<=c)(a2:c≠34)(a1:c≠92):∃x l,aO c=x::l/\x≠34/\x≠92/\¬x.toNat<32:=by
 have hr:=h;rw[bI] at h;simp at h
 by_cases h1:c<128
 ·refine⟨_, [],j2 c h1,?_,?_,?_⟩
  ·intro e;have:=congrArg UInt8.toNat e;rw[bh _ (by omega)] at this;simp at this;omega
  ·intro e;have:=congrArg UInt8.toNat e;rw[bh _ (by omega)] at this;simp at this;omega
  ·rw[bh _ (by omega)];omega
 ·have key:∃n l,aO c=UInt8.ofNat n::l/\128<=n/\n<256:=by
   by_cases h2:c<2048
   ·exact⟨_,_,mL c ⟨by omega,h2⟩,by omega,by omega⟩
   ·by_cases h3:c<65536
    ·exact⟨_,_,lK c ⟨by omega,h3⟩ (by omega),by omega,by omega⟩
    ·exact⟨_,_,mK c ⟨by omega,by omega⟩,by omega,by omega⟩
  obtain⟨n,l,e,h3,h4⟩:=key;refine⟨_,l,e,?_,?_,?_⟩
  ·intro e;have:=congrArg UInt8.toNat e;rw[bh _ h4] at this;simp at this;omega
  ·intro e;have:=congrArg UInt8.toNat e;rw[bh _ h4] at this;simp at this;omega
  ·rw[bh _ h4];omega
theorem wX (h:ce c=true)(a0:32<=c)(a2:c≠34)(a1:c≠92)(zs:List UInt8):bk (aO c++zs)=some (some (c,(aO c).length)):=by
 obtain⟨x,l,e,h1,h2,h3⟩:=Bk h a0 a2 a1;have hd:=ea c h zs;rw[e] at hd ⊢;rw[List.cons_append] at hd ⊢;simp only[bk];rw[if_neg h1,if_neg h2,if_neg h3,hd];rfl
theorem mY (n:Nat)(h:n<16):fi (mD n)=some n:=by
 have:∀n,n<16->fi (mD n)=some n:=by decide +kernel
 exact this n h
theorem nF (h:ce c=true)(zs:List UInt8):bk (bT c++zs)=some (some (c,(bT c).length)):=by
 unfold bT
 by_cases h34:(c:Int)=34
 ·rw[if_pos h34];obtain rfl:c=34:=by omega
  rfl
 rw[if_neg h34]
 by_cases h92:(c:Int)=92
 ·rw[if_pos h92];obtain rfl:c=92:=by omega
  rfl
 rw[if_neg h92]
 by_cases h8:(c:Int)=8
 ·rw[if_pos h8];obtain rfl:c=8:=by omega
  rfl
 rw[if_neg h8]
 by_cases h9:(c:Int)=9
 ·rw[if_pos h9];obtain rfl:c=9:=by omega
  rfl
 rw[if_neg h9]
 by_cases h10:(c:Int)=10
 ·rw[if_pos h10];obtain rfl:c=10:=by omega
  rfl
 rw[if_neg h10]
 by_cases h12:(c:Int)=12
 ·rw[if_pos h12];obtain rfl:c=12:=by omega
  rfl
 rw[if_neg h12]
 by_cases h13:(c:Int)=13
 ·rw[if_pos h13];obtain rfl:c=13:=by omega
  rfl
 rw[if_neg h13]
 by_cases h32:(c:Int)<32
 ·rw[if_pos h32];have e1:=mY (c/16) (by omega);have e2:=mY (c % 16) (by omega);have e3:bW (48::48::mD (c/16)::mD (c % 16)::zs)=some c:=by
   simp only[bW,e1,e2,show fi 48=some 0 from rfl,bind,pure,Option.bind]
   congr 1;omega
  show bk (92::117::48::48::mD (c/16)::mD (c % 16)::zs)=some (some (c,6))
  simp only[bk];rw[if_neg (by decide),if_pos trivial]
  show(io (48::48::mD (c/16)::mD (c % 16)::zs)).map some=_
  unfold io;simp only[e3,bind,pure,Option.bind];rw[if_pos (by omega)];rfl
 ·rw[if_neg h32];exact wX h (by omega) (by omega) (by omega) zs
theorem BC (h:ce c=true):1<=(bT c).length:=by
 have:=nF h [];rcases hl:bT c with _|⟨x,l⟩
 ·rw[hl] at this;simp[bk] at this
 ·simp
theorem sB:∀ (cs:List Int) (f:Nat) (out:List UInt8) (n:Nat) (zs:List UInt8),(∀c∈cs,ce c=true)->cs.length<f->ef f (cs.flatMap bT++34::zs) out n=some (out++cs.flatMap aO,n+ (cs.flatMap bT).length+1)
 | [],0,_,_,_,_,h=>absurd h (Nat.not_lt_zero _)
 | [],f+1,out,n,zs,_,_=>by
  show ef (f+1) (34::zs) out n=_
  simp[ef,bk]
 |c::cs,0,_,_,_,_,h=>absurd h (Nat.not_lt_zero _)
 |c::cs,f+1,out,n,zs,hc,h=>by
  have h0:=hc c (by simp);obtain⟨k,rfl⟩:∃k:Nat,c=k:=⟨c.toNat,by have:=bY h0;omega⟩;have hp:=nF h0 (cs.flatMap bT++34::zs);have e:(((k:Int)::cs).flatMap bT++34::zs)=bT k++ (cs.flatMap bT++34::zs):=by simp
  rw[e];unfold ef;rw[hp];simp only[List.drop_left];rw[sB cs f _ _ zs (fun c h=>hc c (Zl _ h)) (by simpa using h)];simp[Nat.add_assoc]
theorem AF {cs:List Int}(hc:∀c∈cs,ce c=true)(zs:List UInt8):kB (jH cs++zs)=some (cs.flatMap aO,(jH cs).length):=by
 have hl:∀ {cs:List Int},(∀c∈cs,ce c=true)->cs.length<=(cs.flatMap bT).length:=by
  intro cs
  induction cs with
  |nil=>intro _;simp
  |cons c cs ih=>
   intro hc;have h0:=hc c (by simp);obtain⟨k,rfl⟩:∃k:Nat,c=k:=⟨c.toNat,by have:=bY h0;omega⟩;have:=BC h0;have:=ih (fun c h=>hc c (Zl _ h));rw[List.flatMap_cons,List.length_append,List.length_cons];omega
 have e:jH cs++zs=34:: (cs.flatMap bT++34::zs):=by simp[jH]
 rw[e]
 show ef _ _ [] 1=_
 rw[sB cs _ [] 1 zs hc (by have:=hl hc;rw[List.length_append];omega)];simp[jH];omega
def bf (s:ByteArray):Prop:= ∃cs:List Int,(∀c∈cs,ce c=true)/\s.data.toList=cs.flatMap aO
theorem bf.nm {s:ByteArray}(h:bf s):(∀c∈nm s,ce c=true)/\(nm s).flatMap aO=s.data.toList:=by
 obtain⟨cs,h1,h2⟩:=h;have e:Proofs.YtafobflehfecpaaGreatDoor.nm s=cs:=by unfold Proofs.YtafobflehfecpaaGreatDoor.nm;rw[h2];exact ld wT h1
 rw[e];exact⟨h1,h2.symm⟩
theorem rS {s:ByteArray}(h:bf s)(zs:List UInt8):cj (cY s++zs)=some (.str s,(cY s).length):=by
 have hq:=AF h.nm.1 zs;have e:cY s++zs=34:: ((Proofs.YtafobflehfecpaaGreatDoor.nm s).flatMap bT ++ [34]++zs):=by simp[cY,jH]
 have e2:jH (Proofs.YtafobflehfecpaaGreatDoor.nm s)++zs=34:: ((Proofs.YtafobflehfecpaaGreatDoor.nm s).flatMap bT ++ [34]++zs):=by simp[jH]
 rw[e2] at hq;rw[e];have hk:bJ 34=5:=by decide
 simp only[cj,hk,hq,Option.map_some,h.nm.2];rfl
