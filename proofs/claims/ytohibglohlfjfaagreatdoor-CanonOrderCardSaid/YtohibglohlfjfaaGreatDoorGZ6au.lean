import Derived.Test.YtohibglohlfjfaaGreatDoorGZ6an
import Derived.Lib.ItoaMem
set_option linter.unusedVariables false
set_option linter.unusedSimpArgs false
set_option maxHeartbeats 64000000
namespace Go.Proofs.YtohibglohlfjfaaGreatDoor
variable {t':Bool}{x':ByteArray}{d n':Dc}{ns ns':List ByteArray}{y:List Int}{ks ks':List JV}{l xs ys zs:List UInt8}{n:Nat}
def FX (x y:List Int):Prop:= ∃p a b s t,x=p++a::s/\y=p++b::t/\a≠b
def Pf (x y:List Int):Prop:=x=y\/FX x y
theorem FX.app {x:List Int}(h:FX x y)(s t:List Int):FX (x++s) (y++t):=by
 obtain⟨p,a,b,u,v,rfl,rfl,hne⟩:=h;exact⟨p,a,b,u++s,v++t,by simp,by simp,hne⟩
theorem FX.pre {x:List Int}(h:FX x y)(q:List Int):FX (q++x) (q++y):=by
 obtain⟨p,a,b,u,v,rfl,rfl,hne⟩:=h;exact⟨q++p,a,b,u,v,by simp,by simp,hne⟩
theorem Pf.app {x s t:List Int}(h:Pf x y)(h2:Pf s t):Pf (x++s) (y++t):=by
 rcases h with rfl|h
 ·rcases h2 with rfl|h2
  ·exact .inl rfl
  ·exact .inr (h2.pre _)
 ·exact .inr (h.app _ _)
theorem Pf.head {a b:Int}{s t:List Int}(h:a=b->Pf s t):Pf (a::s) (b::t):=by
 by_cases e:a=b
 ·subst e;exact Pf.app (x:= [a]) (y:= [a]) (.inl rfl) (h rfl)
 ·exact .inr ⟨[],a,b,s,t,rfl,rfl,e⟩
theorem bh (a b:Int)(x y:List Int):aw (a::x) (b::y)=if a<b then -1 else if b<a then 1 else aw x y:=by
 conv=>lhs;unfold aw
theorem nL (q x y:List Int):aw (q++x) (q++y)=aw x y:=by
 induction q with
 |nil=>rfl
 |cons a q ih=>show aw (a:: (q++x)) (a:: (q++y))=_;rw[bh,if_neg (by omega),if_neg (by omega),ih]
theorem sM {x:List Int}(h:FX x y)(s t:List Int):aw (x++s) (y++t)=aw x y/\aw x y≠0:=by
 obtain⟨p,a,b,u,v,rfl,rfl,hne⟩:=h;rw[List.append_assoc,List.append_assoc,nL,nL];simp only[List.cons_append,bh]
 by_cases h1:a<b
 ·simp[h1]
 ·have h2:b<a:=by omega
  simp[h1,h2]
theorem oc {x:List Int}(h:Pf x y)(s t:List Int):aw (x++s) (y++t)=if aw x y=0 then aw s t else aw x y:=by
 rcases h with rfl|h
 ·rw[nL,ei,if_pos rfl]
 ·obtain⟨h1,h2⟩:=sM h s t;rw[h1,if_neg h2]
theorem xf:∀ {x y:List Int},(∀c∈x,0<=c)->(∀c∈y,0<=c)->Pf (x ++ [-1]) (y ++ [-1])/\aw (x ++ [-1]) (y ++ [-1])=aw x y
 | [], [],_,_=>⟨.inl rfl,rfl⟩
 | [],b::y,_,hy=>by
  have:=hy b (by simp);refine⟨Pf.head fun e=>by omega,?_⟩
  show aw (-1:: []) (b:: (y ++ [-1])) = -1
  rw[bh,if_pos (by omega)]
 |a::x, [],hx,_=>by
  have:=hx a (by simp);refine⟨Pf.head fun e=>by omega,?_⟩
  show aw (a:: (x ++ [-1])) (-1:: [])=1
  rw[bh,if_neg (by omega),if_pos (by omega)]
 |a::x,b::y,hx,hy=>by
  have ih:=xf (x:=x) (y:=y) (fun c h=>hx c (Zm _ h)) (fun c h=>hy c (Zm _ h));refine⟨Pf.head fun _=>ih.1,?_⟩
  show aw (a:: (x ++ [-1])) (b:: (y ++ [-1]))=aw (a::x) (b::y)
  rw[bh,bh,ih.2]
theorem jW:∀ (f:Nat) (xs:List UInt8),∀c∈eW fL f xs,0<=c
 |0,_,c,h=>by simp[eW] at h
 |_+1, [],c,h=>by simp[eW] at h
 |f+1,x::t,c,h=>by
  unfold eW at h
  split at h
  ·rcases List.mem_cons.1 h with rfl|h
   ·exact Int.natCast_nonneg _
   ·exact jW f _ c h
  ·rcases List.mem_cons.1 h with rfl|h
   ·unfold fL;omega
   ·exact jW f _ c h
theorem ra (s:ByteArray):∀c∈nm s,0<=c:=jW _ _
def oS (s:ByteArray):List Int:=nm s ++ [-1]
theorem mK (s t:ByteArray):Pf (oS s) (oS t):=(xf (ra s) (ra t)).1
theorem tu (s t:ByteArray):aw (oS s) (oS t)=aw (nm s) (nm t):=(xf (ra s) (ra t)).2
theorem sB {s t:ByteArray}(h:oS s=oS t):s=t:=Dl (List.append_cancel_right h)
def kl (d:Dc):Int:=if d.digits= ⟨#[48]⟩ then 0 else if d.neg then -1 else 1
def kA (s:Int):List UInt8->List Int
 | []=> [0]
 |c::l=>s* (c.toNat+1)::kA s l
def fH (d:Dc):List Int:=if kl d=0 then [0] else kl d::kl d* (d.digits.size+d.exp)::kA (kl d) d.digits.data.toList
theorem ze {s:Int}(hs:s≠0):∀ (l m:List UInt8),Pf (kA s l) (kA s m)
 | [], []=>.inl rfl
 | [],c::m=>Pf.head fun e=>by
  have:=(Int.mul_eq_zero.1 e.symm).resolve_left hs;omega
 |c::l, []=>Pf.head fun e=>by
  have:=(Int.mul_eq_zero.1 e).resolve_left hs;omega
 |c::l,d::m=>Pf.head fun _=>ze hs l m
theorem sQ {s:Int}(hs:s≠0):∀ {l m:List UInt8},kA s l=kA s m->l=m
 | [], [],_=>rfl
 | [],c::m,e=>by
  simp only[kA,List.cons.injEq] at e;have:=(Int.mul_eq_zero.1 e.1.symm).resolve_left hs;omega
 |c::l, [],e=>by
  simp only[kA,List.cons.injEq] at e;have:=(Int.mul_eq_zero.1 e.1).resolve_left hs;omega
 |c::l,d::m,e=>by
  simp only[kA,List.cons.injEq] at e;have h1:=Int.eq_of_mul_eq_mul_left hs e.1;rw[sQ hs e.2,show c=d from UInt8.toNat_inj.1 (by omega)]
theorem jq (d:Dc):kl d=0\/kl d = -1\/kl d=1:=by unfold kl;split;exact .inl rfl;split;exact .inr (.inl rfl);exact .inr (.inr rfl)
theorem Fg (a b:Dc):Pf (fH a) (fH b):=by
 unfold fH
 by_cases ha:kl a=0
 ·rw[if_pos ha]
  by_cases hb:kl b=0
  ·rw[if_pos hb];exact .inl rfl
  ·rw[if_neg hb];exact Pf.head fun e=>absurd e.symm hb
 ·rw[if_neg ha]
  by_cases hb:kl b=0
  ·rw[if_pos hb];exact Pf.head fun e=>absurd e ha
  ·rw[if_neg hb];exact Pf.head fun e=>Pf.head fun _=>by rw[e];exact ze hb _ _
def qr (d:Dc):Prop:=d.digits= ⟨#[48]⟩->d= ⟨false,⟨#[48]⟩,0⟩
theorem D9 {a b:Dc}(ha:qr a)(hb:qr b)(h:fH a=fH b):a=b:=by
 unfold fH at h
 by_cases h1:kl a=0
 ·rw[if_pos h1] at h
  by_cases h2:kl b=0
  ·have e1:a.digits= ⟨#[48]⟩:=by unfold kl at h1;split at h1;assumption;split at h1 <;> simp at h1
   have e2:b.digits= ⟨#[48]⟩:=by unfold kl at h2;split at h2;assumption;split at h2 <;> simp at h2
   rw[ha e1,hb e2]
  ·rw[if_neg h2] at h;injection h with h;exact absurd h.symm h2
 ·rw[if_neg h1] at h
  by_cases h2:kl b=0
  ·rw[if_pos h2] at h;injection h with h;exact absurd h h1
  ·rw[if_neg h2] at h;injection h with e1 h
   injection h with e2 e3
   rw[e1] at e2 e3;have hd:a.digits=b.digits:=by
    have:=sQ h2 e3
    cases ha':a.digits with|mk x=>cases hb':b.digits with|mk y=>rw[ha',hb'] at this;simp at this;rw[this]
   have hx:=Int.eq_of_mul_eq_mul_left h2 e2;have hn:a.neg=b.neg:=by
    unfold kl at e1 h1 h2
    split at h1
    ·exact absurd rfl h1
    ·split at h2
     ·exact absurd rfl h2
     ·rename_i g1 g2
      rw[if_neg g1,if_neg g2] at e1
      revert e1;cases a.neg <;> cases b.neg <;> simp
   obtain⟨an,ad,ax⟩:=a;obtain⟨bn,bd,bx⟩:=b;simp only at hd hn hx;subst hd hn;rw[show ax=bx by omega]
mutual
/-- What stands for a value. -/
def JV.key:JV->List Int
 | .mk k t x n ns ks=>k:: (if k=2 then [if t then 1 else 0] else if k=3 then fH n else if k=4 then oS x else JV.keys (k=6) ns ks)
def JV.keys:Bool->List ByteArray->List JV->List Int
 |_,_, []=> [0]
 |o,ns,v::vs=>1:: ((if o then oS (ns.headD ⟨#[]⟩) else [])++ (JV.key v++JV.keys o ns.tail vs))
end
theorem wS {us:List JV}(h:∀u∈us,∀w:JV,Pf u.key w.key)(o:Bool):∀ (ns ms:List ByteArray) (ws:List JV),Pf (JV.keys o ns us) (JV.keys o ms ws):=by
 induction us with
 |nil=>
  intro ns ms ws
  cases ws with
  |nil=>exact .inl rfl
  |cons w ws=>exact Pf.head fun e=>by omega
 |cons u us ih=>
  intro ns ms ws
  cases ws with
  |nil=>exact Pf.head fun e=>by omega
  |cons w ws=>
   refine Pf.head fun _=>Pf.app ?_ ((h u (by simp) w).app (ih (fun u hu=>h u (Zm _ hu)) ..))
   cases o
   ·exact .inl rfl
   ·exact mK _ _
theorem xP (u:JV):∀w:JV,Pf u.key w.key:=by
 refine JV.ind (P:=fun u=> ∀w:JV,Pf u.key w.key) (fun k t x n ns ks ih w=>?_) u;obtain⟨k',t',x',n',ns',ks'⟩:=w;unfold JV.key;refine Pf.head fun e=>?_
 subst e
 by_cases h2:k=2
 ·rw[if_pos h2,if_pos h2];exact Pf.head fun _=>.inl rfl
 ·rw[if_neg h2,if_neg h2]
  by_cases h3:k=3
  ·rw[if_pos h3,if_pos h3];exact Fg _ _
  ·rw[if_neg h3,if_neg h3]
   by_cases h4:k=4
   ·rw[if_pos h4,if_pos h4];exact mK _ _
   ·rw[if_neg h4,if_neg h4];exact wS ih _ _ _ _
def dX (u w:JV):Int:=aw u.key w.key
theorem zw {k k':Int}{t:Bool}{x:ByteArray}{n:Dc}(h:k≠k'):dX (.mk k t x n ns ks) (.mk k' t' x' n' ns' ks')=if k<k' then -1 else 1:=by
 unfold dX JV.key;rw[bh]
 by_cases h1:k<k'
 ·rw[if_pos h1,if_pos h1]
 ·rw[if_neg h1,if_neg h1,if_pos (by omega)]
theorem Bp (t t':Bool)(x x':ByteArray)(n n':Dc)(ns ns':List ByteArray)(ks ks':List JV):dX (.mk 2 t x n ns ks) (.mk 2 t' x' n' ns' ks')=if t=t' then 0 else if t then 1 else -1:=by
 unfold dX JV.key
 cases t <;> cases t' <;> rfl
theorem Cd (t t':Bool)(x x':ByteArray)(n n':Dc)(ns ns':List ByteArray)(ks ks':List JV):dX (.mk 3 t x n ns ks) (.mk 3 t' x' n' ns' ks')=aw (fH n) (fH n'):=by
 unfold dX JV.key;rw[bh,if_neg (by omega),if_neg (by omega)];simp
theorem zo (t t':Bool)(x x':ByteArray)(n n':Dc)(ns ns':List ByteArray)(ks ks':List JV):dX (.mk 4 t x n ns ks) (.mk 4 t' x' n' ns' ks')=aw (nm x) (nm x'):=by
 unfold dX JV.key;rw[bh,if_neg (by omega),if_neg (by omega)];simp[tu]
theorem nj {k:Int}(h2:k≠2)(h3:k≠3)(h4:k≠4)(t t':Bool)(x x':ByteArray)(n n':Dc)(ns ns':List ByteArray)(ks ks':List JV):dX (.mk k t x n ns ks) (.mk k t' x' n' ns' ks')=aw (JV.keys (k=6) ns ks) (JV.keys (k=6) ns' ks'):=by
 unfold dX JV.key;rw[bh,if_neg (by omega),if_neg (by omega)];simp[h2,h3,h4]
theorem Aj (ns ns':List ByteArray)(u w:JV)(us ws:List JV):aw (JV.keys false ns (u::us)) (JV.keys false ns' (w::ws))=if dX u w=0 then aw (JV.keys false ns.tail us) (JV.keys false ns'.tail ws) else dX u w:=by
 conv=>lhs;unfold JV.keys
 rw[bh,if_neg (by omega),if_neg (by omega)];simp only[Bool.false_eq_true,if_false,List.nil_append];exact oc (xP u w) _ _
theorem BM (a b:ByteArray)(ns ns':List ByteArray)(u w:JV)(us ws:List JV):aw (JV.keys true (a::ns) (u::us)) (JV.keys true (b::ns') (w::ws))=if aw (nm a) (nm b)=0 then(if dX u w=0 then aw (JV.keys true ns us) (JV.keys true ns' ws) else dX u w) else aw (nm a) (nm b):=by
 conv=>lhs;unfold JV.keys
 rw[bh,if_neg (by omega),if_neg (by omega)];simp only[if_true,List.headD_cons,List.tail_cons];rw[oc (mK a b),oc (xP u w),tu];rfl
theorem uq (o:Bool)(ns ns':List ByteArray)(us ws:List JV)(h:us = []\/ws = []):aw (JV.keys o ns us) (JV.keys o ns' ws)=if us.length<ws.length then -1 else if ws.length<us.length then 1 else 0:=by
 cases us with
 |nil=>
  cases ws with
  |nil=>simp[JV.keys,aw]
  |cons w ws=>simp[JV.keys,aw]
 |cons u us=>
  obtain rfl:ws = []:=by simpa using h
  simp[JV.keys,aw]
inductive Vl:JV->Prop
 |null:Vl (.mk 1 false ⟨#[]⟩ ⟨false,⟨#[]⟩,0⟩ [] [])
 |bool (b:Bool):Vl (.mk 2 b ⟨#[]⟩ ⟨false,⟨#[]⟩,0⟩ [] [])
 |num (d:Dc):qr d->Vl (.mk 3 false ⟨#[]⟩ d [] [])
 |text (s:ByteArray):Vl (.mk 4 false s ⟨false,⟨#[]⟩,0⟩ [] [])
 |hole:Vl (.mk 7 false ⟨#[]⟩ ⟨false,⟨#[]⟩,0⟩ [] [])
 |list (ks:List JV):(∀u∈ks,Vl u)->Vl (.mk 5 false ⟨#[]⟩ ⟨false,⟨#[]⟩,0⟩ [] ks)
 |obj (ns:List ByteArray) (ks:List JV):ns.length=ks.length->(∀u∈ks,Vl u)->Vl (.mk 6 false ⟨#[]⟩ ⟨false,⟨#[]⟩,0⟩ ns ks)
theorem Pf.split {x s t:List Int}(h:Pf x y)(e:x++s=y++t):x=y/\s=t:=by
 rcases h with rfl|h
 ·exact⟨rfl,List.append_cancel_left e⟩
 ·have h1:=sM h s t;rw[e,ei] at h1;exact absurd h1.1.symm h1.2
theorem ug {us:List JV}(h:∀u∈us,∀w:JV,Vl w->u.key=w.key->u=w)(o:Bool):∀ (ns ms:List ByteArray) (ws:List JV),(∀w∈ws,Vl w)->JV.keys o ns us=JV.keys o ms ws->us=ws/\(o=true->ns.length=us.length->ms.length=ws.length->ns=ms):=by
 induction us with
 |nil=>
  intro ns ms ws hw e
  cases ws with
  |nil=>exact⟨rfl,fun _ h1 h2=>by rw[List.eq_nil_of_length_eq_zero h1,List.eq_nil_of_length_eq_zero h2]⟩
  |cons w ws=>simp[JV.keys] at e
 |cons u us ih=>
  intro ns ms ws hw e
  cases ws with
  |nil=>simp[JV.keys] at e
  |cons w ws=>
   simp only[JV.keys,List.cons.injEq,true_and] at e;have hp:Pf (if o then oS (ns.headD ⟨#[]⟩) else []) (if o then oS (ms.headD ⟨#[]⟩) else []):=by
    cases o
    ·exact .inl rfl
    ·exact mK _ _
   obtain⟨e1,e2⟩:=hp.split e;obtain⟨e3,e4⟩:=(xP u w).split e2;obtain rfl:=h u (by simp) w (hw w (by simp)) e3;obtain⟨rfl,h5⟩:=ih (fun u hu=>h u (Zm _ hu)) _ _ ws (fun w h=>hw w (Zm _ h)) e4;refine⟨rfl,fun ho h1 h2=>?_⟩;subst ho
   cases ns with
   |nil=>simp at h1
   |cons a ns=>
    cases ms with
    |nil=>simp at h2
    |cons b ms=>
     simp only[if_true,List.headD_cons] at e1;have h6:ns=ms:=h5 rfl (by simpa using h1) (by simpa using h2);rw[sB e1,h6]
theorem Vl.inj {u:JV}(hu:Vl u):∀w:JV,Vl w->u.key=w.key->u=w:=by
 induction hu with
 |null=>intro w hw e;cases hw <;> simp[JV.key] at e ⊢
 |bool b=>intro w hw e;cases hw <;> simp[JV.key] at e ⊢;rename_i c;cases b <;> cases c <;> simp at e ⊢
 |num d hd=>
  intro w hw e
  cases hw with
  |num d' hd'=>simp[JV.key] at e;rw[D9 hd hd' e]
  |null|bool|text|hole|list|obj=>simp[JV.key] at e
 |text s=>
  intro w hw e
  cases hw with
  |text s'=>simp[JV.key] at e;rw[sB e]
  |null|bool|num|hole|list|obj=>simp[JV.key] at e
 |hole=>intro w hw e;cases hw <;> simp[JV.key] at e ⊢
 |list ks _ ih=>
  intro w hw e
  cases hw with
  |list ks' h'=>simp[JV.key] at e;rw[(ug ih false [] [] ks' h' e).1]
  |null|bool|num|hole|text|obj=>simp[JV.key] at e
 |obj ns ks hl _ ih=>
  intro w hw e
  cases hw with
  |obj ns' ks' hl' h'=>
   simp[JV.key] at e;obtain⟨h1,h2⟩:=ug ih true ns ns' ks' h' e;rw[h1,h2 rfl hl hl']
  |null|bool|num|hole|text|list=>simp[JV.key] at e
def Fk:Option JV->List Int
 |none=> [0]
 |some u=>u.key
def bY (a b:Option JV):Int:=aw (Fk a) (Fk b)
theorem pe {x z:List Int}(h1:aw x y<=0)(h2:aw y z<=0):aw x z<=0:=by
 by_cases e1:aw x y=0
 ·rw[kr e1];exact h2
 ·by_cases e2:aw y z=0
  ·rw[<-kr e2];exact h1
  ·have:=jZ (show aw x y<0 by omega) (show aw y z<0 by omega);omega
theorem Vl.kind {u:JV}(h:Vl u):1<=u.key.headD 0:=by cases h <;> simp[JV.key]
theorem pO {a b:Option JV}(ha:∀u,a=some u->Vl u)(hb:∀u,b=some u->Vl u):bY a b=0↔a=b:=by
 refine⟨fun h=>?_,fun e=>by subst e;exact ei _⟩;have e:=kr h
 cases a with
 |none=>
  cases b with
  |none=>rfl
  |some w=>
   have:=(hb w rfl).kind;simp only[Fk] at e;rw[<-e] at this;simp at this
 |some u=>
  cases b with
  |none=>
   have:=(ha u rfl).kind;simp only[Fk] at e;rw[e] at this;simp at this
  |some w=>rw[(ha u rfl).inj w (hb w rfl) e]
def cW (x:UInt8):Bool:=x==32||x==9||x==10||x==13
def dP (x:UInt8):Bool:=decide (97<=x.toNat/\x.toNat<=122\/65<=x.toNat/\x.toNat<=90)
def eG (x:UInt8):Bool:=decide (48<=x.toNat/\x.toNat<=57)
def IN (x:UInt8):Bool:=x==44||x==58||x==91||x==93||x==123||x==125
def co (x:UInt8):Nat:=if cW x then 1 else if IN x then 2 else if dP x then 3 else if eG x||x==45 then 4 else if x==34 then 5 else 0
def bt (c:UInt8):Nat:=if c==45 then 0 else if c==43 then 1 else if c==48 then 2 else if decide (49<=c.toNat/\c.toNat<=57) then 3 else if c==46 then 4 else if c==101||c==69 then 5 else 6
def nR:List Nat:= [1,9,2,3,9,9,9,9,2,3,9,9,9,9,9,9,4,6,9,9,3,3,4,6,9,9,5,5,9,9,9,9,5,5,9,6,7,7,8,8,9,9,9,9,8,8,9,9,9,9,8,8,9,9]
def ey (s k:Nat):Nat:=if k<6 then nR.getD (s*6+k) 9 else 9
structure NS where
 neg:Bool
 down:Bool
 digs:List UInt8
 part:Nat
 exps:List UInt8
 st:Nat
 n:Nat
def ia:NS:=⟨false,false, [],0, [],0,0⟩
def NS.next (t:NS)(c:UInt8):NS:=
 let s:=ey t.st (bt c)
 {neg:=t.neg||s==1
  down:=if s=7 then c==45 else t.down
  digs:=if s=2\/s=3\/s=5 then t.digs ++ [c] else t.digs
  part:=if s=5 then t.part+1 else t.part
  exps:=if s=8 then t.exps ++ [c] else t.exps
  st:=s
  n:=t.n+1}
def az:NS->List UInt8->NS
 |t, []=>t
 |t,c::xs=>if ey t.st (bt c)=9 then t else az (t.next c) xs
def d8 (s:Nat):Bool:=s==2||s==3||s==5||s==8
def dI (l:List UInt8):List UInt8:=l.dropWhile (· == 48)
def nX (l:List UInt8):List UInt8:=(dI l.reverse).reverse
def jx (l:List UInt8):Nat:=l.foldl (fun a c=>a*10+ (c.toNat - 48)) 0
def fK (t:NS):Int:=
 let e:=dI t.exps
 let n:Int:=if e.length<=12 then jx e else 1099511627776
 if t.down then -n else n
def oe (x:Int):Int:=max (-2199023255552) (min x 2199023255552)
def it (neg:Bool)(digs:List UInt8)(exp more:Int):Option Dc:=
 let d:=dI digs
 if d = [] then some ⟨false,⟨#[48]⟩,0⟩ else
 let s:=nX d
 let x:=oe exp+more+ (d.length - s.length:Int)
 if -1000000000<=x/\x<=1000000000 then some ⟨neg,⟨s.toArray⟩,x⟩ else none
def nJ (xs:List UInt8):Option (Dc×Nat):=
 let t:=az ia xs
 if d8 t.st then(it t.neg t.digs (fK t) (-(t.part:Int))).map fun d=>(d,t.n) else none
def ib (c:UInt8):Option Nat:=if 48<=c.toNat/\c.toNat<=57 then some (c.toNat - 48) else if 97<=c.toNat/\c.toNat<=102 then some (c.toNat - 87) else if 65<=c.toNat/\c.toNat<=70 then some (c.toNat - 55) else none
def cM:List UInt8->Option Nat
 |a::b::c::d::_=>do
  let a <-ib a;let b <-ib b;let c <-ib c;let d <-ib d
  return ((a*16+b)*16+c)*16+d
 |_=>none
def kg (xs:List UInt8):Option (Nat×Nat):=do
 let x <-cM xs
 if x<55296\/57343<x then return (x,6)
 match xs.drop 4 with
 |a::b::ys=>if x>56319\/a≠92\/b≠117 then none else do
  let y <-cM ys
  if y<56320\/57343<y then none else return (65536+ (x - 55296)*1024+ (y - 56320),12)
 |_=>none
def tL:List UInt8->Option (Nat×Nat)
 |98::_=>some (8,2)
 |116::_=>some (9,2)
 |110::_=>some (10,2)
 |102::_=>some (12,2)
 |114::_=>some (13,2)
 |34::_=>some (34,2)
 |92::_=>some (92,2)
 |47::_=>some (47,2)
 |117::xs=>kg xs
 |_=>none
def bP:List UInt8->Option (Option (Nat×Nat))
 | []=>none
 |x::xs=>if x=34 then some none else if x=92 then(tL xs).map some else if x.toNat<32 then none
  else if(bD (x::xs)).2.2=0 then some (some ((bD (x::xs)).1,(bD (x::xs)).2.1)) else none
def fG:Nat->List UInt8->List UInt8->Nat->Option (List UInt8×Nat)
 |0,_,_,_=>none
 |f+1,xs,out,n=>match bP xs with
  |none=>none
  |some none=>some (out,n+1)
  |some (some (c,k))=>fG f (xs.drop k) (out++bE c) (n+k)
def mD:List UInt8->Option (List UInt8×Nat)
 |34::xs=>fG (xs.length+1) xs [] 1
 |_=>none
inductive sd where
 |mark (c:UInt8)
 |str (s:ByteArray)
 |leaf (j:JV)
def jK:JV:=.mk 1 false ⟨#[]⟩ ⟨false,⟨#[]⟩,0⟩ [] []
def fm (b:Bool):JV:=.mk 2 b ⟨#[]⟩ ⟨false,⟨#[]⟩,0⟩ [] []
def dW (d:Dc):JV:=.mk 3 false ⟨#[]⟩ d [] []
def eQ (s:ByteArray):JV:=.mk 4 false s ⟨false,⟨#[]⟩,0⟩ [] []
def dJ (ks:List JV):JV:=.mk 5 false ⟨#[]⟩ ⟨false,⟨#[]⟩,0⟩ [] ks
def mn (ms:List (ByteArray×JV)):JV:=.mk 6 false ⟨#[]⟩ ⟨false,⟨#[]⟩,0⟩ (ms.map Prod.fst) (ms.map Prod.snd)
def sK (w:List UInt8):Option JV:=if w = [110,117,108,108] then some jK else if w = [116,114,117,101] then some (fm true) else if w = [102,97,108,115,101] then some (fm false) else none
def dt:List UInt8->Option (sd×Nat)
 | []=>none
 |x::xs=>match co x with
  |2=>some (.mark x,1)
  |3=>(sK (x::xs.takeWhile dP)).map fun j=>(.leaf j,1+ (xs.takeWhile dP).length)
  |4=>(nJ (x::xs)).map fun p=>(.leaf (dW p.1),p.2)
  |5=>(mD (x::xs)).map fun p=>(.str ⟨p.1.toArray⟩,p.2)
  |_=>none
structure Fr where
 obj:Bool
 items:List JV
 mems:List (ByteArray×JV)
 name:Option ByteArray
structure dl where
 frs:List Fr
 want:Nat
 done:Option JV
def BA (want:Nat)(c:UInt8):Bool:=(match want with
 |0=> [91,123]
 |1=> [91,123,93]
 |3=> [125]
 |4=> [58]
 |5=> [44,93]
 |6=> [44,125]
 |_=>([]:List UInt8)).contains c
def cV (frs:List Fr)(j:JV):dl:=match frs with
 | []=>⟨[],7,some j⟩
 |f::fs=>if f.obj then⟨{f with mems:=f.mems ++ [(f.name.getD ⟨#[]⟩,j)],name:=none}::fs,6,none⟩ else⟨{f with items:=f.items ++ [j]}::fs,5,none⟩
def qt (m:ByteArray×JV):List (ByteArray×JV)->List (ByteArray×JV)
 | []=> [m]
 |x::l=>if aw (nm m.1) (nm x.1)<0 then m::x::l else x::qt m l
def fU (l:List (ByteArray×JV)):List (ByteArray×JV):=l.foldr qt []
def dO (f:Fr):JV:=if f.obj then mn (fU f.mems) else dJ f.items
def dK (c:dl):sd->Option dl
 | .mark x=>if BA c.want x then
   (if x=91 then some ⟨⟨false, [], [],none⟩::c.frs,1,none⟩
   else if x=123 then some ⟨⟨true, [], [],none⟩::c.frs,3,none⟩
   else match c.frs with
    | []=>none
    |f::fs=>if x=93\/x=125 then some (cV fs (dO f)) else if x=44 then some ⟨f::fs,if f.obj then 2 else 0,none⟩ else some ⟨f::fs,0,none⟩) else none
 | .str s=>if c.want=2\/c.want=3 then(match c.frs with
   | []=>none
   |f::fs=>if f.mems.any (fun p=>decide (p.1=s)) then none else some ⟨{f with name:=some s}::fs,4,none⟩)
  else if c.want=0\/c.want=1 then some (cV c.frs (eQ s)) else none
 | .leaf j=>if c.want=0\/c.want=1 then some (cV c.frs j) else none
def DB:Nat->dl->List UInt8->Option JV
 |0,_,_=>none
 |f+1,c,xs=>match xs.dropWhile cW with
  | []=>if c.want=7 then c.done else none
  |y::ys=>match dt (y::ys) with
   |none=>none
   |some (t,n)=>match dK c t with
    |none=>none
    |some c'=>DB f c' ((y::ys).drop n)
def eV (xs:List UInt8):Option JV:=DB (xs.length+1) ⟨[],0,none⟩ xs
inductive dG:dl->List UInt8->dl->List UInt8->Prop
 |refl (c:dl) (xs:List UInt8):dG c xs c xs
 |step {c c' c'':dl} {xs ys zs:List UInt8} {y:UInt8} {t:sd} {n:Nat} (h1:xs.dropWhile cW=y::ys) (h2:dt (y::ys)=some (t,n)) (h3:dK c t=some c') (h4:dG c' ((y::ys).drop n) c'' zs):dG c xs c'' zs
theorem dG.trans {a b c:dl}(h:dG a xs b ys)(k:dG b ys c zs):dG a xs c zs:=by
 induction h with
 |refl=>exact k
 |step h1 h2 h3 _ ih=>exact .step h1 h2 h3 (ih k)
theorem dG.one {c c':dl}{y:UInt8}{t:sd}(h1:cW y=false)(h2:dt (y::ys)=some (t,n))(h3:dK c t=some c'):dG c (y::ys) c' ((y::ys).drop n):=
 .step (by rw[List.dropWhile_cons,if_neg (by simp[h1])]) h2 h3 (.refl _ _)
theorem oG:∀ (xs:List UInt8) (t:NS),t.n<=(az t xs).n/\(az t xs).n<=t.n+xs.length
 | [],t=>⟨Zb _,Zb _⟩
 |c::xs,t=>by
  unfold az
  split
  ·exact⟨Zb _,by simp⟩
  ·have:=oG xs (t.next c);simp only[NS.next,List.length_cons] at this ⊢;omega
theorem tG {x:UInt8}{p:Dc×Nat}(h:nJ (x::xs)=some p):1<=p.2/\p.2<=xs.length+1:=by
 simp only[nJ] at h
 split at h
 ·rename_i hw
  rw[Option.map_eq_some_iff] at h;obtain⟨d,-,rfl⟩:=h;have hb:=oG (x::xs) ia;refine⟨?_,by simpa [ia] using hb.2⟩;unfold az at hw ⊢
  split at hw
  ·simp[ia,d8] at hw
  ·rename_i h9
   rw[if_neg h9];have:=(oG xs (ia.next x)).1;simp only[NS.next,ia] at this ⊢;omega
 ·cases h
theorem yZ:∀ (f:Nat) (xs out:List UInt8) (n:Nat) (p:List UInt8×Nat),fG f xs out n=some p->n+1<=p.2
 |0,_,_,_,_,h=>by cases h
 |f+1,xs,out,n,p,h=>by
  unfold fG at h
  split at h
  ·cases h
  ·injection h with h;subst h;exact Zb _
  ·have:=yZ f _ _ _ p h;omega
theorem BS {t:sd}(h:dt xs=some (t,n)):1<=n/\xs≠ []:=by
 cases xs with
 |nil=>cases h
 |cons x xs=>
  refine⟨?_,by simp⟩;simp only[dt] at h
  split at h
  ·injection h with h;injection h with _ h;omega
  ·rw[Option.map_eq_some_iff] at h;obtain⟨j,-,h⟩:=h;injection h with _ h;omega
  ·rw[Option.map_eq_some_iff] at h;obtain⟨p,hp,h⟩:=h;injection h with _ h
   have:=tG hp;omega
  ·rw[Option.map_eq_some_iff] at h;obtain⟨p,hp,h⟩:=h;injection h with _ h
   unfold mD at hp
   split at hp
   ·have:=yZ _ _ _ _ _ hp;omega
   ·cases hp
  ·cases h
theorem il (xs:List UInt8):(xs.dropWhile cW).length<=xs.length:=(List.dropWhile_sublist _).length_le
open Go.RowKit
theorem AP (x:UInt8):((bt x:Nat):Int)=if(x.toNat:Int)=45 then 0 else if(x.toNat:Int)=43 then 1 else if(x.toNat:Int)=48 then 2 else if 49<=(x.toNat:Int)/\(x.toNat:Int)<=57 then 3 else if(x.toNat:Int)=46 then 4 else if(x.toNat:Int)=101\/(x.toNat:Int)=69 then 5 else 6:=by
 have h:∀n:Nat,n<256->((bt (UInt8.ofNat n):Nat):Int)=if(n:Int)=45 then 0 else if(n:Int)=43 then 1 else if(n:Int)=48 then 2 else if 49<=(n:Int)/\(n:Int)<=57 then 3 else if(n:Int)=46 then 4 else if(n:Int)=101\/(n:Int)=69 then 5 else 6:=by decide +kernel
 have:=h x.toNat x.toNat_lt
 rwa[UInt8.ofNat_toNat] at this
theorem tN (x:UInt8)(w:World):Calls Tryz.prog 226 #[.int .u8 x.toNat] w fun e w'=>e =.returned (.int .i64 (bt x:Nat))/\w=w':=by
 rw[AP];have hx:=x.toNat_lt;obtain⟨c,hc⟩:∃c:Int,(x.toNat:Int)=c:=⟨_,rfl⟩;have h0:0<=c:=by omega
 have h1:c<256:=by omega
 rw[hc];clear hx hc;go_enter Tryz.func226,Tryz.ntmps226;go_wp2
 all_goals go_ret
 all_goals refine⟨yw ?_,rfl⟩
 all_goals (simp_all <;> omega)
theorem py (t:NS)(vd ve:Value)(w:World):Calls Tryz.prog 211 #[.agg #[.bool t.neg,.bool t.down,vd,.int .i64 t.part,ve,.int .i64 t.st,.int .i64 t.n]] w fun e w'=>e =.returned (.bool (d8 t.st))/\Below w.heap.size w w':=by
 obtain⟨neg,down,digs,part,exps,st,n⟩:=t
 dsimp only
 have hw:d8 st= (decide ((st:Int)=2)||decide ((st:Int)=3)||decide ((st:Int)=5)||decide ((st:Int)=8)):=by
  unfold d8;rw[Bool.eq_iff_iff];simp;omega
 rw[hw];obtain⟨z,hz⟩:∃z:Int,(st:Int)=z:=⟨_,rfl⟩;rw[hz];clear hz hw;have hb:=ac w (.cells #[.bool neg,.bool down,vd,.int .i64 part,ve,.int .i64 z,.int .i64 n] 354);go_enter Tryz.func211,Tryz.ntmps211;go_wp2
 all_goals go_ret
 all_goals refine⟨iJ ?_,hb⟩
 all_goals (simp_all <;> omega)
theorem uM {p:UInt8->Bool}(h:∀n,n<256->p (UInt8.ofNat n)=true)(c:UInt8):p c=true:=by
 have:=h c.toNat c.toNat_lt
 rwa[UInt8.ofNat_toNat] at this
theorem sr {c:UInt8}(h:eG c=true):bt c=2\/bt c=3:=by
 have:=uM (p:=fun c=> !eG c||(bt c==2||bt c==3)) (by decide +kernel) c;simp[h] at this;exact this
theorem EA {c:UInt8}(h:eG c=true)(h0:c≠48):bt c=3:=by
 have:=uM (p:=fun c=> !eG c||(c==48||bt c==3)) (by decide +kernel) c;simpa [h,h0] using this
def p8 (zs:List UInt8):Prop:= ∀c l,zs=c::l->bt c=6
theorem ke {t:NS}(h:p8 zs):az t zs=t:=by
 cases zs with
 |nil=>rfl
 |cons c l=>
  unfold az;rw[h c l rfl,if_pos (by simp[ey])]
theorem D8 {s:Nat}(hs:s=3\/s=5\/s=8){k:Nat}(hk:k=2\/k=3):ey s k=s:=by
 rcases hs with rfl|rfl|rfl <;> rcases hk with rfl|rfl <;> rfl
theorem jX {s:Nat}(hs:s=3\/s=5\/s=8):∀ (ds:List UInt8) (t:NS) (zs:List UInt8),t.st=s->(∀c∈ds,eG c=true)->
  az t (ds++zs)=az {neg:=t.neg,down:=t.down,digs:=if s=8 then t.digs else t.digs++ds,part:=if s=5 then t.part+ds.length else t.part,exps:=if s=8 then t.exps++ds else t.exps,st:=t.st,n:=t.n+ds.length} zs
 | [],t,zs,h,_=>by obtain⟨a,b,c,d,e,f,g⟩:=t;simp
 |c::ds,t,zs,h,hd=>by
  have hk:=D8 hs (sr (hd c (by simp)));rw[<-h] at hk;have h1:az t (c::ds++zs)=az (t.next c) (ds++zs):=by
   show az t (c:: (ds++zs))=_
   conv=>lhs;unfold az
   rw[hk,h,if_neg (by omega)]
  have hn:(t.next c).st=s:=by show ey t.st (bt c)=s;rw[hk,h]
  rw[h1,jX hs ds _ zs hn (fun c hc=>hd c (Zm _ hc))];obtain⟨a,b,c',d,e,f,g⟩:=t;simp only at h hk;subst h;simp only[NS.next,hk,List.length_cons];rcases hs with rfl|rfl|rfl <;> simp[Nat.add_assoc,Nat.add_comm 1]
theorem kh {c:UInt8}(h:c≠48):dI (c::l)=c::l:=by
 unfold dI;rw[List.dropWhile_cons,if_neg (by simpa using h)]
theorem wj (h:∀c,l.getLast?=some c->c≠48):nX l=l:=by
 unfold nX
 cases hr:l.reverse with
 |nil=>simp[dI];simpa using hr.symm
 |cons c m=>
  rw[kh (h c (by rw[List.getLast?_eq_head?_reverse,hr];rfl)),<-hr,List.reverse_reverse]
theorem pL (l:List UInt8)(c:UInt8):jx (l ++ [c])=jx l*10+ (c.toNat - 48):=by
 unfold jx;rw[List.foldl_append];rfl
theorem E7 {k:Nat}(h:k<10):(UInt8.ofNat (48+k)).toNat=48+k:=bL _ (by omega)
theorem yT {k:Nat}(h:k<10):eG (UInt8.ofNat (48+k))=true:=by unfold eG;rw[E7 h];simp;omega
theorem pj (u:Nat):∀c∈Lib.decDigits u,eG c=true:=by
 induction u using Nat.strongRecOn with
 |ind u ih=>
  rw[Lib.decDigits]
  split
  ·rename_i h
   intro c hc;rw[List.mem_singleton.1 hc];exact yT h
  ·intro c hc;rcases List.mem_append.1 hc with hc|hc
   ·exact ih (u/10) (by omega) c hc
   ·rw[List.mem_singleton.1 hc];exact yT (by omega)
theorem Cz (u:Nat):jx (Lib.decDigits u)=u:=by
 induction u using Nat.strongRecOn with
 |ind u ih=>
  rw[Lib.decDigits]
  split
  ·rename_i h
   show 0*10+ ((UInt8.ofNat (48+u)).toNat - 48)=u
   rw[E7 h];omega
  ·rw[pL,ih (u/10) (by omega),E7 (by omega)];omega
theorem oL (u:Nat):∃c l,Lib.decDigits u=c::l/\(0<u->c≠48):=by
 induction u using Nat.strongRecOn with
 |ind u ih=>
  rw[Lib.decDigits]
  split
  ·rename_i h
   refine⟨_, [],rfl,fun h0 e=>?_⟩;have:=congrArg UInt8.toNat e;rw[E7 h] at this;simp at this;omega
  ·obtain⟨c,l,h1,h2⟩:=ih (u/10) (by omega);rw[h1];exact⟨c,_,rfl,fun _=>h2 (by omega)⟩
theorem gg {u:Nat}(h:u<=1000000000):(Lib.decDigits u).length<=10:=by
 rw[Lib.decDigits_length];rw[Lib.nDigits];split
 ·omega
 rw[Lib.nDigits];split
 ·omega
 rw[Lib.nDigits];split
 ·omega
 rw[Lib.nDigits];split
 ·omega
 rw[Lib.nDigits];split
 ·omega
 rw[Lib.nDigits];split
 ·omega
 rw[Lib.nDigits];split
 ·omega
 rw[Lib.nDigits];split
 ·omega
 rw[Lib.nDigits];split
 ·omega
 rw[Lib.nDigits];split
 ·omega
 ·omega
def fJ (x:Int):List UInt8:=if x=0 then [] else 101::Lib.itoa x
def eT (d:Dc):List UInt8:=(if d.neg then [45] else [])++ (d.digits.data.toList++fJ d.exp)
structure I8 (l:List UInt8):Prop where
 dig:∀c∈l,eG c=true
 ne:l≠ []
 first:∀c,l.head?=some c->c≠48
 qC:∀c,l.getLast?=some c->c≠48
def jM (d:Dc):Prop:=d= ⟨false,⟨#[48]⟩,0⟩\/(I8 d.digits.data.toList/\ -1000000000<=d.exp/\d.exp<=1000000000)
theorem zt {t:NS}(ht:t.st=3\/t.st=2)(h0:t.exps = [])(hd:t.down=false)(x:Int)(hx: -1000000000<=x/\x<=1000000000)(hz:p8 zs) :
  ∃t',az t (fJ x++zs)=t'/\t'.neg=t.neg/\t'.digs=t.digs/\t'.part=t.part/\t'.n=t.n+ (fJ x).length/\d8 t'.st=true/\fK t'=x:=by
 unfold fJ
 by_cases h:x=0
 ·subst h;rw[if_pos rfl,List.nil_append,ke hz];refine⟨t,rfl,rfl,rfl,rfl,rfl,?_,?_⟩
  ·rcases ht with h|h <;> rw[h] <;> rfl
  ·unfold fK;rw[h0,hd];simp[dI,jx]
 ·rw[if_neg h];have e1:az t (101::Lib.itoa x++zs)=az (t.next 101) (Lib.itoa x++zs):=by
   show az t (101:: (Lib.itoa x++zs))=_
   conv=>lhs;unfold az
   rw[if_neg (by rcases ht with h|h <;> rw[h] <;> decide)]
  have s1:(t.next 101).st=6:=by simp only[NS.next];rcases ht with h|h <;> rw[h] <;> rfl
  have q1:(t.next 101).neg=t.neg/\(t.next 101).digs=t.digs/\(t.next 101).part=t.part/\(t.next 101).n=t.n+1/\(t.next 101).exps = []/\(t.next 101).down=false:=by
   have s1':=s1;simp only[NS.next] at s1' ⊢;rw[s1'];simp[h0,hd]
  rw[e1];generalize t.next 101=u at s1 q1;obtain⟨k1,k2,k3,k4,k5,k6⟩:=q1
  -- the digits
  have main:∀ (v:NS) (m:Nat),(v.st=6\/v.st=7)->v.exps = []->0<m->m<=1000000000->∃t',az v (Lib.decDigits m++zs)=t'/\t'.neg=v.neg/\t'.digs=v.digs/\t'.part=v.part/\t'.n=v.n+ (Lib.decDigits m).length/\d8 t'.st=true/\fK t'=if v.down then -(m:Int) else m:=by
   intro v m hv he hm a2;obtain⟨c,l,hc,a1⟩:=oL m;have a0:=pj m;rw[hc] at a0;have hk:=sr (a0 c (by simp));have g8:ey v.st (bt c)=8:=by rcases hv with h|h <;> rcases hk with h'|h' <;> rw[h,h'] <;> rfl
   have e2:az v (Lib.decDigits m++zs)=az (v.next c) (l++zs):=by
    rw[hc]
    show az v (c:: (l++zs))=_
    conv=>lhs;unfold az
    rw[g8,if_neg (by omega)]
   have s2:(v.next c).st=8:=by simp only[NS.next];exact g8
   refine⟨_,rfl,?_⟩;rw[e2,jX (.inr (.inr rfl)) l _ zs s2 (fun c h=>a0 c (Zm _ h)),ke hz];have hlen:=gg a2;rw[hc] at hlen;have a4:v.exps ++ [c]++l=Lib.decDigits m:=by rw[he,hc];rfl
   have a3:(v.next c).exps++l=Lib.decDigits m:=by simp only[NS.next,g8];simpa [he] using hc.symm
   refine⟨by simp[NS.next,g8],by simp[NS.next,g8],by simp[NS.next,g8],by simp[NS.next,hc];omega,by show d8 (v.next c).st=true;rw[s2];rfl,?_⟩;unfold fK;simp only[if_true,a3];have e4:(if(c::l).length<=12 then((jx (c::l):Nat):Int) else 1099511627776)=m:=by rw[if_pos (by omega),<-hc,Cz]
   rw[hc,kh (a1 hm),e4];simp[NS.next,g8]
  by_cases hn:x<0
  ·obtain⟨m,rfl⟩:∃m:Nat,x = -(m:Int):=⟨x.natAbs,by omega⟩;rw[Lib.itoa_neg m (by omega)];have e3:az u (45::Lib.decDigits m++zs)=az (u.next 45) (Lib.decDigits m++zs):=by
    show az u (45:: (Lib.decDigits m++zs))=_
    conv=>lhs;unfold az
    rw[s1,if_neg (by decide)]
   have g7:ey u.st (bt 45)=7:=by rw[s1];rfl
   obtain⟨t',r1,r2,r3,r4,r5,r6,r7⟩:=main (u.next 45) m (by simp[NS.next,g7]) (by simp[NS.next,g7,k5]) (by omega) (by omega);refine⟨t',by rw[e3,r1],?_,?_,?_,?_,r6,?_⟩
   ·rw[r2,<-k1];simp[NS.next,g7]
   ·rw[r3,<-k2];simp[NS.next,g7]
   ·rw[r4,<-k3];simp[NS.next,g7]
   ·rw[r5,show(u.next 45).n=u.n+1 from rfl,k4];simp;omega
   ·rw[r7];simp[NS.next,g7]
  ·obtain⟨m,rfl⟩:∃m:Nat,x= (m:Int):=⟨x.natAbs,by omega⟩;rw[Lib.itoa_nonneg m];obtain⟨t',r1,r2,r3,r4,r5,r6,r7⟩:=main u m (.inl s1) k5 (by omega) (by omega);exact⟨t',r1,r2.trans k1,r3.trans k2,r4.trans k3,by rw[r5,k4];simp;omega,r6,by rw[r7,k6];simp⟩
theorem uQ {x:Int}(h: -1000000000<=x/\x<=1000000000):oe x=x:=by unfold oe;omega
theorem Dr (h:jM d)(hz:p8 zs):nJ (eT d++zs)=some (d,(eT d).length):=by
 rcases h with rfl|⟨hl,hx⟩
 ·have e:eT ⟨false,⟨#[48]⟩,0⟩++zs=48::zs:=rfl;have e1:az ia (48::zs)=ia.next 48:=by
   conv=>lhs;unfold az
   rw[if_neg (by decide),ke hz]
  simp only[nJ,e,e1];rfl
 ·obtain⟨neg,⟨⟨ds⟩⟩,x⟩:=d;simp only[eT] at hl hx ⊢;obtain⟨hd,hne,hf,a1⟩:=hl
  cases ds with
  |nil=>exact absurd rfl hne
  |cons c l=>
   have a0:=hf c rfl;have hk:=EA (hd c (by simp)) a0;have key:∀v:NS,(v.st=0\/v.st=1)->v.exps = []->v.down=false->v.digs = []->v.part=0->∃t',az v ((c::l++fJ x)++zs)=t'/\t'.neg=v.neg/\t'.digs=c::l/\t'.part=0/\t'.n=v.n+ (c::l++fJ x).length/\d8 t'.st=true/\fK t'=x:=by
    intro v hv h1 h2 h3 h4;have g3:ey v.st (bt c)=3:=by rcases hv with h|h <;> rw[h,hk] <;> rfl
    have e2:az v ((c::l++fJ x)++zs)=az (v.next c) (l++ (fJ x++zs)):=by
     rw[List.append_assoc]
     show az v (c:: (l++ (fJ x++zs)))=_
     conv=>lhs;unfold az
     rw[g3,if_neg (by omega)]
    have s2:(v.next c).st=3:=by simp only[NS.next];exact g3
    rw[e2,jX (.inl rfl) l _ _ s2 (fun c h=>hd c (Zm _ h))];obtain⟨t',r1,r2,r3,r4,r5,r6,r7⟩:=zt (t:={neg:=(v.next c).neg,down:=(v.next c).down,digs:=if 3=8 then(v.next c).digs else(v.next c).digs++l,part:=if 3=5 then(v.next c).part+l.length else(v.next c).part,exps:=if 3=8 then(v.next c).exps++l else(v.next c).exps,st:=(v.next c).st,n:=(v.next c).n+l.length}) (.inl s2) (by simp[NS.next,g3,h1]) (by simp[NS.next,g3,h2]) x hx hz;refine⟨t',r1,?_,?_,?_,?_,r6,r7⟩
    ·rw[r2];simp[NS.next,g3]
    ·rw[r3];simp[NS.next,g3,h3]
    ·rw[r4];simp[NS.next,g3,h4]
    ·rw[r5];simp[NS.next];omega
   have fin:∀t':NS,t'.neg=neg->t'.digs=c::l->t'.part=0->d8 t'.st=true->fK t'=x->(if d8 t'.st then(it t'.neg t'.digs (fK t') (-(t'.part:Int))).map fun d=>(d,t'.n) else none)=some (⟨neg,⟨(c::l).toArray⟩,x⟩,t'.n):=by
    intro t' h1 h2 h3 h4 h5;rw[if_pos h4,h1,h2,h3,h5];simp only[it,kh a0,wj a1,uQ hx];simp[hx]
   cases neg with
   |false=>
    obtain⟨t',r1,r2,r3,r4,r5,r6,r7⟩:=key ia (.inl rfl) rfl rfl rfl rfl;simp only[nJ,Bool.false_eq_true,if_false,List.nil_append,r1];rw[fin t' r2 r3 r4 r6 r7,r5];simp[ia]
   |true=>
    have e3:az ia (([45]++ (c::l++fJ x))++zs)=az (ia.next 45) ((c::l++fJ x)++zs):=by
     show az ia (45:: ((c::l++fJ x)++zs))=_
     conv=>lhs;unfold az
     rw[if_neg (by decide)]
    obtain⟨t',r1,r2,r3,r4,r5,r6,r7⟩:=key (ia.next 45) (.inr rfl) rfl rfl rfl rfl;simp only[nJ,if_true,e3,r1];rw[fin t' r2 r3 r4 r6 r7,r5];simp[ia,NS.next];omega
