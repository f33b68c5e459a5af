import Derived.Test.YtohibglohlfjfaaGreatDoorGZ6au
set_option linter.unusedVariables false
set_option linter.unusedSimpArgs false
set_option maxRecDepth 100000
namespace Go.Proofs.YtohibglohlfjfaaGreatDoor
variable {d:Dc}{f:Fr}{j:JV}{frs:List Fr}{ks:List JV}{l xs xs' ys zs:List UInt8}{c want:Nat}
def oO (n:Nat):UInt8:=if n<10 then UInt8.ofNat (48+n) else UInt8.ofNat (87+n)
def cJ (c:Int):List UInt8:=
 if c=34 then [92,34] else if c=92 then [92,92] else if c=8 then [92,98] else if c=9 then [92,116] else if c=10 then [92,110] else if c=12 then [92,102] else if c=13 then [92,114]
 else if c<32 then [92,117,48,48,oO (c.toNat/16),oO (c.toNat % 16)] else bE c
def lx (cs:List Int):List UInt8:=34:: (cs.flatMap cJ ++ [34])
def ea (s:ByteArray):List UInt8:=lx (nm s)
theorem BW (h:dF c=true)(a1:32<=c)(a2:c≠34)(a0:c≠92):∃x l,bE c=x::l/\x≠34/\x≠92/\¬x.toNat<32:=by
 have hr:=h;rw[cS] at h;simp at h
 by_cases h1:c<128
 ·refine⟨_, [],od c h1,?_,?_,?_⟩
  ·intro e;have:=congrArg UInt8.toNat e;rw[bL _ (by omega)] at this;simp at this;omega
  ·intro e;have:=congrArg UInt8.toNat e;rw[bL _ (by omega)] at this;simp at this;omega
  ·rw[bL _ (by omega)];omega
 ·have key:∃n l,bE c=UInt8.ofNat n::l/\128<=n/\n<256:=by
   by_cases h2:c<2048
   ·exact⟨_,_,sG c ⟨by omega,h2⟩,by omega,by omega⟩
   ·by_cases h3:c<65536
    ·exact⟨_,_,pG c ⟨by omega,h3⟩ (by omega),by omega,by omega⟩
    ·exact⟨_,_,t7 c ⟨by omega,by omega⟩,by omega,by omega⟩
  obtain⟨n,l,e,h3,h4⟩:=key;refine⟨_,l,e,?_,?_,?_⟩
  ·intro e;have:=congrArg UInt8.toNat e;rw[bL _ h4] at this;simp at this;omega
  ·intro e;have:=congrArg UInt8.toNat e;rw[bL _ h4] at this;simp at this;omega
  ·rw[bL _ h4];omega
theorem BD (h:dF c=true)(a1:32<=c)(a2:c≠34)(a0:c≠92)(zs:List UInt8):bP (bE c++zs)=some (some (c,(bE c).length)):=by
 obtain⟨x,l,e,h1,h2,h3⟩:=BW h a1 a2 a0;have hd:=ip c h zs;rw[e] at hd ⊢;rw[List.cons_append] at hd ⊢;simp only[bP];rw[if_neg h1,if_neg h2,if_neg h3,hd];rfl
theorem pQ (n:Nat)(h:n<16):ib (oO n)=some n:=by
 have:∀n,n<16->ib (oO n)=some n:=by decide +kernel
 exact this n h
theorem pT (h:dF c=true)(zs:List UInt8):bP (cJ c++zs)=some (some (c,(cJ c).length)):=by
 unfold cJ
 by_cases h34:(c:Int)=34
 ·rw[if_pos h34];obtain rfl:c=34:=by omega
  rfl
 rw[if_neg h34]
 by_cases h92:(c:Int)=92
 ·rw[if_pos h92];obtain rfl:c=92:=by omega
  rfl
 rw[if_neg h92]
 by_cases h8:(c:Int)=8
 ·rw[if_pos h8];obtain rfl:c=8:=by omega
  rfl
 rw[if_neg h8]
 by_cases h9:(c:Int)=9
 ·rw[if_pos h9];obtain rfl:c=9:=by omega
  rfl
 rw[if_neg h9]
 by_cases h10:(c:Int)=10
 ·rw[if_pos h10];obtain rfl:c=10:=by omega
  rfl
 rw[if_neg h10]
 by_cases h12:(c:Int)=12
 ·rw[if_pos h12];obtain rfl:c=12:=by omega
  rfl
 rw[if_neg h12]
 by_cases h13:(c:Int)=13
 ·rw[if_pos h13];obtain rfl:c=13:=by omega
  rfl
 rw[if_neg h13]
 by_cases h32:(c:Int)<32
 ·rw[if_pos h32];have e1:=pQ (c/16) (by omega);have e2:=pQ (c % 16) (by omega);have e3:cM (48::48::oO (c/16)::oO (c % 16)::zs)=some c:=by
   simp only[cM,e1,e2,show ib 48=some 0 from rfl,bind,pure,Option.bind]
   congr 1;omega
  show bP (92::117::48::48::oO (c/16)::oO (c % 16)::zs)=some (some (c,6))
  simp only[bP];rw[if_neg (by decide),if_pos trivial]
  show(kg (48::48::oO (c/16)::oO (c % 16)::zs)).map some=_
  unfold kg;simp only[e3,bind,pure,Option.bind];rw[if_pos (by omega)];rfl
 ·rw[if_neg h32];exact BD h (by omega) (by omega) (by omega) zs
theorem Cx (h:dF c=true):1<=(cJ c).length:=by
 have:=pT h [];rcases hl:cJ c with _|⟨x,l⟩
 ·rw[hl] at this;simp[bP] at this
 ·simp
theorem uI:∀ (cs:List Int) (f:Nat) (out:List UInt8) (n:Nat) (zs:List UInt8),(∀c∈cs,dF c=true)->cs.length<f->fG f (cs.flatMap cJ++34::zs) out n=some (out++cs.flatMap bE,n+ (cs.flatMap cJ).length+1)
 | [],0,_,_,_,_,h=>absurd h (Nat.not_lt_zero _)
 | [],f+1,out,n,zs,_,_=>by
  show fG (f+1) (34::zs) out n=_
  simp[fG,bP]
 |c::cs,0,_,_,_,_,h=>absurd h (Nat.not_lt_zero _)
 |c::cs,f+1,out,n,zs,hc,h=>by
  have h0:=hc c (by simp);obtain⟨k,rfl⟩:∃k:Nat,c=k:=⟨c.toNat,by have:=dZ h0;omega⟩;have hp:=pT h0 (cs.flatMap cJ++34::zs);have e:(((k:Int)::cs).flatMap cJ++34::zs)=cJ k++ (cs.flatMap cJ++34::zs):=by simp
  rw[e];unfold fG;rw[hp];simp only[List.drop_left];rw[uI cs f _ _ zs (fun c h=>hc c (Zm _ h)) (by simpa using h)];simp[Nat.add_assoc]
theorem Ce {cs:List Int}(hc:∀c∈cs,dF c=true)(zs:List UInt8):mD (lx cs++zs)=some (cs.flatMap bE,(lx cs).length):=by
 have hl:∀ {cs:List Int},(∀c∈cs,dF c=true)->cs.length<=(cs.flatMap cJ).length:=by
  intro cs
  induction cs with
  |nil=>intro _;simp
  |cons c cs ih=>
   intro hc;have h0:=hc c (by simp);obtain⟨k,rfl⟩:∃k:Nat,c=k:=⟨c.toNat,by have:=dZ h0;omega⟩;have:=Cx h0;have:=ih (fun c h=>hc c (Zm _ h));rw[List.flatMap_cons,List.length_append,List.length_cons];omega
 have e:lx cs++zs=34:: (cs.flatMap cJ++34::zs):=by simp[lx]
 rw[e]
 show fG _ _ [] 1=_
 rw[uI cs _ [] 1 zs hc (by have:=hl hc;rw[List.length_append];omega)];simp[lx];omega
def du (s:ByteArray):Prop:= ∃cs:List Int,(∀c∈cs,dF c=true)/\s.data.toList=cs.flatMap bE
theorem du.nm {s:ByteArray}(h:du s):(∀c∈nm s,dF c=true)/\(nm s).flatMap bE=s.data.toList:=by
 obtain⟨cs,h1,h2⟩:=h;have e:Proofs.YtohibglohlfjfaaGreatDoor.nm s=cs:=by unfold Proofs.YtohibglohlfjfaaGreatDoor.nm;rw[h2];exact im fL h1
 rw[e];exact⟨h1,h2.symm⟩
theorem va {s:ByteArray}(h:du s)(zs:List UInt8):dt (ea s++zs)=some (.str s,(ea s).length):=by
 have hq:=Ce h.nm.1 zs;have e:ea s++zs=34:: ((Proofs.YtohibglohlfjfaaGreatDoor.nm s).flatMap cJ ++ [34]++zs):=by simp[ea,lx]
 have e2:lx (Proofs.YtohibglohlfjfaaGreatDoor.nm s)++zs=34:: ((Proofs.YtohibglohlfjfaaGreatDoor.nm s).flatMap cJ ++ [34]++zs):=by simp[lx]
 rw[e2] at hq;rw[e];have hk:co 34=5:=by decide
 simp only[dt,hk,hq,Option.map_some,h.nm.2];rfl
mutual
def JV.txt:JV->List UInt8
 | .mk k t x n ns ks=>if k=1 then [110,117,108,108] else if k=2 then(if t then [116,114,117,101] else [102,97,108,115,101]) else if k=3 then eT n else if k=4 then ea x
  else if k=5 then 91:: (JV.txts false true ns ks ++ [93]) else if k=6 then 123:: (JV.txts true true ns ks ++ [125]) else []
def JV.txts:Bool->Bool->List ByteArray->List JV->List UInt8
 |_,_,_, []=> []
 |o,first,ns,v::vs=>(if first then [] else [44])++ ((if o then ea (ns.headD ⟨#[]⟩) ++ [58] else [])++ (JV.txt v++JV.txts o false ns.tail vs))
end
inductive Tx:JV->Prop
 |null:Tx jK
 |bool (b:Bool):Tx (fm b)
 |num (d:Dc):jM d->Tx (dW d)
 |text (s:ByteArray):du s->Tx (eQ s)
 |list (ks:List JV):(∀u∈ks,Tx u)->Tx (dJ ks)
 |obj (ns:List ByteArray) (ks:List JV):ns.length=ks.length->(∀s∈ns,du s)->f7 ns->(∀u∈ks,Tx u)->Tx (.mk 6 false ⟨#[]⟩ ⟨false,⟨#[]⟩,0⟩ ns ks)
theorem jM.zero (h:jM d):qr d:=by
 intro e;rcases h with h|⟨h,-⟩
 ·exact h
 ·rw[e] at h;exact absurd rfl (h.first 48 rfl)
theorem Tx.vl (h:Tx j):Vl j:=by
 induction h with
 |null=>exact .null
 |bool b=>exact .bool b
 |num d hd=>exact .num d hd.zero
 |text s _=>exact .text s
 |list ks _ ih=>exact .list ks ih
 |obj ns ks h1 _ _ _ ih=>exact .obj ns ks h1 ih
theorem jS:∀ {l:List (ByteArray×JV)},(l.map Prod.fst).Pairwise fD->fU l=l
 | [],_=>rfl
 |m::l,h=>by
  rw[List.map_cons,List.pairwise_cons] at h;have ih:=jS h.2
  show qt m (fU l)=_
  rw[ih]
  cases l with
  |nil=>rfl
  |cons x l=>
   have:aw (nm m.1) (nm x.1)<0:=h.1 x.1 (by simp);rw[qt,if_pos this]
theorem ej {c c':dl}{x:UInt8}(hk:co x=2)(h:dK c (.mark x)=some c'):dG c (x::zs) c' zs:=by
 have hb:cW x=false:=by
  cases hx:cW x with
  |false=>rfl
  |true=>simp[co,hx] at hk
 exact .one (n:=1) hb (by simp only[dt,hk]) h
theorem jk (hw:want=0\/want=1)(hb:∀y ys,xs++zs=y::ys->cW y=false)(hx:dt (xs++zs)=some (.leaf j,xs.length)):dG ⟨frs,want,none⟩ (xs++zs) (cV frs j) zs:=by
 cases he:xs++zs with
 |nil=>rw[he] at hx;cases hx
 |cons y ys=>
  have h1:=hb y ys he;rw[he] at hx;have h2:=dG.one (c:=⟨frs,want,none⟩) (c':=cV frs j) h1 hx (by rcases hw with rfl|rfl <;> rfl);rw[<-he,List.drop_left] at h2
  rwa[he] at h2
theorem px (h:jM d):∃c l,eT d=c::l/\co c=4:=by
 rcases h with rfl|⟨hl,-⟩
 ·exact⟨48, [],rfl,by decide⟩
 ·obtain⟨neg,⟨⟨ds⟩⟩,x⟩:=d
  cases neg with
  |true=>exact⟨45,_,rfl,by decide⟩
  |false=>
   cases ds with
   |nil=>exact absurd rfl hl.ne
   |cons c l=>
    refine⟨c,_,rfl,?_⟩;have:=uM (p:=fun c=> !eG c||co c==4) (by decide +kernel) c;simpa [hl.dig c (by simp)] using this
theorem EI {x:UInt8}{k:Nat}(h:co x=k)(hk:k≠1):cW x=false:=by
 cases hx:cW x with
 |false=>rfl
 |true=>simp[co,hx] at h;omega
theorem DO (h:jM d)(hz:p8 zs):dt (eT d++zs)=some (.leaf (dW d),(eT d).length):=by
 have hn:=Dr h hz;obtain⟨c,l,e,hk⟩:=px h;rw[e,List.cons_append] at hn ⊢;simp only[dt,hk,hn];rfl
theorem Bi (hz:p8 zs)(a0:∀c l,zs=c::l->dP c=false):zs.takeWhile dP = []:=by
 cases zs with
 |nil=>rfl
 |cons c l=>rw[List.takeWhile_cons,if_neg (by rw[a0 c l rfl];decide)]
def zx (zs:List UInt8):Prop:= ∀c l,zs=c::l->bt c=6/\dP c=false
theorem zx.stop (h:zx zs):p8 zs:=fun c l e=>(h c l e).1
theorem yK {c:UInt8}(h:bt c=6/\dP c=false):zx (c::l):=by
 intro a m e;injection e with e _
 rw[<-e];exact h
theorem lF {w:List UInt8}(hw:(w,j)∈ [([110,117,108,108],jK),([116,114,117,101],fm true),([102,97,108,115,101],fm false)])(hz:zx zs):dt (w++zs)=some (.leaf j,w.length):=by
 have h0:zs.takeWhile dP = []:=Bi hz.stop (fun c l e=>(hz c l e).2);simp only[List.mem_cons,List.mem_nil_iff,or_false,Prod.mk.injEq] at hw;have hl:∀ (x:UInt8) (l:List UInt8),(∀c∈l,dP c=true)->(l++zs).takeWhile dP=l:=by
  intro x l
  induction l with
  |nil=>intro _;exact h0
  |cons c l ih=>intro h;rw[List.cons_append,List.takeWhile_cons,if_pos (h c (by simp)),ih (fun c hc=>h c (Zm _ hc))]
 rcases hw with ⟨rfl,rfl⟩|⟨rfl,rfl⟩|⟨rfl,rfl⟩
 ·have:=hl 0 [117,108,108] (by decide)
  show dt (110:: ([117,108,108]++zs))=_
  simp only[dt,this,show co 110=3 from by decide];rfl
 ·have:=hl 0 [114,117,101] (by decide)
  show dt (116:: ([114,117,101]++zs))=_
  simp only[dt,this,show co 116=3 from by decide];rfl
 ·have:=hl 0 [97,108,115,101] (by decide)
  show dt (102:: ([97,108,115,101]++zs))=_
  simp only[dt,this,show co 102=3 from by decide];rfl
def DH (j:JV):Prop:= ∀ (frs:List Fr) (want:Nat) (zs:List UInt8),(want=0\/want=1)->zx zs->dG ⟨frs,want,none⟩ (j.txt++zs) (cV frs j) zs
theorem pM (o:Bool)(ns:List ByteArray)(ks:List JV)(c:UInt8)(zs:List UInt8)(hc:bt c=6/\dP c=false):zx (JV.txts o false ns ks++c::zs):=by
 cases ks with
 |nil=>exact yK hc
 |cons v vs=>
  have:JV.txts o false ns (v::vs)++c::zs=44:: (((if o then ea (ns.headD ⟨#[]⟩) ++ [58] else [])++ (JV.txt v++JV.txts o false ns.tail vs))++c::zs):=by simp[JV.txts]
  rw[this];exact yK (by decide)
theorem xJ (h:∀u∈ks,DH u):∀ (frs:List Fr) (its:List JV) (first:Bool) (ns:List ByteArray) (zs:List UInt8),∃w,(w=1\/w=5)/\dG ⟨⟨false,its, [],none⟩::frs,if first then 1 else 5,none⟩ (JV.txts false first ns ks++93::zs) ⟨⟨false,its++ks, [],none⟩::frs,w,none⟩ (93::zs):=by
 induction ks with
 |nil=>intro frs its first ns zs;exact⟨if first then 1 else 5,by cases first <;> simp,by simpa [JV.txts] using dG.refl _ _⟩
 |cons v vs ih=>
  intro frs its first ns zs;have hv:=h v (by simp);have he:=pM false ns.tail vs 93 zs (by decide);obtain⟨w,hw,hr⟩:=ih (fun u hu=>h u (Zm _ hu)) frs (its ++ [v]) false ns.tail zs;refine⟨w,hw,?_⟩;have e2:its++v::vs=its ++ [v]++vs:=by simp
  rw[e2]
  cases first with
  |true=>
   have e:JV.txts false true ns (v::vs)++93::zs=v.txt++ (JV.txts false false ns.tail vs++93::zs):=by simp[JV.txts]
   rw[e];exact(hv _ 1 _ (.inr rfl) he).trans hr
  |false=>
   have e:JV.txts false false ns (v::vs)++93::zs=44:: (v.txt++ (JV.txts false false ns.tail vs++93::zs)):=by simp[JV.txts]
   rw[e];refine dG.trans (ej (c':=⟨⟨false,its, [],none⟩::frs,0,none⟩) (by decide) rfl) ?_;exact(hv _ 0 _ (.inl rfl) he).trans hr
theorem pY {s:ByteArray}(hw:want=2\/want=3)(hs:du s)(hn:f.mems.any (fun p=>decide (p.1=s))=false)(zs:List UInt8):dG ⟨f::frs,want,none⟩ (ea s++58::zs) ⟨{f with name:=some s}::frs,0,none⟩ zs:=by
 have hx:=va hs (58::zs);have e:ea s++58::zs=34:: ((Proofs.YtohibglohlfjfaaGreatDoor.nm s).flatMap cJ ++ [34]++58::zs):=by simp[ea,lx]
 have h1:dG ⟨f::frs,want,none⟩ (ea s++58::zs) ⟨{f with name:=some s}::frs,4,none⟩ (58::zs):=by
  rw[e] at hx ⊢;have h2:=dG.one (c:=⟨f::frs,want,none⟩) (c':=⟨{f with name:=some s}::frs,4,none⟩) (by decide) hx (by rcases hw with rfl|rfl <;> simp[dK,hn]);rw[<-e,List.drop_left] at h2
  rwa[e] at h2
 exact h1.trans (ej (by decide) rfl)
theorem zF (h:∀u∈ks,DH u):∀ (frs:List Fr) (ms:List (ByteArray×JV)) (first:Bool) (ns:List ByteArray) (zs:List UInt8),ns.length=ks.length->(∀s∈ns,du s)->(ms.map Prod.fst++ns).Pairwise fD->∃w,(w=3\/w=6)/\dG ⟨⟨true, [],ms,none⟩::frs,if first then 3 else 6,none⟩ (JV.txts true first ns ks++125::zs) ⟨⟨true, [],ms++ns.zip ks,none⟩::frs,w,none⟩ (125::zs):=by
 induction ks with
 |nil=>intro frs ms first ns zs hl _ _;exact⟨if first then 3 else 6,by cases first <;> simp,by obtain rfl:=List.eq_nil_of_length_eq_zero hl;simpa [JV.txts] using dG.refl _ _⟩
 |cons v vs ih=>
  intro frs ms first ns zs hl hs hp
  cases ns with
  |nil=>simp at hl
  |cons a ns=>
   have hv:=h v (by simp);have he:=pM true ns vs 125 zs (by decide);obtain⟨w,hw,hr⟩:=ih (fun u hu=>h u (Zm _ hu)) frs (ms ++ [(a,v)]) false ns zs (by simpa using hl) (fun s h=>hs s (Zm _ h)) (by simpa using hp);refine⟨w,hw,?_⟩;have e2:ms++ (a::ns).zip (v::vs)=ms ++ [(a,v)]++ns.zip vs:=by simp
   rw[e2];have hc:ms.any (fun p=>decide (p.1=a))=false:=by
    rw[List.pairwise_append] at hp;rw[List.any_eq_false];intro p hm;have:=mR (hp.2.2 p.1 (List.mem_map_of_mem hm) a (by simp));simpa using this
   cases first with
   |true=>
    have e:JV.txts true true (a::ns) (v::vs)++125::zs=ea a++58:: (v.txt++ (JV.txts true false ns vs++125::zs)):=by simp[JV.txts]
    rw[e];exact((pY (.inr rfl) (hs a (by simp)) hc _).trans (hv _ 0 _ (.inl rfl) he)).trans hr
   |false=>
    have e:JV.txts true false (a::ns) (v::vs)++125::zs=44:: (ea a++58:: (v.txt++ (JV.txts true false ns vs++125::zs))):=by simp[JV.txts]
    rw[e];refine dG.trans (ej (c':=⟨⟨true, [],ms,none⟩::frs,2,none⟩) (by decide) rfl) ?_;exact((pY (.inl rfl) (hs a (by simp)) hc _).trans (hv _ 0 _ (.inl rfl) he)).trans hr
theorem Tx.goes (h:Tx j):DH j:=by
 induction h with
 |null=>exact fun frs want zs hw hz=>jk (xs:= [110,117,108,108]) hw (fun y ys e=>by injection e with e _;subst e;rfl) (lF (by simp) hz)
 |bool b=>
  intro frs want zs hw hz
  cases b with
  |true=>exact jk (xs:= [116,114,117,101]) hw (fun y ys e=>by injection e with e _;subst e;rfl) (lF (by simp) hz)
  |false=>exact jk (xs:= [102,97,108,115,101]) hw (fun y ys e=>by injection e with e _;subst e;rfl) (lF (by simp) hz)
 |num d hd=>
  intro frs want zs hw hz;have e:(dW d).txt=eT d:=by simp[dW,JV.txt]
  rw[e];refine jk hw (fun y ys e=>?_) (DO hd hz.stop);obtain⟨c,l,hc,hk⟩:=px hd;rw[hc] at e;injection e with e _
  subst e;exact EI hk (by omega)
 |text s hs=>
  intro frs want zs hw hz;have e:(eQ s).txt=ea s:=by simp[eQ,JV.txt]
  rw[e];have hx:=va hs zs;have e:ea s++zs=34:: ((Proofs.YtohibglohlfjfaaGreatDoor.nm s).flatMap cJ ++ [34]++zs):=by simp[ea,lx]
  rw[e] at hx ⊢;have h2:=dG.one (c:=⟨frs,want,none⟩) (c':=cV frs (eQ s)) (by decide) hx (by rcases hw with rfl|rfl <;> rfl);rw[<-e,List.drop_left] at h2
  rwa[e] at h2
 |list ks _ ih=>
  intro frs want zs hw hz;have e:(dJ ks).txt++zs=91:: (JV.txts false true [] ks++93::zs):=by simp[dJ,JV.txt]
  rw[e];refine dG.trans (ej (c':=⟨⟨false, [], [],none⟩::frs,1,none⟩) (by decide) (by rcases hw with rfl|rfl <;> rfl)) ?_;obtain⟨w,a0,hr⟩:=xJ ih frs [] true [] zs;refine hr.trans (ej (by decide) ?_);rcases a0 with rfl|rfl <;> rfl
 |obj ns ks hl hs hp _ ih=>
  intro frs want zs hw hz;have e:(JV.mk 6 false ⟨#[]⟩ ⟨false,⟨#[]⟩,0⟩ ns ks).txt++zs=123:: (JV.txts true true ns ks++125::zs):=by simp[JV.txt]
  rw[e];refine dG.trans (ej (c':=⟨⟨true, [], [],none⟩::frs,3,none⟩) (by decide) (by rcases hw with rfl|rfl <;> rfl)) ?_;obtain⟨w,a0,hr⟩:=zF ih frs [] true ns zs hl hs (by simpa [f7] using hp);refine hr.trans (ej (by decide) ?_);have h1:dO ⟨true, [], []++ns.zip ks,none⟩ =.mk 6 false ⟨#[]⟩ ⟨false,⟨#[]⟩,0⟩ ns ks:=by
   have hf:(ns.zip ks).map Prod.fst=ns:=List.map_fst_zip (by omega);have a1:(ns.zip ks).map Prod.snd=ks:=List.map_snd_zip (by omega)
   show mn (fU (ns.zip ks))=_
   rw[jS (by rw[hf];exact hp),mn,hf,a1]
  rw[List.nil_append] at h1;rcases a0 with rfl|rfl <;> simp only[dK,BA] <;> simp[h1]
def Shut:JV->Prop
 | .mk k _ _ _ _ _=>k=4\/k=5\/k=6
def jH (xs ys:List UInt8):Prop:=xs.dropWhile cW=ys.dropWhile cW
theorem jH.refl (xs:List UInt8):jH xs xs:=rfl
theorem jH.trans (h:jH xs ys)(k:jH ys zs):jH xs zs:=Eq.trans h k
theorem dG.same {c c':dl}(h:dG c xs c' ys)(hs:jH xs' xs):∃ys',jH ys' ys/\dG c xs' c' ys':=by
 cases h with
 |refl=>exact⟨xs',hs,.refl _ _⟩
 |step h1 h2 h3 h4=>exact⟨ys,rfl,.step (Eq.trans hs h1) h2 h3 h4⟩
theorem dG.then {a b c:dl}{ys':List UInt8}(h:dG a xs b ys')(hs:jH ys' ys)(k:dG b ys c zs):∃zs',jH zs' zs/\dG a xs c zs':=by
 obtain⟨z,h1,h2⟩:=k.same hs;exact⟨z,h1,h.trans h2⟩
theorem lm (m:ByteArray×JV):∀l,(qt m l).Perm (m::l)
 | []=>List.Perm.refl _
 |x::l=>by
  unfold qt
  split
  ·exact List.Perm.refl _
  ·exact((lm m l).cons x).trans (List.Perm.swap m x l)
theorem jU:∀l,(fU l).Perm l
 | []=>List.Perm.refl _
 |m::l=>(lm m (fU l)).trans ((jU l).cons m)
theorem pm {m:ByteArray×JV}:∀ {l:List (ByteArray×JV)},(l.map Prod.fst).Pairwise fD->(∀x∈l,x.1≠m.1)->((qt m l).map Prod.fst).Pairwise fD
 | [],_,_=>by simp[qt]
 |x::l,h,hn=>by
  unfold qt;rw[List.map_cons,List.pairwise_cons] at h
  split
  ·rename_i hlt
   rw[List.map_cons,List.map_cons,List.pairwise_cons,List.pairwise_cons];refine⟨fun b hb=>?_,h⟩;rcases List.mem_cons.1 hb with rfl|hb
   ·exact hlt
   ·exact gJ hlt (h.1 b hb)
  ·rename_i hlt
   have hx:fD x.1 m.1:=jm hlt (fun e=>hn x (by simp) e.symm);rw[List.map_cons,List.pairwise_cons];refine⟨fun b hb=>?_,pm h.2 (fun y hy=>hn y (Zm _ hy))⟩;obtain⟨y,hy,rfl⟩:=List.mem_map.1 hb;rcases List.mem_cons.1 ((lm m l).mem_iff.1 hy) with rfl|hy
   ·exact hx
   ·exact h.1 y.1 (List.mem_map_of_mem hy)
theorem mU:∀ {l:List (ByteArray×JV)},(l.map Prod.fst).Nodup->((fU l).map Prod.fst).Pairwise fD
 | [],_=>List.Pairwise.nil
 |m::l,h=>by
  rw[List.map_cons,List.nodup_cons] at h;refine pm (mU h.2) fun x hx e=>h.1 ?_
  rw[<-e];exact List.mem_map_of_mem ((jU l).mem_iff.1 hx)
theorem DL {l m:List (ByteArray×JV)}(hp:l.Perm m)(hr:(m.map Prod.fst).Pairwise fD):fU l=m:=by
 have hn:(l.map Prod.fst).Nodup:=((hp.map Prod.fst).nodup_iff).2 (hr.imp fun h=>mR h);exact pV ((jU l).trans hp) (mU hn) hr
def JC:List UInt8:= [123,32,34,98,34,32,58,32,91,49,46,53,48,44,32,49,101,50,93,44,32,34,97,92,117,48,48,54,50,34,32,58,32,110,117,108,108,32,125]
def Iv:JV:=.mk 6 false ⟨#[]⟩ ⟨false,⟨#[]⟩,0⟩ [⟨#[97,98]⟩,⟨#[98]⟩] [jK,dJ [dW ⟨false,⟨#[49,53]⟩,-1⟩,dW ⟨false,⟨#[49]⟩,2⟩]]
theorem CA:eV JC=some Iv:=by rfl
theorem B8:Iv.txt = [123,34,97,98,34,58,110,117,108,108,44,34,98,34,58,91,49,53,101,45,49,44,49,101,50,93,125]:=by
 have e1:fJ (-1) = [101,45,49]:=by
  unfold fJ;rw[if_neg (by decide),show(-1:Int) = -((1:Nat):Int) from rfl,Lib.itoa_neg 1 (by decide),Lib.decDigits_one (by decide)];rfl
 have e2:fJ 2 = [101,50]:=by
  unfold fJ;rw[if_neg (by decide),show(2:Int)= ((2:Nat):Int) from rfl,Lib.itoa_nonneg 2,Lib.decDigits_one (by decide)];rfl
 simp only[Iv,JV.txt,JV.txts,jK,dJ,dW,eT,e1,e2];rfl
theorem AC:eV [49]=some (dW ⟨false,⟨#[49]⟩,0⟩):=by rfl
theorem wM:eV [49,46,48]=some (dW ⟨false,⟨#[49]⟩,0⟩):=by rfl
theorem AL:eV [91,49,44,50,93]=some (dJ [dW ⟨false,⟨#[49]⟩,0⟩,dW ⟨false,⟨#[50]⟩,0⟩]):=by rfl
theorem AX:eV [91,49,44,32,50,93]=some (dJ [dW ⟨false,⟨#[49]⟩,0⟩,dW ⟨false,⟨#[50]⟩,0⟩]):=by rfl
theorem mN:(dJ [dW ⟨false,⟨#[49]⟩,0⟩,dW ⟨false,⟨#[50]⟩,0⟩]).txt = [91,49,44,50,93]:=by rfl
theorem Ip:Tx Iv:=by
 have hu:∀l:List UInt8,(∀c∈l,c.toNat<128)->du ⟨l.toArray⟩:=by
  intro l hl;refine⟨l.map fun c=>(c.toNat:Int),?_,?_⟩
  ·intro c hc;obtain⟨x,hx,rfl⟩:=List.mem_map.1 hc;have:=hl x hx;rw[cS];simp;omega
  ·show l=_
   induction l with
   |nil=>rfl
   |cons x l ih=>
    rw[List.map_cons,List.flatMap_cons,<-ih (fun c hc=>hl c (Zm _ hc)),od _ (hl x (by simp)),UInt8.ofNat_toNat];rfl
 have hn:∀ (l:List UInt8) (x:Int),(∀c∈l,eG c=true)->l≠ []->(∀c,l.head?=some c->c≠48)->(∀c,l.getLast?=some c->c≠48)->(-1000000000<=x/\x<=1000000000)->Tx (dW ⟨false,⟨l.toArray⟩,x⟩):=fun l x h1 h2 h3 h4 h5=>.num _ (.inr ⟨⟨h1,h2,h3,h4⟩,h5⟩)
 refine .obj _ _ rfl ?_ ?_ ?_
 ·intro s hs;simp only[List.mem_cons,List.mem_nil_iff,or_false] at hs;rcases hs with rfl|rfl
  ·exact hu [97,98] (by decide)
  ·exact hu [98] (by decide)
 ·refine List.pairwise_cons.2 ⟨?_,List.pairwise_cons.2 ⟨by simp,List.Pairwise.nil⟩⟩;intro b hb;obtain rfl:=List.mem_singleton.1 hb
  show aw (nm _) (nm _)<0
  rw[show aw (nm ⟨#[97,98]⟩) (nm ⟨#[98]⟩) = -1 from rfl]
  decide
 ·intro u hu;simp only[List.mem_cons,List.mem_nil_iff,or_false] at hu;rcases hu with rfl|rfl
  ·exact .null
  ·refine .list _ fun u hu=>?_
   simp only[List.mem_cons,List.mem_nil_iff,or_false] at hu;rcases hu with rfl|rfl
   ·exact hn [49,53] (-1) (by decide) (by decide) (by decide) (by decide) (by decide)
   ·exact hn [49] 2 (by decide) (by decide) (by decide) (by decide) (by decide)
