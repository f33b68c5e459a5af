import Derived.Test.YtgkkffeagolnpaaGreatDoorGZ16ae
set_option linter.unusedVariables false
set_option linter.unusedSimpArgs false
namespace Go.Proofs.YtgkkffeagolnpaaGreatDoor
variable {d:Dc}{f:Fr}{j:JV}{frs:List Fr}{ks:List JV}{xs ys zs:List UInt8}{want:Nat}
mutual
def JV.txt:JV->List UInt8
 | .mk k t x n ns ks=>if k=1 then [110,117,108,108] else if k=2 then(if t then [116,114,117,101] else [102,97,108,115,101]) else if k=3 then eb n else if k=4 then bW x
  else if k=5 then 91:: (JV.txts false true ns ks ++ [93]) else if k=6 then 123:: (JV.txts true true ns ks ++ [125]) else []
def JV.txts:Bool->Bool->List ByteArray->List JV->List UInt8
 |_,_,_, []=> []
 |o,first,ns,v::vs=>(if first then [] else [44])++ ((if o then bW (ns.headD ⟨#[]⟩) ++ [58] else [])++ (JV.txt v++JV.txts o false ns.tail vs))
end
inductive Tx:JV->Prop
 |null:Tx oM
 |bool (b:Bool):Tx (iH b)
 |num (d:Dc):j1 d->Tx (lA d)
 |text (s:ByteArray):bi s->Tx (aZ s)
 |list (ks:List JV):(∀u∈ks,Tx u)->Tx (cJ ks)
 |obj (ns:List ByteArray) (ks:List JV):ns.length=ks.length->(∀s∈ns,bi s)->E9 ns->(∀u∈ks,Tx u)->Tx (.mk 6 false ⟨#[]⟩ ⟨false,⟨#[]⟩,0⟩ ns ks)
theorem j1.zero (h:j1 d):pT d:=by
 intro e;rcases h with h|⟨h,-⟩
 ·exact h
 ·rw[e] at h;exact absurd rfl (h.first 48 rfl)
theorem mw:∀ {l:List (ByteArray×JV)},(l.map Prod.fst).Pairwise iC->cW l=l
 | [],_=>rfl
 |m::l,h=>by
  rw[List.map_cons,List.pairwise_cons] at h;have ih:=mw h.2
  show ml m (cW l)=_
  rw[ih]
  cases l with
  |nil=>rfl
  |cons x l=>
   have:aJ (nm m.1) (nm x.1)<0:=h.1 x.1 (by simp);rw[ml,if_pos this]
theorem dH {c c':bR}{x:UInt8}(hk:bo x=2)(h:bH c (.mark x)=some c'):cR c (x::zs) c' zs:=by
 have hb:bA x=false:=by
  cases hx:bA x with
  |false=>rfl
  |true=>simp[bo,hx] at hk
 exact .one (n:=1) hb (by simp only[bK,hk]) h
theorem ic (hw:want=0\/want=1)(hb:∀y ys,xs++zs=y::ys->bA y=false)(hx:bK (xs++zs)=some (.leaf j,xs.length)):cR ⟨frs,want,none⟩ (xs++zs) (bD frs j) zs:=by
 cases he:xs++zs with
 |nil=>rw[he] at hx;cases hx
 |cons y ys=>
  have h1:=hb y ys he;rw[he] at hx;have h2:=cR.one (c:=⟨frs,want,none⟩) (c':=bD frs j) h1 hx (by rcases hw with rfl|rfl <;> rfl);rw[<-he,List.drop_left] at h2
  rwa[he] at h2
theorem nO (h:j1 d):∃c l,eb d=c::l/\bo c=4:=by
 rcases h with rfl|⟨hl,-⟩
 ·exact⟨48, [],rfl,by decide⟩
 ·obtain⟨neg,⟨⟨ds⟩⟩,x⟩:=d
  cases neg with
  |true=>exact⟨45,_,rfl,by decide⟩
  |false=>
   cases ds with
   |nil=>exact absurd rfl hl.ne
   |cons c l=>
    refine⟨c,_,rfl,?_⟩;have:=sN (p:=fun c=> !ef c||bo c==4) (by decide +kernel) c;simpa [hl.dig c (by simp)] using this
theorem Fc {x:UInt8}{k:Nat}(h:bo x=k)(hk:k≠1):bA x=false:=by
 cases hx:bA x with
 |false=>rfl
 |true=>simp[bo,hx] at h;omega
theorem zU (h:j1 d)(hz:ob zs):bK (eb d++zs)=some (.leaf (lA d),(eb d).length):=by
 have hn:=DK h hz;obtain⟨c,l,e,hk⟩:=nO h;rw[e,List.cons_append] at hn ⊢;simp only[bK,hk,hn];rfl
theorem xT (hz:ob zs)(a0:∀c l,zs=c::l->cv c=false):zs.takeWhile cv = []:=by
 cases zs with
 |nil=>rfl
 |cons c l=>rw[List.takeWhile_cons,if_neg (by rw[a0 c l rfl];decide)]
def yH (zs:List UInt8):Prop:= ∀c l,zs=c::l->bf c=6/\cv c=false
theorem yH.stop (h:yH zs):ob zs:=fun c l e=>(h c l e).1
theorem xe {c:UInt8}{l:List UInt8}(h:bf c=6/\cv c=false):yH (c::l):=by
 intro a m e;injection e with e _
 rw[<-e];exact h
theorem kF {w:List UInt8}(hw:(w,j)∈ [([110,117,108,108],oM),([116,114,117,101],iH true),([102,97,108,115,101],iH false)])(hz:yH zs):bK (w++zs)=some (.leaf j,w.length):=by
 have h0:zs.takeWhile cv = []:=xT hz.stop (fun c l e=>(hz c l e).2);simp only[List.mem_cons,List.mem_nil_iff,or_false,Prod.mk.injEq] at hw;have hl:∀ (x:UInt8) (l:List UInt8),(∀c∈l,cv c=true)->(l++zs).takeWhile cv=l:=by
  intro x l
  induction l with
  |nil=>intro _;exact h0
  |cons c l ih=>intro h;rw[List.cons_append,List.takeWhile_cons,if_pos (h c (by simp)),ih (fun c hc=>h c (Zl _ hc))]
 rcases hw with ⟨rfl,rfl⟩|⟨rfl,rfl⟩|⟨rfl,rfl⟩
 ·have:=hl 0 [117,108,108] (by decide)
  show bK (110:: ([117,108,108]++zs))=_
  simp only[bK,this,show bo 110=3 from by decide];rfl
 ·have:=hl 0 [114,117,101] (by decide)
  show bK (116:: ([114,117,101]++zs))=_
  simp only[bK,this,show bo 116=3 from by decide];rfl
 ·have:=hl 0 [97,108,115,101] (by decide)
  show bK (102:: ([97,108,115,101]++zs))=_
  simp only[bK,this,show bo 102=3 from by decide];rfl
def CL (j:JV):Prop:= ∀ (frs:List Fr) (want:Nat) (zs:List UInt8),(want=0\/want=1)->yH zs->cR ⟨frs,want,none⟩ (j.txt++zs) (bD frs j) zs
theorem nL (o:Bool)(ns:List ByteArray)(ks:List JV)(c:UInt8)(zs:List UInt8)(hc:bf c=6/\cv c=false):yH (JV.txts o false ns ks++c::zs):=by
 cases ks with
 |nil=>exact xe hc
 |cons v vs=>
  have:JV.txts o false ns (v::vs)++c::zs=44:: (((if o then bW (ns.headD ⟨#[]⟩) ++ [58] else [])++ (JV.txt v++JV.txts o false ns.tail vs))++c::zs):=by simp[JV.txts]
  rw[this];exact xe (by decide)
theorem uU (h:∀u∈ks,CL u):∀ (frs:List Fr) (its:List JV) (first:Bool) (ns:List ByteArray) (zs:List UInt8),∃w,(w=1\/w=5)/\cR ⟨⟨false,its, [],none⟩::frs,if first then 1 else 5,none⟩ (JV.txts false first ns ks++93::zs) ⟨⟨false,its++ks, [],none⟩::frs,w,none⟩ (93::zs):=by
 induction ks with
 |nil=>intro frs its first ns zs;exact⟨if first then 1 else 5,by cases first <;> simp,by simpa [JV.txts] using cR.refl _ _⟩
 |cons v vs ih=>
  intro frs its first ns zs;have hv:=h v (by simp);have he:=nL false ns.tail vs 93 zs (by decide);obtain⟨w,hw,hr⟩:=ih (fun u hu=>h u (Zl _ hu)) frs (its ++ [v]) false ns.tail zs;refine⟨w,hw,?_⟩;have e2:its++v::vs=its ++ [v]++vs:=by simp
  rw[e2]
  cases first with
  |true=>
   have e:JV.txts false true ns (v::vs)++93::zs=v.txt++ (JV.txts false false ns.tail vs++93::zs):=by simp[JV.txts]
   rw[e];exact(hv _ 1 _ (.inr rfl) he).trans hr
  |false=>
   have e:JV.txts false false ns (v::vs)++93::zs=44:: (v.txt++ (JV.txts false false ns.tail vs++93::zs)):=by simp[JV.txts]
   rw[e];refine cR.trans (dH (c':=⟨⟨false,its, [],none⟩::frs,0,none⟩) (by decide) rfl) ?_;exact(hv _ 0 _ (.inl rfl) he).trans hr
theorem oo {s:ByteArray}(hw:want=2\/want=3)(hs:bi s)(hn:f.mems.any (fun p=>decide (p.1=s))=false)(zs:List UInt8):cR ⟨f::frs,want,none⟩ (bW s++58::zs) ⟨{f with name:=some s}::frs,0,none⟩ zs:=by
 have hx:=r8 hs (58::zs);have e:bW s++58::zs=34:: ((Proofs.YtgkkffeagolnpaaGreatDoor.nm s).flatMap cf ++ [34]++58::zs):=by simp[bW,kr]
 have h1:cR ⟨f::frs,want,none⟩ (bW s++58::zs) ⟨{f with name:=some s}::frs,4,none⟩ (58::zs):=by
  rw[e] at hx ⊢;have h2:=cR.one (c:=⟨f::frs,want,none⟩) (c':=⟨{f with name:=some s}::frs,4,none⟩) (by decide) hx (by rcases hw with rfl|rfl <;> simp[bH,hn]);rw[<-e,List.drop_left] at h2
  rwa[e] at h2
 exact h1.trans (dH (by decide) rfl)
theorem ya (h:∀u∈ks,CL u):∀ (frs:List Fr) (ms:List (ByteArray×JV)) (first:Bool) (ns:List ByteArray) (zs:List UInt8),ns.length=ks.length->(∀s∈ns,bi s)->(ms.map Prod.fst++ns).Pairwise iC->∃w,(w=3\/w=6)/\cR ⟨⟨true, [],ms,none⟩::frs,if first then 3 else 6,none⟩ (JV.txts true first ns ks++125::zs) ⟨⟨true, [],ms++ns.zip ks,none⟩::frs,w,none⟩ (125::zs):=by
 induction ks with
 |nil=>intro frs ms first ns zs hl _ _;exact⟨if first then 3 else 6,by cases first <;> simp,by obtain rfl:=List.eq_nil_of_length_eq_zero hl;simpa [JV.txts] using cR.refl _ _⟩
 |cons v vs ih=>
  intro frs ms first ns zs hl hs hp
  cases ns with
  |nil=>simp at hl
  |cons a ns=>
   have hv:=h v (by simp);have he:=nL true ns vs 125 zs (by decide);obtain⟨w,hw,hr⟩:=ih (fun u hu=>h u (Zl _ hu)) frs (ms ++ [(a,v)]) false ns zs (by simpa using hl) (fun s h=>hs s (Zl _ h)) (by simpa using hp);refine⟨w,hw,?_⟩;have e2:ms++ (a::ns).zip (v::vs)=ms ++ [(a,v)]++ns.zip vs:=by simp
   rw[e2];have hc:ms.any (fun p=>decide (p.1=a))=false:=by
    rw[List.pairwise_append] at hp;rw[List.any_eq_false];intro p hm;have:=vu (hp.2.2 p.1 (List.mem_map_of_mem hm) a (by simp));simpa using this
   cases first with
   |true=>
    have e:JV.txts true true (a::ns) (v::vs)++125::zs=bW a++58:: (v.txt++ (JV.txts true false ns vs++125::zs)):=by simp[JV.txts]
    rw[e];exact((oo (.inr rfl) (hs a (by simp)) hc _).trans (hv _ 0 _ (.inl rfl) he)).trans hr
   |false=>
    have e:JV.txts true false (a::ns) (v::vs)++125::zs=44:: (bW a++58:: (v.txt++ (JV.txts true false ns vs++125::zs))):=by simp[JV.txts]
    rw[e];refine cR.trans (dH (c':=⟨⟨true, [],ms,none⟩::frs,2,none⟩) (by decide) rfl) ?_;exact((oo (.inl rfl) (hs a (by simp)) hc _).trans (hv _ 0 _ (.inl rfl) he)).trans hr
theorem Tx.goes (h:Tx j):CL j:=by
 induction h with
 |null=>exact fun frs want zs hw hz=>ic (xs:= [110,117,108,108]) hw (fun y ys e=>by injection e with e _;subst e;rfl) (kF (by simp) hz)
 |bool b=>
  intro frs want zs hw hz
  cases b with
  |true=>exact ic (xs:= [116,114,117,101]) hw (fun y ys e=>by injection e with e _;subst e;rfl) (kF (by simp) hz)
  |false=>exact ic (xs:= [102,97,108,115,101]) hw (fun y ys e=>by injection e with e _;subst e;rfl) (kF (by simp) hz)
 |num d hd=>
  intro frs want zs hw hz;have e:(lA d).txt=eb d:=by simp[lA,JV.txt]
  rw[e];refine ic hw (fun y ys e=>?_) (zU hd hz.stop);obtain⟨c,l,hc,hk⟩:=nO hd;rw[hc] at e;injection e with e _
  subst e;exact Fc hk (by omega)
 |text s hs=>
  intro frs want zs hw hz;have e:(aZ s).txt=bW s:=by simp[aZ,JV.txt]
  rw[e];have hx:=r8 hs zs;have e:bW s++zs=34:: ((Proofs.YtgkkffeagolnpaaGreatDoor.nm s).flatMap cf ++ [34]++zs):=by simp[bW,kr]
  rw[e] at hx ⊢;have h2:=cR.one (c:=⟨frs,want,none⟩) (c':=bD frs (aZ s)) (by decide) hx (by rcases hw with rfl|rfl <;> rfl);rw[<-e,List.drop_left] at h2
  rwa[e] at h2
 |list ks _ ih=>
  intro frs want zs hw hz;have e:(cJ ks).txt++zs=91:: (JV.txts false true [] ks++93::zs):=by simp[cJ,JV.txt]
  rw[e];refine cR.trans (dH (c':=⟨⟨false, [], [],none⟩::frs,1,none⟩) (by decide) (by rcases hw with rfl|rfl <;> rfl)) ?_;obtain⟨w,a0,hr⟩:=uU ih frs [] true [] zs;refine hr.trans (dH (by decide) ?_);rcases a0 with rfl|rfl <;> rfl
 |obj ns ks hl hs hp _ ih=>
  intro frs want zs hw hz;have e:(JV.mk 6 false ⟨#[]⟩ ⟨false,⟨#[]⟩,0⟩ ns ks).txt++zs=123:: (JV.txts true true ns ks++125::zs):=by simp[JV.txt]
  rw[e];refine cR.trans (dH (c':=⟨⟨true, [], [],none⟩::frs,3,none⟩) (by decide) (by rcases hw with rfl|rfl <;> rfl)) ?_;obtain⟨w,a0,hr⟩:=ya ih frs [] true ns zs hl hs (by simpa [E9] using hp);refine hr.trans (dH (by decide) ?_);have h1:cK ⟨true, [], []++ns.zip ks,none⟩ =.mk 6 false ⟨#[]⟩ ⟨false,⟨#[]⟩,0⟩ ns ks:=by
   have hf:(ns.zip ks).map Prod.fst=ns:=List.map_fst_zip (by omega);have a1:(ns.zip ks).map Prod.snd=ks:=List.map_snd_zip (by omega)
   show fV (cW (ns.zip ks))=_
   rw[mw (by rw[hf];exact hp),fV,hf,a1]
  rw[List.nil_append] at h1;rcases a0 with rfl|rfl <;> simp only[bH,px] <;> simp[h1]
theorem jm (h:Tx j):dB j.txt=some j:=by
 have:=h.goes [] 0 [] (.inl rfl) (fun c l e=>by cases e);rw[List.append_nil] at this;exact sS this rfl
def Shut:JV->Prop
 | .mk k _ _ _ _ _=>k=4\/k=5\/k=6
def iQ (xs ys:List UInt8):Prop:=xs.dropWhile bA=ys.dropWhile bA
theorem iQ.refl (xs:List UInt8):iQ xs xs:=rfl
theorem iQ.trans (h:iQ xs ys)(k:iQ ys zs):iQ xs zs:=Eq.trans h k
theorem cR.same {c c':bR}{xs':List UInt8}(h:cR c xs c' ys)(hs:iQ xs' xs):∃ys',iQ ys' ys/\cR c xs' c' ys':=by
 cases h with
 |refl=>exact⟨xs',hs,.refl _ _⟩
 |step h1 h2 h3 h4=>exact⟨ys,rfl,.step (Eq.trans hs h1) h2 h3 h4⟩
theorem cR.then {a b c:bR}{ys':List UInt8}(h:cR a xs b ys')(hs:iQ ys' ys)(k:cR b ys c zs):∃zs',iQ zs' zs/\cR a xs c zs':=by
 obtain⟨z,h1,h2⟩:=k.same hs;exact⟨z,h1,h.trans h2⟩
theorem kv (m:ByteArray×JV):∀l,(ml m l).Perm (m::l)
 | []=>List.Perm.refl _
 |x::l=>by
  unfold ml
  split
  ·exact List.Perm.refl _
  ·exact((kv m l).cons x).trans (List.Perm.swap m x l)
theorem dC:∀l,(cW l).Perm l
 | []=>List.Perm.refl _
 |m::l=>(kv m (cW l)).trans ((dC l).cons m)
theorem ot {m:ByteArray×JV}:∀ {l:List (ByteArray×JV)},(l.map Prod.fst).Pairwise iC->(∀x∈l,x.1≠m.1)->((ml m l).map Prod.fst).Pairwise iC
 | [],_,_=>by simp[ml]
 |x::l,h,hn=>by
  unfold ml;rw[List.map_cons,List.pairwise_cons] at h
  split
  ·rename_i hlt
   rw[List.map_cons,List.map_cons,List.pairwise_cons,List.pairwise_cons];refine⟨fun b hb=>?_,h⟩;rcases List.mem_cons.1 hb with rfl|hb
   ·exact hlt
   ·exact fk hlt (h.1 b hb)
  ·rename_i hlt
   have hx:iC x.1 m.1:=kd hlt (fun e=>hn x (by simp) e.symm);rw[List.map_cons,List.pairwise_cons];refine⟨fun b hb=>?_,ot h.2 (fun y hy=>hn y (Zl _ hy))⟩;obtain⟨y,hy,rfl⟩:=List.mem_map.1 hb;rcases List.mem_cons.1 ((kv m l).mem_iff.1 hy) with rfl|hy
   ·exact hx
   ·exact h.1 y.1 (List.mem_map_of_mem hy)
theorem jc:∀ {l:List (ByteArray×JV)},(l.map Prod.fst).Nodup->((cW l).map Prod.fst).Pairwise iC
 | [],_=>List.Pairwise.nil
 |m::l,h=>by
  rw[List.map_cons,List.nodup_cons] at h;refine ot (jc h.2) fun x hx e=>h.1 ?_
  rw[<-e];exact List.mem_map_of_mem ((dC l).mem_iff.1 hx)
theorem BC {l m:List (ByteArray×JV)}(hp:l.Perm m)(hr:(m.map Prod.fst).Pairwise iC):cW l=m:=by
 have hn:(l.map Prod.fst).Nodup:=((hp.map Prod.fst).nodup_iff).2 (hr.imp fun h=>vu h);exact oy ((dC l).trans hp) (jc hn) hr
theorem gL {c:UInt8}{t:List UInt8}(h:c≠126):mu (c::t)↔mu t:=by
 constructor
 ·intro k
  cases k with
  |one _ _ _ k=>exact k
  |two _ _ _ _=>exact absurd rfl h
 ·exact .one c t h
theorem oB {t:List UInt8}:mu (126::t)↔(t[0]?=some 48\/t[0]?=some 49)/\mu t:=by
 constructor
 ·intro k
  cases k with
  |one _ _ h _=>exact absurd rfl h
  |two c t h k=>
   refine⟨by rcases h with rfl|rfl <;> simp,.one c t (by rcases h with rfl|rfl <;> decide) k⟩
 ·rintro⟨h,k⟩
  cases t with
  |nil=>simp at h
  |cons c t=>
   have hc:c=48\/c=49:=by simpa using h
   have h1:c≠126:=by rcases hc with rfl|rfl <;> decide
   exact .two c t hc ((gL h1).1 k)
theorem pJ {s:List UInt8}:mu s↔∀i:Nat,s[i]?=some 126->s[i+1]?=some 48\/s[i+1]?=some 49:=by
 induction s with
 |nil=>exact⟨fun _ i h=>by simp at h,fun _=>.nil⟩
 |cons c t ih=>
  by_cases h:c=126
  ·subst h;rw[oB,ih]
   constructor
   ·rintro⟨h1,h2⟩ i hi
    cases i with
    |zero=>simpa using h1
    |succ i=>simpa using h2 i (by simpa using hi)
   ·intro k;exact⟨by simpa using k 0 (by simp),fun i hi=>by simpa using k (i+1) (by simpa using hi)⟩
  ·rw[gL h,ih]
   constructor
   ·intro k i hi
    cases i with
    |zero=>exact absurd (by simpa using hi) h
    |succ i=>simpa using k i (by simpa using hi)
   ·intro k i hi;simpa using k (i+1) (by simpa using hi)
theorem xC {a b:List UInt8}(h:∀x∈a,x≠126):mu (a++b)↔mu b:=by
 induction a with
 |nil=>rfl
 |cons c t ih=>rw[List.cons_append,gL (h c (by simp)),ih fun x hx=>h x (by simp[hx])]
def ym (xs:List UInt8):Prop:=(∃cs:List Int,(∀c∈cs,cA c=true)/\xs=cs.flatMap a7)/\mu xs
theorem EB:ym []:=⟨⟨[],by simp,rfl⟩,.nil⟩
theorem lq {c:Int}(h:cA c=true)(ys:List UInt8):(bg (a7 c++ys)).2.2=0/\(bg (a7 c++ys)).2.1= (a7 c).length:=by
 have h0:=cq h;obtain⟨n,rfl⟩:∃n:Nat,c=n:=⟨c.toNat,by omega⟩;rw[eI n h];exact⟨rfl,rfl⟩
theorem oE {cs:List Int}(hne:xs≠ [])(h:∀c∈cs,cA c=true)(e:xs=cs.flatMap a7):∃ (c:Int) (ds:List Int),(∀d∈ds,cA d=true)/\cA c=true/\xs=a7 c++ds.flatMap a7:=by
 cases cs with
 |nil=>exact absurd e hne
 |cons c ds=>exact⟨c,ds,fun d hd=>h d (by simp[hd]),h c (by simp),by rw[e];simp⟩
theorem Fg (hne:xs≠ [])(hc:(bg xs).2.2≠0):¬ym xs:=by
 rintro⟨⟨cs,h,e⟩,-⟩;obtain⟨c,ds,-,h2,rfl⟩:=oE hne h e;exact hc (lq h2 _).1
theorem Gx {c:Int}(h:cA c=true){x:UInt8}{t:List UInt8}(e:a7 c=x::t):∀y∈t,y≠126:=by
 have h0:=cq h;obtain⟨n,rfl⟩:∃n:Nat,c=n:=⟨c.toNat,by omega⟩;obtain⟨a,u,h1,-,-,h2,-⟩:=nN n h;rw[e] at h1;injection h1 with h1 h3
 subst h3;intro y hy e;have:=h2 y hy;unfold tl at this;rw[e] at this;exact absurd this.1 (by decide)
theorem B8 (hne:xs≠ [])(hc:(bg xs).2.2=0)(h0:xs[0]?=some 126->xs[1]?=some 48\/xs[1]?=some 49):ym xs↔ym (xs.drop (bg xs).2.1):=by
 obtain⟨e1,e2⟩:=il hc;have hp:=ei hc;have hx:xs=a7 (bg xs).1++xs.drop (bg xs).2.1:=by rw[e1,List.take_append_drop]
 obtain⟨x,t,hf⟩:∃x t,a7 (bg xs).1=x::t:=by
  cases e:a7 (bg xs).1 with
  |nil=>exact absurd e (gQ e2)
  |cons x t=>exact⟨x,t,rfl⟩
 have a1:=Gx e2 hf;have hh:xs=x:: (t++xs.drop (bg xs).2.1):=by rw[<-List.cons_append,<-hf];exact hx
 have a2:(∃cs:List Int,(∀c∈cs,cA c=true)/\xs=cs.flatMap a7)↔(∃cs:List Int,(∀c∈cs,cA c=true)/\xs.drop (bg xs).2.1=cs.flatMap a7):=by
  constructor
  ·rintro⟨cs,h,e⟩;obtain⟨c,ds,h1,h2,h3⟩:=oE hne h e;refine⟨ds,h1,?_⟩;have:=lq h2 (ds.flatMap a7);rw[<-h3] at this;rw[this.2]
   conv=>lhs;arg 2;rw[h3]
   exact List.drop_left
  ·rintro⟨cs,h,e⟩;refine⟨(bg xs).1::cs,fun c hc=>?_,?_⟩
   ·rcases List.mem_cons.1 hc with rfl|hc
    ·exact e2
    ·exact h c hc
   ·rw[List.flatMap_cons,<-e];exact hx
 have a0:mu xs↔mu (xs.drop (bg xs).2.1):=by
  by_cases h:x=126
  ·have ht:t = []:=by
    have hd:(bg xs)= (x.toNat,1,0):=by rw[hh];exact pn x _ (by rw[h];decide)
    have:=congrArg List.length e1;rw[hf,hd,List.length_take] at this;simp at this;exact List.eq_nil_of_length_eq_zero (by omega)
   have h1:=h0 (by rw[hh,h];rfl);rw[hh,h,ht] at h1;generalize xs.drop (bg xs).2.1=ys at *;rw[hh,h,ht,List.nil_append,oB];exact⟨fun k=>k.2,fun k=>⟨by simpa using h1,k⟩⟩
  ·generalize xs.drop (bg xs).2.1=ys at *;rw[hh,gL h,xC a1]
 unfold ym;rw[a2,a0]
theorem zn (h0:xs[0]?=some 126)(h1:¬ (xs[1]?=some 48\/xs[1]?=some 49)):¬ym xs:=fun h=>h1 (pJ.1 h.2 0 h0)
def aW (s:ByteArray):Prop:=s.data.toList = []\/s.data.toList[0]?=some 47/\ym s.data.toList
theorem aW.ptr {s:ByteArray}(h:aW s):Ch s:=by
 rcases h with h|⟨h,h2⟩
 ·exact .inl h
 ·cases e:s.data.toList with
  |nil=>rw[e] at h;cases h
  |cons c t=>
   rw[e] at h h2;obtain rfl:c=47:=by simpa using h
   exact .inr ⟨t,e,(gL (by decide)).1 h2.2⟩
theorem aW.utf {s:ByteArray}(h:aW s):bi s:=by
 rcases h with h|⟨h,⟨cs,h1,h2⟩,-⟩
 ·exact⟨[],by simp,by rw[h];rfl⟩
 ·exact⟨cs,h1,h2⟩
theorem ig:aW ⟨#[]⟩:=.inl rfl
