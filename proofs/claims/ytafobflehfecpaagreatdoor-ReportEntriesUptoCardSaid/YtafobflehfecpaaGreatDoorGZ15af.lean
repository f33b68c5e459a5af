import Derived.Test.YtafobflehfecpaaGreatDoorGZ15ae
set_option linter.unusedVariables false
set_option linter.unusedSimpArgs false
namespace Go.Proofs.YtafobflehfecpaaGreatDoor
variable {d:Dc}{f:Fr}{j:JV}{frs:List Fr}{ks:List JV}{xs ys zs:List UInt8}{want:Nat}
mutual
def JV.txt:JV->List UInt8
 | .mk k t x n ns ks=>if k=1 then [110,117,108,108] else if k=2 then(if t then [116,114,117,101] else [102,97,108,115,101]) else if k=3 then dM n else if k=4 then cY x
  else if k=5 then 91:: (JV.txts false true ns ks ++ [93]) else if k=6 then 123:: (JV.txts true true ns ks ++ [125]) else []
def JV.txts:Bool->Bool->List ByteArray->List JV->List UInt8
 |_,_,_, []=> []
 |o,first,ns,v::vs=>(if first then [] else [44])++ ((if o then cY (ns.headD ⟨#[]⟩) ++ [58] else [])++ (JV.txt v++JV.txts o false ns.tail vs))
end
inductive Tx:JV->Prop
 |null:Tx nM
 |bool (b:Bool):Tx (gP b)
 |num (d:Dc):i6 d->Tx (ky d)
 |text (s:ByteArray):bf s->Tx (aY s)
 |list (ks:List JV):(∀u∈ks,Tx u)->Tx (cD ks)
 |obj (ns:List ByteArray) (ks:List JV):ns.length=ks.length->(∀s∈ns,bf s)->CM ns->(∀u∈ks,Tx u)->Tx (.mk 6 false ⟨#[]⟩ ⟨false,⟨#[]⟩,0⟩ ns ks)
theorem i6.zero (h:i6 d):oL d:=by
 intro e;rcases h with h|⟨h,-⟩
 ·exact h
 ·rw[e] at h;exact absurd rfl (h.first 48 rfl)
theorem kP:∀ {l:List (ByteArray×JV)},(l.map Prod.fst).Pairwise jw->cF l=l
 | [],_=>rfl
 |m::l,h=>by
  rw[List.map_cons,List.pairwise_cons] at h;have ih:=kP h.2
  show lG m (cF l)=_
  rw[ih]
  cases l with
  |nil=>rfl
  |cons x l=>
   have:aI (nm m.1) (nm x.1)<0:=h.1 x.1 (by simp);rw[lG,if_pos this]
theorem di {c c':ci}{x:UInt8}(hk:bJ x=2)(h:cC c (.mark x)=some c'):cA c (x::zs) c' zs:=by
 have hb:bQ x=false:=by
  cases hx:bQ x with
  |false=>rfl
  |true=>simp[bJ,hx] at hk
 exact .one (n:=1) hb (by simp only[cj,hk]) h
theorem gj (hw:want=0\/want=1)(hb:∀y ys,xs++zs=y::ys->bQ y=false)(hx:cj (xs++zs)=some (.leaf j,xs.length)):cA ⟨frs,want,none⟩ (xs++zs) (bu frs j) zs:=by
 cases he:xs++zs with
 |nil=>rw[he] at hx;cases hx
 |cons y ys=>
  have h1:=hb y ys he;rw[he] at hx;have h2:=cA.one (c:=⟨frs,want,none⟩) (c':=bu frs j) h1 hx (by rcases hw with rfl|rfl <;> rfl);rw[<-he,List.drop_left] at h2
  rwa[he] at h2
theorem nJ (h:i6 d):∃c l,dM d=c::l/\bJ c=4:=by
 rcases h with rfl|⟨hl,-⟩
 ·exact⟨48, [],rfl,by decide⟩
 ·obtain⟨neg,⟨⟨ds⟩⟩,x⟩:=d
  cases neg with
  |true=>exact⟨45,_,rfl,by decide⟩
  |false=>
   cases ds with
   |nil=>exact absurd rfl hl.ne
   |cons c l=>
    refine⟨c,_,rfl,?_⟩;have:=qP (p:=fun c=> !dN c||bJ c==4) (by decide +kernel) c;simpa [hl.dig c (by simp)] using this
theorem Ce {x:UInt8}{k:Nat}(h:bJ x=k)(hk:k≠1):bQ x=false:=by
 cases hx:bQ x with
 |false=>rfl
 |true=>simp[bJ,hx] at h;omega
theorem Bg (h:i6 d)(hz:mX zs):cj (dM d++zs)=some (.leaf (ky d),(dM d).length):=by
 have hn:=AR h hz;obtain⟨c,l,e,hk⟩:=nJ h;rw[e,List.cons_append] at hn ⊢;simp only[cj,hk,hn];rfl
theorem xB (hz:mX zs)(a0:∀c l,zs=c::l->cL c=false):zs.takeWhile cL = []:=by
 cases zs with
 |nil=>rfl
 |cons c l=>rw[List.takeWhile_cons,if_neg (by rw[a0 c l rfl];decide)]
def ym (zs:List UInt8):Prop:= ∀c l,zs=c::l->aZ c=6/\cL c=false
theorem ym.stop (h:ym zs):mX zs:=fun c l e=>(h c l e).1
theorem vy {c:UInt8}{l:List UInt8}(h:aZ c=6/\cL c=false):ym (c::l):=by
 intro a m e;injection e with e _
 rw[<-e];exact h
theorem jq {w:List UInt8}(hw:(w,j)∈ [([110,117,108,108],nM),([116,114,117,101],gP true),([102,97,108,115,101],gP false)])(hz:ym zs):cj (w++zs)=some (.leaf j,w.length):=by
 have h0:zs.takeWhile cL = []:=xB hz.stop (fun c l e=>(hz c l e).2);simp only[List.mem_cons,List.mem_nil_iff,or_false,Prod.mk.injEq] at hw;have hl:∀ (x:UInt8) (l:List UInt8),(∀c∈l,cL c=true)->(l++zs).takeWhile cL=l:=by
  intro x l
  induction l with
  |nil=>intro _;exact h0
  |cons c l ih=>intro h;rw[List.cons_append,List.takeWhile_cons,if_pos (h c (by simp)),ih (fun c hc=>h c (Zl _ hc))]
 rcases hw with ⟨rfl,rfl⟩|⟨rfl,rfl⟩|⟨rfl,rfl⟩
 ·have:=hl 0 [117,108,108] (by decide)
  show cj (110:: ([117,108,108]++zs))=_
  simp only[cj,this,show bJ 110=3 from by decide];rfl
 ·have:=hl 0 [114,117,101] (by decide)
  show cj (116:: ([114,117,101]++zs))=_
  simp only[cj,this,show bJ 116=3 from by decide];rfl
 ·have:=hl 0 [97,108,115,101] (by decide)
  show cj (102:: ([97,108,115,101]++zs))=_
  simp only[cj,this,show bJ 102=3 from by decide];rfl
def Br (j:JV):Prop:= ∀ (frs:List Fr) (want:Nat) (zs:List UInt8),(want=0\/want=1)->ym zs->cA ⟨frs,want,none⟩ (j.txt++zs) (bu frs j) zs
theorem nE (o:Bool)(ns:List ByteArray)(ks:List JV)(c:UInt8)(zs:List UInt8)(hc:aZ c=6/\cL c=false):ym (JV.txts o false ns ks++c::zs):=by
 cases ks with
 |nil=>exact vy hc
 |cons v vs=>
  have:JV.txts o false ns (v::vs)++c::zs=44:: (((if o then cY (ns.headD ⟨#[]⟩) ++ [58] else [])++ (JV.txt v++JV.txts o false ns.tail vs))++c::zs):=by simp[JV.txts]
  rw[this];exact vy (by decide)
theorem vg (h:∀u∈ks,Br u):∀ (frs:List Fr) (its:List JV) (first:Bool) (ns:List ByteArray) (zs:List UInt8),∃w,(w=1\/w=5)/\cA ⟨⟨false,its, [],none⟩::frs,if first then 1 else 5,none⟩ (JV.txts false first ns ks++93::zs) ⟨⟨false,its++ks, [],none⟩::frs,w,none⟩ (93::zs):=by
 induction ks with
 |nil=>intro frs its first ns zs;exact⟨if first then 1 else 5,by cases first <;> simp,by simpa [JV.txts] using cA.refl _ _⟩
 |cons v vs ih=>
  intro frs its first ns zs;have hv:=h v (by simp);have he:=nE false ns.tail vs 93 zs (by decide);obtain⟨w,hw,hr⟩:=ih (fun u hu=>h u (Zl _ hu)) frs (its ++ [v]) false ns.tail zs;refine⟨w,hw,?_⟩;have e2:its++v::vs=its ++ [v]++vs:=by simp
  rw[e2]
  cases first with
  |true=>
   have e:JV.txts false true ns (v::vs)++93::zs=v.txt++ (JV.txts false false ns.tail vs++93::zs):=by simp[JV.txts]
   rw[e];exact(hv _ 1 _ (.inr rfl) he).trans hr
  |false=>
   have e:JV.txts false false ns (v::vs)++93::zs=44:: (v.txt++ (JV.txts false false ns.tail vs++93::zs)):=by simp[JV.txts]
   rw[e];refine cA.trans (di (c':=⟨⟨false,its, [],none⟩::frs,0,none⟩) (by decide) rfl) ?_;exact(hv _ 0 _ (.inl rfl) he).trans hr
theorem nz {s:ByteArray}(hw:want=2\/want=3)(hs:bf s)(hn:f.mems.any (fun p=>decide (p.1=s))=false)(zs:List UInt8):cA ⟨f::frs,want,none⟩ (cY s++58::zs) ⟨{f with name:=some s}::frs,0,none⟩ zs:=by
 have hx:=rS hs (58::zs);have e:cY s++58::zs=34:: ((Proofs.YtafobflehfecpaaGreatDoor.nm s).flatMap bT ++ [34]++58::zs):=by simp[cY,jH]
 have h1:cA ⟨f::frs,want,none⟩ (cY s++58::zs) ⟨{f with name:=some s}::frs,4,none⟩ (58::zs):=by
  rw[e] at hx ⊢;have h2:=cA.one (c:=⟨f::frs,want,none⟩) (c':=⟨{f with name:=some s}::frs,4,none⟩) (by decide) hx (by rcases hw with rfl|rfl <;> simp[cC,hn]);rw[<-e,List.drop_left] at h2
  rwa[e] at h2
 exact h1.trans (di (by decide) rfl)
theorem yx (h:∀u∈ks,Br u):∀ (frs:List Fr) (ms:List (ByteArray×JV)) (first:Bool) (ns:List ByteArray) (zs:List UInt8),ns.length=ks.length->(∀s∈ns,bf s)->(ms.map Prod.fst++ns).Pairwise jw->∃w,(w=3\/w=6)/\cA ⟨⟨true, [],ms,none⟩::frs,if first then 3 else 6,none⟩ (JV.txts true first ns ks++125::zs) ⟨⟨true, [],ms++ns.zip ks,none⟩::frs,w,none⟩ (125::zs):=by
 induction ks with
 |nil=>intro frs ms first ns zs hl _ _;exact⟨if first then 3 else 6,by cases first <;> simp,by obtain rfl:=List.eq_nil_of_length_eq_zero hl;simpa [JV.txts] using cA.refl _ _⟩
 |cons v vs ih=>
  intro frs ms first ns zs hl hs hp
  cases ns with
  |nil=>simp at hl
  |cons a ns=>
   have hv:=h v (by simp);have he:=nE true ns vs 125 zs (by decide);obtain⟨w,hw,hr⟩:=ih (fun u hu=>h u (Zl _ hu)) frs (ms ++ [(a,v)]) false ns zs (by simpa using hl) (fun s h=>hs s (Zl _ h)) (by simpa using hp);refine⟨w,hw,?_⟩;have e2:ms++ (a::ns).zip (v::vs)=ms ++ [(a,v)]++ns.zip vs:=by simp
   rw[e2];have hc:ms.any (fun p=>decide (p.1=a))=false:=by
    rw[List.pairwise_append] at hp;rw[List.any_eq_false];intro p hm;have:=up (hp.2.2 p.1 (List.mem_map_of_mem hm) a (by simp));simpa using this
   cases first with
   |true=>
    have e:JV.txts true true (a::ns) (v::vs)++125::zs=cY a++58:: (v.txt++ (JV.txts true false ns vs++125::zs)):=by simp[JV.txts]
    rw[e];exact((nz (.inr rfl) (hs a (by simp)) hc _).trans (hv _ 0 _ (.inl rfl) he)).trans hr
   |false=>
    have e:JV.txts true false (a::ns) (v::vs)++125::zs=44:: (cY a++58:: (v.txt++ (JV.txts true false ns vs++125::zs))):=by simp[JV.txts]
    rw[e];refine cA.trans (di (c':=⟨⟨true, [],ms,none⟩::frs,2,none⟩) (by decide) rfl) ?_;exact((nz (.inl rfl) (hs a (by simp)) hc _).trans (hv _ 0 _ (.inl rfl) he)).trans hr
theorem Tx.goes (h:Tx j):Br j:=by
 induction h with
 |null=>exact fun frs want zs hw hz=>gj (xs:= [110,117,108,108]) hw (fun y ys e=>by injection e with e _;subst e;rfl) (jq (by simp) hz)
 |bool b=>
  intro frs want zs hw hz
  cases b with
  |true=>exact gj (xs:= [116,114,117,101]) hw (fun y ys e=>by injection e with e _;subst e;rfl) (jq (by simp) hz)
  |false=>exact gj (xs:= [102,97,108,115,101]) hw (fun y ys e=>by injection e with e _;subst e;rfl) (jq (by simp) hz)
 |num d hd=>
  intro frs want zs hw hz;have e:(ky d).txt=dM d:=by simp[ky,JV.txt]
  rw[e];refine gj hw (fun y ys e=>?_) (Bg hd hz.stop);obtain⟨c,l,hc,hk⟩:=nJ hd;rw[hc] at e;injection e with e _
  subst e;exact Ce hk (by omega)
 |text s hs=>
  intro frs want zs hw hz;have e:(aY s).txt=cY s:=by simp[aY,JV.txt]
  rw[e];have hx:=rS hs zs;have e:cY s++zs=34:: ((Proofs.YtafobflehfecpaaGreatDoor.nm s).flatMap bT ++ [34]++zs):=by simp[cY,jH]
  rw[e] at hx ⊢;have h2:=cA.one (c:=⟨frs,want,none⟩) (c':=bu frs (aY s)) (by decide) hx (by rcases hw with rfl|rfl <;> rfl);rw[<-e,List.drop_left] at h2
  rwa[e] at h2
 |list ks _ ih=>
  intro frs want zs hw hz;have e:(cD ks).txt++zs=91:: (JV.txts false true [] ks++93::zs):=by simp[cD,JV.txt]
  rw[e];refine cA.trans (di (c':=⟨⟨false, [], [],none⟩::frs,1,none⟩) (by decide) (by rcases hw with rfl|rfl <;> rfl)) ?_;obtain⟨w,a0,hr⟩:=vg ih frs [] true [] zs;refine hr.trans (di (by decide) ?_);rcases a0 with rfl|rfl <;> rfl
 |obj ns ks hl hs hp _ ih=>
  intro frs want zs hw hz;have e:(JV.mk 6 false ⟨#[]⟩ ⟨false,⟨#[]⟩,0⟩ ns ks).txt++zs=123:: (JV.txts true true ns ks++125::zs):=by simp[JV.txt]
  rw[e];refine cA.trans (di (c':=⟨⟨true, [], [],none⟩::frs,3,none⟩) (by decide) (by rcases hw with rfl|rfl <;> rfl)) ?_;obtain⟨w,a0,hr⟩:=yx ih frs [] true ns zs hl hs (by simpa [CM] using hp);refine hr.trans (di (by decide) ?_);have h1:cN ⟨true, [], []++ns.zip ks,none⟩ =.mk 6 false ⟨#[]⟩ ⟨false,⟨#[]⟩,0⟩ ns ks:=by
   have hf:(ns.zip ks).map Prod.fst=ns:=List.map_fst_zip (by omega);have a1:(ns.zip ks).map Prod.snd=ks:=List.map_snd_zip (by omega)
   show fU (cF (ns.zip ks))=_
   rw[kP (by rw[hf];exact hp),fU,hf,a1]
  rw[List.nil_append] at h1;rcases a0 with rfl|rfl <;> simp only[cC,yf] <;> simp[h1]
theorem il (h:Tx j):fE j.txt=some j:=by
 have:=h.goes [] 0 [] (.inl rfl) (fun c l e=>by cases e);rw[List.append_nil] at this;exact sg this rfl
def Shut:JV->Prop
 | .mk k _ _ _ _ _=>k=4\/k=5\/k=6
def gO (xs ys:List UInt8):Prop:=xs.dropWhile bQ=ys.dropWhile bQ
theorem gO.refl (xs:List UInt8):gO xs xs:=rfl
theorem gO.trans (h:gO xs ys)(k:gO ys zs):gO xs zs:=Eq.trans h k
theorem cA.same {c c':ci}{xs':List UInt8}(h:cA c xs c' ys)(hs:gO xs' xs):∃ys',gO ys' ys/\cA c xs' c' ys':=by
 cases h with
 |refl=>exact⟨xs',hs,.refl _ _⟩
 |step h1 h2 h3 h4=>exact⟨ys,rfl,.step (Eq.trans hs h1) h2 h3 h4⟩
theorem cA.then {a b c:ci}{ys':List UInt8}(h:cA a xs b ys')(hs:gO ys' ys)(k:cA b ys c zs):∃zs',gO zs' zs/\cA a xs c zs':=by
 obtain⟨z,h1,h2⟩:=k.same hs;exact⟨z,h1,h.trans h2⟩
theorem jT (m:ByteArray×JV):∀l,(lG m l).Perm (m::l)
 | []=>List.Perm.refl _
 |x::l=>by
  unfold lG
  split
  ·exact List.Perm.refl _
  ·exact((jT m l).cons x).trans (List.Perm.swap m x l)
theorem ie:∀l,(cF l).Perm l
 | []=>List.Perm.refl _
 |m::l=>(jT m (cF l)).trans ((ie l).cons m)
theorem nt {m:ByteArray×JV}:∀ {l:List (ByteArray×JV)},(l.map Prod.fst).Pairwise jw->(∀x∈l,x.1≠m.1)->((lG m l).map Prod.fst).Pairwise jw
 | [],_,_=>by simp[lG]
 |x::l,h,hn=>by
  unfold lG;rw[List.map_cons,List.pairwise_cons] at h
  split
  ·rename_i hlt
   rw[List.map_cons,List.map_cons,List.pairwise_cons,List.pairwise_cons];refine⟨fun b hb=>?_,h⟩;rcases List.mem_cons.1 hb with rfl|hb
   ·exact hlt
   ·exact gi hlt (h.1 b hb)
  ·rename_i hlt
   have hx:jw x.1 m.1:=jy hlt (fun e=>hn x (by simp) e.symm);rw[List.map_cons,List.pairwise_cons];refine⟨fun b hb=>?_,nt h.2 (fun y hy=>hn y (Zl _ hy))⟩;obtain⟨y,hy,rfl⟩:=List.mem_map.1 hb;rcases List.mem_cons.1 ((jT m l).mem_iff.1 hy) with rfl|hy
   ·exact hx
   ·exact h.1 y.1 (List.mem_map_of_mem hy)
theorem kQ:∀ {l:List (ByteArray×JV)},(l.map Prod.fst).Nodup->((cF l).map Prod.fst).Pairwise jw
 | [],_=>List.Pairwise.nil
 |m::l,h=>by
  rw[List.map_cons,List.nodup_cons] at h;refine nt (kQ h.2) fun x hx e=>h.1 ?_
  rw[<-e];exact List.mem_map_of_mem ((ie l).mem_iff.1 hx)
theorem zS {l m:List (ByteArray×JV)}(hp:l.Perm m)(hr:(m.map Prod.fst).Pairwise jw):cF l=m:=by
 have hn:(l.map Prod.fst).Nodup:=((hp.map Prod.fst).nodup_iff).2 (hr.imp fun h=>up h);exact mZ ((ie l).trans hp) (kQ hn) hr
theorem fY {c:UInt8}{t:List UInt8}(h:c≠126):lE (c::t)↔lE t:=by
 constructor
 ·intro k
  cases k with
  |one _ _ _ k=>exact k
  |two _ _ _ _=>exact absurd rfl h
 ·exact .one c t h
theorem na {t:List UInt8}:lE (126::t)↔(t[0]?=some 48\/t[0]?=some 49)/\lE t:=by
 constructor
 ·intro k
  cases k with
  |one _ _ h _=>exact absurd rfl h
  |two c t h k=>
   refine⟨by rcases h with rfl|rfl <;> simp,.one c t (by rcases h with rfl|rfl <;> decide) k⟩
 ·rintro⟨h,k⟩
  cases t with
  |nil=>simp at h
  |cons c t=>
   have hc:c=48\/c=49:=by simpa using h
   have h1:c≠126:=by rcases hc with rfl|rfl <;> decide
   exact .two c t hc ((fY h1).1 k)
theorem pg {s:List UInt8}:lE s↔∀i:Nat,s[i]?=some 126->s[i+1]?=some 48\/s[i+1]?=some 49:=by
 induction s with
 |nil=>exact⟨fun _ i h=>by simp at h,fun _=>.nil⟩
 |cons c t ih=>
  by_cases h:c=126
  ·subst h;rw[na,ih]
   constructor
   ·rintro⟨h1,h2⟩ i hi
    cases i with
    |zero=>simpa using h1
    |succ i=>simpa using h2 i (by simpa using hi)
   ·intro k;exact⟨by simpa using k 0 (by simp),fun i hi=>by simpa using k (i+1) (by simpa using hi)⟩
  ·rw[fY h,ih]
   constructor
   ·intro k i hi
    cases i with
    |zero=>exact absurd (by simpa using hi) h
    |succ i=>simpa using k i (by simpa using hi)
   ·intro k i hi;simpa using k (i+1) (by simpa using hi)
theorem vB {a b:List UInt8}(h:∀x∈a,x≠126):lE (a++b)↔lE b:=by
 induction a with
 |nil=>rfl
 |cons c t ih=>rw[List.cons_append,fY (h c (by simp)),ih fun x hx=>h x (by simp[hx])]
def wJ (xs:List UInt8):Prop:=(∃cs:List Int,(∀c∈cs,ce c=true)/\xs=cs.flatMap aO)/\lE xs
theorem Cx:wJ []:=⟨⟨[],by simp,rfl⟩,.nil⟩
theorem j7 {c:Int}(h:ce c=true)(ys:List UInt8):(a7 (aO c++ys)).2.2=0/\(a7 (aO c++ys)).2.1= (aO c).length:=by
 have h0:=bY h;obtain⟨n,rfl⟩:∃n:Nat,c=n:=⟨c.toNat,by omega⟩;rw[ea n h];exact⟨rfl,rfl⟩
theorem mP {cs:List Int}(hne:xs≠ [])(h:∀c∈cs,ce c=true)(e:xs=cs.flatMap aO):∃ (c:Int) (ds:List Int),(∀d∈ds,ce d=true)/\ce c=true/\xs=aO c++ds.flatMap aO:=by
 cases cs with
 |nil=>exact absurd e hne
 |cons c ds=>exact⟨c,ds,fun d hd=>h d (by simp[hd]),h c (by simp),by rw[e];simp⟩
theorem C3 (hne:xs≠ [])(hc:(a7 xs).2.2≠0):¬wJ xs:=by
 rintro⟨⟨cs,h,e⟩,-⟩;obtain⟨c,ds,-,h2,rfl⟩:=mP hne h e;exact hc (j7 h2 _).1
theorem EY {c:Int}(h:ce c=true){x:UInt8}{t:List UInt8}(e:aO c=x::t):∀y∈t,y≠126:=by
 have h0:=bY h;obtain⟨n,rfl⟩:∃n:Nat,c=n:=⟨c.toNat,by omega⟩;obtain⟨a,u,h1,-,-,h2,-⟩:=nf n h;rw[e] at h1;injection h1 with h1 h3
 subst h3;intro y hy e;have:=h2 y hy;unfold tl at this;rw[e] at this;exact absurd this.1 (by decide)
theorem BS (hne:xs≠ [])(hc:(a7 xs).2.2=0)(h0:xs[0]?=some 126->xs[1]?=some 48\/xs[1]?=some 49):wJ xs↔wJ (xs.drop (a7 xs).2.1):=by
 obtain⟨e1,e2⟩:=gd hc;have hp:=dL hc;have hx:xs=aO (a7 xs).1++xs.drop (a7 xs).2.1:=by rw[e1,List.take_append_drop]
 obtain⟨x,t,hf⟩:∃x t,aO (a7 xs).1=x::t:=by
  cases e:aO (a7 xs).1 with
  |nil=>exact absurd e (fO e2)
  |cons x t=>exact⟨x,t,rfl⟩
 have a1:=EY e2 hf;have hh:xs=x:: (t++xs.drop (a7 xs).2.1):=by rw[<-List.cons_append,<-hf];exact hx
 have a0:(∃cs:List Int,(∀c∈cs,ce c=true)/\xs=cs.flatMap aO)↔(∃cs:List Int,(∀c∈cs,ce c=true)/\xs.drop (a7 xs).2.1=cs.flatMap aO):=by
  constructor
  ·rintro⟨cs,h,e⟩;obtain⟨c,ds,h1,h2,h3⟩:=mP hne h e;refine⟨ds,h1,?_⟩;have:=j7 h2 (ds.flatMap aO);rw[<-h3] at this;rw[this.2]
   conv=>lhs;arg 2;rw[h3]
   exact List.drop_left
  ·rintro⟨cs,h,e⟩;refine⟨(a7 xs).1::cs,fun c hc=>?_,?_⟩
   ·rcases List.mem_cons.1 hc with rfl|hc
    ·exact e2
    ·exact h c hc
   ·rw[List.flatMap_cons,<-e];exact hx
 have a2:lE xs↔lE (xs.drop (a7 xs).2.1):=by
  by_cases h:x=126
  ·have ht:t = []:=by
    have hd:(a7 xs)= (x.toNat,1,0):=by rw[hh];exact oh x _ (by rw[h];decide)
    have:=congrArg List.length e1;rw[hf,hd,List.length_take] at this;simp at this;exact List.eq_nil_of_length_eq_zero (by omega)
   have h1:=h0 (by rw[hh,h];rfl);rw[hh,h,ht] at h1;generalize xs.drop (a7 xs).2.1=ys at *;rw[hh,h,ht,List.nil_append,na];exact⟨fun k=>k.2,fun k=>⟨by simpa using h1,k⟩⟩
  ·generalize xs.drop (a7 xs).2.1=ys at *;rw[hh,fY h,vB a1]
 unfold wJ;rw[a0,a2]
theorem xG (h0:xs[0]?=some 126)(h1:¬ (xs[1]?=some 48\/xs[1]?=some 49)):¬wJ xs:=fun h=>h1 (pg.1 h.2 0 h0)
def aT (s:ByteArray):Prop:=s.data.toList = []\/s.data.toList[0]?=some 47/\wJ s.data.toList
theorem aT.ptr {s:ByteArray}(h:aT s):Bu s:=by
 rcases h with h|⟨h,h2⟩
 ·exact .inl h
 ·cases e:s.data.toList with
  |nil=>rw[e] at h;cases h
  |cons c t=>
   rw[e] at h h2;obtain rfl:c=47:=by simpa using h
   exact .inr ⟨t,e,(fY (by decide)).1 h2.2⟩
theorem aT.utf {s:ByteArray}(h:aT s):bf s:=by
 rcases h with h|⟨h,⟨cs,h1,h2⟩,-⟩
 ·exact⟨[],by simp,by rw[h];rfl⟩
 ·exact⟨cs,h1,h2⟩
theorem gn:aT ⟨#[]⟩:=.inl rfl
