import Derived.Test.YthknekoamnnhhaaGreatDoorGZ5aj
import Derived.Lib.ItoaMem
set_option linter.unusedVariables false
set_option linter.unusedSimpArgs false
set_option maxHeartbeats 64000000
set_option maxRecDepth 100000
namespace Go.Proofs.YthknekoamnnhhaaGreatDoor
variable {d:Dc}{f:Fr}{j:JV}{frs:List Fr}{ks:List JV}{l xs xs' ys zs:List UInt8}{c n want:Nat}
inductive dS:dH->List UInt8->dH->List UInt8->Prop
 |refl (c:dH) (xs:List UInt8):dS c xs c xs
 |step {c c' c'':dH} {xs ys zs:List UInt8} {y:UInt8} {t:sX} {n:Nat} (h1:xs.dropWhile cV=y::ys) (h2:dC (y::ys)=some (t,n)) (h3:dV c t=some c') (h4:dS c' ((y::ys).drop n) c'' zs):dS c xs c'' zs
theorem dS.trans {a b c:dH}(h:dS a xs b ys)(k:dS b ys c zs):dS a xs c zs:=by
 induction h with
 |refl=>exact k
 |step h1 h2 h3 _ ih=>exact .step h1 h2 h3 (ih k)
theorem dS.one {c c':dH}{y:UInt8}{t:sX}(h1:cV y=false)(h2:dC (y::ys)=some (t,n))(h3:dV c t=some c'):dS c (y::ys) c' ((y::ys).drop n):=
 .step (by rw[List.dropWhile_cons,if_neg (by simp[h1])]) h2 h3 (.refl _ _)
theorem oo:∀ (xs:List UInt8) (t:NS),t.n<=(aD t xs).n/\(aD t xs).n<=t.n+xs.length
 | [],t=>⟨Za _,Za _⟩
 |c::xs,t=>by
  unfold aD
  split
  ·exact⟨Za _,by simp⟩
  ·have:=oo xs (t.next c);simp only[NS.next,List.length_cons] at this ⊢;omega
theorem wE {x:UInt8}{p:Dc×Nat}(h:o5 (x::xs)=some p):1<=p.2/\p.2<=xs.length+1:=by
 simp only[o5] at h
 split at h
 ·rename_i hw
  rw[Option.map_eq_some_iff] at h;obtain⟨d,-,rfl⟩:=h;have hb:=oo (x::xs) iE;refine⟨?_,by simpa [iE] using hb.2⟩;unfold aD at hw ⊢
  split at hw
  ·simp[iE,ep] at hw
  ·rename_i h9
   rw[if_neg h9];have:=(oo xs (iE.next x)).1;simp only[NS.next,iE] at this ⊢;omega
 ·cases h
theorem zq:∀ (f:Nat) (xs out:List UInt8) (n:Nat) (p:List UInt8×Nat),fZ f xs out n=some p->n+1<=p.2
 |0,_,_,_,_,h=>by cases h
 |f+1,xs,out,n,p,h=>by
  unfold fZ at h
  split at h
  ·cases h
  ·injection h with h;subst h;exact Za _
  ·have:=zq f _ _ _ p h;omega
theorem DC {t:sX}(h:dC xs=some (t,n)):1<=n/\xs≠ []:=by
 cases xs with
 |nil=>cases h
 |cons x xs=>
  refine⟨?_,by simp⟩;simp only[dC] at h
  split at h
  ·injection h with h;injection h with _ h;omega
  ·rw[Option.map_eq_some_iff] at h;obtain⟨j,-,h⟩:=h;injection h with _ h;omega
  ·rw[Option.map_eq_some_iff] at h;obtain⟨p,hp,h⟩:=h;injection h with _ h
   have:=wE hp;omega
  ·rw[Option.map_eq_some_iff] at h;obtain⟨p,hp,h⟩:=h;injection h with _ h
   unfold mT at hp
   split at hp
   ·have:=zq _ _ _ _ _ hp;omega
   ·cases hp
  ·cases h
theorem iD (xs:List UInt8):(xs.dropWhile cV).length<=xs.length:=(List.dropWhile_sublist _).length_le
open Go.RowKit
theorem BC (x:UInt8):((bD x:Nat):Int)=if(x.toNat:Int)=45 then 0 else if(x.toNat:Int)=43 then 1 else if(x.toNat:Int)=48 then 2 else if 49<=(x.toNat:Int)/\(x.toNat:Int)<=57 then 3 else if(x.toNat:Int)=46 then 4 else if(x.toNat:Int)=101\/(x.toNat:Int)=69 then 5 else 6:=by
 have h:∀n:Nat,n<256->((bD (UInt8.ofNat n):Nat):Int)=if(n:Int)=45 then 0 else if(n:Int)=43 then 1 else if(n:Int)=48 then 2 else if 49<=(n:Int)/\(n:Int)<=57 then 3 else if(n:Int)=46 then 4 else if(n:Int)=101\/(n:Int)=69 then 5 else 6:=by decide +kernel
 have:=h x.toNat x.toNat_lt
 rwa[UInt8.ofNat_toNat] at this
theorem tJ (x:UInt8)(w:World):Calls Tryz.prog 253 #[.int .u8 x.toNat] w fun e w'=>e =.returned (.int .i64 (bD x:Nat))/\w=w':=by
 rw[BC];have hx:=x.toNat_lt;obtain⟨c,hc⟩:∃c:Int,(x.toNat:Int)=c:=⟨_,rfl⟩;have h0:0<=c:=by omega
 have h1:c<256:=by omega
 rw[hc];clear hx hc;go_enter Tryz.func253,Tryz.ntmps253;go_wp2
 all_goals go_ret
 all_goals refine⟨zC ?_,rfl⟩
 all_goals (simp_all <;> omega)
theorem pP (t:NS)(vd ve:Value)(w:World):Calls Tryz.prog 243 #[.agg #[.bool t.neg,.bool t.down,vd,.int .i64 t.part,ve,.int .i64 t.st,.int .i64 t.n]] w fun e w'=>e =.returned (.bool (ep t.st))/\Below w.heap.size w w':=by
 obtain⟨neg,down,digs,part,exps,st,n⟩:=t
 dsimp only
 have hw:ep st= (decide ((st:Int)=2)||decide ((st:Int)=3)||decide ((st:Int)=5)||decide ((st:Int)=8)):=by
  unfold ep;rw[Bool.eq_iff_iff];simp;omega
 rw[hw];obtain⟨z,hz⟩:∃z:Int,(st:Int)=z:=⟨_,rfl⟩;rw[hz];clear hz hw;have hb:=ac w (.cells #[.bool neg,.bool down,vd,.int .i64 part,ve,.int .i64 z,.int .i64 n] 374);go_enter Tryz.func243,Tryz.ntmps243;go_wp2
 all_goals go_ret
 all_goals refine⟨iZ ?_,hb⟩
 all_goals (simp_all <;> omega)
theorem uK {p:UInt8->Bool}(h:∀n,n<256->p (UInt8.ofNat n)=true)(c:UInt8):p c=true:=by
 have:=h c.toNat c.toNat_lt
 rwa[UInt8.ofNat_toNat] at this
theorem uj {c:UInt8}(h:eI c=true):bD c=2\/bD c=3:=by
 have:=uK (p:=fun c=> !eI c||(bD c==2||bD c==3)) (by decide +kernel) c;simp[h] at this;exact this
theorem Fy {c:UInt8}(h:eI c=true)(h0:c≠48):bD c=3:=by
 have:=uK (p:=fun c=> !eI c||(c==48||bD c==3)) (by decide +kernel) c;simpa [h,h0] using this
def qB (zs:List UInt8):Prop:= ∀c l,zs=c::l->bD c=6
theorem kv {t:NS}(h:qB zs):aD t zs=t:=by
 cases zs with
 |nil=>rfl
 |cons c l=>
  unfold aD;rw[h c l rfl,if_pos (by simp[eQ])]
theorem C5 {s:Nat}(hs:s=3\/s=5\/s=8){k:Nat}(hk:k=2\/k=3):eQ s k=s:=by
 rcases hs with rfl|rfl|rfl <;> rcases hk with rfl|rfl <;> rfl
theorem kD {s:Nat}(hs:s=3\/s=5\/s=8):∀ (ds:List UInt8) (t:NS) (zs:List UInt8),t.st=s->(∀c∈ds,eI c=true)->
  aD t (ds++zs)=aD {neg:=t.neg,down:=t.down,digs:=if s=8 then t.digs else t.digs++ds,part:=if s=5 then t.part+ds.length else t.part,exps:=if s=8 then t.exps++ds else t.exps,st:=t.st,n:=t.n+ds.length} zs
 | [],t,zs,h,_=>by obtain⟨a,b,c,d,e,f,g⟩:=t;simp
 |c::ds,t,zs,h,hd=>by
  have hk:=C5 hs (uj (hd c (by simp)));rw[<-h] at hk;have h1:aD t (c::ds++zs)=aD (t.next c) (ds++zs):=by
   show aD t (c:: (ds++zs))=_
   conv=>lhs;unfold aD
   rw[hk,h,if_neg (by omega)]
  have hn:(t.next c).st=s:=by show eQ t.st (bD c)=s;rw[hk,h]
  rw[h1,kD hs ds _ zs hn (fun c hc=>hd c (Zl _ hc))];obtain⟨a,b,c',d,e,f,g⟩:=t;simp only at h hk;subst h;simp only[NS.next,hk,List.length_cons];rcases hs with rfl|rfl|rfl <;> simp[Nat.add_assoc,Nat.add_comm 1]
theorem kC {c:UInt8}(h:c≠48):dT (c::l)=c::l:=by
 unfold dT;rw[List.dropWhile_cons,if_neg (by simpa using h)]
theorem wT (h:∀c,l.getLast?=some c->c≠48):oS l=l:=by
 unfold oS
 cases hr:l.reverse with
 |nil=>simp[dT];simpa using hr.symm
 |cons c m=>
  rw[kC (h c (by rw[List.getLast?_eq_head?_reverse,hr];rfl)),<-hr,List.reverse_reverse]
theorem p6 (l:List UInt8)(c:UInt8):jT (l ++ [c])=jT l*10+ (c.toNat - 48):=by
 unfold jT;rw[List.foldl_append];rfl
theorem EY {k:Nat}(h:k<10):(UInt8.ofNat (48+k)).toNat=48+k:=bR _ (by omega)
theorem zc {k:Nat}(h:k<10):eI (UInt8.ofNat (48+k))=true:=by unfold eI;rw[EY h];simp;omega
theorem o8 (u:Nat):∀c∈Lib.decDigits u,eI c=true:=by
 induction u using Nat.strongRecOn with
 |ind u ih=>
  rw[Lib.decDigits]
  split
  ·rename_i h
   intro c hc;rw[List.mem_singleton.1 hc];exact zc h
  ·intro c hc;rcases List.mem_append.1 hc with hc|hc
   ·exact ih (u/10) (by omega) c hc
   ·rw[List.mem_singleton.1 hc];exact zc (by omega)
theorem BL (u:Nat):jT (Lib.decDigits u)=u:=by
 induction u using Nat.strongRecOn with
 |ind u ih=>
  rw[Lib.decDigits]
  split
  ·rename_i h
   show 0*10+ ((UInt8.ofNat (48+u)).toNat - 48)=u
   rw[EY h];omega
  ·rw[p6,ih (u/10) (by omega),EY (by omega)];omega
theorem nP (u:Nat):∃c l,Lib.decDigits u=c::l/\(0<u->c≠48):=by
 induction u using Nat.strongRecOn with
 |ind u ih=>
  rw[Lib.decDigits]
  split
  ·rename_i h
   refine⟨_, [],rfl,fun h0 e=>?_⟩;have:=congrArg UInt8.toNat e;rw[EY h] at this;simp at this;omega
  ·obtain⟨c,l,h1,h2⟩:=ih (u/10) (by omega);rw[h1];exact⟨c,_,rfl,fun _=>h2 (by omega)⟩
theorem gM {u:Nat}(h:u<=1000000000):(Lib.decDigits u).length<=10:=by
 rw[Lib.decDigits_length];rw[Lib.nDigits];split
 ·omega
 rw[Lib.nDigits];split
 ·omega
 rw[Lib.nDigits];split
 ·omega
 rw[Lib.nDigits];split
 ·omega
 rw[Lib.nDigits];split
 ·omega
 rw[Lib.nDigits];split
 ·omega
 rw[Lib.nDigits];split
 ·omega
 rw[Lib.nDigits];split
 ·omega
 rw[Lib.nDigits];split
 ·omega
 rw[Lib.nDigits];split
 ·omega
 ·omega
def gc (x:Int):List UInt8:=if x=0 then [] else 101::Lib.itoa x
def fo (d:Dc):List UInt8:=(if d.neg then [45] else [])++ (d.digits.data.toList++gc d.exp)
structure ID (l:List UInt8):Prop where
 dig:∀c∈l,eI c=true
 ne:l≠ []
 first:∀c,l.head?=some c->c≠48
 rO:∀c,l.getLast?=some c->c≠48
def j6 (d:Dc):Prop:=d= ⟨false,⟨#[48]⟩,0⟩\/(ID d.digits.data.toList/\ -1000000000<=d.exp/\d.exp<=1000000000)
theorem Bo {t:NS}(ht:t.st=3\/t.st=2)(h0:t.exps = [])(hd:t.down=false)(x:Int)(hx: -1000000000<=x/\x<=1000000000)(hz:qB zs) :
  ∃t',aD t (gc x++zs)=t'/\t'.neg=t.neg/\t'.digs=t.digs/\t'.part=t.part/\t'.n=t.n+ (gc x).length/\ep t'.st=true/\f7 t'=x:=by
 unfold gc
 by_cases h:x=0
 ·subst h;rw[if_pos rfl,List.nil_append,kv hz];refine⟨t,rfl,rfl,rfl,rfl,rfl,?_,?_⟩
  ·rcases ht with h|h <;> rw[h] <;> rfl
  ·unfold f7;rw[h0,hd];simp[dT,jT]
 ·rw[if_neg h];have e1:aD t (101::Lib.itoa x++zs)=aD (t.next 101) (Lib.itoa x++zs):=by
   show aD t (101:: (Lib.itoa x++zs))=_
   conv=>lhs;unfold aD
   rw[if_neg (by rcases ht with h|h <;> rw[h] <;> decide)]
  have s1:(t.next 101).st=6:=by simp only[NS.next];rcases ht with h|h <;> rw[h] <;> rfl
  have q1:(t.next 101).neg=t.neg/\(t.next 101).digs=t.digs/\(t.next 101).part=t.part/\(t.next 101).n=t.n+1/\(t.next 101).exps = []/\(t.next 101).down=false:=by
   have s1':=s1;simp only[NS.next] at s1' ⊢;rw[s1'];simp[h0,hd]
  rw[e1];generalize t.next 101=u at s1 q1;obtain⟨k1,k2,k3,k4,k5,k6⟩:=q1
  -- the digits
  have main:∀ (v:NS) (m:Nat),(v.st=6\/v.st=7)->v.exps = []->0<m->m<=1000000000->∃t',aD v (Lib.decDigits m++zs)=t'/\t'.neg=v.neg/\t'.digs=v.digs/\t'.part=v.part/\t'.n=v.n+ (Lib.decDigits m).length/\ep t'.st=true/\f7 t'=if v.down then -(m:Int) else m:=by
   intro v m hv he hm a2;obtain⟨c,l,hc,a3⟩:=nP m;have a0:=o8 m;rw[hc] at a0;have hk:=uj (a0 c (by simp));have g8:eQ v.st (bD c)=8:=by rcases hv with h|h <;> rcases hk with h'|h' <;> rw[h,h'] <;> rfl
   have e2:aD v (Lib.decDigits m++zs)=aD (v.next c) (l++zs):=by
    rw[hc]
    show aD v (c:: (l++zs))=_
    conv=>lhs;unfold aD
    rw[g8,if_neg (by omega)]
   have s2:(v.next c).st=8:=by simp only[NS.next];exact g8
   refine⟨_,rfl,?_⟩;rw[e2,kD (.inr (.inr rfl)) l _ zs s2 (fun c h=>a0 c (Zl _ h)),kv hz];have hlen:=gM a2;rw[hc] at hlen;have a4:v.exps ++ [c]++l=Lib.decDigits m:=by rw[he,hc];rfl
   have a1:(v.next c).exps++l=Lib.decDigits m:=by simp only[NS.next,g8];simpa [he] using hc.symm
   refine⟨by simp[NS.next,g8],by simp[NS.next,g8],by simp[NS.next,g8],by simp[NS.next,hc];omega,by show ep (v.next c).st=true;rw[s2];rfl,?_⟩;unfold f7;simp only[if_true,a1];have e4:(if(c::l).length<=12 then((jT (c::l):Nat):Int) else 1099511627776)=m:=by rw[if_pos (by omega),<-hc,BL]
   rw[hc,kC (a3 hm),e4];simp[NS.next,g8]
  by_cases hn:x<0
  ·obtain⟨m,rfl⟩:∃m:Nat,x = -(m:Int):=⟨x.natAbs,by omega⟩;rw[Lib.itoa_neg m (by omega)];have e3:aD u (45::Lib.decDigits m++zs)=aD (u.next 45) (Lib.decDigits m++zs):=by
    show aD u (45:: (Lib.decDigits m++zs))=_
    conv=>lhs;unfold aD
    rw[s1,if_neg (by decide)]
   have g7:eQ u.st (bD 45)=7:=by rw[s1];rfl
   obtain⟨t',r1,r2,r3,r4,r5,r6,r7⟩:=main (u.next 45) m (by simp[NS.next,g7]) (by simp[NS.next,g7,k5]) (by omega) (by omega);refine⟨t',by rw[e3,r1],?_,?_,?_,?_,r6,?_⟩
   ·rw[r2,<-k1];simp[NS.next,g7]
   ·rw[r3,<-k2];simp[NS.next,g7]
   ·rw[r4,<-k3];simp[NS.next,g7]
   ·rw[r5,show(u.next 45).n=u.n+1 from rfl,k4];simp;omega
   ·rw[r7];simp[NS.next,g7]
  ·obtain⟨m,rfl⟩:∃m:Nat,x= (m:Int):=⟨x.natAbs,by omega⟩;rw[Lib.itoa_nonneg m];obtain⟨t',r1,r2,r3,r4,r5,r6,r7⟩:=main u m (.inl s1) k5 (by omega) (by omega);exact⟨t',r1,r2.trans k1,r3.trans k2,r4.trans k3,by rw[r5,k4];simp;omega,r6,by rw[r7,k6];simp⟩
theorem tI {x:Int}(h: -1000000000<=x/\x<=1000000000):oG x=x:=by unfold oG;omega
theorem C9 (h:j6 d)(hz:qB zs):o5 (fo d++zs)=some (d,(fo d).length):=by
 rcases h with rfl|⟨hl,hx⟩
 ·have e:fo ⟨false,⟨#[48]⟩,0⟩++zs=48::zs:=rfl;have e1:aD iE (48::zs)=iE.next 48:=by
   conv=>lhs;unfold aD
   rw[if_neg (by decide),kv hz]
  simp only[o5,e,e1];rfl
 ·obtain⟨neg,⟨⟨ds⟩⟩,x⟩:=d;simp only[fo] at hl hx ⊢;obtain⟨hd,hne,hf,a1⟩:=hl
  cases ds with
  |nil=>exact absurd rfl hne
  |cons c l=>
   have a0:=hf c rfl;have hk:=Fy (hd c (by simp)) a0;have key:∀v:NS,(v.st=0\/v.st=1)->v.exps = []->v.down=false->v.digs = []->v.part=0->∃t',aD v ((c::l++gc x)++zs)=t'/\t'.neg=v.neg/\t'.digs=c::l/\t'.part=0/\t'.n=v.n+ (c::l++gc x).length/\ep t'.st=true/\f7 t'=x:=by
    intro v hv h1 h2 h3 h4;have g3:eQ v.st (bD c)=3:=by rcases hv with h|h <;> rw[h,hk] <;> rfl
    have e2:aD v ((c::l++gc x)++zs)=aD (v.next c) (l++ (gc x++zs)):=by
     rw[List.append_assoc]
     show aD v (c:: (l++ (gc x++zs)))=_
     conv=>lhs;unfold aD
     rw[g3,if_neg (by omega)]
    have s2:(v.next c).st=3:=by simp only[NS.next];exact g3
    rw[e2,kD (.inl rfl) l _ _ s2 (fun c h=>hd c (Zl _ h))];obtain⟨t',r1,r2,r3,r4,r5,r6,r7⟩:=Bo (t:={neg:=(v.next c).neg,down:=(v.next c).down,digs:=if 3=8 then(v.next c).digs else(v.next c).digs++l,part:=if 3=5 then(v.next c).part+l.length else(v.next c).part,exps:=if 3=8 then(v.next c).exps++l else(v.next c).exps,st:=(v.next c).st,n:=(v.next c).n+l.length}) (.inl s2) (by simp[NS.next,g3,h1]) (by simp[NS.next,g3,h2]) x hx hz;refine⟨t',r1,?_,?_,?_,?_,r6,r7⟩
    ·rw[r2];simp[NS.next,g3]
    ·rw[r3];simp[NS.next,g3,h3]
    ·rw[r4];simp[NS.next,g3,h4]
    ·rw[r5];simp[NS.next];omega
   have fin:∀t':NS,t'.neg=neg->t'.digs=c::l->t'.part=0->ep t'.st=true->f7 t'=x->(if ep t'.st then(iT t'.neg t'.digs (f7 t') (-(t'.part:Int))).map fun d=>(d,t'.n) else none)=some (⟨neg,⟨(c::l).toArray⟩,x⟩,t'.n):=by
    intro t' h1 h2 h3 h4 h5;rw[if_pos h4,h1,h2,h3,h5];simp only[iT,kC a0,wT a1,tI hx];simp[hx]
   cases neg with
   |false=>
    obtain⟨t',r1,r2,r3,r4,r5,r6,r7⟩:=key iE (.inl rfl) rfl rfl rfl rfl;simp only[o5,Bool.false_eq_true,if_false,List.nil_append,r1];rw[fin t' r2 r3 r4 r6 r7,r5];simp[iE]
   |true=>
    have e3:aD iE (([45]++ (c::l++gc x))++zs)=aD (iE.next 45) ((c::l++gc x)++zs):=by
     show aD iE (45:: ((c::l++gc x)++zs))=_
     conv=>lhs;unfold aD
     rw[if_neg (by decide)]
    obtain⟨t',r1,r2,r3,r4,r5,r6,r7⟩:=key (iE.next 45) (.inr rfl) rfl rfl rfl rfl;simp only[o5,if_true,e3,r1];rw[fin t' r2 r3 r4 r6 r7,r5];simp[iE,NS.next];omega
def pD (n:Nat):UInt8:=if n<10 then UInt8.ofNat (48+n) else UInt8.ofNat (87+n)
def cO (c:Int):List UInt8:=
 if c=34 then [92,34] else if c=92 then [92,92] else if c=8 then [92,98] else if c=9 then [92,116] else if c=10 then [92,110] else if c=12 then [92,102] else if c=13 then [92,114]
 else if c<32 then [92,117,48,48,pD (c.toNat/16),pD (c.toNat % 16)] else bG c
def lF (cs:List Int):List UInt8:=34:: (cs.flatMap cO ++ [34])
def el (s:ByteArray):List UInt8:=lF (nm s)
theorem BU (h:dO c=true)(a2:32<=c)(a0:c≠34)(a1:c≠92):∃x l,bG c=x::l/\x≠34/\x≠92/\¬x.toNat<32:=by
 have hr:=h;rw[cB] at h;simp at h
 by_cases h1:c<128
 ·refine⟨_, [],mz c h1,?_,?_,?_⟩
  ·intro e;have:=congrArg UInt8.toNat e;rw[bR _ (by omega)] at this;simp at this;omega
  ·intro e;have:=congrArg UInt8.toNat e;rw[bR _ (by omega)] at this;simp at this;omega
  ·rw[bR _ (by omega)];omega
 ·have key:∃n l,bG c=UInt8.ofNat n::l/\128<=n/\n<256:=by
   by_cases h2:c<2048
   ·exact⟨_,_,qA c ⟨by omega,h2⟩,by omega,by omega⟩
   ·by_cases h3:c<65536
    ·exact⟨_,_,oZ c ⟨by omega,h3⟩ (by omega),by omega,by omega⟩
    ·exact⟨_,_,qx c ⟨by omega,by omega⟩,by omega,by omega⟩
  obtain⟨n,l,e,h3,h4⟩:=key;refine⟨_,l,e,?_,?_,?_⟩
  ·intro e;have:=congrArg UInt8.toNat e;rw[bR _ h4] at this;simp at this;omega
  ·intro e;have:=congrArg UInt8.toNat e;rw[bR _ h4] at this;simp at this;omega
  ·rw[bR _ h4];omega
theorem AO (h:dO c=true)(a2:32<=c)(a0:c≠34)(a1:c≠92)(zs:List UInt8):bW (bG c++zs)=some (some (c,(bG c).length)):=by
 obtain⟨x,l,e,h1,h2,h3⟩:=BU h a2 a0 a1;have hd:=ix c h zs;rw[e] at hd ⊢;rw[List.cons_append] at hd ⊢;simp only[bW];rw[if_neg h1,if_neg h2,if_neg h3,hd];rfl
theorem qp (n:Nat)(h:n<16):iJ (pD n)=some n:=by
 have:∀n,n<16->iJ (pD n)=some n:=by decide +kernel
 exact this n h
theorem qt (h:dO c=true)(zs:List UInt8):bW (cO c++zs)=some (some (c,(cO c).length)):=by
 unfold cO
 by_cases h34:(c:Int)=34
 ·rw[if_pos h34];obtain rfl:c=34:=by omega
  rfl
 rw[if_neg h34]
 by_cases h92:(c:Int)=92
 ·rw[if_pos h92];obtain rfl:c=92:=by omega
  rfl
 rw[if_neg h92]
 by_cases h8:(c:Int)=8
 ·rw[if_pos h8];obtain rfl:c=8:=by omega
  rfl
 rw[if_neg h8]
 by_cases h9:(c:Int)=9
 ·rw[if_pos h9];obtain rfl:c=9:=by omega
  rfl
 rw[if_neg h9]
 by_cases h10:(c:Int)=10
 ·rw[if_pos h10];obtain rfl:c=10:=by omega
  rfl
 rw[if_neg h10]
 by_cases h12:(c:Int)=12
 ·rw[if_pos h12];obtain rfl:c=12:=by omega
  rfl
 rw[if_neg h12]
 by_cases h13:(c:Int)=13
 ·rw[if_pos h13];obtain rfl:c=13:=by omega
  rfl
 rw[if_neg h13]
 by_cases h32:(c:Int)<32
 ·rw[if_pos h32];have e1:=qp (c/16) (by omega);have e2:=qp (c % 16) (by omega);have e3:cS (48::48::pD (c/16)::pD (c % 16)::zs)=some c:=by
   simp only[cS,e1,e2,show iJ 48=some 0 from rfl,bind,pure,Option.bind]
   congr 1;omega
  show bW (92::117::48::48::pD (c/16)::pD (c % 16)::zs)=some (some (c,6))
  simp only[bW];rw[if_neg (by decide),if_pos trivial]
  show(kB (48::48::pD (c/16)::pD (c % 16)::zs)).map some=_
  unfold kB;simp only[e3,bind,pure,Option.bind];rw[if_pos (by omega)];rfl
 ·rw[if_neg h32];exact AO h (by omega) (by omega) (by omega) zs
theorem Dd (h:dO c=true):1<=(cO c).length:=by
 have:=qt h [];rcases hl:cO c with _|⟨x,l⟩
 ·rw[hl] at this;simp[bW] at this
 ·simp
theorem vV:∀ (cs:List Int) (f:Nat) (out:List UInt8) (n:Nat) (zs:List UInt8),(∀c∈cs,dO c=true)->cs.length<f->fZ f (cs.flatMap cO++34::zs) out n=some (out++cs.flatMap bG,n+ (cs.flatMap cO).length+1)
 | [],0,_,_,_,_,h=>absurd h (Nat.not_lt_zero _)
 | [],f+1,out,n,zs,_,_=>by
  show fZ (f+1) (34::zs) out n=_
  simp[fZ,bW]
 |c::cs,0,_,_,_,_,h=>absurd h (Nat.not_lt_zero _)
 |c::cs,f+1,out,n,zs,hc,h=>by
  have h0:=hc c (by simp);obtain⟨k,rfl⟩:∃k:Nat,c=k:=⟨c.toNat,by have:=em h0;omega⟩;have hp:=qt h0 (cs.flatMap cO++34::zs);have e:(((k:Int)::cs).flatMap cO++34::zs)=cO k++ (cs.flatMap cO++34::zs):=by simp
  rw[e];unfold fZ;rw[hp];simp only[List.drop_left];rw[vV cs f _ _ zs (fun c h=>hc c (Zl _ h)) (by simpa using h)];simp[Nat.add_assoc]
theorem Ca {cs:List Int}(hc:∀c∈cs,dO c=true)(zs:List UInt8):mT (lF cs++zs)=some (cs.flatMap bG,(lF cs).length):=by
 have hl:∀ {cs:List Int},(∀c∈cs,dO c=true)->cs.length<=(cs.flatMap cO).length:=by
  intro cs
  induction cs with
  |nil=>intro _;simp
  |cons c cs ih=>
   intro hc;have h0:=hc c (by simp);obtain⟨k,rfl⟩:∃k:Nat,c=k:=⟨c.toNat,by have:=em h0;omega⟩;have:=Dd h0;have:=ih (fun c h=>hc c (Zl _ h));rw[List.flatMap_cons,List.length_append,List.length_cons];omega
 have e:lF cs++zs=34:: (cs.flatMap cO++34::zs):=by simp[lF]
 rw[e]
 show fZ _ _ [] 1=_
 rw[vV cs _ [] 1 zs hc (by have:=hl hc;rw[List.length_append];omega)];simp[lF];omega
def dB (s:ByteArray):Prop:= ∃cs:List Int,(∀c∈cs,dO c=true)/\s.data.toList=cs.flatMap bG
theorem dB.nm {s:ByteArray}(h:dB s):(∀c∈nm s,dO c=true)/\(nm s).flatMap bG=s.data.toList:=by
 obtain⟨cs,h1,h2⟩:=h;have e:Proofs.YthknekoamnnhhaaGreatDoor.nm s=cs:=by unfold Proofs.YthknekoamnnhhaaGreatDoor.nm;rw[h2];exact ir dD h1
 rw[e];exact⟨h1,h2.symm⟩
theorem vj {s:ByteArray}(h:dB s)(zs:List UInt8):dC (el s++zs)=some (.str s,(el s).length):=by
 have hq:=Ca h.nm.1 zs;have e:el s++zs=34:: ((Proofs.YthknekoamnnhhaaGreatDoor.nm s).flatMap cO ++ [34]++zs):=by simp[el,lF]
 have e2:lF (Proofs.YthknekoamnnhhaaGreatDoor.nm s)++zs=34:: ((Proofs.YthknekoamnnhhaaGreatDoor.nm s).flatMap cO ++ [34]++zs):=by simp[lF]
 rw[e2] at hq;rw[e];have hk:cD 34=5:=by decide
 simp only[dC,hk,hq,Option.map_some,h.nm.2];rfl
mutual
def JV.txt:JV->List UInt8
 | .mk k t x n ns ks=>if k=1 then [110,117,108,108] else if k=2 then(if t then [116,114,117,101] else [102,97,108,115,101]) else if k=3 then fo n else if k=4 then el x
  else if k=5 then 91:: (JV.txts false true ns ks ++ [93]) else if k=6 then 123:: (JV.txts true true ns ks ++ [125]) else []
def JV.txts:Bool->Bool->List ByteArray->List JV->List UInt8
 |_,_,_, []=> []
 |o,first,ns,v::vs=>(if first then [] else [44])++ ((if o then el (ns.headD ⟨#[]⟩) ++ [58] else [])++ (JV.txt v++JV.txts o false ns.tail vs))
end
inductive Tx:JV->Prop
 |null:Tx jY
 |bool (b:Bool):Tx (fT b)
 |num (d:Dc):j6 d->Tx (ef d)
 |text (s:ByteArray):dB s->Tx (eW s)
 |list (ks:List JV):(∀u∈ks,Tx u)->Tx (dU ks)
 |obj (ns:List ByteArray) (ks:List JV):ns.length=ks.length->(∀s∈ns,dB s)->gO ns->(∀u∈ks,Tx u)->Tx (.mk 6 false ⟨#[]⟩ ⟨false,⟨#[]⟩,0⟩ ns ks)
theorem j6.zero (h:j6 d):rI d:=by
 intro e;rcases h with h|⟨h,-⟩
 ·exact h
 ·rw[e] at h;exact absurd rfl (h.first 48 rfl)
theorem Tx.vl (h:Tx j):Vl j:=by
 induction h with
 |null=>exact .null
 |bool b=>exact .bool b
 |num d hd=>exact .num d hd.zero
 |text s _=>exact .text s
 |list ks _ ih=>exact .list ks ih
 |obj ns ks h1 _ _ _ ih=>exact .obj ns ks h1 ih
theorem kA:∀ {l:List (ByteArray×JV)},(l.map Prod.fst).Pairwise fN->gw l=l
 | [],_=>rfl
 |m::l,h=>by
  rw[List.map_cons,List.pairwise_cons] at h;have ih:=kA h.2
  show sE m (gw l)=_
  rw[ih]
  cases l with
  |nil=>rfl
  |cons x l=>
   have:ay (nm m.1) (nm x.1)<0:=h.1 x.1 (by simp);rw[sE,if_pos this]
theorem eC {c c':dH}{x:UInt8}(hk:cD x=2)(h:dV c (.mark x)=some c'):dS c (x::zs) c' zs:=by
 have hb:cV x=false:=by
  cases hx:cV x with
  |false=>rfl
  |true=>simp[cD,hx] at hk
 exact .one (n:=1) hb (by simp only[dC,hk]) h
theorem jM (hw:want=0\/want=1)(hb:∀y ys,xs++zs=y::ys->cV y=false)(hx:dC (xs++zs)=some (.leaf j,xs.length)):dS ⟨frs,want,none⟩ (xs++zs) (cW frs j) zs:=by
 cases he:xs++zs with
 |nil=>rw[he] at hx;cases hx
 |cons y ys=>
  have h1:=hb y ys he;rw[he] at hx;have h2:=dS.one (c:=⟨frs,want,none⟩) (c':=cW frs j) h1 hx (by rcases hw with rfl|rfl <;> rfl);rw[<-he,List.drop_left] at h2
  rwa[he] at h2
theorem p5 (h:j6 d):∃c l,fo d=c::l/\cD c=4:=by
 rcases h with rfl|⟨hl,-⟩
 ·exact⟨48, [],rfl,by decide⟩
 ·obtain⟨neg,⟨⟨ds⟩⟩,x⟩:=d
  cases neg with
  |true=>exact⟨45,_,rfl,by decide⟩
  |false=>
   cases ds with
   |nil=>exact absurd rfl hl.ne
   |cons c l=>
    refine⟨c,_,rfl,?_⟩;have:=uK (p:=fun c=> !eI c||cD c==4) (by decide +kernel) c;simpa [hl.dig c (by simp)] using this
theorem Es {x:UInt8}{k:Nat}(h:cD x=k)(hk:k≠1):cV x=false:=by
 cases hx:cV x with
 |false=>rfl
 |true=>simp[cD,hx] at h;omega
theorem CH (h:j6 d)(hz:qB zs):dC (fo d++zs)=some (.leaf (ef d),(fo d).length):=by
 have hn:=C9 h hz;obtain⟨c,l,e,hk⟩:=p5 h;rw[e,List.cons_append] at hn ⊢;simp only[dC,hk,hn];rfl
theorem AY (hz:qB zs)(a0:∀c l,zs=c::l->dX c=false):zs.takeWhile dX = []:=by
 cases zs with
 |nil=>rfl
 |cons c l=>rw[List.takeWhile_cons,if_neg (by rw[a0 c l rfl];decide)]
def AT (zs:List UInt8):Prop:= ∀c l,zs=c::l->bD c=6/\dX c=false
theorem AT.stop (h:AT zs):qB zs:=fun c l e=>(h c l e).1
theorem zj {c:UInt8}(h:bD c=6/\dX c=false):AT (c::l):=by
 intro a m e;injection e with e _
 rw[<-e];exact h
theorem lC {w:List UInt8}(hw:(w,j)∈ [([110,117,108,108],jY),([116,114,117,101],fT true),([102,97,108,115,101],fT false)])(hz:AT zs):dC (w++zs)=some (.leaf j,w.length):=by
 have h0:zs.takeWhile dX = []:=AY hz.stop (fun c l e=>(hz c l e).2);simp only[List.mem_cons,List.mem_nil_iff,or_false,Prod.mk.injEq] at hw;have hl:∀ (x:UInt8) (l:List UInt8),(∀c∈l,dX c=true)->(l++zs).takeWhile dX=l:=by
  intro x l
  induction l with
  |nil=>intro _;exact h0
  |cons c l ih=>intro h;rw[List.cons_append,List.takeWhile_cons,if_pos (h c (by simp)),ih (fun c hc=>h c (Zl _ hc))]
 rcases hw with ⟨rfl,rfl⟩|⟨rfl,rfl⟩|⟨rfl,rfl⟩
 ·have:=hl 0 [117,108,108] (by decide)
  show dC (110:: ([117,108,108]++zs))=_
  simp only[dC,this,show cD 110=3 from by decide];rfl
 ·have:=hl 0 [114,117,101] (by decide)
  show dC (116:: ([114,117,101]++zs))=_
  simp only[dC,this,show cD 116=3 from by decide];rfl
 ·have:=hl 0 [97,108,115,101] (by decide)
  show dC (102:: ([97,108,115,101]++zs))=_
  simp only[dC,this,show cD 102=3 from by decide];rfl
def Eb (j:JV):Prop:= ∀ (frs:List Fr) (want:Nat) (zs:List UInt8),(want=0\/want=1)->AT zs->dS ⟨frs,want,none⟩ (j.txt++zs) (cW frs j) zs
theorem qo (o:Bool)(ns:List ByteArray)(ks:List JV)(c:UInt8)(zs:List UInt8)(hc:bD c=6/\dX c=false):AT (JV.txts o false ns ks++c::zs):=by
 cases ks with
 |nil=>exact zj hc
 |cons v vs=>
  have:JV.txts o false ns (v::vs)++c::zs=44:: (((if o then el (ns.headD ⟨#[]⟩) ++ [58] else [])++ (JV.txt v++JV.txts o false ns.tail vs))++c::zs):=by simp[JV.txts]
  rw[this];exact zj (by decide)
theorem yf (h:∀u∈ks,Eb u):∀ (frs:List Fr) (its:List JV) (first:Bool) (ns:List ByteArray) (zs:List UInt8),∃w,(w=1\/w=5)/\dS ⟨⟨false,its, [],none⟩::frs,if first then 1 else 5,none⟩ (JV.txts false first ns ks++93::zs) ⟨⟨false,its++ks, [],none⟩::frs,w,none⟩ (93::zs):=by
 induction ks with
 |nil=>intro frs its first ns zs;exact⟨if first then 1 else 5,by cases first <;> simp,by simpa [JV.txts] using dS.refl _ _⟩
 |cons v vs ih=>
  intro frs its first ns zs;have hv:=h v (by simp);have he:=qo false ns.tail vs 93 zs (by decide);obtain⟨w,hw,hr⟩:=ih (fun u hu=>h u (Zl _ hu)) frs (its ++ [v]) false ns.tail zs;refine⟨w,hw,?_⟩;have e2:its++v::vs=its ++ [v]++vs:=by simp
  rw[e2]
  cases first with
  |true=>
   have e:JV.txts false true ns (v::vs)++93::zs=v.txt++ (JV.txts false false ns.tail vs++93::zs):=by simp[JV.txts]
   rw[e];exact(hv _ 1 _ (.inr rfl) he).trans hr
  |false=>
   have e:JV.txts false false ns (v::vs)++93::zs=44:: (v.txt++ (JV.txts false false ns.tail vs++93::zs)):=by simp[JV.txts]
   rw[e];refine dS.trans (eC (c':=⟨⟨false,its, [],none⟩::frs,0,none⟩) (by decide) rfl) ?_;exact(hv _ 0 _ (.inl rfl) he).trans hr
theorem pR {s:ByteArray}(hw:want=2\/want=3)(hs:dB s)(hn:f.mems.any (fun p=>decide (p.1=s))=false)(zs:List UInt8):dS ⟨f::frs,want,none⟩ (el s++58::zs) ⟨{f with name:=some s}::frs,0,none⟩ zs:=by
 have hx:=vj hs (58::zs);have e:el s++58::zs=34:: ((Proofs.YthknekoamnnhhaaGreatDoor.nm s).flatMap cO ++ [34]++58::zs):=by simp[el,lF]
 have h1:dS ⟨f::frs,want,none⟩ (el s++58::zs) ⟨{f with name:=some s}::frs,4,none⟩ (58::zs):=by
  rw[e] at hx ⊢;have h2:=dS.one (c:=⟨f::frs,want,none⟩) (c':=⟨{f with name:=some s}::frs,4,none⟩) (by decide) hx (by rcases hw with rfl|rfl <;> simp[dV,hn]);rw[<-e,List.drop_left] at h2
  rwa[e] at h2
 exact h1.trans (eC (by decide) rfl)
theorem BB (h:∀u∈ks,Eb u):∀ (frs:List Fr) (ms:List (ByteArray×JV)) (first:Bool) (ns:List ByteArray) (zs:List UInt8),ns.length=ks.length->(∀s∈ns,dB s)->(ms.map Prod.fst++ns).Pairwise fN->∃w,(w=3\/w=6)/\dS ⟨⟨true, [],ms,none⟩::frs,if first then 3 else 6,none⟩ (JV.txts true first ns ks++125::zs) ⟨⟨true, [],ms++ns.zip ks,none⟩::frs,w,none⟩ (125::zs):=by
 induction ks with
 |nil=>intro frs ms first ns zs hl _ _;exact⟨if first then 3 else 6,by cases first <;> simp,by obtain rfl:=List.eq_nil_of_length_eq_zero hl;simpa [JV.txts] using dS.refl _ _⟩
 |cons v vs ih=>
  intro frs ms first ns zs hl hs hp
  cases ns with
  |nil=>simp at hl
  |cons a ns=>
   have hv:=h v (by simp);have he:=qo true ns vs 125 zs (by decide);obtain⟨w,hw,hr⟩:=ih (fun u hu=>h u (Zl _ hu)) frs (ms ++ [(a,v)]) false ns zs (by simpa using hl) (fun s h=>hs s (Zl _ h)) (by simpa using hp);refine⟨w,hw,?_⟩;have e2:ms++ (a::ns).zip (v::vs)=ms ++ [(a,v)]++ns.zip vs:=by simp
   rw[e2];have hc:ms.any (fun p=>decide (p.1=a))=false:=by
    rw[List.pairwise_append] at hp;rw[List.any_eq_false];intro p hm;have:=nF (hp.2.2 p.1 (List.mem_map_of_mem hm) a (by simp));simpa using this
   cases first with
   |true=>
    have e:JV.txts true true (a::ns) (v::vs)++125::zs=el a++58:: (v.txt++ (JV.txts true false ns vs++125::zs)):=by simp[JV.txts]
    rw[e];exact((pR (.inr rfl) (hs a (by simp)) hc _).trans (hv _ 0 _ (.inl rfl) he)).trans hr
   |false=>
    have e:JV.txts true false (a::ns) (v::vs)++125::zs=44:: (el a++58:: (v.txt++ (JV.txts true false ns vs++125::zs))):=by simp[JV.txts]
    rw[e];refine dS.trans (eC (c':=⟨⟨true, [],ms,none⟩::frs,2,none⟩) (by decide) rfl) ?_;exact((pR (.inl rfl) (hs a (by simp)) hc _).trans (hv _ 0 _ (.inl rfl) he)).trans hr
theorem Tx.goes (h:Tx j):Eb j:=by
 induction h with
 |null=>exact fun frs want zs hw hz=>jM (xs:= [110,117,108,108]) hw (fun y ys e=>by injection e with e _;subst e;rfl) (lC (by simp) hz)
 |bool b=>
  intro frs want zs hw hz
  cases b with
  |true=>exact jM (xs:= [116,114,117,101]) hw (fun y ys e=>by injection e with e _;subst e;rfl) (lC (by simp) hz)
  |false=>exact jM (xs:= [102,97,108,115,101]) hw (fun y ys e=>by injection e with e _;subst e;rfl) (lC (by simp) hz)
 |num d hd=>
  intro frs want zs hw hz;have e:(ef d).txt=fo d:=by simp[ef,JV.txt]
  rw[e];refine jM hw (fun y ys e=>?_) (CH hd hz.stop);obtain⟨c,l,hc,hk⟩:=p5 hd;rw[hc] at e;injection e with e _
  subst e;exact Es hk (by omega)
 |text s hs=>
  intro frs want zs hw hz;have e:(eW s).txt=el s:=by simp[eW,JV.txt]
  rw[e];have hx:=vj hs zs;have e:el s++zs=34:: ((Proofs.YthknekoamnnhhaaGreatDoor.nm s).flatMap cO ++ [34]++zs):=by simp[el,lF]
  rw[e] at hx ⊢;have h2:=dS.one (c:=⟨frs,want,none⟩) (c':=cW frs (eW s)) (by decide) hx (by rcases hw with rfl|rfl <;> rfl);rw[<-e,List.drop_left] at h2
  rwa[e] at h2
 |list ks _ ih=>
  intro frs want zs hw hz;have e:(dU ks).txt++zs=91:: (JV.txts false true [] ks++93::zs):=by simp[dU,JV.txt]
  rw[e];refine dS.trans (eC (c':=⟨⟨false, [], [],none⟩::frs,1,none⟩) (by decide) (by rcases hw with rfl|rfl <;> rfl)) ?_;obtain⟨w,a0,hr⟩:=yf ih frs [] true [] zs;refine hr.trans (eC (by decide) ?_);rcases a0 with rfl|rfl <;> rfl
 |obj ns ks hl hs hp _ ih=>
  intro frs want zs hw hz;have e:(JV.mk 6 false ⟨#[]⟩ ⟨false,⟨#[]⟩,0⟩ ns ks).txt++zs=123:: (JV.txts true true ns ks++125::zs):=by simp[JV.txt]
  rw[e];refine dS.trans (eC (c':=⟨⟨true, [], [],none⟩::frs,3,none⟩) (by decide) (by rcases hw with rfl|rfl <;> rfl)) ?_;obtain⟨w,a0,hr⟩:=BB ih frs [] true ns zs hl hs (by simpa [gO] using hp);refine hr.trans (eC (by decide) ?_);have h1:dZ ⟨true, [], []++ns.zip ks,none⟩ =.mk 6 false ⟨#[]⟩ ⟨false,⟨#[]⟩,0⟩ ns ks:=by
   have hf:(ns.zip ks).map Prod.fst=ns:=List.map_fst_zip (by omega);have a1:(ns.zip ks).map Prod.snd=ks:=List.map_snd_zip (by omega)
   show mJ (gw (ns.zip ks))=_
   rw[kA (by rw[hf];exact hp),mJ,hf,a1]
  rw[List.nil_append] at h1;rcases a0 with rfl|rfl <;> simp only[dV,zQ] <;> simp[h1]
def Shut:JV->Prop
 | .mk k _ _ _ _ _=>k=4\/k=5\/k=6
def jZ (xs ys:List UInt8):Prop:=xs.dropWhile cV=ys.dropWhile cV
theorem jZ.refl (xs:List UInt8):jZ xs xs:=rfl
theorem jZ.trans (h:jZ xs ys)(k:jZ ys zs):jZ xs zs:=Eq.trans h k
theorem dS.same {c c':dH}(h:dS c xs c' ys)(hs:jZ xs' xs):∃ys',jZ ys' ys/\dS c xs' c' ys':=by
 cases h with
 |refl=>exact⟨xs',hs,.refl _ _⟩
 |step h1 h2 h3 h4=>exact⟨ys,rfl,.step (Eq.trans hs h1) h2 h3 h4⟩
theorem dS.then {a b c:dH}{ys':List UInt8}(h:dS a xs b ys')(hs:jZ ys' ys)(k:dS b ys c zs):∃zs',jZ zs' zs/\dS a xs c zs':=by
 obtain⟨z,h1,h2⟩:=k.same hs;exact⟨z,h1,h.trans h2⟩
theorem lP (m:ByteArray×JV):∀l,(sE m l).Perm (m::l)
 | []=>List.Perm.refl _
 |x::l=>by
  unfold sE
  split
  ·exact List.Perm.refl _
  ·exact((lP m l).cons x).trans (List.Perm.swap m x l)
theorem kj:∀l,(gw l).Perm l
 | []=>List.Perm.refl _
 |m::l=>(lP m (gw l)).trans ((kj l).cons m)
theorem pS {m:ByteArray×JV}:∀ {l:List (ByteArray×JV)},(l.map Prod.fst).Pairwise fN->(∀x∈l,x.1≠m.1)->((sE m l).map Prod.fst).Pairwise fN
 | [],_,_=>by simp[sE]
 |x::l,h,hn=>by
  unfold sE;rw[List.map_cons,List.pairwise_cons] at h
  split
  ·rename_i hlt
   rw[List.map_cons,List.map_cons,List.pairwise_cons,List.pairwise_cons];refine⟨fun b hb=>?_,h⟩;rcases List.mem_cons.1 hb with rfl|hb
   ·exact hlt
   ·exact gT hlt (h.1 b hb)
  ·rename_i hlt
   have hx:fN x.1 m.1:=jI hlt (fun e=>hn x (by simp) e.symm);rw[List.map_cons,List.pairwise_cons];refine⟨fun b hb=>?_,pS h.2 (fun y hy=>hn y (Zl _ hy))⟩;obtain⟨y,hy,rfl⟩:=List.mem_map.1 hb;rcases List.mem_cons.1 ((lP m l).mem_iff.1 hy) with rfl|hy
   ·exact hx
   ·exact h.1 y.1 (List.mem_map_of_mem hy)
theorem oY:∀ {l:List (ByteArray×JV)},(l.map Prod.fst).Nodup->((gw l).map Prod.fst).Pairwise fN
 | [],_=>List.Pairwise.nil
 |m::l,h=>by
  rw[List.map_cons,List.nodup_cons] at h;refine pS (oY h.2) fun x hx e=>h.1 ?_
  rw[<-e];exact List.mem_map_of_mem ((kj l).mem_iff.1 hx)
theorem BJ {l m:List (ByteArray×JV)}(hp:l.Perm m)(hr:(m.map Prod.fst).Pairwise fN):gw l=m:=by
 have hn:(l.map Prod.fst).Nodup:=((hp.map Prod.fst).nodup_iff).2 (hr.imp fun h=>nF h);exact qr ((kj l).trans hp) (oY hn) hr
def Jm:List UInt8:= [123,32,34,98,34,32,58,32,91,49,46,53,48,44,32,49,101,50,93,44,32,34,97,92,117,48,48,54,50,34,32,58,32,110,117,108,108,32,125]
def In:JV:=.mk 6 false ⟨#[]⟩ ⟨false,⟨#[]⟩,0⟩ [⟨#[97,98]⟩,⟨#[98]⟩] [jY,dU [ef ⟨false,⟨#[49,53]⟩,-1⟩,ef ⟨false,⟨#[49]⟩,2⟩]]
theorem DM:fp Jm=some In:=by rfl
theorem Dg:In.txt = [123,34,97,98,34,58,110,117,108,108,44,34,98,34,58,91,49,53,101,45,49,44,49,101,50,93,125]:=by
 have e1:gc (-1) = [101,45,49]:=by
  unfold gc;rw[if_neg (by decide),show(-1:Int) = -((1:Nat):Int) from rfl,Lib.itoa_neg 1 (by decide),Lib.decDigits_one (by decide)];rfl
 have e2:gc 2 = [101,50]:=by
  unfold gc;rw[if_neg (by decide),show(2:Int)= ((2:Nat):Int) from rfl,Lib.itoa_nonneg 2,Lib.decDigits_one (by decide)];rfl
 simp only[In,JV.txt,JV.txts,jY,dU,ef,fo,e1,e2];rfl
theorem AS:fp [49]=some (ef ⟨false,⟨#[49]⟩,0⟩):=by rfl
theorem yU:fp [49,46,48]=some (ef ⟨false,⟨#[49]⟩,0⟩):=by rfl
theorem Af:fp [91,49,44,50,93]=some (dU [ef ⟨false,⟨#[49]⟩,0⟩,ef ⟨false,⟨#[50]⟩,0⟩]):=by rfl
theorem AG:fp [91,49,44,32,50,93]=some (dU [ef ⟨false,⟨#[49]⟩,0⟩,ef ⟨false,⟨#[50]⟩,0⟩]):=by rfl
theorem mX:(dU [ef ⟨false,⟨#[49]⟩,0⟩,ef ⟨false,⟨#[50]⟩,0⟩]).txt = [91,49,44,50,93]:=by rfl
theorem Gs:Tx In:=by
 have hu:∀l:List UInt8,(∀c∈l,c.toNat<128)->dB ⟨l.toArray⟩:=by
  intro l hl;refine⟨l.map fun c=>(c.toNat:Int),?_,?_⟩
  ·intro c hc;obtain⟨x,hx,rfl⟩:=List.mem_map.1 hc;have:=hl x hx;rw[cB];simp;omega
  ·show l=_
   induction l with
   |nil=>rfl
   |cons x l ih=>
    rw[List.map_cons,List.flatMap_cons,<-ih (fun c hc=>hl c (Zl _ hc)),mz _ (hl x (by simp)),UInt8.ofNat_toNat];rfl
 have hn:∀ (l:List UInt8) (x:Int),(∀c∈l,eI c=true)->l≠ []->(∀c,l.head?=some c->c≠48)->(∀c,l.getLast?=some c->c≠48)->(-1000000000<=x/\x<=1000000000)->Tx (ef ⟨false,⟨l.toArray⟩,x⟩):=fun l x h1 h2 h3 h4 h5=>.num _ (.inr ⟨⟨h1,h2,h3,h4⟩,h5⟩)
 refine .obj _ _ rfl ?_ ?_ ?_
 ·intro s hs;simp only[List.mem_cons,List.mem_nil_iff,or_false] at hs;rcases hs with rfl|rfl
  ·exact hu [97,98] (by decide)
  ·exact hu [98] (by decide)
 ·refine List.pairwise_cons.2 ⟨?_,List.pairwise_cons.2 ⟨by simp,List.Pairwise.nil⟩⟩;intro b hb;obtain rfl:=List.mem_singleton.1 hb
  show ay (nm _) (nm _)<0
  rw[show ay (nm ⟨#[97,98]⟩) (nm ⟨#[98]⟩) = -1 from rfl]
  decide
 ·intro u hu;simp only[List.mem_cons,List.mem_nil_iff,or_false] at hu;rcases hu with rfl|rfl
  ·exact .null
  ·refine .list _ fun u hu=>?_
   simp only[List.mem_cons,List.mem_nil_iff,or_false] at hu;rcases hu with rfl|rfl
   ·exact hn [49,53] (-1) (by decide) (by decide) (by decide) (by decide) (by decide)
   ·exact hn [49] 2 (by decide) (by decide) (by decide) (by decide) (by decide)
