import Derived.Test.YtpkdfmjdhmpopaaGreatDoorGZ3as
import Derived.Lib.ItoaMem
set_option linter.unusedVariables false
set_option linter.unusedSimpArgs false
namespace Go.Proofs.YtpkdfmjdhmpopaaGreatDoor
variable {s : ByteArray} {d : Dc} {f : Fr} {j : JV} {frs : List Fr} {ks : List JV} {l xs xs' ys zs : List UInt8} {c k want : Nat}
theorem rG {p:UInt8->Bool}(h:∀n,n<256->p (UInt8.ofNat n)=true)(c:UInt8):p c=true:=by
 have:=h c.toNat c.toNat_lt
 rwa [UInt8.ofNat_toNat] at this
theorem t8 {c:UInt8}(h:eN c=true):bw c=2\/bw c=3:=by
 have:=rG (p:=fun c=> !eN c||(bw c==2||bw c==3)) (by decide +kernel) c;simp [h] at this;exact this
theorem CP {c:UInt8}(h:eN c=true)(h0:c≠48):bw c=3:=by
 have:=rG (p:=fun c=> !eN c||(c==48||bw c==3)) (by decide +kernel) c;simpa [h,h0] using this
def pP (zs:List UInt8):Prop:= ∀c l,zs=c::l->bw c=6
theorem j5 {t:NS}(h:pP zs):aI t zs=t:=by
 cases zs with
 | nil=>rfl
 | cons c l=>
  unfold aI;rw [h c l rfl,if_pos (by simp [eG])]
theorem Ci {s:Nat}(hs:s=3\/s=5\/s=8)(hk:k=2\/k=3):eG s k=s:=by
 rcases hs with rfl | rfl | rfl <;> rcases hk with rfl | rfl <;> rfl
theorem j9 {s:Nat}(hs:s=3\/s=5\/s=8):∀ (ds:List UInt8) (t:NS) (zs:List UInt8),t.st=s->(∀c∈ds,eN c=true)->
  aI t (ds++zs)=aI {neg:=t.neg,down:=t.down,digs:=if s=8 then t.digs else t.digs++ds,part:=if s=5 then t.part+ds.length else t.part,exps:=if s=8 then t.exps++ds else t.exps,st:=t.st,n:=t.n+ds.length} zs
 | [],t,zs,h,_=>by obtain⟨a,b,c,d,e,f,g⟩:=t;simp
 | c::ds,t,zs,h,hd=>by
  have hk:=Ci hs (t8 (hd c (by simp)));rw [<- h] at hk;have h1:aI t (c::ds++zs)=aI (t.next c) (ds++zs):=by
   show aI t (c:: (ds++zs))=_
   conv=>lhs;unfold aI
   rw [hk,h,if_neg (by omega)]
  have hn: (t.next c).st=s:=by show eG t.st (bw c)=s;rw [hk,h]
  rw [h1,j9 hs ds _ zs hn (fun c hc=>hd c (Zl _ hc))];obtain⟨a,b,c',d,e,f,g⟩:=t;simp only at h hk;subst h;simp only [NS.next,hk,List.length_cons];rcases hs with rfl | rfl | rfl <;> simp [Nat.add_assoc,Nat.add_comm 1]
theorem kj {c:UInt8}(h:c≠48):dO (c::l)=c::l:=by
 unfold dO;rw [List.dropWhile_cons,if_neg (by simpa using h)]
theorem vE (h:∀c,l.getLast?=some c->c≠48):mY l=l:=by
 unfold mY
 cases hr:l.reverse with
 | nil=>simp [dO];simpa using hr.symm
 | cons c m=>
  rw [kj (h c (by rw [List.getLast?_eq_head?_reverse,hr];rfl)),<- hr,List.reverse_reverse]
theorem pH (l:List UInt8)(c:UInt8):jB (l ++ [c])=jB l*10+ (c.toNat - 48):=by
 unfold jB;rw [List.foldl_append];rfl
theorem DL (h:k<10): (UInt8.ofNat (48+k)).toNat=48+k:=bM _ (by omega)
theorem xC (h:k<10):eN (UInt8.ofNat (48+k))=true:=by unfold eN;rw [DL h];simp;omega
theorem oX (u:Nat):∀c∈Lib.decDigits u,eN c=true:=by
 induction u using Nat.strongRecOn with
 | ind u ih=>
  rw [Lib.decDigits]
  split
  ·rename_i h
   intro c hc;rw [List.mem_singleton.1 hc];exact xC h
  ·intro c hc
   rcases List.mem_append.1 hc with hc | hc
   ·exact ih (u/10) (by omega) c hc
   ·rw [List.mem_singleton.1 hc];exact xC (by omega)
theorem z7 (u:Nat):jB (Lib.decDigits u)=u:=by
 induction u using Nat.strongRecOn with
 | ind u ih=>
  rw [Lib.decDigits]
  split
  ·rename_i h
   show 0*10+ ((UInt8.ofNat (48+u)).toNat - 48)=u
   rw [DL h];omega
  ·rw [pH,ih (u/10) (by omega),DL (by omega)];omega
theorem nt (u:Nat):∃c l,Lib.decDigits u=c::l/\(0<u->c≠48):=by
 induction u using Nat.strongRecOn with
 | ind u ih=>
  rw [Lib.decDigits]
  split
  ·rename_i h
   refine⟨_, [],rfl,fun h0 e=> ?_⟩;have:=congrArg UInt8.toNat e;rw [DL h] at this;simp at this;omega
  ·obtain⟨c,l,h1,h2⟩:=ih (u/10) (by omega)
   rw [h1];exact⟨c,_,rfl,fun _=>h2 (by omega)⟩
theorem gv {u:Nat}(h:u<=1000000000): (Lib.decDigits u).length<=10:=by
 rw [Lib.decDigits_length];rw [Lib.nDigits];split
 ·omega
 rw [Lib.nDigits];split
 ·omega
 rw [Lib.nDigits];split
 ·omega
 rw [Lib.nDigits];split
 ·omega
 rw [Lib.nDigits];split
 ·omega
 rw [Lib.nDigits];split
 ·omega
 rw [Lib.nDigits];split
 ·omega
 rw [Lib.nDigits];split
 ·omega
 rw [Lib.nDigits];split
 ·omega
 rw [Lib.nDigits];split
 ·omega
 ·omega
def fQ (x:Int):List UInt8:=if x=0 then [] else 101::Lib.itoa x
def eR (d:Dc):List UInt8:=(if d.neg then [45] else [])++ (d.digits.data.toList++fQ d.exp)
structure GB (l:List UInt8):Prop where
 dig:∀c∈l,eN c=true
 ne:l≠ []
 first:∀c,l.head?=some c->c≠48
 Ip:∀c,l.getLast?=some c->c≠48
def jJ (d:Dc):Prop:=d= ⟨false,⟨#[48]⟩,0⟩\/(GB d.digits.data.toList/\ -1000000000<=d.exp/\d.exp<=1000000000)
theorem yj {t:NS}(ht:t.st=3\/t.st=2)(h0:t.exps = [])(hd:t.down=false)(x:Int)(hx: -1000000000<=x/\x<=1000000000)(hz:pP zs) :
  ∃t',aI t (fQ x++zs)=t'/\t'.neg=t.neg/\t'.digs=t.digs/\t'.part=t.part/\t'.n=t.n+ (fQ x).length/\d7 t'.st=true/\fR t'=x:=by
 unfold fQ
 by_cases h:x=0
 ·subst h
  rw [if_pos rfl,List.nil_append,j5 hz];refine⟨t,rfl,rfl,rfl,rfl,rfl, ?_, ?_⟩
  ·rcases ht with h | h <;> rw [h] <;> rfl
  ·unfold fR;rw [h0,hd];simp [dO,jB]
 ·rw [if_neg h]
  have e1:aI t (101::Lib.itoa x++zs)=aI (t.next 101) (Lib.itoa x++zs):=by
   show aI t (101:: (Lib.itoa x++zs))=_
   conv=>lhs;unfold aI
   rw [if_neg (by rcases ht with h | h <;> rw [h] <;> decide)]
  have s1: (t.next 101).st=6:=by simp only [NS.next];rcases ht with h | h <;> rw [h] <;> rfl
  have q1: (t.next 101).neg=t.neg/\(t.next 101).digs=t.digs/\(t.next 101).part=t.part/\(t.next 101).n=t.n+1/\(t.next 101).exps = []/\(t.next 101).down=false:=by
   have s1':=s1;simp only [NS.next] at s1' ⊢;rw [s1'];simp [h0,hd]
  rw [e1];generalize t.next 101=u at s1 q1;obtain⟨k1,k2,k3,k4,k5,k6⟩:=q1
  -- the digits
  have main:∀ (v:NS) (m:Nat),(v.st=6\/v.st=7)->v.exps = []->0<m->m<=1000000000->∃t',aI v (Lib.decDigits m++zs)=t'/\t'.neg=v.neg/\t'.digs=v.digs/\t'.part=v.part/\t'.n=v.n+ (Lib.decDigits m).length/\d7 t'.st=true/\fR t'=if v.down then -(m:Int) else m:=by
   intro v m hv he hm a2;obtain⟨c,l,hc,a1⟩:=nt m;have a0:=oX m;rw [hc] at a0;have hk:=t8 (a0 c (by simp));have g8:eG v.st (bw c)=8:=by rcases hv with h | h <;> rcases hk with h' | h' <;> rw [h,h'] <;> rfl
   have e2:aI v (Lib.decDigits m++zs)=aI (v.next c) (l++zs):=by
    rw [hc]
    show aI v (c:: (l++zs))=_
    conv=>lhs;unfold aI
    rw [g8,if_neg (by omega)]
   have s2: (v.next c).st=8:=by simp only [NS.next];exact g8
   refine⟨_,rfl, ?_⟩;rw [e2,j9 (.inr (.inr rfl)) l _ zs s2 (fun c h=>a0 c (Zl _ h)),j5 hz];have hlen:=gv a2;rw [hc] at hlen;have a4:v.exps ++ [c]++l=Lib.decDigits m:=by rw [he,hc];rfl
   have a3: (v.next c).exps++l=Lib.decDigits m:=by simp only [NS.next,g8];simpa [he] using hc.symm
   refine⟨by simp [NS.next,g8],by simp [NS.next,g8],by simp [NS.next,g8],by simp [NS.next,hc];omega,by show d7 (v.next c).st=true;rw [s2];rfl, ?_⟩;unfold fR;simp only [if_true,a3];have e4: (if(c::l).length<=12 then((jB (c::l):Nat):Int) else 1099511627776)=m:=by rw [if_pos (by omega),<- hc,z7]
   rw [hc,kj (a1 hm),e4];simp [NS.next,g8]
  by_cases hn:x<0
  ·obtain⟨m,rfl⟩:∃m:Nat,x = -(m:Int):=⟨x.natAbs,by omega⟩
   rw [Lib.itoa_neg m (by omega)];have e3:aI u (45::Lib.decDigits m++zs)=aI (u.next 45) (Lib.decDigits m++zs):=by
    show aI u (45:: (Lib.decDigits m++zs))=_
    conv=>lhs;unfold aI
    rw [s1,if_neg (by decide)]
   have g7:eG u.st (bw 45)=7:=by rw [s1];rfl
   obtain⟨t',r1,r2,r3,r4,r5,r6,r7⟩:=main (u.next 45) m (by simp [NS.next,g7]) (by simp [NS.next,g7,k5]) (by omega) (by omega);refine⟨t',by rw [e3,r1], ?_, ?_, ?_, ?_,r6, ?_⟩
   ·rw [r2,<- k1];simp [NS.next,g7]
   ·rw [r3,<- k2];simp [NS.next,g7]
   ·rw [r4,<- k3];simp [NS.next,g7]
   ·rw [r5,show(u.next 45).n=u.n+1 from rfl,k4];simp;omega
   ·rw [r7];simp [NS.next,g7]
  ·obtain⟨m,rfl⟩:∃m:Nat,x= (m:Int):=⟨x.natAbs,by omega⟩
   rw [Lib.itoa_nonneg m];obtain⟨t',r1,r2,r3,r4,r5,r6,r7⟩:=main u m (.inl s1) k5 (by omega) (by omega);exact⟨t',r1,r2.trans k1,r3.trans k2,r4.trans k3,by rw [r5,k4];simp;omega,r6,by rw [r7,k6];simp⟩
theorem uc {x:Int}(h: -1000000000<=x/\x<=1000000000):oa x=x:=by unfold oa;omega
theorem BX (h:jJ d)(hz:pP zs):m8 (eR d++zs)=some (d,(eR d).length):=by
 rcases h with rfl | ⟨hl,hx⟩
 ·have e:eR ⟨false,⟨#[48]⟩,0⟩++zs=48::zs:=rfl
  have e1:aI iq (48::zs)=iq.next 48:=by
   conv=>lhs;unfold aI
   rw [if_neg (by decide),j5 hz]
  simp only [m8,e,e1];rfl
 ·obtain⟨neg,⟨⟨ds⟩⟩,x⟩:=d
  simp only [eR] at hl hx ⊢;obtain⟨hd,hne,hf,a1⟩:=hl
  cases ds with
  | nil=>exact absurd rfl hne
  | cons c l=>
   have a0:=hf c rfl;have hk:=CP (hd c (by simp)) a0;have key:∀v:NS,(v.st=0\/v.st=1)->v.exps = []->v.down=false->v.digs = []->v.part=0->∃t',aI v ((c::l++fQ x)++zs)=t'/\t'.neg=v.neg/\t'.digs=c::l/\t'.part=0/\t'.n=v.n+ (c::l++fQ x).length/\d7 t'.st=true/\fR t'=x:=by
    intro v hv h1 h2 h3 h4;have g3:eG v.st (bw c)=3:=by rcases hv with h | h <;> rw [h,hk] <;> rfl
    have e2:aI v ((c::l++fQ x)++zs)=aI (v.next c) (l++ (fQ x++zs)):=by
     rw [List.append_assoc]
     show aI v (c:: (l++ (fQ x++zs)))=_
     conv=>lhs;unfold aI
     rw [g3,if_neg (by omega)]
    have s2: (v.next c).st=3:=by simp only [NS.next];exact g3
    rw [e2,j9 (.inl rfl) l _ _ s2 (fun c h=>hd c (Zl _ h))];obtain⟨t',r1,r2,r3,r4,r5,r6,r7⟩:=yj (t:={neg:=(v.next c).neg,down:=(v.next c).down,digs:=if 3=8 then(v.next c).digs else(v.next c).digs++l,part:=if 3=5 then(v.next c).part+l.length else(v.next c).part,exps:=if 3=8 then(v.next c).exps++l else(v.next c).exps,st:=(v.next c).st,n:=(v.next c).n+l.length}) (.inl s2) (by simp [NS.next,g3,h1]) (by simp [NS.next,g3,h2]) x hx hz;refine⟨t',r1, ?_, ?_, ?_, ?_,r6,r7⟩
    ·rw [r2];simp [NS.next,g3]
    ·rw [r3];simp [NS.next,g3,h3]
    ·rw [r4];simp [NS.next,g3,h4]
    ·rw [r5];simp [NS.next];omega
   have fin:∀t':NS,t'.neg=neg->t'.digs=c::l->t'.part=0->d7 t'.st=true->fR t'=x->(if d7 t'.st then(ix t'.neg t'.digs (fR t') (-(t'.part:Int))).map fun d=>(d,t'.n) else none)=some (⟨neg,⟨(c::l).toArray⟩,x⟩,t'.n):=by
    intro t' h1 h2 h3 h4 h5;rw [if_pos h4,h1,h2,h3,h5];simp only [ix,kj a0,vE a1,uc hx];simp [hx]
   cases neg with
   | false=>
    obtain⟨t',r1,r2,r3,r4,r5,r6,r7⟩:=key iq (.inl rfl) rfl rfl rfl rfl;simp only [m8,Bool.false_eq_true,if_false,List.nil_append,r1];rw [fin t' r2 r3 r4 r6 r7,r5];simp [iq]
   | true=>
    have e3:aI iq (([45]++ (c::l++fQ x))++zs)=aI (iq.next 45) ((c::l++fQ x)++zs):=by
     show aI iq (45:: ((c::l++fQ x)++zs))=_
     conv=>lhs;unfold aI
     rw [if_neg (by decide)]
    obtain⟨t',r1,r2,r3,r4,r5,r6,r7⟩:=key (iq.next 45) (.inr rfl) rfl rfl rfl rfl;simp only [m8,if_true,e3,r1];rw [fin t' r2 r3 r4 r6 r7,r5];simp [iq,NS.next];omega
def o5 (n:Nat):UInt8:=if n<10 then UInt8.ofNat (48+n) else UInt8.ofNat (87+n)
def cm (c:Int):List UInt8:=
 if c=34 then [92,34] else if c=92 then [92,92] else if c=8 then [92,98] else if c=9 then [92,116] else if c=10 then [92,110] else if c=12 then [92,102] else if c=13 then [92,114]
 else if c<32 then [92,117,48,48,o5 (c.toNat/16),o5 (c.toNat % 16)] else bF c
def jy (cs:List Int):List UInt8:=34:: (cs.flatMap cm ++ [34])
def dD (s:ByteArray):List UInt8:=jy (nm s)
theorem AS (h:dL c=true)(a0:32<=c)(a1:c≠34)(a2:c≠92):∃x l,bF c=x::l/\x≠34/\x≠92/\¬x.toNat<32:=by
 have hr:=h;rw [cR] at h;simp at h
 by_cases h1:c<128
 ·refine⟨_, [],nD c h1, ?_, ?_, ?_⟩
  ·intro e;have:=congrArg UInt8.toNat e;rw [bM _ (by omega)] at this;simp at this;omega
  ·intro e;have:=congrArg UInt8.toNat e;rw [bM _ (by omega)] at this;simp at this;omega
  ·rw [bM _ (by omega)];omega
 ·have key:∃n l,bF c=UInt8.ofNat n::l/\128<=n/\n<256:=by
   by_cases h2:c<2048
   ·exact⟨_,_,sH c ⟨by omega,h2⟩,by omega,by omega⟩
   ·by_cases h3:c<65536
    ·exact⟨_,_,pO c ⟨by omega,h3⟩ (by omega),by omega,by omega⟩
    ·exact⟨_,_,tT c ⟨by omega,by omega⟩,by omega,by omega⟩
  obtain⟨n,l,e,h3,h4⟩:=key;refine⟨_,l,e, ?_, ?_, ?_⟩
  ·intro e;have:=congrArg UInt8.toNat e;rw [bM _ h4] at this;simp at this;omega
  ·intro e;have:=congrArg UInt8.toNat e;rw [bM _ h4] at this;simp at this;omega
  ·rw [bM _ h4];omega
theorem yo (h:dL c=true)(a0:32<=c)(a1:c≠34)(a2:c≠92)(zs:List UInt8):bO (bF c++zs)=some (some (c,(bF c).length)):=by
 obtain⟨x,l,e,h1,h2,h3⟩:=AS h a0 a1 a2;have hd:=ii c h zs;rw [e] at hd ⊢;rw [List.cons_append] at hd ⊢;simp only [bO];rw [if_neg h1,if_neg h2,if_neg h3,hd];rfl
theorem o8 (n:Nat)(h:n<16):ib (o5 n)=some n:=by
 have:∀n,n<16->ib (o5 n)=some n:=by decide +kernel
 exact this n h
theorem o6 (h:dL c=true)(zs:List UInt8):bO (cm c++zs)=some (some (c,(cm c).length)):=by
 unfold cm
 by_cases h34: (c:Int)=34
 ·rw [if_pos h34];obtain rfl:c=34:=by omega
  rfl
 rw [if_neg h34]
 by_cases h92: (c:Int)=92
 ·rw [if_pos h92];obtain rfl:c=92:=by omega
  rfl
 rw [if_neg h92]
 by_cases h8: (c:Int)=8
 ·rw [if_pos h8];obtain rfl:c=8:=by omega
  rfl
 rw [if_neg h8]
 by_cases h9: (c:Int)=9
 ·rw [if_pos h9];obtain rfl:c=9:=by omega
  rfl
 rw [if_neg h9]
 by_cases h10: (c:Int)=10
 ·rw [if_pos h10];obtain rfl:c=10:=by omega
  rfl
 rw [if_neg h10]
 by_cases h12: (c:Int)=12
 ·rw [if_pos h12];obtain rfl:c=12:=by omega
  rfl
 rw [if_neg h12]
 by_cases h13: (c:Int)=13
 ·rw [if_pos h13];obtain rfl:c=13:=by omega
  rfl
 rw [if_neg h13]
 by_cases h32: (c:Int)<32
 ·rw [if_pos h32]
  have e1:=o8 (c/16) (by omega);have e2:=o8 (c % 16) (by omega);have e3:cP (48::48::o5 (c/16)::o5 (c % 16)::zs)=some c:=by
   simp only [cP,e1,e2,show ib 48=some 0 from rfl,bind,pure,Option.bind]
   congr 1;omega
  show bO (92::117::48::48::o5 (c/16)::o5 (c % 16)::zs)=some (some (c,6))
  simp only [bO];rw [if_neg (by decide),if_pos trivial]
  show(j6 (48::48::o5 (c/16)::o5 (c % 16)::zs)).map some=_
  unfold j6;simp only [e3,bind,pure,Option.bind];rw [if_pos (by omega)];rfl
 ·rw [if_neg h32]
  exact yo h (by omega) (by omega) (by omega) zs
theorem Al (h:dL c=true):1<=(cm c).length:=by
 have:=o6 h [];rcases hl:cm c with _ | ⟨x,l⟩
 ·rw [hl] at this;simp [bO] at this
 ·simp
theorem tf:∀ (cs:List Int) (f:Nat) (out:List UInt8) (n:Nat) (zs:List UInt8),(∀c∈cs,dL c=true)->cs.length<f->fP f (cs.flatMap cm++34::zs) out n=some (out++cs.flatMap bF,n+ (cs.flatMap cm).length+1)
 | [],0,_,_,_,_,h=>absurd h (Nat.not_lt_zero _)
 | [],f+1,out,n,zs,_,_=>by
  show fP (f+1) (34::zs) out n=_
  simp [fP,bO]
 | c::cs,0,_,_,_,_,h=>absurd h (Nat.not_lt_zero _)
 | c::cs,f+1,out,n,zs,hc,h=>by
  have h0:=hc c (by simp);obtain⟨k,rfl⟩:∃k:Nat,c=k:=⟨c.toNat,by have:=ej h0;omega⟩;have hp:=o6 h0 (cs.flatMap cm++34::zs);have e: (((k:Int)::cs).flatMap cm++34::zs)=cm k++ (cs.flatMap cm++34::zs):=by simp
  rw [e];unfold fP;rw [hp];simp only [List.drop_left];rw [tf cs f _ _ zs (fun c h=>hc c (Zl _ h)) (by simpa using h)];simp [Nat.add_assoc]
theorem AT {cs:List Int}(hc:∀c∈cs,dL c=true)(zs:List UInt8):me (jy cs++zs)=some (cs.flatMap bF,(jy cs).length):=by
 have hl:∀ {cs:List Int},(∀c∈cs,dL c=true)->cs.length<=(cs.flatMap cm).length:=by
  intro cs
  induction cs with
  | nil=>intro _;simp
  | cons c cs ih=>
   intro hc;have h0:=hc c (by simp);obtain⟨k,rfl⟩:∃k:Nat,c=k:=⟨c.toNat,by have:=ej h0;omega⟩;have:=Al h0;have:=ih (fun c h=>hc c (Zl _ h));rw [List.flatMap_cons,List.length_append,List.length_cons];omega
 have e:jy cs++zs=34:: (cs.flatMap cm++34::zs):=by simp [jy]
 rw [e]
 show fP _ _ [] 1=_
 rw [tf cs _ [] 1 zs hc (by have:=hl hc;rw [List.length_append];omega)];simp [jy];omega
def dy (s:ByteArray):Prop:= ∃cs:List Int,(∀c∈cs,dL c=true)/\s.data.toList=cs.flatMap bF
theorem dy.nm (h:dy s): (∀c∈nm s,dL c=true)/\(nm s).flatMap bF=s.data.toList:=by
 obtain⟨cs,h1,h2⟩:=h;have e:Proofs.YtpkdfmjdhmpopaaGreatDoor.nm s=cs:=by unfold Proofs.YtpkdfmjdhmpopaaGreatDoor.nm;rw [h2];exact ip fN h1
 rw [e];exact⟨h1,h2.symm⟩
theorem nK (h:dy s)(zs:List UInt8):df (dD s++zs)=some (.str s,(dD s).length):=by
 have hq:=AT h.nm.1 zs;have e:dD s++zs=34:: ((Proofs.YtpkdfmjdhmpopaaGreatDoor.nm s).flatMap cm ++ [34]++zs):=by simp [dD,jy]
 have e2:jy (Proofs.YtpkdfmjdhmpopaaGreatDoor.nm s)++zs=34:: ((Proofs.YtpkdfmjdhmpopaaGreatDoor.nm s).flatMap cm ++ [34]++zs):=by simp [jy]
 rw [e2] at hq;rw [e];have hk:bY 34=5:=by decide
 simp only [df,hk,hq,Option.map_some,h.nm.2];rfl
mutual
def JV.txt:JV->List UInt8
 | .mk k t x n ns ks=>if k=1 then [110,117,108,108] else if k=2 then(if t then [116,114,117,101] else [102,97,108,115,101]) else if k=3 then eR n else if k=4 then dD x
  else if k=5 then 91:: (JV.txts false true ns ks ++ [93]) else if k=6 then 123:: (JV.txts true true ns ks ++ [125]) else []
def JV.txts:Bool->Bool->List ByteArray->List JV->List UInt8
 | _,_,_, []=> []
 | o,first,ns,v::vs=>(if first then [] else [44])++ ((if o then dD (ns.headD ⟨#[]⟩) ++ [58] else [])++ (JV.txt v++JV.txts o false ns.tail vs))
end
inductive Tx:JV->Prop
 | null:Tx iM
 | bool (b:Bool):Tx (eI b)
 | num (d:Dc):jJ d->Tx (cY d)
 | text (s:ByteArray):dy s->Tx (dN s)
 | list (ks:List JV): (∀u∈ks,Tx u)->Tx (dl ks)
 | obj (ns:List ByteArray) (ks:List JV):ns.length=ks.length->(∀s∈ns,dy s)->dc ns->(∀u∈ks,Tx u)->Tx (.mk 6 false ⟨#[]⟩ ⟨false,⟨#[]⟩,0⟩ ns ks)
theorem jJ.zero (h:jJ d):ql d:=by
 intro e;rcases h with h | ⟨h, -⟩
 ·exact h
 ·rw [e] at h
  exact absurd rfl (h.first 48 rfl)
theorem Tx.vl (h:Tx j):Vl j:=by
 induction h with
 | null=>exact .null
 | bool b=>exact .bool b
 | num d hd=>exact .num d hd.zero
 | text s _=>exact .text s
 | list ks _ ih=>exact .list ks ih
 | obj ns ks h1 _ _ _ ih=>exact .obj ns ks h1 ih
theorem il:∀ {l:List (ByteArray×JV)},(l.map Prod.fst).Pairwise fM->fB l=l
 | [],_=>rfl
 | m::l,h=>by
  rw [List.map_cons,List.pairwise_cons] at h;have ih:=il h.2
  show qk m (fB l)=_
  rw [ih]
  cases l with
  | nil=>rfl
  | cons x l=>
   have:aG (nm m.1) (nm x.1)<0:=h.1 x.1 (by simp);rw [qk,if_pos this]
theorem cK {c c':de}{x:UInt8}(hk:bY x=2)(h:dm c (.mark x)=some c'):cX c (x::zs) c' zs:=by
 have hb:cD x=false:=by
  cases hx:cD x with
  | false=>rfl
  | true=>simp [bY,hx] at hk
 exact .one (n:=1) hb (by simp only [df,hk]) h
theorem jm (hw:want=0\/want=1)(hb:∀y ys,xs++zs=y::ys->cD y=false)(hx:df (xs++zs)=some (.leaf j,xs.length)):cX ⟨frs,want,none⟩ (xs++zs) (cC frs j) zs:=by
 cases he:xs++zs with
 | nil=>rw [he] at hx;cases hx
 | cons y ys=>
  have h1:=hb y ys he;rw [he] at hx;have h2:=cX.one (c:=⟨frs,want,none⟩) (c':=cC frs j) h1 hx (by rcases hw with rfl | rfl <;> rfl);rw [<- he,List.drop_left] at h2
  rwa [he] at h2
theorem jw (h:jJ d):∃c l,eR d=c::l/\bY c=4:=by
 rcases h with rfl | ⟨hl, -⟩
 ·exact⟨48, [],rfl,by decide⟩
 ·obtain⟨neg,⟨⟨ds⟩⟩,x⟩:=d
  cases neg with
  | true=>exact⟨45,_,rfl,by decide⟩
  | false=>
   cases ds with
   | nil=>exact absurd rfl hl.ne
   | cons c l=>
    refine⟨c,_,rfl, ?_⟩;have:=rG (p:=fun c=> !eN c||bY c==4) (by decide +kernel) c;simpa [hl.dig c (by simp)] using this
theorem D6 {x:UInt8}(h:bY x=k)(hk:k≠1):cD x=false:=by
 cases hx:cD x with
 | false=>rfl
 | true=>simp [bY,hx] at h;omega
theorem BY (h:jJ d)(hz:pP zs):df (eR d++zs)=some (.leaf (cY d),(eR d).length):=by
 have hn:=BX h hz;obtain⟨c,l,e,hk⟩:=jw h;rw [e,List.cons_append] at hn ⊢;simp only [df,hk,hn];rfl
theorem zq (hz:pP zs)(a0:∀c l,zs=c::l->dQ c=false):zs.takeWhile dQ = []:=by
 cases zs with
 | nil=>rfl
 | cons c l=>rw [List.takeWhile_cons,if_neg (by rw [a0 c l rfl];decide)]
def yJ (zs:List UInt8):Prop:= ∀c l,zs=c::l->bw c=6/\dQ c=false
theorem yJ.stop (h:yJ zs):pP zs:=fun c l e=>(h c l e).1
theorem xO {c:UInt8}(h:bw c=6/\dQ c=false):yJ (c::l):=by
 intro a m e;injection e with e _
 rw [<- e];exact h
theorem lr {w:List UInt8}(hw: (w,j)∈ [([110,117,108,108],iM),([116,114,117,101],eI true),([102,97,108,115,101],eI false)])(hz:yJ zs):df (w++zs)=some (.leaf j,w.length):=by
 have h0:zs.takeWhile dQ = []:=zq hz.stop (fun c l e=>(hz c l e).2);simp only [List.mem_cons,List.mem_nil_iff,or_false,Prod.mk.injEq] at hw;have hl:∀ (x:UInt8) (l:List UInt8),(∀c∈l,dQ c=true)->(l++zs).takeWhile dQ=l:=by
  intro x l
  induction l with
  | nil=>intro _;exact h0
  | cons c l ih=>intro h;rw [List.cons_append,List.takeWhile_cons,if_pos (h c (by simp)),ih (fun c hc=>h c (Zl _ hc))]
 rcases hw with ⟨rfl,rfl⟩ | ⟨rfl,rfl⟩ | ⟨rfl,rfl⟩
 ·have:=hl 0 [117,108,108] (by decide)
  show df (110:: ([117,108,108]++zs))=_
  simp only [df,this,show bY 110=3 from by decide];rfl
 ·have:=hl 0 [114,117,101] (by decide)
  show df (116:: ([114,117,101]++zs))=_
  simp only [df,this,show bY 116=3 from by decide];rfl
 ·have:=hl 0 [97,108,115,101] (by decide)
  show df (102:: ([97,108,115,101]++zs))=_
  simp only [df,this,show bY 102=3 from by decide];rfl
def Bc (j:JV):Prop:= ∀ (frs:List Fr) (want:Nat) (zs:List UInt8),(want=0\/want=1)->yJ zs->cX ⟨frs,want,none⟩ (j.txt++zs) (cC frs j) zs
theorem pE (o:Bool)(ns:List ByteArray)(ks:List JV)(c:UInt8)(zs:List UInt8)(hc:bw c=6/\dQ c=false):yJ (JV.txts o false ns ks++c::zs):=by
 cases ks with
 | nil=>exact xO hc
 | cons v vs=>
  have:JV.txts o false ns (v::vs)++c::zs=44:: (((if o then dD (ns.headD ⟨#[]⟩) ++ [58] else [])++ (JV.txt v++JV.txts o false ns.tail vs))++c::zs):=by simp [JV.txts]
  rw [this];exact xO (by decide)
theorem nZ (h:∀u∈ks,Bc u):∀ (frs:List Fr) (its:List JV) (first:Bool) (ns:List ByteArray) (zs:List UInt8),∃w,(w=1\/w=5)/\cX ⟨⟨false,its, [],none⟩::frs,if first then 1 else 5,none⟩ (JV.txts false first ns ks++93::zs) ⟨⟨false,its++ks, [],none⟩::frs,w,none⟩ (93::zs):=by
 induction ks with
 | nil=>intro frs its first ns zs;exact⟨if first then 1 else 5,by cases first <;> simp,by simpa [JV.txts] using cX.refl _ _⟩
 | cons v vs ih=>
  intro frs its first ns zs;have hv:=h v (by simp);have he:=pE false ns.tail vs 93 zs (by decide);obtain⟨w,hw,hr⟩:=ih (fun u hu=>h u (Zl _ hu)) frs (its ++ [v]) false ns.tail zs;refine⟨w,hw, ?_⟩;have e2:its++v::vs=its ++ [v]++vs:=by simp
  rw [e2]
  cases first with
  | true=>
   have e:JV.txts false true ns (v::vs)++93::zs=v.txt++ (JV.txts false false ns.tail vs++93::zs):=by simp [JV.txts]
   rw [e];exact(hv _ 1 _ (.inr rfl) he).trans hr
  | false=>
   have e:JV.txts false false ns (v::vs)++93::zs=44:: (v.txt++ (JV.txts false false ns.tail vs++93::zs)):=by simp [JV.txts]
   rw [e];refine cX.trans (cK (c':=⟨⟨false,its, [],none⟩::frs,0,none⟩) (by decide) rfl) ?_;exact(hv _ 0 _ (.inl rfl) he).trans hr
theorem pt (hw:want=2\/want=3)(hs:dy s)(hn:f.mems.any (fun p=>decide (p.1=s))=false)(zs:List UInt8):cX ⟨f::frs,want,none⟩ (dD s++58::zs) ⟨{f with name:=some s}::frs,0,none⟩ zs:=by
 have hx:=nK hs (58::zs);have e:dD s++58::zs=34:: ((Proofs.YtpkdfmjdhmpopaaGreatDoor.nm s).flatMap cm ++ [34]++58::zs):=by simp [dD,jy]
 have h1:cX ⟨f::frs,want,none⟩ (dD s++58::zs) ⟨{f with name:=some s}::frs,4,none⟩ (58::zs):=by
  rw [e] at hx ⊢;have h2:=cX.one (c:=⟨f::frs,want,none⟩) (c':=⟨{f with name:=some s}::frs,4,none⟩) (by decide) hx (by rcases hw with rfl | rfl <;> simp [dm,hn]);rw [<- e,List.drop_left] at h2
  rwa [e] at h2
 exact h1.trans (cK (by decide) rfl)
theorem pD (h:∀u∈ks,Bc u):∀ (frs:List Fr) (ms:List (ByteArray×JV)) (first:Bool) (ns:List ByteArray) (zs:List UInt8),ns.length=ks.length->(∀s∈ns,dy s)->(ms.map Prod.fst++ns).Pairwise fM->∃w,(w=3\/w=6)/\cX ⟨⟨true, [],ms,none⟩::frs,if first then 3 else 6,none⟩ (JV.txts true first ns ks++125::zs) ⟨⟨true, [],ms++ns.zip ks,none⟩::frs,w,none⟩ (125::zs):=by
 induction ks with
 | nil=>intro frs ms first ns zs hl _ _;exact⟨if first then 3 else 6,by cases first <;> simp,by obtain rfl:=List.eq_nil_of_length_eq_zero hl;simpa [JV.txts] using cX.refl _ _⟩
 | cons v vs ih=>
  intro frs ms first ns zs hl hs hp
  cases ns with
  | nil=>simp at hl
  | cons a ns=>
   have hv:=h v (by simp);have he:=pE true ns vs 125 zs (by decide);obtain⟨w,hw,hr⟩:=ih (fun u hu=>h u (Zl _ hu)) frs (ms ++ [(a,v)]) false ns zs (by simpa using hl) (fun s h=>hs s (Zl _ h)) (by simpa using hp);refine⟨w,hw, ?_⟩;have e2:ms++ (a::ns).zip (v::vs)=ms ++ [(a,v)]++ns.zip vs:=by simp
   rw [e2];have hc:ms.any (fun p=>decide (p.1=a))=false:=by
    rw [List.pairwise_append] at hp;rw [List.any_eq_false];intro p hm;have:=nP (hp.2.2 p.1 (List.mem_map_of_mem hm) a (by simp));simpa using this
   cases first with
   | true=>
    have e:JV.txts true true (a::ns) (v::vs)++125::zs=dD a++58:: (v.txt++ (JV.txts true false ns vs++125::zs)):=by simp [JV.txts]
    rw [e];exact((pt (.inr rfl) (hs a (by simp)) hc _).trans (hv _ 0 _ (.inl rfl) he)).trans hr
   | false=>
    have e:JV.txts true false (a::ns) (v::vs)++125::zs=44:: (dD a++58:: (v.txt++ (JV.txts true false ns vs++125::zs))):=by simp [JV.txts]
    rw [e];refine cX.trans (cK (c':=⟨⟨true, [],ms,none⟩::frs,2,none⟩) (by decide) rfl) ?_;exact((pt (.inl rfl) (hs a (by simp)) hc _).trans (hv _ 0 _ (.inl rfl) he)).trans hr
theorem Tx.goes (h:Tx j):Bc j:=by
 induction h with
 | null=>exact fun frs want zs hw hz=>jm (xs:= [110,117,108,108]) hw (fun y ys e=>by injection e with e _;subst e;rfl) (lr (by simp) hz)
 | bool b=>
  intro frs want zs hw hz
  cases b with
  | true=>exact jm (xs:= [116,114,117,101]) hw (fun y ys e=>by injection e with e _;subst e;rfl) (lr (by simp) hz)
  | false=>exact jm (xs:= [102,97,108,115,101]) hw (fun y ys e=>by injection e with e _;subst e;rfl) (lr (by simp) hz)
 | num d hd=>
  intro frs want zs hw hz;have e: (cY d).txt=eR d:=by simp [cY,JV.txt]
  rw [e];refine jm hw (fun y ys e=> ?_) (BY hd hz.stop);obtain⟨c,l,hc,hk⟩:=jw hd;rw [hc] at e;injection e with e _
  subst e;exact D6 hk (by omega)
 | text s hs=>
  intro frs want zs hw hz;have e: (dN s).txt=dD s:=by simp [dN,JV.txt]
  rw [e];have hx:=nK hs zs;have e:dD s++zs=34:: ((Proofs.YtpkdfmjdhmpopaaGreatDoor.nm s).flatMap cm ++ [34]++zs):=by simp [dD,jy]
  rw [e] at hx ⊢;have h2:=cX.one (c:=⟨frs,want,none⟩) (c':=cC frs (dN s)) (by decide) hx (by rcases hw with rfl | rfl <;> rfl);rw [<- e,List.drop_left] at h2
  rwa [e] at h2
 | list ks _ ih=>
  intro frs want zs hw hz;have e: (dl ks).txt++zs=91:: (JV.txts false true [] ks++93::zs):=by simp [dl,JV.txt]
  rw [e];refine cX.trans (cK (c':=⟨⟨false, [], [],none⟩::frs,1,none⟩) (by decide) (by rcases hw with rfl | rfl <;> rfl)) ?_;obtain⟨w,a0,hr⟩:=nZ ih frs [] true [] zs;refine hr.trans (cK (by decide) ?_);rcases a0 with rfl | rfl <;> rfl
 | obj ns ks hl hs hp _ ih=>
  intro frs want zs hw hz;have e: (JV.mk 6 false ⟨#[]⟩ ⟨false,⟨#[]⟩,0⟩ ns ks).txt++zs=123:: (JV.txts true true ns ks++125::zs):=by simp [JV.txt]
  rw [e];refine cX.trans (cK (c':=⟨⟨true, [], [],none⟩::frs,3,none⟩) (by decide) (by rcases hw with rfl | rfl <;> rfl)) ?_;obtain⟨w,a0,hr⟩:=pD ih frs [] true ns zs hl hs (by simpa [dc] using hp);refine hr.trans (cK (by decide) ?_);have h1:dK ⟨true, [], []++ns.zip ks,none⟩ = .mk 6 false ⟨#[]⟩ ⟨false,⟨#[]⟩,0⟩ ns ks:=by
   have hf: (ns.zip ks).map Prod.fst=ns:=List.map_fst_zip (by omega);have a1: (ns.zip ks).map Prod.snd=ks:=List.map_snd_zip (by omega)
   show kG (fB (ns.zip ks))=_
   rw [il (by rw [hf];exact hp),kG,hf,a1]
  rw [List.nil_append] at h1;rcases a0 with rfl | rfl <;> simp only [dm,wE] <;> simp [h1]
theorem et (h:Tx j):dF j.txt=some j:=by
 have:=h.goes [] 0 [] (.inl rfl) (fun c l e=>by cases e);rw [List.append_nil] at this;exact tD this rfl
def Shut:JV->Prop
 | .mk k _ _ _ _ _=>k=4\/k=5\/k=6
theorem Tx.goes_shut (h:Tx j)(a2:Shut j):∀ (frs:List Fr) (want:Nat) (zs:List UInt8),(want=0\/want=1)->cX ⟨frs,want,none⟩ (j.txt++zs) (cC frs j) zs:=by
 cases h with
 | null | bool | num=>rcases a2 with h | h | h <;> exact absurd h (by decide)
 | text s hs=>
  intro frs want zs hw;have e: (dN s).txt=dD s:=by simp [dN,JV.txt]
  rw [e];have hx:=nK hs zs;have e:dD s++zs=34:: ((Proofs.YtpkdfmjdhmpopaaGreatDoor.nm s).flatMap cm ++ [34]++zs):=by simp [dD,jy]
  rw [e] at hx ⊢;have h2:=cX.one (c:=⟨frs,want,none⟩) (c':=cC frs (dN s)) (by decide) hx (by rcases hw with rfl | rfl <;> rfl);rw [<- e,List.drop_left] at h2
  rwa [e] at h2
 | list ks hk=>
  intro frs want zs hw;have e: (dl ks).txt++zs=91:: (JV.txts false true [] ks++93::zs):=by simp [dl,JV.txt]
  rw [e];refine cX.trans (cK (c':=⟨⟨false, [], [],none⟩::frs,1,none⟩) (by decide) (by rcases hw with rfl | rfl <;> rfl)) ?_;obtain⟨w,a0,hr⟩:=nZ (fun u hu=>(hk u hu).goes) frs [] true [] zs;refine hr.trans (cK (by decide) ?_);rcases a0 with rfl | rfl <;> rfl
 | obj ns ks hl hs hp hk=>
  intro frs want zs hw;have e: (JV.mk 6 false ⟨#[]⟩ ⟨false,⟨#[]⟩,0⟩ ns ks).txt++zs=123:: (JV.txts true true ns ks++125::zs):=by simp [JV.txt]
  rw [e];refine cX.trans (cK (c':=⟨⟨true, [], [],none⟩::frs,3,none⟩) (by decide) (by rcases hw with rfl | rfl <;> rfl)) ?_;obtain⟨w,a0,hr⟩:=pD (fun u hu=>(hk u hu).goes) frs [] true ns zs hl hs (by simpa [dc] using hp);refine hr.trans (cK (by decide) ?_);have h1:dK ⟨true, [], []++ns.zip ks,none⟩ = .mk 6 false ⟨#[]⟩ ⟨false,⟨#[]⟩,0⟩ ns ks:=by
   have hf: (ns.zip ks).map Prod.fst=ns:=List.map_fst_zip (by omega);have a1: (ns.zip ks).map Prod.snd=ks:=List.map_snd_zip (by omega)
   show kG (fB (ns.zip ks))=_
   rw [il (by rw [hf];exact hp),kG,hf,a1]
  rw [List.nil_append] at h1;rcases a0 with rfl | rfl <;> simp only [dm,wE] <;> simp [h1]
theorem ze {f:Nat}{u:JV}(h:kL f ⟨[],7,some j⟩ xs=some u):u=j:=by
 cases f with
 | zero=>cases h
 | succ f=>
  unfold kL at h
  cases he:xs.dropWhile cD with
  | nil=>rw [he] at h;simpa using h.symm
  | cons y ys=>
   rw [he] at h;simp only at h
   cases hl:df (y::ys) with
   | none=>rw [hl] at h;cases h
   | some p=>
    obtain⟨t,n⟩:=p;rw [hl] at h;simp only at h;have:dm ⟨[],7,some j⟩ t=none:=by cases t <;> rfl
    rw [this] at h
    cases h
theorem iW (h:Tx j): (∃c l,j.txt=c::l/\bY c=4/\∃d,j=cY d)\/(∃l,j.txt=110::l/\j=iM)\/(∃l,j.txt=116::l/\j=eI true)\/(∃l,j.txt=102::l/\j=eI false)\/∃c l,j.txt=c::l/\(c=34\/c=91\/c=123)/\Shut j:=by
 cases h with
 | null=>exact .inr (.inl ⟨_,rfl,rfl⟩)
 | bool b=>cases b;exact .inr (.inr (.inr (.inl ⟨_,rfl,rfl⟩)));exact .inr (.inr (.inl ⟨_,rfl,rfl⟩))
 | num d hd=>
  obtain⟨c,l,e,hk⟩:=jw hd;exact .inl ⟨c,l,by simpa [cY,JV.txt] using e,hk,d,rfl⟩
 | text s hs=>exact .inr (.inr (.inr (.inr ⟨34,(Proofs.YtpkdfmjdhmpopaaGreatDoor.nm s).flatMap cm ++ [34],by simp [dN,JV.txt,dD,jy], .inl rfl, .inl rfl⟩)))
 | list ks hk=>exact .inr (.inr (.inr (.inr ⟨91,JV.txts false true [] ks ++ [93],by simp [dl,JV.txt], .inr (.inl rfl), .inr (.inl rfl)⟩)))
 | obj ns ks hl hs hp hk=>exact .inr (.inr (.inr (.inr ⟨123,JV.txts true true ns ks ++ [125],by simp [JV.txt], .inr (.inr rfl), .inr (.inr rfl)⟩)))
theorem vF {v w:JV}(hv:Tx v)(hw:Tx w)(h:w.txt=v.txt++zs):v=w\/(∃d,v=cY d)/\∃d,w=cY d:=by
 rcases iW hv with ⟨c,l,e,hk,hd⟩ | ⟨l,e,rfl⟩ | ⟨l,e,rfl⟩ | ⟨l,e,rfl⟩ | ⟨c,l,e,hc,hs⟩
 ·rcases iW hw with ⟨c',l',e',a1,a2⟩ | ⟨l',e',rfl⟩ | ⟨l',e',rfl⟩ | ⟨l',e',rfl⟩ | ⟨c',l',e',a0,a3⟩
  ·exact .inr ⟨hd,a2⟩
  all_goals
   rw [e,e'] at h;injection h with h1 _
   subst h1
   first
    | exact absurd hk (by decide)
    | (rcases a0 with rfl | rfl | rfl <;> exact absurd hk (by decide))
 ·rcases iW hw with ⟨c',l',e',a1,a2⟩ | ⟨l',e',rfl⟩ | ⟨l',e',rfl⟩ | ⟨l',e',rfl⟩ | ⟨c',l',e',a0,a3⟩
  ·rw [e,e'] at h;injection h with h1 _;subst h1;exact absurd a1 (by decide)
  ·exact .inl rfl
  ·rw [e,e'] at h;injection h with h1 _;exact absurd h1 (by decide)
  ·rw [e,e'] at h;injection h with h1 _;exact absurd h1 (by decide)
  ·rw [e,e'] at h;injection h with h1 _;subst h1;rcases a0 with h | h | h <;> exact absurd h (by decide)
 ·rcases iW hw with ⟨c',l',e',a1,a2⟩ | ⟨l',e',rfl⟩ | ⟨l',e',rfl⟩ | ⟨l',e',rfl⟩ | ⟨c',l',e',a0,a3⟩
  ·rw [e,e'] at h;injection h with h1 _;subst h1;exact absurd a1 (by decide)
  ·rw [e,e'] at h;injection h with h1 _;exact absurd h1 (by decide)
  ·exact .inl rfl
  ·rw [e,e'] at h;injection h with h1 _;exact absurd h1 (by decide)
  ·rw [e,e'] at h;injection h with h1 _;subst h1;rcases a0 with h | h | h <;> exact absurd h (by decide)
 ·rcases iW hw with ⟨c',l',e',a1,a2⟩ | ⟨l',e',rfl⟩ | ⟨l',e',rfl⟩ | ⟨l',e',rfl⟩ | ⟨c',l',e',a0,a3⟩
  ·rw [e,e'] at h;injection h with h1 _;subst h1;exact absurd a1 (by decide)
  ·rw [e,e'] at h;injection h with h1 _;exact absurd h1 (by decide)
  ·rw [e,e'] at h;injection h with h1 _;exact absurd h1 (by decide)
  ·exact .inl rfl
  ·rw [e,e'] at h;injection h with h1 _;subst h1;rcases a0 with h | h | h <;> exact absurd h (by decide)
 ·have h1:=et hw
  rw [h] at h1;have h2:=hv.goes_shut hs [] 0 zs (.inl rfl);unfold dF at h1;rw [pe h2] at h1;exact .inl (ze h1).symm
theorem DZ {v w:JV}(hv:Tx v)(hw:Tx w)(h:v.txt=w.txt):v=w:=by
 have h1:=et hv;rw [h,et hw] at h1;exact(Zh h1).symm
def jC (xs ys:List UInt8):Prop:=xs.dropWhile cD=ys.dropWhile cD
theorem jC.refl (xs:List UInt8):jC xs xs:=rfl
theorem jC.trans (h:jC xs ys)(k:jC ys zs):jC xs zs:=Eq.trans h k
theorem cX.same {c c':de}(h:cX c xs c' ys)(hs:jC xs' xs):∃ys',jC ys' ys/\cX c xs' c' ys':=by
 cases h with
 | refl=>exact⟨xs',hs, .refl _ _⟩
 | step h1 h2 h3 h4=>exact⟨ys,rfl, .step (Eq.trans hs h1) h2 h3 h4⟩
theorem cX.then {a b c:de}{ys':List UInt8}(h:cX a xs b ys')(hs:jC ys' ys)(k:cX b ys c zs):∃zs',jC zs' zs/\cX a xs c zs':=by
 obtain⟨z,h1,h2⟩:=k.same hs;exact⟨z,h1,h.trans h2⟩
theorem lk (m:ByteArray×JV):∀l,(qk m l).Perm (m::l)
 | []=>List.Perm.refl _
 | x::l=>by
  unfold qk
  split
  ·exact List.Perm.refl _
  ·exact((lk m l).cons x).trans (List.Perm.swap m x l)
theorem kk:∀l,(fB l).Perm l
 | []=>List.Perm.refl _
 | m::l=>(lk m (fB l)).trans ((kk l).cons m)
theorem pG {m:ByteArray×JV}:∀ {l:List (ByteArray×JV)},(l.map Prod.fst).Pairwise fM->(∀x∈l,x.1≠m.1)->((qk m l).map Prod.fst).Pairwise fM
 | [],_,_=>by simp [qk]
 | x::l,h,hn=>by
  unfold qk;rw [List.map_cons,List.pairwise_cons] at h
  split
  ·rename_i hlt
   rw [List.map_cons,List.map_cons,List.pairwise_cons,List.pairwise_cons];refine⟨fun b hb=> ?_,h⟩;rcases List.mem_cons.1 hb with rfl | hb
   ·exact hlt
   ·exact gO hlt (h.1 b hb)
  ·rename_i hlt
   have hx:fM x.1 m.1:=js hlt (fun e=>hn x (by simp) e.symm);rw [List.map_cons,List.pairwise_cons];refine⟨fun b hb=> ?_,pG h.2 (fun y hy=>hn y (Zl _ hy))⟩;obtain⟨y,hy,rfl⟩:=List.mem_map.1 hb;rcases List.mem_cons.1 ((lk m l).mem_iff.1 hy) with rfl | hy
   ·exact hx
   ·exact h.1 y.1 (List.mem_map_of_mem hy)
theorem nu:∀ {l:List (ByteArray×JV)},(l.map Prod.fst).Nodup->((fB l).map Prod.fst).Pairwise fM
 | [],_=>List.Pairwise.nil
 | m::l,h=>by
  rw [List.map_cons,List.nodup_cons] at h;refine pG (nu h.2) fun x hx e=>h.1 ?_
  rw [<- e];exact List.mem_map_of_mem ((kk l).mem_iff.1 hx)
theorem BC {l m:List (ByteArray×JV)}(hp:l.Perm m)(hr: (m.map Prod.fst).Pairwise fM):fB l=m:=by
 have hn: (l.map Prod.fst).Nodup:=((hp.map Prod.fst).nodup_iff).2 (hr.imp fun h=>nP h);exact pJ ((kk l).trans hp) (nu hn) hr
