import Derived.Test.YtibmppoeeppnoaaGreatDoorGZ4as
import Derived.Lib.ItoaMem
set_option linter.unusedVariables false
set_option linter.unusedSimpArgs false
set_option maxRecDepth 100000
namespace Go.Proofs.YtibmppoeeppnoaaGreatDoor
variable {s:ByteArray}{d:Dc}{f:Fr}{j:JV}{frs:List Fr}{ks:List JV}{l xs xs' ys zs:List UInt8}{c k want:Nat}
theorem ti {p:UInt8->Bool}(h:∀n,n<256->p (UInt8.ofNat n)=true)(c:UInt8):p c=true:=by
 have:=h c.toNat c.toNat_lt
 rwa[UInt8.ofNat_toNat] at this
theorem sS {c:UInt8}(h:eH c=true):bu c=2\/bu c=3:=by
 have:=ti (p:=fun c=> !eH c||(bu c==2||bu c==3)) (by decide +kernel) c;simp[h] at this;exact this
theorem EH {c:UInt8}(h:eH c=true)(h0:c≠48):bu c=3:=by
 have:=ti (p:=fun c=> !eH c||(c==48||bu c==3)) (by decide +kernel) c;simpa [h,h0] using this
def py (zs:List UInt8):Prop:= ∀c l,zs=c::l->bu c=6
theorem jT {t:NS}(h:py zs):ay t zs=t:=by
 cases zs with
 |nil=>rfl
 |cons c l=>
  unfold ay;rw[h c l rfl,if_pos (by simp[ew])]
theorem AB {s:Nat}(hs:s=3\/s=5\/s=8)(hk:k=2\/k=3):ew s k=s:=by
 rcases hs with rfl|rfl|rfl <;> rcases hk with rfl|rfl <;> rfl
theorem j5 {s:Nat}(hs:s=3\/s=5\/s=8):∀ (ds:List UInt8) (t:NS) (zs:List UInt8),t.st=s->(∀c∈ds,eH c=true)->
  ay t (ds++zs)=ay {neg:=t.neg,down:=t.down,digs:=if s=8 then t.digs else t.digs++ds,part:=if s=5 then t.part+ds.length else t.part,exps:=if s=8 then t.exps++ds else t.exps,st:=t.st,n:=t.n+ds.length} zs
 | [],t,zs,h,_=>by obtain⟨a,b,c,d,e,f,g⟩:=t;simp
 |c::ds,t,zs,h,hd=>by
  have hk:=AB hs (sS (hd c (by simp)));rw[<-h] at hk;have h1:ay t (c::ds++zs)=ay (t.next c) (ds++zs):=by
   show ay t (c:: (ds++zs))=_
   conv=>lhs;unfold ay
   rw[hk,h,if_neg (by omega)]
  have hn:(t.next c).st=s:=by show ew t.st (bu c)=s;rw[hk,h]
  rw[h1,j5 hs ds _ zs hn (fun c hc=>hd c (Zl _ hc))];obtain⟨a,b,c',d,e,f,g⟩:=t;simp only at h hk;subst h;simp only[NS.next,hk,List.length_cons];rcases hs with rfl|rfl|rfl <;> simp[Nat.add_assoc,Nat.add_comm 1]
theorem jN {c:UInt8}(h:c≠48):dG (c::l)=c::l:=by
 unfold dG;rw[List.dropWhile_cons,if_neg (by simpa using h)]
theorem vy (h:∀c,l.getLast?=some c->c≠48):nL l=l:=by
 unfold nL
 cases hr:l.reverse with
 |nil=>simp[dG];simpa using hr.symm
 |cons c m=>
  rw[jN (h c (by rw[List.getLast?_eq_head?_reverse,hr];rfl)),<-hr,List.reverse_reverse]
theorem ph (l:List UInt8)(c:UInt8):jt (l ++ [c])=jt l*10+ (c.toNat - 48):=by
 unfold jt;rw[List.foldl_append];rfl
theorem EA (h:k<10):(UInt8.ofNat (48+k)).toNat=48+k:=bI _ (by omega)
theorem yC (h:k<10):eH (UInt8.ofNat (48+k))=true:=by unfold eH;rw[EA h];simp;omega
theorem pe (u:Nat):∀c∈Lib.decDigits u,eH c=true:=by
 induction u using Nat.strongRecOn with
 |ind u ih=>
  rw[Lib.decDigits]
  split
  ·rename_i h
   intro c hc;rw[List.mem_singleton.1 hc];exact yC h
  ·intro c hc;rcases List.mem_append.1 hc with hc|hc
   ·exact ih (u/10) (by omega) c hc
   ·rw[List.mem_singleton.1 hc];exact yC (by omega)
theorem Bh (u:Nat):jt (Lib.decDigits u)=u:=by
 induction u using Nat.strongRecOn with
 |ind u ih=>
  rw[Lib.decDigits]
  split
  ·rename_i h
   show 0*10+ ((UInt8.ofNat (48+u)).toNat - 48)=u
   rw[EA h];omega
  ·rw[ph,ih (u/10) (by omega),EA (by omega)];omega
theorem n7 (u:Nat):∃c l,Lib.decDigits u=c::l/\(0<u->c≠48):=by
 induction u using Nat.strongRecOn with
 |ind u ih=>
  rw[Lib.decDigits]
  split
  ·rename_i h
   refine⟨_, [],rfl,fun h0 e=>?_⟩;have:=congrArg UInt8.toNat e;rw[EA h] at this;simp at this;omega
  ·obtain⟨c,l,h1,h2⟩:=ih (u/10) (by omega);rw[h1];exact⟨c,_,rfl,fun _=>h2 (by omega)⟩
theorem ga {u:Nat}(h:u<=1000000000):(Lib.decDigits u).length<=10:=by
 rw[Lib.decDigits_length];rw[Lib.nDigits];split
 ·omega
 rw[Lib.nDigits];split
 ·omega
 rw[Lib.nDigits];split
 ·omega
 rw[Lib.nDigits];split
 ·omega
 rw[Lib.nDigits];split
 ·omega
 rw[Lib.nDigits];split
 ·omega
 rw[Lib.nDigits];split
 ·omega
 rw[Lib.nDigits];split
 ·omega
 rw[Lib.nDigits];split
 ·omega
 rw[Lib.nDigits];split
 ·omega
 ·omega
def fN (x:Int):List UInt8:=if x=0 then [] else 101::Lib.itoa x
def eN (d:Dc):List UInt8:=(if d.neg then [45] else [])++ (d.digits.data.toList++fN d.exp)
structure GE (l:List UInt8):Prop where
 dig:∀c∈l,eH c=true
 ne:l≠ []
 first:∀c,l.head?=some c->c≠48
 qB:∀c,l.getLast?=some c->c≠48
def jy (d:Dc):Prop:=d= ⟨false,⟨#[48]⟩,0⟩\/(GE d.digits.data.toList/\ -1000000000<=d.exp/\d.exp<=1000000000)
theorem zX {t:NS}(ht:t.st=3\/t.st=2)(h0:t.exps = [])(hd:t.down=false)(x:Int)(hx: -1000000000<=x/\x<=1000000000)(hz:py zs) :
  ∃t',ay t (fN x++zs)=t'/\t'.neg=t.neg/\t'.digs=t.digs/\t'.part=t.part/\t'.n=t.n+ (fN x).length/\dX t'.st=true/\fK t'=x:=by
 unfold fN
 by_cases h:x=0
 ·subst h;rw[if_pos rfl,List.nil_append,jT hz];refine⟨t,rfl,rfl,rfl,rfl,rfl,?_,?_⟩
  ·rcases ht with h|h <;> rw[h] <;> rfl
  ·unfold fK;rw[h0,hd];simp[dG,jt]
 ·rw[if_neg h];have e1:ay t (101::Lib.itoa x++zs)=ay (t.next 101) (Lib.itoa x++zs):=by
   show ay t (101:: (Lib.itoa x++zs))=_
   conv=>lhs;unfold ay
   rw[if_neg (by rcases ht with h|h <;> rw[h] <;> decide)]
  have s1:(t.next 101).st=6:=by simp only[NS.next];rcases ht with h|h <;> rw[h] <;> rfl
  have q1:(t.next 101).neg=t.neg/\(t.next 101).digs=t.digs/\(t.next 101).part=t.part/\(t.next 101).n=t.n+1/\(t.next 101).exps = []/\(t.next 101).down=false:=by
   have s1':=s1;simp only[NS.next] at s1' ⊢;rw[s1'];simp[h0,hd]
  rw[e1];generalize t.next 101=u at s1 q1;obtain⟨k1,k2,k3,k4,k5,k6⟩:=q1
  -- the digits
  have main:∀ (v:NS) (m:Nat),(v.st=6\/v.st=7)->v.exps = []->0<m->m<=1000000000->∃t',ay v (Lib.decDigits m++zs)=t'/\t'.neg=v.neg/\t'.digs=v.digs/\t'.part=v.part/\t'.n=v.n+ (Lib.decDigits m).length/\dX t'.st=true/\fK t'=if v.down then -(m:Int) else m:=by
   intro v m hv he hm a3;obtain⟨c,l,hc,a1⟩:=n7 m;have a0:=pe m;rw[hc] at a0;have hk:=sS (a0 c (by simp));have g8:ew v.st (bu c)=8:=by rcases hv with h|h <;> rcases hk with h'|h' <;> rw[h,h'] <;> rfl
   have e2:ay v (Lib.decDigits m++zs)=ay (v.next c) (l++zs):=by
    rw[hc]
    show ay v (c:: (l++zs))=_
    conv=>lhs;unfold ay
    rw[g8,if_neg (by omega)]
   have s2:(v.next c).st=8:=by simp only[NS.next];exact g8
   refine⟨_,rfl,?_⟩;rw[e2,j5 (.inr (.inr rfl)) l _ zs s2 (fun c h=>a0 c (Zl _ h)),jT hz];have hlen:=ga a3;rw[hc] at hlen;have a4:v.exps ++ [c]++l=Lib.decDigits m:=by rw[he,hc];rfl
   have a2:(v.next c).exps++l=Lib.decDigits m:=by simp only[NS.next,g8];simpa [he] using hc.symm
   refine⟨by simp[NS.next,g8],by simp[NS.next,g8],by simp[NS.next,g8],by simp[NS.next,hc];omega,by show dX (v.next c).st=true;rw[s2];rfl,?_⟩;unfold fK;simp only[if_true,a2];have e4:(if(c::l).length<=12 then((jt (c::l):Nat):Int) else 1099511627776)=m:=by rw[if_pos (by omega),<-hc,Bh]
   rw[hc,jN (a1 hm),e4];simp[NS.next,g8]
  by_cases hn:x<0
  ·obtain⟨m,rfl⟩:∃m:Nat,x = -(m:Int):=⟨x.natAbs,by omega⟩;rw[Lib.itoa_neg m (by omega)];have e3:ay u (45::Lib.decDigits m++zs)=ay (u.next 45) (Lib.decDigits m++zs):=by
    show ay u (45:: (Lib.decDigits m++zs))=_
    conv=>lhs;unfold ay
    rw[s1,if_neg (by decide)]
   have g7:ew u.st (bu 45)=7:=by rw[s1];rfl
   obtain⟨t',r1,r2,r3,r4,r5,r6,r7⟩:=main (u.next 45) m (by simp[NS.next,g7]) (by simp[NS.next,g7,k5]) (by omega) (by omega);refine⟨t',by rw[e3,r1],?_,?_,?_,?_,r6,?_⟩
   ·rw[r2,<-k1];simp[NS.next,g7]
   ·rw[r3,<-k2];simp[NS.next,g7]
   ·rw[r4,<-k3];simp[NS.next,g7]
   ·rw[r5,show(u.next 45).n=u.n+1 from rfl,k4];simp;omega
   ·rw[r7];simp[NS.next,g7]
  ·obtain⟨m,rfl⟩:∃m:Nat,x= (m:Int):=⟨x.natAbs,by omega⟩;rw[Lib.itoa_nonneg m];obtain⟨t',r1,r2,r3,r4,r5,r6,r7⟩:=main u m (.inl s1) k5 (by omega) (by omega);exact⟨t',r1,r2.trans k1,r3.trans k2,r4.trans k3,by rw[r5,k4];simp;omega,r6,by rw[r7,k6];simp⟩
theorem tC {x:Int}(h: -1000000000<=x/\x<=1000000000):oy x=x:=by unfold oy;omega
theorem BC (h:jy d)(hz:py zs):nK (eN d++zs)=some (d,(eN d).length):=by
 rcases h with rfl|⟨hl,hx⟩
 ·have e:eN ⟨false,⟨#[48]⟩,0⟩++zs=48::zs:=rfl;have e1:ay ib (48::zs)=ib.next 48:=by
   conv=>lhs;unfold ay
   rw[if_neg (by decide),jT hz]
  simp only[nK,e,e1];rfl
 ·obtain⟨neg,⟨⟨ds⟩⟩,x⟩:=d;simp only[eN] at hl hx ⊢;obtain⟨hd,hne,hf,a1⟩:=hl
  cases ds with
  |nil=>exact absurd rfl hne
  |cons c l=>
   have a0:=hf c rfl;have hk:=EH (hd c (by simp)) a0;have key:∀v:NS,(v.st=0\/v.st=1)->v.exps = []->v.down=false->v.digs = []->v.part=0->∃t',ay v ((c::l++fN x)++zs)=t'/\t'.neg=v.neg/\t'.digs=c::l/\t'.part=0/\t'.n=v.n+ (c::l++fN x).length/\dX t'.st=true/\fK t'=x:=by
    intro v hv h1 h2 h3 h4;have g3:ew v.st (bu c)=3:=by rcases hv with h|h <;> rw[h,hk] <;> rfl
    have e2:ay v ((c::l++fN x)++zs)=ay (v.next c) (l++ (fN x++zs)):=by
     rw[List.append_assoc]
     show ay v (c:: (l++ (fN x++zs)))=_
     conv=>lhs;unfold ay
     rw[g3,if_neg (by omega)]
    have s2:(v.next c).st=3:=by simp only[NS.next];exact g3
    rw[e2,j5 (.inl rfl) l _ _ s2 (fun c h=>hd c (Zl _ h))];obtain⟨t',r1,r2,r3,r4,r5,r6,r7⟩:=zX (t:={neg:=(v.next c).neg,down:=(v.next c).down,digs:=if 3=8 then(v.next c).digs else(v.next c).digs++l,part:=if 3=5 then(v.next c).part+l.length else(v.next c).part,exps:=if 3=8 then(v.next c).exps++l else(v.next c).exps,st:=(v.next c).st,n:=(v.next c).n+l.length}) (.inl s2) (by simp[NS.next,g3,h1]) (by simp[NS.next,g3,h2]) x hx hz;refine⟨t',r1,?_,?_,?_,?_,r6,r7⟩
    ·rw[r2];simp[NS.next,g3]
    ·rw[r3];simp[NS.next,g3,h3]
    ·rw[r4];simp[NS.next,g3,h4]
    ·rw[r5];simp[NS.next];omega
   have fin:∀t':NS,t'.neg=neg->t'.digs=c::l->t'.part=0->dX t'.st=true->fK t'=x->(if dX t'.st then(it t'.neg t'.digs (fK t') (-(t'.part:Int))).map fun d=>(d,t'.n) else none)=some (⟨neg,⟨(c::l).toArray⟩,x⟩,t'.n):=by
    intro t' h1 h2 h3 h4 h5;rw[if_pos h4,h1,h2,h3,h5];simp only[it,jN a0,vy a1,tC hx];simp[hx]
   cases neg with
   |false=>
    obtain⟨t',r1,r2,r3,r4,r5,r6,r7⟩:=key ib (.inl rfl) rfl rfl rfl rfl;simp only[nK,Bool.false_eq_true,if_false,List.nil_append,r1];rw[fin t' r2 r3 r4 r6 r7,r5];simp[ib]
   |true=>
    have e3:ay ib (([45]++ (c::l++fN x))++zs)=ay (ib.next 45) ((c::l++fN x)++zs):=by
     show ay ib (45:: ((c::l++fN x)++zs))=_
     conv=>lhs;unfold ay
     rw[if_neg (by decide)]
    obtain⟨t',r1,r2,r3,r4,r5,r6,r7⟩:=key (ib.next 45) (.inr rfl) rfl rfl rfl rfl;simp only[nK,if_true,e3,r1];rw[fin t' r2 r3 r4 r6 r7,r5];simp[ib,NS.next];omega
def oW (n:Nat):UInt8:=if n<10 then UInt8.ofNat (48+n) else UInt8.ofNat (87+n)
def cG (c:Int):List UInt8:=
 if c=34 then [92,34] else if c=92 then [92,92] else if c=8 then [92,98] else if c=9 then [92,116] else if c=10 then [92,110] else if c=12 then [92,102] else if c=13 then [92,114]
 else if c<32 then [92,117,48,48,oW (c.toNat/16),oW (c.toNat % 16)] else bD c
def kK (cs:List Int):List UInt8:=34:: (cs.flatMap cG ++ [34])
def dJ (s:ByteArray):List UInt8:=kK (nm s)
theorem Dd (h:dF c=true)(a1:32<=c)(a0:c≠34)(a2:c≠92):∃x l,bD c=x::l/\x≠34/\x≠92/\¬x.toNat<32:=by
 have hr:=h;rw[cL] at h;simp at h
 by_cases h1:c<128
 ·refine⟨_, [],oF c h1,?_,?_,?_⟩
  ·intro e;have:=congrArg UInt8.toNat e;rw[bI _ (by omega)] at this;simp at this;omega
  ·intro e;have:=congrArg UInt8.toNat e;rw[bI _ (by omega)] at this;simp at this;omega
  ·rw[bI _ (by omega)];omega
 ·have key:∃n l,bD c=UInt8.ofNat n::l/\128<=n/\n<256:=by
   by_cases h2:c<2048
   ·exact⟨_,_,rT c ⟨by omega,h2⟩,by omega,by omega⟩
   ·by_cases h3:c<65536
    ·exact⟨_,_,pK c ⟨by omega,h3⟩ (by omega),by omega,by omega⟩
    ·exact⟨_,_,tS c ⟨by omega,by omega⟩,by omega,by omega⟩
  obtain⟨n,l,e,h3,h4⟩:=key;refine⟨_,l,e,?_,?_,?_⟩
  ·intro e;have:=congrArg UInt8.toNat e;rw[bI _ h4] at this;simp at this;omega
  ·intro e;have:=congrArg UInt8.toNat e;rw[bI _ h4] at this;simp at this;omega
  ·rw[bI _ h4];omega
theorem zU (h:dF c=true)(a0:32<=c)(a1:c≠34)(a2:c≠92)(zs:List UInt8):bL (bD c++zs)=some (some (c,(bD c).length)):=by
 obtain⟨x,l,e,h1,h2,h3⟩:=Dd h a0 a1 a2;have hd:=gX c h zs;rw[e] at hd ⊢;rw[List.cons_append] at hd ⊢;simp only[bL];rw[if_neg h1,if_neg h2,if_neg h3,hd];rfl
theorem pS (n:Nat)(h:n<16):ic (oW n)=some n:=by
 have:∀n,n<16->ic (oW n)=some n:=by decide +kernel
 exact this n h
theorem pE (h:dF c=true)(zs:List UInt8):bL (cG c++zs)=some (some (c,(cG c).length)):=by
 unfold cG
 by_cases h34:(c:Int)=34
 ·rw[if_pos h34];obtain rfl:c=34:=by omega
  rfl
 rw[if_neg h34]
 by_cases h92:(c:Int)=92
 ·rw[if_pos h92];obtain rfl:c=92:=by omega
  rfl
 rw[if_neg h92]
 by_cases h8:(c:Int)=8
 ·rw[if_pos h8];obtain rfl:c=8:=by omega
  rfl
 rw[if_neg h8]
 by_cases h9:(c:Int)=9
 ·rw[if_pos h9];obtain rfl:c=9:=by omega
  rfl
 rw[if_neg h9]
 by_cases h10:(c:Int)=10
 ·rw[if_pos h10];obtain rfl:c=10:=by omega
  rfl
 rw[if_neg h10]
 by_cases h12:(c:Int)=12
 ·rw[if_pos h12];obtain rfl:c=12:=by omega
  rfl
 rw[if_neg h12]
 by_cases h13:(c:Int)=13
 ·rw[if_pos h13];obtain rfl:c=13:=by omega
  rfl
 rw[if_neg h13]
 by_cases h32:(c:Int)<32
 ·rw[if_pos h32];have e1:=pS (c/16) (by omega);have e2:=pS (c % 16) (by omega);have e3:cJ (48::48::oW (c/16)::oW (c % 16)::zs)=some c:=by
   simp only[cJ,e1,e2,show ic 48=some 0 from rfl,bind,pure,Option.bind]
   congr 1;omega
  show bL (92::117::48::48::oW (c/16)::oW (c % 16)::zs)=some (some (c,6))
  simp only[bL];rw[if_neg (by decide),if_pos trivial]
  show(jW (48::48::oW (c/16)::oW (c % 16)::zs)).map some=_
  unfold jW;simp only[e3,bind,pure,Option.bind];rw[if_pos (by omega)];rfl
 ·rw[if_neg h32];exact zU h (by omega) (by omega) (by omega) zs
theorem C7 (h:dF c=true):1<=(cG c).length:=by
 have:=pE h [];rcases hl:cG c with _|⟨x,l⟩
 ·rw[hl] at this;simp[bL] at this
 ·simp
theorem uD:∀ (cs:List Int) (f:Nat) (out:List UInt8) (n:Nat) (zs:List UInt8),(∀c∈cs,dF c=true)->cs.length<f->fL f (cs.flatMap cG++34::zs) out n=some (out++cs.flatMap bD,n+ (cs.flatMap cG).length+1)
 | [],0,_,_,_,_,h=>absurd h (Nat.not_lt_zero _)
 | [],f+1,out,n,zs,_,_=>by
  show fL (f+1) (34::zs) out n=_
  simp[fL,bL]
 |c::cs,0,_,_,_,_,h=>absurd h (Nat.not_lt_zero _)
 |c::cs,f+1,out,n,zs,hc,h=>by
  have h0:=hc c (by simp);obtain⟨k,rfl⟩:∃k:Nat,c=k:=⟨c.toNat,by have:=eb h0;omega⟩;have hp:=pE h0 (cs.flatMap cG++34::zs);have e:(((k:Int)::cs).flatMap cG++34::zs)=cG k++ (cs.flatMap cG++34::zs):=by simp
  rw[e];unfold fL;rw[hp];simp only[List.drop_left];rw[uD cs f _ _ zs (fun c h=>hc c (Zl _ h)) (by simpa using h)];simp[Nat.add_assoc]
theorem Cp {cs:List Int}(hc:∀c∈cs,dF c=true)(zs:List UInt8):mm (kK cs++zs)=some (cs.flatMap bD,(kK cs).length):=by
 have hl:∀ {cs:List Int},(∀c∈cs,dF c=true)->cs.length<=(cs.flatMap cG).length:=by
  intro cs
  induction cs with
  |nil=>intro _;simp
  |cons c cs ih=>
   intro hc;have h0:=hc c (by simp);obtain⟨k,rfl⟩:∃k:Nat,c=k:=⟨c.toNat,by have:=eb h0;omega⟩;have:=C7 h0;have:=ih (fun c h=>hc c (Zl _ h));rw[List.flatMap_cons,List.length_append,List.length_cons];omega
 have e:kK cs++zs=34:: (cs.flatMap cG++34::zs):=by simp[kK]
 rw[e]
 show fL _ _ [] 1=_
 rw[uD cs _ [] 1 zs hc (by have:=hl hc;rw[List.length_append];omega)];simp[kK];omega
def dq (s:ByteArray):Prop:= ∃cs:List Int,(∀c∈cs,dF c=true)/\s.data.toList=cs.flatMap bD
theorem dq.nm (h:dq s):(∀c∈nm s,dF c=true)/\(nm s).flatMap bD=s.data.toList:=by
 obtain⟨cs,h1,h2⟩:=h;have e:Proofs.YtibmppoeeppnoaaGreatDoor.nm s=cs:=by unfold Proofs.YtibmppoeeppnoaaGreatDoor.nm;rw[h2];exact gT fJ h1
 rw[e];exact⟨h1,h2.symm⟩
theorem sG (h:dq s)(zs:List UInt8):dm (dJ s++zs)=some (.str s,(dJ s).length):=by
 have hq:=Cp h.nm.1 zs;have e:dJ s++zs=34:: ((Proofs.YtibmppoeeppnoaaGreatDoor.nm s).flatMap cG ++ [34]++zs):=by simp[dJ,kK]
 have e2:kK (Proofs.YtibmppoeeppnoaaGreatDoor.nm s)++zs=34:: ((Proofs.YtibmppoeeppnoaaGreatDoor.nm s).flatMap cG ++ [34]++zs):=by simp[kK]
 rw[e2] at hq;rw[e];have hk:cm 34=5:=by decide
 simp only[dm,hk,hq,Option.map_some,h.nm.2];rfl
mutual
def JV.txt:JV->List UInt8
 | .mk k t x n ns ks=>if k=1 then [110,117,108,108] else if k=2 then(if t then [116,114,117,101] else [102,97,108,115,101]) else if k=3 then eN n else if k=4 then dJ x
  else if k=5 then 91:: (JV.txts false true ns ks ++ [93]) else if k=6 then 123:: (JV.txts true true ns ks ++ [125]) else []
def JV.txts:Bool->Bool->List ByteArray->List JV->List UInt8
 |_,_,_, []=> []
 |o,first,ns,v::vs=>(if first then [] else [44])++ ((if o then dJ (ns.headD ⟨#[]⟩) ++ [58] else [])++ (JV.txt v++JV.txts o false ns.tail vs))
end
inductive Tx:JV->Prop
 |null:Tx jA
 |bool (b:Bool):Tx (fB b)
 |num (d:Dc):jy d->Tx (dT d)
 |text (s:ByteArray):dq s->Tx (eI s)
 |list (ks:List JV):(∀u∈ks,Tx u)->Tx (cR ks)
 |obj (ns:List ByteArray) (ks:List JV):ns.length=ks.length->(∀s∈ns,dq s)->dU ns->(∀u∈ks,Tx u)->Tx (.mk 6 false ⟨#[]⟩ ⟨false,⟨#[]⟩,0⟩ ns ks)
theorem jy.zero (h:jy d):p5 d:=by
 intro e;rcases h with h|⟨h,-⟩
 ·exact h
 ·rw[e] at h;exact absurd rfl (h.first 48 rfl)
theorem Tx.vl (h:Tx j):Vl j:=by
 induction h with
 |null=>exact .null
 |bool b=>exact .bool b
 |num d hd=>exact .num d hd.zero
 |text s _=>exact .text s
 |list ks _ ih=>exact .list ks ih
 |obj ns ks h1 _ _ _ ih=>exact .obj ns ks h1 ih
theorem jX:∀ {l:List (ByteArray×JV)},(l.map Prod.fst).Pairwise fE->fp l=l
 | [],_=>rfl
 |m::l,h=>by
  rw[List.map_cons,List.pairwise_cons] at h;have ih:=jX h.2
  show ri m (fp l)=_
  rw[ih]
  cases l with
  |nil=>rfl
  |cons x l=>
   have:aw (nm m.1) (nm x.1)<0:=h.1 x.1 (by simp);rw[ri,if_pos this]
theorem ef {c c':de}{x:UInt8}(hk:cm x=2)(h:dI c (.mark x)=some c'):dH c (x::zs) c' zs:=by
 have hb:cO x=false:=by
  cases hx:cO x with
  |false=>rfl
  |true=>simp[cm,hx] at hk
 exact .one (n:=1) hb (by simp only[dm,hk]) h
theorem i7 (hw:want=0\/want=1)(hb:∀y ys,xs++zs=y::ys->cO y=false)(hx:dm (xs++zs)=some (.leaf j,xs.length)):dH ⟨frs,want,none⟩ (xs++zs) (bX frs j) zs:=by
 cases he:xs++zs with
 |nil=>rw[he] at hx;cases hx
 |cons y ys=>
  have h1:=hb y ys he;rw[he] at hx;have h2:=dH.one (c:=⟨frs,want,none⟩) (c':=bX frs j) h1 hx (by rcases hw with rfl|rfl <;> rfl);rw[<-he,List.drop_left] at h2
  rwa[he] at h2
theorem kZ (h:jy d):∃c l,eN d=c::l/\cm c=4:=by
 rcases h with rfl|⟨hl,-⟩
 ·exact⟨48, [],rfl,by decide⟩
 ·obtain⟨neg,⟨⟨ds⟩⟩,x⟩:=d
  cases neg with
  |true=>exact⟨45,_,rfl,by decide⟩
  |false=>
   cases ds with
   |nil=>exact absurd rfl hl.ne
   |cons c l=>
    refine⟨c,_,rfl,?_⟩;have:=ti (p:=fun c=> !eH c||cm c==4) (by decide +kernel) c;simpa [hl.dig c (by simp)] using this
theorem D1 {x:UInt8}(h:cm x=k)(hk:k≠1):cO x=false:=by
 cases hx:cO x with
 |false=>rfl
 |true=>simp[cm,hx] at h;omega
theorem Cc (h:jy d)(hz:py zs):dm (eN d++zs)=some (.leaf (dT d),(eN d).length):=by
 have hn:=BC h hz;obtain⟨c,l,e,hk⟩:=kZ h;rw[e,List.cons_append] at hn ⊢;simp only[dm,hk,hn];rfl
theorem zA (hz:py zs)(a0:∀c l,zs=c::l->dO c=false):zs.takeWhile dO = []:=by
 cases zs with
 |nil=>rfl
 |cons c l=>rw[List.takeWhile_cons,if_neg (by rw[a0 c l rfl];decide)]
def zG (zs:List UInt8):Prop:= ∀c l,zs=c::l->bu c=6/\dO c=false
theorem zG.stop (h:zG zs):py zs:=fun c l e=>(h c l e).1
theorem yy {c:UInt8}(h:bu c=6/\dO c=false):zG (c::l):=by
 intro a m e;injection e with e _
 rw[<-e];exact h
theorem kS {w:List UInt8}(hw:(w,j)∈ [([110,117,108,108],jA),([116,114,117,101],fB true),([102,97,108,115,101],fB false)])(hz:zG zs):dm (w++zs)=some (.leaf j,w.length):=by
 have h0:zs.takeWhile dO = []:=zA hz.stop (fun c l e=>(hz c l e).2);simp only[List.mem_cons,List.mem_nil_iff,or_false,Prod.mk.injEq] at hw;have hl:∀ (x:UInt8) (l:List UInt8),(∀c∈l,dO c=true)->(l++zs).takeWhile dO=l:=by
  intro x l
  induction l with
  |nil=>intro _;exact h0
  |cons c l ih=>intro h;rw[List.cons_append,List.takeWhile_cons,if_pos (h c (by simp)),ih (fun c hc=>h c (Zl _ hc))]
 rcases hw with ⟨rfl,rfl⟩|⟨rfl,rfl⟩|⟨rfl,rfl⟩
 ·have:=hl 0 [117,108,108] (by decide)
  show dm (110:: ([117,108,108]++zs))=_
  simp only[dm,this,show cm 110=3 from by decide];rfl
 ·have:=hl 0 [114,117,101] (by decide)
  show dm (116:: ([114,117,101]++zs))=_
  simp only[dm,this,show cm 116=3 from by decide];rfl
 ·have:=hl 0 [97,108,115,101] (by decide)
  show dm (102:: ([97,108,115,101]++zs))=_
  simp only[dm,this,show cm 102=3 from by decide];rfl
def Cd (j:JV):Prop:= ∀ (frs:List Fr) (want:Nat) (zs:List UInt8),(want=0\/want=1)->zG zs->dH ⟨frs,want,none⟩ (j.txt++zs) (bX frs j) zs
theorem pk (o:Bool)(ns:List ByteArray)(ks:List JV)(c:UInt8)(zs:List UInt8)(hc:bu c=6/\dO c=false):zG (JV.txts o false ns ks++c::zs):=by
 cases ks with
 |nil=>exact yy hc
 |cons v vs=>
  have:JV.txts o false ns (v::vs)++c::zs=44:: (((if o then dJ (ns.headD ⟨#[]⟩) ++ [58] else [])++ (JV.txt v++JV.txts o false ns.tail vs))++c::zs):=by simp[JV.txts]
  rw[this];exact yy (by decide)
theorem ww (h:∀u∈ks,Cd u):∀ (frs:List Fr) (its:List JV) (first:Bool) (ns:List ByteArray) (zs:List UInt8),∃w,(w=1\/w=5)/\dH ⟨⟨false,its, [],none⟩::frs,if first then 1 else 5,none⟩ (JV.txts false first ns ks++93::zs) ⟨⟨false,its++ks, [],none⟩::frs,w,none⟩ (93::zs):=by
 induction ks with
 |nil=>intro frs its first ns zs;exact⟨if first then 1 else 5,by cases first <;> simp,by simpa [JV.txts] using dH.refl _ _⟩
 |cons v vs ih=>
  intro frs its first ns zs;have hv:=h v (by simp);have he:=pk false ns.tail vs 93 zs (by decide);obtain⟨w,hw,hr⟩:=ih (fun u hu=>h u (Zl _ hu)) frs (its ++ [v]) false ns.tail zs;refine⟨w,hw,?_⟩;have e2:its++v::vs=its ++ [v]++vs:=by simp
  rw[e2]
  cases first with
  |true=>
   have e:JV.txts false true ns (v::vs)++93::zs=v.txt++ (JV.txts false false ns.tail vs++93::zs):=by simp[JV.txts]
   rw[e];exact(hv _ 1 _ (.inr rfl) he).trans hr
  |false=>
   have e:JV.txts false false ns (v::vs)++93::zs=44:: (v.txt++ (JV.txts false false ns.tail vs++93::zs)):=by simp[JV.txts]
   rw[e];refine dH.trans (ef (c':=⟨⟨false,its, [],none⟩::frs,0,none⟩) (by decide) rfl) ?_;exact(hv _ 0 _ (.inl rfl) he).trans hr
theorem pu (hw:want=2\/want=3)(hs:dq s)(hn:f.mems.any (fun p=>decide (p.1=s))=false)(zs:List UInt8):dH ⟨f::frs,want,none⟩ (dJ s++58::zs) ⟨{f with name:=some s}::frs,0,none⟩ zs:=by
 have hx:=sG hs (58::zs);have e:dJ s++58::zs=34:: ((Proofs.YtibmppoeeppnoaaGreatDoor.nm s).flatMap cG ++ [34]++58::zs):=by simp[dJ,kK]
 have h1:dH ⟨f::frs,want,none⟩ (dJ s++58::zs) ⟨{f with name:=some s}::frs,4,none⟩ (58::zs):=by
  rw[e] at hx ⊢;have h2:=dH.one (c:=⟨f::frs,want,none⟩) (c':=⟨{f with name:=some s}::frs,4,none⟩) (by decide) hx (by rcases hw with rfl|rfl <;> simp[dI,hn]);rw[<-e,List.drop_left] at h2
  rwa[e] at h2
 exact h1.trans (ef (by decide) rfl)
theorem zQ (h:∀u∈ks,Cd u):∀ (frs:List Fr) (ms:List (ByteArray×JV)) (first:Bool) (ns:List ByteArray) (zs:List UInt8),ns.length=ks.length->(∀s∈ns,dq s)->(ms.map Prod.fst++ns).Pairwise fE->∃w,(w=3\/w=6)/\dH ⟨⟨true, [],ms,none⟩::frs,if first then 3 else 6,none⟩ (JV.txts true first ns ks++125::zs) ⟨⟨true, [],ms++ns.zip ks,none⟩::frs,w,none⟩ (125::zs):=by
 induction ks with
 |nil=>intro frs ms first ns zs hl _ _;exact⟨if first then 3 else 6,by cases first <;> simp,by obtain rfl:=List.eq_nil_of_length_eq_zero hl;simpa [JV.txts] using dH.refl _ _⟩
 |cons v vs ih=>
  intro frs ms first ns zs hl hs hp
  cases ns with
  |nil=>simp at hl
  |cons a ns=>
   have hv:=h v (by simp);have he:=pk true ns vs 125 zs (by decide);obtain⟨w,hw,hr⟩:=ih (fun u hu=>h u (Zl _ hu)) frs (ms ++ [(a,v)]) false ns zs (by simpa using hl) (fun s h=>hs s (Zl _ h)) (by simpa using hp);refine⟨w,hw,?_⟩;have e2:ms++ (a::ns).zip (v::vs)=ms ++ [(a,v)]++ns.zip vs:=by simp
   rw[e2];have hc:ms.any (fun p=>decide (p.1=a))=false:=by
    rw[List.pairwise_append] at hp;rw[List.any_eq_false];intro p hm;have:=lz (hp.2.2 p.1 (List.mem_map_of_mem hm) a (by simp));simpa using this
   cases first with
   |true=>
    have e:JV.txts true true (a::ns) (v::vs)++125::zs=dJ a++58:: (v.txt++ (JV.txts true false ns vs++125::zs)):=by simp[JV.txts]
    rw[e];exact((pu (.inr rfl) (hs a (by simp)) hc _).trans (hv _ 0 _ (.inl rfl) he)).trans hr
   |false=>
    have e:JV.txts true false (a::ns) (v::vs)++125::zs=44:: (dJ a++58:: (v.txt++ (JV.txts true false ns vs++125::zs))):=by simp[JV.txts]
    rw[e];refine dH.trans (ef (c':=⟨⟨true, [],ms,none⟩::frs,2,none⟩) (by decide) rfl) ?_;exact((pu (.inl rfl) (hs a (by simp)) hc _).trans (hv _ 0 _ (.inl rfl) he)).trans hr
theorem Tx.goes (h:Tx j):Cd j:=by
 induction h with
 |null=>exact fun frs want zs hw hz=>i7 (xs:= [110,117,108,108]) hw (fun y ys e=>by injection e with e _;subst e;rfl) (kS (by simp) hz)
 |bool b=>
  intro frs want zs hw hz
  cases b with
  |true=>exact i7 (xs:= [116,114,117,101]) hw (fun y ys e=>by injection e with e _;subst e;rfl) (kS (by simp) hz)
  |false=>exact i7 (xs:= [102,97,108,115,101]) hw (fun y ys e=>by injection e with e _;subst e;rfl) (kS (by simp) hz)
 |num d hd=>
  intro frs want zs hw hz;have e:(dT d).txt=eN d:=by simp[dT,JV.txt]
  rw[e];refine i7 hw (fun y ys e=>?_) (Cc hd hz.stop);obtain⟨c,l,hc,hk⟩:=kZ hd;rw[hc] at e;injection e with e _
  subst e;exact D1 hk (by omega)
 |text s hs=>
  intro frs want zs hw hz;have e:(eI s).txt=dJ s:=by simp[eI,JV.txt]
  rw[e];have hx:=sG hs zs;have e:dJ s++zs=34:: ((Proofs.YtibmppoeeppnoaaGreatDoor.nm s).flatMap cG ++ [34]++zs):=by simp[dJ,kK]
  rw[e] at hx ⊢;have h2:=dH.one (c:=⟨frs,want,none⟩) (c':=bX frs (eI s)) (by decide) hx (by rcases hw with rfl|rfl <;> rfl);rw[<-e,List.drop_left] at h2
  rwa[e] at h2
 |list ks _ ih=>
  intro frs want zs hw hz;have e:(cR ks).txt++zs=91:: (JV.txts false true [] ks++93::zs):=by simp[cR,JV.txt]
  rw[e];refine dH.trans (ef (c':=⟨⟨false, [], [],none⟩::frs,1,none⟩) (by decide) (by rcases hw with rfl|rfl <;> rfl)) ?_;obtain⟨w,a0,hr⟩:=ww ih frs [] true [] zs;refine hr.trans (ef (by decide) ?_);rcases a0 with rfl|rfl <;> rfl
 |obj ns ks hl hs hp _ ih=>
  intro frs want zs hw hz;have e:(JV.mk 6 false ⟨#[]⟩ ⟨false,⟨#[]⟩,0⟩ ns ks).txt++zs=123:: (JV.txts true true ns ks++125::zs):=by simp[JV.txt]
  rw[e];refine dH.trans (ef (c':=⟨⟨true, [], [],none⟩::frs,3,none⟩) (by decide) (by rcases hw with rfl|rfl <;> rfl)) ?_;obtain⟨w,a0,hr⟩:=zQ ih frs [] true ns zs hl hs (by simpa [dU] using hp);refine hr.trans (ef (by decide) ?_);have h1:dM ⟨true, [], []++ns.zip ks,none⟩ =.mk 6 false ⟨#[]⟩ ⟨false,⟨#[]⟩,0⟩ ns ks:=by
   have hf:(ns.zip ks).map Prod.fst=ns:=List.map_fst_zip (by omega);have a1:(ns.zip ks).map Prod.snd=ks:=List.map_snd_zip (by omega)
   show kq (fp (ns.zip ks))=_
   rw[jX (by rw[hf];exact hp),kq,hf,a1]
  rw[List.nil_append] at h1;rcases a0 with rfl|rfl <;> simp only[dI,yS] <;> simp[h1]
def Shut:JV->Prop
 | .mk k _ _ _ _ _=>k=4\/k=5\/k=6
def ju (xs ys:List UInt8):Prop:=xs.dropWhile cO=ys.dropWhile cO
theorem ju.refl (xs:List UInt8):ju xs xs:=rfl
theorem ju.trans (h:ju xs ys)(k:ju ys zs):ju xs zs:=Eq.trans h k
theorem dH.same {c c':de}(h:dH c xs c' ys)(hs:ju xs' xs):∃ys',ju ys' ys/\dH c xs' c' ys':=by
 cases h with
 |refl=>exact⟨xs',hs,.refl _ _⟩
 |step h1 h2 h3 h4=>exact⟨ys,rfl,.step (Eq.trans hs h1) h2 h3 h4⟩
theorem dH.then {a b c:de}{ys':List UInt8}(h:dH a xs b ys')(hs:ju ys' ys)(k:dH b ys c zs):∃zs',ju zs' zs/\dH a xs c zs':=by
 obtain⟨z,h1,h2⟩:=k.same hs;exact⟨z,h1,h.trans h2⟩
theorem kY (m:ByteArray×JV):∀l,(ri m l).Perm (m::l)
 | []=>List.Perm.refl _
 |x::l=>by
  unfold ri
  split
  ·exact List.Perm.refl _
  ·exact((kY m l).cons x).trans (List.Perm.swap m x l)
theorem j7:∀l,(fp l).Perm l
 | []=>List.Perm.refl _
 |m::l=>(kY m (fp l)).trans ((j7 l).cons m)
theorem px {m:ByteArray×JV}:∀ {l:List (ByteArray×JV)},(l.map Prod.fst).Pairwise fE->(∀x∈l,x.1≠m.1)->((ri m l).map Prod.fst).Pairwise fE
 | [],_,_=>by simp[ri]
 |x::l,h,hn=>by
  unfold ri;rw[List.map_cons,List.pairwise_cons] at h
  split
  ·rename_i hlt
   rw[List.map_cons,List.map_cons,List.pairwise_cons,List.pairwise_cons];refine⟨fun b hb=>?_,h⟩;rcases List.mem_cons.1 hb with rfl|hb
   ·exact hlt
   ·exact gj hlt (h.1 b hb)
  ·rename_i hlt
   have hx:fE x.1 m.1:=jm hlt (fun e=>hn x (by simp) e.symm);rw[List.map_cons,List.pairwise_cons];refine⟨fun b hb=>?_,px h.2 (fun y hy=>hn y (Zl _ hy))⟩;obtain⟨y,hy,rfl⟩:=List.mem_map.1 hb;rcases List.mem_cons.1 ((kY m l).mem_iff.1 hy) with rfl|hy
   ·exact hx
   ·exact h.1 y.1 (List.mem_map_of_mem hy)
theorem nS:∀ {l:List (ByteArray×JV)},(l.map Prod.fst).Nodup->((fp l).map Prod.fst).Pairwise fE
 | [],_=>List.Pairwise.nil
 |m::l,h=>by
  rw[List.map_cons,List.nodup_cons] at h;refine px (nS h.2) fun x hx e=>h.1 ?_
  rw[<-e];exact List.mem_map_of_mem ((j7 l).mem_iff.1 hx)
theorem uM {l m:List (ByteArray×JV)}(hp:l.Perm m)(hr:(m.map Prod.fst).Pairwise fE):fp l=m:=by
 have hn:(l.map Prod.fst).Nodup:=((hp.map Prod.fst).nodup_iff).2 (hr.imp fun h=>lz h);exact pm ((j7 l).trans hp) (nS hn) hr
def Iy:List UInt8:= [123,32,34,98,34,32,58,32,91,49,46,53,48,44,32,49,101,50,93,44,32,34,97,92,117,48,48,54,50,34,32,58,32,110,117,108,108,32,125]
def Ga:JV:=.mk 6 false ⟨#[]⟩ ⟨false,⟨#[]⟩,0⟩ [⟨#[97,98]⟩,⟨#[98]⟩] [jA,cR [dT ⟨false,⟨#[49,53]⟩,-1⟩,dT ⟨false,⟨#[49]⟩,2⟩]]
theorem BV:eU Iy=some Ga:=by rfl
theorem Bj:Ga.txt = [123,34,97,98,34,58,110,117,108,108,44,34,98,34,58,91,49,53,101,45,49,44,49,101,50,93,125]:=by
 have e1:fN (-1) = [101,45,49]:=by
  unfold fN;rw[if_neg (by decide),show(-1:Int) = -((1:Nat):Int) from rfl,Lib.itoa_neg 1 (by decide),Lib.decDigits_one (by decide)];rfl
 have e2:fN 2 = [101,50]:=by
  unfold fN;rw[if_neg (by decide),show(2:Int)= ((2:Nat):Int) from rfl,Lib.itoa_nonneg 2,Lib.decDigits_one (by decide)];rfl
 simp only[Ga,JV.txt,JV.txts,jA,cR,dT,eN,e1,e2];rfl
theorem zn:eU [49]=some (dT ⟨false,⟨#[49]⟩,0⟩):=by rfl
theorem vK:eU [49,46,48]=some (dT ⟨false,⟨#[49]⟩,0⟩):=by rfl
theorem yV:eU [91,49,44,50,93]=some (cR [dT ⟨false,⟨#[49]⟩,0⟩,dT ⟨false,⟨#[50]⟩,0⟩]):=by rfl
theorem z6:eU [91,49,44,32,50,93]=some (cR [dT ⟨false,⟨#[49]⟩,0⟩,dT ⟨false,⟨#[50]⟩,0⟩]):=by rfl
theorem mA:(cR [dT ⟨false,⟨#[49]⟩,0⟩,dT ⟨false,⟨#[50]⟩,0⟩]).txt = [91,49,44,50,93]:=by rfl
theorem F5:Tx Ga:=by
 have hu:∀l:List UInt8,(∀c∈l,c.toNat<128)->dq ⟨l.toArray⟩:=by
  intro l hl;refine⟨l.map fun c=>(c.toNat:Int),?_,?_⟩
  ·intro c hc;obtain⟨x,hx,rfl⟩:=List.mem_map.1 hc;have:=hl x hx;rw[cL];simp;omega
  ·show l=_
   induction l with
   |nil=>rfl
   |cons x l ih=>
    rw[List.map_cons,List.flatMap_cons,<-ih (fun c hc=>hl c (Zl _ hc)),oF _ (hl x (by simp)),UInt8.ofNat_toNat];rfl
 have hn:∀ (l:List UInt8) (x:Int),(∀c∈l,eH c=true)->l≠ []->(∀c,l.head?=some c->c≠48)->(∀c,l.getLast?=some c->c≠48)->(-1000000000<=x/\x<=1000000000)->Tx (dT ⟨false,⟨l.toArray⟩,x⟩):=fun l x h1 h2 h3 h4 h5=>.num _ (.inr ⟨⟨h1,h2,h3,h4⟩,h5⟩)
 refine .obj _ _ rfl ?_ ?_ ?_
 ·intro s hs;simp only[List.mem_cons,List.mem_nil_iff,or_false] at hs;rcases hs with rfl|rfl
  ·exact hu [97,98] (by decide)
  ·exact hu [98] (by decide)
 ·refine List.pairwise_cons.2 ⟨?_,List.pairwise_cons.2 ⟨by simp,List.Pairwise.nil⟩⟩;intro b hb;obtain rfl:=List.mem_singleton.1 hb
  show aw (nm _) (nm _)<0
  rw[show aw (nm ⟨#[97,98]⟩) (nm ⟨#[98]⟩) = -1 from rfl]
  decide
 ·intro u hu;simp only[List.mem_cons,List.mem_nil_iff,or_false] at hu;rcases hu with rfl|rfl
  ·exact .null
  ·refine .list _ fun u hu=>?_
   simp only[List.mem_cons,List.mem_nil_iff,or_false] at hu;rcases hu with rfl|rfl
   ·exact hn [49,53] (-1) (by decide) (by decide) (by decide) (by decide) (by decide)
   ·exact hn [49] 2 (by decide) (by decide) (by decide) (by decide) (by decide)
