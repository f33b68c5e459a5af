import Derived.Test.YtibmppoeeppnoaaGreatDoorGZ4as
import Derived.Sort.Grow
set_option linter.unusedVariables false
set_option linter.unusedSimpArgs false
set_option maxHeartbeats 64000000
set_option maxRecDepth 100000
namespace Go.Proofs.YtibmppoeeppnoaaGreatDoor
variable {cs:Array Value}{f:Fr}{j:JV}{L:List (ByteArray×Value)}{frs fs:List Fr}{bs bs' top:List Nat}{us:List Value}{B base c g n q want xb:Nat}{F P:Nat->Prop}{A:Option Addr}{e t ty:TypeId}{T U:TypeId->Prop}{dv u v z:Value}{w w':World}
structure Fr.ok (N:ByteArray->Prop) (f:Fr):Prop where
 list:f.obj=false->f.mems = []/\f.name=none
 obj:f.obj=true->f.items = []
 names:∀m∈f.mems,N m.1
 nodup:(f.mems.map Prod.fst).Nodup
 name:∀s,f.name=some s->N s/\s∉f.mems.map Prod.fst
def bY (f:Fr):Bool:=f.obj&&f.name.isNone
def xc:Nat->List Fr->Option JV->Prop
 |0,frs,d=>d=none/\∀f fs,frs=f::fs->bY f=false
 |1,frs,d=>d=none/\∃f fs,frs=f::fs/\f.obj=false
 |2,frs,d=>d=none/\∃f fs,frs=f::fs/\f.obj=true/\f.name=none
 |3,frs,d=>d=none/\∃f fs,frs=f::fs/\f.obj=true/\f.name=none
 |4,frs,d=>d=none/\∃f fs,frs=f::fs/\f.obj=true/\f.name.isSome=true
 |5,frs,d=>d=none/\∃f fs,frs=f::fs/\f.obj=false
 |6,frs,d=>d=none/\∃f fs,frs=f::fs/\f.obj=true/\f.name=none
 |7,frs,d=>frs = []/\d.isSome=true
 |_,_,_=>False
structure de.ok (N:ByteArray->Prop) (c:de):Prop where
 frs:∀f∈c.frs,f.ok N
 rest:∀f∈c.frs.tail,bY f=false
 want:xc c.want c.frs c.done
theorem de.ok.start (N:ByteArray->Prop):de.ok N ⟨[],0,none⟩:=⟨by simp,by simp,rfl,by simp⟩
theorem gP (h:f.obj=true):bX (f::fs) j= ⟨{f with mems:=f.mems ++ [(f.name.getD ⟨#[]⟩,j)],name:=none}::fs,6,none⟩:=if_pos h
theorem ff (h:f.obj=false):bX (f::fs) j= ⟨{f with items:=f.items ++ [j]}::fs,5,none⟩:=if_neg (by rw[h];decide)
theorem mC {N:ByteArray->Prop}(h:∀f∈frs,f.ok N)(hr:∀f∈frs,bY f=false):(bX frs j).ok N:=by
 cases frs with
 |nil=>exact⟨by simp[bX],by simp[bX],rfl,rfl⟩
 |cons f fs=>
  have hf:=h f (by simp);have hw:=hr f (by simp)
  by_cases ho:f.obj=true
  ·rw[gP ho];have hn:∃s,f.name=some s:=by
    simp only[bY,ho,Bool.true_and] at hw
    cases he:f.name with
    |none=>rw[he] at hw;cases hw
    |some s=>exact⟨s,rfl⟩
   obtain⟨s,hs⟩:=hn;obtain⟨n1,n2⟩:=hf.name s hs;refine⟨fun g hg=>?_,fun g hg=>hr g (Zl _ hg),rfl,_,_,rfl,ho,rfl⟩;rcases List.mem_cons.1 hg with rfl|hg
   ·refine⟨fun e=>?_,fun _=>hf.obj ho,fun m hm=>?_,?_,fun s hs=>by cases hs⟩
    ·simp only at e;rw[ho] at e;cases e
    ·rcases List.mem_append.1 hm with hm|hm
     ·exact hf.names m hm
     ·obtain rfl:=List.mem_singleton.1 hm;simp only[hs,Option.getD_some];exact n1
    ·simp only[hs,Option.getD_some,List.map_append,List.map_cons,List.map_nil];rw[List.nodup_append];refine⟨hf.nodup,by simp,fun a ha b hb=>?_⟩;obtain rfl:=List.mem_singleton.1 hb;exact fun e=>n2 (e▸ha)
   ·exact h g (Zl _ hg)
  ·have a0:f.obj=false:=by simpa using ho
   rw[ff a0];refine⟨fun g hg=>?_,fun g hg=>hr g (Zl _ hg),rfl,_,_,rfl,a0⟩;rcases List.mem_cons.1 hg with rfl|hg
   ·exact⟨fun _=>hf.list a0,fun e=>(by simp only at e;rw[a0] at e;cases e),hf.names,hf.nodup,hf.name⟩
   ·exact h g (Zl _ hg)
def EV (N:ByteArray->Prop):rG->Prop
 | .str s=>N s
 |_=>True
theorem dh {w:Nat}{d:Option JV}(h:xc w frs d)(hw:w=0\/w=1):d=none/\∀f fs,frs=f::fs->bY f=false:=by
 rcases hw with rfl|rfl
 ·exact h
 ·obtain⟨h1,f,fs,rfl,h2⟩:=h;refine⟨h1,fun g gs e=>?_⟩;injection e with e _
  subst e;simp[bY,h2]
theorem oE (h1:∀f fs,frs=f::fs->bY f=false)(h2:∀f∈frs.tail,bY f=false):∀f∈frs,bY f=false:=by
 cases frs with
 |nil=>simp
 |cons g gs=>
  intro f hf;rcases List.mem_cons.1 hf with rfl|hf
  ·exact h1 _ _ rfl
  ·exact h2 f hf
theorem Fr.ok.new (N:ByteArray->Prop)(o:Bool):Fr.ok N ⟨o, [], [],none⟩:=⟨fun _=>⟨rfl,rfl⟩,fun _=>rfl,by simp,by simp,fun s h=>by cases h⟩
theorem BS {x:UInt8}(h:yS want x=true):(x=91\/x=123)/\(want=0\/want=1)\/x=93/\(want=1\/want=5)\/x=125/\(want=3\/want=6)\/x=58/\want=4\/x=44/\(want=5\/want=6):=by
 unfold yS at h
 split at h
 all_goals simp only[List.contains_eq_mem,List.mem_cons,List.not_mem_nil,or_false,decide_eq_true_eq] at h
 ·rcases h with rfl|rfl <;> simp
 ·rcases h with rfl|rfl|rfl <;> simp
 ·subst h;simp
 ·subst h;simp
 ·rcases h with rfl|rfl <;> simp
 ·rcases h with rfl|rfl <;> simp
theorem D9 {N:ByteArray->Prop}{c c':de}{t:rG}(h:c.ok N)(ht:EV N t)(hs:dI c t=some c'):c'.ok N:=by
 obtain⟨frs,want,done⟩:=c;obtain⟨h1,h2,h3⟩:=h;simp only at h1 h2 h3
 cases t with
 |leaf j=>
  simp only[dI] at hs
  split at hs
  ·rename_i hw
   obtain rfl:=Zh hs;exact mC h1 (oE (dh h3 hw).2 h2)
  ·cases hs
 |str s=>
  simp only[dI] at hs
  split at hs
  ·rename_i hw
   have h4:done=none/\∃f fs,frs=f::fs/\f.obj=true/\f.name=none:=by
    try simp only at hw
    rcases hw with rfl|rfl <;> exact h3
   obtain⟨rfl,f,fs,rfl,h5,h6⟩:=h4
   try simp only at hs
   split at hs
   ·cases hs
   ·rename_i hn
    obtain rfl:=Zh hs;have hf:=h1 f (by simp);refine⟨fun g hg=>?_,h2,rfl,_,_,rfl,h5,rfl⟩;rcases List.mem_cons.1 hg with rfl|hg
    ·refine⟨fun e=>?_,hf.obj,hf.names,hf.nodup,fun s' e=>?_⟩
     ·simp only at e;rw[h5] at e;cases e
     ·obtain rfl:=Zh e;refine⟨ht,fun hm=>hn ?_⟩;obtain⟨m,hm,rfl⟩:=List.mem_map.1 hm;exact List.any_eq_true.2 ⟨m,hm,by simp⟩
    ·exact h1 g (Zl _ hg)
  ·split at hs
   ·rename_i hw
    obtain rfl:=Zh hs;exact mC h1 (oE (dh h3 hw).2 h2)
   ·cases hs
 |mark x=>
  simp only[dI] at hs
  split at hs
  case isFalse=>cases hs
  rename_i hm
  try simp only at hm hs
  rcases BS hm with ⟨hx,hw⟩|⟨hx,hw⟩|⟨hx,hw⟩|⟨hx,hw⟩|⟨hx,hw⟩
  ·obtain⟨hd,hq⟩:=dh h3 hw;subst hd;have a0:=oE hq h2;rcases hx with rfl|rfl
   ·rw[if_pos rfl] at hs;obtain rfl:=Zh hs;refine⟨fun g hg=>?_,a0,rfl,_,_,rfl,rfl⟩;rcases List.mem_cons.1 hg with rfl|hg
    ·exact Fr.ok.new N false
    ·exact h1 g hg
   ·rw[if_neg (by decide),if_pos rfl] at hs;obtain rfl:=Zh hs;refine⟨fun g hg=>?_,a0,rfl,_,_,rfl,rfl,rfl⟩;rcases List.mem_cons.1 hg with rfl|hg
    ·exact Fr.ok.new N true
    ·exact h1 g hg
  ·subst hx;rw[if_neg (by decide),if_neg (by decide)] at hs
   cases frs with
   |nil=>cases hs
   |cons f fs=>
    simp only[true_or,if_true] at hs;obtain rfl:=Zh hs;exact mC (fun g hg=>h1 g (Zl _ hg)) h2
  ·subst hx;rw[if_neg (by decide),if_neg (by decide)] at hs
   cases frs with
   |nil=>cases hs
   |cons f fs=>
    simp only[or_true,if_true] at hs;obtain rfl:=Zh hs;exact mC (fun g hg=>h1 g (Zl _ hg)) h2
  ·obtain⟨rfl,rfl⟩:=And.intro hx hw;rw[if_neg (by decide),if_neg (by decide)] at hs;obtain⟨rfl,f,fs,rfl,h5,h6⟩:=h3
   try simp only at hs
   rw[if_neg (by decide),if_neg (by decide)] at hs;obtain rfl:=Zh hs;refine⟨h1,h2,rfl,fun g gs e=>?_⟩;injection e with e _
   subst e;simp[bY,h5];exact h6
  ·subst hx;rw[if_neg (by decide),if_neg (by decide)] at hs
   cases frs with
   |nil=>cases hs
   |cons f fs=>
    try simp only at hs
    rw[if_neg (by decide)] at hs;simp only[if_true] at hs;obtain rfl:=Zh hs;rcases hw with rfl|rfl
    ·obtain⟨rfl,g,gs,e,h5⟩:=h3;injection e with e1 e2
     subst e1 e2;refine⟨h1,h2,?_⟩;simp only[h5];refine⟨rfl,fun g gs e=>?_⟩;injection e with e _
     subst e;simp[bY,h5]
    ·obtain⟨rfl,g,gs,e,h5,h6⟩:=h3;injection e with e1 e2
     subst e1 e2;refine⟨h1,h2,?_⟩;simp only[h5];exact⟨rfl,_,_,rfl,h5,h6⟩
def Fr.cnt (f:Fr):Nat:=f.items.length+f.mems.length
def dW (frs:List Fr):Nat:=(frs.map fun f=>f.cnt+1).sum
theorem mW (frs:List Fr)(j:JV):dW (bX frs j).frs<=dW frs+1:=by
 cases frs with
 |nil=>simp[bX,dW]
 |cons f fs=>
  by_cases ho:f.obj=true
  ·rw[gP ho];simp[dW,Fr.cnt];omega
  ·rw[ff (by simpa using ho)];simp[dW,Fr.cnt];omega
theorem De {c c':de}{t:rG}(hs:dI c t=some c'):dW c'.frs<=dW c.frs+1:=by
 obtain⟨frs,want,done⟩:=c
 cases t with
 |leaf j=>
  simp only[dI] at hs
  split at hs
  ·obtain rfl:=Zh hs;exact mW _ _
  ·cases hs
 |str s=>
  simp only[dI] at hs
  split at hs
  ·cases frs with
   |nil=>cases hs
   |cons f fs=>
    try simp only at hs
    split at hs
    ·cases hs
    ·obtain rfl:=Zh hs;simp[dW,Fr.cnt]
  ·split at hs
   ·obtain rfl:=Zh hs;exact mW _ _
   ·cases hs
 |mark x=>
  simp only[dI] at hs
  split at hs
  case isFalse=>cases hs
  by_cases e1:x=91
  ·rw[if_pos e1] at hs;obtain rfl:=Zh hs;simp[dW,Fr.cnt];omega
  rw[if_neg e1] at hs
  by_cases e2:x=123
  ·rw[if_pos e2] at hs;obtain rfl:=Zh hs;simp[dW,Fr.cnt];omega
  rw[if_neg e2] at hs
  cases frs with
  |nil=>cases hs
  |cons f fs=>
   try simp only at hs
   split at hs
   ·obtain rfl:=Zh hs;have:=mW fs (dM f);have e:dW (f::fs)=f.cnt+1+dW fs:=by simp[dW]
    rw[e];omega
   ·split at hs <;> (obtain rfl:=Zh hs;simp)
theorem kJ (frs:List Fr):frs.length<=dW frs:=by
 induction frs with
 |nil=>simp[dW]
 |cons f fs ih=>simp[dW] at ih ⊢;omega
theorem mF (f:Fr)(fs:List Fr):f.items.length+f.mems.length+1+fs.length<=dW (f::fs):=by
 have:=kJ fs;simp[dW,Fr.cnt] at this ⊢;omega
open Go.RowKit
def ce (P:Nat->Prop)(w:World)(e:TypeId)(k:Nat)(A:Option Addr)(n c:Nat)(xs:List Value):Prop:=
 xs.length=n*k/\n<=c/\c<=maxLen/\(0<n->∃g,A=some ⟨g,0,none⟩/\P g/\∃cur:Array Value,w.heap[g]?=some (.cells cur e (0,0))/\cur.toList.take (n*k)=xs)
def zS (ns:List ByteArray)(us:List Value):List Value:=(ns.zip us).flatMap fun p=> [.string p.1,p.2]
inductive VW (P:Nat->Prop) (w:World):Value->JV->Prop
 |null:VW P w (.iface 45 (.agg #[])) (.mk 1 false es ⟨false,es,0⟩ [] [])
 |bool (b:Bool):VW P w (.iface 54 (.bool b)) (.mk 2 b es ⟨false,es,0⟩ [] [])
 |num (d:Dc):VW P w (.iface 128 (.agg #[.bool d.neg,.string d.digits,.int .i64 d.exp])) (.mk 3 false es d [] [])
 |text (s:ByteArray):VW P w (.iface 55 (.string s)) (.mk 4 false s ⟨false,es,0⟩ [] [])
 |hole:VW P w (.iface 49 (.agg #[])) (.mk 7 false es ⟨false,es,0⟩ [] [])
 |bare:VW P w (.iface 52 (.pointer none)) (.mk 5 false es ⟨false,es,0⟩ [] [])
 |list (g:Nat) (A:Option Addr) (c:Nat) (us:List Value) (ks:List JV):P g->w.heap[g]?=some (.cells #[.slice A us.length c] 152 (0,0))->ce P w 41 1 A us.length c us->us.length=ks.length->
   (∀ (i:Nat) u k,us[i]?=some u->ks[i]?=some k->VW P w u k)->VW P w (.iface 52 (.pointer (some ⟨g,0,none⟩))) (.mk 5 false es ⟨false,es,0⟩ [] ks)
 |obj (g:Nat) (A:Option Addr) (c:Nat) (us:List Value) (ns:List ByteArray) (ks:List JV):P g->w.heap[g]?=some (.cells #[.slice A us.length c] 156 (0,0))->ce P w 99 2 A us.length c (zS ns us)->us.length=ks.length->ns.length=ks.length->
   (∀ (i:Nat) u k,us[i]?=some u->ks[i]?=some k->VW P w u k)->VW P w (.iface 124 (.pointer (some ⟨g,0,none⟩))) (.mk 6 false es ⟨false,es,0⟩ ns ks)
section
variable {P Q:Nat->Prop}{w w':World}{v:Value}{j:JV}
theorem ce.stay {k:Nat}{xs:List Value}(h:ce P w e k A n c xs)(hs:∀g o,P g->w.heap[g]?=some o->o.isCells=true->(∃cs z,o =.cells cs e z)->Q g/\w'.heap[g]?=some o):ce Q w' e k A n c xs:=by
 obtain⟨h1,h2,h3,h4⟩:=h;refine⟨h1,h2,h3,fun h0=>?_⟩;obtain⟨g,e1,hp,cur,hg,ht⟩:=h4 h0;obtain⟨hq,hw⟩:=hs g _ hp hg rfl ⟨_,_,rfl⟩;exact⟨g,e1,hq,cur,hw,ht⟩
def TV (e:TypeId):Prop:=e=152\/e=156\/e=41\/e=99
theorem VW.stay (h:VW P w v j)(hs:∀g o,P g->w.heap[g]?=some o->(∃cs e z,o =.cells cs e z/\TV e)->Q g/\w'.heap[g]?=some o):VW Q w' v j:=by
 induction h with
 |null=>exact .null
 |bool b=>exact .bool b
 |num d=>exact .num d
 |text s=>exact .text s
 |hole=>exact .hole
 |bare=>exact .bare
 |list g A c us ks hp hg hr hl _ ih=>
  obtain⟨h1,h2⟩:=hs g _ hp hg ⟨_,_,_,rfl,.inl rfl⟩;exact .list g A c us ks h1 h2 (hr.stay fun g o a b _ ⟨cs,z,e⟩=>hs g o a b ⟨cs,_,z,e,.inr (.inr (.inl rfl))⟩) hl (fun i u k h1 h2=>ih i u k h1 h2)
 |obj g A c us ns ks hp hg hr hl hn _ ih=>
  obtain⟨h1,h2⟩:=hs g _ hp hg ⟨_,_,_,rfl,.inr (.inl rfl)⟩;exact .obj g A c us ns ks h1 h2 (hr.stay fun g o a b _ ⟨cs,z,e⟩=>hs g o a b ⟨cs,_,z,e,.inr (.inr (.inr rfl))⟩) hl hn (fun i u k h1 h2=>ih i u k h1 h2)
theorem VW.imp (h:VW P w v j)(hq:∀g,P g->g<w.heap.size->Q g):VW Q w v j:=h.stay fun g _ hp hg _=>⟨hq g hp (ae hg),hg⟩
theorem VW.later (h:VW P w v j)(hb:Below w.heap.size w w'):VW P w' v j:=h.stay fun g _ hp hg _=>⟨hp,(hb.block g (ae hg)).trans hg⟩
theorem VW.keeps (h:VW P w v j)(hk:aG T w w')(hT:∀e,TV e->¬T e):VW P w' v j:=h.stay fun g _ hp hg ⟨cs,e,z,ho,he⟩=>⟨hp,by subst ho;exact hk.2 g cs e z hg (hT e he)⟩
theorem VW.grown {row:Option Nat}(h:VW P w v j)(hg:w.grownBy w' row)(hr:∀g,row=some g->¬P g):VW P w' v j:=h.stay fun g _ hp hh _=>⟨hp,(hg.block g (ae hh) (fun e=>hr g e.symm hp)).trans hh⟩
theorem VW.set (h:VW P w v j){p:Addr}(u:Value)(hr:¬P p.block):VW P (w.setCell p u) v j:=h.stay fun g _ hp hh _=>⟨hp,(Below.heap_setCell w p u g (by rintro rfl;exact hr hp)).trans hh⟩
theorem VW.drewN (h:VW P w v j)(m:Nat):VW P (w.drewN m) v j:=h.stay fun _ _ hp hg _=>⟨hp,hg⟩
theorem VW.iface (h:VW P w v j):∃t x,v =.iface t x:=by cases h <;> exact⟨_,_,rfl⟩
theorem ce.of_own {k:Nat}{xs:List Value}(h:w.ownsRow base e k (.slice A n c) n xs):ce (base<= ·) w e k A n c xs:=by
 obtain⟨h1,⟨e1,h0⟩|⟨g,cap,cur,e1,hb,hg,h2,h3,h4,h5⟩⟩:=h
 ·obtain⟨rfl,rfl,rfl⟩:=Value.slice.inj e1;exact⟨h1,Za _,Zj _,fun h=>absurd h (Nat.lt_irrefl _)⟩
 ·obtain⟨rfl,-,rfl⟩:=Value.slice.inj e1;exact⟨h1,h2,h3,fun _=>⟨g,rfl,hb,cur,hg,h5⟩⟩
theorem ce.cell {k:Nat}{xs:List Value}(h:ce P w e k (some ⟨g,0,none⟩) n c xs)(j:Nat)(hj:j<n*k):w.cell? ⟨g,j,none⟩=xs[j]?:=by
 obtain⟨h1,-,-,h4⟩:=h;obtain⟨g',e1,-,cur,hg,ht⟩:=h4 (by rcases Nat.eq_zero_or_pos n with h|h;subst h;omega;exact h);obtain rfl:g=g':=by injection e1 with e1;injection e1
 rw[<-ht,List.getElem?_take_of_lt hj];simp[World.cell?,hg]
theorem ce.ptr {k:Nat}{xs:List Value}(h:ce P w e k A n c xs)(hn:0<n):∃g,A=some ⟨g,0,none⟩/\P g:=by
 obtain⟨-,-,-,h4⟩:=h;obtain⟨g,h1,h2,-⟩:=h4 hn;exact⟨g,h1,h2⟩
end
theorem yL:∀ (ns:List ByteArray) (us:List Value) (i:Nat) (n:ByteArray) (u:Value),ns[i]?=some n->us[i]?=some u->(zS ns us)[i*2]?=some (.string n)/\(zS ns us)[i*2+1]?=some u
 | [],_,i,n,u,h,_=>by simp at h
 |_::_, [],i,n,u,_,h=>by simp at h
 |a::ns,b::us,0,n,u,h1,h2=>by simp at h1 h2;subst h1 h2;exact⟨rfl,rfl⟩
 |a::ns,b::us,i+1,n,u,h1,h2=>by
  have ih:=yL ns us i n u (by simpa using h1) (by simpa using h2);rw[show(i+1)*2=i*2+2 by omega];exact ih
theorem ug (w:World):Calls Tryz.prog 43 #[.pointer none] w fun e w'=>e =.returned (.int .i64 0)/\w=w':=by
 go_enter Tryz.func43,Tryz.ntmps43;go_wp2_with fail;go_ret;exact⟨rfl,rfl⟩
theorem lZ (hg:w.heap[g]?=some (.cells #[.slice A n c] 152 (0,0))):Calls Tryz.prog 43 #[.pointer (some ⟨g,0,none⟩)] w fun e w'=>e =.returned (.int .i64 n)/\w=w':=by
 have c0:w.cell? ⟨g,0,none⟩=some (.slice A n c):=aa hg (j:=0) rfl;clear hg;go_enter Tryz.func43,Tryz.ntmps43;go_wp2_with fail;go_ret;exact⟨rfl,rfl⟩
theorem nz (hg:w.heap[g]?=some (.cells #[.slice A n c] 156 (0,0))):Calls Tryz.prog 45 #[.pointer (some ⟨g,0,none⟩)] w fun e w'=>e =.returned (.int .i64 n)/\w=w':=by
 have c0:w.cell? ⟨g,0,none⟩=some (.slice A n c):=aa hg (j:=0) rfl;clear hg;go_enter Tryz.func45,Tryz.ntmps45;go_wp2_with fail;go_ret;exact⟨rfl,rfl⟩
theorem vU (hg:w.heap[g]?=some (.cells #[.slice A n c] 152 (0,0)))(hr:ce P w 41 1 A n c us)(i:Nat)(hi:i<n)(hu:us[i]?=some u) :
  Calls Tryz.prog 64 #[.pointer (some ⟨g,0,none⟩),.int .i64 i] w fun e w'=>e =.returned (.tuple #[u,.bool true])/\w=w':=by
 have c0:w.cell? ⟨g,0,none⟩=some (.slice A n c):=aa hg (j:=0) rfl;obtain⟨b,rfl,-⟩:=hr.ptr (by omega);have c1:=hr.cell i (by omega);rw[hu] at c1;have hm:=hr.2.2.1;unfold maxLen at hm;have Hl:=Qa (lZ hg);clear hg hr hu;have h0:¬ (i:Int)<0:=by omega
 have h1:(i:Int)<n:=by omega
 go_enter Tryz.func64,Tryz.ntmps64;go_wp2_with fail;(with_reducible refine Hl.out.mono ?_);rintro e w' ⟨rfl,rfl⟩;go_wp2_with fail;go_ret2;exact⟨rfl,rfl⟩
theorem Bf:Tryz.prog.underlying 41=some (.interface (Tryz.prog.methodsAt 41)):=by kernel_rfl
theorem qE (w:World)(t:TypeId)(x:Value):(binOp .eql 41 .nilIface (.iface t x)).run Tryz.prog w =.ok (.bool false) w:=run_eql_iface_nil_left w t x Bf
theorem rF (w:World)(t:TypeId)(x:Value):(binOp .eql 41 (.iface t x) .nilIface).run Tryz.prog w =.ok (.bool false) w:=run_eql_held_nil w _ t x Bf
theorem yi:dl 86 41 .nilIface 1 16:=⟨Tryz.underlying86,by kernel_rfl,rfl,by decide⟩
theorem yA:dl 90 99 (.agg #[.string ByteArray.empty,.nilIface]) 2 32:=⟨Tryz.underlying90,by kernel_rfl,rfl,by decide⟩
def yO (k:Nat)(w:World)(v:Value)(n:Nat)(us:List Value):Prop:=us.length=n*k/\n<=9223372036854775807/\∃A c,v =.slice A n c/\n<=c/\(0<n->∃g o,A=some ⟨g,o,none⟩/\∀i u,us[i]?=some u->w.cell? ⟨g,o+i,none⟩=some u)
theorem Sl.k (h:Sl w v us):yO 1 w v us.length us:=⟨by omega,h.1,h.2⟩
theorem yO.below {k:Nat}(h:yO k w v n us)(hb:Below w.heap.size w w'):yO k w' v n us:=by
 obtain⟨h1,h2,A,c,e,hc,hA⟩:=h;refine⟨h1,h2,A,c,e,hc,fun h0=>?_⟩;obtain⟨g,o,e,a0⟩:=hA h0;exact⟨g,o,e,fun i u hu=>Zf hb (a0 i u hu)⟩
theorem yO.of_own {k:Nat}(h:w.ownsRow base e k v n us):yO k w v n us:=by
 obtain⟨A,c,rfl,hc,hm,hA⟩:=ag h;refine⟨h.1,by unfold maxLen at hm;omega,A,c,rfl,hc,fun h0=>?_⟩;obtain⟨g,rfl⟩:=hA h0;refine⟨g,0,rfl,fun i u hu=>?_⟩;have hi:=(List.getElem?_eq_some_iff.1 hu).1;rw[Nat.zero_add,World.ownsRow.cellAt h i (by rw[<-h.1];exact hi)];exact hu
theorem gC {k:Nat}(E:dl t e z k B){ops:Array Oper}{rest:List Oper}{o:Oper}{a:Act}{Q:Exit->Act->World->Prop}(a9:o.guard=none)(s x:Operand)
  (ho:o.op =.call {callee:=.builtin .append,args:= #[s,x],argTypes:= #[t,t]})
  (base:Nat) (v:Value) (n:Nat) (ad:Addr) (c m:Nat) (us news:List Value) (hs:a.eval s=v) (a1:w.ownsRow base e k v n us) (hx:a.eval x =.slice (some ad) m c) (a4:yO k w (.slice (some ad) m c) m news)
  (h1:∀u∈news,u.oneCell'=true) (hlen:n+m<=maxLen) (hby:(n+m)*B<=140737488355328) (a0:base<=w.heap.size)
  (h:∀v' w',w'.ownsRow base e k v' (n+m) (us++news)->w.grownBy w' v.ownBlock->(v'.ownBlock=v.ownBlock\/v'.ownBlock=some w.heap.size)->wpList Tryz.prog ops Q rest (a.put o.dst v') w'):wpList Tryz.prog ops Q (o::rest) a w:=by
 refine wpList_plain a9 fun K hK=>?_
 obtain⟨i0,hi,a6,a5,a3⟩:=info_parts E.hi;obtain⟨hl,_,A,c',e',_,hA⟩:=a4;injection e' with e1 e2 e3
 subst e1;obtain⟨v',w',a2,h2,h3,_,h5⟩:=run_append_own_at (P:=Tryz.prog) w base t o.type e i0 z k B E.ht hi a6 a5 a3 E.hz E.h0 v n us a1 ad m c news
  hl (fun j y hy=>by
   have hj:=(List.getElem?_eq_some_iff.1 hy).1;have hm:0<m:=by rcases Nat.eq_zero_or_pos m with h0|h0;(· subst h0;rw[hl] at hj;omega);exact h0
   obtain⟨g,off,e',a7⟩:=hA hm;obtain rfl:=Zh e';rw[Addr.add_lit];exact a7 j y hy) h1 hlen hby a0
 unfold Oper.wp execOp;simp only[ho,resolve,invoke,builtin,Sem.run_bind,Sem.run_pure,Result.andThen_ok,List.map_toArray,List.map_cons,List.map_nil,hs,hx,a2];exact hK _ _ (h v' w' h2 h3 h5)
def Dw (u:Value):Prop:= ∃t v,u =.iface t v
theorem Dw.one (h:Dw u):u.oneCell'=true:=by obtain⟨t,v,rfl⟩:=h;rfl
def FT (us:List Value)(w:World)(s8:Value)(wr:World):Prop:= ∃k:Nat,k<=us.length/\s8 =.int .i64 k/\w=wr
theorem rO (hv:Sl w v us)(hu:∀u∈us,Dw u):Calls Tryz.prog 87 #[v,.nilIface] w fun e w'=>e =.returned (.int .i64 (-1))/\w=w':=by
 obtain⟨hm,A,cap,rfl,hc,hA⟩:=id hv;have HA:=Qa hA;have Hu:=Qa hu;clear hv hA hu;go_enter Tryz.func87,Tryz.ntmps87;go_wp2_with fail
 go_loopw [5,8] (fun _ s8 wr=>FT us w s8 wr) (fun _ i _=>us.length - (intOf i).toNat)
 case atStart=>exact⟨0,Zj _,rfl,rfl⟩
 case round=>
  obtain⟨k,hk,rfl,rfl⟩:=hrel
  by_cases hlt:k<us.length
  ·obtain⟨g,o,rfl,a1⟩:=HA.out (by omega);obtain⟨u,hu⟩:∃s,us[k]?=some s:=⟨_,Zc hlt⟩;have cu:=a1 k u hu;have a0:=Qa (Zk hu);clear a1 hu;obtain⟨t,x,rfl⟩:=Hu.out u a0.out;have q1:=qE w t x;go_wp2_with fail;exact⟨⟨k+1,by omega,by go_num,rfl⟩,by simp[intOf];omega⟩
  ·obtain rfl:k=us.length:=by omega
   go_wp2_with fail;go_ret;exact⟨rfl,rfl⟩
theorem nT (hv:Sl w v us)(hu:∀u∈us,Dw u):Calls Tryz.prog 66 #[v,.nilIface] w fun e w'=>e =.returned (.bool false)/\w=w':=by
 obtain⟨hm,A,cap,rfl,hc,hA⟩:=id hv;have Hc:=Qa (rO hv hu);clear hv hA hu;go_enter Tryz.func66,Tryz.ntmps66;go_wp2_with fail;(with_reducible refine Hc.out.mono ?_);rintro e w' ⟨rfl,rfl⟩;go_wp2_with fail;go_ret;exact⟨rfl,rfl⟩
def EJ (e:TypeId)(k:Nat)(w:World)(n:Nat)(us:List Value)(ed:Ending)(w':World):Prop:= ∃A c,ed =.returned (.slice A n c)/\Below w.heap.size w w'/\w'.ownsRow w.heap.size e k (.slice A n c) n us
theorem oO (hv:yO 1 w v n us)(hu:∀u∈us,u.oneCell'=true)(hn:n<=4294967296):Calls Tryz.prog 67 #[v] w (EJ 41 1 w n us):=by
 obtain⟨hl,hm,A,cap,rfl,hc,hA⟩:=id hv;have Hv:=Qa hv;have Hu:=Qa hu;have Hl:=Qa hl;have hq:=fun (w:World) (a:Option Addr) (n c n' c':Nat)=>Lib.run_eql_slice_nil (P:=Tryz.prog) w _ _ a n c n' c' Tryz.underlying86
 cases A with
 |none=>
  have h0:n=0:=by
   rcases Nat.eq_zero_or_pos n with h0|h0
   ·exact h0
   ·obtain⟨_,_,e,_⟩:=hA h0;cases e
  subst h0;clear hv hu hl hA;go_enter Tryz.func67,Tryz.ntmps67;go_wp2_with fail;go_ret;have h0:=Hl.out;rw[Nat.zero_mul] at h0;obtain rfl:=List.eq_nil_of_length_eq_zero h0;exact⟨none,0,rfl,Zd _ _,⟨by simp,.inl ⟨rfl,rfl⟩⟩⟩
 |some ad=>
  clear hv hu hl hA;go_enter Tryz.func67,Tryz.ntmps67;go_wp2_with (at_builtin;refine gC yi rfl (.tmp 5) (.tmp 6) rfl w.heap.size (.slice (some ⟨w.heap.size,0,none⟩) 0 0) 0 ad cap n [] us (by simp[Act.eval]) (dB (Ze w _) (Za _) (by unfold maxLen;omega) (by simp)) (by simp[Act.eval]) (Hv.out.below (ac _ _)) Hu.out (by unfold maxLen;omega) (by omega) (by simp) ?_;intro v' w1 h1 h2 h3;have Hp:=Qa h1;have Hg:=Qa h2;clear h1 h2 h3);go_ret;have ho:=Hp.out;rw[Nat.zero_add,List.nil_append] at ho;obtain⟨A',c',rfl,-⟩:=ag ho;exact⟨A',c',rfl,bw (ac w _) (dB (Ze w _) (Za _) (by unfold maxLen;omega) (by simp):(w.alloc (.cells #[] 41)).ownsRow w.heap.size 41 1 (.slice (some ⟨w.heap.size,0,none⟩) 0 0) 0 []) (by simp) Hg.out,ho⟩
theorem o6 (hv:yO 2 w v n us)(hu:∀u∈us,u.oneCell'=true)(hn:n<=4294967296):Calls Tryz.prog 68 #[v] w (EJ 99 2 w n us):=by
 obtain⟨hl,hm,A,cap,rfl,hc,hA⟩:=id hv;have Hv:=Qa hv;have Hu:=Qa hu;have Hl:=Qa hl;have hq:=fun (w:World) (a:Option Addr) (n c n' c':Nat)=>Lib.run_eql_slice_nil (P:=Tryz.prog) w _ _ a n c n' c' Tryz.underlying90
 cases A with
 |none=>
  have h0:n=0:=by
   rcases Nat.eq_zero_or_pos n with h0|h0
   ·exact h0
   ·obtain⟨_,_,e,_⟩:=hA h0;cases e
  subst h0;clear hv hu hl hA;go_enter Tryz.func68,Tryz.ntmps68;go_wp2_with fail;go_ret;have h0:=Hl.out;rw[Nat.zero_mul] at h0;obtain rfl:=List.eq_nil_of_length_eq_zero h0;exact⟨none,0,rfl,Zd _ _,⟨by simp,.inl ⟨rfl,rfl⟩⟩⟩
 |some ad=>
  clear hv hu hl hA;go_enter Tryz.func68,Tryz.ntmps68;go_wp2_with (at_builtin;refine gC yA rfl (.tmp 5) (.tmp 6) rfl w.heap.size (.slice (some ⟨w.heap.size,0,none⟩) 0 0) 0 ad cap n [] us (by simp[Act.eval]) (dB (Ze w _) (Za _) (by unfold maxLen;omega) (by simp)) (by simp[Act.eval]) (Hv.out.below (ac _ _)) Hu.out (by unfold maxLen;omega) (by omega) (by simp) ?_;intro v' w1 h1 h2 h3;have Hp:=Qa h1;have Hg:=Qa h2;clear h1 h2 h3);go_ret;have ho:=Hp.out;rw[Nat.zero_add,List.nil_append] at ho;obtain⟨A',c',rfl,-⟩:=ag ho;exact⟨A',c',rfl,bw (ac w _) (dB (Ze w _) (Za _) (by unfold maxLen;omega) (by simp):(w.alloc (.cells #[] 99)).ownsRow w.heap.size 99 2 (.slice (some ⟨w.heap.size,0,none⟩) 0 0) 0 []) (by simp) Hg.out,ho⟩
def GD (w:World)(n:Nat)(us:List Value)(e:Ending)(w':World):Prop:= ∃g A c,e =.returned (.tuple #[.pointer (some ⟨g,0,none⟩),.nilIface])/\Below w.heap.size w w'/\w.heap.size<=g/\w'.heap[g]?=some (.cells #[.slice A n c] 152 (0,0))/\ce (w.heap.size<= ·) w' 41 1 A n c us
theorem i1 (hv:Sl w v us)(hu:∀u∈us,Dw u)(hn:us.length<=4294967296):Calls Tryz.prog 48 #[v] w (GD w us.length us):=by
 obtain⟨hm,A,cap,rfl,hc,hA⟩:=id hv;have Hc:=Qa (nT hv hu);have Hk:=Qa (oO hv.k (fun u h=>(hu u h).one) hn);clear hv hA hu;go_enter Tryz.func48,Tryz.ntmps48;go_wp2_with fail;(with_reducible refine Hc.out.mono ?_);rintro e w' ⟨rfl,rfl⟩;go_wp2_with fail;(with_reducible refine Hk.out.mono ?_);rintro e w1 ⟨A1,c1,rfl,hb,ho⟩;have Ho:=Qa ho;have Hb:=Qa hb;clear ho hb;go_wp2_with fail;go_ret2;exact⟨w1.heap.size,A1,c1,rfl,bt Hb.out (ac _ _),Hb.out.size,Ze _ _,(ce.of_own Ho.out).stay fun g o hp hg _ _=>⟨hp,(Below.heap_alloc _ _ _ (ae hg)).trans hg⟩⟩
def fI (L:List (ByteArray×Value)):List Value:=L.flatMap fun p=> [.string p.1,p.2]
theorem km:∀L:List (ByteArray×Value),(fI L).length=L.length*2
 | []=>rfl
 |p::L=>by have:=km L;simp only[fI,List.flatMap_cons,List.length_append,List.length_cons,List.length_nil] at this ⊢;omega
theorem qZ:∀ (L:List (ByteArray×Value)) (i:Nat) (p:ByteArray×Value),L[i]?=some p->(fI L)[i*2]?=some (.string p.1)/\(fI L)[i*2+1]?=some p.2
 | [],i,p,h=>by simp at h
 |a::L,0,p,h=>by simp at h;subst h;exact⟨rfl,rfl⟩
 |a::L,i+1,p,h=>by
  have ih:=qZ L i p (by simpa using h);rw[show(i+1)*2=i*2+2 by omega];exact ih
def GX (w:World)(g:Nat)(L:List (ByteArray×Value)):Prop:= ∀ (i:Nat) (p:ByteArray×Value),L[i]?=some p->w.cell? ⟨g,i*2,none⟩=some (.string p.1)/\w.cell? ⟨g,i*2+1,none⟩=some p.2
theorem GX.below (h:GX w g L)(hb:Below w.heap.size w w'):GX w' g L:=fun i p hp=>⟨Zf hb (h i p hp).1,Zf hb (h i p hp).2⟩
def xg (w:World)(base:Nat)(v:Value)(L:List (ByteArray×Value)):Prop:=w.ownsRow base 99 2 v L.length (fI L)
theorem xg.read (h:xg w base (.slice (some ⟨g,0,none⟩) n q) L):GX w g L:=by
 intro i p hp;have hi:=(List.getElem?_eq_some_iff.1 hp).1;obtain⟨_,_,e,_,_,_⟩:=ag h;obtain⟨_,rfl,_⟩:=Value.slice.inj e;obtain⟨f1,f2⟩:=qZ L i p hp
 constructor
 ·rw[aD h rfl (i*2) (by omega),f1]
 ·rw[aD h rfl (i*2+1) (by omega),f2]
theorem qQ {k:Nat}(E:dl t e z k B)(base:Nat)(v:Value)(n g c m:Nat)(us news:List Value)(a0:w.ownsRow base e k v n us)(hl:news.length=m*k)
  (hg:∀j u,news[j]?=some u->w.cell? ⟨g,j,none⟩=some u) (h1:∀u∈news,u.oneCell'=true) (hm:0<m)
  (hlen:n+m<=maxLen) (hby:(n+m)*B<=140737488355328) (a3:base<=w.heap.size) :
  ∃v' w',(Builtin.append_ #[t,t] ty #[v,.slice (some ⟨g,0,none⟩) m c]).run Tryz.prog w =.ok v' w'/\w'.ownsRow base e k v' (n+m) (us++news)/\w.grownBy w' v.ownBlock/\(v'.ownBlock=v.ownBlock\/v'.ownBlock=some w.heap.size)/\w.drawn<=w'.drawn:=by
 obtain⟨i0,hi,a6,b0,a9⟩:=info_parts E.hi;have a4:∀j u,news[j]?=some u->w.cell? ((⟨g,0,none⟩:Addr).add j)=some u:=fun j y hy=>by
  have:=hg j y hy;unfold Addr.add
  split
  ·rename_i h0;subst h0;exact this
  ·simpa using this
 obtain⟨v',w',hr,h2,h3,_,h5⟩:=run_append_own_at (P:=Tryz.prog) w base t ty e i0 z k B E.ht hi a6 b0 a9 E.hz E.h0 v n us a0 ⟨g,0,none⟩ m c news hl a4 h1 hlen hby a3;refine⟨v',w',hr,h2,h3,h5,?_⟩;have a5:n+m<=9223372036854775807:=by simp only[maxLen] at hlen;omega
 subst b0;subst a9;rcases a0.2 with ⟨rfl,rfl⟩|⟨b,cap,cur,rfl,b5,hb,b3,b4,b2,b1⟩
 ·have a2:=Go.run_append_nil (P:=Tryz.prog) w t ty e i0 z E.ht hi a6 ⟨g,0,none⟩ m c news hl a4 hm (by omega) (by simp only[Nat.zero_add] at hby;omega);rw[a2] at hr;injection hr with _ e
  rw[<-e];exact Nat.le_succ _
 ·by_cases hroom:n+m<=cap
  ·have a7:n*i0.size+news.length<=cur.size:=by rw[hl,b2,<-Nat.add_mul];exact Nat.mul_le_mul_right _ hroom
   have a2:=run_append_room (P:=Tryz.prog) w t ty e i0 E.ht hi b n cap cur hb ⟨g,0,none⟩ m c news hl a4 h1 hroom a7;rw[a2] at hr;injection hr with _ e
   rw[<-e];exact Za _
  ·have a1:∀j u,us[j]?=some u->w.cell? ((⟨b,0,none⟩:Addr).add j)=some u:=a0.cells (g:=b) rfl;have a2:=run_append_grow (P:=Tryz.prog) w t ty e i0 z E.ht hi a6 ⟨b,0,none⟩ n cap us a0.1 a1 ⟨g,0,none⟩ m c news hl a4 (by omega) (by omega) (growslice_fits (by omega) hby);rw[a2] at hr;injection hr with _ e
   rw[<-e];exact Nat.le_succ _
structure bN (w w':World):Prop where
 b:Below w.heap.size w w'
 d:w.drawn<=w'.drawn
theorem bN.refl (w:World):bN w w:=⟨Zd _ _,Za _⟩
theorem bN.trans {a b c:World}(h:bN a b)(k:bN b c):bN a c:=⟨bt h.b k.b,Zb h.d k.d⟩
theorem bN.drewN (w:World)(m:Nat):bN w (w.drewN m):=⟨av (Zd _ _) m,Nat.le_add_right _ _⟩
theorem bN.alloc (w:World)(o:Obj):bN w (w.alloc o):=⟨ac w o,Za _⟩
theorem bN.grow (h:bN w w'):∃q os,w'=Go.Sort.grow (w.drewN q) os:=by
 obtain⟨⟨h1,h2,h3,h4,h5⟩,h6⟩:=h;refine⟨w'.drawn - w.drawn,w'.heap.extract w.heap.size w'.heap.size,?_⟩;obtain⟨hp,tp,dr,o,out⟩:=w;obtain⟨a0,tp',dr',o',out'⟩:=w';simp only at h1 h2 h3 h4 h5 h6;subst h1 h2 h3;have e:a0=hp++a0.extract hp.size a0.size:=by
  apply Array.ext
  ·simp;omega
  ·intro i a1 a2
   by_cases h:i<hp.size
   ·have:=h5 i h;rw[Array.getElem?_eq_getElem a1,Array.getElem?_eq_getElem h] at this;rw[Array.getElem_append_left h];exact Zh this
   ·rw[Array.getElem_append_right (by omega)];simp only[Array.getElem_extract]
    congr 1;omega
 have e2:dr'=dr+ (dr' - dr):=by omega
 unfold Go.Sort.grow World.drewN;simp only;rw[<-e,<-e2]
def Kp (T:TypeId->Prop)(w w':World):Prop:=w.heap.size<=w'.heap.size/\∀ (g:Nat) (o:Obj),w.heap[g]?=some o->(∀cs e z,o =.cells cs e z->¬T e)->w'.heap[g]?=some o
theorem Kp.refl (T:TypeId->Prop)(w:World):Kp T w w:=⟨Za _,fun _ _ h _=>h⟩
theorem Kp.trans {a b c:World}(h:Kp T a b)(k:Kp T b c):Kp T a c:=⟨Zb h.1 k.1,fun g o hg ht=>k.2 g o (h.2 g o hg ht) ht⟩
theorem Kp.of_below (T:TypeId->Prop)(h:Below w.heap.size w w'):Kp T w w':=⟨h.size,fun g o hg _=>(h.block g (ae hg)).trans hg⟩
theorem Kp.of_chg (h:a8 F w w')(hF:∀g,F g->g<w.heap.size->∃cs e z,w.heap[g]?=some (.cells cs e z)/\T e):Kp T w w':=by
 refine⟨h.size,fun g o hg ht=>(h.block g (ae hg) fun hf=>?_).trans hg⟩;obtain⟨cs,e,z,h1,h2⟩:=hF g hf (ae hg);rw[h1] at hg;injection hg with hg
 exact ht cs e z hg.symm h2
theorem Kp.keeps (h:Kp T w w'):aG T w w':=⟨h.1,fun g cs e z hg ht=>h.2 g _ hg (fun cs' e' z' he=>by injection he with _ he;subst he;exact ht)⟩
theorem Kp.imp (h:Kp T w w')(hT:∀e,T e->U e):Kp U w w':=⟨h.1,fun g o hg ht=>h.2 g o hg (fun cs e z he a0=>ht cs e z he (hT e a0))⟩
theorem Kp.heap (h:Kp T w w'){z:Nat×Nat}(hg:w.heap[g]?=some (.cells cs e z))(he:¬T e):w'.heap[g]?=some (.cells cs e z):=h.keeps.2 g cs e z hg he
def bV (u:List Value):List Nat:=(u.getD 1 undef).ownBlock.toList++ (u.getD 2 undef).ownBlock.toList
def Pb (B:Nat)(bs:List Nat)(g:Nat):Prop:=B<=g/\g∉bs
structure Ii (P:Nat->Prop) (B:Nat) (w:World) (u:List Value) (f:Fr) (iv mv:Value) (s:ByteArray) (us:List Value) (L:List (ByteArray×Value)):Prop where
 cells:u = [.int .i64 (if f.obj then 6 else 5),iv,mv,.string s,.bool f.name.isSome]
 name:∀t,f.name=some t->s=t
 items:w.ownsRow B 41 1 iv us.length us
 vals:br (VW P w) us f.items
 mems:xg w B mv L
 names:L.map Prod.fst=f.mems.map Prod.fst
 mvals:br (VW P w) (L.map Prod.snd) (f.mems.map Prod.snd)
 nilI:f.obj=true->iv =.slice none 0 0
 nilM:f.obj=false->mv =.slice none 0 0
def EI (P:Nat->Prop)(B:Nat)(w:World)(u:List Value)(f:Fr):Prop:= ∃iv mv s us L,Ii P B w u f iv mv s us L
theorem EI.len {u:List Value}(h:EI P B w u f):u.length=5:=by obtain⟨_,_,_,_,_,h⟩:=h;rw[h.cells];rfl
def m6 (P:Nat->Prop)(w:World)(dv:Value)(d:Option JV):Prop:=match d with|none=>dv =.nilIface|some j=>VW P w dv j
structure zP (B:Nat) (w:World) (xb:Nat) (frs:List Fr) (done:Option JV) (pv dv:Value) (us:List (List Value)) (bs:List Nat):Prop where
 row:w.heap[xb]?=some (.cells #[pv,dv] 164 (0,0))
 low:B<=xb
 parts:w.ownsRow B 209 5 pv frs.length us.reverse.flatten
 frames:br (fun u f=>EI (Pb B bs) B w u f) us frs
 blocks:us.flatMap bV=bs
 nodup:bs.Nodup
 done:m6 (Pb B bs) w dv done
def fd (B:Nat)(w:World)(xb:Nat)(frs:List Fr)(done:Option JV)(bs:List Nat):Prop:= ∃pv dv us,zP B w xb frs done pv dv us bs
def Mv (top:List Nat)(w w':World):Prop:=w.heap.size<=w'.heap.size/\∀ (g:Nat) (cs:Array Value) (e:TypeId) (z:Nat×Nat),w.heap[g]?=some (.cells cs e z)->TV e->g∉top->w'.heap[g]?=some (.cells cs e z)
theorem Mv.of_below (h:Below w.heap.size w w'):Mv top w w':=⟨h.size,fun g cs e z hg _ _=>(h.block g (ae hg)).trans hg⟩
theorem Mv.of_kp (h:Kp T w w')(hT:∀e,TV e->¬T e):Mv top w w':=⟨h.1,fun g cs e z hg he _=>h.heap hg (hT e he)⟩
theorem Mv.trans {t:List Nat}{a b c:World}(h:Mv t a b)(k:Mv t b c):Mv t a c:=⟨Zb h.1 k.1,fun g cs e z hg he ht=>k.2 g cs e z (h.2 g cs e z hg he ht) he ht⟩
theorem Mv.of_chg (h:a8 F w w')(hF:∀g,F g->g<w.heap.size->g∈top\/∃cs e z,w.heap[g]?=some (.cells cs e z)/\¬TV e):Mv top w w':=by
 refine⟨h.size,fun g cs e z hg he ht=>(h.block g (ae hg) fun hf=>?_).trans hg⟩;rcases hF g hf (ae hg) with h1|⟨cs',e',z',h1,h2⟩
 ·exact ht h1
 ·rw[h1] at hg;injection hg with hg
  injection hg with _ hg _
  subst hg;exact h2 he
theorem VW.move (h:VW (Pb B bs) w v j)(hm:Mv top w w')(ht:∀g∈top,g∈bs)(a0:∀g∈bs',g∈bs\/w.heap.size<=g):VW (Pb B bs') w' v j:=
 h.stay fun g o ⟨h1,h2⟩ hg ⟨cs,e,z,ho,he⟩=>by
  subst ho;refine⟨⟨h1,fun hb=>?_⟩,hm.2 g cs e z hg he (fun h=>h2 (ht g h))⟩;rcases a0 g hb with h3|h3
  ·exact h2 h3
  ·have:=ae hg;omega
theorem kr {k:Nat}{xs:List Value}(h:w.ownsRow B e k v n xs)(hm:Mv top w w')(he:TV e)(ht:∀g,v.ownBlock=some g->g∉top):w'.ownsRow B e k v n xs:=by
 refine bz h fun b hb=>?_
 obtain⟨_,cur,hg⟩:=ak h hb;rw[hg];exact hm.2 b cur e _ hg he (ht b hb)
theorem EI.move {u:List Value}(h:EI (Pb B bs) B w u f)(hm:Mv top w w')(ht:∀g∈top,g∈bs)(a0:∀g∈bs',g∈bs\/w.heap.size<=g)(hu:∀g∈bV u,g∉top):EI (Pb B bs') B w' u f:=by
 obtain⟨iv,mv,s,us,L,h1,h2,h3,h4,h5,h6,h7,h8,h9⟩:=h;subst h1;refine⟨iv,mv,s,us,L,rfl,h2,kr h3 hm (.inr (.inr (.inl rfl))) (fun g e=>hu g ?_),h4.mono fun _ _ h=>h.move hm ht a0,kr h5 hm (.inr (.inr (.inr rfl))) (fun g e=>hu g ?_),h6,h7.mono fun _ _ h=>h.move hm ht a0,h8,h9⟩
 ·simp[bV,e]
 ·simp[bV,e]
theorem m6.move {d:Option JV}(h:m6 (Pb B bs) w dv d)(hm:Mv top w w')(ht:∀g∈top,g∈bs)(a0:∀g∈bs',g∈bs\/w.heap.size<=g):m6 (Pb B bs') w' dv d:=by
 cases d with
 |none=>exact h
 |some j=>exact VW.move h hm ht a0
def TB (e:TypeId):Prop:=TV e\/e=164\/e=209
theorem fd.kp {done:Option JV}(h:fd B w xb frs done bs)(hk:Kp T w w')(hT:∀e,TB e->¬T e):fd B w' xb frs done bs:=by
 obtain⟨pv,dv,us,h1,h2,h3,h4,h5,h6,h7⟩:=h;have hm:Mv [] w w':=Mv.of_kp hk (fun e he=>hT e (.inl he));have a0:∀g∈bs,g∈bs\/w.heap.size<=g:=fun g h=>.inl h
 exact⟨pv,dv,us,hk.heap h1 (hT _ (.inr (.inl rfl))),h2,al h3 hk.keeps (hT _ (.inr (.inr rfl))),h4.mono fun _ _ h=>h.move hm (by simp) a0 (by simp),h5,h6,h7.move hm (by simp) a0⟩
theorem fd.below {done:Option JV}(h:fd B w xb frs done bs)(hb:Below w.heap.size w w'):fd B w' xb frs done bs:=h.kp (T:=fun _=>False) (Kp.of_below _ hb) (fun _ _ h=>h)
