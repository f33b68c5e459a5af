import Derived.Test.YtafobflehfecpaaGreatDoorGZ15ac
import Derived.StillTailTactics
import Derived.Deep.CutBlock
set_option linter.unusedVariables false
set_option linter.unusedSimpArgs false
namespace Go.Proofs.YtafobflehfecpaaGreatDoor
open Go.RowKit
variable {cells old:Array Value}{p:ByteArray}{l m y:List ByteArray}{xs:List UInt8}{g n r:Nat}{ty:TypeId}{v:Value}{w w':World}
theorem Cb {a b:ByteArray}:a.toList=b.toList↔a=b:=by
 rw[ByteArray.toList_eq,ByteArray.toList_eq];refine⟨fun h=>?_,fun h=>by rw[h]⟩
 cases a;cases b;simp at h;simp[h]
theorem dK (a b:ByteArray):(a.toList==b.toList)=decide (a=b):=by
 rw[Bool.eq_iff_iff,beq_iff_eq,decide_eq_true_iff];exact Cb
abbrev es:ByteArray:=⟨#[]⟩
def FA:Dc:=⟨false,es,0⟩
def Wr (w:World)(v:Value):Prop:=v =.slice none 0 0\/∃g c b p s,v =.slice (some ⟨g,0,none⟩) 1 c/\w.cell? ⟨g,0,none⟩=some (.bool b)/\w.cell? ⟨g,1,none⟩=some (.int .i64 p)/\w.cell? ⟨g,2,none⟩=some (.string s)
theorem Wr.below (h:Wr w v)(hb:Below w.heap.size w w'):Wr w' v:=by
 rcases h with rfl|⟨g,c,b,p,s,rfl,h1,h2,h3⟩
 ·exact .inl rfl
 ·exact .inr ⟨g,c,b,p,s,rfl,Zg hb h1,Zg hb h2,Zg hb h3⟩
def fR (c h l:Int)(s:Value):Value:=.agg #[.int .i64 c,.int .i64 h,.int .i64 l,s]
def C6 (w:World)(c:Int)(v:Value):Prop:= ∃h l s,v=fR c h l s/\Wr w s
def GP (w:World)(c:Int)(e:Ending)(w':World):Prop:= ∃v,e =.returned v/\C6 w' c v/\Below w.heap.size w w'
theorem C6.below {c:Int}(h:C6 w c v)(hb:Below w.heap.size w w'):C6 w' c v:=by
 obtain⟨a,l,s,rfl,hs⟩:=h;exact⟨a,l,s,rfl,hs.below hb⟩
theorem Wr.slice (h:Wr w v):∃A n c,v =.slice A n c/\n<=1:=by
 rcases h with rfl|⟨g,c,b,p,s,rfl,_⟩
 ·exact⟨_,_,_,rfl,by omega⟩
 ·exact⟨_,_,_,rfl,by omega⟩
theorem cO:(Tryz.prog.info? 74).map (·.size)=some 4:=by kernel_rfl
theorem fP (c:Int)(w:World):Calls Tryz.prog 76 #[.int .i64 c] w (GP w c):=by
 go_enter Tryz.func76,Tryz.ntmps76;go_wp2;exact Zh (results_cell_row Tryz.results76 _ _ w.heap.size 74 #[.int .i64 c,.int .i64 0,.int .i64 0,.slice none 0 0] (0,0) _ (by simp) (Zf w _) Tryz.underlying74 rfl cO) rfl ⟨_,rfl,⟨0,0,_,rfl,.inl rfl⟩,ac _ _⟩
theorem po (c h l:Int){s:Value}(hs:s.oneCell'=true):(#[.int .i64 c,.int .i64 h,.int .i64 l,s]:Array Value).all (·.oneCell')=true:=by
 simp[hs,show ∀n,(Value.int .i64 n).oneCell'=true from fun _=>rfl]
theorem dl {fn:Func}{p q:Tmp}(h:fn.results = #[.tmp p,.cell q 74])(tmps:Array Value)(w:World)(g:Nat)(t:TypeId)(c0 c1 c2 c3:Value)(fr:Nat×Nat)
  (hp:tmps.getD q undef =.pointer (some ⟨g,0,none⟩)) (hg:w.heap[g]?=some (.cells #[c0,c1,c2,c3] t fr)) :
  (results fn tmps).run Tryz.prog w =.ok (.tuple #[tmps.getD p undef,.agg #[c0,c1,c2,c3]]) w:=by
 have a0:tmps[q]?.getD undef =.pointer (some ⟨g,0,none⟩):=by simpa using hp
 have hl:=run_loadVar_row (P:=Tryz.prog) w g t 74 #[c0,c1,c2,c3] fr _ hg Tryz.underlying74 rfl cO;simp[results,h,a0,asAddr,hl]
theorem lI {ops:Array Oper}{o:Oper}{a:Act}{K:Act->World->Prop}{Q:Exit->Act->World->Prop}{E:Prop}(a1:o.guard=none)(ty:TypeId)(x y:Operand)(ho:o.op =.store ty x y)
  (g:Nat) (cells:Array Value) (hx:a.eval x =.pointer (some ⟨g,0,none⟩)) (hy:a.eval y =.agg cells)
  (t:TypeId) (old:Array Value) (hg:w.heap[g]?=some (.cells old t (0,0))) (hi:(Tryz.prog.info? ty).map (·.size)=some cells.size)
  (a0:old.size=cells.size) (h1:cells.all (·.oneCell')=true)
  (h:K (a.put o.dst undef) (w.setRow g cells)):if Region.wanted o (yielded ops a.tmps)=true then Oper.wp Tryz.prog o a w K Q else E:=by
 have hw:Region.wanted o (yielded ops a.tmps)=true:=by simp[Region.wanted,a1]
 rw[if_pos hw];exact wp_store_row ty x y ho g cells hx hy t old hg hi a0 h1 h
theorem kW {ops:Array Oper}{o:Oper}{a:Act}{K:Act->World->Prop}{Q:Exit->Act->World->Prop}{E:Prop}{t:TypeId}{x y:Operand}(hg:w.heap[g]?=some (.cells old t (0,0)))(h:K (a.put o.dst undef) (w.setRow g cells))
  (ho:o.op =.store ty x y:=by exact rfl) (hx:a.eval x =.pointer (some ⟨g,0,none⟩):=by exact rfl) (hy:a.eval y =.agg cells:=by exact rfl) (a1:o.guard=none:=by exact rfl)
  (hi:(Tryz.prog.info? ty).map (·.size)=some cells.size:=by kernel_rfl) (a0:old.size=cells.size:=by exact rfl) (h1:cells.all (·.oneCell')=true:=by simp[Value.oneCell']):if Region.wanted o (yielded ops a.tmps)=true then Oper.wp Tryz.prog o a w K Q else E:=
 lI a1 ty x y ho g cells hx hy t old hg hi a0 h1 h
def iF (l:List UInt8):Prop:= ∃cs:List Int,(∀c∈cs,ce c=true)/\l=cs.flatMap aO
theorem iF.nil:iF []:=⟨[],by simp,rfl⟩
theorem iF.snoc {l:List UInt8}{c:Int}(h:iF l)(hc:ce c=true):iF (l++aO c):=by
 obtain⟨cs,h1,rfl⟩:=h;refine⟨cs ++ [c],fun d hd=>?_,by simp⟩;rcases List.mem_append.1 hd with h|h
 ·exact h1 d h
 ·rw[List.mem_singleton] at h;rw[h];exact hc
def GK (d:Dc):Prop:=d= ⟨false,⟨#[48]⟩,0⟩\/(0<d.digits.size/\(∀i (h:i<d.digits.size),48<=d.digits[i].toNat/\d.digits[i].toNat<=57)/\(∀h:0<d.digits.size,d.digits[0].toNat≠48)/\(∀h:d.digits.size - 1<d.digits.size,d.digits[d.digits.size - 1].toNat≠48)/\ -1000000000<=d.exp/\d.exp<=1000000000)
structure Tk where
 kind:Int
 at_:Int
 mark:Int
 str:ByteArray
 num:Dc
def S4 (fb:Nat)(w:World):Prop:=w.cell? ⟨fb,0,none⟩=some (.int .i64 0)/\w.cell? ⟨fb,1,none⟩=some (.int .i64 0)/\w.cell? ⟨fb,2,none⟩=some (.int .i64 0)/\w.cell? ⟨fb,3,none⟩=some (.slice none 0 0)
theorem gh {b:Nat}(h:w.cell? ⟨b,n,none⟩=some v)(hg:w.grownBy w' (some r))(hr:b≠r):w'.cell? ⟨b,n,none⟩=some v:=hg.cell h fun e=>by injection e with e;exact hr e
theorem S4.keep {fb:Nat}(h:S4 fb w)(hg:w.grownBy w' (some r))(hr:fb≠r):S4 fb w':=by
 exact⟨gh h.1 hg hr,gh h.2.1 hg hr,gh h.2.2.1 hg hr,gh h.2.2.2 hg hr⟩
def dC (bad:UInt8->Int):Nat->List UInt8->List Int
 |0,_=> []
 |_+1, []=> []
 |f+1,x::t=>if(a7 (x::t)).2.2=0 then((a7 (x::t)).1:Int)::dC bad f ((x::t).drop (a7 (x::t)).2.1) else bad x::dC bad f t
def iX (bad:UInt8->Int)(xs:List UInt8):List Int:=dC bad xs.length xs
theorem jE (bad:UInt8->Int):∀ (f g:Nat) (xs:List UInt8),xs.length<=f->xs.length<=g->dC bad f xs=dC bad g xs
 |0,g,xs,h,_=>by
  obtain rfl:xs = []:=List.eq_nil_of_length_eq_zero (by omega)
  cases g <;> rfl
 |f+1,g, [],_,_=>by cases g <;> rfl
 |f+1,0,x::t,_,h=>by simp at h
 |f+1,g+1,x::t,h1,h2=>by
  simp only[List.length_cons] at h1 h2;unfold dC
  split
  ·rename_i h
   have hp:=dL h;rw[jE bad f g _ (by rw[List.length_drop,List.length_cons];omega) (by rw[List.length_drop,List.length_cons];omega)]
  ·rw[jE bad f g t (by omega) (by omega)]
theorem lT {bad:UInt8->Int}(h0:xs≠ [])(h:(a7 xs).2.2=0):iX bad xs= ((a7 xs).1:Int)::iX bad (xs.drop (a7 xs).2.1):=by
 cases xs with
 |nil=>exact absurd rfl h0
 |cons x t=>
  have hp:=dL h;unfold iX;rw[List.length_cons,dC,if_pos h,jE bad t.length _ _ (by rw[List.length_drop,List.length_cons];omega) (Zb _)]
theorem xY {bad:UInt8->Int}{x:UInt8}{t:List UInt8}(h:(a7 (x::t)).2.2≠0):iX bad (x::t)=bad x::iX bad t:=by
 unfold iX;rw[List.length_cons,dC,if_neg h]
theorem ld (bad:UInt8->Int):∀ {cs:List Int},(∀c∈cs,ce c=true)->iX bad (cs.flatMap aO)=cs
 | [],_=>rfl
 |c::cs,h=>by
  have hc:=h c (by simp);have h0:=bY hc;obtain⟨n,rfl⟩:∃n:Nat,c=n:=⟨c.toNat,by omega⟩;have hd:=ea n hc (cs.flatMap aO);rw[List.flatMap_cons,lT (by simp[fO hc]) (by rw[hd]),hd];simp only[List.drop_left];rw[ld bad (fun c hm=>h c (Zl _ hm))]
def wT (x:UInt8):Int:=1114112+x.toNat
def Gn (c:Int):List UInt8:=if c<1114112 then aO c else [UInt8.ofNat (c - 1114112).toNat]
theorem e8:∀ (n:Nat) (xs:List UInt8),xs.length<=n->(iX wT xs).flatMap Gn=xs
 |_, [],_=>rfl
 |0,x::t,h=>by simp at h
 |n+1,x::t,h=>by
  simp only[List.length_cons] at h
  by_cases hd:(a7 (x::t)).2.2=0
  ·have ⟨h1,h2⟩:=gd hd;have hp:=dL hd;rw[lT (by simp) hd,List.flatMap_cons,e8 n _ (by rw[List.length_drop,List.length_cons];omega)];unfold Gn;rw[if_pos (by have:=BY h2;omega),h1,List.take_append_drop]
  ·rw[xY hd,List.flatMap_cons,e8 n t (by omega)];unfold Gn wT;rw[if_neg (by have:=x.toNat_lt;omega),show(1114112+ (x.toNat:Int) - 1114112).toNat=x.toNat by omega,UInt8.ofNat_toNat];rfl
def nm (s:ByteArray):List Int:=iX wT s.data.toList
theorem uD {s t:ByteArray}(h:nm s=nm t):s=t:=by
 have h1:=e8 _ s.data.toList (Zb _);have h2:=e8 _ t.data.toList (Zb _);unfold nm at h;rw[h,h2] at h1
 cases s with|mk s=>cases t with|mk t=>simp at h1;simp[h1]
def aI:List Int->List Int->Int
 | [], []=>0
 | [],_::_=> -1
 |_::_, []=>1
 |a::x,b::y=>if a<b then -1 else if b<a then 1 else aI x y
theorem iY:∀ {x y:List Int},aI x y=0->x=y
 | [], [],_=>rfl
 | [],_::_,h=>by simp[aI] at h
 |_::_, [],h=>by simp[aI] at h
 |a::x,b::y,h=>by
  unfold aI at h
  split at h
  ·simp at h
  ·split at h
   ·simp at h
   ·rw[iY h,show a=b by omega]
theorem gc:∀x:List Int,aI x x=0
 | []=>rfl
 |a::x=>by unfold aI;rw[if_neg (by omega),if_neg (by omega),gc x]
theorem jB:∀x y:List Int,aI y x = - aI x y
 | [], []=>rfl
 | [],_::_=>rfl
 |_::_, []=>rfl
 |a::x,b::y=>by
  unfold aI
  by_cases h1:a<b
  ·rw[if_neg (by omega),if_pos h1,if_pos h1];rfl
  ·by_cases h2:b<a
   ·rw[if_pos h2,if_neg h1,if_pos h2];try rfl
   ·rw[if_neg h2,if_neg h1,if_neg h1,if_neg h2,jB x y]
theorem iw:∀ {x y z:List Int},aI x y<0->aI y z<0->aI x z<0
 | [],y, [],h1,h2=>by cases y <;> simp[aI] at h1 h2
 | [],_,_::_,_,_=>by simp[aI]
 |_::_, [],_,h1,_=>by simp[aI] at h1
 |_::_,_::_, [],_,h2=>by simp[aI] at h2
 |a::x,b::y,c::z,h1,h2=>by
  unfold aI at h1 h2 ⊢
  by_cases ab:a<b
  ·rw[if_pos ab] at h1
   by_cases bc:b<c
   ·rw[if_pos (by omega)];omega
   ·rw[if_neg bc] at h2
    by_cases cb:c<b
    ·rw[if_pos cb] at h2;omega
    ·rw[if_pos (by omega)];omega
  ·rw[if_neg ab] at h1
   by_cases ba:b<a
   ·rw[if_pos ba] at h1;omega
   ·rw[if_neg ba] at h1
    by_cases bc:b<c
    ·rw[if_pos (by omega)];omega
    ·rw[if_neg bc] at h2
     by_cases cb:c<b
     ·rw[if_pos cb] at h2;omega
     ·rw[if_neg cb] at h2;rw[if_neg (by omega),if_neg (by omega)];exact iw h1 h2
def jw (a b:ByteArray):Prop:=aI (nm a) (nm b)<0
theorem gi {a b c:ByteArray}(h1:jw a b)(h2:jw b c):jw a c:=iw h1 h2
theorem ir (a:ByteArray):¬jw a a:=by unfold jw;rw[gc];omega
theorem jy {a b:ByteArray}(h:¬jw a b)(hne:a≠b):jw b a:=by
 unfold jw at *;have h1:=jB (nm a) (nm b)
 by_cases h0:aI (nm a) (nm b)=0
 ·exact absurd (uD (iY h0)) hne
 ·omega
theorem up {a b:ByteArray}(h:jw a b):a≠b:=fun e=>by subst e;exact ir _ h
def CM (ns:List ByteArray):Prop:=ns.Pairwise jw
theorem mZ {α:Type}{f:α->ByteArray}:∀ {l m:List α},l.Perm m->(l.map f).Pairwise jw->(m.map f).Pairwise jw->l=m
 | [],m,hp,_,_=>by have:=hp.length_eq;simp at this;rw[List.eq_nil_of_length_eq_zero this.symm]
 |a::l, [],hp,_,_=>by have:=hp.length_eq;simp at this
 |a::l,b::m,hp,h1,h2=>by
  simp only[List.map_cons,List.pairwise_cons] at h1 h2
  by_cases hab:a=b
  ·subst hab;rw[mZ (List.Perm.cons_inv hp) h1.2 h2.2]
  ·have hb:b∈a::l:=hp.mem_iff.2 (by simp);have ha:a∈b::m:=hp.mem_iff.1 (by simp);have a0:b∈l:=by rcases List.mem_cons.1 hb with e|h;exact absurd e.symm hab;exact h
   have a1:a∈m:=by rcases List.mem_cons.1 ha with e|h;exact absurd e hab;exact h
   exact absurd (gi (h1.1 (f b) (List.mem_map_of_mem a0)) (h2.1 (f a) (List.mem_map_of_mem a1))) (ir _)
def AC (n:Nat)(f:Nat->Nat):Nat×Nat:=
 if f 0<128 then(f 0,1)
 else if f 0/32=6/\(1<n/\f 1/64=2) then(if(f 0 % 32)*64+f 1 % 64 ≥ 128 then((f 0 % 32)*64+f 1 % 64,2) else(65533,1))
 else if(f 0/16=14/\(1<n/\f 1/64=2))/\(2<n/\f 2/64=2) then
  (if(f 0 % 16)*4096+ (f 1 % 64)*64+f 2 % 64 ≥ 2048/\Utf8.valid (((f 0 % 16)*4096+ (f 1 % 64)*64+f 2 % 64:Nat):Int)=true then((f 0 % 16)*4096+ (f 1 % 64)*64+f 2 % 64,3) else(65533,1))
 else if((f 0/8=30/\(1<n/\f 1/64=2))/\(2<n/\f 2/64=2))/\(3<n/\f 3/64=2) then
  (if(f 0 % 8)*262144+ (f 1 % 64)*4096+ (f 2 % 64)*64+f 3 % 64 ≥ 65536/\Utf8.valid (((f 0 % 8)*262144+ (f 1 % 64)*4096+ (f 2 % 64)*64+f 3 % 64:Nat):Int)=true then((f 0 % 8)*262144+ (f 1 % 64)*4096+ (f 2 % 64)*64+f 3 % 64,4) else(65533,1))
 else(65533,1)
theorem tC (s:ByteArray)(i k:Nat):(s.get! (i+k)).toNat=am (s.data.toList.drop i) k:=by
 rw[fH];unfold am
 show(s.data[i+k]!).toNat=_
 rw[List.getD_eq_getElem?_getD,Array.getElem?_toList,getElem!_def]
 cases s.data[i+k]? <;> rfl
theorem rT (s:ByteArray)(i:Nat):Utf8.decode s i=AC (s.data.toList.drop i).length (am (s.data.toList.drop i)):=by
 have hn:∀k,(i+k<s.size)= (k< (s.data.toList.drop i).length):=by
  intro k;rw[List.length_drop,Array.length_toList];show(i+k<s.data.size)=_;exact propext ⟨fun h=>by omega,fun h=>by omega⟩
 unfold Utf8.decode AC;simp only[tC,hn,Utf8.runeError,Bool.and_eq_true,decide_eq_true_eq,beq_iff_eq,and_assoc]
theorem ji (n:Nat):Utf8.valid (n:Int)=true↔n<=1114111/\¬ (55296<=n/\n<=57343):=by
 unfold Utf8.valid;simp;omega
theorem BU (h0:xs≠ []):AC xs.length (am xs)=if(a7 xs).2.2=0 then((a7 xs).1,(a7 xs).2.1) else(65533,1):=by
 by_cases hd:(a7 xs).2.2=0
 ·rw[if_pos hd];rcases jl hd with ⟨a,t,rfl,h1,e⟩|⟨a,b,t,rfl,h1,hs,e⟩|⟨a,b,c,t,rfl,h1,hs,ht,e⟩|⟨a,b,c,d,t,rfl,h1,hs,ht,a1,e⟩ <;> rw[e] <;> unfold AC <;> simp only[ji]
  ·rw[wh,if_pos h1]
  ·unfold fG at hs;have hb:=b8 b;rw[wh,Ca,if_neg (by omega),if_pos ⟨by omega,by simp,by omega⟩,if_pos (by omega)]
  ·unfold fG at hs;unfold tl at ht;have hb:=b8 b;have hc:=b8 c;rw[wh,Ca,EZ,if_neg (by omega),if_neg (by omega),if_pos ⟨⟨by omega,by simp,by omega⟩,by simp,by omega⟩,if_pos (by omega)]
   congr 1;omega
  ·unfold fG at hs;unfold tl at ht a1;have hb:=b8 b;have hc:=b8 c;have a0:=b8 d;rw[wh,Ca,EZ,Gb,if_neg (by omega),if_neg (by omega),if_neg (by omega),if_pos ⟨⟨⟨by omega,by simp,by omega⟩,by simp,by omega⟩,by simp,by omega⟩,if_pos (by omega)]
   congr 1;omega
 ·rw[if_neg hd];unfold AC;simp only[ji]
  cases xs with
  |nil=>exact absurd rfl h0
  |cons a t=>
   have ha:=b8 a
   by_cases h1:a.toNat<128
   ·exact absurd (by rw[oh a t h1]) hd
   rw[wh,if_neg h1]
   split
   ·rename_i h2
    split
    ·rename_i h3
     cases t with
     |nil=>simp at h2
     |cons b t=>
      rw[Ca] at h2 h3;have hb:=b8 b;exact absurd (by rw[ux a (b::t) (by omega)];simp only;rw[if_pos (by unfold fG;omega)]) hd
    ·rfl
   ·split
    ·rename_i h2
     split
     ·rename_i h3
      rcases t with _|⟨b,_|⟨c,t⟩⟩
      ·simp at h2
      ·simp at h2
      ·rw[Ca,EZ] at h2 h3;have hb:=b8 b;have hc:=b8 c;exact absurd (by rw[uB a (b::c::t) (by omega)];simp only;rw[if_pos (by unfold fG;omega),if_pos (by unfold tl;omega)]) hd
     ·rfl
    ·split
     ·rename_i h2
      split
      ·rename_i h3
       rcases t with _|⟨b,_|⟨c,_|⟨d,t⟩⟩⟩
       ·simp at h2
       ·simp at h2
       ·simp at h2
       ·rw[Ca,EZ,Gb] at h2 h3;have hb:=b8 b;have hc:=b8 c;have a0:=b8 d;exact absurd (by rw[vb a (b::c::d::t) (by omega)];simp only;rw[if_pos (by unfold fG;omega),if_pos (by unfold tl;omega),if_pos (by unfold tl;omega)]) hd
      ·rfl
     ·rfl
theorem iu (s:ByteArray)(i:Nat)(h:i<s.size):Utf8.decode s i=if(a7 (s.data.toList.drop i)).2.2=0 then((a7 (s.data.toList.drop i)).1,(a7 (s.data.toList.drop i)).2.1) else(65533,1):=by
 rw[rT];apply BU;intro e;have:=congrArg List.length e;rw[List.length_drop,Array.length_toList] at this;have:s.size=s.data.size:=rfl;simp at *;omega
theorem Bq:aO ((65533:Nat):Int) = [239,191,189]:=by rw[lK 65533 (by omega) (by omega)];rfl
theorem xQ:cX aI:=by
 constructor
 ·intro x y;have:=jB x y;omega
 ·intro x y z h1 h2
  by_cases e1:aI x y=0
  ·rw[iY e1];exact h2
  ·by_cases e2:aI y z=0
   ·rw[<-iY e2];exact h1
   ·have:=iw (show aI x y<0 by omega) (show aI y z<0 by omega);omega
def CF (x y:List UInt8):Int:=aI (nm ⟨x.toArray⟩) (nm ⟨y.toArray⟩)
theorem rC:cX CF:=xQ.by fun x:List UInt8=>nm ⟨x.toArray⟩
theorem zj {x y:List UInt8}(h:CF x y=0):x=y:=by
 have h1:=uD (iY h);injection h1 with h1
 exact List.toArray_inj h1
def xf (a b:ByteArray):Int:=ur (cB CF (bi a.data.toList) (bi b.data.toList))
theorem qD:cX xf:=((jJ rC).by fun a:ByteArray=>bi a.data.toList).sgn
def Bu (s:ByteArray):Prop:=Gc s.data.toList
theorem pL {a b:ByteArray}(ha:Bu a)(hb:Bu b)(h:xf a b=0):a=b:=by
 have h1:cB CF (bi a.data.toList) (bi b.data.toList)=0:=by
  unfold xf ur at h
  split at h
  ·omega
  ·split at h <;> omega
 have h2:=xk ha hb (mS _ _ (fun x _ y _ e=>zj e) h1)
 cases a with|mk a=>cases b with|mk b=>simp at h2;simp[h2]
def uv (a b:ByteArray):Int:=cB (fun x y:UInt8=>mI x.toNat y.toNat) a.data.toList b.data.toList
theorem xw:cX uv:=(jJ (xH.by fun x:UInt8=>x.toNat)).by fun a:ByteArray=>a.data.toList
theorem yg {a b:ByteArray}(h:uv a b=0):a=b:=by
 have h2:=mS _ _ (fun x _ y _ e=>UInt8.toNat_inj.1 (xR e)) h
 cases a with|mk a=>cases b with|mk b=>simp at h2;simp[h2]
structure En where
 eAt:ByteArray
 eSch:ByteArray
 eKw:ByteArray
 deriving DecidableEq,Inhabited
def pt (a b:En):Int:=E6 (xf a.eAt b.eAt) (E6 (xf a.eSch b.eSch) (uv a.eKw b.eKw))
theorem b7:cX pt:=(qD.by En.eAt).or ((qD.by En.eSch).or (xw.by En.eKw))
def Gd (a:En):Prop:=Bu a.eAt/\Bu a.eSch
theorem zN {a b:En}(ha:Gd a)(hb:Gd b)(h:pt a b=0):a=b:=by
 unfold pt E6 at h
 split at h
 ·next e1=>
  split at h
  ·next e2=>
   cases a;cases b
   simp only[En.mk.injEq];exact⟨pL ha.1 hb.1 e1,pL ha.2 hb.2 e2,yg h⟩
  ·next e2=>exact absurd h e2
 ·next e1=>exact absurd h e1
theorem pu {α:Type}{c:α->α->Int}(h:cX c):∀l m:List α,l.Pairwise (fun a b=>c a b<0)->m.Pairwise (fun a b=>c a b<0)->(∀x,x∈l↔x∈m)->l=m
 | [], [],_,_,_=>rfl
 | [],y::m,_,_,e=>by have:=(e y).2 (by simp);simp at this
 |x::l, [],_,_,e=>by have:=(e x).1 (by simp);simp at this
 |x::l,y::m,hl,hm,e=>by
  rw[List.pairwise_cons] at hl hm;have exy:x=y:=by
   rcases List.mem_cons.1 ((e x).1 (by simp)) with r|r
   ·exact r
   ·rcases List.mem_cons.1 ((e y).2 (by simp)) with s|s
    ·exact s.symm
    ·have a:=hm.1 x r;have b:=hl.1 y s;have:=h.ctn x y;omega
  subst exy;have hne:∀z,c x z<0->z≠x:=fun z hz e=>by subst e;have:=h.refl z;omega
  rw[pu h l m hl.2 hm.2 fun z=>by
   constructor
   ·intro hz;rcases List.mem_cons.1 ((e z).1 (by simp[hz])) with r|r
    ·exact absurd r (hne z (hl.1 z hz))
    ·exact r
   ·intro hz;rcases List.mem_cons.1 ((e z).2 (by simp[hz])) with r|r
    ·exact absurd r (hne z (hm.1 z hz))
    ·exact r]
def nU {α:Type} [DecidableEq α]:List α->List α
 |x::y::t=>if x=y then nU (y::t) else x::nU (y::t)
 |l=>l
theorem oo {α:Type} [DecidableEq α] (z:α):∀l:List α,z∈nU l↔z∈l
 | []=>by simp[nU]
 | [x]=>by simp[nU]
 |x::y::t=>by
  have ih:=oo z (y::t);unfold nU
  split
  ·next e=>rw[ih,e];simp
  ·rw[List.mem_cons,ih];simp only[List.mem_cons]
theorem wv {α:Type} [DecidableEq α] {c:α->α->Int}(h:cX c):∀l:List α,(∀x∈l,∀y∈l,c x y=0->x=y)->l.Pairwise (fun a b=> ¬c b a<0)->(nU l).Pairwise (fun a b=>c a b<0)
 | [],_,_=>by simp[nU]
 | [x],_,_=>by simp[nU]
 |x::y::t,hz,hp=>by
  have a0:=List.pairwise_cons.1 hp;have hy:=List.pairwise_cons.1 a0.2;have ih:=wv h (y::t) (fun a ha b hb=>hz a (by simp[ha]) b (by simp[hb])) a0.2;unfold nU
  split
  ·exact ih
  ·next hne=>
   rw[List.pairwise_cons];refine⟨fun z hm=>?_,ih⟩;have a1:c x y<0:=by
    have a:=a0.1 y (by simp);have b:=h.ctn x y;have d:=h.ctn y x
    by_cases k:c x y=0
    ·exact absurd (hz x (by simp) y (by simp) k) hne
    ·omega
   rcases List.mem_cons.1 ((oo z _).1 hm) with r|r
   ·rw[r];exact a1
   ·have a:=hy.1 z r;have b:=h.ctn z y;have d:=h.ctn y z;exact h.lt a1 (by omega)
def bE (a r:ByteArray):Bool:=decide (a=r)||(r.data.toList ++ [47]).isPrefixOf a.data.toList
theorem fk {a r:ByteArray}:bE a r=true↔a=r\/∃t,r.data.toList++47::t=a.data.toList:=by
 unfold bE;rw[Bool.or_eq_true,decide_eq_true_iff,List.isPrefixOf_iff_prefix]
 constructor
 ·rintro(h|⟨t,h⟩)
  ·exact .inl h
  ·exact .inr ⟨t,by rw[<-h];simp⟩
 ·rintro(h|⟨t,h⟩)
  ·exact .inl h
  ·exact .inr ⟨t,by rw[<-h];simp⟩
theorem rt (a:ByteArray):bE a a=true:=fk.2 (.inl rfl)
theorem jr {a b c:ByteArray}(h1:bE a b=true)(h2:bE b c=true):bE a c=true:=by
 rcases fk.1 h1 with rfl|⟨t,h1⟩
 ·exact h2
 ·rcases fk.1 h2 with rfl|⟨u,h2⟩
  ·exact fk.2 (.inr ⟨t,h1⟩)
  ·exact fk.2 (.inr ⟨u++47::t,by rw[<-h1,<-h2];simp⟩)
theorem i7 {a b:ByteArray}(h:bE a b=true):a=b\/b.size<a.size:=by
 rcases fk.1 h with h|⟨t,h⟩
 ·exact .inl h
 ·have:=congrArg List.length h;simp at this;exact .inr (by omega)
theorem Bl {a b:ByteArray}(h1:bE a b=true)(h2:bE b a=true):a=b:=by
 rcases i7 h1 with h|h
 ·exact h
 ·rcases i7 h2 with h'|h'
  ·exact h'.symm
  ·omega
def dq (a:ByteArray)(l:List ByteArray):Bool:=l.any (bE a)
theorem bL {a:ByteArray}:dq a l=true↔∃q∈l,bE a q=true:=by simp[dq]
def kI:ByteArray:=⟨#[120,45,115,101,99,114,101,116]⟩
def fC (p:ByteArray):En:=⟨p,⟨#[]⟩,kI⟩
def sc (l:List ByteArray)(p:ByteArray):Bool:= !l.any fun q=> !decide (q=p)&&bE p q
def rY (l:List ByteArray)(p:ByteArray):Prop:= ∀q∈l,bE p q=true->q=p
theorem vK:sc l p=true↔rY l p:=by
 simp only[sc,rY,Bool.not_eq_true',List.any_eq_false,Bool.and_eq_true,Bool.not_eq_true',decide_eq_false_iff_not,not_and]
 constructor
 ·intro h q hq hu;refine Classical.byContradiction fun hn=>h q hq hn hu
 ·intro h q hq hn hu;exact hn (h q hq hu)
def d8 (l:List ByteArray):Nat->List ByteArray
 |0=> []
 |k+1=>if sc l (l.getD k ⟨#[]⟩)&& !(l.take k).any (fun q=>decide (q=l.getD k ⟨#[]⟩)) then d8 l k ++ [l.getD k ⟨#[]⟩] else d8 l k
theorem pN (p:ByteArray):∀ {k:Nat},k<=l.length->(p∈d8 l k↔p∈l.take k/\rY l p):=by
 intro k
 induction k with
 |zero=>intro _;simp[d8]
 |succ k ih=>
  intro hk;have ih:=ih (by omega);have hg:l.getD k ⟨#[]⟩=l[k]:=by rw[List.getD_eq_getElem?_getD,Zd (by omega)];rfl
  have ht:l.take (k+1)=l.take k ++ [l[k]]:=by rw[List.take_succ_eq_append_getElem (by omega)]
  rw[d8,hg,ht]
  by_cases hc:(sc l l[k]&& !(l.take k).any (fun q=>decide (q=l[k])))=true
  ·rw[if_pos hc,List.mem_append,List.mem_append,ih,List.mem_singleton];rw[Bool.and_eq_true] at hc;have:=vK.1 hc.1
   constructor
   ·rintro(h|rfl)
    ·exact⟨.inl h.1,h.2⟩
    ·exact⟨.inr rfl,this⟩
   ·rintro⟨h|h,h2⟩
    ·exact .inl ⟨h,h2⟩
    ·exact .inr h
  ·rw[if_neg hc,ih,List.mem_append,List.mem_singleton]
   constructor
   ·exact fun h=>⟨.inl h.1,h.2⟩
   ·rintro⟨h|rfl,h2⟩
    ·exact⟨h,h2⟩
    ·rw[Bool.and_eq_true,not_and] at hc;have:=hc (vK.2 h2);exact⟨by simpa using this,h2⟩
theorem lx (l:List ByteArray):∀k,(d8 l k).length<=k
 |0=>by simp[d8]
 |k+1=>by
  have:=lx l k;rw[d8]
  split <;> simp <;> omega
def eA (x:List En)(y:List ByteArray):List En:=(x.filter fun b=> !dq b.eAt y)++ (d8 y y.length).map fC
theorem bM {x:List En}{e:En}:e∈eA x y↔(e∈x/\dq e.eAt y=false)\/∃p∈y,rY y p/\e=fC p:=by
 simp only[eA,List.mem_append,List.mem_filter,List.mem_map,Bool.not_eq_true'];refine or_congr Iff.rfl ⟨?_,?_⟩
 ·rintro⟨p,h1,rfl⟩;have:=(pN p (Zb _)).1 h1;rw[List.take_length] at this;exact⟨p,this.1,this.2,rfl⟩
 ·rintro⟨p,h1,h2,rfl⟩;exact⟨p,(pN p (Zb _)).2 ⟨by rw[List.take_length];exact h1,h2⟩,rfl⟩
structure br (x:List En) (y:List ByteArray) (es:List En):Prop where
 rise:es.Pairwise fun a b=>pt a b<0
 mem:∀e,e∈es↔e∈eA x y
theorem br.uniq {x l:List En}{es fs:List En}(h1:br x y es)(h2:br l m fs)(h:∀e,e∈eA x y↔e∈eA l m):es=fs:=
 pu b7 _ _ h1.rise h2.rise fun e=>by rw[h1.mem,h2.mem,h]
theorem br.of_sort {x:List En}{s:List En}(hz:∀a∈eA x y,Gd a)(hp:s.Perm (eA x y))(hs:s.Pairwise fun a b=> ¬pt b a<0):br x y (nU s):=
 ⟨wv b7 s (fun a ha b hb=>zN (hz a (hp.mem_iff.1 ha)) (hz b (hp.mem_iff.1 hb))) hs,fun e=>by rw[oo,hp.mem_iff]⟩
theorem ln (y:List ByteArray):∀ (n:Nat) (a p:ByteArray),p.size<=n->p∈y->bE a p=true->∃q∈y,rY y q/\bE a q=true:=by
 intro n
 induction n with
 |zero=>
  intro a p hp hy hu;refine⟨p,hy,fun q _ h=>?_,hu⟩;rcases i7 h with h|h
  ·exact h.symm
  ·omega
 |succ n ih=>
  intro a p hp hy hu
  by_cases hm:rY y p
  ·exact⟨p,hy,hm,hu⟩
  ·obtain⟨q,hq,h1,h2⟩:∃q,q∈y/\bE p q=true/\q≠p:=by
    refine Classical.byContradiction fun hn=>hm fun q hq h=>?_
    exact Classical.byContradiction fun h'=>hn ⟨q,hq,h,h'⟩
   rcases i7 h1 with h|h
   ·exact absurd h.symm h2
   ·exact ih a q (by omega) hq (jr hu h1)
theorem Dw {a:ByteArray}(h:dq a y=true):∃q∈y,rY y q/\bE a q=true:=by
 obtain⟨p,hp,hu⟩:=bL.1 h;exact ln y p.size a p (Zb _) hp hu
theorem AU {x l:List En}(h1:∀e∈x,e∈l)(h2:∀e∈l,e∈x\/dq e.eAt y=true)(h3:∀p∈y,p∈m)(h4:∀p∈m,p∈y\/dq p y=true)(e:En):e∈eA x y↔e∈eA l m:=by
 have hc:∀a,dq a y=dq a m:=fun a=>by
  rw[Bool.eq_iff_iff]
  constructor
  ·intro h;obtain⟨q,hq,hu⟩:=bL.1 h;exact bL.2 ⟨q,h3 q hq,hu⟩
  ·intro h;obtain⟨q,hq,hu⟩:=bL.1 h;rcases h4 q hq with h|h
   ·exact bL.2 ⟨q,h,hu⟩
   ·obtain⟨r,hr,hv⟩:=bL.1 h;exact bL.2 ⟨r,hr,jr hu hv⟩
 rw[bM,bM];refine or_congr ⟨?_,?_⟩ ⟨?_,?_⟩
 ·rintro⟨a,b⟩;exact⟨h1 e a,by rw[<-hc];exact b⟩
 ·rintro⟨a,b⟩;rw[<-hc] at b;rcases h2 e a with h|h
  ·exact⟨h,b⟩
  ·rw[b] at h;cases h
 ·rintro⟨p,hp,hm,rfl⟩;refine⟨p,h3 p hp,fun q hq hu=>?_,rfl⟩;rcases h4 q hq with h|h
  ·exact hm q h hu
  ·obtain⟨r,hr,hv⟩:=bL.1 h;obtain rfl:=hm r hr (jr hu hv);exact Bl hv hu
 ·rintro⟨p,hp,hm,rfl⟩;rcases h4 p hp with h|h
  ·exact⟨p,h,fun q hq hu=>hm q (h3 q hq) hu,rfl⟩
  ·obtain⟨r,hr,hv⟩:=bL.1 h;obtain rfl:=hm r (h3 r hr) hv;exact⟨r,hr,fun q hq hu=>hm q (h3 q hq) hu,rfl⟩
def df (es:List En):List En:=es.filter fun e=> !decide (e.eKw=kI)
def bN (es:List En):List ByteArray:=(es.filter fun e=>decide (e.eKw=kI)).map En.eAt
section
variable {x:List En}{y:List ByteArray}{es:List En}(h:br x y es)(hk:∀e∈x,e.eKw≠kI)
include h hk
theorem br.bl {e:En}:e∈df es↔e∈x/\dq e.eAt y=false:=by
 simp only[df,List.mem_filter,Bool.not_eq_true',decide_eq_false_iff_not];rw[h.mem,bM]
 constructor
 ·rintro⟨h1|⟨p,_,_,rfl⟩,h2⟩
  ·exact h1
  ·exact absurd rfl h2
 ·exact fun h1=>⟨.inl h1,hk e h1.1⟩
theorem br.pl:p∈bN es↔p∈y/\rY y p:=by
 simp only[bN,List.mem_map,List.mem_filter,decide_eq_true_iff]
 constructor
 ·rintro⟨e,⟨h1,h2⟩,rfl⟩;rw[h.mem,bM] at h1;rcases h1 with h1|⟨p,hp,hm,rfl⟩
  ·exact absurd h2 (hk e h1.1)
  ·exact⟨hp,hm⟩
 ·rintro⟨h1,h2⟩;exact⟨fC p,⟨by rw[h.mem,bM];exact .inr ⟨p,h1,h2,rfl⟩,rfl⟩,rfl⟩
theorem br.cov {a:ByteArray}:dq a (bN es)=dq a y:=by
 rw[Bool.eq_iff_iff]
 constructor
 ·intro hc;obtain⟨q,hq,hu⟩:=bL.1 hc;exact bL.2 ⟨q,((h.pl hk).1 hq).1,hu⟩
 ·intro hc;obtain⟨q,hq,hm,hu⟩:=Dw hc;exact bL.2 ⟨q,(h.pl hk).2 ⟨hq,hm⟩,hu⟩
theorem br.again:br (df es) (bN es) es:=⟨h.rise,fun e=>by
 rw[h.mem,bM,bM];refine or_congr ⟨fun a=>⟨(h.bl hk).2 a,by rw[h.cov hk];exact a.2⟩,fun a=>(h.bl hk).1 a.1⟩ ⟨?_,?_⟩
 ·rintro⟨p,hp,hm,rfl⟩;exact⟨p,(h.pl hk).2 ⟨hp,hm⟩,fun q hq hu=>hm q ((h.pl hk).1 hq).1 hu,rfl⟩
 ·rintro⟨p,hp,hm,rfl⟩;exact⟨p,((h.pl hk).1 hp).1,((h.pl hk).1 hp).2,rfl⟩⟩
omit hk in
theorem br.nodup:es.Nodup:=h.rise.imp fun hab e=>by subst e;have:=b7.refl ‹En›;omega
omit hk in
theorem br.ne (hn:x≠ []\/y≠ []):es≠ []:=by
 intro e;subst e;have hm:∀e,¬e∈eA x y:=fun e he=>by have:=(h.mem e).2 he;simp at this
 cases y with
 |nil=>
  cases x with
  |nil=>simp at hn
  |cons a x=>exact hm a (bM.2 (.inl ⟨by simp,rfl⟩))
 |cons p y=>
  obtain⟨q,hq,a0,_⟩:=ln (p::y) p.size p p (Zb _) (by simp) (rt p);exact hm _ (bM.2 (.inr ⟨q,hq,a0,rfl⟩))
end
def DO (x y:List Int):Prop:= ∃p a b s t,x=p++a::s/\y=p++b::t/\a≠b
def Pf (x y:List Int):Prop:=x=y\/DO x y
theorem DO.app {x y:List Int}(h:DO x y)(s t:List Int):DO (x++s) (y++t):=by
 obtain⟨p,a,b,u,v,rfl,rfl,hne⟩:=h;exact⟨p,a,b,u++s,v++t,by simp,by simp,hne⟩
theorem DO.pre {x y:List Int}(h:DO x y)(q:List Int):DO (q++x) (q++y):=by
 obtain⟨p,a,b,u,v,rfl,rfl,hne⟩:=h;exact⟨q++p,a,b,u,v,by simp,by simp,hne⟩
theorem Pf.app {x y s t:List Int}(h:Pf x y)(h2:Pf s t):Pf (x++s) (y++t):=by
 rcases h with rfl|h
 ·rcases h2 with rfl|h2
  ·exact .inl rfl
  ·exact .inr (h2.pre _)
 ·exact .inr (h.app _ _)
theorem Pf.head {a b:Int}{s t:List Int}(h:a=b->Pf s t):Pf (a::s) (b::t):=by
 by_cases e:a=b
 ·subst e;exact Pf.app (x:= [a]) (y:= [a]) (.inl rfl) (h rfl)
 ·exact .inr ⟨[],a,b,s,t,rfl,rfl,e⟩
theorem dS (a b:Int)(x y:List Int):aI (a::x) (b::y)=if a<b then -1 else if b<a then 1 else aI x y:=by
 conv=>lhs;unfold aI
theorem pF (q x y:List Int):aI (q++x) (q++y)=aI x y:=by
 induction q with
 |nil=>rfl
 |cons a q ih=>show aI (a:: (q++x)) (a:: (q++y))=_;rw[dS,if_neg (by omega),if_neg (by omega),ih]
theorem zM {x y:List Int}(h:DO x y)(s t:List Int):aI (x++s) (y++t)=aI x y/\aI x y≠0:=by
 obtain⟨p,a,b,u,v,rfl,rfl,hne⟩:=h;rw[List.append_assoc,List.append_assoc,pF,pF];simp only[List.cons_append,dS]
 by_cases h1:a<b
 ·simp[h1]
 ·have h2:b<a:=by omega
  simp[h1,h2]
theorem Bf:∀ {x y:List Int},(∀c∈x,0<=c)->(∀c∈y,0<=c)->Pf (x ++ [-1]) (y ++ [-1])/\aI (x ++ [-1]) (y ++ [-1])=aI x y
 | [], [],_,_=>⟨.inl rfl,rfl⟩
 | [],b::y,_,hy=>by
  have:=hy b (by simp);refine⟨Pf.head fun e=>by omega,?_⟩
  show aI (-1:: []) (b:: (y ++ [-1])) = -1
  rw[dS,if_pos (by omega)]
 |a::x, [],hx,_=>by
  have:=hx a (by simp);refine⟨Pf.head fun e=>by omega,?_⟩
  show aI (a:: (x ++ [-1])) (-1:: [])=1
  rw[dS,if_neg (by omega),if_pos (by omega)]
 |a::x,b::y,hx,hy=>by
  have ih:=Bf (x:=x) (y:=y) (fun c h=>hx c (Zl _ h)) (fun c h=>hy c (Zl _ h));refine⟨Pf.head fun _=>ih.1,?_⟩
  show aI (a:: (x ++ [-1])) (b:: (y ++ [-1]))=aI (a::x) (b::y)
  rw[dS,dS,ih.2]
theorem gY:∀ (f:Nat) (xs:List UInt8),∀c∈dC wT f xs,0<=c
 |0,_,c,h=>by simp[dC] at h
 |_+1, [],c,h=>by simp[dC] at h
 |f+1,x::t,c,h=>by
  unfold dC at h
  split at h
  ·rcases List.mem_cons.1 h with rfl|h
   ·exact Int.natCast_nonneg _
   ·exact gY f _ c h
  ·rcases List.mem_cons.1 h with rfl|h
   ·unfold wT;omega
   ·exact gY f _ c h
theorem AV (s:ByteArray):∀c∈nm s,0<=c:=gY _ _
def ru (s:ByteArray):List Int:=nm s ++ [-1]
theorem oE (s t:ByteArray):Pf (ru s) (ru t):=(Bf (AV s) (AV t)).1
theorem sC {s t:ByteArray}(h:ru s=ru t):s=t:=uD (List.append_cancel_right h)
def xp (d:Dc):Int:=if d.digits= ⟨#[48]⟩ then 0 else if d.neg then -1 else 1
def o6 (s:Int):List UInt8->List Int
 | []=> [0]
 |c::l=>s* (c.toNat+1)::o6 s l
def tX (d:Dc):List Int:=if xp d=0 then [0] else xp d::xp d* (d.digits.size+d.exp)::o6 (xp d) d.digits.data.toList
theorem wt {s:Int}(hs:s≠0):∀ (l m:List UInt8),Pf (o6 s l) (o6 s m)
 | [], []=>.inl rfl
 | [],c::m=>Pf.head fun e=>by
  have:=(Int.mul_eq_zero.1 e.symm).resolve_left hs;omega
 |c::l, []=>Pf.head fun e=>by
  have:=(Int.mul_eq_zero.1 e).resolve_left hs;omega
 |c::l,d::m=>Pf.head fun _=>wt hs l m
theorem qW {s:Int}(hs:s≠0):∀ {l m:List UInt8},o6 s l=o6 s m->l=m
 | [], [],_=>rfl
 | [],c::m,e=>by
  simp only[o6,List.cons.injEq] at e;have:=(Int.mul_eq_zero.1 e.1.symm).resolve_left hs;omega
 |c::l, [],e=>by
  simp only[o6,List.cons.injEq] at e;have:=(Int.mul_eq_zero.1 e.1).resolve_left hs;omega
 |c::l,d::m,e=>by
  simp only[o6,List.cons.injEq] at e;have h1:=Int.eq_of_mul_eq_mul_left hs e.1;rw[qW hs e.2,show c=d from UInt8.toNat_inj.1 (by omega)]
theorem Dx (a b:Dc):Pf (tX a) (tX b):=by
 unfold tX
 by_cases ha:xp a=0
 ·rw[if_pos ha]
  by_cases hb:xp b=0
  ·rw[if_pos hb];exact .inl rfl
  ·rw[if_neg hb];exact Pf.head fun e=>absurd e.symm hb
 ·rw[if_neg ha]
  by_cases hb:xp b=0
  ·rw[if_pos hb];exact Pf.head fun e=>absurd e ha
  ·rw[if_neg hb];exact Pf.head fun e=>Pf.head fun _=>by rw[e];exact wt hb _ _
def oL (d:Dc):Prop:=d.digits= ⟨#[48]⟩->d= ⟨false,⟨#[48]⟩,0⟩
theorem B4 {a b:Dc}(ha:oL a)(hb:oL b)(h:tX a=tX b):a=b:=by
 unfold tX at h
 by_cases h1:xp a=0
 ·rw[if_pos h1] at h
  by_cases h2:xp b=0
  ·have e1:a.digits= ⟨#[48]⟩:=by unfold xp at h1;split at h1;assumption;split at h1 <;> simp at h1
   have e2:b.digits= ⟨#[48]⟩:=by unfold xp at h2;split at h2;assumption;split at h2 <;> simp at h2
   rw[ha e1,hb e2]
  ·rw[if_neg h2] at h;injection h with h;exact absurd h.symm h2
 ·rw[if_neg h1] at h
  by_cases h2:xp b=0
  ·rw[if_pos h2] at h;injection h with h;exact absurd h h1
  ·rw[if_neg h2] at h;injection h with e1 h
   injection h with e2 e3
   rw[e1] at e2 e3;have hd:a.digits=b.digits:=by
    have:=qW h2 e3
    cases ha':a.digits with|mk x=>cases hb':b.digits with|mk y=>rw[ha',hb'] at this;simp at this;rw[this]
   have hx:=Int.eq_of_mul_eq_mul_left h2 e2;have hn:a.neg=b.neg:=by
    unfold xp at e1 h1 h2
    split at h1
    ·exact absurd rfl h1
    ·split at h2
     ·exact absurd rfl h2
     ·rename_i g1 g2
      rw[if_neg g1,if_neg g2] at e1
      revert e1;cases a.neg <;> cases b.neg <;> simp
   obtain⟨an,ad,ax⟩:=a;obtain⟨bn,bd,bx⟩:=b;simp only at hd hn hx;subst hd hn;rw[show ax=bx by omega]
mutual
/-- What stands for a value. -/
def JV.key:JV->List Int
 | .mk k t x n ns ks=>k:: (if k=2 then [if t then 1 else 0] else if k=3 then tX n else if k=4 then ru x else JV.keys (k=6) ns ks)
def JV.keys:Bool->List ByteArray->List JV->List Int
 |_,_, []=> [0]
 |o,ns,v::vs=>1:: ((if o then ru (ns.headD ⟨#[]⟩) else [])++ (JV.key v++JV.keys o ns.tail vs))
end
theorem ud {us:List JV}(h:∀u∈us,∀w:JV,Pf u.key w.key)(o:Bool):∀ (ns ms:List ByteArray) (ws:List JV),Pf (JV.keys o ns us) (JV.keys o ms ws):=by
 induction us with
 |nil=>
  intro ns ms ws
  cases ws with
  |nil=>exact .inl rfl
  |cons w ws=>exact Pf.head fun e=>by omega
 |cons u us ih=>
  intro ns ms ws
  cases ws with
  |nil=>exact Pf.head fun e=>by omega
  |cons w ws=>
   refine Pf.head fun _=>Pf.app ?_ ((h u (by simp) w).app (ih (fun u hu=>h u (Zl _ hu)) ..))
   cases o
   ·exact .inl rfl
   ·exact oE _ _
theorem EA (u:JV):∀w:JV,Pf u.key w.key:=by
 refine JV.ind (P:=fun u=> ∀w:JV,Pf u.key w.key) (fun k t x n ns ks ih w=>?_) u;obtain⟨k',t',x',n',ns',ks'⟩:=w;unfold JV.key;refine Pf.head fun e=>?_
 subst e
 by_cases h2:k=2
 ·rw[if_pos h2,if_pos h2];exact Pf.head fun _=>.inl rfl
 ·rw[if_neg h2,if_neg h2]
  by_cases h3:k=3
  ·rw[if_pos h3,if_pos h3];exact Dx _ _
  ·rw[if_neg h3,if_neg h3]
   by_cases h4:k=4
   ·rw[if_pos h4,if_pos h4];exact oE _ _
   ·rw[if_neg h4,if_neg h4];exact ud ih _ _ _ _
