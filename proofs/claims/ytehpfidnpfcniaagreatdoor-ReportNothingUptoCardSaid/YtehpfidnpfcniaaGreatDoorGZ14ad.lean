import Derived.Test.YtehpfidnpfcniaaGreatDoorGZ14ac
import Derived.StillTailTactics
import Derived.Deep.CutBlock
set_option linter.unusedVariables false
set_option linter.unusedSimpArgs false
namespace Go.Proofs.YtehpfidnpfcniaaGreatDoor
open Go.RowKit
variable {cells old:Array Value}{p:ByteArray}{l y:List ByteArray}{xs:List UInt8}{g n r:Nat}{ty:TypeId}{v:Value}{w w':World}
theorem B6 {a b:ByteArray}:a.toList=b.toList↔a=b:=by
 rw[ByteArray.toList_eq,ByteArray.toList_eq];refine⟨fun h=>?_,fun h=>by rw[h]⟩
 cases a;cases b;simp at h;simp[h]
theorem dJ (a b:ByteArray):(a.toList==b.toList)=decide (a=b):=by
 rw[Bool.eq_iff_iff,beq_iff_eq,decide_eq_true_iff];exact B6
abbrev es:ByteArray:=⟨#[]⟩
def Fi:Dc:=⟨false,es,0⟩
def Wr (w:World)(v:Value):Prop:=v =.slice none 0 0\/∃g c b p s,v =.slice (some ⟨g,0,none⟩) 1 c/\w.cell? ⟨g,0,none⟩=some (.bool b)/\w.cell? ⟨g,1,none⟩=some (.int .i64 p)/\w.cell? ⟨g,2,none⟩=some (.string s)
theorem Wr.below (h:Wr w v)(hb:Below w.heap.size w w'):Wr w' v:=by
 rcases h with rfl|⟨g,c,b,p,s,rfl,h1,h2,h3⟩
 ·exact .inl rfl
 ·exact .inr ⟨g,c,b,p,s,rfl,Zg hb h1,Zg hb h2,Zg hb h3⟩
def fM (c h l:Int)(s:Value):Value:=.agg #[.int .i64 c,.int .i64 h,.int .i64 l,s]
def Dq (w:World)(c:Int)(v:Value):Prop:= ∃h l s,v=fM c h l s/\Wr w s
def Gl (w:World)(c:Int)(e:Ending)(w':World):Prop:= ∃v,e =.returned v/\Dq w' c v/\Below w.heap.size w w'
theorem Dq.below {c:Int}(h:Dq w c v)(hb:Below w.heap.size w w'):Dq w' c v:=by
 obtain⟨a,l,s,rfl,hs⟩:=h;exact⟨a,l,s,rfl,hs.below hb⟩
theorem Wr.slice (h:Wr w v):∃A n c,v =.slice A n c/\n<=1:=by
 rcases h with rfl|⟨g,c,b,p,s,rfl,_⟩
 ·exact⟨_,_,_,rfl,by omega⟩
 ·exact⟨_,_,_,rfl,by omega⟩
theorem cR:(Tryz.prog.info? 73).map (·.size)=some 4:=by kernel_rfl
theorem fJ (c:Int)(w:World):Calls Tryz.prog 66 #[.int .i64 c] w (Gl w c):=by
 go_enter Tryz.func66,Tryz.ntmps66;go_wp2;exact Zh (results_cell_row Tryz.results66 _ _ w.heap.size 73 #[.int .i64 c,.int .i64 0,.int .i64 0,.slice none 0 0] (0,0) _ (by simp) (Zf w _) Tryz.underlying73 rfl cR) rfl ⟨_,rfl,⟨0,0,_,rfl,.inl rfl⟩,ac _ _⟩
theorem o7 (c h l:Int){s:Value}(hs:s.oneCell'=true):(#[.int .i64 c,.int .i64 h,.int .i64 l,s]:Array Value).all (·.oneCell')=true:=by
 simp[hs,show ∀n,(Value.int .i64 n).oneCell'=true from fun _=>rfl]
theorem dl {fn:Func}{p q:Tmp}(h:fn.results = #[.tmp p,.cell q 73])(tmps:Array Value)(w:World)(g:Nat)(t:TypeId)(c0 c1 c2 c3:Value)(fr:Nat×Nat)
  (hp:tmps.getD q undef =.pointer (some ⟨g,0,none⟩)) (hg:w.heap[g]?=some (.cells #[c0,c1,c2,c3] t fr)) :
  (results fn tmps).run Tryz.prog w =.ok (.tuple #[tmps.getD p undef,.agg #[c0,c1,c2,c3]]) w:=by
 have a0:tmps[q]?.getD undef =.pointer (some ⟨g,0,none⟩):=by simpa using hp
 have hl:=run_loadVar_row (P:=Tryz.prog) w g t 73 #[c0,c1,c2,c3] fr _ hg Tryz.underlying73 rfl cR;simp[results,h,a0,asAddr,hl]
theorem kM {ops:Array Oper}{o:Oper}{a:Act}{K:Act->World->Prop}{Q:Exit->Act->World->Prop}{E:Prop}(a1:o.guard=none)(ty:TypeId)(x y:Operand)(ho:o.op =.store ty x y)
  (g:Nat) (cells:Array Value) (hx:a.eval x =.pointer (some ⟨g,0,none⟩)) (hy:a.eval y =.agg cells)
  (t:TypeId) (old:Array Value) (hg:w.heap[g]?=some (.cells old t (0,0))) (hi:(Tryz.prog.info? ty).map (·.size)=some cells.size)
  (a0:old.size=cells.size) (h1:cells.all (·.oneCell')=true)
  (h:K (a.put o.dst undef) (w.setRow g cells)):if Region.wanted o (yielded ops a.tmps)=true then Oper.wp Tryz.prog o a w K Q else E:=by
 have hw:Region.wanted o (yielded ops a.tmps)=true:=by simp[Region.wanted,a1]
 rw[if_pos hw];exact wp_store_row ty x y ho g cells hx hy t old hg hi a0 h1 h
theorem lH {ops:Array Oper}{o:Oper}{a:Act}{K:Act->World->Prop}{Q:Exit->Act->World->Prop}{E:Prop}{t:TypeId}{x y:Operand}(hg:w.heap[g]?=some (.cells old t (0,0)))(h:K (a.put o.dst undef) (w.setRow g cells))
  (ho:o.op =.store ty x y:=by exact rfl) (hx:a.eval x =.pointer (some ⟨g,0,none⟩):=by exact rfl) (hy:a.eval y =.agg cells:=by exact rfl) (a1:o.guard=none:=by exact rfl)
  (hi:(Tryz.prog.info? ty).map (·.size)=some cells.size:=by kernel_rfl) (a0:old.size=cells.size:=by exact rfl) (h1:cells.all (·.oneCell')=true:=by simp[Value.oneCell']):if Region.wanted o (yielded ops a.tmps)=true then Oper.wp Tryz.prog o a w K Q else E:=
 kM a1 ty x y ho g cells hx hy t old hg hi a0 h1 h
def iU (l:List UInt8):Prop:= ∃cs:List Int,(∀c∈cs,b6 c=true)/\l=cs.flatMap aO
theorem iU.nil:iU []:=⟨[],by simp,rfl⟩
theorem iU.snoc {l:List UInt8}{c:Int}(h:iU l)(hc:b6 c=true):iU (l++aO c):=by
 obtain⟨cs,h1,rfl⟩:=h;refine⟨cs ++ [c],fun d hd=>?_,by simp⟩;rcases List.mem_append.1 hd with h|h
 ·exact h1 d h
 ·rw[List.mem_singleton] at h;rw[h];exact hc
def Gj (d:Dc):Prop:=d= ⟨false,⟨#[48]⟩,0⟩\/(0<d.digits.size/\(∀i (h:i<d.digits.size),48<=d.digits[i].toNat/\d.digits[i].toNat<=57)/\(∀h:0<d.digits.size,d.digits[0].toNat≠48)/\(∀h:d.digits.size - 1<d.digits.size,d.digits[d.digits.size - 1].toNat≠48)/\ -1000000000<=d.exp/\d.exp<=1000000000)
structure Tk where
 kind:Int
 at_:Int
 mark:Int
 str:ByteArray
 num:Dc
def S4 (fb:Nat)(w:World):Prop:=w.cell? ⟨fb,0,none⟩=some (.int .i64 0)/\w.cell? ⟨fb,1,none⟩=some (.int .i64 0)/\w.cell? ⟨fb,2,none⟩=some (.int .i64 0)/\w.cell? ⟨fb,3,none⟩=some (.slice none 0 0)
theorem gA {b:Nat}(h:w.cell? ⟨b,n,none⟩=some v)(hg:w.grownBy w' (some r))(hr:b≠r):w'.cell? ⟨b,n,none⟩=some v:=hg.cell h fun e=>by injection e with e;exact hr e
theorem S4.keep {fb:Nat}(h:S4 fb w)(hg:w.grownBy w' (some r))(hr:fb≠r):S4 fb w':=by
 exact⟨gA h.1 hg hr,gA h.2.1 hg hr,gA h.2.2.1 hg hr,gA h.2.2.2 hg hr⟩
def dB (bad:UInt8->Int):Nat->List UInt8->List Int
 |0,_=> []
 |_+1, []=> []
 |f+1,x::t=>if(a8 (x::t)).2.2=0 then((a8 (x::t)).1:Int)::dB bad f ((x::t).drop (a8 (x::t)).2.1) else bad x::dB bad f t
def iI (bad:UInt8->Int)(xs:List UInt8):List Int:=dB bad xs.length xs
theorem jG (bad:UInt8->Int):∀ (f g:Nat) (xs:List UInt8),xs.length<=f->xs.length<=g->dB bad f xs=dB bad g xs
 |0,g,xs,h,_=>by
  obtain rfl:xs = []:=List.eq_nil_of_length_eq_zero (by omega)
  cases g <;> rfl
 |f+1,g, [],_,_=>by cases g <;> rfl
 |f+1,0,x::t,_,h=>by simp at h
 |f+1,g+1,x::t,h1,h2=>by
  simp only[List.length_cons] at h1 h2;unfold dB
  split
  ·rename_i h
   have hp:=dM h;rw[jG bad f g _ (by rw[List.length_drop,List.length_cons];omega) (by rw[List.length_drop,List.length_cons];omega)]
  ·rw[jG bad f g t (by omega) (by omega)]
theorem kY {bad:UInt8->Int}(h0:xs≠ [])(h:(a8 xs).2.2=0):iI bad xs= ((a8 xs).1:Int)::iI bad (xs.drop (a8 xs).2.1):=by
 cases xs with
 |nil=>exact absurd rfl h0
 |cons x t=>
  have hp:=dM h;unfold iI;rw[List.length_cons,dB,if_pos h,jG bad t.length _ _ (by rw[List.length_drop,List.length_cons];omega) (Zb _)]
theorem wE {bad:UInt8->Int}{x:UInt8}{t:List UInt8}(h:(a8 (x::t)).2.2≠0):iI bad (x::t)=bad x::iI bad t:=by
 unfold iI;rw[List.length_cons,dB,if_neg h]
theorem lX (bad:UInt8->Int):∀ {cs:List Int},(∀c∈cs,b6 c=true)->iI bad (cs.flatMap aO)=cs
 | [],_=>rfl
 |c::cs,h=>by
  have hc:=h c (by simp);have h0:=bX hc;obtain⟨n,rfl⟩:∃n:Nat,c=n:=⟨c.toNat,by omega⟩;have hd:=dZ n hc (cs.flatMap aO);rw[List.flatMap_cons,kY (by simp[ga hc]) (by rw[hd]),hd];simp only[List.drop_left];rw[lX bad (fun c hm=>h c (Zl _ hm))]
def xA (x:UInt8):Int:=1114112+x.toNat
def Gu (c:Int):List UInt8:=if c<1114112 then aO c else [UInt8.ofNat (c - 1114112).toNat]
theorem eX:∀ (n:Nat) (xs:List UInt8),xs.length<=n->(iI xA xs).flatMap Gu=xs
 |_, [],_=>rfl
 |0,x::t,h=>by simp at h
 |n+1,x::t,h=>by
  simp only[List.length_cons] at h
  by_cases hd:(a8 (x::t)).2.2=0
  ·have ⟨h1,h2⟩:=gB hd;have hp:=dM hd;rw[kY (by simp) hd,List.flatMap_cons,eX n _ (by rw[List.length_drop,List.length_cons];omega)];unfold Gu;rw[if_pos (by have:=AX h2;omega),h1,List.take_append_drop]
  ·rw[wE hd,List.flatMap_cons,eX n t (by omega)];unfold Gu xA;rw[if_neg (by have:=x.toNat_lt;omega),show(1114112+ (x.toNat:Int) - 1114112).toNat=x.toNat by omega,UInt8.ofNat_toNat];rfl
def nm (s:ByteArray):List Int:=iI xA s.data.toList
theorem sQ {s t:ByteArray}(h:nm s=nm t):s=t:=by
 have h1:=eX _ s.data.toList (Zb _);have h2:=eX _ t.data.toList (Zb _);unfold nm at h;rw[h,h2] at h1
 cases s with|mk s=>cases t with|mk t=>simp at h1;simp[h1]
def aJ:List Int->List Int->Int
 | [], []=>0
 | [],_::_=> -1
 |_::_, []=>1
 |a::x,b::y=>if a<b then -1 else if b<a then 1 else aJ x y
theorem i7:∀ {x y:List Int},aJ x y=0->x=y
 | [], [],_=>rfl
 | [],_::_,h=>by simp[aJ] at h
 |_::_, [],h=>by simp[aJ] at h
 |a::x,b::y,h=>by
  unfold aJ at h
  split at h
  ·simp at h
  ·split at h
   ·simp at h
   ·rw[i7 h,show a=b by omega]
theorem gn:∀x:List Int,aJ x x=0
 | []=>rfl
 |a::x=>by unfold aJ;rw[if_neg (by omega),if_neg (by omega),gn x]
theorem jO:∀x y:List Int,aJ y x = - aJ x y
 | [], []=>rfl
 | [],_::_=>rfl
 |_::_, []=>rfl
 |a::x,b::y=>by
  unfold aJ
  by_cases h1:a<b
  ·rw[if_neg (by omega),if_pos h1,if_pos h1];rfl
  ·by_cases h2:b<a
   ·rw[if_pos h2,if_neg h1,if_pos h2];try rfl
   ·rw[if_neg h2,if_neg h1,if_neg h1,if_neg h2,jO x y]
theorem ir:∀ {x y z:List Int},aJ x y<0->aJ y z<0->aJ x z<0
 | [],y, [],h1,h2=>by cases y <;> simp[aJ] at h1 h2
 | [],_,_::_,_,_=>by simp[aJ]
 |_::_, [],_,h1,_=>by simp[aJ] at h1
 |_::_,_::_, [],_,h2=>by simp[aJ] at h2
 |a::x,b::y,c::z,h1,h2=>by
  unfold aJ at h1 h2 ⊢
  by_cases ab:a<b
  ·rw[if_pos ab] at h1
   by_cases bc:b<c
   ·rw[if_pos (by omega)];omega
   ·rw[if_neg bc] at h2
    by_cases cb:c<b
    ·rw[if_pos cb] at h2;omega
    ·rw[if_pos (by omega)];omega
  ·rw[if_neg ab] at h1
   by_cases ba:b<a
   ·rw[if_pos ba] at h1;omega
   ·rw[if_neg ba] at h1
    by_cases bc:b<c
    ·rw[if_pos (by omega)];omega
    ·rw[if_neg bc] at h2
     by_cases cb:c<b
     ·rw[if_pos cb] at h2;omega
     ·rw[if_neg cb] at h2;rw[if_neg (by omega),if_neg (by omega)];exact ir h1 h2
def jy (a b:ByteArray):Prop:=aJ (nm a) (nm b)<0
theorem gp {a b c:ByteArray}(h1:jy a b)(h2:jy b c):jy a c:=ir h1 h2
theorem im (a:ByteArray):¬jy a a:=by unfold jy;rw[gn];omega
theorem ji {a b:ByteArray}(h:¬jy a b)(hne:a≠b):jy b a:=by
 unfold jy at *;have h1:=jO (nm a) (nm b)
 by_cases h0:aJ (nm a) (nm b)=0
 ·exact absurd (sQ (i7 h0)) hne
 ·omega
theorem tu {a b:ByteArray}(h:jy a b):a≠b:=fun e=>by subst e;exact im _ h
def B7 (ns:List ByteArray):Prop:=ns.Pairwise jy
theorem mG {α:Type}{f:α->ByteArray}:∀ {l m:List α},l.Perm m->(l.map f).Pairwise jy->(m.map f).Pairwise jy->l=m
 | [],m,hp,_,_=>by have:=hp.length_eq;simp at this;rw[List.eq_nil_of_length_eq_zero this.symm]
 |a::l, [],hp,_,_=>by have:=hp.length_eq;simp at this
 |a::l,b::m,hp,h1,h2=>by
  simp only[List.map_cons,List.pairwise_cons] at h1 h2
  by_cases hab:a=b
  ·subst hab;rw[mG (List.Perm.cons_inv hp) h1.2 h2.2]
  ·have hb:b∈a::l:=hp.mem_iff.2 (by simp);have ha:a∈b::m:=hp.mem_iff.1 (by simp);have a1:b∈l:=by rcases List.mem_cons.1 hb with e|h;exact absurd e.symm hab;exact h
   have a0:a∈m:=by rcases List.mem_cons.1 ha with e|h;exact absurd e hab;exact h
   exact absurd (gp (h1.1 (f b) (List.mem_map_of_mem a1)) (h2.1 (f a) (List.mem_map_of_mem a0))) (im _)
def AM (n:Nat)(f:Nat->Nat):Nat×Nat:=
 if f 0<128 then(f 0,1)
 else if f 0/32=6/\(1<n/\f 1/64=2) then(if(f 0 % 32)*64+f 1 % 64 ≥ 128 then((f 0 % 32)*64+f 1 % 64,2) else(65533,1))
 else if(f 0/16=14/\(1<n/\f 1/64=2))/\(2<n/\f 2/64=2) then
  (if(f 0 % 16)*4096+ (f 1 % 64)*64+f 2 % 64 ≥ 2048/\Utf8.valid (((f 0 % 16)*4096+ (f 1 % 64)*64+f 2 % 64:Nat):Int)=true then((f 0 % 16)*4096+ (f 1 % 64)*64+f 2 % 64,3) else(65533,1))
 else if((f 0/8=30/\(1<n/\f 1/64=2))/\(2<n/\f 2/64=2))/\(3<n/\f 3/64=2) then
  (if(f 0 % 8)*262144+ (f 1 % 64)*4096+ (f 2 % 64)*64+f 3 % 64 ≥ 65536/\Utf8.valid (((f 0 % 8)*262144+ (f 1 % 64)*4096+ (f 2 % 64)*64+f 3 % 64:Nat):Int)=true then((f 0 % 8)*262144+ (f 1 % 64)*4096+ (f 2 % 64)*64+f 3 % 64,4) else(65533,1))
 else(65533,1)
theorem tJ (s:ByteArray)(i k:Nat):(s.get! (i+k)).toNat=am (s.data.toList.drop i) k:=by
 rw[fG];unfold am
 show(s.data[i+k]!).toNat=_
 rw[List.getD_eq_getElem?_getD,Array.getElem?_toList,getElem!_def]
 cases s.data[i+k]? <;> rfl
theorem qC (s:ByteArray)(i:Nat):Utf8.decode s i=AM (s.data.toList.drop i).length (am (s.data.toList.drop i)):=by
 have hn:∀k,(i+k<s.size)= (k< (s.data.toList.drop i).length):=by
  intro k;rw[List.length_drop,Array.length_toList];show(i+k<s.data.size)=_;exact propext ⟨fun h=>by omega,fun h=>by omega⟩
 unfold Utf8.decode AM;simp only[tJ,hn,Utf8.runeError,Bool.and_eq_true,decide_eq_true_eq,beq_iff_eq,and_assoc]
theorem jf (n:Nat):Utf8.valid (n:Int)=true↔n<=1114111/\¬ (55296<=n/\n<=57343):=by
 unfold Utf8.valid;simp;omega
theorem zH (h0:xs≠ []):AM xs.length (am xs)=if(a8 xs).2.2=0 then((a8 xs).1,(a8 xs).2.1) else(65533,1):=by
 by_cases hd:(a8 xs).2.2=0
 ·rw[if_pos hd];rcases jM hd with ⟨a,t,rfl,h1,e⟩|⟨a,b,t,rfl,h1,hs,e⟩|⟨a,b,c,t,rfl,h1,hs,ht,e⟩|⟨a,b,c,d,t,rfl,h1,hs,ht,a0,e⟩ <;> rw[e] <;> unfold AM <;> simp only[jf]
  ·rw[vh,if_pos h1]
  ·unfold fK at hs;have hb:=b8 b;rw[vh,BP,if_neg (by omega),if_pos ⟨by omega,by simp,by omega⟩,if_pos (by omega)]
  ·unfold fK at hs;unfold tl at ht;have hb:=b8 b;have hc:=b8 c;rw[vh,BP,Er,if_neg (by omega),if_neg (by omega),if_pos ⟨⟨by omega,by simp,by omega⟩,by simp,by omega⟩,if_pos (by omega)]
   congr 1;omega
  ·unfold fK at hs;unfold tl at ht a0;have hb:=b8 b;have hc:=b8 c;have a1:=b8 d;rw[vh,BP,Er,F3,if_neg (by omega),if_neg (by omega),if_neg (by omega),if_pos ⟨⟨⟨by omega,by simp,by omega⟩,by simp,by omega⟩,by simp,by omega⟩,if_pos (by omega)]
   congr 1;omega
 ·rw[if_neg hd];unfold AM;simp only[jf]
  cases xs with
  |nil=>exact absurd rfl h0
  |cons a t=>
   have ha:=b8 a
   by_cases h1:a.toNat<128
   ·exact absurd (by rw[od a t h1]) hd
   rw[vh,if_neg h1]
   split
   ·rename_i h2
    split
    ·rename_i h3
     cases t with
     |nil=>simp at h2
     |cons b t=>
      rw[BP] at h2 h3;have hb:=b8 b;exact absurd (by rw[uq a (b::t) (by omega)];simp only;rw[if_pos (by unfold fK;omega)]) hd
    ·rfl
   ·split
    ·rename_i h2
     split
     ·rename_i h3
      rcases t with _|⟨b,_|⟨c,t⟩⟩
      ·simp at h2
      ·simp at h2
      ·rw[BP,Er] at h2 h3;have hb:=b8 b;have hc:=b8 c;exact absurd (by rw[ur a (b::c::t) (by omega)];simp only;rw[if_pos (by unfold fK;omega),if_pos (by unfold tl;omega)]) hd
     ·rfl
    ·split
     ·rename_i h2
      split
      ·rename_i h3
       rcases t with _|⟨b,_|⟨c,_|⟨d,t⟩⟩⟩
       ·simp at h2
       ·simp at h2
       ·simp at h2
       ·rw[BP,Er,F3] at h2 h3;have hb:=b8 b;have hc:=b8 c;have a1:=b8 d;exact absurd (by rw[uS a (b::c::d::t) (by omega)];simp only;rw[if_pos (by unfold fK;omega),if_pos (by unfold tl;omega),if_pos (by unfold tl;omega)]) hd
      ·rfl
     ·rfl
theorem iq (s:ByteArray)(i:Nat)(h:i<s.size):Utf8.decode s i=if(a8 (s.data.toList.drop i)).2.2=0 then((a8 (s.data.toList.drop i)).1,(a8 (s.data.toList.drop i)).2.1) else(65533,1):=by
 rw[qC];apply zH;intro e;have:=congrArg List.length e;rw[List.length_drop,Array.length_toList] at this;have:s.size=s.data.size:=rfl;simp at *;omega
theorem yJ:aO ((65533:Nat):Int) = [239,191,189]:=by rw[lu 65533 (by omega) (by omega)];rfl
theorem xW:cX aJ:=by
 constructor
 ·intro x y;have:=jO x y;omega
 ·intro x y z h1 h2
  by_cases e1:aJ x y=0
  ·rw[i7 e1];exact h2
  ·by_cases e2:aJ y z=0
   ·rw[<-i7 e2];exact h1
   ·have:=ir (show aJ x y<0 by omega) (show aJ y z<0 by omega);omega
def Ci (x y:List UInt8):Int:=aJ (nm ⟨x.toArray⟩) (nm ⟨y.toArray⟩)
theorem qm:cX Ci:=xW.by fun x:List UInt8=>nm ⟨x.toArray⟩
theorem yD {x y:List UInt8}(h:Ci x y=0):x=y:=by
 have h1:=sQ (i7 h);injection h1 with h1
 exact List.toArray_inj h1
def xZ (a b:ByteArray):Int:=uK (cB Ci (bi a.data.toList) (bi b.data.toList))
theorem qw:cX xZ:=((jr qm).by fun a:ByteArray=>bi a.data.toList).sgn
def yP (s:ByteArray):Prop:=FY s.data.toList
theorem qz {a b:ByteArray}(ha:yP a)(hb:yP b)(h:xZ a b=0):a=b:=by
 have h1:cB Ci (bi a.data.toList) (bi b.data.toList)=0:=by
  unfold xZ uK at h
  split at h
  ·omega
  ·split at h <;> omega
 have h2:=xG ha hb (ny _ _ (fun x _ y _ e=>yD e) h1)
 cases a with|mk a=>cases b with|mk b=>simp at h2;simp[h2]
def tT (a b:ByteArray):Int:=cB (fun x y:UInt8=>mr x.toNat y.toNat) a.data.toList b.data.toList
theorem wV:cX tT:=(jr (xV.by fun x:UInt8=>x.toNat)).by fun a:ByteArray=>a.data.toList
theorem xN {a b:ByteArray}(h:tT a b=0):a=b:=by
 have h2:=ny _ _ (fun x _ y _ e=>UInt8.toNat_inj.1 (yn e)) h
 cases a with|mk a=>cases b with|mk b=>simp at h2;simp[h2]
structure En where
 eAt:ByteArray
 eSch:ByteArray
 eKw:ByteArray
 deriving DecidableEq,Inhabited
def vK (a b:En):Int:=Ec (xZ a.eAt b.eAt) (Ec (xZ a.eSch b.eSch) (tT a.eKw b.eKw))
theorem co:cX vK:=(qw.by En.eAt).or ((qw.by En.eSch).or (wV.by En.eKw))
def F2 (a:En):Prop:=yP a.eAt/\yP a.eSch
theorem Ak {a b:En}(ha:F2 a)(hb:F2 b)(h:vK a b=0):a=b:=by
 unfold vK Ec at h
 split at h
 ·next e1=>
  split at h
  ·next e2=>
   cases a;cases b
   simp only[En.mk.injEq];exact⟨qz ha.1 hb.1 e1,qz ha.2 hb.2 e2,xN h⟩
  ·next e2=>exact absurd h e2
 ·next e1=>exact absurd h e1
theorem rJ {α:Type}{c:α->α->Int}(h:cX c):∀l m:List α,l.Pairwise (fun a b=>c a b<0)->m.Pairwise (fun a b=>c a b<0)->(∀x,x∈l↔x∈m)->l=m
 | [], [],_,_,_=>rfl
 | [],y::m,_,_,e=>by have:=(e y).2 (by simp);simp at this
 |x::l, [],_,_,e=>by have:=(e x).1 (by simp);simp at this
 |x::l,y::m,hl,hm,e=>by
  rw[List.pairwise_cons] at hl hm;have exy:x=y:=by
   rcases List.mem_cons.1 ((e x).1 (by simp)) with r|r
   ·exact r
   ·rcases List.mem_cons.1 ((e y).2 (by simp)) with s|s
    ·exact s.symm
    ·have a:=hm.1 x r;have b:=hl.1 y s;have:=h.ctn x y;omega
  subst exy;have hne:∀z,c x z<0->z≠x:=fun z hz e=>by subst e;have:=h.refl z;omega
  rw[rJ h l m hl.2 hm.2 fun z=>by
   constructor
   ·intro hz;rcases List.mem_cons.1 ((e z).1 (by simp[hz])) with r|r
    ·exact absurd r (hne z (hl.1 z hz))
    ·exact r
   ·intro hz;rcases List.mem_cons.1 ((e z).2 (by simp[hz])) with r|r
    ·exact absurd r (hne z (hm.1 z hz))
    ·exact r]
def nQ {α:Type} [DecidableEq α]:List α->List α
 |x::y::t=>if x=y then nQ (y::t) else x::nQ (y::t)
 |l=>l
theorem oU {α:Type} [DecidableEq α] (z:α):∀l:List α,z∈nQ l↔z∈l
 | []=>by simp[nQ]
 | [x]=>by simp[nQ]
 |x::y::t=>by
  have ih:=oU z (y::t);unfold nQ
  split
  ·next e=>rw[ih,e];simp
  ·rw[List.mem_cons,ih];simp only[List.mem_cons]
theorem vm {α:Type} [DecidableEq α] {c:α->α->Int}(h:cX c):∀l:List α,(∀x∈l,∀y∈l,c x y=0->x=y)->l.Pairwise (fun a b=> ¬c b a<0)->(nQ l).Pairwise (fun a b=>c a b<0)
 | [],_,_=>by simp[nQ]
 | [x],_,_=>by simp[nQ]
 |x::y::t,hz,hp=>by
  have a0:=List.pairwise_cons.1 hp;have hy:=List.pairwise_cons.1 a0.2;have ih:=vm h (y::t) (fun a ha b hb=>hz a (by simp[ha]) b (by simp[hb])) a0.2;unfold nQ
  split
  ·exact ih
  ·next hne=>
   rw[List.pairwise_cons];refine⟨fun z hm=>?_,ih⟩;have a1:c x y<0:=by
    have a:=a0.1 y (by simp);have b:=h.ctn x y;have d:=h.ctn y x
    by_cases k:c x y=0
    ·exact absurd (hz x (by simp) y (by simp) k) hne
    ·omega
   rcases List.mem_cons.1 ((oU z _).1 hm) with r|r
   ·rw[r];exact a1
   ·have a:=hy.1 z r;have b:=h.ctn z y;have d:=h.ctn y z;exact h.lt a1 (by omega)
def cr (a r:ByteArray):Bool:=decide (a=r)||(r.data.toList ++ [47]).isPrefixOf a.data.toList
theorem fi {a r:ByteArray}:cr a r=true↔a=r\/∃t,r.data.toList++47::t=a.data.toList:=by
 unfold cr;rw[Bool.or_eq_true,decide_eq_true_iff,List.isPrefixOf_iff_prefix]
 constructor
 ·rintro(h|⟨t,h⟩)
  ·exact .inl h
  ·exact .inr ⟨t,by rw[<-h];simp⟩
 ·rintro(h|⟨t,h⟩)
  ·exact .inl h
  ·exact .inr ⟨t,by rw[<-h];simp⟩
theorem Ao (a:ByteArray):cr a a=true:=fi.2 (.inl rfl)
theorem jA {a b c:ByteArray}(h1:cr a b=true)(h2:cr b c=true):cr a c=true:=by
 rcases fi.1 h1 with rfl|⟨t,h1⟩
 ·exact h2
 ·rcases fi.1 h2 with rfl|⟨u,h2⟩
  ·exact fi.2 (.inr ⟨t,h1⟩)
  ·exact fi.2 (.inr ⟨u++47::t,by rw[<-h1,<-h2];simp⟩)
theorem iV {a b:ByteArray}(h:cr a b=true):a=b\/b.size<a.size:=by
 rcases fi.1 h with h|⟨t,h⟩
 ·exact .inl h
 ·have:=congrArg List.length h;simp at this;exact .inr (by omega)
theorem Bd {a b:ByteArray}(h1:cr a b=true)(h2:cr b a=true):a=b:=by
 rcases iV h1 with h|h
 ·exact h
 ·rcases iV h2 with h'|h'
  ·exact h'.symm
  ·omega
def dA (a:ByteArray)(l:List ByteArray):Bool:=l.any (cr a)
theorem ch {a:ByteArray}:dA a l=true↔∃q∈l,cr a q=true:=by simp[dA]
def mt:ByteArray:=⟨#[120,45,115,101,99,114,101,116]⟩
def fZ (p:ByteArray):En:=⟨p,⟨#[]⟩,mt⟩
def qk (l:List ByteArray)(p:ByteArray):Bool:= !l.any fun q=> !decide (q=p)&&cr p q
def qK (l:List ByteArray)(p:ByteArray):Prop:= ∀q∈l,cr p q=true->q=p
theorem vB:qk l p=true↔qK l p:=by
 simp only[qk,qK,Bool.not_eq_true',List.any_eq_false,Bool.and_eq_true,Bool.not_eq_true',decide_eq_false_iff_not,not_and]
 constructor
 ·intro h q hq hu;refine Classical.byContradiction fun hn=>h q hq hn hu
 ·intro h q hq hn hu;exact hn (h q hq hu)
def d8 (l:List ByteArray):Nat->List ByteArray
 |0=> []
 |k+1=>if qk l (l.getD k ⟨#[]⟩)&& !(l.take k).any (fun q=>decide (q=l.getD k ⟨#[]⟩)) then d8 l k ++ [l.getD k ⟨#[]⟩] else d8 l k
theorem qR (p:ByteArray):∀ {k:Nat},k<=l.length->(p∈d8 l k↔p∈l.take k/\qK l p):=by
 intro k
 induction k with
 |zero=>intro _;simp[d8]
 |succ k ih=>
  intro hk;have ih:=ih (by omega);have hg:l.getD k ⟨#[]⟩=l[k]:=by rw[List.getD_eq_getElem?_getD,Zd (by omega)];rfl
  have ht:l.take (k+1)=l.take k ++ [l[k]]:=by rw[List.take_succ_eq_append_getElem (by omega)]
  rw[d8,hg,ht]
  by_cases hc:(qk l l[k]&& !(l.take k).any (fun q=>decide (q=l[k])))=true
  ·rw[if_pos hc,List.mem_append,List.mem_append,ih,List.mem_singleton];rw[Bool.and_eq_true] at hc;have:=vB.1 hc.1
   constructor
   ·rintro(h|rfl)
    ·exact⟨.inl h.1,h.2⟩
    ·exact⟨.inr rfl,this⟩
   ·rintro⟨h|h,h2⟩
    ·exact .inl ⟨h,h2⟩
    ·exact .inr h
  ·rw[if_neg hc,ih,List.mem_append,List.mem_singleton]
   constructor
   ·exact fun h=>⟨.inl h.1,h.2⟩
   ·rintro⟨h|rfl,h2⟩
    ·exact⟨h,h2⟩
    ·rw[Bool.and_eq_true,not_and] at hc;have:=hc (vB.2 h2);exact⟨by simpa using this,h2⟩
theorem lB (l:List ByteArray):∀k,(d8 l k).length<=k
 |0=>by simp[d8]
 |k+1=>by
  have:=lB l k;rw[d8]
  split <;> simp <;> omega
def eV (x:List En)(y:List ByteArray):List En:=(x.filter fun b=> !dA b.eAt y)++ (d8 y y.length).map fZ
theorem ci {x:List En}{e:En}:e∈eV x y↔(e∈x/\dA e.eAt y=false)\/∃p∈y,qK y p/\e=fZ p:=by
 simp only[eV,List.mem_append,List.mem_filter,List.mem_map,Bool.not_eq_true'];refine or_congr Iff.rfl ⟨?_,?_⟩
 ·rintro⟨p,h1,rfl⟩;have:=(qR p (Zb _)).1 h1;rw[List.take_length] at this;exact⟨p,this.1,this.2,rfl⟩
 ·rintro⟨p,h1,h2,rfl⟩;exact⟨p,(qR p (Zb _)).2 ⟨by rw[List.take_length];exact h1,h2⟩,rfl⟩
structure bF (x:List En) (y:List ByteArray) (es:List En):Prop where
 rise:es.Pairwise fun a b=>vK a b<0
 mem:∀e,e∈es↔e∈eV x y
theorem bF.uniq {x l:List En}{m:List ByteArray}{es fs:List En}(h1:bF x y es)(h2:bF l m fs)(h:∀e,e∈eV x y↔e∈eV l m):es=fs:=
 rJ co _ _ h1.rise h2.rise fun e=>by rw[h1.mem,h2.mem,h]
theorem bF.of_sort {x:List En}{s:List En}(hz:∀a∈eV x y,F2 a)(hp:s.Perm (eV x y))(hs:s.Pairwise fun a b=> ¬vK b a<0):bF x y (nQ s):=
 ⟨vm co s (fun a ha b hb=>Ak (hz a (hp.mem_iff.1 ha)) (hz b (hp.mem_iff.1 hb))) hs,fun e=>by rw[oU,hp.mem_iff]⟩
theorem lj (y:List ByteArray):∀ (n:Nat) (a p:ByteArray),p.size<=n->p∈y->cr a p=true->∃q∈y,qK y q/\cr a q=true:=by
 intro n
 induction n with
 |zero=>
  intro a p hp hy hu;refine⟨p,hy,fun q _ h=>?_,hu⟩;rcases iV h with h|h
  ·exact h.symm
  ·omega
 |succ n ih=>
  intro a p hp hy hu
  by_cases hm:qK y p
  ·exact⟨p,hy,hm,hu⟩
  ·obtain⟨q,hq,h1,h2⟩:∃q,q∈y/\cr p q=true/\q≠p:=by
    refine Classical.byContradiction fun hn=>hm fun q hq h=>?_
    exact Classical.byContradiction fun h'=>hn ⟨q,hq,h,h'⟩
   rcases iV h1 with h|h
   ·exact absurd h.symm h2
   ·exact ih a q (by omega) hq (jA hu h1)
theorem CP {a:ByteArray}(h:dA a y=true):∃q∈y,qK y q/\cr a q=true:=by
 obtain⟨p,hp,hu⟩:=ch.1 h;exact lj y p.size a p (Zb _) hp hu
theorem AZ {x l:List En}{m:List ByteArray}(h1:∀e∈x,e∈l)(h2:∀e∈l,e∈x\/dA e.eAt y=true)(h3:∀p∈y,p∈m)(h4:∀p∈m,p∈y\/dA p y=true)(e:En):e∈eV x y↔e∈eV l m:=by
 have hc:∀a,dA a y=dA a m:=fun a=>by
  rw[Bool.eq_iff_iff]
  constructor
  ·intro h;obtain⟨q,hq,hu⟩:=ch.1 h;exact ch.2 ⟨q,h3 q hq,hu⟩
  ·intro h;obtain⟨q,hq,hu⟩:=ch.1 h;rcases h4 q hq with h|h
   ·exact ch.2 ⟨q,h,hu⟩
   ·obtain⟨r,hr,hv⟩:=ch.1 h;exact ch.2 ⟨r,hr,jA hu hv⟩
 rw[ci,ci];refine or_congr ⟨?_,?_⟩ ⟨?_,?_⟩
 ·rintro⟨a,b⟩;exact⟨h1 e a,by rw[<-hc];exact b⟩
 ·rintro⟨a,b⟩;rw[<-hc] at b;rcases h2 e a with h|h
  ·exact⟨h,b⟩
  ·rw[b] at h;cases h
 ·rintro⟨p,hp,hm,rfl⟩;refine⟨p,h3 p hp,fun q hq hu=>?_,rfl⟩;rcases h4 q hq with h|h
  ·exact hm q h hu
  ·obtain⟨r,hr,hv⟩:=ch.1 h;obtain rfl:=hm r hr (jA hu hv);exact Bd hv hu
 ·rintro⟨p,hp,hm,rfl⟩;rcases h4 p hp with h|h
  ·exact⟨p,h,fun q hq hu=>hm q (h3 q hq) hu,rfl⟩
  ·obtain⟨r,hr,hv⟩:=ch.1 h;obtain rfl:=hm r (h3 r hr) hv;exact⟨r,hr,fun q hq hu=>hm q (h3 q hq) hu,rfl⟩
def lP (es:List En):List En:=es.filter fun e=> !decide (e.eKw=mt)
def kC (es:List En):List ByteArray:=(es.filter fun e=>decide (e.eKw=mt)).map En.eAt
section
variable {x:List En}{y:List ByteArray}{es:List En}(h:bF x y es)(hk:∀e∈x,e.eKw≠mt)
include h hk
theorem bF.bl {e:En}:e∈lP es↔e∈x/\dA e.eAt y=false:=by
 simp only[lP,List.mem_filter,Bool.not_eq_true',decide_eq_false_iff_not];rw[h.mem,ci]
 constructor
 ·rintro⟨h1|⟨p,_,_,rfl⟩,h2⟩
  ·exact h1
  ·exact absurd rfl h2
 ·exact fun h1=>⟨.inl h1,hk e h1.1⟩
theorem bF.pl:p∈kC es↔p∈y/\qK y p:=by
 simp only[kC,List.mem_map,List.mem_filter,decide_eq_true_iff]
 constructor
 ·rintro⟨e,⟨h1,h2⟩,rfl⟩;rw[h.mem,ci] at h1;rcases h1 with h1|⟨p,hp,hm,rfl⟩
  ·exact absurd h2 (hk e h1.1)
  ·exact⟨hp,hm⟩
 ·rintro⟨h1,h2⟩;exact⟨fZ p,⟨by rw[h.mem,ci];exact .inr ⟨p,h1,h2,rfl⟩,rfl⟩,rfl⟩
theorem bF.cov {a:ByteArray}:dA a (kC es)=dA a y:=by
 rw[Bool.eq_iff_iff]
 constructor
 ·intro hc;obtain⟨q,hq,hu⟩:=ch.1 hc;exact ch.2 ⟨q,((h.pl hk).1 hq).1,hu⟩
 ·intro hc;obtain⟨q,hq,hm,hu⟩:=CP hc;exact ch.2 ⟨q,(h.pl hk).2 ⟨hq,hm⟩,hu⟩
theorem bF.again:bF (lP es) (kC es) es:=⟨h.rise,fun e=>by
 rw[h.mem,ci,ci];refine or_congr ⟨fun a=>⟨(h.bl hk).2 a,by rw[h.cov hk];exact a.2⟩,fun a=>(h.bl hk).1 a.1⟩ ⟨?_,?_⟩
 ·rintro⟨p,hp,hm,rfl⟩;exact⟨p,(h.pl hk).2 ⟨hp,hm⟩,fun q hq hu=>hm q ((h.pl hk).1 hq).1 hu,rfl⟩
 ·rintro⟨p,hp,hm,rfl⟩;exact⟨p,((h.pl hk).1 hp).1,((h.pl hk).1 hp).2,rfl⟩⟩
omit hk in
theorem bF.nodup:es.Nodup:=h.rise.imp fun hab e=>by subst e;have:=co.refl ‹En›;omega
omit hk in
theorem bF.ne (hn:x≠ []\/y≠ []):es≠ []:=by
 intro e;subst e;have hm:∀e,¬e∈eV x y:=fun e he=>by have:=(h.mem e).2 he;simp at this
 cases y with
 |nil=>
  cases x with
  |nil=>simp at hn
  |cons a x=>exact hm a (ci.2 (.inl ⟨by simp,rfl⟩))
 |cons p y=>
  obtain⟨q,hq,a0,_⟩:=lj (p::y) p.size p p (Zb _) (by simp) (Ao p);exact hm _ (ci.2 (.inr ⟨q,hq,a0,rfl⟩))
end
def Dw (x y:List Int):Prop:= ∃p a b s t,x=p++a::s/\y=p++b::t/\a≠b
def Pf (x y:List Int):Prop:=x=y\/Dw x y
theorem Dw.app {x y:List Int}(h:Dw x y)(s t:List Int):Dw (x++s) (y++t):=by
 obtain⟨p,a,b,u,v,rfl,rfl,hne⟩:=h;exact⟨p,a,b,u++s,v++t,by simp,by simp,hne⟩
theorem Dw.pre {x y:List Int}(h:Dw x y)(q:List Int):Dw (q++x) (q++y):=by
 obtain⟨p,a,b,u,v,rfl,rfl,hne⟩:=h;exact⟨q++p,a,b,u,v,by simp,by simp,hne⟩
theorem Pf.app {x y s t:List Int}(h:Pf x y)(h2:Pf s t):Pf (x++s) (y++t):=by
 rcases h with rfl|h
 ·rcases h2 with rfl|h2
  ·exact .inl rfl
  ·exact .inr (h2.pre _)
 ·exact .inr (h.app _ _)
theorem Pf.head {a b:Int}{s t:List Int}(h:a=b->Pf s t):Pf (a::s) (b::t):=by
 by_cases e:a=b
 ·subst e;exact Pf.app (x:= [a]) (y:= [a]) (.inl rfl) (h rfl)
 ·exact .inr ⟨[],a,b,s,t,rfl,rfl,e⟩
theorem dV (a b:Int)(x y:List Int):aJ (a::x) (b::y)=if a<b then -1 else if b<a then 1 else aJ x y:=by
 conv=>lhs;unfold aJ
theorem qg (q x y:List Int):aJ (q++x) (q++y)=aJ x y:=by
 induction q with
 |nil=>rfl
 |cons a q ih=>show aJ (a:: (q++x)) (a:: (q++y))=_;rw[dV,if_neg (by omega),if_neg (by omega),ih]
theorem zR {x y:List Int}(h:Dw x y)(s t:List Int):aJ (x++s) (y++t)=aJ x y/\aJ x y≠0:=by
 obtain⟨p,a,b,u,v,rfl,rfl,hne⟩:=h;rw[List.append_assoc,List.append_assoc,qg,qg];simp only[List.cons_append,dV]
 by_cases h1:a<b
 ·simp[h1]
 ·have h2:b<a:=by omega
  simp[h1,h2]
theorem BE:∀ {x y:List Int},(∀c∈x,0<=c)->(∀c∈y,0<=c)->Pf (x ++ [-1]) (y ++ [-1])/\aJ (x ++ [-1]) (y ++ [-1])=aJ x y
 | [], [],_,_=>⟨.inl rfl,rfl⟩
 | [],b::y,_,hy=>by
  have:=hy b (by simp);refine⟨Pf.head fun e=>by omega,?_⟩
  show aJ (-1:: []) (b:: (y ++ [-1])) = -1
  rw[dV,if_pos (by omega)]
 |a::x, [],hx,_=>by
  have:=hx a (by simp);refine⟨Pf.head fun e=>by omega,?_⟩
  show aJ (a:: (x ++ [-1])) (-1:: [])=1
  rw[dV,if_neg (by omega),if_pos (by omega)]
 |a::x,b::y,hx,hy=>by
  have ih:=BE (x:=x) (y:=y) (fun c h=>hx c (Zl _ h)) (fun c h=>hy c (Zl _ h));refine⟨Pf.head fun _=>ih.1,?_⟩
  show aJ (a:: (x ++ [-1])) (b:: (y ++ [-1]))=aJ (a::x) (b::y)
  rw[dV,dV,ih.2]
theorem iw:∀ (f:Nat) (xs:List UInt8),∀c∈dB xA f xs,0<=c
 |0,_,c,h=>by simp[dB] at h
 |_+1, [],c,h=>by simp[dB] at h
 |f+1,x::t,c,h=>by
  unfold dB at h
  split at h
  ·rcases List.mem_cons.1 h with rfl|h
   ·exact Int.natCast_nonneg _
   ·exact iw f _ c h
  ·rcases List.mem_cons.1 h with rfl|h
   ·unfold xA;omega
   ·exact iw f _ c h
theorem ze (s:ByteArray):∀c∈nm s,0<=c:=iw _ _
def rE (s:ByteArray):List Int:=nm s ++ [-1]
theorem oH (s t:ByteArray):Pf (rE s) (rE t):=(BE (ze s) (ze t)).1
theorem rt {s t:ByteArray}(h:rE s=rE t):s=t:=sQ (List.append_cancel_right h)
def xo (d:Dc):Int:=if d.digits= ⟨#[48]⟩ then 0 else if d.neg then -1 else 1
def oK (s:Int):List UInt8->List Int
 | []=> [0]
 |c::l=>s* (c.toNat+1)::oK s l
def tA (d:Dc):List Int:=if xo d=0 then [0] else xo d::xo d* (d.digits.size+d.exp)::oK (xo d) d.digits.data.toList
theorem vI {s:Int}(hs:s≠0):∀ (l m:List UInt8),Pf (oK s l) (oK s m)
 | [], []=>.inl rfl
 | [],c::m=>Pf.head fun e=>by
  have:=(Int.mul_eq_zero.1 e.symm).resolve_left hs;omega
 |c::l, []=>Pf.head fun e=>by
  have:=(Int.mul_eq_zero.1 e).resolve_left hs;omega
 |c::l,d::m=>Pf.head fun _=>vI hs l m
theorem qL {s:Int}(hs:s≠0):∀ {l m:List UInt8},oK s l=oK s m->l=m
 | [], [],_=>rfl
 | [],c::m,e=>by
  simp only[oK,List.cons.injEq] at e;have:=(Int.mul_eq_zero.1 e.1.symm).resolve_left hs;omega
 |c::l, [],e=>by
  simp only[oK,List.cons.injEq] at e;have:=(Int.mul_eq_zero.1 e.1).resolve_left hs;omega
 |c::l,d::m,e=>by
  simp only[oK,List.cons.injEq] at e;have h1:=Int.eq_of_mul_eq_mul_left hs e.1;rw[qL hs e.2,show c=d from UInt8.toNat_inj.1 (by omega)]
theorem CA (a b:Dc):Pf (tA a) (tA b):=by
 unfold tA
 by_cases ha:xo a=0
 ·rw[if_pos ha]
  by_cases hb:xo b=0
  ·rw[if_pos hb];exact .inl rfl
  ·rw[if_neg hb];exact Pf.head fun e=>absurd e.symm hb
 ·rw[if_neg ha]
  by_cases hb:xo b=0
  ·rw[if_pos hb];exact Pf.head fun e=>absurd e ha
  ·rw[if_neg hb];exact Pf.head fun e=>Pf.head fun _=>by rw[e];exact vI hb _ _
def pg (d:Dc):Prop:=d.digits= ⟨#[48]⟩->d= ⟨false,⟨#[48]⟩,0⟩
theorem zJ {a b:Dc}(ha:pg a)(hb:pg b)(h:tA a=tA b):a=b:=by
 unfold tA at h
 by_cases h1:xo a=0
 ·rw[if_pos h1] at h
  by_cases h2:xo b=0
  ·have e1:a.digits= ⟨#[48]⟩:=by unfold xo at h1;split at h1;assumption;split at h1 <;> simp at h1
   have e2:b.digits= ⟨#[48]⟩:=by unfold xo at h2;split at h2;assumption;split at h2 <;> simp at h2
   rw[ha e1,hb e2]
  ·rw[if_neg h2] at h;injection h with h;exact absurd h.symm h2
 ·rw[if_neg h1] at h
  by_cases h2:xo b=0
  ·rw[if_pos h2] at h;injection h with h;exact absurd h h1
  ·rw[if_neg h2] at h;injection h with e1 h
   injection h with e2 e3
   rw[e1] at e2 e3;have hd:a.digits=b.digits:=by
    have:=qL h2 e3
    cases ha':a.digits with|mk x=>cases hb':b.digits with|mk y=>rw[ha',hb'] at this;simp at this;rw[this]
   have hx:=Int.eq_of_mul_eq_mul_left h2 e2;have hn:a.neg=b.neg:=by
    unfold xo at e1 h1 h2
    split at h1
    ·exact absurd rfl h1
    ·split at h2
     ·exact absurd rfl h2
     ·rename_i g1 g2
      rw[if_neg g1,if_neg g2] at e1
      revert e1;cases a.neg <;> cases b.neg <;> simp
   obtain⟨an,ad,ax⟩:=a;obtain⟨bn,bd,bx⟩:=b;simp only at hd hn hx;subst hd hn;rw[show ax=bx by omega]
mutual
/-- What stands for a value. -/
def JV.key:JV->List Int
 | .mk k t x n ns ks=>k:: (if k=2 then [if t then 1 else 0] else if k=3 then tA n else if k=4 then rE x else JV.keys (k=6) ns ks)
def JV.keys:Bool->List ByteArray->List JV->List Int
 |_,_, []=> [0]
 |o,ns,v::vs=>1:: ((if o then rE (ns.headD ⟨#[]⟩) else [])++ (JV.key v++JV.keys o ns.tail vs))
end
theorem uY {us:List JV}(h:∀u∈us,∀w:JV,Pf u.key w.key)(o:Bool):∀ (ns ms:List ByteArray) (ws:List JV),Pf (JV.keys o ns us) (JV.keys o ms ws):=by
 induction us with
 |nil=>
  intro ns ms ws
  cases ws with
  |nil=>exact .inl rfl
  |cons w ws=>exact Pf.head fun e=>by omega
 |cons u us ih=>
  intro ns ms ws
  cases ws with
  |nil=>exact Pf.head fun e=>by omega
  |cons w ws=>
   refine Pf.head fun _=>Pf.app ?_ ((h u (by simp) w).app (ih (fun u hu=>h u (Zl _ hu)) ..))
   cases o
   ·exact .inl rfl
   ·exact oH _ _
theorem EE (u:JV):∀w:JV,Pf u.key w.key:=by
 refine JV.ind (P:=fun u=> ∀w:JV,Pf u.key w.key) (fun k t x n ns ks ih w=>?_) u;obtain⟨k',t',x',n',ns',ks'⟩:=w;unfold JV.key;refine Pf.head fun e=>?_
 subst e
 by_cases h2:k=2
 ·rw[if_pos h2,if_pos h2];exact Pf.head fun _=>.inl rfl
 ·rw[if_neg h2,if_neg h2]
  by_cases h3:k=3
  ·rw[if_pos h3,if_pos h3];exact CA _ _
  ·rw[if_neg h3,if_neg h3]
   by_cases h4:k=4
   ·rw[if_pos h4,if_pos h4];exact oH _ _
   ·rw[if_neg h4,if_neg h4];exact uY ih _ _ _ _
