import Derived.Test.YtgkkffeagolnpaaGreatDoorGZ16ac
import Derived.StillTailTactics
import Derived.Deep.CutBlock
set_option linter.unusedVariables false
set_option linter.unusedSimpArgs false
namespace Go.Proofs.YtgkkffeagolnpaaGreatDoor
open Go.RowKit
variable {cells cur old:Array Value}{l m y:List ByteArray}{xs:List UInt8}{news us:List Value}{B base c cap g n r:Nat}{e ty:TypeId}{v z:Value}{w w' w0:World}
structure da (t e:TypeId) (z:Value) (k B:Nat):Prop where
 ht:Tryz.prog.underlying t=some (.slice e)
 hi:(Tryz.prog.info? e).map (fun i=>(i.zero,i.size,i.bytes))=some (some z,k,B)
 hz:z.cells.size=k
 h0:0<k
theorem jx:da 23 9 (.string ByteArray.empty) 1 16:=⟨Tryz.underlying23,by kernel_rfl,rfl,by decide⟩
theorem Jb:da 172 3 (.int .i64 0) 1 8:=⟨Tryz.underlying172,by kernel_rfl,rfl,by decide⟩
theorem vQ {t:TypeId}{k:Nat}(E:da t e z k B)(n:Nat)(hn:n<=maxLen)(hB:B*n<=281474976710656):∃cur:Array Value,cur.size=n*k/\
  ∀W:World,(Instr.makeSlice t (.int .i64 0) (.int .i64 (n:Int))).run Tryz.prog W =.ok (.slice (some ⟨W.heap.size,0,none⟩) 0 n) (W.alloc (.cells cur e)):=by
 obtain⟨i0,hi,a2,a1,a0⟩:=info_parts E.hi;have a3:n<=9223372036854775807:=by unfold maxLen at hn;omega
 refine⟨madeCells z.cells (n*k),by simp[madeCells],fun W=>?_⟩;have:=run_make (P:=Tryz.prog) W t e i0 z E.ht hi a2 .i64 .i64 0 n (by omega) (by omega) (by rw[a0];omega) (by omega);rw[a1] at this;simpa using this
theorem el {k:Nat}(hg:w.heap[g]?=some (.cells cur e (0,0)))(hb:base<=g)(hc:cap<=maxLen)(hs:cur.size=cap*k):w.ownsRow base e k (.slice (some ⟨g,0,none⟩) 0 cap) 0 []:=
 ⟨by rw[Nat.zero_mul];rfl,.inr ⟨g,cap,cur,rfl,hb,hg,Zj _,hc,hs,by rw[Nat.zero_mul];rfl⟩⟩
theorem kR {k:Nat}(hg:w.heap[g]?=some (.cells cur e (0,0)))(hb:base<=g)(hc:n<=maxLen)(hs:cur.size=n*k):w.ownsRow base e k (.slice (some ⟨g,0,none⟩) n n) n cur.toList:=
 ⟨by rw[Array.length_toList,hs],.inr ⟨g,n,cur,rfl,hb,hg,Zb _,hc,hs,List.take_of_length_le (by rw[Array.length_toList,hs];exact Zb _)⟩⟩
theorem li {t:TypeId}{k:Nat}(E:da t e z k B){o:Oper}{a:Act}{K:Act->World->Prop}{Q:Exit->Act->World->Prop}(s x:Operand)
  (ho:o.op =.call {callee:=.builtin .append,args:= #[s,x],argTypes:= #[t,t]})
  (base:Nat) (v:Value) (n g c m:Nat) (us news:List Value) (hs:a.eval s=v) (a2:w.ownsRow base e k v n us) (hx:a.eval x =.slice (some ⟨g,0,none⟩) m c) (hl:news.length=m*k)
  (hg:∀j u,news[j]?=some u->w.cell? ⟨g,j,none⟩=some u) (h1:∀u∈news,u.oneCell'=true)
  (hlen:n+m<=maxLen) (hby:(n+m)*B<=140737488355328) (a0:base<=w.heap.size)
  (h:∀v' w',w'.ownsRow base e k v' (n+m) (us++news)->w.grownBy w' v.ownBlock->(v'.ownBlock=v.ownBlock\/v'.ownBlock=some w.heap.size)->K (a.put o.dst v') w'):o.wp Tryz.prog a w K Q:=by
 obtain⟨i0,hi,a3,a4,a5⟩:=info_parts E.hi;obtain⟨v',w',a1,h2,h3,_,h5⟩:=run_append_own_at (P:=Tryz.prog) w base t o.type e i0 z k B E.ht hi a3 a4 a5 E.hz E.h0 v n us a2 ⟨g,0,none⟩ m c news
  hl (fun j y hy=>by
   have:=hg j y hy;unfold Addr.add
   split
   ·rename_i h0;subst h0;exact this
   ·simpa using this) h1 hlen hby a0
 unfold Oper.wp execOp;simp only[ho,resolve,invoke,builtin,Sem.run_bind,Sem.run_pure,Result.andThen_ok,List.map_toArray,List.map_cons,List.map_nil,hs,hx,a1];exact h v' w' h2 h3 h5
theorem dY {t:TypeId}{k:Nat}(E:da t e z k B){ops:Array Oper}{rest:List Oper}{o:Oper}{a:Act}{Q:Exit->Act->World->Prop}(a2:o.guard=none)(s x:Operand)
  (ho:o.op =.call {callee:=.builtin .append,args:= #[s,x],argTypes:= #[t,t]})
  (base:Nat) (v:Value) (n g c m:Nat) (us news:List Value) (hs:a.eval s=v) (a1:w.ownsRow base e k v n us) (hx:a.eval x =.slice (some ⟨g,0,none⟩) m c) (hl:news.length=m*k)
  (hg:∀j u,news[j]?=some u->w.cell? ⟨g,j,none⟩=some u) (h1:∀u∈news,u.oneCell'=true)
  (hlen:n+m<=maxLen) (hby:(n+m)*B<=140737488355328) (a0:base<=w.heap.size)
  (h:∀v' w',w'.ownsRow base e k v' (n+m) (us++news)->w.grownBy w' v.ownBlock->(v'.ownBlock=v.ownBlock\/v'.ownBlock=some w.heap.size)->wpList Tryz.prog ops Q rest (a.put o.dst v') w'):wpList Tryz.prog ops Q (o::rest) a w:=
 wpList_plain a2 fun _ hK=>li E s x ho base v n g c m us news hs a1 hx hl hg h1 hlen hby a0 fun v' w' h2 h3 h4=>hK _ _ (h v' w' h2 h3 h4)
theorem np {t:TypeId}{k:Nat}(E:da t e z k B){ops:Array Oper}{o:Oper}{a:Act}{K:Act->World->Prop}{Q:Exit->Act->World->Prop}{E':Prop}(a2:o.guard=none)(s x:Operand)
  (ho:o.op =.call {callee:=.builtin .append,args:= #[s,x],argTypes:= #[t,t]})
  (base:Nat) (v:Value) (n g c m:Nat) (us news:List Value) (hs:a.eval s=v) (a1:w.ownsRow base e k v n us) (hx:a.eval x =.slice (some ⟨g,0,none⟩) m c) (hl:news.length=m*k)
  (hg:∀j u,news[j]?=some u->w.cell? ⟨g,j,none⟩=some u) (h1:∀u∈news,u.oneCell'=true)
  (hlen:n+m<=maxLen) (hby:(n+m)*B<=140737488355328) (a0:base<=w.heap.size)
  (h:∀v' w',w'.ownsRow base e k v' (n+m) (us++news)->w.grownBy w' v.ownBlock->(v'.ownBlock=v.ownBlock\/v'.ownBlock=some w.heap.size)->K (a.put o.dst v') w') :
  if Region.wanted o (yielded ops a.tmps)=true then Oper.wp Tryz.prog o a w K Q else E':=by
 have hw:Region.wanted o (yielded ops a.tmps)=true:=by simp[Region.wanted,a2]
 rw[if_pos hw];exact li E s x ho base v n g c m us news hs a1 hx hl hg h1 hlen hby a0 h
theorem j3 {t:TypeId}{k:Nat}(E:da t e z k B){ops:Array Oper}{rest:List Oper}{o:Oper}{a:Act}{Q:Exit->Act->World->Prop}{s x:Operand}{m:Nat}
  (a1:w.ownsRow base e k v n us) (hg:∀j u,news[j]?=some u->w.cell? ⟨g,j,none⟩=some u) (a0:base<=w.heap.size)
  (h:∀v' w',w'.ownsRow base e k v' (n+m) (us++news)->w.grownBy w' v.ownBlock->(v'.ownBlock=v.ownBlock\/v'.ownBlock=some w.heap.size)->wpList Tryz.prog ops Q rest (a.put o.dst v') w')
  (ho:o.op =.call {callee:=.builtin .append,args:= #[s,x],argTypes:= #[t,t]}:=by exact rfl) (a2:o.guard=none:=by exact rfl) (hs:a.eval s=v:=by exact rfl) (hx:a.eval x =.slice (some ⟨g,0,none⟩) m c:=by exact rfl)
  (hl:news.length=m*k:=by exact rfl) (h1:∀u∈news,u.oneCell'=true:=by simp[Value.oneCell']) (hlen:n+m<=maxLen:=by unfold maxLen;omega) (hby:(n+m)*B<=140737488355328:=by omega):wpList Tryz.prog ops Q (o::rest) a w:=
 dY E a2 s x ho base v n g c m us news hs a1 hx hl hg h1 hlen hby a0 h
theorem xV {t:TypeId}{k:Nat}(E:da t e z k B){ops:Array Oper}{o:Oper}{a:Act}{K:Act->World->Prop}{Q:Exit->Act->World->Prop}{E':Prop}{s x:Operand}{m:Nat}
  (a1:w.ownsRow base e k v n us) (hg:∀j u,news[j]?=some u->w.cell? ⟨g,j,none⟩=some u) (a0:base<=w.heap.size)
  (h:∀v' w',w'.ownsRow base e k v' (n+m) (us++news)->w.grownBy w' v.ownBlock->(v'.ownBlock=v.ownBlock\/v'.ownBlock=some w.heap.size)->K (a.put o.dst v') w')
  (ho:o.op =.call {callee:=.builtin .append,args:= #[s,x],argTypes:= #[t,t]}:=by exact rfl) (a2:o.guard=none:=by exact rfl) (hs:a.eval s=v:=by exact rfl) (hx:a.eval x =.slice (some ⟨g,0,none⟩) m c:=by exact rfl)
  (hl:news.length=m*k:=by exact rfl) (h1:∀u∈news,u.oneCell'=true:=by simp[Value.oneCell']) (hlen:n+m<=maxLen:=by unfold maxLen;omega) (hby:(n+m)*B<=140737488355328:=by omega):if Region.wanted o (yielded ops a.tmps)=true then Oper.wp Tryz.prog o a w K Q else E':=
 np E a2 s x ho base v n g c m us news hs a1 hx hl hg h1 hlen hby a0 h
theorem av (w:World)(cs:List Value)(t:TypeId):∀j u,cs[j]?=some u->(w.alloc (.cells cs.toArray t)).cell? ⟨w.heap.size,j,none⟩=some u:=by
 intro j u hu;have:=Zf w (.cells cs.toArray t);unfold World.cell?;simp only[this];simpa using hu
theorem aF {k:Nat}(hb:Below base w0 w)(h:w.ownsRow base e k v n us)(hle:base<=w.heap.size)(hg:w.grownBy w' v.ownBlock):Below base w0 w':=
 hb.grown hg hle (fun g e'=>(ao h e').1)
def Sl (w:World)(v:Value)(us:List Value):Prop:=us.length<=9223372036854775807/\∃A c,v =.slice A us.length c/\us.length<=c/\(0<us.length->∃g o,A=some ⟨g,o,none⟩/\∀i u,us[i]?=some u->w.cell? ⟨g,o+i,none⟩=some u)
theorem Sl.of_own (h:w.ownsRow base e 1 v n us):Sl w v us:=by
 have hl:us.length=n:=by have:=h.1;omega
 subst hl;obtain⟨A,c,rfl,hc,hm,hA⟩:=ag h;refine⟨by unfold maxLen at hm;omega,A,c,rfl,hc,fun h0=>?_⟩;obtain⟨g,rfl⟩:=hA h0;refine⟨g,0,rfl,fun i u hu=>?_⟩;have hi:=(List.getElem?_eq_some_iff.1 hu).1;rw[Nat.zero_add,World.ownsRow.cellAt h i (by omega)];exact hu
theorem Sl.below (h:Sl w v us)(hb:Below w.heap.size w w'):Sl w' v us:=by
 obtain⟨hm,A,c,e,hc,hA⟩:=h;refine⟨hm,A,c,e,hc,fun h0=>?_⟩;obtain⟨g,o,e,a0⟩:=hA h0;exact⟨g,o,e,fun i u hu=>Zg hb (a0 i u hu)⟩
theorem Sl.drewN (h:Sl w v us)(m:Nat):Sl (w.drewN m) v us:=h
theorem FK {a b:ByteArray}:a.toList=b.toList↔a=b:=by
 rw[ByteArray.toList_eq,ByteArray.toList_eq];refine⟨fun h=>?_,fun h=>by rw[h]⟩
 cases a;cases b;simp at h;simp[h]
theorem eo (a b:ByteArray):(a.toList==b.toList)=decide (a=b):=by
 rw[Bool.eq_iff_iff,beq_iff_eq,decide_eq_true_iff];exact FK
abbrev es:ByteArray:=⟨#[]⟩
def Iz:Dc:=⟨false,es,0⟩
def Wr (w:World)(v:Value):Prop:=v =.slice none 0 0\/∃g c b p s,v =.slice (some ⟨g,0,none⟩) 1 c/\w.cell? ⟨g,0,none⟩=some (.bool b)/\w.cell? ⟨g,1,none⟩=some (.int .i64 p)/\w.cell? ⟨g,2,none⟩=some (.string s)
theorem Wr.below (h:Wr w v)(hb:Below w.heap.size w w'):Wr w' v:=by
 rcases h with rfl|⟨g,c,b,p,s,rfl,h1,h2,h3⟩
 ·exact .inl rfl
 ·exact .inr ⟨g,c,b,p,s,rfl,Zg hb h1,Zg hb h2,Zg hb h3⟩
def gF (c h l:Int)(s:Value):Value:=.agg #[.int .i64 c,.int .i64 h,.int .i64 l,s]
def Er (w:World)(c:Int)(v:Value):Prop:= ∃h l s,v=gF c h l s/\Wr w s
def J0 (w:World)(c:Int)(e:Ending)(w':World):Prop:= ∃v,e =.returned v/\Er w' c v/\Below w.heap.size w w'
theorem Er.below {c:Int}(h:Er w c v)(hb:Below w.heap.size w w'):Er w' c v:=by
 obtain⟨a,l,s,rfl,hs⟩:=h;exact⟨a,l,s,rfl,hs.below hb⟩
theorem Wr.slice (h:Wr w v):∃A n c,v =.slice A n c/\n<=1:=by
 rcases h with rfl|⟨g,c,b,p,s,rfl,_⟩
 ·exact⟨_,_,_,rfl,by omega⟩
 ·exact⟨_,_,_,rfl,by omega⟩
theorem dm:(Tryz.prog.info? 66).map (·.size)=some 4:=by kernel_rfl
theorem gX (c:Int)(w:World):Calls Tryz.prog 62 #[.int .i64 c] w (J0 w c):=by
 go_enter Tryz.func62,Tryz.ntmps62;go_wp2;exact Zh (results_cell_row Tryz.results62 _ _ w.heap.size 66 #[.int .i64 c,.int .i64 0,.int .i64 0,.slice none 0 0] (0,0) _ (by simp) (Zf w _) Tryz.underlying66 rfl dm) rfl ⟨_,rfl,⟨0,0,_,rfl,.inl rfl⟩,aa _ _⟩
theorem p8 (c h l:Int){s:Value}(hs:s.oneCell'=true):(#[.int .i64 c,.int .i64 h,.int .i64 l,s]:Array Value).all (·.oneCell')=true:=by
 simp[hs,show ∀n,(Value.int .i64 n).oneCell'=true from fun _=>rfl]
theorem dF {fn:Func}{p q:Tmp}(h:fn.results = #[.tmp p,.cell q 66])(tmps:Array Value)(w:World)(g:Nat)(t:TypeId)(c0 c1 c2 c3:Value)(fr:Nat×Nat)
  (hp:tmps.getD q undef =.pointer (some ⟨g,0,none⟩)) (hg:w.heap[g]?=some (.cells #[c0,c1,c2,c3] t fr)) :
  (results fn tmps).run Tryz.prog w =.ok (.tuple #[tmps.getD p undef,.agg #[c0,c1,c2,c3]]) w:=by
 have a0:tmps[q]?.getD undef =.pointer (some ⟨g,0,none⟩):=by simpa using hp
 have hl:=run_loadVar_row (P:=Tryz.prog) w g t 66 #[c0,c1,c2,c3] fr _ hg Tryz.underlying66 rfl dm;simp[results,h,a0,asAddr,hl]
theorem mR {ops:Array Oper}{o:Oper}{a:Act}{K:Act->World->Prop}{Q:Exit->Act->World->Prop}{E:Prop}(a1:o.guard=none)(ty:TypeId)(x y:Operand)(ho:o.op =.store ty x y)
  (g:Nat) (cells:Array Value) (hx:a.eval x =.pointer (some ⟨g,0,none⟩)) (hy:a.eval y =.agg cells)
  (t:TypeId) (old:Array Value) (hg:w.heap[g]?=some (.cells old t (0,0))) (hi:(Tryz.prog.info? ty).map (·.size)=some cells.size)
  (a0:old.size=cells.size) (h1:cells.all (·.oneCell')=true)
  (h:K (a.put o.dst undef) (w.setRow g cells)):if Region.wanted o (yielded ops a.tmps)=true then Oper.wp Tryz.prog o a w K Q else E:=by
 have hw:Region.wanted o (yielded ops a.tmps)=true:=by simp[Region.wanted,a1]
 rw[if_pos hw];exact wp_store_row ty x y ho g cells hx hy t old hg hi a0 h1 h
theorem kP {ops:Array Oper}{o:Oper}{a:Act}{K:Act->World->Prop}{Q:Exit->Act->World->Prop}{E:Prop}{t:TypeId}{x y:Operand}(hg:w.heap[g]?=some (.cells old t (0,0)))(h:K (a.put o.dst undef) (w.setRow g cells))
  (ho:o.op =.store ty x y:=by exact rfl) (hx:a.eval x =.pointer (some ⟨g,0,none⟩):=by exact rfl) (hy:a.eval y =.agg cells:=by exact rfl) (a1:o.guard=none:=by exact rfl)
  (hi:(Tryz.prog.info? ty).map (·.size)=some cells.size:=by kernel_rfl) (a0:old.size=cells.size:=by exact rfl) (h1:cells.all (·.oneCell')=true:=by simp[Value.oneCell']):if Region.wanted o (yielded ops a.tmps)=true then Oper.wp Tryz.prog o a w K Q else E:=
 mR a1 ty x y ho g cells hx hy t old hg hi a0 h1 h
def iK (l:List UInt8):Prop:= ∃cs:List Int,(∀c∈cs,cA c=true)/\l=cs.flatMap a7
theorem iK.nil:iK []:=⟨[],by simp,rfl⟩
theorem iK.snoc {l:List UInt8}{c:Int}(h:iK l)(hc:cA c=true):iK (l++a7 c):=by
 obtain⟨cs,h1,rfl⟩:=h;refine⟨cs ++ [c],fun d hd=>?_,by simp⟩;rcases List.mem_append.1 hd with h|h
 ·exact h1 d h
 ·rw[List.mem_singleton] at h;rw[h];exact hc
def JI (d:Dc):Prop:=d= ⟨false,⟨#[48]⟩,0⟩\/(0<d.digits.size/\(∀i (h:i<d.digits.size),48<=d.digits[i].toNat/\d.digits[i].toNat<=57)/\(∀h:0<d.digits.size,d.digits[0].toNat≠48)/\(∀h:d.digits.size - 1<d.digits.size,d.digits[d.digits.size - 1].toNat≠48)/\ -1000000000<=d.exp/\d.exp<=1000000000)
structure Tk where
 kind:Int
 at_:Int
 mark:Int
 str:ByteArray
 num:Dc
def S4 (fb:Nat)(w:World):Prop:=w.cell? ⟨fb,0,none⟩=some (.int .i64 0)/\w.cell? ⟨fb,1,none⟩=some (.int .i64 0)/\w.cell? ⟨fb,2,none⟩=some (.int .i64 0)/\w.cell? ⟨fb,3,none⟩=some (.slice none 0 0)
theorem iq {b:Nat}(h:w.cell? ⟨b,n,none⟩=some v)(hg:w.grownBy w' (some r))(hr:b≠r):w'.cell? ⟨b,n,none⟩=some v:=hg.cell h fun e=>by injection e with e;exact hr e
theorem S4.keep {fb:Nat}(h:S4 fb w)(hg:w.grownBy w' (some r))(hr:fb≠r):S4 fb w':=by
 exact⟨iq h.1 hg hr,iq h.2.1 hg hr,iq h.2.2.1 hg hr,iq h.2.2.2 hg hr⟩
def dX (bad:UInt8->Int):Nat->List UInt8->List Int
 |0,_=> []
 |_+1, []=> []
 |f+1,x::t=>if(bg (x::t)).2.2=0 then((bg (x::t)).1:Int)::dX bad f ((x::t).drop (bg (x::t)).2.1) else bad x::dX bad f t
def jV (bad:UInt8->Int)(xs:List UInt8):List Int:=dX bad xs.length xs
theorem j6 (bad:UInt8->Int):∀ (f g:Nat) (xs:List UInt8),xs.length<=f->xs.length<=g->dX bad f xs=dX bad g xs
 |0,g,xs,h,_=>by
  obtain rfl:xs = []:=List.eq_nil_of_length_eq_zero (by omega)
  cases g <;> rfl
 |f+1,g, [],_,_=>by cases g <;> rfl
 |f+1,0,x::t,_,h=>by simp at h
 |f+1,g+1,x::t,h1,h2=>by
  simp only[List.length_cons] at h1 h2;unfold dX
  split
  ·rename_i h
   have hp:=ei h;rw[j6 bad f g _ (by rw[List.length_drop,List.length_cons];omega) (by rw[List.length_drop,List.length_cons];omega)]
  ·rw[j6 bad f g t (by omega) (by omega)]
theorem mJ {bad:UInt8->Int}(h0:xs≠ [])(h:(bg xs).2.2=0):jV bad xs= ((bg xs).1:Int)::jV bad (xs.drop (bg xs).2.1):=by
 cases xs with
 |nil=>exact absurd rfl h0
 |cons x t=>
  have hp:=ei h;unfold jV;rw[List.length_cons,dX,if_pos h,j6 bad t.length _ _ (by rw[List.length_drop,List.length_cons];omega) (Zb _)]
theorem yP {bad:UInt8->Int}{x:UInt8}{t:List UInt8}(h:(bg (x::t)).2.2≠0):jV bad (x::t)=bad x::jV bad t:=by
 unfold jV;rw[List.length_cons,dX,if_neg h]
theorem m8 (bad:UInt8->Int):∀ {cs:List Int},(∀c∈cs,cA c=true)->jV bad (cs.flatMap a7)=cs
 | [],_=>rfl
 |c::cs,h=>by
  have hc:=h c (by simp);have h0:=cq hc;obtain⟨n,rfl⟩:∃n:Nat,c=n:=⟨c.toNat,by omega⟩;have hd:=eI n hc (cs.flatMap a7);rw[List.flatMap_cons,mJ (by simp[gQ hc]) (by rw[hd]),hd];simp only[List.drop_left];rw[m8 bad (fun c hm=>h c (Zl _ hm))]
def zH (x:UInt8):Int:=1114112+x.toNat
def JP (c:Int):List UInt8:=if c<1114112 then a7 c else [UInt8.ofNat (c - 1114112).toNat]
theorem fL:∀ (n:Nat) (xs:List UInt8),xs.length<=n->(jV zH xs).flatMap JP=xs
 |_, [],_=>rfl
 |0,x::t,h=>by simp at h
 |n+1,x::t,h=>by
  simp only[List.length_cons] at h
  by_cases hd:(bg (x::t)).2.2=0
  ·have ⟨h1,h2⟩:=il hd;have hp:=ei hd;rw[mJ (by simp) hd,List.flatMap_cons,fL n _ (by rw[List.length_drop,List.length_cons];omega)];unfold JP;rw[if_pos (by have:=Bw h2;omega),h1,List.take_append_drop]
  ·rw[yP hd,List.flatMap_cons,fL n t (by omega)];unfold JP zH;rw[if_neg (by have:=x.toNat_lt;omega),show(1114112+ (x.toNat:Int) - 1114112).toNat=x.toNat by omega,UInt8.ofNat_toNat];rfl
def nm (s:ByteArray):List Int:=jV zH s.data.toList
theorem qt {s t:ByteArray}(h:nm s=nm t):s=t:=by
 have h1:=fL _ s.data.toList (Zb _);have h2:=fL _ t.data.toList (Zb _);unfold nm at h;rw[h,h2] at h1
 cases s with|mk s=>cases t with|mk t=>simp at h1;simp[h1]
def aJ:List Int->List Int->Int
 | [], []=>0
 | [],_::_=> -1
 |_::_, []=>1
 |a::x,b::y=>if a<b then -1 else if b<a then 1 else aJ x y
theorem ik:∀ {x y:List Int},aJ x y=0->x=y
 | [], [],_=>rfl
 | [],_::_,h=>by simp[aJ] at h
 |_::_, [],h=>by simp[aJ] at h
 |a::x,b::y,h=>by
  unfold aJ at h
  split at h
  ·simp at h
  ·split at h
   ·simp at h
   ·rw[ik h,show a=b by omega]
theorem ev:∀x:List Int,aJ x x=0
 | []=>rfl
 |a::x=>by unfold aJ;rw[if_neg (by omega),if_neg (by omega),ev x]
theorem ki:∀x y:List Int,aJ y x = - aJ x y
 | [], []=>rfl
 | [],_::_=>rfl
 |_::_, []=>rfl
 |a::x,b::y=>by
  unfold aJ
  by_cases h1:a<b
  ·rw[if_neg (by omega),if_pos h1,if_pos h1];rfl
  ·by_cases h2:b<a
   ·rw[if_pos h2,if_neg h1,if_pos h2];try rfl
   ·rw[if_neg h2,if_neg h1,if_neg h1,if_neg h2,ki x y]
theorem jg:∀ {x y z:List Int},aJ x y<0->aJ y z<0->aJ x z<0
 | [],y, [],h1,h2=>by cases y <;> simp[aJ] at h1 h2
 | [],_,_::_,_,_=>by simp[aJ]
 |_::_, [],_,h1,_=>by simp[aJ] at h1
 |_::_,_::_, [],_,h2=>by simp[aJ] at h2
 |a::x,b::y,c::z,h1,h2=>by
  unfold aJ at h1 h2 ⊢
  by_cases ab:a<b
  ·rw[if_pos ab] at h1
   by_cases bc:b<c
   ·rw[if_pos (by omega)];omega
   ·rw[if_neg bc] at h2
    by_cases cb:c<b
    ·rw[if_pos cb] at h2;omega
    ·rw[if_pos (by omega)];omega
  ·rw[if_neg ab] at h1
   by_cases ba:b<a
   ·rw[if_pos ba] at h1;omega
   ·rw[if_neg ba] at h1
    by_cases bc:b<c
    ·rw[if_pos (by omega)];omega
    ·rw[if_neg bc] at h2
     by_cases cb:c<b
     ·rw[if_pos cb] at h2;omega
     ·rw[if_neg cb] at h2;rw[if_neg (by omega),if_neg (by omega)];exact jg h1 h2
def iC (a b:ByteArray):Prop:=aJ (nm a) (nm b)<0
theorem fk {a b c:ByteArray}(h1:iC a b)(h2:iC b c):iC a c:=jg h1 h2
theorem jf (a:ByteArray):¬iC a a:=by unfold iC;rw[ev];omega
theorem kd {a b:ByteArray}(h:¬iC a b)(hne:a≠b):iC b a:=by
 unfold iC at *;have h1:=ki (nm a) (nm b)
 by_cases h0:aJ (nm a) (nm b)=0
 ·exact absurd (qt (ik h0)) hne
 ·omega
theorem vu {a b:ByteArray}(h:iC a b):a≠b:=fun e=>by subst e;exact jf _ h
def E9 (ns:List ByteArray):Prop:=ns.Pairwise iC
theorem oy {α:Type}{f:α->ByteArray}:∀ {l m:List α},l.Perm m->(l.map f).Pairwise iC->(m.map f).Pairwise iC->l=m
 | [],m,hp,_,_=>by have:=hp.length_eq;simp at this;rw[List.eq_nil_of_length_eq_zero this.symm]
 |a::l, [],hp,_,_=>by have:=hp.length_eq;simp at this
 |a::l,b::m,hp,h1,h2=>by
  simp only[List.map_cons,List.pairwise_cons] at h1 h2
  by_cases hab:a=b
  ·subst hab;rw[oy (List.Perm.cons_inv hp) h1.2 h2.2]
  ·have hb:b∈a::l:=hp.mem_iff.2 (by simp);have ha:a∈b::m:=hp.mem_iff.1 (by simp);have a0:b∈l:=by rcases List.mem_cons.1 hb with e|h;exact absurd e.symm hab;exact h
   have a1:a∈m:=by rcases List.mem_cons.1 ha with e|h;exact absurd e hab;exact h
   exact absurd (fk (h1.1 (f b) (List.mem_map_of_mem a0)) (h2.1 (f a) (List.mem_map_of_mem a1))) (jf _)
def AD (n:Nat)(f:Nat->Nat):Nat×Nat:=
 if f 0<128 then(f 0,1)
 else if f 0/32=6/\(1<n/\f 1/64=2) then(if(f 0 % 32)*64+f 1 % 64 ≥ 128 then((f 0 % 32)*64+f 1 % 64,2) else(65533,1))
 else if(f 0/16=14/\(1<n/\f 1/64=2))/\(2<n/\f 2/64=2) then
  (if(f 0 % 16)*4096+ (f 1 % 64)*64+f 2 % 64 ≥ 2048/\Utf8.valid (((f 0 % 16)*4096+ (f 1 % 64)*64+f 2 % 64:Nat):Int)=true then((f 0 % 16)*4096+ (f 1 % 64)*64+f 2 % 64,3) else(65533,1))
 else if((f 0/8=30/\(1<n/\f 1/64=2))/\(2<n/\f 2/64=2))/\(3<n/\f 3/64=2) then
  (if(f 0 % 8)*262144+ (f 1 % 64)*4096+ (f 2 % 64)*64+f 3 % 64 ≥ 65536/\Utf8.valid (((f 0 % 8)*262144+ (f 1 % 64)*4096+ (f 2 % 64)*64+f 3 % 64:Nat):Int)=true then((f 0 % 8)*262144+ (f 1 % 64)*4096+ (f 2 % 64)*64+f 3 % 64,4) else(65533,1))
 else(65533,1)
theorem tT (s:ByteArray)(i k:Nat):(s.get! (i+k)).toNat=am (s.data.toList.drop i) k:=by
 rw[gM];unfold am
 show(s.data[i+k]!).toNat=_
 rw[List.getD_eq_getElem?_getD,Array.getElem?_toList,getElem!_def]
 cases s.data[i+k]? <;> rfl
theorem rk (s:ByteArray)(i:Nat):Utf8.decode s i=AD (s.data.toList.drop i).length (am (s.data.toList.drop i)):=by
 have hn:∀k,(i+k<s.size)= (k< (s.data.toList.drop i).length):=by
  intro k;rw[List.length_drop,Array.length_toList];show(i+k<s.data.size)=_;exact propext ⟨fun h=>by omega,fun h=>by omega⟩
 unfold Utf8.decode AD;simp only[tT,hn,Utf8.runeError,Bool.and_eq_true,decide_eq_true_eq,beq_iff_eq,and_assoc]
theorem kB (n:Nat):Utf8.valid (n:Int)=true↔n<=1114111/\¬ (55296<=n/\n<=57343):=by
 unfold Utf8.valid;simp;omega
theorem AV (h0:xs≠ []):AD xs.length (am xs)=if(bg xs).2.2=0 then((bg xs).1,(bg xs).2.1) else(65533,1):=by
 by_cases hd:(bg xs).2.2=0
 ·rw[if_pos hd];rcases kA hd with ⟨a,t,rfl,h1,e⟩|⟨a,b,t,rfl,h1,hs,e⟩|⟨a,b,c,t,rfl,h1,hs,ht,e⟩|⟨a,b,c,d,t,rfl,h1,hs,ht,a1,e⟩ <;> rw[e] <;> unfold AD <;> simp only[kB]
  ·rw[xt,if_pos h1]
  ·unfold gG at hs;have hb:=b8 b;rw[xt,DN,if_neg (by omega),if_pos ⟨by omega,by simp,by omega⟩,if_pos (by omega)]
  ·unfold gG at hs;unfold tl at ht;have hb:=b8 b;have hc:=b8 c;rw[xt,DN,GG,if_neg (by omega),if_neg (by omega),if_pos ⟨⟨by omega,by simp,by omega⟩,by simp,by omega⟩,if_pos (by omega)]
   congr 1;omega
  ·unfold gG at hs;unfold tl at ht a1;have hb:=b8 b;have hc:=b8 c;have a0:=b8 d;rw[xt,DN,GG,Jm,if_neg (by omega),if_neg (by omega),if_neg (by omega),if_pos ⟨⟨⟨by omega,by simp,by omega⟩,by simp,by omega⟩,by simp,by omega⟩,if_pos (by omega)]
   congr 1;omega
 ·rw[if_neg hd];unfold AD;simp only[kB]
  cases xs with
  |nil=>exact absurd rfl h0
  |cons a t=>
   have ha:=b8 a
   by_cases h1:a.toNat<128
   ·exact absurd (by rw[pn a t h1]) hd
   rw[xt,if_neg h1]
   split
   ·rename_i h2
    split
    ·rename_i h3
     cases t with
     |nil=>simp at h2
     |cons b t=>
      rw[DN] at h2 h3;have hb:=b8 b;exact absurd (by rw[uM a (b::t) (by omega)];simp only;rw[if_pos (by unfold gG;omega)]) hd
    ·rfl
   ·split
    ·rename_i h2
     split
     ·rename_i h3
      rcases t with _|⟨b,_|⟨c,t⟩⟩
      ·simp at h2
      ·simp at h2
      ·rw[DN,GG] at h2 h3;have hb:=b8 b;have hc:=b8 c;exact absurd (by rw[wh a (b::c::t) (by omega)];simp only;rw[if_pos (by unfold gG;omega),if_pos (by unfold tl;omega)]) hd
     ·rfl
    ·split
     ·rename_i h2
      split
      ·rename_i h3
       rcases t with _|⟨b,_|⟨c,_|⟨d,t⟩⟩⟩
       ·simp at h2
       ·simp at h2
       ·simp at h2
       ·rw[DN,GG,Jm] at h2 h3;have hb:=b8 b;have hc:=b8 c;have a0:=b8 d;exact absurd (by rw[vR a (b::c::d::t) (by omega)];simp only;rw[if_pos (by unfold gG;omega),if_pos (by unfold tl;omega),if_pos (by unfold tl;omega)]) hd
      ·rfl
     ·rfl
theorem i7 (s:ByteArray)(i:Nat)(h:i<s.size):Utf8.decode s i=if(bg (s.data.toList.drop i)).2.2=0 then((bg (s.data.toList.drop i)).1,(bg (s.data.toList.drop i)).2.1) else(65533,1):=by
 rw[rk];apply AV;intro e;have:=congrArg List.length e;rw[List.length_drop,Array.length_toList] at this;have:s.size=s.data.size:=rfl;simp at *;omega
theorem AS:a7 ((65533:Nat):Int) = [239,191,189]:=by rw[l9 65533 (by omega) (by omega)];rfl
theorem xR:dq aJ:=by
 constructor
 ·intro x y;have:=ki x y;omega
 ·intro x y z h1 h2
  by_cases e1:aJ x y=0
  ·rw[ik e1];exact h2
  ·by_cases e2:aJ y z=0
   ·rw[<-ik e2];exact h1
   ·have:=jg (show aJ x y<0 by omega) (show aJ y z<0 by omega);omega
def EY (x y:List UInt8):Int:=aJ (nm ⟨x.toArray⟩) (nm ⟨y.toArray⟩)
theorem ri:dq EY:=xR.by fun x:List UInt8=>nm ⟨x.toArray⟩
theorem Bu {x y:List UInt8}(h:EY x y=0):x=y:=by
 have h1:=qt (ik h);injection h1 with h1
 exact List.toArray_inj h1
def yg (a b:ByteArray):Int:=va (cO EY (bq a.data.toList) (bq b.data.toList))
theorem sc:dq yg:=((kG ri).by fun a:ByteArray=>bq a.data.toList).sgn
def Ch (s:ByteArray):Prop:=Jo s.data.toList
theorem qI {a b:ByteArray}(ha:Ch a)(hb:Ch b)(h:yg a b=0):a=b:=by
 have h1:cO EY (bq a.data.toList) (bq b.data.toList)=0:=by
  unfold yg va at h
  split at h
  ·omega
  ·split at h <;> omega
 have h2:=yi ha hb (oL _ _ (fun x _ y _ e=>Bu e) h1)
 cases a with|mk a=>cases b with|mk b=>simp at h2;simp[h2]
def vG (a b:ByteArray):Int:=cO (fun x y:UInt8=>ny x.toNat y.toNat) a.data.toList b.data.toList
theorem xN:dq vG:=(kG (xU.by fun x:UInt8=>x.toNat)).by fun a:ByteArray=>a.data.toList
theorem yK {a b:ByteArray}(h:vG a b=0):a=b:=by
 have h2:=oL _ _ (fun x _ y _ e=>UInt8.toNat_inj.1 (zJ e)) h
 cases a with|mk a=>cases b with|mk b=>simp at h2;simp[h2]
structure En where
 eAt:ByteArray
 eSch:ByteArray
 eKw:ByteArray
 deriving DecidableEq,Inhabited
def xw (a b:En):Int:=GT (yg a.eAt b.eAt) (GT (yg a.eSch b.eSch) (vG a.eKw b.eKw))
theorem cM:dq xw:=(sc.by En.eAt).or ((sc.by En.eSch).or (xN.by En.eKw))
def Jn (a:En):Prop:=Ch a.eAt/\Ch a.eSch
theorem C5 {a b:En}(ha:Jn a)(hb:Jn b)(h:xw a b=0):a=b:=by
 unfold xw GT at h
 split at h
 ·next e1=>
  split at h
  ·next e2=>
   cases a;cases b
   simp only[En.mk.injEq];exact⟨qI ha.1 hb.1 e1,qI ha.2 hb.2 e2,yK h⟩
  ·next e2=>exact absurd h e2
 ·next e1=>exact absurd h e1
theorem qL {α:Type}{c:α->α->Int}(h:dq c):∀l m:List α,l.Pairwise (fun a b=>c a b<0)->m.Pairwise (fun a b=>c a b<0)->(∀x,x∈l↔x∈m)->l=m
 | [], [],_,_,_=>rfl
 | [],y::m,_,_,e=>by have:=(e y).2 (by simp);simp at this
 |x::l, [],_,_,e=>by have:=(e x).1 (by simp);simp at this
 |x::l,y::m,hl,hm,e=>by
  rw[List.pairwise_cons] at hl hm;have exy:x=y:=by
   rcases List.mem_cons.1 ((e x).1 (by simp)) with r|r
   ·exact r
   ·rcases List.mem_cons.1 ((e y).2 (by simp)) with s|s
    ·exact s.symm
    ·have a:=hm.1 x r;have b:=hl.1 y s;have:=h.ctn x y;omega
  subst exy;have hne:∀z,c x z<0->z≠x:=fun z hz e=>by subst e;have:=h.refl z;omega
  rw[qL h l m hl.2 hm.2 fun z=>by
   constructor
   ·intro hz;rcases List.mem_cons.1 ((e z).1 (by simp[hz])) with r|r
    ·exact absurd r (hne z (hl.1 z hz))
    ·exact r
   ·intro hz;rcases List.mem_cons.1 ((e z).2 (by simp[hz])) with r|r
    ·exact absurd r (hne z (hm.1 z hz))
    ·exact r]
def qk {α:Type} [DecidableEq α]:List α->List α
 |x::y::t=>if x=y then qk (y::t) else x::qk (y::t)
 |l=>l
theorem py {α:Type} [DecidableEq α] (z:α):∀l:List α,z∈qk l↔z∈l
 | []=>by simp[qk]
 | [x]=>by simp[qk]
 |x::y::t=>by
  have ih:=py z (y::t);unfold qk
  split
  ·next e=>rw[ih,e];simp
  ·rw[List.mem_cons,ih];simp only[List.mem_cons]
theorem wH {α:Type} [DecidableEq α] {c:α->α->Int}(h:dq c):∀l:List α,(∀x∈l,∀y∈l,c x y=0->x=y)->l.Pairwise (fun a b=> ¬c b a<0)->(qk l).Pairwise (fun a b=>c a b<0)
 | [],_,_=>by simp[qk]
 | [x],_,_=>by simp[qk]
 |x::y::t,hz,hp=>by
  have a0:=List.pairwise_cons.1 hp;have hy:=List.pairwise_cons.1 a0.2;have ih:=wH h (y::t) (fun a ha b hb=>hz a (by simp[ha]) b (by simp[hb])) a0.2;unfold qk
  split
  ·exact ih
  ·next hne=>
   rw[List.pairwise_cons];refine⟨fun z hm=>?_,ih⟩;have a1:c x y<0:=by
    have a:=a0.1 y (by simp);have b:=h.ctn x y;have d:=h.ctn y x
    by_cases k:c x y=0
    ·exact absurd (hz x (by simp) y (by simp) k) hne
    ·omega
   rcases List.mem_cons.1 ((py z _).1 hm) with r|r
   ·rw[r];exact a1
   ·have a:=hy.1 z r;have b:=h.ctn z y;have d:=h.ctn y z;exact h.lt a1 (by omega)
def cV (a r:ByteArray):Bool:=decide (a=r)||(r.data.toList ++ [47]).isPrefixOf a.data.toList
theorem fF {a r:ByteArray}:cV a r=true↔a=r\/∃t,r.data.toList++47::t=a.data.toList:=by
 unfold cV;rw[Bool.or_eq_true,decide_eq_true_iff,List.isPrefixOf_iff_prefix]
 constructor
 ·rintro(h|⟨t,h⟩)
  ·exact .inl h
  ·exact .inr ⟨t,by rw[<-h];simp⟩
 ·rintro(h|⟨t,h⟩)
  ·exact .inl h
  ·exact .inr ⟨t,by rw[<-h];simp⟩
theorem Bn (a:ByteArray):cV a a=true:=fF.2 (.inl rfl)
theorem kw {a b c:ByteArray}(h1:cV a b=true)(h2:cV b c=true):cV a c=true:=by
 rcases fF.1 h1 with rfl|⟨t,h1⟩
 ·exact h2
 ·rcases fF.1 h2 with rfl|⟨u,h2⟩
  ·exact fF.2 (.inr ⟨t,h1⟩)
  ·exact fF.2 (.inr ⟨u++47::t,by rw[<-h1,<-h2];simp⟩)
theorem jW {a b:ByteArray}(h:cV a b=true):a=b\/b.size<a.size:=by
 rcases fF.1 h with h|⟨t,h⟩
 ·exact .inl h
 ·have:=congrArg List.length h;simp at this;exact .inr (by omega)
theorem Dk {a b:ByteArray}(h1:cV a b=true)(h2:cV b a=true):a=b:=by
 rcases jW h1 with h|h
 ·exact h
 ·rcases jW h2 with h'|h'
  ·exact h'.symm
  ·omega
def dV (a:ByteArray)(l:List ByteArray):Bool:=l.any (cV a)
theorem cF {a:ByteArray}:dV a l=true↔∃q∈l,cV a q=true:=by simp[dV]
def lK:ByteArray:=⟨#[120,45,115,101,99,114,101,116]⟩
def eH (p:ByteArray):En:=⟨p,⟨#[]⟩,lK⟩
def rY (l:List ByteArray)(p:ByteArray):Bool:= !l.any fun q=> !decide (q=p)&&cV p q
def rN (l:List ByteArray)(p:ByteArray):Prop:= ∀q∈l,cV p q=true->q=p
theorem wK {p:ByteArray}:rY l p=true↔rN l p:=by
 simp only[rY,rN,Bool.not_eq_true',List.any_eq_false,Bool.and_eq_true,Bool.not_eq_true',decide_eq_false_iff_not,not_and]
 constructor
 ·intro h q hq hu;refine Classical.byContradiction fun hn=>h q hq hn hu
 ·intro h q hq hn hu;exact hn (h q hq hu)
def eC (l:List ByteArray):Nat->List ByteArray
 |0=> []
 |k+1=>if rY l (l.getD k ⟨#[]⟩)&& !(l.take k).any (fun q=>decide (q=l.getD k ⟨#[]⟩)) then eC l k ++ [l.getD k ⟨#[]⟩] else eC l k
theorem qE (p:ByteArray):∀ {k:Nat},k<=l.length->(p∈eC l k↔p∈l.take k/\rN l p):=by
 intro k
 induction k with
 |zero=>intro _;simp[eC]
 |succ k ih=>
  intro hk;have ih:=ih (by omega);have hg:l.getD k ⟨#[]⟩=l[k]:=by rw[List.getD_eq_getElem?_getD,Zd (by omega)];rfl
  have ht:l.take (k+1)=l.take k ++ [l[k]]:=by rw[List.take_succ_eq_append_getElem (by omega)]
  rw[eC,hg,ht]
  by_cases hc:(rY l l[k]&& !(l.take k).any (fun q=>decide (q=l[k])))=true
  ·rw[if_pos hc,List.mem_append,List.mem_append,ih,List.mem_singleton];rw[Bool.and_eq_true] at hc;have:=wK.1 hc.1
   constructor
   ·rintro(h|rfl)
    ·exact⟨.inl h.1,h.2⟩
    ·exact⟨.inr rfl,this⟩
   ·rintro⟨h|h,h2⟩
    ·exact .inl ⟨h,h2⟩
    ·exact .inr h
  ·rw[if_neg hc,ih,List.mem_append,List.mem_singleton]
   constructor
   ·exact fun h=>⟨.inl h.1,h.2⟩
   ·rintro⟨h|rfl,h2⟩
    ·exact⟨h,h2⟩
    ·rw[Bool.and_eq_true,not_and] at hc;have:=hc (wK.2 h2);exact⟨by simpa using this,h2⟩
theorem l4 (l:List ByteArray):∀k,(eC l k).length<=k
 |0=>by simp[eC]
 |k+1=>by
  have:=l4 l k;rw[eC]
  split <;> simp <;> omega
def fu (x:List En)(y:List ByteArray):List En:=(x.filter fun b=> !dV b.eAt y)++ (eC y y.length).map eH
theorem co {x:List En}{e:En}:e∈fu x y↔(e∈x/\dV e.eAt y=false)\/∃p∈y,rN y p/\e=eH p:=by
 simp only[fu,List.mem_append,List.mem_filter,List.mem_map,Bool.not_eq_true'];refine or_congr Iff.rfl ⟨?_,?_⟩
 ·rintro⟨p,h1,rfl⟩;have:=(qE p (Zb _)).1 h1;rw[List.take_length] at this;exact⟨p,this.1,this.2,rfl⟩
 ·rintro⟨p,h1,h2,rfl⟩;exact⟨p,(qE p (Zb _)).2 ⟨by rw[List.take_length];exact h1,h2⟩,rfl⟩
structure bu (x:List En) (y:List ByteArray) (es:List En):Prop where
 rise:es.Pairwise fun a b=>xw a b<0
 mem:∀e,e∈es↔e∈fu x y
theorem bu.uniq {x l:List En}{es fs:List En}(h1:bu x y es)(h2:bu l m fs)(h:∀e,e∈fu x y↔e∈fu l m):es=fs:=
 qL cM _ _ h1.rise h2.rise fun e=>by rw[h1.mem,h2.mem,h]
theorem bu.of_sort {x:List En}{s:List En}(hz:∀a∈fu x y,Jn a)(hp:s.Perm (fu x y))(hs:s.Pairwise fun a b=> ¬xw b a<0):bu x y (qk s):=
 ⟨wH cM s (fun a ha b hb=>C5 (hz a (hp.mem_iff.1 ha)) (hz b (hp.mem_iff.1 hb))) hs,fun e=>by rw[py,hp.mem_iff]⟩
theorem mX (y:List ByteArray):∀ (n:Nat) (a p:ByteArray),p.size<=n->p∈y->cV a p=true->∃q∈y,rN y q/\cV a q=true:=by
 intro n
 induction n with
 |zero=>
  intro a p hp hy hu;refine⟨p,hy,fun q _ h=>?_,hu⟩;rcases jW h with h|h
  ·exact h.symm
  ·omega
 |succ n ih=>
  intro a p hp hy hu
  by_cases hm:rN y p
  ·exact⟨p,hy,hm,hu⟩
  ·obtain⟨q,hq,h1,h2⟩:∃q,q∈y/\cV p q=true/\q≠p:=by
    refine Classical.byContradiction fun hn=>hm fun q hq h=>?_
    exact Classical.byContradiction fun h'=>hn ⟨q,hq,h,h'⟩
   rcases jW h1 with h|h
   ·exact absurd h.symm h2
   ·exact ih a q (by omega) hq (kw hu h1)
theorem EM {a:ByteArray}(h:dV a y=true):∃q∈y,rN y q/\cV a q=true:=by
 obtain⟨p,hp,hu⟩:=cF.1 h;exact mX y p.size a p (Zb _) hp hu
theorem CB {x l:List En}(h1:∀e∈x,e∈l)(h2:∀e∈l,e∈x\/dV e.eAt y=true)(h3:∀p∈y,p∈m)(h4:∀p∈m,p∈y\/dV p y=true)(e:En):e∈fu x y↔e∈fu l m:=by
 have hc:∀a,dV a y=dV a m:=fun a=>by
  rw[Bool.eq_iff_iff]
  constructor
  ·intro h;obtain⟨q,hq,hu⟩:=cF.1 h;exact cF.2 ⟨q,h3 q hq,hu⟩
  ·intro h;obtain⟨q,hq,hu⟩:=cF.1 h;rcases h4 q hq with h|h
   ·exact cF.2 ⟨q,h,hu⟩
   ·obtain⟨r,hr,hv⟩:=cF.1 h;exact cF.2 ⟨r,hr,kw hu hv⟩
 rw[co,co];refine or_congr ⟨?_,?_⟩ ⟨?_,?_⟩
 ·rintro⟨a,b⟩;exact⟨h1 e a,by rw[<-hc];exact b⟩
 ·rintro⟨a,b⟩;rw[<-hc] at b;rcases h2 e a with h|h
  ·exact⟨h,b⟩
  ·rw[b] at h;cases h
 ·rintro⟨p,hp,hm,rfl⟩;refine⟨p,h3 p hp,fun q hq hu=>?_,rfl⟩;rcases h4 q hq with h|h
  ·exact hm q h hu
  ·obtain⟨r,hr,hv⟩:=cF.1 h;obtain rfl:=hm r hr (kw hu hv);exact Dk hv hu
 ·rintro⟨p,hp,hm,rfl⟩;rcases h4 p hp with h|h
  ·exact⟨p,h,fun q hq hu=>hm q (h3 q hq) hu,rfl⟩
  ·obtain⟨r,hr,hv⟩:=cF.1 h;obtain rfl:=hm r (h3 r hr) hv;exact⟨r,hr,fun q hq hu=>hm q (h3 q hq) hu,rfl⟩
def dn (es:List En):List En:=es.filter fun e=> !decide (e.eKw=lK)
def db (es:List En):List ByteArray:=(es.filter fun e=>decide (e.eKw=lK)).map En.eAt
section
variable {x:List En}{y:List ByteArray}{es:List En}(h:bu x y es)(hk:∀e∈x,e.eKw≠lK)
include h hk
theorem bu.bl {e:En}:e∈dn es↔e∈x/\dV e.eAt y=false:=by
 simp only[dn,List.mem_filter,Bool.not_eq_true',decide_eq_false_iff_not];rw[h.mem,co]
 constructor
 ·rintro⟨h1|⟨p,_,_,rfl⟩,h2⟩
  ·exact h1
  ·exact absurd rfl h2
 ·exact fun h1=>⟨.inl h1,hk e h1.1⟩
theorem bu.pl {p:ByteArray}:p∈db es↔p∈y/\rN y p:=by
 simp only[db,List.mem_map,List.mem_filter,decide_eq_true_iff]
 constructor
 ·rintro⟨e,⟨h1,h2⟩,rfl⟩;rw[h.mem,co] at h1;rcases h1 with h1|⟨p,hp,hm,rfl⟩
  ·exact absurd h2 (hk e h1.1)
  ·exact⟨hp,hm⟩
 ·rintro⟨h1,h2⟩;exact⟨eH p,⟨by rw[h.mem,co];exact .inr ⟨p,h1,h2,rfl⟩,rfl⟩,rfl⟩
theorem bu.cov {a:ByteArray}:dV a (db es)=dV a y:=by
 rw[Bool.eq_iff_iff]
 constructor
 ·intro hc;obtain⟨q,hq,hu⟩:=cF.1 hc;exact cF.2 ⟨q,((h.pl hk).1 hq).1,hu⟩
 ·intro hc;obtain⟨q,hq,hm,hu⟩:=EM hc;exact cF.2 ⟨q,(h.pl hk).2 ⟨hq,hm⟩,hu⟩
theorem bu.again:bu (dn es) (db es) es:=⟨h.rise,fun e=>by
 rw[h.mem,co,co];refine or_congr ⟨fun a=>⟨(h.bl hk).2 a,by rw[h.cov hk];exact a.2⟩,fun a=>(h.bl hk).1 a.1⟩ ⟨?_,?_⟩
 ·rintro⟨p,hp,hm,rfl⟩;exact⟨p,(h.pl hk).2 ⟨hp,hm⟩,fun q hq hu=>hm q ((h.pl hk).1 hq).1 hu,rfl⟩
 ·rintro⟨p,hp,hm,rfl⟩;exact⟨p,((h.pl hk).1 hp).1,((h.pl hk).1 hp).2,rfl⟩⟩
omit hk in
theorem bu.nodup:es.Nodup:=h.rise.imp fun hab e=>by subst e;have:=cM.refl ‹En›;omega
omit hk in
theorem bu.ne (hn:x≠ []\/y≠ []):es≠ []:=by
 intro e;subst e;have hm:∀e,¬e∈fu x y:=fun e he=>by have:=(h.mem e).2 he;simp at this
 cases y with
 |nil=>
  cases x with
  |nil=>simp at hn
  |cons a x=>exact hm a (co.2 (.inl ⟨by simp,rfl⟩))
 |cons p y=>
  obtain⟨q,hq,a0,_⟩:=mX (p::y) p.size p p (Zb _) (by simp) (Bn p);exact hm _ (co.2 (.inr ⟨q,hq,a0,rfl⟩))
end
