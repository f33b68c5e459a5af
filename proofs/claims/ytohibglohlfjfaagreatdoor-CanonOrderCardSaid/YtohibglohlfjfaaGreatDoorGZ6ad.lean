import Derived.Test.YtohibglohlfjfaaGreatDoorGZ6ac
import Derived.StillTailTactics
set_option linter.unusedVariables false
set_option linter.unusedSimpArgs false
set_option maxHeartbeats 64000000
namespace Go.Proofs.YtohibglohlfjfaaGreatDoor
open Go.RowKit
variable {cs cur:Array Value}{news us:List Value}{B base base' c cap g i m n:Nat}{P Q:Nat->Prop}{A:Option Addr}{e:TypeId}{T:TypeId->Prop}{v v' vk vk' vn z:Value}{W W' W2 w w' w0:World}
section
variable {w w':World}{base:Nat}{e:TypeId}{k n:Nat}{v:Value}{xs:List Value}
theorem ao (h:w.ownsRow base e k v n xs)(hb:Below B w w')(hB:w.heap.size<=B):w'.ownsRow base e k v n xs:=by
 obtain⟨h1,⟨rfl,h0⟩|⟨g,cap,cur,rfl,a0,hg,r⟩⟩:=h
 ·exact⟨h1,.inl ⟨rfl,h0⟩⟩
 ·exact⟨h1,.inr ⟨g,cap,cur,rfl,a0,(hb.block g (Nat.lt_of_lt_of_le (ae hg) hB)).trans hg,r⟩⟩
theorem bV (h:w.ownsRow base e k v n xs)(hb:base'<=base):w.ownsRow base' e k v n xs:=by
 obtain⟨h1,⟨rfl,h0⟩|⟨g,cap,cur,rfl,a0,r⟩⟩:=h
 ·exact⟨h1,.inl ⟨rfl,h0⟩⟩
 ·exact⟨h1,.inr ⟨g,cap,cur,rfl,Zc hb a0,r⟩⟩
def lV (w:World)(g:Nat)(e:TypeId):Prop:= ∃cs z,w.heap[g]?=some (.cells cs e z)
def aG (T:TypeId->Prop)(w w':World):Prop:=w.heap.size<=w'.heap.size/\∀ (g:Nat) (cs:Array Value) (e:TypeId) (z:Nat×Nat),w.heap[g]?=some (.cells cs e z)->¬T e->w'.heap[g]?=some (.cells cs e z)
theorem aG.refl (T:TypeId->Prop)(w:World):aG T w w:=⟨Zb _,fun _ _ _ _ h _=>h⟩
theorem aG.trans {a b c:World}(h:aG T a b)(k:aG T b c):aG T a c:=⟨Zc h.1 k.1,fun g cs e z hg ht=>k.2 g cs e z (h.2 g cs e z hg ht) ht⟩
theorem aG.of_below (T:TypeId->Prop)(h:Below w.heap.size w w'):aG T w w':=⟨h.size,fun g cs e z hg _=>(h.block g (ae hg)).trans hg⟩
theorem aG.of_grown {row:Option Nat}(hg:w.grownBy w' row)(ht:∀ (g:Nat),row=some g->∀ (cs:Array Value) (e:TypeId) (z:Nat×Nat),w.heap[g]?=some (.cells cs e z)->T e):aG T w w':=
 ⟨hg.size,fun g cs e z h hn=>(hg.block g (ae h) (fun eq=>hn (ht g eq.symm cs e z h))).trans h⟩
theorem aG.setCell {p:Addr}(u:Value)(ht:∀ (cs:Array Value) (e:TypeId) (z:Nat×Nat),w.heap[p.block]?=some (.cells cs e z)->T e):aG T w (w.setCell p u):=
 ⟨by simp,fun g cs e z h hn=>(Below.heap_setCell w p u g (by rintro rfl;exact hn (ht cs e z h))).trans h⟩
theorem aG.drewN (T:TypeId->Prop)(m:Nat):aG T w (w.drewN m):=⟨Zb _,fun _ _ _ _ h _=>h⟩
theorem al (h:w.ownsRow base e k v n xs)(hk:aG T w w')(he:¬T e):w'.ownsRow base e k v n xs:=by
 obtain⟨h1,⟨rfl,h0⟩|⟨g,cap,cur,rfl,a0,hg,r⟩⟩:=h
 ·exact⟨h1,.inl ⟨rfl,h0⟩⟩
 ·exact⟨h1,.inr ⟨g,cap,cur,rfl,a0,hk.2 g cur e _ hg he,r⟩⟩
theorem aj (h:w.ownsRow base e k v n xs)(hv:v.ownBlock=some g):base<=g/\∃cur,w.heap[g]?=some (.cells cur e (0,0)):=by
 obtain⟨h1,⟨rfl,h0⟩|⟨g',cap,cur,rfl,a0,hg,r⟩⟩:=h
 ·simp[Value.ownBlock] at hv
 ·simp[Value.ownBlock] at hv;subst hv;exact⟨a0,cur,hg⟩
theorem bN (h:w.ownsRow base e k v n xs):(v =.slice none 0 0/\n=0/\xs = [])\/∃g cap,v =.slice (some ⟨g,0,none⟩) n cap/\base<=g/\n<=cap/\n<=maxLen:=by
 obtain⟨h1,⟨rfl,h0⟩|⟨g,cap,cur,rfl,a0,hg,h2,h3,r⟩⟩:=h
 ·subst h0;exact .inl ⟨rfl,rfl,List.eq_nil_of_length_eq_zero (by omega)⟩
 ·exact .inr ⟨g,cap,rfl,a0,h2,Zc h2 h3⟩
theorem ag (h:w.ownsRow base e k v n xs):∃A cap,v =.slice A n cap/\n<=cap/\n<=maxLen/\(0<n->∃g,A=some ⟨g,0,none⟩):=by
 rcases bN h with ⟨rfl,rfl,_⟩|⟨g,cap,rfl,_,h1,h2⟩
 ·exact⟨none,0,rfl,Zb _,Zk _,fun h=>by omega⟩
 ·exact⟨_,cap,rfl,h1,h2,fun _=>⟨g,rfl⟩⟩
theorem aL (h:w.ownsRow base e k (.slice A n cap) n xs)(hA:A=some ⟨g,0,none⟩)(j:Nat)(hj:j<n*k):w.cell? ⟨g,j,none⟩=xs[j]?:=by
 subst hA;exact World.ownsRow.cellAt h j hj
end
def dU (s:ByteArray):Value:=.string s
def cO (k:Nat):Value:=.int .i64 k
def dh (w:World)(base:Nat)(v:Value)(l:List ByteArray):Prop:=w.ownsRow base 9 1 v l.length (l.map dU)
def bI (w:World)(base:Nat)(v:Value)(l:List Nat):Prop:=w.ownsRow base 3 1 v l.length (l.map cO)
def ay (x:Nd)(vn vk:Value):List Value:= [.int .i64 x.kind,.bool x.tr,.string x.text,.bool x.num.neg,.string x.num.digits,.int .i64 x.num.exp,vn,vk]
def gM (w:World)(u:List Value)(x:Nd):Prop:= ∃vn vk,u=ay x vn vk/\dh w 0 vn x.names/\bI w 0 vk x.kids
def bo {α β:Type}(R:α->β->Prop)(l:List α)(m:List β):Prop:=l.length=m.length/\∀ (i:Nat) (a:α) (b:β),l[i]?=some a->m[i]?=some b->R a b
theorem bo.mono {α β:Type}{R S:α->β->Prop}{l:List α}{m:List β}(h:bo R l m)(hs:∀a b,R a b->S a b):bo S l m:=⟨h.1,fun i a b h1 h2=>hs _ _ (h.2 i a b h1 h2)⟩
theorem bo.nil {α β:Type}(R:α->β->Prop):bo R [] []:=⟨rfl,fun i a b h=>by simp at h⟩
theorem bo.snoc {α β:Type}{R:α->β->Prop}{l:List α}{m:List β}{a:α}{b:β}(h:bo R l m)(hr:R a b):bo R (l ++ [a]) (m ++ [b]):=by
 refine⟨by simp[h.1],fun i x y h1 h2=>?_⟩;have hl:=h.1
 by_cases hi:i<l.length
 ·rw[List.getElem?_append_left hi] at h1;rw[List.getElem?_append_left (by omega)] at h2;exact h.2 i x y h1 h2
 ·rw[List.getElem?_append_right (by omega)] at h1 h2;rw[hl] at h1;have hz:i - m.length=0:=by have:=(List.getElem?_eq_some_iff.1 h1).1;simp at this;omega
  rw[hz] at h1 h2;simp at h1 h2;subst h1 h2;exact hr
theorem bo.get {α β:Type}{R:α->β->Prop}{l:List α}{m:List β}(h:bo R l m){b:β}(hb:m[i]?=some b):∃a,l[i]?=some a/\R a b:=by
 have hi:=(List.getElem?_eq_some_iff.1 hb).1;rw[<-h.1] at hi;exact⟨_,Zd hi,h.2 i _ _ (Zd hi) hb⟩
theorem bo.cons {α β:Type}{R:α->β->Prop}{l:List α}{m:List β}{a:α}{b:β}(hr:R a b)(h:bo R l m):bo R (a::l) (b::m):=by
 refine⟨by simp[h.1],fun i x y h1 h2=>?_⟩
 cases i with
 |zero=>simp at h1 h2;subst h1 h2;exact hr
 |succ i=>simp at h1 h2;exact h.2 i x y h1 h2
def dL (w:World)(base:Nat)(v:Value)(ns:List Nd):Prop:= ∃us:List (List Value),w.ownsRow base 70 8 v ns.length us.flatten/\bo (gM w) us ns
theorem uG {us:List (List Value)}{k:Nat}(h:∀u∈us,u.length=k):∀i j,j<k->us.flatten[i*k+j]?=us[i]?.bind (·[j]?):=by
 induction us with
 |nil=>intro i j hj;simp
 |cons a l ih=>
  intro i j hj;have ha:=h a (by simp);have hl:=ih (fun u hu=>h u (Zm _ hu))
  cases i with
  |zero=>simp[List.getElem?_append_left (show j<a.length by omega)]
  |succ i=>
   rw[List.flatten_cons,List.getElem?_append_right (by rw[ha,Nat.succ_mul];omega),ha,show(i+1)*k+j - k=i*k+j by rw[Nat.succ_mul];omega,hl i j hj];simp
theorem gM.len {u:List Value}{x:Nd}(h:gM w u x):u.length=8:=by obtain⟨_,_,rfl,_⟩:=h;rfl
theorem bo.lens {us:List (List Value)}{ns:List Nd}(h:bo (gM w) us ns):∀u∈us,u.length=8:=by
 intro u hu;obtain⟨i,hi,rfl⟩:=List.getElem_of_mem hu;have a0:i<ns.length:=by rw[<-h.1];exact hi
 exact(h.2 i us[i] ns[i] (Zd hi) (Zd a0)).len
section
variable {w w':World}{base:Nat}{v:Value}
theorem dh.below {l:List ByteArray}(h:dh w base v l)(hb:Below B w w')(hB:w.heap.size<=B):dh w' base v l:=ao h hb hB
theorem bI.below {l:List Nat}(h:bI w base v l)(hb:Below B w w')(hB:w.heap.size<=B):bI w' base v l:=ao h hb hB
theorem dh.low {l:List ByteArray}{b:Nat}(h:dh w base v l)(hb:b<=base):dh w b v l:=bV h hb
theorem bI.low {l:List Nat}{b:Nat}(h:bI w base v l)(hb:b<=base):bI w b v l:=bV h hb
theorem gM.below {u:List Value}{x:Nd}(h:gM w u x)(hb:Below B w w')(hB:w.heap.size<=B):gM w' u x:=by
 obtain⟨vn,vk,rfl,h1,h2⟩:=h;exact⟨vn,vk,rfl,h1.below hb hB,h2.below hb hB⟩
theorem gM.keeps {u:List Value}{x:Nd}(h:gM w u x)(hk:aG T w w')(h1:¬T 9)(h2:¬T 3):gM w' u x:=by
 obtain⟨vn,vk,rfl,h3,h4⟩:=h;exact⟨vn,vk,rfl,al h3 hk h1,al h4 hk h2⟩
theorem dL.below {ns:List Nd}(h:dL w base v ns)(hb:Below B w w')(hB:w.heap.size<=B):dL w' base v ns:=by
 obtain⟨us,h1,h2⟩:=h;exact⟨us,ao h1 hb hB,h2.mono fun _ _ h=>h.below hb hB⟩
theorem dL.keeps {ns:List Nd}(h:dL w base v ns)(hk:aG T w w')(h1:¬T 9)(h2:¬T 3)(h3:¬T 70):dL w' base v ns:=by
 obtain⟨us,h4,h5⟩:=h;exact⟨us,al h4 hk h3,h5.mono fun _ _ h=>h.keeps hk h1 h2⟩
theorem dL.low {ns:List Nd}{b:Nat}(h:dL w base v ns)(hb:b<=base):dL w b v ns:=by
 obtain⟨us,h1,h2⟩:=h;exact⟨us,bV h1 hb,h2⟩
theorem dL.form {ns:List Nd}(h:dL w base v ns):∃A cap,v =.slice A ns.length cap/\ns.length<=cap/\ns.length<=maxLen/\(0<ns.length->∃g,A=some ⟨g,0,none⟩):=by
 obtain⟨us,h1,_⟩:=h;exact ag h1
theorem dL.node {ns:List Nd}{x:Nd}(h:dL w base (.slice (some ⟨g,0,none⟩) n cap) ns)(hx:ns[i]?=some x) :
  ∃vn vk,dh w 0 vn x.names/\bI w 0 vk x.kids/\∀j u,(ay x vn vk)[j]?=some u->w.cell? ⟨g,i*8+j,none⟩=some u:=by
 obtain⟨us,h1,h2⟩:=h;have hi:=(List.getElem?_eq_some_iff.1 hx).1;obtain⟨a,ha,vn,vk,rfl,h3,h4⟩:=h2.get hx;refine⟨vn,vk,h3,h4,fun j u hu=>?_⟩;have hj:j<8:=by have:=(List.getElem?_eq_some_iff.1 hu).1;simpa [ay] using this
 have hn:n=ns.length:=by
  rcases bN h1 with ⟨e,_⟩|⟨_,_,e,_⟩
  ·cases e
  ·injection e
 subst hn;rw[World.ownsRow.cellAt h1 (i*8+j) (by omega),uG h2.lens i j hj,ha];exact hu
end
def mX (P:Nat->Prop)(us:List (List Value)):Prop:= ∀u∈us,∀g,(u.getD 6 undef).ownBlock=some g->P g
def bj (P:Nat->Prop)(w:World)(base:Nat)(v:Value)(ns:List Nd):Prop:= ∃us:List (List Value),w.ownsRow base 70 8 v ns.length us.flatten/\bo (gM w) us ns/\mX P us
theorem bj.flat {ns:List Nd}(h:bj P w base v ns):dL w base v ns:=by obtain⟨us,h1,h2,_⟩:=h;exact⟨us,h1,h2⟩
theorem bj.form {ns:List Nd}(h:bj P w base v ns):∃A cap,v =.slice A ns.length cap/\ns.length<=cap/\ns.length<=maxLen/\(0<ns.length->∃g,A=some ⟨g,0,none⟩):=h.flat.form
theorem bj.low {b:Nat}{ns:List Nd}(h:bj P w base v ns)(hb:b<=base):bj P w b v ns:=by obtain⟨us,h1,h2,h3⟩:=h;exact⟨us,bV h1 hb,h2,h3⟩
theorem bj.imp {ns:List Nd}(h:bj P w base v ns)(hq:∀g,P g->g<w.heap.size->Q g):bj Q w base v ns:=by
 obtain⟨us,h1,h2,h3⟩:=h;refine⟨us,h1,h2,fun u hu g e=>hq g (h3 u hu g e) ?_⟩;obtain⟨i,hi,rfl⟩:=List.getElem_of_mem hu;obtain⟨vn,vk,he,hs,_⟩:=h2.2 i us[i] (ns[i]'(by rw[<-h2.1];exact hi)) (Zd hi) (Zd _);rw[he] at e;obtain⟨_,cur,hh⟩:=aj hs (by simpa [ay] using e);exact ae hh
theorem bj.below {ns:List Nd}(h:bj P w base v ns)(hb:Below B w w')(hB:w.heap.size<=B):bj P w' base v ns:=by
 obtain⟨us,h1,h2,h3⟩:=h;exact⟨us,ao h1 hb hB,h2.mono fun _ _ h=>h.below hb hB,h3⟩
theorem bj.keeps {ns:List Nd}(h:bj P w base v ns)(hk:aG T w w')(h1:¬T 9)(h2:¬T 3)(h3:¬T 70):bj P w' base v ns:=by
 obtain⟨us,h4,h5,h6⟩:=h;exact⟨us,al h4 hk h3,h5.mono fun _ _ h=>h.keeps hk h1 h2,h6⟩
theorem bj.grownStr {ns:List Nd}{row:Option Nat}(h:bj P w base v ns)(hg:w.grownBy w' row)(ht:∀g,row=some g->lV w g 9)(hP:∀g,P g->row≠some g):bj P w' base v ns:=by
 obtain⟨us,h1,h2,h3⟩:=h;have hk:aG (fun e=>e=9) w w':=aG.of_grown hg (fun g e cs t z hh=>by obtain⟨cs',z',h'⟩:=ht g e;rw[h'] at hh;injection hh with hh;injection hh with _ hh;exact hh.symm);refine⟨us,al h1 hk (by decide),⟨h2.1,fun i u x hu hx=>?_⟩,h3⟩;obtain⟨vn,vk,he,hs,hkk⟩:=h2.2 i u x hu hx;refine⟨vn,vk,he,World.ownsRow.kept hs hg ?_,al hkk hk (by decide)⟩
 cases hb:vn.ownBlock with
 |none=>exact .inl rfl
 |some g=>exact .inr (fun e=>hP g (h3 u (Zl hu) g (by rw[he];simpa [ay] using hb)) e.symm)
theorem dL.nil (w:World)(base:Nat):dL w base (.slice none 0 0) []:=⟨[],⟨rfl,.inl ⟨rfl,rfl⟩⟩,bo.nil _⟩
theorem dh.nil (w:World)(base:Nat):dh w base (.slice none 0 0) []:=⟨rfl,.inl ⟨rfl,rfl⟩⟩
theorem bI.nil (w:World)(base:Nat):bI w base (.slice none 0 0) []:=⟨rfl,.inl ⟨rfl,rfl⟩⟩
structure dq (t e:TypeId) (z:Value) (k B:Nat):Prop where
 ht:Tryz.prog.underlying t=some (.slice e)
 hi:(Tryz.prog.info? e).map (fun i=>(i.zero,i.size,i.bytes))=some (some z,k,B)
 hz:z.cells.size=k
 h0:0<k
theorem yQ:dq 68 9 (.string ByteArray.empty) 1 16:=⟨Tryz.underlying68,by kernel_rfl,rfl,by decide⟩
theorem iz:dq 23 3 (.int .i64 0) 1 8:=⟨Tryz.underlying23,by kernel_rfl,rfl,by decide⟩
theorem rT:dq 28 70 (.agg #[.int .i64 0,.bool false,.string ByteArray.empty,.bool false,.string ByteArray.empty,.int .i64 0,.slice none 0 0,.slice none 0 0]) 8 112:=⟨Tryz.underlying28,by kernel_rfl,rfl,by decide⟩
theorem oA {t:TypeId}{k:Nat}(E:dq t e z k B)(n:Nat)(hn:n<=maxLen)(hB:B*n<=281474976710656):∃cur:Array Value,cur.size=n*k/\
  ∀W:World,(Instr.makeSlice t (.int .i64 0) (.int .i64 (n:Int))).run Tryz.prog W =.ok (.slice (some ⟨W.heap.size,0,none⟩) 0 n) (W.alloc (.cells cur e)):=by
 obtain⟨i0,hi,a2,a0,a1⟩:=info_parts E.hi;have a3:n<=9223372036854775807:=by unfold maxLen at hn;omega
 refine⟨madeCells z.cells (n*k),by simp[madeCells],fun W=>?_⟩;have:=run_make (P:=Tryz.prog) W t e i0 z E.ht hi a2 .i64 .i64 0 n (by omega) (by omega) (by rw[a1];omega) (by omega);rw[a0] at this;simpa using this
theorem dy {k:Nat}(hg:w.heap[g]?=some (.cells cur e (0,0)))(hb:base<=g)(hc:cap<=maxLen)(hs:cur.size=cap*k):w.ownsRow base e k (.slice (some ⟨g,0,none⟩) 0 cap) 0 []:=
 ⟨by rw[Nat.zero_mul];rfl,.inr ⟨g,cap,cur,rfl,hb,hg,Zk _,hc,hs,by rw[Nat.zero_mul];rfl⟩⟩
theorem eF {k:Nat}(hg:w.heap[g]?=some (.cells cur e (0,0)))(hb:base<=g)(hc:n<=maxLen)(hs:cur.size=n*k):w.ownsRow base e k (.slice (some ⟨g,0,none⟩) n n) n cur.toList:=
 ⟨by rw[Array.length_toList,hs],.inr ⟨g,n,cur,rfl,hb,hg,Zb _,hc,hs,List.take_of_length_le (by rw[Array.length_toList,hs];exact Zb _)⟩⟩
theorem me {t:TypeId}{k:Nat}(E:dq t e z k B){o:Oper}{a:Act}{K:Act->World->Prop}{Q:Exit->Act->World->Prop}(s x:Operand)
  (ho:o.op =.call {callee:=.builtin .append,args:= #[s,x],argTypes:= #[t,t]})
  (base:Nat) (v:Value) (n g c m:Nat) (us news:List Value) (hs:a.eval s=v) (a1:w.ownsRow base e k v n us) (hx:a.eval x =.slice (some ⟨g,0,none⟩) m c) (hl:news.length=m*k)
  (hg:∀j u,news[j]?=some u->w.cell? ⟨g,j,none⟩=some u) (h1:∀u∈news,u.oneCell'=true)
  (hlen:n+m<=maxLen) (hby:(n+m)*B<=140737488355328) (a0:base<=w.heap.size)
  (h:∀v' w',w'.ownsRow base e k v' (n+m) (us++news)->w.grownBy w' v.ownBlock->(v'.ownBlock=v.ownBlock\/v'.ownBlock=some w.heap.size)->K (a.put o.dst v') w'):o.wp Tryz.prog a w K Q:=by
 obtain⟨i0,hi,a5,a3,a4⟩:=info_parts E.hi;obtain⟨v',w',a2,h2,h3,_,h5⟩:=run_append_own_at (P:=Tryz.prog) w base t o.type e i0 z k B E.ht hi a5 a3 a4 E.hz E.h0 v n us a1 ⟨g,0,none⟩ m c news
  hl (fun j y hy=>by
   have:=hg j y hy;unfold Addr.add
   split
   ·rename_i h0;subst h0;exact this
   ·simpa using this) h1 hlen hby a0
 unfold Oper.wp execOp;simp only[ho,resolve,invoke,builtin,Sem.run_bind,Sem.run_pure,Result.andThen_ok,List.map_toArray,List.map_cons,List.map_nil,hs,hx,a2];exact h v' w' h2 h3 h5
theorem cY {t:TypeId}{k:Nat}(E:dq t e z k B){ops:Array Oper}{rest:List Oper}{o:Oper}{a:Act}{Q:Exit->Act->World->Prop}(a2:o.guard=none)(s x:Operand)
  (ho:o.op =.call {callee:=.builtin .append,args:= #[s,x],argTypes:= #[t,t]})
  (base:Nat) (v:Value) (n g c m:Nat) (us news:List Value) (hs:a.eval s=v) (a1:w.ownsRow base e k v n us) (hx:a.eval x =.slice (some ⟨g,0,none⟩) m c) (hl:news.length=m*k)
  (hg:∀j u,news[j]?=some u->w.cell? ⟨g,j,none⟩=some u) (h1:∀u∈news,u.oneCell'=true)
  (hlen:n+m<=maxLen) (hby:(n+m)*B<=140737488355328) (a0:base<=w.heap.size)
  (h:∀v' w',w'.ownsRow base e k v' (n+m) (us++news)->w.grownBy w' v.ownBlock->(v'.ownBlock=v.ownBlock\/v'.ownBlock=some w.heap.size)->wpList Tryz.prog ops Q rest (a.put o.dst v') w'):wpList Tryz.prog ops Q (o::rest) a w:=
 wpList_plain a2 fun _ hK=>me E s x ho base v n g c m us news hs a1 hx hl hg h1 hlen hby a0 fun v' w' h2 h3 h4=>hK _ _ (h v' w' h2 h3 h4)
theorem oU {t:TypeId}{k:Nat}(E:dq t e z k B){ops:Array Oper}{o:Oper}{a:Act}{K:Act->World->Prop}{Q:Exit->Act->World->Prop}{E':Prop}(a2:o.guard=none)(s x:Operand)
  (ho:o.op =.call {callee:=.builtin .append,args:= #[s,x],argTypes:= #[t,t]})
  (base:Nat) (v:Value) (n g c m:Nat) (us news:List Value) (hs:a.eval s=v) (a1:w.ownsRow base e k v n us) (hx:a.eval x =.slice (some ⟨g,0,none⟩) m c) (hl:news.length=m*k)
  (hg:∀j u,news[j]?=some u->w.cell? ⟨g,j,none⟩=some u) (h1:∀u∈news,u.oneCell'=true)
  (hlen:n+m<=maxLen) (hby:(n+m)*B<=140737488355328) (a0:base<=w.heap.size)
  (h:∀v' w',w'.ownsRow base e k v' (n+m) (us++news)->w.grownBy w' v.ownBlock->(v'.ownBlock=v.ownBlock\/v'.ownBlock=some w.heap.size)->K (a.put o.dst v') w') :
  if Region.wanted o (yielded ops a.tmps)=true then Oper.wp Tryz.prog o a w K Q else E':=by
 have hw:Region.wanted o (yielded ops a.tmps)=true:=by simp[Region.wanted,a2]
 rw[if_pos hw];exact me E s x ho base v n g c m us news hs a1 hx hl hg h1 hlen hby a0 h
theorem km {t:TypeId}{k:Nat}(E:dq t e z k B){ops:Array Oper}{rest:List Oper}{o:Oper}{a:Act}{Q:Exit->Act->World->Prop}{s x:Operand}
  (a1:w.ownsRow base e k v n us) (hg:∀j u,news[j]?=some u->w.cell? ⟨g,j,none⟩=some u) (a0:base<=w.heap.size)
  (h:∀v' w',w'.ownsRow base e k v' (n+m) (us++news)->w.grownBy w' v.ownBlock->(v'.ownBlock=v.ownBlock\/v'.ownBlock=some w.heap.size)->wpList Tryz.prog ops Q rest (a.put o.dst v') w')
  (ho:o.op =.call {callee:=.builtin .append,args:= #[s,x],argTypes:= #[t,t]}:=by exact rfl) (a2:o.guard=none:=by exact rfl) (hs:a.eval s=v:=by exact rfl) (hx:a.eval x =.slice (some ⟨g,0,none⟩) m c:=by exact rfl)
  (hl:news.length=m*k:=by exact rfl) (h1:∀u∈news,u.oneCell'=true:=by simp[Value.oneCell']) (hlen:n+m<=maxLen:=by unfold maxLen;omega) (hby:(n+m)*B<=140737488355328:=by omega):wpList Tryz.prog ops Q (o::rest) a w:=
 cY E a2 s x ho base v n g c m us news hs a1 hx hl hg h1 hlen hby a0 h
theorem xU {t:TypeId}{k:Nat}(E:dq t e z k B){ops:Array Oper}{o:Oper}{a:Act}{K:Act->World->Prop}{Q:Exit->Act->World->Prop}{E':Prop}{s x:Operand}
  (a1:w.ownsRow base e k v n us) (hg:∀j u,news[j]?=some u->w.cell? ⟨g,j,none⟩=some u) (a0:base<=w.heap.size)
  (h:∀v' w',w'.ownsRow base e k v' (n+m) (us++news)->w.grownBy w' v.ownBlock->(v'.ownBlock=v.ownBlock\/v'.ownBlock=some w.heap.size)->K (a.put o.dst v') w')
  (ho:o.op =.call {callee:=.builtin .append,args:= #[s,x],argTypes:= #[t,t]}:=by exact rfl) (a2:o.guard=none:=by exact rfl) (hs:a.eval s=v:=by exact rfl) (hx:a.eval x =.slice (some ⟨g,0,none⟩) m c:=by exact rfl)
  (hl:news.length=m*k:=by exact rfl) (h1:∀u∈news,u.oneCell'=true:=by simp[Value.oneCell']) (hlen:n+m<=maxLen:=by unfold maxLen;omega) (hby:(n+m)*B<=140737488355328:=by omega):if Region.wanted o (yielded ops a.tmps)=true then Oper.wp Tryz.prog o a w K Q else E':=
 oU E a2 s x ho base v n g c m us news hs a1 hx hl hg h1 hlen hby a0 h
theorem ap (w:World)(cs:List Value)(t:TypeId):∀j u,cs[j]?=some u->(w.alloc (.cells cs.toArray t)).cell? ⟨w.heap.size,j,none⟩=some u:=by
 intro j u hu;have:=Zf w (.cells cs.toArray t);unfold World.cell?;simp only[this];simpa using hu
theorem aY {k:Nat}(hb:Below base w0 w)(h:w.ownsRow base e k v n us)(hle:base<=w.heap.size)(hg:w.grownBy w' v.ownBlock):Below base w0 w':=
 hb.grown hg hle (fun g e'=>(aj h e').1)
def Sl (w:World)(v:Value)(us:List Value):Prop:=us.length<=9223372036854775807/\∃A c,v =.slice A us.length c/\us.length<=c/\(0<us.length->∃g o,A=some ⟨g,o,none⟩/\∀i u,us[i]?=some u->w.cell? ⟨g,o+i,none⟩=some u)
theorem Sl.of_own (h:w.ownsRow base e 1 v n us):Sl w v us:=by
 have hl:us.length=n:=by have:=h.1;omega
 subst hl;obtain⟨A,c,rfl,hc,hm,hA⟩:=ag h;refine⟨by unfold maxLen at hm;omega,A,c,rfl,hc,fun h0=>?_⟩;obtain⟨g,rfl⟩:=hA h0;refine⟨g,0,rfl,fun i u hu=>?_⟩;have hi:=(List.getElem?_eq_some_iff.1 hu).1;rw[Nat.zero_add,World.ownsRow.cellAt h i (by omega)];exact hu
theorem Sl.below (h:Sl w v us)(hb:Below w.heap.size w w'):Sl w' v us:=by
 obtain⟨hm,A,c,e,hc,hA⟩:=h;refine⟨hm,A,c,e,hc,fun h0=>?_⟩;obtain⟨g,o,e,a0⟩:=hA h0;exact⟨g,o,e,fun i u hu=>Zg hb (a0 i u hu)⟩
theorem Sl.drewN (h:Sl w v us)(m:Nat):Sl (w.drewN m) v us:=h
def GL (w:World)(l:List ByteArray)(e:Ending)(w':World):Prop:= ∃v',e =.returned v'/\Below w.heap.size w w'/\dh w' w.heap.size v' l
def DZ (w0:World)(l:List ByteArray)(s3 s4:Value)(wr:World):Prop:= ∃k:Nat,k<=l.length/\s4 =.int .i64 k/\Below w0.heap.size w0 wr/\dh wr w0.heap.size s3 (l.take k)
theorem lw {l:List ByteArray}(hv:Sl w v (l.map dU))(hl:l.length<=1000000):Calls Tryz.prog 119 #[v] w (GL w l):=by
 obtain⟨hm,A,cap,rfl,hc,hA⟩:=id hv;rw[List.length_map] at hm hc hA ⊢;obtain⟨cur,a0,a7⟩:=oA yQ l.length (by unfold maxLen;omega) (by omega);have HA:=Qa hA;have a2:=Qa a0;clear hv hA a0;go_enter Tryz.func119,Tryz.ntmps119;go_wp2_with fail
 go_loopw [3,4] (DZ w l) (fun _ i _=>l.length - (intOf i).toNat)
 case atStart=>
  exact⟨0,by omega,rfl,ac _ _,by rw[List.take_zero];exact dy (Zf _ _) (Zb _) (by unfold maxLen;omega) a2.out⟩
 case round=>
  obtain⟨k,hk,rfl,hb,ho⟩:=hrel;have Hb:=Qa hb;have Ho:=Qa ho;have hsz:=hb.size;clear hb ho
  by_cases hlt:k<l.length
  ·obtain⟨g,o,rfl,a6⟩:=HA.out (by omega);obtain⟨s,hs⟩:∃s,l[k]?=some s:=⟨_,Zd hlt⟩;have a1:=Zg Hb.out (a6 k (dU s) (by rw[List.getElem?_map,hs];rfl));unfold dU at a1;have Hs:=Qa (show l.take (k+1)=l.take k ++ [s] by rw[List.take_add_one,hs];rfl);have a3:(l.take k).length=k:=by rw[List.length_take];omega
   have a4:=Qa a3;clear hs a3 a6;go_wp2_with (at_builtin;refine km yQ (by have:=Ho.out.below (ac wr (.cells #[.string s] 9)) (Zb _);unfold dh at this;rw[a4.out] at this;exact this) (ap wr [dU s] 9) (by simp;omega) ?_ (h1:=(by simp[dU,Value.oneCell']));intro v' w1 h1 h2 h3;have Hp:=Qa h1;have Hg:=Qa h2;clear h1 h2 h3);have a5:Below w.heap.size w (wr.alloc (.cells #[.string s] 9)):=Hb.out.alloc hsz _;exact⟨⟨k+1,by omega,by go_num,aY a5 (Ho.out.below (ac wr (.cells #[.string s] 9)) (Zb _)) a5.size Hg.out,by rw[Hs.out];unfold dh;rw[List.length_append,a4.out,List.map_append];exact Hp.out⟩,by simp[intOf];omega⟩
  ·obtain rfl:k=l.length:=by omega
   go_wp2;go_ret;exact⟨_,rfl,Hb.out,by have:=Ho.out;rwa[List.take_length] at this⟩
def Ji (w:World)(l:List Nat)(e:Ending)(w':World):Prop:= ∃v',e =.returned v'/\Below w.heap.size w w'/\bI w' w.heap.size v' l
def E6 (w0:World)(l:List Nat)(s3 s4:Value)(wr:World):Prop:= ∃k:Nat,k<=l.length/\s4 =.int .i64 k/\Below w0.heap.size w0 wr/\bI wr w0.heap.size s3 (l.take k)
theorem ul {l:List Nat}(hv:Sl w v (l.map cO))(hl:l.length<=1000000):Calls Tryz.prog 190 #[v] w (Ji w l):=by
 obtain⟨hm,A,cap,rfl,hc,hA⟩:=id hv;rw[List.length_map] at hm hc hA ⊢;obtain⟨cur,a0,a7⟩:=oA iz l.length (by unfold maxLen;omega) (by omega);have HA:=Qa hA;have a2:=Qa a0;clear hv hA a0;go_enter Tryz.func190,Tryz.ntmps190;go_wp2_with fail
 go_loopw [3,4] (E6 w l) (fun _ i _=>l.length - (intOf i).toNat)
 case atStart=>
  exact⟨0,by omega,rfl,ac _ _,by rw[List.take_zero];exact dy (Zf _ _) (Zb _) (by unfold maxLen;omega) a2.out⟩
 case round=>
  obtain⟨k,hk,rfl,hb,ho⟩:=hrel;have Hb:=Qa hb;have Ho:=Qa ho;have hsz:=hb.size;clear hb ho
  by_cases hlt:k<l.length
  ·obtain⟨g,o,rfl,a6⟩:=HA.out (by omega);obtain⟨s,hs⟩:∃s,l[k]?=some s:=⟨_,Zd hlt⟩;have a1:=Zg Hb.out (a6 k (cO s) (by rw[List.getElem?_map,hs];rfl));unfold cO at a1;have Hs:=Qa (show l.take (k+1)=l.take k ++ [s] by rw[List.take_add_one,hs];rfl);have a3:(l.take k).length=k:=by rw[List.length_take];omega
   have a4:=Qa a3;clear hs a3 a6;go_wp2_with (at_builtin;refine km iz (by have:=Ho.out.below (ac wr (.cells #[.int .i64 (s:Int)] 3)) (Zb _);unfold bI at this;rw[a4.out] at this;exact this) (ap wr [cO s] 3) (by simp;omega) ?_ (h1:=(by simp[cO,Value.oneCell']));intro v' w1 h1 h2 h3;have Hp:=Qa h1;have Hg:=Qa h2;clear h1 h2 h3);have a5:Below w.heap.size w (wr.alloc (.cells #[.int .i64 (s:Int)] 3)):=Hb.out.alloc hsz _;exact⟨⟨k+1,by omega,by go_num,aY a5 (Ho.out.below (ac wr (.cells #[.int .i64 (s:Int)] 3)) (Zb _)) a5.size Hg.out,by rw[Hs.out];unfold bI;rw[List.length_append,a4.out,List.map_append];exact Hp.out⟩,by simp[intOf];omega⟩
  ·obtain rfl:k=l.length:=by omega
   go_wp2;go_ret;exact⟨_,rfl,Hb.out,by have:=Ho.out;rwa[List.take_length] at this⟩
theorem yU {a b:ByteArray}:a.toList=b.toList↔a=b:=by
 rw[ByteArray.toList_eq,ByteArray.toList_eq];refine⟨fun h=>?_,fun h=>by rw[h]⟩
 cases a;cases b;simp at h;simp[h]
theorem jg (a b:ByteArray):(a.toList==b.toList)=decide (a=b):=by
 rw[Bool.eq_iff_iff,beq_iff_eq,decide_eq_true_iff];exact yU
def Iy (d:Dc):Value:=.agg #[.bool d.neg,.string d.digits,.int .i64 d.exp]
abbrev es:ByteArray:=⟨#[]⟩
def js (w:World)(x:Nd)(e:Ending)(w':World):Prop:= ∃v,e =.returned v/\Below w.heap.size w w'/\bj (w.heap.size<= ·) w' w.heap.size v [x]
theorem i1 {x:Nd}(hg:w.heap[g]?=some (.cells cs 70 (0,0)))(hb:base<=g)(hc:cs.toList=ay x vn vk)(h1:dh w 0 vn x.names)(h2:bI w 0 vk x.kids)(h3:vn =.slice none 0 0) :
  bj P w base (.slice (some ⟨g,0,none⟩) 1 1) [x]:=by
 subst h3;refine⟨[cs.toList],?_,bo.cons ⟨.slice none 0 0,vk,hc,h1,h2⟩ (bo.nil _),fun u hu g e=>?_⟩
 ·have hs:cs.size=8:=by rw[<-Array.length_toList,hc];rfl
  simpa using eF (n:=1) (k:=8) hg hb (by unfold maxLen;omega) (by omega)
 ·simp at hu;subst hu;rw[hc] at e;simp[ay,Value.ownBlock] at e
theorem sJ (w:World):Calls Tryz.prog 160 #[] w fun e w'=>js w ⟨1,false,es,⟨false,es,0⟩, [], []⟩ e w':=by
 go_enter Tryz.func160,Tryz.ntmps160;go_wp2;go_ret;exact⟨_,rfl,ac _ _,i1 (Zf _ _) (Zb _) rfl (dh.nil _ _) (bI.nil _ _) rfl⟩
theorem um (w:World):Calls Tryz.prog 63 #[] w fun e w'=>js w ⟨7,false,es,⟨false,es,0⟩, [], []⟩ e w':=by
 go_enter Tryz.func63,Tryz.ntmps63;go_wp2;go_ret;exact⟨_,rfl,ac _ _,i1 (Zf _ _) (Zb _) rfl (dh.nil _ _) (bI.nil _ _) rfl⟩
theorem ui (b:Bool)(w:World):Calls Tryz.prog 161 #[.bool b] w fun e w'=>js w ⟨2,b,es,⟨false,es,0⟩, [], []⟩ e w':=by
 go_enter Tryz.func161,Tryz.ntmps161;go_wp2;go_ret;exact⟨_,rfl,ac _ _,i1 (Zf _ _) (Zb _) rfl (dh.nil _ _) (bI.nil _ _) rfl⟩
theorem t8 (s:ByteArray)(w:World):Calls Tryz.prog 159 #[.string s] w fun e w'=>js w ⟨4,false,s,⟨false,es,0⟩, [], []⟩ e w':=by
 go_enter Tryz.func159,Tryz.ntmps159;go_wp2;go_ret;exact⟨_,rfl,ac _ _,i1 (Zf _ _) (Zb _) rfl (dh.nil _ _) (bI.nil _ _) rfl⟩
theorem oQ (d:Dc)(w:World):Calls Tryz.prog 158 #[Iy d] w (js w ⟨3,false,es,d, [], []⟩):=by
 obtain⟨a,b,c⟩:=d;unfold Iy;go_enter Tryz.func158,Tryz.ntmps158;go_wp2;go_ret;exact⟨_,rfl,((Ze _ _).alloc (Zb _) _).alloc (by simp) _,i1 (cs:= #[.int .i64 3,.bool false,.string es,.bool a,.string b,.int .i64 c,.slice none 0 0,.slice none 0 0]) (by have:=Zf (w.alloc (.cells #[.bool a,.string b,.int .i64 c] 67)) (.cells #[.int .i64 3,.bool false,.string es,.bool a,.string b,.int .i64 c,.slice none 0 0,.slice none 0 0] 70);rw[World.size_alloc] at this;exact this) (by omega) rfl (dh.nil _ _) (bI.nil _ _) rfl⟩
def gZ (w:World)(v:Value)(fs:List (List Nd)):Prop:= ∃vs:List Value,Sl w v vs/\bo (fun v ns=>dL w 0 v ns) vs fs
theorem gZ.below {fs:List (List Nd)}(h:gZ w v fs)(hb:Below w.heap.size w w'):gZ w' v fs:=by
 obtain⟨vs,h1,h2⟩:=h;exact⟨vs,h1.below hb,h2.mono fun _ _ h=>h.below hb (Zb _)⟩
def wJ (vk:Value)(us:List (List Value)):Prop:= ∀u∈us,∀g,(u.getD 7 undef).ownBlock=some g->vk.ownBlock≠some g
def fy (W:World)(base:Nat)(v:Value)(x:Nd)(rest:List Nd):Prop:=
 ∃vn vk us,W.ownsRow base 70 8 v (1+rest.length) (ay x vn vk++us.flatten)/\dh W 0 vn x.names/\bI W base vk x.kids/\bo (gM W) us rest/\wJ vk us/\mX (base<= ·) (ay x vn vk::us)
theorem fy.flat {x:Nd}{rest:List Nd}(h:fy W base v x rest):bj (base<= ·) W base v (x::rest):=by
 obtain⟨vn,vk,us,h1,h2,h3,h4,_,h6⟩:=h;exact⟨ay x vn vk::us,by rw[List.length_cons,Nat.add_comm];exact h1,bo.cons ⟨vn,vk,rfl,h2,h3.low (Zk _)⟩ h4,h6⟩
theorem fy.below {x:Nd}{rest:List Nd}(h:fy W base v x rest)(hb:Below W.heap.size W W'):fy W' base v x rest:=by
 obtain⟨vn,vk,us,h1,h2,h3,h4,h5,h6⟩:=h;exact⟨vn,vk,us,ao h1 hb (Zb _),h2.below hb (Zb _),h3.below hb (Zb _),h4.mono fun _ _ h=>h.below hb (Zb _),h5,h6⟩
theorem fj {row:Option Nat}(hg:W.grownBy W' row)(hr:∀g,row=some g->lV W g 70){u:List Value}{x:Nd}(h:gM W u x):gM W' u x:=
 h.keeps (T:=fun t=>t=70) (aG.of_grown hg (fun g e cs t z hh=>by obtain⟨cs',z',h'⟩:=hr g e;rw[h'] at hh;injection hh with hh;injection hh with _ hh;exact hh.symm)) (by decide) (by decide)
theorem oI {row:Option Nat}(hg:W.grownBy W' row)(hr:∀g,row=some g->lV W g 70){b:Nat}{l:List ByteArray}(h:dh W b v l):dh W' b v l:=
 al (T:=fun t=>t=70) h (aG.of_grown hg (fun g e cs t z hh=>by obtain⟨cs',z',h'⟩:=hr g e;rw[h'] at hh;injection hh with hh;injection hh with _ hh;exact hh.symm)) (by decide)
theorem oC {row:Option Nat}(hg:W.grownBy W' row)(hr:∀g,row=some g->lV W g 70){b:Nat}{l:List Nat}(h:bI W b v l):bI W' b v l:=
 al (T:=fun t=>t=70) h (aG.of_grown hg (fun g e cs t z hh=>by obtain⟨cs',z',h'⟩:=hr g e;rw[h'] at hh;injection hh with hh;injection hh with _ hh;exact hh.symm)) (by decide)
theorem cj {k:Nat}(h:W.ownsRow base e k v n us):∀g,v.ownBlock=some g->lV W g e:=fun g hg=>by
 obtain⟨_,cur,hh⟩:=aj h hg;exact⟨cur,_,hh⟩
theorem fy.snoc {vn':Value}{x y:Nd}{rest:List Nd}{us:List (List Value)}(h1:W.ownsRow base 70 8 v m (ay x vn vk++us.flatten))(h2:dh W 0 vn x.names)(h3:bI W base vk x.kids)
  (h4:bo (gM W) us rest) (h5:wJ vk us) (hN:mX (base<= ·) (ay x vn vk::us)) (a0:∀g,vn'.ownBlock=some g->base<=g) (hm:m=1+rest.length) (hy:gM W (ay y vn' vk') y) (hk:∀g,vk'.ownBlock=some g->vk.ownBlock≠some g)
  (h6:W'.ownsRow base 70 8 v' (m+1) ((ay x vn vk++us.flatten)++ay y vn' vk')) (hg:W.grownBy W' v.ownBlock):fy W' base v' x (rest ++ [y]):=by
 subst hm;have ht:=cj h1;refine⟨vn,vk,us ++ [ay y vn' vk'],?_,oI hg ht h2,oC hg ht h3,(h4.mono fun _ _ h=>fj hg ht h).snoc (fj hg ht hy),fun u hu g e=>?_,fun u hu g e=>?_⟩
 ·rw[List.length_append,List.flatten_append];simpa [Nat.add_assoc] using h6
 ·rcases List.mem_append.1 hu with hu|hu
  ·exact h5 u hu g e
  ·rw[List.mem_singleton] at hu;subst hu;exact hk g e
 ·rcases List.mem_cons.1 hu with hu|hu
  ·exact hN u (by simp[hu]) g e
  ·rcases List.mem_append.1 hu with hu|hu
   ·exact hN u (Zm _ hu) g e
   ·rw[List.mem_singleton] at hu;subst hu;exact a0 g (by simpa [ay] using e)
theorem vO {g7:Nat}{x:Nd}{rest:List Nd}{us:List (List Value)}(h1:W.ownsRow base 70 8 (.slice (some ⟨g7,0,none⟩) n cap) n (ay x vn vk++us.flatten))(h2:dh W 0 vn x.names)
  (h4:bo (gM W) us rest) (h5:wJ vk us) (hN:mX (base<= ·) (ay x vn vk::us)) (hn:n=1+rest.length) (h6:bI W2 base vk' (x.kids ++ [m])) (hg:W.grownBy W2 vk.ownBlock) (hk:vk'.ownBlock=vk.ownBlock\/vk'.ownBlock=some W.heap.size)
  (hv:∀g,vk.ownBlock=some g->lV W g 3) :
  fy (W2.setCell ⟨g7,7,none⟩ vk') base (.slice (some ⟨g7,0,none⟩) n cap) {x with kids:=x.kids ++ [m]} rest:=by
 have hr:W2.ownsRow base 70 8 (.slice (some ⟨g7,0,none⟩) n cap) n (ay x vn vk++us.flatten):=al (T:=fun t=>t=3) h1 (aG.of_grown hg (fun g e cs t z hh=>by obtain⟨cs',z',h'⟩:=hv g e;rw[h'] at hh;injection hh with hh;injection hh with _ hh;exact hh.symm)) (by decide);obtain⟨a5,a1⟩:=World.ownsRow.stored hr 7 vk';have ht:∀g,some g7=some g->lV W2 g 70:=fun g e=>by injection e with e;subst e;exact cj hr _ rfl
 have a0:dh W2 0 vn x.names:=al (T:=fun t=>t=3) h2 (aG.of_grown hg (fun g e cs t z hh=>by obtain⟨cs',z',h'⟩:=hv g e;rw[h'] at hh;injection hh with hh;injection hh with _ hh;exact hh.symm)) (by decide);have a4:∀u∈us,∀g,(u.getD 7 undef).ownBlock=some g->g<W.heap.size:=fun u hu g e=>by
  obtain⟨i,hi,rfl⟩:=List.getElem_of_mem hu;obtain⟨vn2,vk2,e2,_,a3⟩:=h4.2 i us[i] (rest[i]'(by rw[<-h4.1];exact hi)) (Zd hi) (Zd _);rw[e2] at e;exact(World.ownsRow.lt a3 g (by simpa [ay] using e)).2
 have a2:bo (gM W2) us rest:=⟨h4.1,fun i u y hu hy=>by
  obtain⟨vn2,vk2,e2,a1,a3⟩:=h4.2 i u y hu hy;refine⟨vn2,vk2,e2,al (T:=fun t=>t=3) a1 (aG.of_grown hg (fun g e cs t z hh=>by obtain⟨cs',z',h'⟩:=hv g e;rw[h'] at hh;injection hh with hh;injection hh with _ hh;exact hh.symm)) (by decide),World.ownsRow.kept a3 hg ?_⟩
  cases hb:vk2.ownBlock with
  |none=>exact .inl rfl
  |some g=>exact .inr (fun e=>h5 u (Zl hu) g (by rw[e2];simpa [ay] using hb) e.symm)⟩
 refine⟨vn,vk',us,?_,oI a1 ht a0,oC a1 ht h6,a2.mono fun _ _ h=>fj a1 ht h,fun u hu g e=>?_,fun u hu g e=>?_⟩
 ·rw[<-hn];have e:(ay x vn vk++us.flatten).set 7 vk'=ay {x with kids:=x.kids ++ [m]} vn vk'++us.flatten:=rfl;rw[<-e];exact a5
 ·rcases hk with hk|hk
  ·rw[hk];exact h5 u hu g e
  ·rw[hk];have:=a4 u hu g e;intro e';injection e' with e';omega
 ·rcases List.mem_cons.1 hu with hu|hu
  ·exact hN (ay x vn vk) (by simp) g (by rw[hu] at e;simpa [ay] using e)
  ·exact hN u (Zm _ hu) g e
