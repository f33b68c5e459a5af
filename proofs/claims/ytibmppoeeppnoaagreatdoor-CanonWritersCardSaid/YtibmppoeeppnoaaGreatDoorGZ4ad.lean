import Derived.Test.YtibmppoeeppnoaaGreatDoorGZ4ac
import Derived.StillTailTactics
set_option linter.unusedVariables false
set_option linter.unusedSimpArgs false
set_option maxHeartbeats 64000000
namespace Go.Proofs.YtibmppoeeppnoaaGreatDoor
open Go.RowKit
variable {cs cur:Array Value}{news us:List Value}{B b base base' c cap g i k m n:Nat}{P Q:Nat->Prop}{A:Option Addr}{e t:TypeId}{T:TypeId->Prop}{v v' vk vk' vn z:Value}{W W' W2 w w' w0:World}
section
variable {w w':World}{base:Nat}{e:TypeId}{k n:Nat}{v:Value}{xs:List Value}
theorem ao (h:w.ownsRow base e k v n xs)(hb:Below B w w')(hB:w.heap.size<=B):w'.ownsRow base e k v n xs:=by
 obtain⟨h1,⟨rfl,h0⟩|⟨g,cap,cur,rfl,a0,hg,r⟩⟩:=h
 ·exact⟨h1,.inl ⟨rfl,h0⟩⟩
 ·exact⟨h1,.inr ⟨g,cap,cur,rfl,a0,(hb.block g (Nat.lt_of_lt_of_le (ae hg) hB)).trans hg,r⟩⟩
theorem bZ (h:w.ownsRow base e k v n xs)(hb:base'<=base):w.ownsRow base' e k v n xs:=by
 obtain⟨h1,⟨rfl,h0⟩|⟨g,cap,cur,rfl,a0,r⟩⟩:=h
 ·exact⟨h1,.inl ⟨rfl,h0⟩⟩
 ·exact⟨h1,.inr ⟨g,cap,cur,rfl,Zb hb a0,r⟩⟩
def nD (w:World)(g:Nat)(e:TypeId):Prop:= ∃cs z,w.heap[g]?=some (.cells cs e z)
def aG (T:TypeId->Prop)(w w':World):Prop:=w.heap.size<=w'.heap.size/\∀ (g:Nat) (cs:Array Value) (e:TypeId) (z:Nat×Nat),w.heap[g]?=some (.cells cs e z)->¬T e->w'.heap[g]?=some (.cells cs e z)
theorem aG.refl (T:TypeId->Prop)(w:World):aG T w w:=⟨Za _,fun _ _ _ _ h _=>h⟩
theorem aG.trans {a b c:World}(h:aG T a b)(k:aG T b c):aG T a c:=⟨Zb h.1 k.1,fun g cs e z hg ht=>k.2 g cs e z (h.2 g cs e z hg ht) ht⟩
theorem aG.of_below (T:TypeId->Prop)(h:Below w.heap.size w w'):aG T w w':=⟨h.size,fun g cs e z hg _=>(h.block g (ae hg)).trans hg⟩
theorem aG.of_grown {row:Option Nat}(hg:w.grownBy w' row)(ht:∀ (g:Nat),row=some g->∀ (cs:Array Value) (e:TypeId) (z:Nat×Nat),w.heap[g]?=some (.cells cs e z)->T e):aG T w w':=
 ⟨hg.size,fun g cs e z h hn=>(hg.block g (ae h) (fun eq=>hn (ht g eq.symm cs e z h))).trans h⟩
theorem aG.setCell {p:Addr}(u:Value)(ht:∀ (cs:Array Value) (e:TypeId) (z:Nat×Nat),w.heap[p.block]?=some (.cells cs e z)->T e):aG T w (w.setCell p u):=
 ⟨by simp,fun g cs e z h hn=>(Below.heap_setCell w p u g (by rintro rfl;exact hn (ht cs e z h))).trans h⟩
theorem aG.drewN (T:TypeId->Prop)(m:Nat):aG T w (w.drewN m):=⟨Za _,fun _ _ _ _ h _=>h⟩
theorem al (h:w.ownsRow base e k v n xs)(hk:aG T w w')(he:¬T e):w'.ownsRow base e k v n xs:=by
 obtain⟨h1,⟨rfl,h0⟩|⟨g,cap,cur,rfl,a0,hg,r⟩⟩:=h
 ·exact⟨h1,.inl ⟨rfl,h0⟩⟩
 ·exact⟨h1,.inr ⟨g,cap,cur,rfl,a0,hk.2 g cur e _ hg he,r⟩⟩
theorem ak (h:w.ownsRow base e k v n xs)(hv:v.ownBlock=some g):base<=g/\∃cur,w.heap[g]?=some (.cells cur e (0,0)):=by
 obtain⟨h1,⟨rfl,h0⟩|⟨g',cap,cur,rfl,a0,hg,r⟩⟩:=h
 ·simp[Value.ownBlock] at hv
 ·simp[Value.ownBlock] at hv;subst hv;exact⟨a0,cur,hg⟩
theorem bT (h:w.ownsRow base e k v n xs):(v =.slice none 0 0/\n=0/\xs = [])\/∃g cap,v =.slice (some ⟨g,0,none⟩) n cap/\base<=g/\n<=cap/\n<=maxLen:=by
 obtain⟨h1,⟨rfl,h0⟩|⟨g,cap,cur,rfl,a0,hg,h2,h3,r⟩⟩:=h
 ·subst h0;exact .inl ⟨rfl,rfl,List.eq_nil_of_length_eq_zero (by omega)⟩
 ·exact .inr ⟨g,cap,rfl,a0,h2,Zb h2 h3⟩
theorem ag (h:w.ownsRow base e k v n xs):∃A cap,v =.slice A n cap/\n<=cap/\n<=maxLen/\(0<n->∃g,A=some ⟨g,0,none⟩):=by
 rcases bT h with ⟨rfl,rfl,_⟩|⟨g,cap,rfl,_,h1,h2⟩
 ·exact⟨none,0,rfl,Za _,Zj _,fun h=>by omega⟩
 ·exact⟨_,cap,rfl,h1,h2,fun _=>⟨g,rfl⟩⟩
theorem aD (h:w.ownsRow base e k (.slice A n cap) n xs)(hA:A=some ⟨g,0,none⟩)(j:Nat)(hj:j<n*k):w.cell? ⟨g,j,none⟩=xs[j]?:=by
 subst hA;exact World.ownsRow.cellAt h j hj
end
def dL (s:ByteArray):Value:=.string s
def df (k:Nat):Value:=.int .i64 k
def cI (w:World)(base:Nat)(v:Value)(l:List ByteArray):Prop:=w.ownsRow base 9 1 v l.length (l.map dL)
def bQ (w:World)(base:Nat)(v:Value)(l:List Nat):Prop:=w.ownsRow base 3 1 v l.length (l.map df)
def aR (x:Nd)(vn vk:Value):List Value:= [.int .i64 x.kind,.bool x.tr,.string x.text,.bool x.num.neg,.string x.num.digits,.int .i64 x.num.exp,vn,vk]
def gE (w:World)(u:List Value)(x:Nd):Prop:= ∃vn vk,u=aR x vn vk/\cI w 0 vn x.names/\bQ w 0 vk x.kids
def br {α β:Type}(R:α->β->Prop)(l:List α)(m:List β):Prop:=l.length=m.length/\∀ (i:Nat) (a:α) (b:β),l[i]?=some a->m[i]?=some b->R a b
theorem br.mono {α β:Type}{R S:α->β->Prop}{l:List α}{m:List β}(h:br R l m)(hs:∀a b,R a b->S a b):br S l m:=⟨h.1,fun i a b h1 h2=>hs _ _ (h.2 i a b h1 h2)⟩
theorem br.nil {α β:Type}(R:α->β->Prop):br R [] []:=⟨rfl,fun i a b h=>by simp at h⟩
theorem br.snoc {α β:Type}{R:α->β->Prop}{l:List α}{m:List β}{a:α}{b:β}(h:br R l m)(hr:R a b):br R (l ++ [a]) (m ++ [b]):=by
 refine⟨by simp[h.1],fun i x y h1 h2=>?_⟩;have hl:=h.1
 by_cases hi:i<l.length
 ·rw[List.getElem?_append_left hi] at h1;rw[List.getElem?_append_left (by omega)] at h2;exact h.2 i x y h1 h2
 ·rw[List.getElem?_append_right (by omega)] at h1 h2;rw[hl] at h1;have hz:i - m.length=0:=by have:=(List.getElem?_eq_some_iff.1 h1).1;simp at this;omega
  rw[hz] at h1 h2;simp at h1 h2;subst h1 h2;exact hr
theorem br.get {α β:Type}{R:α->β->Prop}{l:List α}{m:List β}(h:br R l m){b:β}(hb:m[i]?=some b):∃a,l[i]?=some a/\R a b:=by
 have hi:=(List.getElem?_eq_some_iff.1 hb).1;rw[<-h.1] at hi;exact⟨_,Zc hi,h.2 i _ _ (Zc hi) hb⟩
theorem br.cons {α β:Type}{R:α->β->Prop}{l:List α}{m:List β}{a:α}{b:β}(hr:R a b)(h:br R l m):br R (a::l) (b::m):=by
 refine⟨by simp[h.1],fun i x y h1 h2=>?_⟩
 cases i with
 |zero=>simp at h1 h2;subst h1 h2;exact hr
 |succ i=>simp at h1 h2;exact h.2 i x y h1 h2
def dA (w:World)(base:Nat)(v:Value)(ns:List Nd):Prop:= ∃us:List (List Value),w.ownsRow base 69 8 v ns.length us.flatten/\br (gE w) us ns
theorem tG {us:List (List Value)}(h:∀u∈us,u.length=k):∀i j,j<k->us.flatten[i*k+j]?=us[i]?.bind (·[j]?):=by
 induction us with
 |nil=>intro i j hj;simp
 |cons a l ih=>
  intro i j hj;have ha:=h a (by simp);have hl:=ih (fun u hu=>h u (Zl _ hu))
  cases i with
  |zero=>simp[List.getElem?_append_left (show j<a.length by omega)]
  |succ i=>
   rw[List.flatten_cons,List.getElem?_append_right (by rw[ha,Nat.succ_mul];omega),ha,show(i+1)*k+j - k=i*k+j by rw[Nat.succ_mul];omega,hl i j hj];simp
theorem gE.len {u:List Value}{x:Nd}(h:gE w u x):u.length=8:=by obtain⟨_,_,rfl,_⟩:=h;rfl
theorem br.lens {us:List (List Value)}{ns:List Nd}(h:br (gE w) us ns):∀u∈us,u.length=8:=by
 intro u hu;obtain⟨i,hi,rfl⟩:=List.getElem_of_mem hu;have a0:i<ns.length:=by rw[<-h.1];exact hi
 exact(h.2 i us[i] ns[i] (Zc hi) (Zc a0)).len
section
variable {w w':World}{base:Nat}{v:Value}
theorem cI.below {l:List ByteArray}(h:cI w base v l)(hb:Below B w w')(hB:w.heap.size<=B):cI w' base v l:=ao h hb hB
theorem bQ.below {l:List Nat}(h:bQ w base v l)(hb:Below B w w')(hB:w.heap.size<=B):bQ w' base v l:=ao h hb hB
theorem cI.low {l:List ByteArray}(h:cI w base v l)(hb:b<=base):cI w b v l:=bZ h hb
theorem bQ.low {l:List Nat}(h:bQ w base v l)(hb:b<=base):bQ w b v l:=bZ h hb
theorem gE.below {u:List Value}{x:Nd}(h:gE w u x)(hb:Below B w w')(hB:w.heap.size<=B):gE w' u x:=by
 obtain⟨vn,vk,rfl,h1,h2⟩:=h;exact⟨vn,vk,rfl,h1.below hb hB,h2.below hb hB⟩
theorem gE.keeps {u:List Value}{x:Nd}(h:gE w u x)(hk:aG T w w')(h1:¬T 9)(h2:¬T 3):gE w' u x:=by
 obtain⟨vn,vk,rfl,h3,h4⟩:=h;exact⟨vn,vk,rfl,al h3 hk h1,al h4 hk h2⟩
theorem dA.below {ns:List Nd}(h:dA w base v ns)(hb:Below B w w')(hB:w.heap.size<=B):dA w' base v ns:=by
 obtain⟨us,h1,h2⟩:=h;exact⟨us,ao h1 hb hB,h2.mono fun _ _ h=>h.below hb hB⟩
theorem dA.keeps {ns:List Nd}(h:dA w base v ns)(hk:aG T w w')(h1:¬T 9)(h2:¬T 3)(h3:¬T 69):dA w' base v ns:=by
 obtain⟨us,h4,h5⟩:=h;exact⟨us,al h4 hk h3,h5.mono fun _ _ h=>h.keeps hk h1 h2⟩
theorem dA.low {ns:List Nd}(h:dA w base v ns)(hb:b<=base):dA w b v ns:=by
 obtain⟨us,h1,h2⟩:=h;exact⟨us,bZ h1 hb,h2⟩
theorem dA.form {ns:List Nd}(h:dA w base v ns):∃A cap,v =.slice A ns.length cap/\ns.length<=cap/\ns.length<=maxLen/\(0<ns.length->∃g,A=some ⟨g,0,none⟩):=by
 obtain⟨us,h1,_⟩:=h;exact ag h1
theorem dA.node {ns:List Nd}{x:Nd}(h:dA w base (.slice (some ⟨g,0,none⟩) n cap) ns)(hx:ns[i]?=some x) :
  ∃vn vk,cI w 0 vn x.names/\bQ w 0 vk x.kids/\∀j u,(aR x vn vk)[j]?=some u->w.cell? ⟨g,i*8+j,none⟩=some u:=by
 obtain⟨us,h1,h2⟩:=h;have hi:=(List.getElem?_eq_some_iff.1 hx).1;obtain⟨a,ha,vn,vk,rfl,h3,h4⟩:=h2.get hx;refine⟨vn,vk,h3,h4,fun j u hu=>?_⟩;have hj:j<8:=by have:=(List.getElem?_eq_some_iff.1 hu).1;simpa [aR] using this
 have hn:n=ns.length:=by
  rcases bT h1 with ⟨e,_⟩|⟨_,_,e,_⟩
  ·cases e
  ·injection e
 subst hn;rw[World.ownsRow.cellAt h1 (i*8+j) (by omega),tG h2.lens i j hj,ha];exact hu
end
def nr (P:Nat->Prop)(us:List (List Value)):Prop:= ∀u∈us,∀g,(u.getD 6 undef).ownBlock=some g->P g
def bF (P:Nat->Prop)(w:World)(base:Nat)(v:Value)(ns:List Nd):Prop:= ∃us:List (List Value),w.ownsRow base 69 8 v ns.length us.flatten/\br (gE w) us ns/\nr P us
theorem bF.flat {ns:List Nd}(h:bF P w base v ns):dA w base v ns:=by obtain⟨us,h1,h2,_⟩:=h;exact⟨us,h1,h2⟩
theorem bF.form {ns:List Nd}(h:bF P w base v ns):∃A cap,v =.slice A ns.length cap/\ns.length<=cap/\ns.length<=maxLen/\(0<ns.length->∃g,A=some ⟨g,0,none⟩):=h.flat.form
theorem bF.low {ns:List Nd}(h:bF P w base v ns)(hb:b<=base):bF P w b v ns:=by obtain⟨us,h1,h2,h3⟩:=h;exact⟨us,bZ h1 hb,h2,h3⟩
theorem bF.imp {ns:List Nd}(h:bF P w base v ns)(hq:∀g,P g->g<w.heap.size->Q g):bF Q w base v ns:=by
 obtain⟨us,h1,h2,h3⟩:=h;refine⟨us,h1,h2,fun u hu g e=>hq g (h3 u hu g e) ?_⟩;obtain⟨i,hi,rfl⟩:=List.getElem_of_mem hu;obtain⟨vn,vk,he,hs,_⟩:=h2.2 i us[i] (ns[i]'(by rw[<-h2.1];exact hi)) (Zc hi) (Zc _);rw[he] at e;obtain⟨_,cur,hh⟩:=ak hs (by simpa [aR] using e);exact ae hh
theorem bF.below {ns:List Nd}(h:bF P w base v ns)(hb:Below B w w')(hB:w.heap.size<=B):bF P w' base v ns:=by
 obtain⟨us,h1,h2,h3⟩:=h;exact⟨us,ao h1 hb hB,h2.mono fun _ _ h=>h.below hb hB,h3⟩
theorem bF.keeps {ns:List Nd}(h:bF P w base v ns)(hk:aG T w w')(h1:¬T 9)(h2:¬T 3)(h3:¬T 69):bF P w' base v ns:=by
 obtain⟨us,h4,h5,h6⟩:=h;exact⟨us,al h4 hk h3,h5.mono fun _ _ h=>h.keeps hk h1 h2,h6⟩
theorem bF.grownStr {ns:List Nd}{row:Option Nat}(h:bF P w base v ns)(hg:w.grownBy w' row)(ht:∀g,row=some g->nD w g 9)(hP:∀g,P g->row≠some g):bF P w' base v ns:=by
 obtain⟨us,h1,h2,h3⟩:=h;have hk:aG (fun e=>e=9) w w':=aG.of_grown hg (fun g e cs t z hh=>by obtain⟨cs',z',h'⟩:=ht g e;rw[h'] at hh;injection hh with hh;injection hh with _ hh;exact hh.symm);refine⟨us,al h1 hk (by decide),⟨h2.1,fun i u x hu hx=>?_⟩,h3⟩;obtain⟨vn,vk,he,hs,hkk⟩:=h2.2 i u x hu hx;refine⟨vn,vk,he,World.ownsRow.kept hs hg ?_,al hkk hk (by decide)⟩
 cases hb:vn.ownBlock with
 |none=>exact .inl rfl
 |some g=>exact .inr (fun e=>hP g (h3 u (Zk hu) g (by rw[he];simpa [aR] using hb)) e.symm)
theorem dA.nil (w:World)(base:Nat):dA w base (.slice none 0 0) []:=⟨[],⟨rfl,.inl ⟨rfl,rfl⟩⟩,br.nil _⟩
theorem cI.nil (w:World)(base:Nat):cI w base (.slice none 0 0) []:=⟨rfl,.inl ⟨rfl,rfl⟩⟩
theorem bQ.nil (w:World)(base:Nat):bQ w base (.slice none 0 0) []:=⟨rfl,.inl ⟨rfl,rfl⟩⟩
structure dl (t e:TypeId) (z:Value) (k B:Nat):Prop where
 ht:Tryz.prog.underlying t=some (.slice e)
 hi:(Tryz.prog.info? e).map (fun i=>(i.zero,i.size,i.bytes))=some (some z,k,B)
 hz:z.cells.size=k
 h0:0<k
theorem yM:dl 67 9 (.string ByteArray.empty) 1 16:=⟨Tryz.underlying67,by kernel_rfl,rfl,by decide⟩
theorem jv:dl 23 3 (.int .i64 0) 1 8:=⟨Tryz.underlying23,by kernel_rfl,rfl,by decide⟩
theorem AL:dl 28 69 (.agg #[.int .i64 0,.bool false,.string ByteArray.empty,.bool false,.string ByteArray.empty,.int .i64 0,.slice none 0 0,.slice none 0 0]) 8 112:=⟨Tryz.underlying28,by kernel_rfl,rfl,by decide⟩
theorem nJ (E:dl t e z k B)(n:Nat)(hn:n<=maxLen)(hB:B*n<=281474976710656):∃cur:Array Value,cur.size=n*k/\
  ∀W:World,(Instr.makeSlice t (.int .i64 0) (.int .i64 (n:Int))).run Tryz.prog W =.ok (.slice (some ⟨W.heap.size,0,none⟩) 0 n) (W.alloc (.cells cur e)):=by
 obtain⟨i0,hi,a2,a1,a0⟩:=info_parts E.hi;have a3:n<=9223372036854775807:=by unfold maxLen at hn;omega
 refine⟨madeCells z.cells (n*k),by simp[madeCells],fun W=>?_⟩;have:=run_make (P:=Tryz.prog) W t e i0 z E.ht hi a2 .i64 .i64 0 n (by omega) (by omega) (by rw[a0];omega) (by omega);rw[a1] at this;simpa using this
theorem dB (hg:w.heap[g]?=some (.cells cur e (0,0)))(hb:base<=g)(hc:cap<=maxLen)(hs:cur.size=cap*k):w.ownsRow base e k (.slice (some ⟨g,0,none⟩) 0 cap) 0 []:=
 ⟨by rw[Nat.zero_mul];rfl,.inr ⟨g,cap,cur,rfl,hb,hg,Zj _,hc,hs,by rw[Nat.zero_mul];rfl⟩⟩
theorem eE (hg:w.heap[g]?=some (.cells cur e (0,0)))(hb:base<=g)(hc:n<=maxLen)(hs:cur.size=n*k):w.ownsRow base e k (.slice (some ⟨g,0,none⟩) n n) n cur.toList:=
 ⟨by rw[Array.length_toList,hs],.inr ⟨g,n,cur,rfl,hb,hg,Za _,hc,hs,List.take_of_length_le (by rw[Array.length_toList,hs];exact Za _)⟩⟩
theorem l9 (E:dl t e z k B){o:Oper}{a:Act}{K:Act->World->Prop}{Q:Exit->Act->World->Prop}(s x:Operand)
  (ho:o.op =.call {callee:=.builtin .append,args:= #[s,x],argTypes:= #[t,t]})
  (base:Nat) (v:Value) (n g c m:Nat) (us news:List Value) (hs:a.eval s=v) (a1:w.ownsRow base e k v n us) (hx:a.eval x =.slice (some ⟨g,0,none⟩) m c) (hl:news.length=m*k)
  (hg:∀j u,news[j]?=some u->w.cell? ⟨g,j,none⟩=some u) (h1:∀u∈news,u.oneCell'=true)
  (hlen:n+m<=maxLen) (hby:(n+m)*B<=140737488355328) (a0:base<=w.heap.size)
  (h:∀v' w',w'.ownsRow base e k v' (n+m) (us++news)->w.grownBy w' v.ownBlock->(v'.ownBlock=v.ownBlock\/v'.ownBlock=some w.heap.size)->K (a.put o.dst v') w'):o.wp Tryz.prog a w K Q:=by
 obtain⟨i0,hi,a5,a4,a3⟩:=info_parts E.hi;obtain⟨v',w',a2,h2,h3,_,h5⟩:=run_append_own_at (P:=Tryz.prog) w base t o.type e i0 z k B E.ht hi a5 a4 a3 E.hz E.h0 v n us a1 ⟨g,0,none⟩ m c news
  hl (fun j y hy=>by
   have:=hg j y hy;unfold Addr.add
   split
   ·rename_i h0;subst h0;exact this
   ·simpa using this) h1 hlen hby a0
 unfold Oper.wp execOp;simp only[ho,resolve,invoke,builtin,Sem.run_bind,Sem.run_pure,Result.andThen_ok,List.map_toArray,List.map_cons,List.map_nil,hs,hx,a2];exact h v' w' h2 h3 h5
theorem cQ (E:dl t e z k B){ops:Array Oper}{rest:List Oper}{o:Oper}{a:Act}{Q:Exit->Act->World->Prop}(a2:o.guard=none)(s x:Operand)
  (ho:o.op =.call {callee:=.builtin .append,args:= #[s,x],argTypes:= #[t,t]})
  (base:Nat) (v:Value) (n g c m:Nat) (us news:List Value) (hs:a.eval s=v) (a1:w.ownsRow base e k v n us) (hx:a.eval x =.slice (some ⟨g,0,none⟩) m c) (hl:news.length=m*k)
  (hg:∀j u,news[j]?=some u->w.cell? ⟨g,j,none⟩=some u) (h1:∀u∈news,u.oneCell'=true)
  (hlen:n+m<=maxLen) (hby:(n+m)*B<=140737488355328) (a0:base<=w.heap.size)
  (h:∀v' w',w'.ownsRow base e k v' (n+m) (us++news)->w.grownBy w' v.ownBlock->(v'.ownBlock=v.ownBlock\/v'.ownBlock=some w.heap.size)->wpList Tryz.prog ops Q rest (a.put o.dst v') w'):wpList Tryz.prog ops Q (o::rest) a w:=
 wpList_plain a2 fun _ hK=>l9 E s x ho base v n g c m us news hs a1 hx hl hg h1 hlen hby a0 fun v' w' h2 h3 h4=>hK _ _ (h v' w' h2 h3 h4)
theorem oX (E:dl t e z k B){ops:Array Oper}{o:Oper}{a:Act}{K:Act->World->Prop}{Q:Exit->Act->World->Prop}{E':Prop}(a2:o.guard=none)(s x:Operand)
  (ho:o.op =.call {callee:=.builtin .append,args:= #[s,x],argTypes:= #[t,t]})
  (base:Nat) (v:Value) (n g c m:Nat) (us news:List Value) (hs:a.eval s=v) (a1:w.ownsRow base e k v n us) (hx:a.eval x =.slice (some ⟨g,0,none⟩) m c) (hl:news.length=m*k)
  (hg:∀j u,news[j]?=some u->w.cell? ⟨g,j,none⟩=some u) (h1:∀u∈news,u.oneCell'=true)
  (hlen:n+m<=maxLen) (hby:(n+m)*B<=140737488355328) (a0:base<=w.heap.size)
  (h:∀v' w',w'.ownsRow base e k v' (n+m) (us++news)->w.grownBy w' v.ownBlock->(v'.ownBlock=v.ownBlock\/v'.ownBlock=some w.heap.size)->K (a.put o.dst v') w') :
  if Region.wanted o (yielded ops a.tmps)=true then Oper.wp Tryz.prog o a w K Q else E':=by
 have hw:Region.wanted o (yielded ops a.tmps)=true:=by simp[Region.wanted,a2]
 rw[if_pos hw];exact l9 E s x ho base v n g c m us news hs a1 hx hl hg h1 hlen hby a0 h
theorem lH (E:dl t e z k B){ops:Array Oper}{rest:List Oper}{o:Oper}{a:Act}{Q:Exit->Act->World->Prop}{s x:Operand}
  (a1:w.ownsRow base e k v n us) (hg:∀j u,news[j]?=some u->w.cell? ⟨g,j,none⟩=some u) (a0:base<=w.heap.size)
  (h:∀v' w',w'.ownsRow base e k v' (n+m) (us++news)->w.grownBy w' v.ownBlock->(v'.ownBlock=v.ownBlock\/v'.ownBlock=some w.heap.size)->wpList Tryz.prog ops Q rest (a.put o.dst v') w')
  (ho:o.op =.call {callee:=.builtin .append,args:= #[s,x],argTypes:= #[t,t]}:=by exact rfl) (a2:o.guard=none:=by exact rfl) (hs:a.eval s=v:=by exact rfl) (hx:a.eval x =.slice (some ⟨g,0,none⟩) m c:=by exact rfl)
  (hl:news.length=m*k:=by exact rfl) (h1:∀u∈news,u.oneCell'=true:=by simp[Value.oneCell']) (hlen:n+m<=maxLen:=by unfold maxLen;omega) (hby:(n+m)*B<=140737488355328:=by omega):wpList Tryz.prog ops Q (o::rest) a w:=
 cQ E a2 s x ho base v n g c m us news hs a1 hx hl hg h1 hlen hby a0 h
theorem vm (E:dl t e z k B){ops:Array Oper}{o:Oper}{a:Act}{K:Act->World->Prop}{Q:Exit->Act->World->Prop}{E':Prop}{s x:Operand}
  (a1:w.ownsRow base e k v n us) (hg:∀j u,news[j]?=some u->w.cell? ⟨g,j,none⟩=some u) (a0:base<=w.heap.size)
  (h:∀v' w',w'.ownsRow base e k v' (n+m) (us++news)->w.grownBy w' v.ownBlock->(v'.ownBlock=v.ownBlock\/v'.ownBlock=some w.heap.size)->K (a.put o.dst v') w')
  (ho:o.op =.call {callee:=.builtin .append,args:= #[s,x],argTypes:= #[t,t]}:=by exact rfl) (a2:o.guard=none:=by exact rfl) (hs:a.eval s=v:=by exact rfl) (hx:a.eval x =.slice (some ⟨g,0,none⟩) m c:=by exact rfl)
  (hl:news.length=m*k:=by exact rfl) (h1:∀u∈news,u.oneCell'=true:=by simp[Value.oneCell']) (hlen:n+m<=maxLen:=by unfold maxLen;omega) (hby:(n+m)*B<=140737488355328:=by omega):if Region.wanted o (yielded ops a.tmps)=true then Oper.wp Tryz.prog o a w K Q else E':=
 oX E a2 s x ho base v n g c m us news hs a1 hx hl hg h1 hlen hby a0 h
theorem ap (w:World)(cs:List Value)(t:TypeId):∀j u,cs[j]?=some u->(w.alloc (.cells cs.toArray t)).cell? ⟨w.heap.size,j,none⟩=some u:=by
 intro j u hu;have:=Ze w (.cells cs.toArray t);unfold World.cell?;simp only[this];simpa using hu
theorem bw (hb:Below base w0 w)(h:w.ownsRow base e k v n us)(hle:base<=w.heap.size)(hg:w.grownBy w' v.ownBlock):Below base w0 w':=
 hb.grown hg hle (fun g e'=>(ak h e').1)
def Sl (w:World)(v:Value)(us:List Value):Prop:=us.length<=9223372036854775807/\∃A c,v =.slice A us.length c/\us.length<=c/\(0<us.length->∃g o,A=some ⟨g,o,none⟩/\∀i u,us[i]?=some u->w.cell? ⟨g,o+i,none⟩=some u)
theorem Sl.of_own (h:w.ownsRow base e 1 v n us):Sl w v us:=by
 have hl:us.length=n:=by have:=h.1;omega
 subst hl;obtain⟨A,c,rfl,hc,hm,hA⟩:=ag h;refine⟨by unfold maxLen at hm;omega,A,c,rfl,hc,fun h0=>?_⟩;obtain⟨g,rfl⟩:=hA h0;refine⟨g,0,rfl,fun i u hu=>?_⟩;have hi:=(List.getElem?_eq_some_iff.1 hu).1;rw[Nat.zero_add,World.ownsRow.cellAt h i (by omega)];exact hu
theorem Sl.below (h:Sl w v us)(hb:Below w.heap.size w w'):Sl w' v us:=by
 obtain⟨hm,A,c,e,hc,hA⟩:=h;refine⟨hm,A,c,e,hc,fun h0=>?_⟩;obtain⟨g,o,e,a0⟩:=hA h0;exact⟨g,o,e,fun i u hu=>Zf hb (a0 i u hu)⟩
theorem Sl.drewN (h:Sl w v us)(m:Nat):Sl (w.drewN m) v us:=h
def FC (w:World)(l:List ByteArray)(e:Ending)(w':World):Prop:= ∃v',e =.returned v'/\Below w.heap.size w w'/\cI w' w.heap.size v' l
def Bw (w0:World)(l:List ByteArray)(s3 s4:Value)(wr:World):Prop:= ∃k:Nat,k<=l.length/\s4 =.int .i64 k/\Below w0.heap.size w0 wr/\cI wr w0.heap.size s3 (l.take k)
theorem lj {l:List ByteArray}(hv:Sl w v (l.map dL))(hl:l.length<=1000000):Calls Tryz.prog 40 #[v] w (FC w l):=by
 obtain⟨hm,A,cap,rfl,hc,hA⟩:=id hv;rw[List.length_map] at hm hc hA ⊢;obtain⟨cur,a0,a9⟩:=nJ yM l.length (by unfold maxLen;omega) (by omega);have HA:=Qa hA;have a2:=Qa a0;clear hv hA a0;go_enter Tryz.func40,Tryz.ntmps40;go_wp2_with fail
 go_loopw [3,4] (Bw w l) (fun _ i _=>l.length - (intOf i).toNat)
 case atStart=>
  exact⟨0,by omega,rfl,ac _ _,by rw[List.take_zero];exact dB (Ze _ _) (Za _) (by unfold maxLen;omega) a2.out⟩
 case round=>
  obtain⟨k,hk,rfl,hb,ho⟩:=hrel;have Hb:=Qa hb;have Ho:=Qa ho;have a7:=hb.size;clear hb ho
  by_cases hlt:k<l.length
  ·obtain⟨g,o,rfl,a6⟩:=HA.out (by omega);obtain⟨s,hs⟩:∃s,l[k]?=some s:=⟨_,Zc hlt⟩;have a1:=Zf Hb.out (a6 k (dL s) (by rw[List.getElem?_map,hs];rfl));unfold dL at a1;have Hs:=Qa (show l.take (k+1)=l.take k ++ [s] by rw[List.take_add_one,hs];rfl);have a4:(l.take k).length=k:=by rw[List.length_take];omega
   have a5:=Qa a4;clear hs a4 a6;go_wp2_with (at_builtin;refine lH yM (by have:=Ho.out.below (ac wr (.cells #[.string s] 9)) (Za _);unfold cI at this;rw[a5.out] at this;exact this) (ap wr [dL s] 9) (by simp;omega) ?_ (h1:=(by simp[dL,Value.oneCell']));intro v' w1 h1 h2 h3;have Hp:=Qa h1;have Hg:=Qa h2;clear h1 h2 h3);have a3:Below w.heap.size w (wr.alloc (.cells #[.string s] 9)):=Hb.out.alloc a7 _;exact⟨⟨k+1,by omega,by go_num,bw a3 (Ho.out.below (ac wr (.cells #[.string s] 9)) (Za _)) a3.size Hg.out,by rw[Hs.out];unfold cI;rw[List.length_append,a5.out,List.map_append];exact Hp.out⟩,by simp[intOf];omega⟩
  ·obtain rfl:k=l.length:=by omega
   go_wp2;go_ret;exact⟨_,rfl,Hb.out,by have:=Ho.out;rwa[List.take_length] at this⟩
def GZ (w:World)(l:List Nat)(e:Ending)(w':World):Prop:= ∃v',e =.returned v'/\Below w.heap.size w w'/\bQ w' w.heap.size v' l
def DQ (w0:World)(l:List Nat)(s3 s4:Value)(wr:World):Prop:= ∃k:Nat,k<=l.length/\s4 =.int .i64 k/\Below w0.heap.size w0 wr/\bQ wr w0.heap.size s3 (l.take k)
theorem tu {l:List Nat}(hv:Sl w v (l.map df))(hl:l.length<=1000000):Calls Tryz.prog 185 #[v] w (GZ w l):=by
 obtain⟨hm,A,cap,rfl,hc,hA⟩:=id hv;rw[List.length_map] at hm hc hA ⊢;obtain⟨cur,a0,a9⟩:=nJ jv l.length (by unfold maxLen;omega) (by omega);have HA:=Qa hA;have a2:=Qa a0;clear hv hA a0;go_enter Tryz.func185,Tryz.ntmps185;go_wp2_with fail
 go_loopw [3,4] (DQ w l) (fun _ i _=>l.length - (intOf i).toNat)
 case atStart=>
  exact⟨0,by omega,rfl,ac _ _,by rw[List.take_zero];exact dB (Ze _ _) (Za _) (by unfold maxLen;omega) a2.out⟩
 case round=>
  obtain⟨k,hk,rfl,hb,ho⟩:=hrel;have Hb:=Qa hb;have Ho:=Qa ho;have a7:=hb.size;clear hb ho
  by_cases hlt:k<l.length
  ·obtain⟨g,o,rfl,a6⟩:=HA.out (by omega);obtain⟨s,hs⟩:∃s,l[k]?=some s:=⟨_,Zc hlt⟩;have a1:=Zf Hb.out (a6 k (df s) (by rw[List.getElem?_map,hs];rfl));unfold df at a1;have Hs:=Qa (show l.take (k+1)=l.take k ++ [s] by rw[List.take_add_one,hs];rfl);have a4:(l.take k).length=k:=by rw[List.length_take];omega
   have a5:=Qa a4;clear hs a4 a6;go_wp2_with (at_builtin;refine lH jv (by have:=Ho.out.below (ac wr (.cells #[.int .i64 (s:Int)] 3)) (Za _);unfold bQ at this;rw[a5.out] at this;exact this) (ap wr [df s] 3) (by simp;omega) ?_ (h1:=(by simp[df,Value.oneCell']));intro v' w1 h1 h2 h3;have Hp:=Qa h1;have Hg:=Qa h2;clear h1 h2 h3);have a3:Below w.heap.size w (wr.alloc (.cells #[.int .i64 (s:Int)] 3)):=Hb.out.alloc a7 _;exact⟨⟨k+1,by omega,by go_num,bw a3 (Ho.out.below (ac wr (.cells #[.int .i64 (s:Int)] 3)) (Za _)) a3.size Hg.out,by rw[Hs.out];unfold bQ;rw[List.length_append,a5.out,List.map_append];exact Hp.out⟩,by simp[intOf];omega⟩
  ·obtain rfl:k=l.length:=by omega
   go_wp2;go_ret;exact⟨_,rfl,Hb.out,by have:=Ho.out;rwa[List.take_length] at this⟩
theorem yd {a b:ByteArray}:a.toList=b.toList↔a=b:=by
 rw[ByteArray.toList_eq,ByteArray.toList_eq];refine⟨fun h=>?_,fun h=>by rw[h]⟩
 cases a;cases b;simp at h;simp[h]
theorem jh (a b:ByteArray):(a.toList==b.toList)=decide (a=b):=by
 rw[Bool.eq_iff_iff,beq_iff_eq,decide_eq_true_iff];exact yd
def Gc (d:Dc):Value:=.agg #[.bool d.neg,.string d.digits,.int .i64 d.exp]
abbrev es:ByteArray:=⟨#[]⟩
def kj (w:World)(x:Nd)(e:Ending)(w':World):Prop:= ∃v,e =.returned v/\Below w.heap.size w w'/\bF (w.heap.size<= ·) w' w.heap.size v [x]
theorem kL {x:Nd}(hg:w.heap[g]?=some (.cells cs 69 (0,0)))(hb:base<=g)(hc:cs.toList=aR x vn vk)(h1:cI w 0 vn x.names)(h2:bQ w 0 vk x.kids)(h3:vn =.slice none 0 0) :
  bF P w base (.slice (some ⟨g,0,none⟩) 1 1) [x]:=by
 subst h3;refine⟨[cs.toList],?_,br.cons ⟨.slice none 0 0,vk,hc,h1,h2⟩ (br.nil _),fun u hu g e=>?_⟩
 ·have hs:cs.size=8:=by rw[<-Array.length_toList,hc];rfl
  simpa using eE (n:=1) (k:=8) hg hb (by unfold maxLen;omega) (by omega)
 ·simp at hu;subst hu;rw[hc] at e;simp[aR,Value.ownBlock] at e
theorem tF (w:World):Calls Tryz.prog 155 #[] w fun e w'=>kj w ⟨1,false,es,⟨false,es,0⟩, [], []⟩ e w':=by
 go_enter Tryz.func155,Tryz.ntmps155;go_wp2;go_ret;exact⟨_,rfl,ac _ _,kL (Ze _ _) (Za _) rfl (cI.nil _ _) (bQ.nil _ _) rfl⟩
theorem sZ (b:Bool)(w:World):Calls Tryz.prog 156 #[.bool b] w fun e w'=>kj w ⟨2,b,es,⟨false,es,0⟩, [], []⟩ e w':=by
 go_enter Tryz.func156,Tryz.ntmps156;go_wp2;go_ret;exact⟨_,rfl,ac _ _,kL (Ze _ _) (Za _) rfl (cI.nil _ _) (bQ.nil _ _) rfl⟩
theorem ub (s:ByteArray)(w:World):Calls Tryz.prog 154 #[.string s] w fun e w'=>kj w ⟨4,false,s,⟨false,es,0⟩, [], []⟩ e w':=by
 go_enter Tryz.func154,Tryz.ntmps154;go_wp2;go_ret;exact⟨_,rfl,ac _ _,kL (Ze _ _) (Za _) rfl (cI.nil _ _) (bQ.nil _ _) rfl⟩
theorem o5 (d:Dc)(w:World):Calls Tryz.prog 153 #[Gc d] w (kj w ⟨3,false,es,d, [], []⟩):=by
 obtain⟨a,b,c⟩:=d;unfold Gc;go_enter Tryz.func153,Tryz.ntmps153;go_wp2;go_ret;exact⟨_,rfl,((Zd _ _).alloc (Za _) _).alloc (by simp) _,kL (cs:= #[.int .i64 3,.bool false,.string es,.bool a,.string b,.int .i64 c,.slice none 0 0,.slice none 0 0]) (by have:=Ze (w.alloc (.cells #[.bool a,.string b,.int .i64 c] 66)) (.cells #[.int .i64 3,.bool false,.string es,.bool a,.string b,.int .i64 c,.slice none 0 0,.slice none 0 0] 69);rw[World.size_alloc] at this;exact this) (by omega) rfl (cI.nil _ _) (bQ.nil _ _) rfl⟩
def ii (w:World)(v:Value)(fs:List (List Nd)):Prop:= ∃vs:List Value,Sl w v vs/\br (fun v ns=>dA w 0 v ns) vs fs
theorem ii.below {fs:List (List Nd)}(h:ii w v fs)(hb:Below w.heap.size w w'):ii w' v fs:=by
 obtain⟨vs,h1,h2⟩:=h;exact⟨vs,h1.below hb,h2.mono fun _ _ h=>h.below hb (Za _)⟩
def xI (vk:Value)(us:List (List Value)):Prop:= ∀u∈us,∀g,(u.getD 7 undef).ownBlock=some g->vk.ownBlock≠some g
def ft (W:World)(base:Nat)(v:Value)(x:Nd)(rest:List Nd):Prop:=
 ∃vn vk us,W.ownsRow base 69 8 v (1+rest.length) (aR x vn vk++us.flatten)/\cI W 0 vn x.names/\bQ W base vk x.kids/\br (gE W) us rest/\xI vk us/\nr (base<= ·) (aR x vn vk::us)
theorem ft.flat {x:Nd}{rest:List Nd}(h:ft W base v x rest):bF (base<= ·) W base v (x::rest):=by
 obtain⟨vn,vk,us,h1,h2,h3,h4,_,h6⟩:=h;exact⟨aR x vn vk::us,by rw[List.length_cons,Nat.add_comm];exact h1,br.cons ⟨vn,vk,rfl,h2,h3.low (Zj _)⟩ h4,h6⟩
theorem ft.below {x:Nd}{rest:List Nd}(h:ft W base v x rest)(hb:Below W.heap.size W W'):ft W' base v x rest:=by
 obtain⟨vn,vk,us,h1,h2,h3,h4,h5,h6⟩:=h;exact⟨vn,vk,us,ao h1 hb (Za _),h2.below hb (Za _),h3.below hb (Za _),h4.mono fun _ _ h=>h.below hb (Za _),h5,h6⟩
theorem iO {row:Option Nat}(hg:W.grownBy W' row)(hr:∀g,row=some g->nD W g 69){u:List Value}{x:Nd}(h:gE W u x):gE W' u x:=
 h.keeps (T:=fun t=>t=69) (aG.of_grown hg (fun g e cs t z hh=>by obtain⟨cs',z',h'⟩:=hr g e;rw[h'] at hh;injection hh with hh;injection hh with _ hh;exact hh.symm)) (by decide) (by decide)
theorem ny {row:Option Nat}(hg:W.grownBy W' row)(hr:∀g,row=some g->nD W g 69){l:List ByteArray}(h:cI W b v l):cI W' b v l:=
 al (T:=fun t=>t=69) h (aG.of_grown hg (fun g e cs t z hh=>by obtain⟨cs',z',h'⟩:=hr g e;rw[h'] at hh;injection hh with hh;injection hh with _ hh;exact hh.symm)) (by decide)
theorem m8 {row:Option Nat}(hg:W.grownBy W' row)(hr:∀g,row=some g->nD W g 69){l:List Nat}(h:bQ W b v l):bQ W' b v l:=
 al (T:=fun t=>t=69) h (aG.of_grown hg (fun g e cs t z hh=>by obtain⟨cs',z',h'⟩:=hr g e;rw[h'] at hh;injection hh with hh;injection hh with _ hh;exact hh.symm)) (by decide)
theorem cD (h:W.ownsRow base e k v n us):∀g,v.ownBlock=some g->nD W g e:=fun g hg=>by
 obtain⟨_,cur,hh⟩:=ak h hg;exact⟨cur,_,hh⟩
theorem ft.snoc {vn':Value}{x y:Nd}{rest:List Nd}{us:List (List Value)}(h1:W.ownsRow base 69 8 v m (aR x vn vk++us.flatten))(h2:cI W 0 vn x.names)(h3:bQ W base vk x.kids)
  (h4:br (gE W) us rest) (h5:xI vk us) (hN:nr (base<= ·) (aR x vn vk::us)) (a0:∀g,vn'.ownBlock=some g->base<=g) (hm:m=1+rest.length) (hy:gE W (aR y vn' vk') y) (hk:∀g,vk'.ownBlock=some g->vk.ownBlock≠some g)
  (h6:W'.ownsRow base 69 8 v' (m+1) ((aR x vn vk++us.flatten)++aR y vn' vk')) (hg:W.grownBy W' v.ownBlock):ft W' base v' x (rest ++ [y]):=by
 subst hm;have ht:=cD h1;refine⟨vn,vk,us ++ [aR y vn' vk'],?_,ny hg ht h2,m8 hg ht h3,(h4.mono fun _ _ h=>iO hg ht h).snoc (iO hg ht hy),fun u hu g e=>?_,fun u hu g e=>?_⟩
 ·rw[List.length_append,List.flatten_append];simpa [Nat.add_assoc] using h6
 ·rcases List.mem_append.1 hu with hu|hu
  ·exact h5 u hu g e
  ·rw[List.mem_singleton] at hu;subst hu;exact hk g e
 ·rcases List.mem_cons.1 hu with hu|hu
  ·exact hN u (by simp[hu]) g e
  ·rcases List.mem_append.1 hu with hu|hu
   ·exact hN u (Zl _ hu) g e
   ·rw[List.mem_singleton] at hu;subst hu;exact a0 g (by simpa [aR] using e)
theorem xB {g7:Nat}{x:Nd}{rest:List Nd}{us:List (List Value)}(h1:W.ownsRow base 69 8 (.slice (some ⟨g7,0,none⟩) n cap) n (aR x vn vk++us.flatten))(h2:cI W 0 vn x.names)
  (h4:br (gE W) us rest) (h5:xI vk us) (hN:nr (base<= ·) (aR x vn vk::us)) (hn:n=1+rest.length) (h6:bQ W2 base vk' (x.kids ++ [m])) (hg:W.grownBy W2 vk.ownBlock) (hk:vk'.ownBlock=vk.ownBlock\/vk'.ownBlock=some W.heap.size)
  (hv:∀g,vk.ownBlock=some g->nD W g 3) :
  ft (W2.setCell ⟨g7,7,none⟩ vk') base (.slice (some ⟨g7,0,none⟩) n cap) {x with kids:=x.kids ++ [m]} rest:=by
 have hr:W2.ownsRow base 69 8 (.slice (some ⟨g7,0,none⟩) n cap) n (aR x vn vk++us.flatten):=al (T:=fun t=>t=3) h1 (aG.of_grown hg (fun g e cs t z hh=>by obtain⟨cs',z',h'⟩:=hv g e;rw[h'] at hh;injection hh with hh;injection hh with _ hh;exact hh.symm)) (by decide);obtain⟨a5,a1⟩:=World.ownsRow.stored hr 7 vk';have ht:∀g,some g7=some g->nD W2 g 69:=fun g e=>by injection e with e;subst e;exact cD hr _ rfl
 have a0:cI W2 0 vn x.names:=al (T:=fun t=>t=3) h2 (aG.of_grown hg (fun g e cs t z hh=>by obtain⟨cs',z',h'⟩:=hv g e;rw[h'] at hh;injection hh with hh;injection hh with _ hh;exact hh.symm)) (by decide);have a4:∀u∈us,∀g,(u.getD 7 undef).ownBlock=some g->g<W.heap.size:=fun u hu g e=>by
  obtain⟨i,hi,rfl⟩:=List.getElem_of_mem hu;obtain⟨vn2,vk2,e2,_,a3⟩:=h4.2 i us[i] (rest[i]'(by rw[<-h4.1];exact hi)) (Zc hi) (Zc _);rw[e2] at e;exact(World.ownsRow.lt a3 g (by simpa [aR] using e)).2
 have a2:br (gE W2) us rest:=⟨h4.1,fun i u y hu hy=>by
  obtain⟨vn2,vk2,e2,a1,a3⟩:=h4.2 i u y hu hy;refine⟨vn2,vk2,e2,al (T:=fun t=>t=3) a1 (aG.of_grown hg (fun g e cs t z hh=>by obtain⟨cs',z',h'⟩:=hv g e;rw[h'] at hh;injection hh with hh;injection hh with _ hh;exact hh.symm)) (by decide),World.ownsRow.kept a3 hg ?_⟩
  cases hb:vk2.ownBlock with
  |none=>exact .inl rfl
  |some g=>exact .inr (fun e=>h5 u (Zk hu) g (by rw[e2];simpa [aR] using hb) e.symm)⟩
 refine⟨vn,vk',us,?_,ny a1 ht a0,m8 a1 ht h6,a2.mono fun _ _ h=>iO a1 ht h,fun u hu g e=>?_,fun u hu g e=>?_⟩
 ·rw[<-hn];have e:(aR x vn vk++us.flatten).set 7 vk'=aR {x with kids:=x.kids ++ [m]} vn vk'++us.flatten:=rfl;rw[<-e];exact a5
 ·rcases hk with hk|hk
  ·rw[hk];exact h5 u hu g e
  ·rw[hk];have:=a4 u hu g e;intro e';injection e' with e';omega
 ·rcases List.mem_cons.1 hu with hu|hu
  ·exact hN (aR x vn vk) (by simp) g (by rw[hu] at e;simpa [aR] using e)
  ·exact hN u (Zl _ hu) g e
