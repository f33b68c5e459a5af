import Derived.Test.YtibmppoeeppnoaaGreatDoorGZ4ar
set_option linter.unusedVariables false
set_option linter.unusedSimpArgs false
set_option maxHeartbeats 64000000
set_option maxRecDepth 100000
namespace Go.Proofs.YtibmppoeeppnoaaGreatDoor
open Go.RowKit
variable {t':Bool}{s x':ByteArray}{n':Dc}{j:JV}{ns ns':List ByteArray}{y:List Int}{ks ks':List JV}{xs ys zs:List UInt8}{a base g i n p:Nat}{P:Nat->Prop}{v v' vk vn:Value}{W W' w:World}
theorem pJ:∀ (l:List JV) (p q:Nat),q∈aP p l->p<=q/\q<p+JV.sizes l
 | [],p,q,h=>by simp[aP] at h
 |v::vs,p,q,h=>by
  simp only[aP,List.mem_cons] at h;simp only[JV.sizes];have:=v.size_pos;rcases h with rfl|h
  ·omega
  ·have:=pJ vs (p+v.size) q h;omega
theorem Ei (v:JV):∀p,∀x∈v.flat p,∀q∈x.kids,p<q/\q<p+v.size:=by
 refine JV.ind (P:=fun v=> ∀p,∀x∈v.flat p,∀q∈x.kids,p<q/\q<p+v.size) (fun k t x n ns ks ih p y hy q hq=>?_) v;simp only[JV.flat,List.mem_cons] at hy;simp only[JV.size];rcases hy with rfl|hy
 ·have:=pJ ks (p+1) q hq;omega
 ·suffices ∀ (l:List JV) p,(∀u∈l,∀p,∀x∈u.flat p,∀q∈x.kids,p<q/\q<p+u.size)->y∈JV.flats p l->p<q/\q<p+JV.sizes l by
   have:=this ks (p+1) ih hy;omega
  intro l
  induction l with
  |nil=>intro p _ h;simp[JV.flats] at h
  |cons v vs ih2=>
   intro p hu h;simp only[JV.flats,List.mem_append] at h;simp only[JV.sizes];rcases h with h|h
   ·have:=hu v (by simp) p y h q hq;omega
   ·have:=ih2 (p+v.size) (fun u hm=>hu u (Zl _ hm)) h;omega
def im (w:World)(base g n:Nat)(xs:List Value):Prop:=w.ownsRow base 3 1 (.slice (some ⟨g,0,none⟩) n n) n xs/\∀x∈xs,∃i:Int,x =.int .i64 i
theorem im.get {xs:List Value}(h:im w base g n xs)(hi:i<n):∃x:Int,w.cell? ⟨g,i,none⟩=some (.int .i64 x):=by
 have hl:xs.length=n:=by have:=h.1.1;simpa using this
 obtain⟨x,hx⟩:=h.2 xs[i] (List.getElem_mem _);exact⟨x,by rw[aD h.1 rfl i (by omega),Zc (by omega),hx]⟩
theorem im.set {xs:List Value}(h:im w base g n xs)(i:Nat)(x:Int):im (w.setCell ⟨g,i,none⟩ (.int .i64 x)) base g n (xs.set i (.int .i64 x)):=by
 refine⟨(World.ownsRow.stored h.1 i _).1,fun y hy=>?_⟩;rcases List.mem_or_eq_of_mem_set hy with hy|rfl
 ·exact h.2 y hy
 ·exact⟨x,rfl⟩
def Ft (w:World)(g n:Nat)(s4 s5:Value)(wr:World):Prop:= ∃ (i:Nat) (m:Int) (xs:List Value),i<=n/\s4 =.int .i64 m/\s5 =.int .i64 i/\im wr w.heap.size g n xs/\Below w.heap.size w wr
def DJ (w:World)(g n m:Nat)(s6:Value)(wr:World):Prop:= ∃ (k:Nat) (xs:List Value),k<=m/\s6 =.int .i64 k/\im wr w.heap.size g n xs/\Below w.heap.size w wr
def CA (w:World)(e:Ending)(w':World):Prop:= ∃m:Int,e =.returned (.int .i64 m)/\Below w.heap.size w w'
theorem ni (hf:dA w 0 v (j.flat 0))(c1:j.size<=1000000):Calls Tryz.prog 7 #[v] w (CA w):=by
 obtain⟨A,cap,rfl,a4,hm,hA⟩:=hf.form;have hn:=j.size_pos;obtain⟨gt,rfl⟩:=hA (by rw[JV.flat_len];omega);have Hf:=Qa hf;rw[JV.flat_len] at a4 hm Hf ⊢;obtain⟨i0,hi,b2,a6,b1⟩:=info_parts jv.hi;have b8:∀W:World,(Instr.makeSlice 23 (.int .i64 (j.size:Int)) (.int .i64 (j.size:Int))).run Tryz.prog W =.ok (.slice (some ⟨W.heap.size,0,none⟩) j.size j.size) (W.alloc (.cells (madeCells #[.int .i64 0] j.size) 3)):=fun W=>by
  have:=run_make (P:=Tryz.prog) W 23 3 i0 (.int .i64 0) jv.ht hi b2 .i64 .i64 j.size j.size (by omega) (by omega) (by rw[b1];omega) (by omega);rw[a6] at this;simpa [Value.cells] using this
 have a1:im (w.alloc (.cells (madeCells #[.int .i64 0] j.size) 3)) w.heap.size w.heap.size j.size (List.replicate j.size (.int .i64 0)):=by
  refine⟨?_,fun x hx=>⟨0,(List.mem_replicate.1 hx).2⟩⟩;have:=eE (n:=j.size) (k:=1) (Ze w (.cells (madeCells #[.int .i64 0] j.size) 3)) (Za w.heap.size) hm (by simp[madeCells])
  rwa[toList_madeCells_one] at this
 have a2:im (w.alloc (.cells ((madeCells #[.int .i64 0] j.size).setIfInBounds 0 (.int .i64 1)) 3)) w.heap.size w.heap.size j.size ((List.replicate j.size (.int .i64 0)).set 0 (.int .i64 1)):=by
  refine⟨?_,fun x hx=>?_⟩
  ·have:=eE (n:=j.size) (k:=1) (Ze w (.cells ((madeCells #[.int .i64 0] j.size).setIfInBounds 0 (.int .i64 1)) 3)) (Za w.heap.size) hm (by simp[madeCells])
   rwa[Array.toList_setIfInBounds,toList_madeCells_one] at this
  ·rcases List.mem_or_eq_of_mem_set hx with hx|rfl
   ·exact⟨0,(List.mem_replicate.1 hx).2⟩
   ·exact⟨1,rfl⟩
 have Hrow:=Qa a2;have Hb0:=Qa (ac w (.cells ((madeCells #[.int .i64 0] j.size).setIfInBounds 0 (.int .i64 1)) 3));obtain⟨z0,c0⟩:=a1.get (i:=0) (by omega);have f0:=World.ownsRow.frozenAt a1.1 0;have b9:((j.size:Int)==0)=false:=beq_eq_false_iff_ne.2 (by omega);have c4:0<j.size:=hn;unfold maxLen at hm;clear a1 a2 hf hA hi b2 a6 b1;go_enter Tryz.func7,Tryz.ntmps7;go_wp2_with fail
 go_loopw [4,5,6] (fun s4 s5 _ wr=>Ft w w.heap.size j.size s4 s5 wr) (fun _ v _ _=>j.size - (intOf v).toNat)
 case atStart=>exact⟨0,1,_,Zj _,rfl,rfl,Hrow.out,Hb0.out⟩
 case round=>
  obtain⟨i,m,xs,hi,rfl,rfl,hr,hb⟩:=hrel;have Hr:=Qa hr;have Hb:=Qa hb;clear hr hb
  by_cases hlt:i<j.size
  ·obtain⟨x,hx⟩:∃x,(j.flat 0)[i]?=some x:=⟨_,Zc (by rw[JV.flat_len];exact hlt)⟩;obtain⟨di,ci⟩:=Hr.out.get hlt;have b5:(i:Int)<j.size:=by omega
   have a5:=Ei j 0 x (Zk hx);have hkl:=yF (Zk hx);have Hx:=Qa hx;have b3:=Qa a5;clear hx a5 c0 f0;obtain⟨wo,rfl⟩:∃wo:World,wo=wr:=⟨_,rfl⟩;go_upto_region 9 with fail
   go_cut [4] (fun s4 wx=>(∃m':Int,s4 =.int .i64 m')/\wo=wx)
   case first=>
    go_wp2_with fail
    all_goals
     go_meet
     case rel=>exact⟨⟨_,rfl⟩,rfl⟩
   case rest=>
    obtain⟨⟨m',rfl⟩,rfl⟩:=hcut;go_wp2_with fail
    go_loopw [6] (fun s6 wx=>DJ w w.heap.size j.size x.kids.length s6 wx) (fun v _=>x.kids.length - (intOf v).toNat)
    case atStart=>exact⟨0,_,Zj _,rfl,Hr.out,Hb.out⟩
    case round=>
     obtain⟨k,ys,hk,rfl,b0,hby⟩:=hrel;obtain⟨vn,vk,h1,h2,h3⟩:=(Hf.out.below hby (Za _)).node Hx.out;obtain⟨Ak,ck,rfl,c3,b4,a7⟩:=ag h2;have c7:=h3 7 _ rfl;have a3:=Qa b0;have a9:=Qa hby;have H2:=Qa h2;have b6:=Qa a7;clear h1 h2 h3 b0 hby a7 ci
     by_cases hkt:k<x.kids.length
     ·obtain⟨gk,rfl⟩:=b6.out (by omega);obtain⟨z,hz⟩:∃z,x.kids[k]?=some z:=⟨_,Zc hkt⟩;have cz:=aD H2.out rfl k (by omega);rw[List.getElem?_map,hz] at cz;simp only[Option.map_some,df] at cz;have hzb:=b3.out z (Zk hz);obtain⟨dz,czz⟩:=a3.out.get (i:=z) (by omega);obtain⟨dw,cw⟩:=a3.out.get hlt;have fz:=World.ownsRow.frozenAt a3.out.1 z;have c2:(k:Int)<x.kids.length:=by omega
      have c5:(z:Int)<j.size:=by omega
      have b7:z<j.size:=by omega
      go_wp2_with fail;refine cP (fun w'=>w'.cell? ⟨gt,i*8+7,none⟩=some (.slice (some ⟨gk,0,none⟩) x.kids.length ck)/\w'.cell? ⟨gk,k,none⟩=some (.int .i64 z)/\w'.cell? ⟨w.heap.size,i,none⟩=some (.int .i64 dw)) 15 (⟨c7,cz,cw⟩) fun a0=>?_
      refine tZ 0 a0 ?_;refine tZ 1 a0 ?_;refine tZ 2 a0 ?_;refine tZ 3 a0 ?_;refine tZ 4 a0 ?_;refine tZ 5 a0 ?_
      try simp only[Act.put,jP,jQ,jR]
      refine tZ 6 a0 ?_;refine tZ 7 a0 ?_;refine tZ 8 a0 ?_;refine tZ 9 a0 ?_;refine tZ 10 a0 ?_;refine tZ 11 a0 ?_
      try simp only[Act.put,jP,jQ,jR]
      refine tZ 12 a0 ?_;refine tZ 13 a0 ?_;refine tZ 14 a0 ?_
      try simp only[Act.put,jP,jQ,jR]
      refine rZ 15 fun K hK=>?_
      go_simp;refine hK.out _ _ (fun h=>absurd rfl h) (fun _=>?_);clear hK K
      try simp only[Act.put,jP,jQ,jR]
      refine aV (by kernel_rfl) (NoPanic.normal ?_) _;have hs:=a3.out.set z (wrap64 (dw+1));go_wp2_with fail;exact⟨⟨k+1,_,by omega,by go_num,hs,a9.out.drew.setCell (p:=⟨w.heap.size,z,none⟩) (Za _) _⟩,by simp[intOf];omega⟩
     ·obtain rfl:k=x.kids.length:=by omega
      go_wp2_with fail;exact⟨⟨i+1,_,_,by omega,rfl,by go_num,a3.out,a9.out⟩,by simp[intOf];omega⟩
  ·obtain rfl:i=j.size:=by omega
   go_wp2_with fail;go_ret;exact⟨_,rfl,Hb.out⟩
def FG (w:World)(j u:JV)(a:Nat)(s1:Value)(wr:World):Prop:= ∃ (b:Nat) (x:JV),s1 =.int .i64 b/\eo j 0 b x/\b+x.size=a+u.size/\Below w.heap.size w wr
def Gk (w:World)(n:Nat)(e:Ending)(w':World):Prop:=e =.returned (.int .i64 n)/\Below w.heap.size w w'
theorem AD {u:JV}(hf:dA w 0 v (j.flat 0))(hs:eo j 0 a u)(b4:j.size<=1000000):Calls Tryz.prog 39 #[v,.int .i64 (a:Int)] w (Gk w (a+u.size)):=by
 obtain⟨A,cap,rfl,a2,hm,hA⟩:=hf.form;have hn:=j.size_pos;obtain⟨gt,rfl⟩:=hA (by rw[JV.flat_len];omega);have Hf:=Qa hf;rw[JV.flat_len] at a2 hm Hf ⊢;have Hs:=Qa hs;unfold maxLen at hm;clear hf hA hs;go_enter Tryz.func39,Tryz.ntmps39;go_wp2_with fail
 go_loopw [1] (fun s1 wr=>FG w j u a s1 wr) (fun v _=>j.size - (intOf v).toNat)
 case atStart=>exact⟨a,u,rfl,Hs.out,rfl,Zd _ _⟩
 case round=>
  obtain⟨b,x,rfl,hx,he,hb⟩:=hrel;have Hb:=Qa hb;obtain⟨xk,xt,xx,xn,xns,xks⟩:=x;have a9:=hx.bd;have a0:=hx.node;have b3:1<=(JV.mk xk xt xx xn xns xks).size:=JV.size_pos _;rw[Nat.sub_zero] at a0;have b5:b<j.size:=by omega
  obtain⟨vn,vk,h1,h2,h3⟩:=(Hf.out.below hb (Za _)).node a0;obtain⟨Ak,ck,rfl,a6,a7,a3⟩:=ag h2;have c7:=h3 7 _ rfl;unfold bQ at h2;simp only[bj] at c7 a6 a7 a3 h2;have H2:=Qa h2;have Hx:=Qa hx;have He:=Qa he;have b0:=Qa a3;have b6:(b:Int)<j.size:=by omega
  clear h1 h2 h3 a3 a0 hx he hb
  by_cases h0:0<xks.length
  ·obtain⟨gk,rfl⟩:=b0.out h0;have hne:xks≠ []:=by intro e;subst e;simp at h0
   obtain⟨pre,qB,rfl⟩:∃pre qB,xks=pre ++ [qB]:=⟨_,_,(List.dropLast_concat_getLast hne).symm⟩;have a1:(aP (b+1) (pre ++ [qB]))[pre.length]?=some (b+1+JV.sizes pre):=by
    rw[cZ,List.getElem?_append_right (by rw[bj];exact Za _)];simp[aP,bj]
   have hlen:(pre ++ [qB]).length=pre.length+1:=by simp
   rw[hlen] at c7 a6 a7 H2;have cz:=aD H2.out rfl pre.length (by omega);rw[List.getElem?_map,a1] at cz;simp only[Option.map_some,df] at cz;have Hk:=Qa (eo.kid (post:= []) Hx.out);have b1:=Qa (show(b+1+JV.sizes pre)+qB.size=a+u.size by have:=He.out;simp only[JV.size,cM,JV.sizes] at this;omega);have hq:pre.length<pre.length+1:=by omega
   have b2:pre.length<=1000000:=by have:=bP pre;have:=He.out;simp only[JV.size,cM,JV.sizes] at a9;omega
   have w1:IntKind.i64.wrap ((pre.length:Int)+1 - 1)=pre.length:=by rw[IntWalk.i64_in _ (by omega)];omega
   have w2:IntKind.i64.wrap (pre.length:Int)=pre.length:=IntWalk.i64_in _ (by omega);have w3:(((pre.length+1:Nat):Int))= (pre.length:Int)+1:=by omega
   clear a1 hlen h0 hne;go_wp2_with fail;go_quiet (fail);go_wp2_with fail;exact⟨⟨_,qB,rfl,Hk.out,b1.out,av Hb.out _⟩,by have:=Hk.out.bd;have:=qB.size_pos;simp[intOf];omega⟩
  ·have a5:xks.length=0:=by omega
   obtain rfl:xks = []:=List.eq_nil_of_length_eq_zero a5;have a4:=Qa (show b+1=a+u.size by have:=He.out;simp only[JV.size,JV.sizes] at this;omega);clear h0 a5 a9;go_wp2_with fail;go_ret;exact⟨by rw[<-a4.out];exact yN (by omega),Hb.out⟩
theorem bF.snoc {ns:List Nd}{us:List (List Value)}{y:Nd}(h1:W.ownsRow base 69 8 v n us.flatten)(hn:n=ns.length)(h2:br (gE W) us ns)(h3:nr P us)(hy:gE W (aR y vn vk) y)(hv:∀g,vn.ownBlock=some g->P g)
  (h4:W'.ownsRow base 69 8 v' (n+1) (us.flatten++aR y vn vk)) (hg:W.grownBy W' v.ownBlock):bF P W' base v' (ns ++ [y]):=by
 subst hn;have ht:=cD h1;refine⟨us ++ [aR y vn vk],by rw[List.length_append,List.flatten_append];simpa using h4,(h2.mono fun _ _ h=>iO hg ht h).snoc (iO hg ht hy),fun u hu g e=>?_⟩;rcases List.mem_append.1 hu with hu|hu
 ·exact h3 u hu g e
 ·rw[List.mem_singleton] at hu;subst hu;exact hv g (by simpa [aR] using e)
inductive Ok (h:Prop) (T:ByteArray->Prop):JV->Prop
 |null:Ok h T (.mk 1 false es lL [] [])
 |bool (b:Bool):Ok h T (.mk 2 b es lL [] [])
 |num (d:Dc):d.digits.size<=6000+1->wT d->Ok h T (.mk 3 false es d [] [])
 |text (s:ByteArray):T s->Ok h T (.mk 4 false s lL [] [])
 |hole:h->Ok h T (.mk 7 false es lL [] [])
 |list (ks:List JV):(∀u∈ks,Ok h T u)->Ok h T (.mk 5 false es lL [] ks)
 |obj (ns:List ByteArray) (ks:List JV):ns.length=ks.length->(∀s∈ns,iT s)->dU ns->(∀u∈ks,Ok h T u)->Ok h T (.mk 6 false es lL ns ks)
theorem Ok.of_good {h:Prop}{T:ByteArray->Prop}(hT:∀s,iT s->T s)(g:bR dU j):Ok h T j:=by
 induction g with
 |null=>exact .null
 |bool b=>exact .bool b
 |num d hd hn=>exact .num d hd hn
 |text s hs=>exact .text s (hT s hs)
 |list ks _ ih=>exact .list ks ih
 |obj ns ks h1 h2 h3 _ ih=>exact .obj ns ks h1 h2 h3 ih
theorem Ok.put {h:Prop}{T:ByteArray->Prop}{u v:JV}{w v':JV}(hp:Df u v p a w v')(hv:Ok h T v)(hu:Ok h T u):Ok h T v':=by
 induction hp with
 |here v p=>exact hu
 | @down k t x n ns pre post u0 u1 p a w hp ih=>
  have hk:∀ {l:List JV},(∀z∈pre++u0::post,Ok h T z)->∀z∈pre++u1::post,Ok h T z:=fun hz z hm=>by
   rcases List.mem_append.1 hm with hm|hm
   ·exact hz z (by simp[hm])
   ·rcases List.mem_cons.1 hm with rfl|hm
    ·exact ih (hz u0 (by simp))
    ·exact hz z (by simp[hm])
  generalize hl:pre++u0::post=l at hv
  cases hv with
  |null=>simp at hl
  |bool b=>simp at hl
  |num d hd hn=>simp at hl
  |text s hs=>simp at hl
  |hole e=>simp at hl
  |list ks hks=>subst hl;exact .list _ (hk (l:= []) hks)
  |obj ns' ks h1 h2 h3 hks=>subst hl;exact .obj _ _ (by simpa using h1) h2 h3 (hk (l:= []) hks)
def iV (p:Int):Value:=.int .i64 p
def EK (x y:List Int):Prop:= ∃p a b s t,x=p++a::s/\y=p++b::t/\a≠b
def Pf (x y:List Int):Prop:=x=y\/EK x y
theorem EK.app {x:List Int}(h:EK x y)(s t:List Int):EK (x++s) (y++t):=by
 obtain⟨p,a,b,u,v,rfl,rfl,hne⟩:=h;exact⟨p,a,b,u++s,v++t,by simp,by simp,hne⟩
theorem EK.pre {x:List Int}(h:EK x y)(q:List Int):EK (q++x) (q++y):=by
 obtain⟨p,a,b,u,v,rfl,rfl,hne⟩:=h;exact⟨q++p,a,b,u,v,by simp,by simp,hne⟩
theorem Pf.app {x s t:List Int}(h:Pf x y)(h2:Pf s t):Pf (x++s) (y++t):=by
 rcases h with rfl|h
 ·rcases h2 with rfl|h2
  ·exact .inl rfl
  ·exact .inr (h2.pre _)
 ·exact .inr (h.app _ _)
theorem Pf.head {a b:Int}{s t:List Int}(h:a=b->Pf s t):Pf (a::s) (b::t):=by
 by_cases e:a=b
 ·subst e;exact Pf.app (x:= [a]) (y:= [a]) (.inl rfl) (h rfl)
 ·exact .inr ⟨[],a,b,s,t,rfl,rfl,e⟩
theorem bi (a b:Int)(x y:List Int):aw (a::x) (b::y)=if a<b then -1 else if b<a then 1 else aw x y:=by
 conv=>lhs;unfold aw
theorem nu (q x y:List Int):aw (q++x) (q++y)=aw x y:=by
 induction q with
 |nil=>rfl
 |cons a q ih=>show aw (a:: (q++x)) (a:: (q++y))=_;rw[bi,if_neg (by omega),if_neg (by omega),ih]
theorem sJ {x:List Int}(h:EK x y)(s t:List Int):aw (x++s) (y++t)=aw x y/\aw x y≠0:=by
 obtain⟨p,a,b,u,v,rfl,rfl,hne⟩:=h;rw[List.append_assoc,List.append_assoc,nu,nu];simp only[List.cons_append,bi]
 by_cases h1:a<b
 ·simp[h1]
 ·have h2:b<a:=by omega
  simp[h1,h2]
theorem ou {x:List Int}(h:Pf x y)(s t:List Int):aw (x++s) (y++t)=if aw x y=0 then aw s t else aw x y:=by
 rcases h with rfl|h
 ·rw[nu,gH,if_pos rfl]
 ·obtain⟨h1,h2⟩:=sJ h s t;rw[h1,if_neg h2]
theorem xa:∀ {x y:List Int},(∀c∈x,0<=c)->(∀c∈y,0<=c)->Pf (x ++ [-1]) (y ++ [-1])/\aw (x ++ [-1]) (y ++ [-1])=aw x y
 | [], [],_,_=>⟨.inl rfl,rfl⟩
 | [],b::y,_,hy=>by
  have:=hy b (by simp);refine⟨Pf.head fun e=>by omega,?_⟩
  show aw (-1:: []) (b:: (y ++ [-1])) = -1
  rw[bi,if_pos (by omega)]
 |a::x, [],hx,_=>by
  have:=hx a (by simp);refine⟨Pf.head fun e=>by omega,?_⟩
  show aw (a:: (x ++ [-1])) (-1:: [])=1
  rw[bi,if_neg (by omega),if_pos (by omega)]
 |a::x,b::y,hx,hy=>by
  have ih:=xa (x:=x) (y:=y) (fun c h=>hx c (Zl _ h)) (fun c h=>hy c (Zl _ h));refine⟨Pf.head fun _=>ih.1,?_⟩
  show aw (a:: (x ++ [-1])) (b:: (y ++ [-1]))=aw (a::x) (b::y)
  rw[bi,bi,ih.2]
theorem jS:∀ (f:Nat) (xs:List UInt8),∀c∈eS fJ f xs,0<=c
 |0,_,c,h=>by simp[eS] at h
 |_+1, [],c,h=>by simp[eS] at h
 |f+1,x::t,c,h=>by
  unfold eS at h
  split at h
  ·rcases List.mem_cons.1 h with rfl|h
   ·exact Int.natCast_nonneg _
   ·exact jS f _ c h
  ·rcases List.mem_cons.1 h with rfl|h
   ·unfold fJ;omega
   ·exact jS f _ c h
theorem qx (s:ByteArray):∀c∈nm s,0<=c:=jS _ _
def oM (s:ByteArray):List Int:=nm s ++ [-1]
theorem mJ (s t:ByteArray):Pf (oM s) (oM t):=(xa (qx s) (qx t)).1
theorem uI (s t:ByteArray):aw (oM s) (oM t)=aw (nm s) (nm t):=(xa (qx s) (qx t)).2
theorem uQ {t:ByteArray}(h:oM s=oM t):s=t:=AE (List.append_cancel_right h)
def ke (d:Dc):Int:=if d.digits= ⟨#[48]⟩ then 0 else if d.neg then -1 else 1
def kF (s:Int):List UInt8->List Int
 | []=> [0]
 |c::l=>s* (c.toNat+1)::kF s l
def fM (d:Dc):List Int:=if ke d=0 then [0] else ke d::ke d* (d.digits.size+d.exp)::kF (ke d) d.digits.data.toList
theorem yl {s:Int}(hs:s≠0):∀ (l m:List UInt8),Pf (kF s l) (kF s m)
 | [], []=>.inl rfl
 | [],c::m=>Pf.head fun e=>by
  have:=(Int.mul_eq_zero.1 e.symm).resolve_left hs;omega
 |c::l, []=>Pf.head fun e=>by
  have:=(Int.mul_eq_zero.1 e).resolve_left hs;omega
 |c::l,d::m=>Pf.head fun _=>yl hs l m
theorem uT {s:Int}(hs:s≠0):∀ {l m:List UInt8},kF s l=kF s m->l=m
 | [], [],_=>rfl
 | [],c::m,e=>by
  simp only[kF,List.cons.injEq] at e;have:=(Int.mul_eq_zero.1 e.1.symm).resolve_left hs;omega
 |c::l, [],e=>by
  simp only[kF,List.cons.injEq] at e;have:=(Int.mul_eq_zero.1 e.1).resolve_left hs;omega
 |c::l,d::m,e=>by
  simp only[kF,List.cons.injEq] at e;have h1:=Int.eq_of_mul_eq_mul_left hs e.1;rw[uT hs e.2,show c=d from UInt8.toNat_inj.1 (by omega)]
theorem ji (d:Dc):ke d=0\/ke d = -1\/ke d=1:=by unfold ke;split;exact .inl rfl;split;exact .inr (.inl rfl);exact .inr (.inr rfl)
theorem DB (a b:Dc):Pf (fM a) (fM b):=by
 unfold fM
 by_cases ha:ke a=0
 ·rw[if_pos ha]
  by_cases hb:ke b=0
  ·rw[if_pos hb];exact .inl rfl
  ·rw[if_neg hb];exact Pf.head fun e=>absurd e.symm hb
 ·rw[if_neg ha]
  by_cases hb:ke b=0
  ·rw[if_pos hb];exact Pf.head fun e=>absurd e ha
  ·rw[if_neg hb];exact Pf.head fun e=>Pf.head fun _=>by rw[e];exact yl hb _ _
def p5 (d:Dc):Prop:=d.digits= ⟨#[48]⟩->d= ⟨false,⟨#[48]⟩,0⟩
theorem Cr {a b:Dc}(ha:p5 a)(hb:p5 b)(h:fM a=fM b):a=b:=by
 unfold fM at h
 by_cases h1:ke a=0
 ·rw[if_pos h1] at h
  by_cases h2:ke b=0
  ·have e1:a.digits= ⟨#[48]⟩:=by unfold ke at h1;split at h1;assumption;split at h1 <;> simp at h1
   have e2:b.digits= ⟨#[48]⟩:=by unfold ke at h2;split at h2;assumption;split at h2 <;> simp at h2
   rw[ha e1,hb e2]
  ·rw[if_neg h2] at h;injection h with h;exact absurd h.symm h2
 ·rw[if_neg h1] at h
  by_cases h2:ke b=0
  ·rw[if_pos h2] at h;injection h with h;exact absurd h h1
  ·rw[if_neg h2] at h;injection h with e1 h
   injection h with e2 e3
   rw[e1] at e2 e3;have hd:a.digits=b.digits:=by
    have:=uT h2 e3
    cases ha':a.digits with|mk x=>cases hb':b.digits with|mk y=>rw[ha',hb'] at this;simp at this;rw[this]
   have hx:=Int.eq_of_mul_eq_mul_left h2 e2;have hn:a.neg=b.neg:=by
    unfold ke at e1 h1 h2
    split at h1
    ·exact absurd rfl h1
    ·split at h2
     ·exact absurd rfl h2
     ·rename_i g1 g2
      rw[if_neg g1,if_neg g2] at e1
      revert e1;cases a.neg <;> cases b.neg <;> simp
   obtain⟨an,ad,ax⟩:=a;obtain⟨bn,bd,bx⟩:=b;simp only at hd hn hx;subst hd hn;rw[show ax=bx by omega]
mutual
/-- What stands for a value. -/
def JV.key:JV->List Int
 | .mk k t x n ns ks=>k:: (if k=2 then [if t then 1 else 0] else if k=3 then fM n else if k=4 then oM x else JV.keys (k=6) ns ks)
def JV.keys:Bool->List ByteArray->List JV->List Int
 |_,_, []=> [0]
 |o,ns,v::vs=>1:: ((if o then oM (ns.headD ⟨#[]⟩) else [])++ (JV.key v++JV.keys o ns.tail vs))
end
theorem xe {us:List JV}(h:∀u∈us,∀w:JV,Pf u.key w.key)(o:Bool):∀ (ns ms:List ByteArray) (ws:List JV),Pf (JV.keys o ns us) (JV.keys o ms ws):=by
 induction us with
 |nil=>
  intro ns ms ws
  cases ws with
  |nil=>exact .inl rfl
  |cons w ws=>exact Pf.head fun e=>by omega
 |cons u us ih=>
  intro ns ms ws
  cases ws with
  |nil=>exact Pf.head fun e=>by omega
  |cons w ws=>
   refine Pf.head fun _=>Pf.app ?_ ((h u (by simp) w).app (ih (fun u hu=>h u (Zl _ hu)) ..))
   cases o
   ·exact .inl rfl
   ·exact mJ _ _
theorem vr (u:JV):∀w:JV,Pf u.key w.key:=by
 refine JV.ind (P:=fun u=> ∀w:JV,Pf u.key w.key) (fun k t x n ns ks ih w=>?_) u;obtain⟨k',t',x',n',ns',ks'⟩:=w;unfold JV.key;refine Pf.head fun e=>?_
 subst e
 by_cases h2:k=2
 ·rw[if_pos h2,if_pos h2];exact Pf.head fun _=>.inl rfl
 ·rw[if_neg h2,if_neg h2]
  by_cases h3:k=3
  ·rw[if_pos h3,if_pos h3];exact DB _ _
  ·rw[if_neg h3,if_neg h3]
   by_cases h4:k=4
   ·rw[if_pos h4,if_pos h4];exact mJ _ _
   ·rw[if_neg h4,if_neg h4];exact xe ih _ _ _ _
def d8 (u w:JV):Int:=aw u.key w.key
theorem zB {k k':Int}{t:Bool}{x:ByteArray}{n:Dc}(h:k≠k'):d8 (.mk k t x n ns ks) (.mk k' t' x' n' ns' ks')=if k<k' then -1 else 1:=by
 unfold d8 JV.key;rw[bi]
 by_cases h1:k<k'
 ·rw[if_pos h1,if_pos h1]
 ·rw[if_neg h1,if_neg h1,if_pos (by omega)]
theorem zf (t t':Bool)(x x':ByteArray)(n n':Dc)(ns ns':List ByteArray)(ks ks':List JV):d8 (.mk 2 t x n ns ks) (.mk 2 t' x' n' ns' ks')=if t=t' then 0 else if t then 1 else -1:=by
 unfold d8 JV.key
 cases t <;> cases t' <;> rfl
theorem AC (t t':Bool)(x x':ByteArray)(n n':Dc)(ns ns':List ByteArray)(ks ks':List JV):d8 (.mk 3 t x n ns ks) (.mk 3 t' x' n' ns' ks')=aw (fM n) (fM n'):=by
 unfold d8 JV.key;rw[bi,if_neg (by omega),if_neg (by omega)];simp
theorem Am (t t':Bool)(x x':ByteArray)(n n':Dc)(ns ns':List ByteArray)(ks ks':List JV):d8 (.mk 4 t x n ns ks) (.mk 4 t' x' n' ns' ks')=aw (nm x) (nm x'):=by
 unfold d8 JV.key;rw[bi,if_neg (by omega),if_neg (by omega)];simp[uI]
theorem nN {k:Int}(h2:k≠2)(h3:k≠3)(h4:k≠4)(t t':Bool)(x x':ByteArray)(n n':Dc)(ns ns':List ByteArray)(ks ks':List JV):d8 (.mk k t x n ns ks) (.mk k t' x' n' ns' ks')=aw (JV.keys (k=6) ns ks) (JV.keys (k=6) ns' ks'):=by
 unfold d8 JV.key;rw[bi,if_neg (by omega),if_neg (by omega)];simp[h2,h3,h4]
theorem zi (ns ns':List ByteArray)(u w:JV)(us ws:List JV):aw (JV.keys false ns (u::us)) (JV.keys false ns' (w::ws))=if d8 u w=0 then aw (JV.keys false ns.tail us) (JV.keys false ns'.tail ws) else d8 u w:=by
 conv=>lhs;unfold JV.keys
 rw[bi,if_neg (by omega),if_neg (by omega)];simp only[Bool.false_eq_true,if_false,List.nil_append];exact ou (vr u w) _ _
theorem AJ (a b:ByteArray)(ns ns':List ByteArray)(u w:JV)(us ws:List JV):aw (JV.keys true (a::ns) (u::us)) (JV.keys true (b::ns') (w::ws))=if aw (nm a) (nm b)=0 then(if d8 u w=0 then aw (JV.keys true ns us) (JV.keys true ns' ws) else d8 u w) else aw (nm a) (nm b):=by
 conv=>lhs;unfold JV.keys
 rw[bi,if_neg (by omega),if_neg (by omega)];simp only[if_true,List.headD_cons,List.tail_cons];rw[ou (mJ a b),ou (vr u w),uI];rfl
theorem t7 (o:Bool)(ns ns':List ByteArray)(us ws:List JV)(h:us = []\/ws = []):aw (JV.keys o ns us) (JV.keys o ns' ws)=if us.length<ws.length then -1 else if ws.length<us.length then 1 else 0:=by
 cases us with
 |nil=>
  cases ws with
  |nil=>simp[JV.keys,aw]
  |cons w ws=>simp[JV.keys,aw]
 |cons u us=>
  obtain rfl:ws = []:=by simpa using h
  simp[JV.keys,aw]
inductive Vl:JV->Prop
 |null:Vl (.mk 1 false ⟨#[]⟩ ⟨false,⟨#[]⟩,0⟩ [] [])
 |bool (b:Bool):Vl (.mk 2 b ⟨#[]⟩ ⟨false,⟨#[]⟩,0⟩ [] [])
 |num (d:Dc):p5 d->Vl (.mk 3 false ⟨#[]⟩ d [] [])
 |text (s:ByteArray):Vl (.mk 4 false s ⟨false,⟨#[]⟩,0⟩ [] [])
 |hole:Vl (.mk 7 false ⟨#[]⟩ ⟨false,⟨#[]⟩,0⟩ [] [])
 |list (ks:List JV):(∀u∈ks,Vl u)->Vl (.mk 5 false ⟨#[]⟩ ⟨false,⟨#[]⟩,0⟩ [] ks)
 |obj (ns:List ByteArray) (ks:List JV):ns.length=ks.length->(∀u∈ks,Vl u)->Vl (.mk 6 false ⟨#[]⟩ ⟨false,⟨#[]⟩,0⟩ ns ks)
theorem Pf.split {x s t:List Int}(h:Pf x y)(e:x++s=y++t):x=y/\s=t:=by
 rcases h with rfl|h
 ·exact⟨rfl,List.append_cancel_left e⟩
 ·have h1:=sJ h s t;rw[e,gH] at h1;exact absurd h1.1.symm h1.2
theorem sv {us:List JV}(h:∀u∈us,∀w:JV,Vl w->u.key=w.key->u=w)(o:Bool):∀ (ns ms:List ByteArray) (ws:List JV),(∀w∈ws,Vl w)->JV.keys o ns us=JV.keys o ms ws->us=ws/\(o=true->ns.length=us.length->ms.length=ws.length->ns=ms):=by
 induction us with
 |nil=>
  intro ns ms ws hw e
  cases ws with
  |nil=>exact⟨rfl,fun _ h1 h2=>by rw[List.eq_nil_of_length_eq_zero h1,List.eq_nil_of_length_eq_zero h2]⟩
  |cons w ws=>simp[JV.keys] at e
 |cons u us ih=>
  intro ns ms ws hw e
  cases ws with
  |nil=>simp[JV.keys] at e
  |cons w ws=>
   simp only[JV.keys,List.cons.injEq,true_and] at e;have hp:Pf (if o then oM (ns.headD ⟨#[]⟩) else []) (if o then oM (ms.headD ⟨#[]⟩) else []):=by
    cases o
    ·exact .inl rfl
    ·exact mJ _ _
   obtain⟨e1,e2⟩:=hp.split e;obtain⟨e3,e4⟩:=(vr u w).split e2;obtain rfl:=h u (by simp) w (hw w (by simp)) e3;obtain⟨rfl,h5⟩:=ih (fun u hu=>h u (Zl _ hu)) _ _ ws (fun w h=>hw w (Zl _ h)) e4;refine⟨rfl,fun ho h1 h2=>?_⟩;subst ho
   cases ns with
   |nil=>simp at h1
   |cons a ns=>
    cases ms with
    |nil=>simp at h2
    |cons b ms=>
     simp only[if_true,List.headD_cons] at e1;have h6:ns=ms:=h5 rfl (by simpa using h1) (by simpa using h2);rw[uQ e1,h6]
theorem Vl.inj {u:JV}(hu:Vl u):∀w:JV,Vl w->u.key=w.key->u=w:=by
 induction hu with
 |null=>intro w hw e;cases hw <;> simp[JV.key] at e ⊢
 |bool b=>intro w hw e;cases hw <;> simp[JV.key] at e ⊢;rename_i c;cases b <;> cases c <;> simp at e ⊢
 |num d hd=>
  intro w hw e
  cases hw with
  |num d' hd'=>simp[JV.key] at e;rw[Cr hd hd' e]
  |null|bool|text|hole|list|obj=>simp[JV.key] at e
 |text s=>
  intro w hw e
  cases hw with
  |text s'=>simp[JV.key] at e;rw[uQ e]
  |null|bool|num|hole|list|obj=>simp[JV.key] at e
 |hole=>intro w hw e;cases hw <;> simp[JV.key] at e ⊢
 |list ks _ ih=>
  intro w hw e
  cases hw with
  |list ks' h'=>simp[JV.key] at e;rw[(sv ih false [] [] ks' h' e).1]
  |null|bool|num|hole|text|obj=>simp[JV.key] at e
 |obj ns ks hl _ ih=>
  intro w hw e
  cases hw with
  |obj ns' ks' hl' h'=>
   simp[JV.key] at e;obtain⟨h1,h2⟩:=sv ih true ns ns' ks' h' e;rw[h1,h2 rfl hl hl']
  |null|bool|num|hole|text|list=>simp[JV.key] at e
def GP:Option JV->List Int
 |none=> [0]
 |some u=>u.key
def sF (a b:Option JV):Int:=aw (GP a) (GP b)
theorem Vl.kind {u:JV}(h:Vl u):1<=u.key.headD 0:=by cases h <;> simp[JV.key]
def cO (x:UInt8):Bool:=x==32||x==9||x==10||x==13
def dO (x:UInt8):Bool:=decide (97<=x.toNat/\x.toNat<=122\/65<=x.toNat/\x.toNat<=90)
def eH (x:UInt8):Bool:=decide (48<=x.toNat/\x.toNat<=57)
def GM (x:UInt8):Bool:=x==44||x==58||x==91||x==93||x==123||x==125
def cm (x:UInt8):Nat:=if cO x then 1 else if GM x then 2 else if dO x then 3 else if eH x||x==45 then 4 else if x==34 then 5 else 0
def bu (c:UInt8):Nat:=if c==45 then 0 else if c==43 then 1 else if c==48 then 2 else if decide (49<=c.toNat/\c.toNat<=57) then 3 else if c==46 then 4 else if c==101||c==69 then 5 else 6
def nB:List Nat:= [1,9,2,3,9,9,9,9,2,3,9,9,9,9,9,9,4,6,9,9,3,3,4,6,9,9,5,5,9,9,9,9,5,5,9,6,7,7,8,8,9,9,9,9,8,8,9,9,9,9,8,8,9,9]
def ew (s k:Nat):Nat:=if k<6 then nB.getD (s*6+k) 9 else 9
structure NS where
 neg:Bool
 down:Bool
 digs:List UInt8
 part:Nat
 exps:List UInt8
 st:Nat
 n:Nat
def ib:NS:=⟨false,false, [],0, [],0,0⟩
def NS.next (t:NS)(c:UInt8):NS:=
 let s:=ew t.st (bu c)
 {neg:=t.neg||s==1
  down:=if s=7 then c==45 else t.down
  digs:=if s=2\/s=3\/s=5 then t.digs ++ [c] else t.digs
  part:=if s=5 then t.part+1 else t.part
  exps:=if s=8 then t.exps ++ [c] else t.exps
  st:=s
  n:=t.n+1}
def ay:NS->List UInt8->NS
 |t, []=>t
 |t,c::xs=>if ew t.st (bu c)=9 then t else ay (t.next c) xs
def dX (s:Nat):Bool:=s==2||s==3||s==5||s==8
def dG (l:List UInt8):List UInt8:=l.dropWhile (· == 48)
def nL (l:List UInt8):List UInt8:=(dG l.reverse).reverse
def jt (l:List UInt8):Nat:=l.foldl (fun a c=>a*10+ (c.toNat - 48)) 0
def fK (t:NS):Int:=
 let e:=dG t.exps
 let n:Int:=if e.length<=12 then jt e else 1099511627776
 if t.down then -n else n
def oy (x:Int):Int:=max (-2199023255552) (min x 2199023255552)
def it (neg:Bool)(digs:List UInt8)(exp more:Int):Option Dc:=
 let d:=dG digs
 if d = [] then some ⟨false,⟨#[48]⟩,0⟩ else
 let s:=nL d
 let x:=oy exp+more+ (d.length - s.length:Int)
 if -1000000000<=x/\x<=1000000000 then some ⟨neg,⟨s.toArray⟩,x⟩ else none
def nK (xs:List UInt8):Option (Dc×Nat):=
 let t:=ay ib xs
 if dX t.st then(it t.neg t.digs (fK t) (-(t.part:Int))).map fun d=>(d,t.n) else none
def ic (c:UInt8):Option Nat:=if 48<=c.toNat/\c.toNat<=57 then some (c.toNat - 48) else if 97<=c.toNat/\c.toNat<=102 then some (c.toNat - 87) else if 65<=c.toNat/\c.toNat<=70 then some (c.toNat - 55) else none
def cJ:List UInt8->Option Nat
 |a::b::c::d::_=>do
  let a <-ic a;let b <-ic b;let c <-ic c;let d <-ic d
  return ((a*16+b)*16+c)*16+d
 |_=>none
def jW (xs:List UInt8):Option (Nat×Nat):=do
 let x <-cJ xs
 if x<55296\/57343<x then return (x,6)
 match xs.drop 4 with
 |a::b::ys=>if x>56319\/a≠92\/b≠117 then none else do
  let y <-cJ ys
  if y<56320\/57343<y then none else return (65536+ (x - 55296)*1024+ (y - 56320),12)
 |_=>none
def vc:List UInt8->Option (Nat×Nat)
 |98::_=>some (8,2)
 |116::_=>some (9,2)
 |110::_=>some (10,2)
 |102::_=>some (12,2)
 |114::_=>some (13,2)
 |34::_=>some (34,2)
 |92::_=>some (92,2)
 |47::_=>some (47,2)
 |117::xs=>jW xs
 |_=>none
def bL:List UInt8->Option (Option (Nat×Nat))
 | []=>none
 |x::xs=>if x=34 then some none else if x=92 then(vc xs).map some else if x.toNat<32 then none
  else if(bC (x::xs)).2.2=0 then some (some ((bC (x::xs)).1,(bC (x::xs)).2.1)) else none
def fL:Nat->List UInt8->List UInt8->Nat->Option (List UInt8×Nat)
 |0,_,_,_=>none
 |f+1,xs,out,n=>match bL xs with
  |none=>none
  |some none=>some (out,n+1)
  |some (some (c,k))=>fL f (xs.drop k) (out++bD c) (n+k)
def mm:List UInt8->Option (List UInt8×Nat)
 |34::xs=>fL (xs.length+1) xs [] 1
 |_=>none
inductive rG where
 |mark (c:UInt8)
 |str (s:ByteArray)
 |leaf (j:JV)
def jA:JV:=.mk 1 false ⟨#[]⟩ ⟨false,⟨#[]⟩,0⟩ [] []
def fB (b:Bool):JV:=.mk 2 b ⟨#[]⟩ ⟨false,⟨#[]⟩,0⟩ [] []
def dT (d:Dc):JV:=.mk 3 false ⟨#[]⟩ d [] []
def eI (s:ByteArray):JV:=.mk 4 false s ⟨false,⟨#[]⟩,0⟩ [] []
def cR (ks:List JV):JV:=.mk 5 false ⟨#[]⟩ ⟨false,⟨#[]⟩,0⟩ [] ks
def kq (ms:List (ByteArray×JV)):JV:=.mk 6 false ⟨#[]⟩ ⟨false,⟨#[]⟩,0⟩ (ms.map Prod.fst) (ms.map Prod.snd)
def uV (w:List UInt8):Option JV:=if w = [110,117,108,108] then some jA else if w = [116,114,117,101] then some (fB true) else if w = [102,97,108,115,101] then some (fB false) else none
def dm:List UInt8->Option (rG×Nat)
 | []=>none
 |x::xs=>match cm x with
  |2=>some (.mark x,1)
  |3=>(uV (x::xs.takeWhile dO)).map fun j=>(.leaf j,1+ (xs.takeWhile dO).length)
  |4=>(nK (x::xs)).map fun p=>(.leaf (dT p.1),p.2)
  |5=>(mm (x::xs)).map fun p=>(.str ⟨p.1.toArray⟩,p.2)
  |_=>none
structure Fr where
 obj:Bool
 items:List JV
 mems:List (ByteArray×JV)
 name:Option ByteArray
structure de where
 frs:List Fr
 want:Nat
 done:Option JV
def yS (want:Nat)(c:UInt8):Bool:=(match want with
 |0=> [91,123]
 |1=> [91,123,93]
 |3=> [125]
 |4=> [58]
 |5=> [44,93]
 |6=> [44,125]
 |_=>([]:List UInt8)).contains c
def bX (frs:List Fr)(j:JV):de:=match frs with
 | []=>⟨[],7,some j⟩
 |f::fs=>if f.obj then⟨{f with mems:=f.mems ++ [(f.name.getD ⟨#[]⟩,j)],name:=none}::fs,6,none⟩ else⟨{f with items:=f.items ++ [j]}::fs,5,none⟩
def ri (m:ByteArray×JV):List (ByteArray×JV)->List (ByteArray×JV)
 | []=> [m]
 |x::l=>if aw (nm m.1) (nm x.1)<0 then m::x::l else x::ri m l
def fp (l:List (ByteArray×JV)):List (ByteArray×JV):=l.foldr ri []
def dM (f:Fr):JV:=if f.obj then kq (fp f.mems) else cR f.items
def dI (c:de):rG->Option de
 | .mark x=>if yS c.want x then
   (if x=91 then some ⟨⟨false, [], [],none⟩::c.frs,1,none⟩
   else if x=123 then some ⟨⟨true, [], [],none⟩::c.frs,3,none⟩
   else match c.frs with
    | []=>none
    |f::fs=>if x=93\/x=125 then some (bX fs (dM f)) else if x=44 then some ⟨f::fs,if f.obj then 2 else 0,none⟩ else some ⟨f::fs,0,none⟩) else none
 | .str s=>if c.want=2\/c.want=3 then(match c.frs with
   | []=>none
   |f::fs=>if f.mems.any (fun p=>decide (p.1=s)) then none else some ⟨{f with name:=some s}::fs,4,none⟩)
  else if c.want=0\/c.want=1 then some (bX c.frs (eI s)) else none
 | .leaf j=>if c.want=0\/c.want=1 then some (bX c.frs j) else none
def Cl:Nat->de->List UInt8->Option JV
 |0,_,_=>none
 |f+1,c,xs=>match xs.dropWhile cO with
  | []=>if c.want=7 then c.done else none
  |y::ys=>match dm (y::ys) with
   |none=>none
   |some (t,n)=>match dI c t with
    |none=>none
    |some c'=>Cl f c' ((y::ys).drop n)
def eU (xs:List UInt8):Option JV:=Cl (xs.length+1) ⟨[],0,none⟩ xs
inductive dH:de->List UInt8->de->List UInt8->Prop
 |refl (c:de) (xs:List UInt8):dH c xs c xs
 |step {c c' c'':de} {xs ys zs:List UInt8} {y:UInt8} {t:rG} {n:Nat} (h1:xs.dropWhile cO=y::ys) (h2:dm (y::ys)=some (t,n)) (h3:dI c t=some c') (h4:dH c' ((y::ys).drop n) c'' zs):dH c xs c'' zs
theorem dH.trans {a b c:de}(h:dH a xs b ys)(k:dH b ys c zs):dH a xs c zs:=by
 induction h with
 |refl=>exact k
 |step h1 h2 h3 _ ih=>exact .step h1 h2 h3 (ih k)
theorem dH.one {c c':de}{y:UInt8}{t:rG}(h1:cO y=false)(h2:dm (y::ys)=some (t,n))(h3:dI c t=some c'):dH c (y::ys) c' ((y::ys).drop n):=
 .step (by rw[List.dropWhile_cons,if_neg (by simp[h1])]) h2 h3 (.refl _ _)
theorem nf:∀ (xs:List UInt8) (t:NS),t.n<=(ay t xs).n/\(ay t xs).n<=t.n+xs.length
 | [],t=>⟨Za _,Za _⟩
 |c::xs,t=>by
  unfold ay
  split
  ·exact⟨Za _,by simp⟩
  ·have:=nf xs (t.next c);simp only[NS.next,List.length_cons] at this ⊢;omega
theorem uw {x:UInt8}{p:Dc×Nat}(h:nK (x::xs)=some p):1<=p.2/\p.2<=xs.length+1:=by
 simp only[nK] at h
 split at h
 ·rename_i hw
  rw[Option.map_eq_some_iff] at h;obtain⟨d,-,rfl⟩:=h;have hb:=nf (x::xs) ib;refine⟨?_,by simpa [ib] using hb.2⟩;unfold ay at hw ⊢
  split at hw
  ·simp[ib,dX] at hw
  ·rename_i h9
   rw[if_neg h9];have:=(nf xs (ib.next x)).1;simp only[NS.next,ib] at this ⊢;omega
 ·cases h
theorem yJ:∀ (f:Nat) (xs out:List UInt8) (n:Nat) (p:List UInt8×Nat),fL f xs out n=some p->n+1<=p.2
 |0,_,_,_,_,h=>by cases h
 |f+1,xs,out,n,p,h=>by
  unfold fL at h
  split at h
  ·cases h
  ·injection h with h;subst h;exact Za _
  ·have:=yJ f _ _ _ p h;omega
theorem BR {t:rG}(h:dm xs=some (t,n)):1<=n/\xs≠ []:=by
 cases xs with
 |nil=>cases h
 |cons x xs=>
  refine⟨?_,by simp⟩;simp only[dm] at h
  split at h
  ·injection h with h;injection h with _ h;omega
  ·rw[Option.map_eq_some_iff] at h;obtain⟨j,-,h⟩:=h;injection h with _ h;omega
  ·rw[Option.map_eq_some_iff] at h;obtain⟨p,hp,h⟩:=h;injection h with _ h
   have:=uw hp;omega
  ·rw[Option.map_eq_some_iff] at h;obtain⟨p,hp,h⟩:=h;injection h with _ h
   unfold mm at hp
   split at hp
   ·have:=yJ _ _ _ _ _ hp;omega
   ·cases hp
  ·cases h
theorem ik (xs:List UInt8):(xs.dropWhile cO).length<=xs.length:=(List.dropWhile_sublist _).length_le
