import Derived.Test.YtohibglohlfjfaaGreatDoorGZ6ar
set_option linter.unusedVariables false
set_option linter.unusedSimpArgs false
set_option maxHeartbeats 64000000
set_option maxRecDepth 100000
namespace Go.Proofs.YtohibglohlfjfaaGreatDoor
open Go.RowKit
variable {j j' x0:JV}{base g i lo n:Nat}{P:Nat->Prop}{v v' vk vn:Value}{W W' w:World}
theorem pW:∀ (l:List JV) (p q:Nat),q∈aV p l->p<=q/\q<p+JV.sizes l
 | [],p,q,h=>by simp[aV] at h
 |v::vs,p,q,h=>by
  simp only[aV,List.mem_cons] at h;simp only[JV.sizes];have:=v.size_pos;rcases h with rfl|h
  ·omega
  ·have:=pW vs (p+v.size) q h;omega
theorem qP (v:JV):∀p,∀x∈v.flat p,∀q∈x.kids,p<q/\q<p+v.size:=by
 refine JV.ind (P:=fun v=> ∀p,∀x∈v.flat p,∀q∈x.kids,p<q/\q<p+v.size) (fun k t x n ns ks ih p y hy q hq=>?_) v;simp only[JV.flat,List.mem_cons] at hy;simp only[JV.size];rcases hy with rfl|hy
 ·have:=pW ks (p+1) q hq;omega
 ·suffices ∀ (l:List JV) p,(∀u∈l,∀p,∀x∈u.flat p,∀q∈x.kids,p<q/\q<p+u.size)->y∈JV.flats p l->p<q/\q<p+JV.sizes l by
   have:=this ks (p+1) ih hy;omega
  intro l
  induction l with
  |nil=>intro p _ h;simp[JV.flats] at h
  |cons v vs ih2=>
   intro p hu h;simp only[JV.flats,List.mem_append] at h;simp only[JV.sizes];rcases h with h|h
   ·have:=hu v (by simp) p y h q hq;omega
   ·have:=ih2 (p+v.size) (fun u hm=>hu u (Zm _ hm)) h;omega
def ii (w:World)(base g n:Nat)(xs:List Value):Prop:=w.ownsRow base 3 1 (.slice (some ⟨g,0,none⟩) n n) n xs/\∀x∈xs,∃i:Int,x =.int .i64 i
theorem ii.get {xs:List Value}(h:ii w base g n xs)(hi:i<n):∃x:Int,w.cell? ⟨g,i,none⟩=some (.int .i64 x):=by
 have hl:xs.length=n:=by have:=h.1.1;simpa using this
 obtain⟨x,hx⟩:=h.2 xs[i] (List.getElem_mem _);exact⟨x,by rw[aL h.1 rfl i (by omega),Zd (by omega),hx]⟩
theorem ii.set {xs:List Value}(h:ii w base g n xs)(i:Nat)(x:Int):ii (w.setCell ⟨g,i,none⟩ (.int .i64 x)) base g n (xs.set i (.int .i64 x)):=by
 refine⟨(World.ownsRow.stored h.1 i _).1,fun y hy=>?_⟩;rcases List.mem_or_eq_of_mem_set hy with hy|rfl
 ·exact h.2 y hy
 ·exact⟨x,rfl⟩
def GW (w:World)(g n:Nat)(s4 s5:Value)(wr:World):Prop:= ∃ (i:Nat) (m:Int) (xs:List Value),i<=n/\s4 =.int .i64 m/\s5 =.int .i64 i/\ii wr w.heap.size g n xs/\Below w.heap.size w wr
def FW (w:World)(g n m:Nat)(s6:Value)(wr:World):Prop:= ∃ (k:Nat) (xs:List Value),k<=m/\s6 =.int .i64 k/\ii wr w.heap.size g n xs/\Below w.heap.size w wr
def CY (w:World)(e:Ending)(w':World):Prop:= ∃m:Int,e =.returned (.int .i64 m)/\Below w.heap.size w w'
theorem xm (hf:dL w 0 v (j.flat 0))(hsz:j.size<=1000000):Calls Tryz.prog 21 #[v] w (CY w):=by
 obtain⟨A,cap,rfl,a4,hm,hA⟩:=hf.form;have hn:=j.size_pos;obtain⟨gt,rfl⟩:=hA (by rw[JV.flat_len];omega);have Hf:=Qa hf;rw[JV.flat_len] at a4 hm Hf ⊢;obtain⟨i0,hi,a7,a9,a6⟩:=info_parts iz.hi;have b9:∀W:World,(Instr.makeSlice 23 (.int .i64 (j.size:Int)) (.int .i64 (j.size:Int))).run Tryz.prog W =.ok (.slice (some ⟨W.heap.size,0,none⟩) j.size j.size) (W.alloc (.cells (madeCells #[.int .i64 0] j.size) 3)):=fun W=>by
  have:=run_make (P:=Tryz.prog) W 23 3 i0 (.int .i64 0) iz.ht hi a7 .i64 .i64 j.size j.size (by omega) (by omega) (by rw[a6];omega) (by omega);rw[a9] at this;simpa [Value.cells] using this
 have a1:ii (w.alloc (.cells (madeCells #[.int .i64 0] j.size) 3)) w.heap.size w.heap.size j.size (List.replicate j.size (.int .i64 0)):=by
  refine⟨?_,fun x hx=>⟨0,(List.mem_replicate.1 hx).2⟩⟩;have:=eF (n:=j.size) (k:=1) (Zf w (.cells (madeCells #[.int .i64 0] j.size) 3)) (Zb w.heap.size) hm (by simp[madeCells])
  rwa[toList_madeCells_one] at this
 have a2:ii (w.alloc (.cells ((madeCells #[.int .i64 0] j.size).setIfInBounds 0 (.int .i64 1)) 3)) w.heap.size w.heap.size j.size ((List.replicate j.size (.int .i64 0)).set 0 (.int .i64 1)):=by
  refine⟨?_,fun x hx=>?_⟩
  ·have:=eF (n:=j.size) (k:=1) (Zf w (.cells ((madeCells #[.int .i64 0] j.size).setIfInBounds 0 (.int .i64 1)) 3)) (Zb w.heap.size) hm (by simp[madeCells])
   rwa[Array.toList_setIfInBounds,toList_madeCells_one] at this
  ·rcases List.mem_or_eq_of_mem_set hx with hx|rfl
   ·exact⟨0,(List.mem_replicate.1 hx).2⟩
   ·exact⟨1,rfl⟩
 have Hrow:=Qa a2;have Hb0:=Qa (ac w (.cells ((madeCells #[.int .i64 0] j.size).setIfInBounds 0 (.int .i64 1)) 3));obtain⟨z0,c0⟩:=a1.get (i:=0) (by omega);have f0:=World.ownsRow.frozenAt a1.1 0;have c1:((j.size:Int)==0)=false:=beq_eq_false_iff_ne.2 (by omega);have c3:0<j.size:=hn;unfold maxLen at hm;clear a1 a2 hf hA hi a7 a9 a6;go_enter Tryz.func21,Tryz.ntmps21;go_wp2_with fail
 go_loopw [4,5,6] (fun s4 s5 _ wr=>GW w w.heap.size j.size s4 s5 wr) (fun _ v _ _=>j.size - (intOf v).toNat)
 case atStart=>exact⟨0,1,_,Zk _,rfl,rfl,Hrow.out,Hb0.out⟩
 case round=>
  obtain⟨i,m,xs,hi,rfl,rfl,hr,hb⟩:=hrel;have Hr:=Qa hr;have Hb:=Qa hb;clear hr hb
  by_cases hlt:i<j.size
  ·obtain⟨x,hx⟩:∃x,(j.flat 0)[i]?=some x:=⟨_,Zd (by rw[JV.flat_len];exact hlt)⟩;obtain⟨di,ci⟩:=Hr.out.get hlt;have b5:(i:Int)<j.size:=by omega
   have b1:=qP j 0 x (Zl hx);have hkl:=mO (Zl hx);have Hx:=Qa hx;have b4:=Qa b1;clear hx b1 c0 f0;obtain⟨wo,rfl⟩:∃wo:World,wo=wr:=⟨_,rfl⟩;go_upto_region 9 with fail
   go_cut [4] (fun s4 wx=>(∃m':Int,s4 =.int .i64 m')/\wo=wx)
   case first=>
    go_wp2_with fail
    all_goals
     go_meet
     case rel=>exact⟨⟨_,rfl⟩,rfl⟩
   case rest=>
    obtain⟨⟨m',rfl⟩,rfl⟩:=hcut;go_wp2_with fail
    go_loopw [6] (fun s6 wx=>FW w w.heap.size j.size x.kids.length s6 wx) (fun v _=>x.kids.length - (intOf v).toNat)
    case atStart=>exact⟨0,_,Zk _,rfl,Hr.out,Hb.out⟩
    case round=>
     obtain⟨k,ys,hk,rfl,b0,hby⟩:=hrel;obtain⟨vn,vk,h1,h2,h3⟩:=(Hf.out.below hby (Zb _)).node Hx.out;obtain⟨Ak,ck,rfl,c2,b3,a5⟩:=ag h2;have c7:=h3 7 _ rfl;have a3:=Qa b0;have b2:=Qa hby;have H2:=Qa h2;have b6:=Qa a5;clear h1 h2 h3 b0 hby a5 ci
     by_cases hkt:k<x.kids.length
     ·obtain⟨gk,rfl⟩:=b6.out (by omega);obtain⟨z,hz⟩:∃z,x.kids[k]?=some z:=⟨_,Zd hkt⟩;have cz:=aL H2.out rfl k (by omega);rw[List.getElem?_map,hz] at cz;simp only[Option.map_some,cO] at cz;have hzb:=b4.out z (Zl hz);obtain⟨dz,czz⟩:=a3.out.get (i:=z) (by omega);obtain⟨dw,cw⟩:=a3.out.get hlt;have fz:=World.ownsRow.frozenAt a3.out.1 z;have hki:(k:Int)<x.kids.length:=by omega
      have b8:(z:Int)<j.size:=by omega
      have b7:z<j.size:=by omega
      go_wp2_with fail;refine cP (fun w'=>w'.cell? ⟨gt,i*8+7,none⟩=some (.slice (some ⟨gk,0,none⟩) x.kids.length ck)/\w'.cell? ⟨gk,k,none⟩=some (.int .i64 z)/\w'.cell? ⟨w.heap.size,i,none⟩=some (.int .i64 dw)) 15 (⟨c7,cz,cw⟩) fun a0=>?_
      refine tZ 0 a0 ?_;refine tZ 1 a0 ?_;refine tZ 2 a0 ?_;refine tZ 3 a0 ?_;refine tZ 4 a0 ?_;refine tZ 5 a0 ?_
      try simp only[Act.put,jP,jQ,jR]
      refine tZ 6 a0 ?_;refine tZ 7 a0 ?_;refine tZ 8 a0 ?_;refine tZ 9 a0 ?_;refine tZ 10 a0 ?_;refine tZ 11 a0 ?_
      try simp only[Act.put,jP,jQ,jR]
      refine tZ 12 a0 ?_;refine tZ 13 a0 ?_;refine tZ 14 a0 ?_
      try simp only[Act.put,jP,jQ,jR]
      refine rZ 15 fun K hK=>?_
      go_simp;refine hK.out _ _ (fun h=>absurd rfl h) (fun _=>?_);clear hK K
      try simp only[Act.put,jP,jQ,jR]
      refine aW (by kernel_rfl) (NoPanic.normal ?_) _;have hs:=a3.out.set z (wrap64 (dw+1));go_wp2_with fail;exact⟨⟨k+1,_,by omega,by go_num,hs,b2.out.drew.setCell (p:=⟨w.heap.size,z,none⟩) (Zb _) _⟩,by simp[intOf];omega⟩
     ·obtain rfl:k=x.kids.length:=by omega
      go_wp2_with fail;exact⟨⟨i+1,_,_,by omega,rfl,by go_num,a3.out,b2.out⟩,by simp[intOf];omega⟩
  ·obtain rfl:i=j.size:=by omega
   go_wp2_with fail;go_ret;exact⟨_,rfl,Hb.out⟩
def Ir (w:World)(j u:JV)(a:Nat)(s1:Value)(wr:World):Prop:= ∃ (b:Nat) (x:JV),s1 =.int .i64 b/\dV j 0 b x/\b+x.size=a+u.size/\Below w.heap.size w wr
def J1 (w:World)(n:Nat)(e:Ending)(w':World):Prop:=e =.returned (.int .i64 n)/\Below w.heap.size w w'
theorem Ds {u:JV}{a:Nat}(hf:dL w 0 v (j.flat 0))(hs:dV j 0 a u)(hsz:j.size<=1000000):Calls Tryz.prog 86 #[v,.int .i64 (a:Int)] w (J1 w (a+u.size)):=by
 obtain⟨A,cap,rfl,a2,hm,hA⟩:=hf.form;have hn:=j.size_pos;obtain⟨gt,rfl⟩:=hA (by rw[JV.flat_len];omega);have Hf:=Qa hf;rw[JV.flat_len] at a2 hm Hf ⊢;have Hs:=Qa hs;unfold maxLen at hm;clear hf hA hs;go_enter Tryz.func86,Tryz.ntmps86;go_wp2_with fail
 go_loopw [1] (fun s1 wr=>Ir w j u a s1 wr) (fun v _=>j.size - (intOf v).toNat)
 case atStart=>exact⟨a,u,rfl,Hs.out,rfl,Ze _ _⟩
 case round=>
  obtain⟨b,x,rfl,hx,he,hb⟩:=hrel;have Hb:=Qa hb;obtain⟨xk,xt,xx,xn,xns,xks⟩:=x;have a9:=hx.bd;have a0:=hx.node;have b4:1<=(JV.mk xk xt xx xn xns xks).size:=JV.size_pos _;rw[Nat.sub_zero] at a0;have b3:b<j.size:=by omega
  obtain⟨vn,vk,h1,h2,h3⟩:=(Hf.out.below hb (Zb _)).node a0;obtain⟨Ak,ck,rfl,a7,a5,a3⟩:=ag h2;have c7:=h3 7 _ rfl;unfold bI at h2;simp only[bR] at c7 a7 a5 a3 h2;have H2:=Qa h2;have Hx:=Qa hx;have He:=Qa he;have b1:=Qa a3;have b2:(b:Int)<j.size:=by omega
  clear h1 h2 h3 a3 a0 hx he hb
  by_cases h0:0<xks.length
  ·obtain⟨gk,rfl⟩:=b1.out h0;have hne:xks≠ []:=by intro e;subst e;simp at h0
   obtain⟨pre,qC,rfl⟩:∃pre qC,xks=pre ++ [qC]:=⟨_,_,(List.dropLast_concat_getLast hne).symm⟩;have a1:(aV (b+1) (pre ++ [qC]))[pre.length]?=some (b+1+JV.sizes pre):=by
    rw[dH,List.getElem?_append_right (by rw[bR];exact Zb _)];simp[aV,bR]
   have hlen:(pre ++ [qC]).length=pre.length+1:=by simp
   rw[hlen] at c7 a7 a5 H2;have cz:=aL H2.out rfl pre.length (by omega);rw[List.getElem?_map,a1] at cz;simp only[Option.map_some,cO] at cz;have Hk:=Qa (dV.kid (post:= []) Hx.out);have b0:=Qa (show(b+1+JV.sizes pre)+qC.size=a+u.size by have:=He.out;simp only[JV.size,cR,JV.sizes] at this;omega);have hq:pre.length<pre.length+1:=by omega
   have b5:pre.length<=1000000:=by have:=cf pre;have:=He.out;simp only[JV.size,cR,JV.sizes] at a9;omega
   have w1:IntKind.i64.wrap ((pre.length:Int)+1 - 1)=pre.length:=by rw[IntWalk.i64_in _ (by omega)];omega
   have w2:IntKind.i64.wrap (pre.length:Int)=pre.length:=IntWalk.i64_in _ (by omega);have w3:(((pre.length+1:Nat):Int))= (pre.length:Int)+1:=by omega
   clear a1 hlen h0 hne;go_wp2_with fail;go_quiet (fail);go_wp2_with fail;exact⟨⟨_,qC,rfl,Hk.out,b0.out,av Hb.out _⟩,by have:=Hk.out.bd;have:=qC.size_pos;simp[intOf];omega⟩
  ·have a6:xks.length=0:=by omega
   obtain rfl:xks = []:=List.eq_nil_of_length_eq_zero a6;have a4:=Qa (show b+1=a+u.size by have:=He.out;simp only[JV.size,JV.sizes] at this;omega);clear h0 a6 a9;go_wp2_with fail;go_ret;exact⟨by rw[<-a4.out];exact yw (by omega),Hb.out⟩
theorem Eb:(Tryz.prog.info? 70).map (·.size)=some 8:=by kernel_rfl
def IT (w2:World)(f:Nat->Nat)(kids:List Nat)(s7 s8:Value)(wr:World):Prop:= ∃q:Nat,q<=kids.length/\s8 =.int .i64 q/\Below w2.heap.size w2 wr/\bI wr w2.heap.size s7 ((kids.take q).map f)
def Kn (w:World)(x:Nd)(e:Ending)(w':World):Prop:= ∃ (An:Option Addr) (cn:Nat) (Ak:Option Addr) (ck:Nat),e =.returned (.agg (ay x (.slice An x.names.length cn) (.slice Ak x.kids.length ck)).toArray)/\Below w.heap.size w w'/\dh w' w.heap.size (.slice An x.names.length cn) x.names/\bI w' w.heap.size (.slice Ak x.kids.length ck) x.kids
theorem z8 {x:Nd}(hn:dh w 0 vn x.names)(hk:bI w 0 vk x.kids)(hnl:x.names.length<=1000000)(hkl:x.kids.length<=1000000)(f:Nat->Nat)(from_ by_:Int)
  (hf:∀q∈x.kids,((f q:Nat):Int)= (if from_<=q then(q:Int)+by_ else q)/\q<=1000000/\f q<=2000000) :
  Calls Tryz.prog 87 #[.agg (ay x vn vk).toArray,.int .i64 from_,.int .i64 by_] w (Kn w (x.mv f)):=by
 obtain⟨Anx,cnx,rfl,-,-,-⟩:=ag hn;obtain⟨Akx,ckx,rfl,-,c4,b4⟩:=ag hk;obtain⟨xk,xt,xx,⟨xn1,xn2,xn3⟩,xns,xks⟩:=x
 dsimp only at hn hk hnl hkl hf c4 b4 ⊢
 unfold ay
 dsimp only
 have a2:Below w.heap.size w ((w.alloc (.cells #[.int .i64 xk,.bool xt,.string xx,.bool xn1,.string xn2,.int .i64 xn3,.slice Anx xns.length cnx,.slice Akx xks.length ckx] 70)).alloc (.cells #[.int .i64 0,.bool false,.string es,.bool false,.string es,.int .i64 0,.slice none 0 0,.slice none 0 0] 70)):=((Ze _ _).alloc (Zb _) _).alloc (by simp) _;have c1:=(Below.heap_alloc (w.alloc (.cells #[.int .i64 xk,.bool xt,.string xx,.bool xn1,.string xn2,.int .i64 xn3,.slice Anx xns.length cnx,.slice Akx xks.length ckx] 70)) (.cells #[.int .i64 0,.bool false,.string es,.bool false,.string es,.int .i64 0,.slice none 0 0,.slice none 0 0] 70) w.heap.size (by simp)).trans (Zf w (.cells #[.int .i64 xk,.bool xt,.string xx,.bool xn1,.string xn2,.int .i64 xn3,.slice Anx xns.length cnx,.slice Akx xks.length ckx] 70));have b3:=Zf (w.alloc (.cells #[.int .i64 xk,.bool xt,.string xx,.bool xn1,.string xn2,.int .i64 xn3,.slice Anx xns.length cnx,.slice Akx xks.length ckx] 70)) (.cells #[.int .i64 0,.bool false,.string es,.bool false,.string es,.int .i64 0,.slice none 0 0,.slice none 0 0] 70);rw[World.size_alloc] at b3;have b6:((w.alloc (.cells #[.int .i64 xk,.bool xt,.string xx,.bool xn1,.string xn2,.int .i64 xn3,.slice Anx xns.length cnx,.slice Akx xks.length ckx] 70)).alloc (.cells #[.int .i64 0,.bool false,.string es,.bool false,.string es,.int .i64 0,.slice none 0 0,.slice none 0 0] 70)).heap.size=w.heap.size+2:=by simp
 have HN:=Qa (hn.below a2 (Zb _));have d1:=Qa (hk.below a2 (Zb _));have b1:=Qa a2;have c5:=Qa c1;have c3:=Qa b3;have d5:=Qa b6;have Hf:=Qa hf;have d3:=Qa b4;unfold maxLen at c4;clear hn hk a2 c1 b3 b6 hf b4;go_enter Tryz.func87,Tryz.ntmps87;go_wp2_with fail;generalize ((w.alloc (.cells #[.int .i64 xk,.bool xt,.string xx,.bool xn1,.string xn2,.int .i64 xn3,.slice Anx xns.length cnx,.slice Akx xks.length ckx] 70)).alloc (.cells #[.int .i64 0,.bool false,.string es,.bool false,.string es,.int .i64 0,.slice none 0 0,.slice none 0 0] 70))=w2 at *
 go_loopw [7,8,9] (fun s7 s8 _ wr=>IT w2 f xks s7 s8 wr) (fun _ v _ _=>xks.length - (intOf v).toNat)
 case atStart=>exact⟨0,Zk _,rfl,Ze _ _,by rw[List.take_zero,List.map_nil];exact bI.nil _ _⟩
 case round=>
  obtain⟨q,hq,rfl,hb,ho⟩:=hrel;have Hb:=Qa hb;have Ho:=Qa ho;have c2:=hb.size;have a4:=(hb.block _ (ae c5.out)).trans c5.out;have c7:=aa a4 (j:=7) (u:=.slice Akx xks.length ckx) rfl;have a1:=Qa a4;clear hb ho a4
  by_cases hqt:q<xks.length
  ·obtain⟨gk,rfl⟩:=d3.out (by omega);obtain⟨z,hz⟩:∃z,xks[q]?=some z:=⟨_,Zd hqt⟩;have cz:=aL (d1.out.below Hb.out (Zb _)) rfl q (by omega);rw[List.getElem?_map,hz] at cz;simp only[Option.map_some,cO] at cz;obtain⟨a7,d6,b6⟩:=Hf.out z (Zl hz);have Hz:=Qa (show(xks.take (q+1)).map f= (xks.take q).map f ++ [f z] by rw[bQ hz,List.map_append];rfl);have b5:=Qa (show((xks.take q).map f).length=q by rw[List.length_map,List.length_take];omega);have c0:=Qa (ap wr [cO (f z)] 3);have a9:=Qa (show(wr.alloc (.cells #[.int .i64 ((f z:Nat):Int)] 3)).ownsRow w2.heap.size 3 1 u7 q (((xks.take q).map f).map cO) by have:=(Ho.out.below (ac wr (.cells #[.int .i64 ((f z:Nat):Int)] 3)) (Zb _));unfold bI at this;rw[b5.out] at this;exact this);have d9:(q:Int)<xks.length:=by omega
   clear hz
   by_cases hfr:from_<=z
   ·rw[if_pos hfr] at a7;have hw:(z:Int)+by_= ((f z:Nat):Int):=a7.symm;have d4:IntKind.i64.wrap ((f z:Nat):Int)= ((f z:Nat):Int):=IntWalk.i64_in _ (by omega);have d0:=Qa a7;clear a7;go_wp2_with (at_builtin;refine km iz a9.out c0.out (by simp;omega) ?_ (h1:=(by simp[cO,Value.oneCell']));intro v' w5 h1 h2 h3;have HK:=Qa h1;have HG:=Qa h2;clear h1 h2 h3);have a2:Below w2.heap.size w2 (wr.alloc (.cells #[.int .i64 ((f z:Nat):Int)] 3)):=Hb.out.alloc c2 _;exact⟨⟨q+1,by omega,by go_num,aY a2 a9.out a2.size HG.out,by rw[Hz.out];unfold bI;rw[List.length_append,b5.out,List.map_append];exact HK.out⟩,by simp[intOf];omega⟩
   ·rw[if_neg hfr] at a7;have a5:f z=z:=by omega
    rw[a5] at Hz c0 a9;have d0:=Qa a5;clear a7 a5;go_wp2_with (at_builtin;refine km iz a9.out c0.out (by simp;omega) ?_ (h1:=(by simp[cO,Value.oneCell']));intro v' w5 h1 h2 h3;have HK:=Qa h1;have HG:=Qa h2;clear h1 h2 h3);have a2:Below w2.heap.size w2 (wr.alloc (.cells #[.int .i64 (z:Int)] 3)):=Hb.out.alloc c2 _;exact⟨⟨q+1,by omega,by go_num,aY a2 a9.out a2.size HG.out,by rw[Hz.out];unfold bI;rw[List.length_append,b5.out,List.map_append];exact HK.out⟩,by simp[intOf];omega⟩
  ·obtain rfl:q=xks.length:=by omega
   rw[List.take_length] at Ho;go_wp2_with fail;obtain⟨Ak7,ck7,rfl,-,-,-⟩:=ag Ho.out;rw[List.length_map] at Ho ⊢;have b2:=Qa (show(fun w':World=>w'.cell? ⟨w.heap.size,0,none⟩=some (.int .i64 xk)/\w'.cell? ⟨w.heap.size,1,none⟩=some (.bool xt)/\w'.cell? ⟨w.heap.size,2,none⟩=some (.string xx)/\w'.cell? ⟨w.heap.size,3,none⟩=some (.bool xn1)/\w'.cell? ⟨w.heap.size,4,none⟩=some (.string xn2)/\w'.cell? ⟨w.heap.size,5,none⟩=some (.int .i64 xn3)/\w'.cell? ⟨w.heap.size,6,none⟩=some (.slice Anx xns.length cnx)) wr.drew from⟨aa a1.out (j:=0) rfl,aa a1.out (j:=1) rfl,aa a1.out (j:=2) rfl,aa a1.out (j:=3) rfl,aa a1.out (j:=4) rfl,aa a1.out (j:=5) rfl,aa a1.out (j:=6) rfl⟩);have b0:=Qa (show Below w2.heap.size w2 wr.drew from Hb.out.drew);have a6:=Qa (show ¬some w.heap.size=some (w.heap.size+1) from fun e=>by injection e with e;omega);have c6:=Qa (show bI wr.drew w2.heap.size (.slice Ak7 xks.length ck7) (xks.map f) from Ho.out);clear c7;generalize hwq:wr.drew=wq at b2 b0 c6;refine aA (fun w'=>w'.cell? ⟨w.heap.size,0,none⟩=some (.int .i64 xk)/\w'.cell? ⟨w.heap.size,1,none⟩=some (.bool xt)/\w'.cell? ⟨w.heap.size,2,none⟩=some (.string xx)/\w'.cell? ⟨w.heap.size,3,none⟩=some (.bool xn1)/\w'.cell? ⟨w.heap.size,4,none⟩=some (.string xn2)/\w'.cell? ⟨w.heap.size,5,none⟩=some (.int .i64 xn3)/\w'.cell? ⟨w.heap.size,6,none⟩=some (.slice Anx xns.length cnx)) ((by rw[hwq];exact b2.out)) fun a0=>?_
   refine tH 0 a0 ?_;refine tH 1 a0 ?_;refine tH 2 a0 ?_;refine tH 3 a0 ?_;refine tH 4 a0 ?_;refine tH 5 a0 ?_
   try simp only[Act.put,jP,jQ,jR]
   refine tH 6 a0 ?_;refine tH 7 a0 ?_;refine tH 8 a0 ?_;refine tH 9 a0 ?_;refine tH 11 a0 ?_
   try simp only[Act.put,jP,jQ,jR]
   refine rH 10 fun K hK=>?_
   go_simp;rw[hwq] at a0;refine(lw (l:=xns) (Sl.of_own (HN.out.below b0.out (Zb _))) hnl).mono ?_;rintro e w5 ⟨vt,rfl,a3,b8⟩;obtain⟨At5,ct5,rfl,-,-,-⟩:=ag b8;have b7:=Qa (b0.out.trans (a3.mono b0.out.size));have c9:=Qa (b8.low b0.out.size);have d2:=Qa (c6.out.below a3 (Zb _));have b9:=Qa ((b7.out.block _ (ae c3.out)).trans c3.out);clear b8;go_simp;refine hK.out _ _ (⟨Zg a3 a0.1,Zg a3 a0.2.1,Zg a3 a0.2.2.1,Zg a3 a0.2.2.2.1,Zg a3 a0.2.2.2.2.1,Zg a3 a0.2.2.2.2.2.1,Zg a3 a0.2.2.2.2.2.2⟩) (fun a0=>?_);clear hK K
   try simp only[Act.put,jP,jQ,jR]
   refine tH 12 a0 ?_
   try simp only[Act.put,jP,jQ,jR]
   refine rH 13 fun K hK=>?_
   refine bM b9.out ?_;refine hK.out _ _ (⟨(ah _ _ _).cell a0.1 a6.out,(ah _ _ _).cell a0.2.1 a6.out,(ah _ _ _).cell a0.2.2.1 a6.out,(ah _ _ _).cell a0.2.2.2.1 a6.out,(ah _ _ _).cell a0.2.2.2.2.1 a6.out,(ah _ _ _).cell a0.2.2.2.2.2.1 a6.out,(ah _ _ _).cell a0.2.2.2.2.2.2 a6.out⟩) (fun a0=>?_);clear hK K
   try simp only[Act.put,jP,jQ,jR]
   refine wpAnyH_done (by kernel_rfl) (NoPanic.normal ?_) _;clear a0;go_wp2_with fail;have c8:aG (fun e=>e=70) w5 (w5.setRow (w.heap.size+1) #[.int .i64 xk,.bool xt,.string xx,.bool xn1,.string xn2,.int .i64 xn3,.slice At5 xns.length ct5,.slice Ak7 xks.length ck7]):=aG.of_grown (ah ..) (fun g e cs t z hh=>by cases e;have h:=b9.out;rw[h] at hh;injection hh with hh;injection hh with _ hh;exact hh.symm);exact Zh (results_cell_row Tryz.results87 _ _ (w.heap.size+1) 70 #[.int .i64 xk,.bool xt,.string xx,.bool xn1,.string xn2,.int .i64 xn3,.slice At5 xns.length ct5,.slice Ak7 xks.length ck7] (0,0) _ (by simp) (setRow_heap _ _ _ _ _ _ b9.out) Tryz.underlying70 rfl Eb) rfl
    ⟨At5,ct5,Ak7,ck7,by simp[Nd.mv,ay],(b1.out.trans (b7.out.mono b1.out.size)).grown (ah ..) (Zc b1.out.size b7.out.size) (fun g e=>by cases e;omega),bV (al c9.out c8 (by decide)) b1.out.size,by have h1:=bV (al d2.out c8 (by decide)) b1.out.size;simpa [Nd.mv,bI] using h1⟩
theorem dY {α:Type}{l:List α}{k:Nat}{x:α}(h:lo<=k)(hx:l[k]?=some x):(l.take (k+1)).drop lo= (l.take k).drop lo ++ [x]:=by
 rw[bQ hx,List.drop_append_of_le_length (by rw[List.length_take];have:=(List.getElem?_eq_some_iff.1 hx).1;omega)]
theorem bj.snoc {ns:List Nd}{us:List (List Value)}{y:Nd}(h1:W.ownsRow base 70 8 v n us.flatten)(hn:n=ns.length)(h2:bo (gM W) us ns)(h3:mX P us)(hy:gM W (ay y vn vk) y)(hv:∀g,vn.ownBlock=some g->P g)
  (h4:W'.ownsRow base 70 8 v' (n+1) (us.flatten++ay y vn vk)) (hg:W.grownBy W' v.ownBlock):bj P W' base v' (ns ++ [y]):=by
 subst hn;have ht:=cj h1;refine⟨us ++ [ay y vn vk],by rw[List.length_append,List.flatten_append];simpa using h4,(h2.mono fun _ _ h=>fj hg ht h).snoc (fj hg ht hy),fun u hu g e=>?_⟩;rcases List.mem_append.1 hu with hu|hu
 ·exact h3 u hu g e
 ·rw[List.mem_singleton] at hu;subst hu;exact hv g (by simpa [ay] using e)
def Kl (w:World)(xk:Int)(xt:Bool)(xx:ByteArray)(xn1:Bool)(xn2:ByteArray)(xn3:Int)(xns:List ByteArray)(xks:List Nat)(f:Nat->Nat)(e:Ending)(w':World):Prop:= ∃ (An:Option Addr) (cn:Nat) (Ak:Option Addr) (ck:Nat),e =.returned (.agg #[.int .i64 xk,.bool xt,.string xx,.bool xn1,.string xn2,.int .i64 xn3,.slice An xns.length cn,.slice Ak xks.length ck])/\Below w.heap.size w w'/\dh w' w.heap.size (.slice An xns.length cn) xns/\bI w' w.heap.size (.slice Ak xks.length ck) (xks.map f)
theorem rB {xk:Int}{xt:Bool}{xx:ByteArray}{xn1:Bool}{xn2:ByteArray}{xn3:Int}{xns:List ByteArray}{xks:List Nat}(hn:dh w 0 vn xns)(hk:bI w 0 vk xks)(hnl:xns.length<=1000000)(hkl:xks.length<=1000000)(f:Nat->Nat)(from_ by_:Int)
  (hf:∀q∈xks,((f q:Nat):Int)= (if from_<=q then(q:Int)+by_ else q)/\q<=1000000/\f q<=2000000) :
  Calls Tryz.prog 87 #[.agg #[.int .i64 xk,.bool xt,.string xx,.bool xn1,.string xn2,.int .i64 xn3,vn,vk],.int .i64 from_,.int .i64 by_] w (Kl w xk xt xx xn1 xn2 xn3 xns xks f):=
 (z8 (x:=⟨xk,xt,xx,⟨xn1,xn2,xn3⟩,xns,xks⟩) hn hk hnl hkl f from_ by_ hf).mono fun e w' ⟨An,cn,Ak,ck,he,hb,hs,hk⟩=>⟨An,cn,Ak,ck,by rw[he];simp[Nd.mv,ay],hb,hs,by simpa [Nd.mv] using hk⟩
def vU (w:World)(src:List Nd)(out:List Nd)(f:Nat->Nat)(lo hi:Nat)(s9 sI:Value)(wr:World):Prop:= ∃ (k:Nat) (A:Option Addr) (n q:Nat),lo<=k/\k<=hi/\sI =.int .i64 k/\s9 =.slice A n q/\Below w.heap.size w wr/\bj (w.heap.size<= ·) wr w.heap.size (.slice A n q) (out++ ((src.take k).drop lo).map (Nd.mv f))
theorem CF {u:JV}{a:Nat}(h:vB u j 0 a x0 j'):(([]++ (((j.flat 0).take a).drop 0).map (Nd.mv (mx (a+x0.size) x0.size u.size)))++ (((u.flat 0).take u.size).drop 0).map (Nd.mv (· + a)))++ (((j.flat 0).take j.size).drop (a+x0.size)).map (Nd.mv (mx (a+x0.size) x0.size u.size))=j'.flat 0:=by
 obtain⟨A,B,e1,e2,e3⟩:=h.flat;have hA:A.length=a:=by omega
 have hu:((u.flat 0).take u.size).map (Nd.mv (· + a))=u.flat a:=by
  rw[List.take_of_length_le (by rw[JV.flat_len];exact Zb _)];exact zl u 0 a _ (fun q _ _=>by simp)
 have hj:(j.flat 0).take j.size=j.flat 0:=List.take_of_length_le (by rw[JV.flat_len];exact Zb _);rw[hj,List.drop_zero,List.drop_zero,hu,e3,e1];have t1:(A++x0.flat a++B).take a=A:=by rw[List.append_assoc,<-hA,List.take_left]
 have t2:(A++x0.flat a++B).drop (a+x0.size)=B:=by
  have:(A++x0.flat a).length=a+x0.size:=by rw[List.length_append,hA,JV.flat_len]
  rw[<-this,List.drop_left]
 rw[t1,t2];simp
theorem DA {vu:Value}{u:JV}{a:Nat}(hf:dL w 0 v (j.flat 0))(hu:dL w 0 vu (u.flat 0))(hp:vB u j 0 a x0 j')(hsz:j.size<=400000)(g5:u.size<=400000)
  (f5:∀x∈j.flat 0,x.names.length<=1000000) (f1:∀x∈u.flat 0,x.names.length<=1000000):Calls Tryz.prog 62 #[v,.int .i64 (a:Int),vu] w (pw w (j'.flat 0)):=by
 obtain⟨A,cap,rfl,e4,hm,hA⟩:=hf.form;obtain⟨Au,capu,rfl,d2,e8,f3⟩:=hu.form;have hn:=j.size_pos;have g7:=u.size_pos;obtain⟨gt,rfl⟩:=hA (by rw[JV.flat_len];omega);obtain⟨gu,rfl⟩:=f3 (by rw[JV.flat_len];omega);have hend:=Ds hf hp.sits (by omega);have g4:=hp.sits.bd;have g6:=x0.size_pos;have Hf:=Qa hf;have Hu:=Qa hu;rw[JV.flat_len] at e4 hm Hf hend d2 e8 Hu;rw[JV.flat_len j,JV.flat_len u];have b7:=Qa hend;have Hp:=Qa hp;have b9:Hid (∀x∈j.flat 0,x.names.length<=1000000/\x.kids.length<=1000000/\∀q∈x.kids,((mx (a+x0.size) x0.size u.size q:Nat):Int)= (if(a:Int)+x0.size<=q then(q:Int)+ ((u.size:Int) - ((a:Int)+x0.size - a)) else q)/\q<=1000000/\mx (a+x0.size) x0.size u.size q<=2000000):=Qa (fun x hx=>⟨f5 x hx,Zc (mO hx) (by omega),fun q hq=>by
  have:=qP j 0 x hx q hq;unfold mx
  by_cases h:a+x0.size<=q
  ·rw[if_pos h,if_pos (by omega)];omega
  ·rw[if_neg h,if_neg (by omega)];omega⟩)
 have e5:Hid (∀x∈u.flat 0,x.names.length<=1000000/\x.kids.length<=1000000/\∀q∈x.kids,(((· + a) q:Nat):Int)= (if(-1:Int)<=q then(q:Int)+ (a:Int) else q)/\q<=1000000/\(· + a) q<=2000000):=Qa (fun x hx=>⟨f1 x hx,Zc (mO hx) (by omega),fun q hq=>by
  have:=qP u 0 x hx q hq;rw[if_pos (by omega)];dsimp only;omega⟩)
 unfold maxLen at hm e8;clear hf hu hA f3 hend hp f5 f1;go_enter Tryz.func62,Tryz.ntmps62;go_wp2_with fail;refine Za b7 ?_;rintro e w1 ⟨rfl,e0⟩;have d9:=Qa e0;have f0:=Qa (Hf.out.below e0 (Zb _));have f9:=Qa (Hu.out.below e0 (Zb _));clear e0 Hf Hu b7;obtain⟨out1,f4⟩:∃l:List Nd, []=l:=⟨_,rfl⟩;have Ho1:=Qa f4;have b8:=Qa (show out1.length<=0 by rw[<-f4];simp);go_wp2_with fail
 go_loopw [9,10] (fun s9 s10 wr=>vU w1 (j.flat 0) out1 (mx (a+x0.size) x0.size u.size) 0 a s9 s10 wr) (fun _ v _=>a - (intOf v).toNat)
 case atStart=>exact⟨0,none,0,0,Zk _,Zk _,rfl,rfl,Ze _ _,by rw[<-Ho1.out];exact⟨[],⟨rfl,.inl ⟨rfl,rfl⟩⟩,bo.nil _,fun u hu=>by simp at hu⟩⟩
 case round=>
  obtain⟨k,A9,n9,q9,f2,a7,rfl,rfl,b0,a6⟩:=hrel;have a9:Hid (n9= (out1++ (((j).flat 0).take k |>.drop 0).map (Nd.mv (mx (a+x0.size) x0.size u.size))).length):=Qa (by obtain⟨_,_,e,_⟩:=a6.form;injection e);have Hbr:=Qa b0;have Hfo:=Qa a6;have a3:=b0.size;clear b0 a6
  by_cases hlt:k<a
  ·obtain⟨x,hx⟩:∃x,((j).flat 0)[k]?=some x:=⟨_,Zd (by rw[JV.flat_len];omega)⟩;have a2:=(f0.out.below Hbr.out (Zb _));obtain⟨vn,vk,h1,h2,h3⟩:=a2.node hx;have c0:=h3 0 _ rfl;rw[Nat.add_zero] at c0;have c1:=h3 1 _ rfl;have c2:=h3 2 _ rfl;have c3:=h3 3 _ rfl;have c4:=h3 4 _ rfl;have c5:=h3 5 _ rfl;have c6:=h3 6 _ rfl;have c7:=h3 7 _ rfl;have Hx:=Qa (dY (lo:=0) (by omega) hx);obtain⟨q1,q2,q3⟩:=b9.out x (Zl hx);obtain⟨xk,xt,xx,⟨xn1,xn2,xn3⟩,xns,xks⟩:=x;have b5:=rB h1 h2 q1 q2 (mx (a+x0.size) x0.size u.size) ((a:Int)+x0.size) ((u.size:Int) - ((a:Int)+x0.size - a)) q3 (xk:=xk) (xt:=xt) (xx:=xx) (xn1:=xn1) (xn2:=xn2) (xn3:=xn3)
   dsimp only at q1 q2
   obtain⟨Bn,bn,rfl,-,-,-⟩:=ag h1;obtain⟨Bk,bk,rfl,-,-,-⟩:=ag h2;simp only[ay] at c0 c1 c2 c3 c4 c5 c6 c7;have d4:=Qa b5;have hki:(k:Int)<a:=by omega
   have f6:k<j.size:=by omega
   clear h1 h2 h3 hx b5 a2 q3;go_wp2_with fail;refine Za d4 ?_;rintro e w2 ⟨An,cn,Ak,ck,rfl,a4,b2,a7⟩;have d0:=Qa a4;have b4:=Qa b2;have c9:=Qa a7;have a1:=a4.size;obtain⟨us,g1,g2,g3⟩:=Hfo.out.below a4 (Zb _);rw[<-a9.out] at g1;have b3:n9<=2000000:=by rw[a9.out];simp;have:=b8.out;omega
   have a0:=ac w2 (.cells #[.int .i64 xk,.bool xt,.string xx,.bool xn1,.string xn2,.int .i64 xn3,.slice An xns.length cn,.slice Ak xks.length ck] 70);have a5:=Qa (g1.below' a0);have d6:=Qa (g2.mono fun _ _ h=>h.below a0 (Zb _));have d1:=Qa g3;have d3:=Qa (ap w2 [.int .i64 xk,.bool xt,.string xx,.bool xn1,.string xn2,.int .i64 xn3,.slice An xns.length cn,.slice Ak xks.length ck] 70);clear c0 c1 c2 c3 c4 c5 c6 c7 a4 b2 a7 g1 g2 g3 a0;go_wp2_with (at_builtin;refine km rT a5.out d3.out (by simp;omega) ?_ (h1:=(by intro u hu;simp at hu;rcases hu with rfl|rfl|rfl|rfl|rfl|rfl|rfl|rfl <;> rfl));intro v9 w5 p1 p2 p3;have b6:=Qa p1;have b1:=Qa p2;clear p1 p2 p3);obtain⟨A9',q9',rfl,-⟩:=ag b6.out;have a0:=ac w2 (.cells #[.int .i64 xk,.bool xt,.string xx,.bool xn1,.string xn2,.int .i64 xn3,.slice An xns.length cn,.slice Ak xks.length ck] 70);have c8:=bj.snoc (y:=⟨xk,xt,xx,⟨xn1,xn2,xn3⟩,xns,xks.map (mx (a+x0.size) x0.size u.size)⟩) a5.out a9.out d6.out d1.out ⟨_,_,by simp[ay],(b4.out.below a0 (Zb _)).low (Zk _),(c9.out.below a0 (Zb _)).low (Zk _)⟩ (fun g e=>Zc a3 (aj b4.out e).1) b6.out b1.out;exact⟨⟨k+1,A9',n9+1,q9',by omega,by omega,by go_num,rfl,aY ((Hbr.out.trans (d0.out.mono a3)).alloc (Zc a3 a1) _) a5.out (Zc (Zc a3 a1) (by simp)) b1.out,by rw[Hx.out,List.map_append,<-List.append_assoc];exact c8⟩,by simp[intOf];omega⟩
  ·obtain rfl:a=k:=by omega
   obtain⟨wA,rfl⟩:∃wA:World,wA=wr:=⟨_,rfl⟩;obtain⟨out2,e2⟩:∃l:List Nd,(out1++ (((j.flat 0).take a).drop 0).map (Nd.mv (mx (a+x0.size) x0.size u.size)))=l:=⟨_,rfl⟩;have g0:=Qa e2;have d5:=Qa (show out2.length<=400000 by rw[<-e2];simp;have:=b8.out;omega);rw[e2] at Hfo;clear e2;go_wp2_with fail
   go_loopw [9,11] (fun s9 s11 wr=>vU w1 (u.flat 0) out2 (· + a) 0 u.size s9 s11 wr) (fun _ v _=>u.size - (intOf v).toNat)
   case atStart=>exact⟨0,A9,n9,q9,Zb _,Zk _,rfl,rfl,Hbr.out,by simpa using Hfo.out⟩
   case round=>
    obtain⟨k,A9,n9,q9,f2,a7,rfl,rfl,b0,a6⟩:=hrel;have a9:Hid (n9= (out2++ (((u).flat 0).take k |>.drop 0).map (Nd.mv (· + a))).length):=Qa (by obtain⟨_,_,e,_⟩:=a6.form;injection e);have Hbr:=Qa b0;have Hfo:=Qa a6;have a3:=b0.size;clear b0 a6
    by_cases hlt:k<u.size
    ·obtain⟨x,hx⟩:∃x,((u).flat 0)[k]?=some x:=⟨_,Zd (by rw[JV.flat_len];omega)⟩;have a2:=(f9.out.below Hbr.out (Zb _));obtain⟨vn,vk,h1,h2,h3⟩:=a2.node hx;have c0:=h3 0 _ rfl;rw[Nat.add_zero] at c0;have c1:=h3 1 _ rfl;have c2:=h3 2 _ rfl;have c3:=h3 3 _ rfl;have c4:=h3 4 _ rfl;have c5:=h3 5 _ rfl;have c6:=h3 6 _ rfl;have c7:=h3 7 _ rfl;have Hx:=Qa (dY (lo:=0) (by omega) hx);obtain⟨q1,q2,q3⟩:=e5.out x (Zl hx);obtain⟨xk,xt,xx,⟨xn1,xn2,xn3⟩,xns,xks⟩:=x;have b5:=rB h1 h2 q1 q2 (· + a) (-1) (a:Int) q3 (xk:=xk) (xt:=xt) (xx:=xx) (xn1:=xn1) (xn2:=xn2) (xn3:=xn3)
     dsimp only at q1 q2
     obtain⟨Bn,bn,rfl,-,-,-⟩:=ag h1;obtain⟨Bk,bk,rfl,-,-,-⟩:=ag h2;simp only[ay] at c0 c1 c2 c3 c4 c5 c6 c7;have d4:=Qa b5;have hki:(k:Int)<u.size:=by omega
     have f6:k<u.size:=by omega
     clear h1 h2 h3 hx b5 a2 q3;go_wp2_with fail;refine Za d4 ?_;rintro e w2 ⟨An,cn,Ak,ck,rfl,a4,b2,a7⟩;have d0:=Qa a4;have b4:=Qa b2;have c9:=Qa a7;have a1:=a4.size;obtain⟨us,g1,g2,g3⟩:=Hfo.out.below a4 (Zb _);rw[<-a9.out] at g1;have b3:n9<=2000000:=by rw[a9.out];simp;have:=d5.out;omega
     have a0:=ac w2 (.cells #[.int .i64 xk,.bool xt,.string xx,.bool xn1,.string xn2,.int .i64 xn3,.slice An xns.length cn,.slice Ak xks.length ck] 70);have a5:=Qa (g1.below' a0);have d6:=Qa (g2.mono fun _ _ h=>h.below a0 (Zb _));have d1:=Qa g3;have d3:=Qa (ap w2 [.int .i64 xk,.bool xt,.string xx,.bool xn1,.string xn2,.int .i64 xn3,.slice An xns.length cn,.slice Ak xks.length ck] 70);clear c0 c1 c2 c3 c4 c5 c6 c7 a4 b2 a7 g1 g2 g3 a0;go_wp2_with (at_builtin;refine km rT a5.out d3.out (by simp;omega) ?_ (h1:=(by intro u hu;simp at hu;rcases hu with rfl|rfl|rfl|rfl|rfl|rfl|rfl|rfl <;> rfl));intro v9 w5 p1 p2 p3;have b6:=Qa p1;have b1:=Qa p2;clear p1 p2 p3);obtain⟨A9',q9',rfl,-⟩:=ag b6.out;have a0:=ac w2 (.cells #[.int .i64 xk,.bool xt,.string xx,.bool xn1,.string xn2,.int .i64 xn3,.slice An xns.length cn,.slice Ak xks.length ck] 70);have c8:=bj.snoc (y:=⟨xk,xt,xx,⟨xn1,xn2,xn3⟩,xns,xks.map (· + a)⟩) a5.out a9.out d6.out d1.out ⟨_,_,by simp[ay],(b4.out.below a0 (Zb _)).low (Zk _),(c9.out.below a0 (Zb _)).low (Zk _)⟩ (fun g e=>Zc a3 (aj b4.out e).1) b6.out b1.out;exact⟨⟨k+1,A9',n9+1,q9',by omega,by omega,by go_num,rfl,aY ((Hbr.out.trans (d0.out.mono a3)).alloc (Zc a3 a1) _) a5.out (Zc (Zc a3 a1) (by simp)) b1.out,by rw[Hx.out,List.map_append,<-List.append_assoc];exact c8⟩,by simp[intOf];omega⟩
    ·obtain rfl:u.size=k:=by omega
     obtain⟨wB,rfl⟩:∃wB:World,wB=wr:=⟨_,rfl⟩;obtain⟨out3,e1⟩:∃l:List Nd,(out2++ (((u.flat 0).take u.size).drop 0).map (Nd.mv (· + a)))=l:=⟨_,rfl⟩;have f8:=Qa e1;have e6:=Qa (show out3.length<=800000 by rw[<-e1];simp;have:=d5.out;omega);rw[e1] at Hfo;clear e1;go_wp2_with fail
     go_loopw [9,12] (fun s9 s12 wr=>vU w1 (j.flat 0) out3 (mx (a+x0.size) x0.size u.size) (a+x0.size) j.size s9 s12 wr) (fun _ v _=>j.size - (intOf v).toNat)
     case atStart=>exact⟨a+x0.size,A9,n9,q9,Zb _,by omega,by go_num,rfl,Hbr.out,by rw[List.drop_eq_nil_of_le (by rw[List.length_take];omega)];simpa using Hfo.out⟩
     case round=>
      obtain⟨k,A9,n9,q9,f2,a7,rfl,rfl,b0,a6⟩:=hrel;have a9:Hid (n9= (out3++ (((j).flat 0).take k |>.drop (a+x0.size)).map (Nd.mv (mx (a+x0.size) x0.size u.size))).length):=Qa (by obtain⟨_,_,e,_⟩:=a6.form;injection e);have Hbr:=Qa b0;have Hfo:=Qa a6;have a3:=b0.size;clear b0 a6
      by_cases hlt:k<j.size
      ·obtain⟨x,hx⟩:∃x,((j).flat 0)[k]?=some x:=⟨_,Zd (by rw[JV.flat_len];omega)⟩;have a2:=(f0.out.below Hbr.out (Zb _));obtain⟨vn,vk,h1,h2,h3⟩:=a2.node hx;have c0:=h3 0 _ rfl;rw[Nat.add_zero] at c0;have c1:=h3 1 _ rfl;have c2:=h3 2 _ rfl;have c3:=h3 3 _ rfl;have c4:=h3 4 _ rfl;have c5:=h3 5 _ rfl;have c6:=h3 6 _ rfl;have c7:=h3 7 _ rfl;have Hx:=Qa (dY (lo:=(a+x0.size)) (by omega) hx);obtain⟨q1,q2,q3⟩:=b9.out x (Zl hx);obtain⟨xk,xt,xx,⟨xn1,xn2,xn3⟩,xns,xks⟩:=x;have b5:=rB h1 h2 q1 q2 (mx (a+x0.size) x0.size u.size) ((a:Int)+x0.size) ((u.size:Int) - ((a:Int)+x0.size - a)) q3 (xk:=xk) (xt:=xt) (xx:=xx) (xn1:=xn1) (xn2:=xn2) (xn3:=xn3)
       dsimp only at q1 q2
       obtain⟨Bn,bn,rfl,-,-,-⟩:=ag h1;obtain⟨Bk,bk,rfl,-,-,-⟩:=ag h2;simp only[ay] at c0 c1 c2 c3 c4 c5 c6 c7;have d4:=Qa b5;have hki:(k:Int)<j.size:=by omega
       have f6:k<j.size:=by omega
       clear h1 h2 h3 hx b5 a2 q3;go_wp2_with fail;refine Za d4 ?_;rintro e w2 ⟨An,cn,Ak,ck,rfl,a4,b2,a7⟩;have d0:=Qa a4;have b4:=Qa b2;have c9:=Qa a7;have a1:=a4.size;obtain⟨us,g1,g2,g3⟩:=Hfo.out.below a4 (Zb _);rw[<-a9.out] at g1;have b3:n9<=2000000:=by rw[a9.out];simp;have:=e6.out;omega
       have a0:=ac w2 (.cells #[.int .i64 xk,.bool xt,.string xx,.bool xn1,.string xn2,.int .i64 xn3,.slice An xns.length cn,.slice Ak xks.length ck] 70);have a5:=Qa (g1.below' a0);have d6:=Qa (g2.mono fun _ _ h=>h.below a0 (Zb _));have d1:=Qa g3;have d3:=Qa (ap w2 [.int .i64 xk,.bool xt,.string xx,.bool xn1,.string xn2,.int .i64 xn3,.slice An xns.length cn,.slice Ak xks.length ck] 70);clear c0 c1 c2 c3 c4 c5 c6 c7 a4 b2 a7 g1 g2 g3 a0;go_wp2_with (at_builtin;refine km rT a5.out d3.out (by simp;omega) ?_ (h1:=(by intro u hu;simp at hu;rcases hu with rfl|rfl|rfl|rfl|rfl|rfl|rfl|rfl <;> rfl));intro v9 w5 p1 p2 p3;have b6:=Qa p1;have b1:=Qa p2;clear p1 p2 p3);obtain⟨A9',q9',rfl,-⟩:=ag b6.out;have a0:=ac w2 (.cells #[.int .i64 xk,.bool xt,.string xx,.bool xn1,.string xn2,.int .i64 xn3,.slice An xns.length cn,.slice Ak xks.length ck] 70);have c8:=bj.snoc (y:=⟨xk,xt,xx,⟨xn1,xn2,xn3⟩,xns,xks.map (mx (a+x0.size) x0.size u.size)⟩) a5.out a9.out d6.out d1.out ⟨_,_,by simp[ay],(b4.out.below a0 (Zb _)).low (Zk _),(c9.out.below a0 (Zb _)).low (Zk _)⟩ (fun g e=>Zc a3 (aj b4.out e).1) b6.out b1.out;exact⟨⟨k+1,A9',n9+1,q9',by omega,by omega,by go_num,rfl,aY ((Hbr.out.trans (d0.out.mono a3)).alloc (Zc a3 a1) _) a5.out (Zc (Zc a3 a1) (by simp)) b1.out,by rw[Hx.out,List.map_append,<-List.append_assoc];exact c8⟩,by simp[intOf];omega⟩
      ·obtain rfl:j.size=k:=by omega
       have e3:=Hfo.out;go_wp2_with fail;go_ret;refine⟨_,rfl,d9.out.trans (Hbr.out.mono d9.out.size),?_⟩;have h:=(e3.low d9.out.size).imp (Q:=(w.heap.size<= ·)) (fun g a _=>Zc d9.out.size a)
       rwa[<-f8.out,<-g0.out,<-Ho1.out,CF Hp.out] at h
