import Derived.Test.YtgkkffeagolnpaaGreatDoorGZ16bj
set_option linter.unusedVariables false
set_option linter.unusedSimpArgs false
set_option maxHeartbeats 64000000
set_option maxRecDepth 100000
namespace Go.Proofs.YtgkkffeagolnpaaGreatDoor
open Go.RowKit Go.Shelf
variable {l:List ByteArray}{xs ys:List UInt8}{us:List Value}{b1 b2 base i n:Nat}{u v:Value}{w w':World}
def uj (B:Nat)(w:World)(v:Value)(p:Nat):Prop:= ∃g,v =.slice (some ⟨g,0,none⟩) 1 1/\B<=g/\w.cell? ⟨g,1,none⟩=some (.int .i64 p)
def Ie (c:Int)(p:Nat)(w:World)(e:Ending)(w':World):Prop:= ∃s,e =.returned (gF c 0 0 s)/\uj w.heap.size w' s p/\Below w.heap.size w w'
theorem jD (c:Int)(p:Nat)(w:World):Calls Tryz.prog 59 #[.int .i64 c,.int .i64 p] w (Ie c p w):=by
 go_enter Tryz.func59,Tryz.ntmps59;go_wp2;refine Zh (results_cell_row Tryz.results59 _ _ w.heap.size 66 #[.int .i64 c,.int .i64 0,.int .i64 0,.slice (some ⟨w.heap.size+1,0,none⟩) 1 1] (0,0) _ (by simp) ?_ Tryz.underlying66 rfl dm) rfl ⟨_,rfl,⟨w.heap.size+1,rfl,by omega,?_⟩,?_⟩
 ·exact(Below.heap_alloc _ _ _ (by simp)).trans (Zf w _)
 ·have:=av (w.alloc (.cells #[.int .i64 c,.int .i64 0,.int .i64 0,.slice (some ⟨w.heap.size+1,0,none⟩) 1 1] 66)) [.bool false,.int .i64 p,.string es] 117 1 _ rfl
  rwa[World.size_alloc] at this
 ·exact aj (aa _ _) (aa _ _)
def zL (xs:List UInt8):Prop:= ∃cs:List Int,(∀c∈cs,cA c=true)/\xs=cs.flatMap a7
theorem zL.nil:zL []:=⟨[],fun _ h=>(by cases h),rfl⟩
theorem zL.next {k:Nat}(h:zL (xs.take k))(hd:(bg (xs.drop k)).2.2=0):zL (xs.take (k+ (bg (xs.drop k)).2.1)):=by
 obtain⟨cs,h1,h2⟩:=h;obtain⟨h3,h4⟩:=il hd;refine⟨cs ++ [((bg (xs.drop k)).1:Int)],fun c hc=>?_,?_⟩
 ·rcases List.mem_append.1 hc with hc|hc
  ·exact h1 c hc
  ·rw[List.mem_singleton.1 hc];exact h4
 ·rw[List.take_add,h2,<-h3,List.flatMap_append];simp
theorem kV {fn:Func}{p u q:Tmp}(h:fn.results = #[.tmp p,.tmp u,.cell q 66])(tmps:Array Value)(w:World)(g:Nat)(t:TypeId)(c0 c1 c2 c3:Value)(fr:Nat×Nat)
  (hp:tmps.getD q undef =.pointer (some ⟨g,0,none⟩)) (hg:w.heap[g]?=some (.cells #[c0,c1,c2,c3] t fr)) :
  (results fn tmps).run Tryz.prog w =.ok (.tuple #[tmps.getD p undef,tmps.getD u undef,.agg #[c0,c1,c2,c3]]) w:=by
 have a0:tmps[q]?.getD undef =.pointer (some ⟨g,0,none⟩):=by simpa using hp
 have hl:=run_loadVar_row (P:=Tryz.prog) w g t 66 #[c0,c1,c2,c3] fr _ hg Tryz.underlying66 rfl dm;simp[results,h,a0,asAddr,hl]
def Gg (xs:List UInt8)(w:World)(e:Ending)(w':World):Prop:= ∃ (v1 v2:Value) (c h l:Int) (A:Option Addr) (n q:Nat),e =.returned (.tuple #[v1,v2,gF c h l (.slice A n q)])/\(c=0->zL xs)/\(c≠0->∃p,p<xs.length/\uj w.heap.size w' (.slice A n q) p)/\Below w.heap.size w w'
def GP (xs:List UInt8)(w0:World)(s5 s6 s7:Value)(wr:World):Prop:= ∃ (k m:Nat) (us vs:List Value),m<=k/\k<=xs.length/\s7 =.int .i64 k/\zL (xs.take k)/\wr.ownsRow w0.heap.size 3 1 s5 m us/\wr.ownsRow w0.heap.size 21 1 s6 m vs/\Below w0.heap.size w0 wr
theorem sd {n1 n2 k1 k2:Nat}{e1 e2:TypeId}{vs:List Value}(h:w.ownsRow b1 e1 k1 v n1 us)(k:w.ownsRow b2 e2 k2 u n2 vs)(he:e1≠e2):∀g,v.ownBlock=some g->u.ownBlock≠some g:=by
 intro g h1 h2;obtain⟨_,c1,h3⟩:=ao h h1;obtain⟨_,c2,h4⟩:=ao k h2;rw[h3] at h4;injection h4 with h4
 injection h4 with _ h4 _
 exact he h4
theorem yB (hb:Bs w v xs)(hlen:xs.length<=2000000):Calls Tryz.prog 91 #[v] w (Gg xs w):=by
 obtain⟨hm,A,cap,rfl,g2,a9⟩:=id hb;have c2:=aa w (.cells #[.int .i64 0,.int .i64 0,.int .i64 0,.slice none 0 0] 66);have b3:=Zf w (.cells #[.int .i64 0,.int .i64 0,.int .i64 0,.slice none 0 0] 66);have b2:(w.alloc (.cells #[.int .i64 0,.int .i64 0,.int .i64 0,.slice none 0 0] 66)).heap.size=w.heap.size+1:=by simp
 have Hb:=Qa (hb.below c2);have c5:=Qa c2;have c0:=Qa b3;have d4:=Qa b2;clear hb a9 c2 b3 b2;go_enter Tryz.func91,Tryz.ntmps91;go_wp2_with fail;generalize (w.alloc (.cells #[.int .i64 0,.int .i64 0,.int .i64 0,.slice none 0 0] 66))=w0 at *
 go_loopw [5,6,7,8,9,10] (fun s5 s6 s7 _ _ _ wr=>GP xs w0 s5 s6 s7 wr) (fun _ _ i _ _ _ _=>xs.length - (intOf i).toNat)
 case atStart=>exact⟨0,0, [], [],Zb _,Zj _,rfl,by rw[List.take_zero];exact zL.nil,World.ownsRow_nil _ _ _ _,World.ownsRow_nil _ _ _ _,Ze _ _⟩
 case round=>
  obtain⟨k,m,us,vs,hmk,hk,rfl,c9,f3,f0,f2⟩:=hrel;have e4:=Qa c9;have f7:=Qa f3;have h0:=Qa f0;have a3:=Qa f2;clear c9 f3 f0 f2;have d2:=Qa (Hb.out.below a3.out);have a2:=Qa ((a3.out.block w.heap.size (by rw[d4.out];omega)).trans c0.out)
  by_cases hlt:k<xs.length
  ·obtain⟨-,A',c',e',-,d0⟩:=id d2.out;injection e' with e1 e2 e3
   subst e1 e3;obtain⟨b0,o0,rfl,-⟩:=d0 (by omega);have h7:¬cap=k:=by omega
   have hcut:=Qa (d2.out.cut hk);have hle:=dR xs k hk;clear d0 e2;go_wp2_with fail;refine(wt hcut.out).mono ?_;rintro e w2 ⟨⟨code,rfl,a1⟩,d5⟩;have a4:=Qa d5;clear d5
   by_cases hz:(bg (xs.drop k)).2.2=0
   ·have d1:code=0:=a1.2 hz;subst d1;clear a1;have hp:=ei hz;have g8:=Qa (e4.out.next hz);generalize (bg (xs.drop k)).1=cc at *;generalize (bg (xs.drop k)).2.1=nn at *;clear hz;have b5:w0.heap.size<=w2.heap.size:=Zc a3.out.size a4.out.size;have b9:=Qa (ai (ai f7.out a4.out (Zb _)) (aa w2 (.cells #[.int .i64 (k:Int)] 3)) (Zb _));have f6:=Qa (av w2 [.int .i64 (k:Int)] 3);have d6:=Qa ((a3.out.trans (a4.out.mono a3.out.size)).alloc b5 (.cells #[.int .i64 (k:Int)] 3));have b4:=Qa (ai (ai h0.out a4.out (Zb _)) (aa w2 (.cells #[.int .i64 (k:Int)] 3)) (Zb _));have g0:=Qa (sd b9.out b4.out (by decide));go_upto_region 9 with (at_builtin;refine dY Jb rfl (.tmp 30) (.tmp 32) rfl w0.heap.size u5 m w2.heap.size 1 1 us [.int .i64 (k:Int)] (by simp[Act.eval]) b9.out (by simp[Act.eval]) rfl f6.out (by simp[Value.oneCell']) (by unfold maxLen;omega) (by omega) (by simp;omega) ?_;intro v5 w5 h1 h2 h3;have g7:=Qa h1;have d9:=Qa h2;clear h1 h2 h3)
    have c4:=Qa (World.ownsRow.kept b4.out d9.out (by
     by_cases he:u6.ownBlock=none
     ·exact .inl he
     ·obtain⟨g6,c8⟩:=Option.ne_none_iff_exists'.1 he;exact .inr (fun e=>g0.out g6 (by rw[<-e];exact c8) c8)))
    have e0:=Qa (aF d6.out b9.out d6.out.size d9.out);have f8:=e0.out.size;have c3:=Qa (ai c4.out (aa w5 (.cells #[.int .i32 (cc:Int)] 21)) (Zb _));have h5:=Qa (av w5 [.int .i32 (cc:Int)] 21);have e6:=Qa (e0.out.alloc f8 (.cells #[.int .i32 (cc:Int)] 21));have b1:=Qa (ai g7.out (aa w5 (.cells #[.int .i32 (cc:Int)] 21)) (Zb _));have h6:=Qa (sd b1.out c3.out (by decide));go_wp2_with (at_builtin;refine dY uR rfl (.tmp 34) (.tmp 36) rfl w0.heap.size u6 m w5.heap.size 1 1 vs [.int .i32 (cc:Int)] (by simp[Act.eval]) c3.out (by simp[Act.eval]) rfl h5.out (by simp[Value.oneCell']) (by unfold maxLen;omega) (by omega) (by simp;omega) ?_;intro v6 w6 h1 h2 h3;have g4:=Qa h1;have d3:=Qa h2;clear h1 h2 h3);have c6:=World.ownsRow.kept b1.out d3.out (by
     by_cases he:v5.ownBlock=none
     ·exact .inl he
     ·obtain⟨g5,f1⟩:=Option.ne_none_iff_exists'.1 he;exact .inr (fun e=>h6.out g5 f1 (by rw[<-e];exact f1)))
    exact⟨⟨k+nn,m+1,_,_,by omega,by omega,by go_num,g8.out,c6,g4.out,aF e6.out c3.out e6.out.size d3.out⟩,by simp[intOf];omega⟩
   ·have d1:(code !=0)=true:=by
     have:code≠0:=fun h=>hz (a1.1 h)
     simpa using this
    have f9:=Qa (show code≠0 from fun h=>hz (a1.1 h));clear a1 hz;go_wp2_with fail;refine(jD code k w2).mono ?_;rintro e w3 ⟨s,rfl,⟨g3,rfl,e5,f4⟩,a5⟩;have c7:=Qa (And.intro e5 f4);clear e5 f4;unfold gF;have c1:=Qa a5;have a0:=Qa (((aj a4.out a5).block w.heap.size (ak a2.out)).trans a2.out);clear a5;go_wp2_with (refine wpList_store_rowTo rfl 66 (.tmp 4) (.tmp 29) rfl rfl w.heap.size #[.int .i64 code,.int .i64 0,.int .i64 0,.slice (some ⟨g3,0,none⟩) 1 1] (by simp[Act.eval]) (by simp[Act.eval]) 66 _ a0.out dm rfl (p8 code 0 0 rfl) ?_);exact Zh (kV Tryz.results91 _ _ w.heap.size 66 _ _ _ _ (0,0) (by simp) (setRow_heap _ _ _ _ _ _ a0.out)) rfl ⟨u5,u6,code,0,0,_,1,1,rfl,fun e=>absurd e f9.out,fun _=>⟨k,hlt,g3,rfl,Zc (aj c5.out (aj a3.out a4.out)).size c7.out.1,(aD _ _ _).cell c7.out.2 (fun e=>by have h1:=c7.out.1;have h2:=(aj a3.out a4.out).size;have h3:=d4.out;have h4:=Zi e;simp only at h4;omega)⟩,below_setRow (aj c5.out (aj a3.out (aj a4.out c1.out))) (Zb _) _⟩
  ·obtain g1:k=xs.length:=by omega
   subst g1;have b8:=Qa (show zL xs by have h:=e4.out;rwa[List.take_length] at h);go_wp2_with fail;refine(gX 0 wr).mono ?_;rintro e w3 ⟨v,rfl,⟨hh,ll,s,rfl,f5⟩,a5⟩;obtain⟨fA,fn,fq,rfl,-⟩:=f5.slice;unfold gF;have c1:=Qa a5;have a0:=Qa ((a5.block w.heap.size (ak a2.out)).trans a2.out);clear a5;go_wp2_with (refine wpList_store_rowTo rfl 66 (.tmp 4) (.tmp 43) rfl rfl w.heap.size #[.int .i64 0,.int .i64 hh,.int .i64 ll,.slice fA fn fq] (by simp[Act.eval]) (by simp[Act.eval]) 66 _ a0.out dm rfl (p8 0 hh ll rfl) ?_);exact Zh (kV Tryz.results91 _ _ w.heap.size 66 _ _ _ _ (0,0) (by simp) (setRow_heap _ _ _ _ _ _ a0.out)) rfl ⟨u5,u6,0,hh,ll,fA,fn,fq,rfl,fun _=>b8.out,fun e=>absurd rfl e,below_setRow (aj c5.out (aj a3.out c1.out)) (Zb _) _⟩
def Gu (xs:List UInt8)(w:World)(e:Ending)(w':World):Prop:= ∃ (c h l:Int) (A:Option Addr) (n q:Nat),e =.returned (gF c h l (.slice A n q))/\(c=0->zL xs)/\(c≠0->∃p,p<xs.length/\uj w.heap.size w' (.slice A n q) p)/\Below w.heap.size w w'
theorem kQ (hb:Bs w v xs)(hlen:xs.length<=2000000):Calls Tryz.prog 61 #[v] w (Gu xs w):=by
 have a4:=aa w (.cells #[.int .i64 0,.int .i64 0,.int .i64 0,.slice none 0 0] 66);have a3:=Qa (Zf w (.cells #[.int .i64 0,.int .i64 0,.int .i64 0,.slice none 0 0] 66));have Hc:=Qa (yB (hb.below a4) hlen);have b1:=Qa a4;clear hb a4;go_enter Tryz.func61,Tryz.ntmps61;go_wp2_with fail;refine Za Hc ?_;rintro e w2 ⟨v1,v2,c,hh,ll,fA,fn,fq,rfl,a9,b2,a2⟩;have b0:=Qa (And.intro a9 b2);clear b2;have b4:=Qa a2;have a0:=Qa ((a2.block w.heap.size (by simp)).trans a3.out);have a5:=aa w2 (.cells #[.int .i64 c,.int .i64 hh,.int .i64 ll,.slice fA fn fq] 66);have a1:=Qa ((a5.block w.heap.size (ak a0.out)).trans a0.out);have b3:=Qa (b1.out.trans ((a2.trans (a5.mono a2.size)).mono b1.out.size));unfold gF;clear a9 a2 a5 Hc;go_wp2_with (refine wpList_store_rowTo rfl 66 (.tmp 2) (.tmp 12) rfl rfl w.heap.size #[.int .i64 c,.int .i64 hh,.int .i64 ll,.slice fA fn fq] (by simp[Act.eval]) (by simp[Act.eval]) 66 _ a1.out dm rfl (p8 c hh ll rfl) ?_);refine Zh (results_cell_row Tryz.results61 _ _ w.heap.size 66 #[.int .i64 c,.int .i64 hh,.int .i64 ll,.slice fA fn fq] (0,0) _ (by simp) (setRow_heap _ _ _ _ _ _ a1.out) Tryz.underlying66 rfl dm) rfl ⟨c,hh,ll,fA,fn,fq,rfl,b0.out.1,fun hc=>by
  obtain⟨p,hp,g,e1,e2,e3⟩:=b0.out.2 hc;exact⟨p,hp,g,e1,by simp at e2;omega,(aD _ _ _).cell (Zg (aa _ _) e3) (fun e=>by have h4:=Zi e;simp at e2 h4;omega)⟩,below_setRow b3.out (Zb _) _⟩
def GL (xs:List UInt8)(w:World)(e:Ending)(w':World):Prop:=w=w'/\∃z:Nat,e =.returned (.int .i64 z)/\z<=xs.length/\(z=xs.length->mu xs)
theorem lT (h:i<xs.length)(hb:am xs i=n)(hn:n<256):xs[i]?=some (UInt8.ofNat n):=by
 rw[Zd h];unfold am at hb;rw[List.getD_eq_getElem?_getD,Zd h] at hb;simp at hb;rw[<-hb];simp
def oQ (xs:List UInt8)(i:Nat):Prop:= ∀j:Nat,j<i->xs[j]?=some 126->xs[j+1]?=some 48\/xs[j+1]?=some 49
theorem oQ.next (h:oQ xs i)(hi:xs[i]?=some 126->xs[i+1]?=some 48\/xs[i+1]?=some 49):oQ xs (i+1):=fun j hj hx=>by
 rcases Nat.lt_or_ge j i with h1|h1
 ·exact h j h1 hx
 ·obtain rfl:j=i:=by omega
  exact hi hx
theorem oQ.all (h:oQ xs xs.length):mu xs:=pJ.2 fun j hx=>h j (List.getElem?_eq_some_iff.1 hx).1 hx
theorem ox (hb:Bs w v xs)(hl:xs.length<=1000000000):Calls Tryz.prog 60 #[v] w (GL xs w):=by
 obtain⟨-,A,cap,rfl,a4,a0⟩:=hb;have Hc:=Qa a0;clear a0;go_enter Tryz.func60,Tryz.ntmps60;go_wp2_with fail
 go_loopg [3] xs.length (fun m s3 wr=> ∃i:Nat,m+i=xs.length/\s3 =.int .i64 i/\Hid (oQ xs i)/\w=wr)
 case atStart=>exact⟨0,rfl,rfl,Qa (fun j hj=>by omega),rfl⟩
 case round=>
  obtain⟨i,hm,rfl,Ht,rfl⟩:=hrel;have Hm:=Qa hm
  by_cases hlt:i<xs.length
  ·have a3:(i:Int)<xs.length:=by omega
   obtain⟨b0,o0,rfl,a1⟩:=Hc.out (by omega);have c0:=a1 i hlt
   by_cases hx:am xs i=126
   ·have hb:(((am xs i:Nat):Int)==126)=true:=by rw[hx];rfl
    by_cases hend:i+1=xs.length
    ·have a9:((i:Int)+1== (xs.length:Int))=true:=by rw[beq_iff_eq];omega
     clear hx a1;go_wp2_with fail;go_ret;exact⟨rfl,i,rfl,by omega,fun e=>by omega⟩
    ·have a9:((i:Int)+1== (xs.length:Int))=false:=by rw[beq_eq_false_iff_ne];omega
     have a2:i+1<xs.length:=by omega
     have c1:=a1 (i+1) a2
     by_cases h48:am xs (i+1)=48
     ·have b1:(((am xs (i+1):Nat):Int) !=48)=false:=by rw[h48];rfl
      have Hn:=Qa (Ht.out.next (fun _=>.inl (lT a2 h48 (by decide))));clear hx a1 h48;go_wp2_with fail;go_roundg (xs.length - (i+1))
      case measure=>have:=Hm.out;omega
      case rel=>exact⟨i+1,by omega,by go_num,Hn,rfl⟩
     ·have b1:(((am xs (i+1):Nat):Int) !=48)=true:=by rw[bne_iff_ne];omega
      by_cases h49:am xs (i+1)=49
      ·have a5:(((am xs (i+1):Nat):Int) !=49)=false:=by rw[h49];rfl
       have Hn:=Qa (Ht.out.next (fun _=>.inr (lT a2 h49 (by decide))));clear hx a1 h48 h49;go_wp2_with fail;go_roundg (xs.length - (i+1))
       case measure=>have:=Hm.out;omega
       case rel=>exact⟨i+1,by omega,by go_num,Hn,rfl⟩
      ·have a5:(((am xs (i+1):Nat):Int) !=49)=true:=by rw[bne_iff_ne];omega
       clear hx a1 h48 h49;go_wp2_with fail;go_ret;exact⟨rfl,i,rfl,by omega,fun e=>by omega⟩
   ·have hb:(((am xs i:Nat):Int)==126)=false:=by rw[beq_eq_false_iff_ne];omega
    have Hn:=Qa (Ht.out.next (fun h=>absurd (by
     unfold am;rw[List.getD_eq_getElem?_getD,h];rfl) hx))
    clear hx a1;go_wp2_with fail;go_roundg (xs.length - (i+1))
    case measure=>have:=Hm.out;omega
    case rel=>exact⟨i+1,by omega,by go_num,Hn,rfl⟩
  ·obtain rfl:i=xs.length:=by omega
   have a3:¬ (xs.length:Int)<xs.length:=by omega
   clear hm hlt Hm;go_wp2_with fail;go_ret;exact⟨rfl,_,rfl,Zb _,fun _=>Ht.out.all⟩
theorem IJ:da 28 5 (.int .u8 0) 1 1:=⟨Tryz.underlying28,by kernel_rfl,rfl,by decide⟩
theorem aq.snoc {c:UInt8}(h:w.ownsRow base 5 1 v (ys.length+1) (eB ys ++ [.int .u8 c.toNat])):aq w base v (ys ++ [c]):=by
 unfold aq;rw[List.length_append];have:eB (ys ++ [c])=eB ys ++ [.int .u8 c.toNat]:=by simp[eB,bv]
 rw[this];exact h
theorem jl (h:aV w b1 v l)(he:aq w b2 u ys)(hg:w.grownBy w' u.ownBlock):aV w' b1 v l:=by
 refine World.ownsRow.kept h hg ?_
 cases hv:v.ownBlock with
 |none=>exact .inl rfl
 |some k=>
  refine .inr fun e=>?_
  obtain⟨-,c1,h1⟩:=ao h hv;obtain⟨-,c2,h2⟩:=ao he e.symm;rw[h1] at h2;injection h2 with h2
  injection h2 with _ h2 _
  exact absurd h2 (by decide)
def J4 (w:World)(i:Nat)(s7 s8:Value)(wr:World):Prop:=(∃l:List ByteArray,l.length<=i/\aV wr w.heap.size s7 l)/\(∃ys:List UInt8,ys.length<=i/\aq wr w.heap.size s8 ys)/\Below w.heap.size w wr
def Ko (s:ByteArray)(w:World)(e:Ending)(w':World):Prop:= ∃ (u:Value) (c h l:Int) (A:Option Addr) (n q:Nat),e =.returned (.tuple #[u,gF c h l (.slice A n q)])/\(c=0->aW s)/\Below w.heap.size w w'
theorem kY {s:ByteArray}(hs:s.size<=2000000):Calls Tryz.prog 30 #[.string s] w (Ko s w):=by
 have hl:s.data.toList.length=s.size:=by simp
 have h4:=aa w (.cells #[.int .i64 0,.int .i64 0,.int .i64 0,.slice none 0 0] 66);have f2:=Zf w (.cells #[.int .i64 0,.int .i64 0,.int .i64 0,.slice none 0 0] 66);have d9:(w.alloc (.cells #[.int .i64 0,.int .i64 0,.int .i64 0,.slice none 0 0] 66)).heap.size=w.heap.size+1:=by simp
 obtain⟨W2,cap,f3,f5,f7⟩:=FX (w.alloc (.cells #[.int .i64 0,.int .i64 0,.int .i64 0,.slice none 0 0] 66)) s (by omega);rw[World.size_alloc] at f3 f7;have c5:=Qa ((f5.block w.heap.size (by rw[d9];omega)).trans f2);have d5:=Qa (aj h4 f5);have e2:=Qa f7;have b2:w.heap.size+1<=W2.heap.size:=by have:=f5.size;omega
 have g1:=Qa b2;clear h4 f5 f7 f2 d9 b2;have f8:=Qa (show ∀ (i:Nat) (c:UInt8),s.data.toList[i]?=some c->W2.cell? ⟨w.heap.size+1,i,none⟩=some (.int .u8 (c.toNat:Nat)) from by
  intro i c hx;have hi:=(List.getElem?_eq_some_iff.1 hx).1;obtain⟨-,A,q,e',-,h9⟩:=e2.out;obtain⟨b0,o0,rfl,g2⟩:=h9 (by omega);obtain⟨e1,-,-⟩:=Value.slice.inj e';obtain⟨e4,e5,-⟩:=Addr.mk.inj (Zi e1);subst e4 e5;have:=g2 i hi;rw[Nat.zero_add] at this;rw[this];unfold am;rw[List.getD_eq_getElem?_getD,hx];rfl)
 have Hl:=Qa hl;rcases Nat.eq_zero_or_pos s.size with hz|i3
 ·have f1:s.data.toList = []:=List.eq_nil_of_length_eq_zero (by omega);have HP:=Qa (show zL s.data.toList/\mu s.data.toList->aW s from fun _=>.inl f1);have f6:¬ (0:Int)<s.size:=by omega
  clear f1 hz;go_enter Tryz.func30,Tryz.ntmps30;go_wp2_with fail;refine(ox e2.out (by have:=Hl.out;omega)).mono ?_;rintro e w' ⟨rfl,z,rfl,f0,b2⟩;rw[Hl.out] at f0 b2;have f9:=Qa b2;clear b2 hl;go_wp2_with fail;refine(kQ e2.out (by have:=Hl.out;omega)).mono ?_;rintro e w3 ⟨c3,h3,l3,A3,n3,q3,rfl,c9,c8,b1⟩;unfold gF;have g6:=Qa c9;have c7:=Zf w3 (.cells #[.int .i64 0,.int .i64 0,.int .i64 0,.slice none 0 0] 66);have HZ:=Qa c7;have c6:=below_setRow (aa w3 (.cells #[.int .i64 0,.int .i64 0,.int .i64 0,.slice none 0 0] 66)) (Zb _) #[.int .i64 c3,.int .i64 h3,.int .i64 l3,.slice A3 n3 q3];have a0:=setRow_heap (w3.alloc (.cells #[.int .i64 0,.int .i64 0,.int .i64 0,.slice none 0 0] 66)) w3.heap.size _ #[.int .i64 c3,.int .i64 h3,.int .i64 l3,.slice A3 n3 q3] _ _ c7;clear c7;have a9:=Qa (aj b1 c6);have a1:=Qa ((a9.out.block w.heap.size (by have:=g1.out;omega)).trans c5.out);have d0:=ac a0 (j:=0) (u:=.int .i64 c3) rfl;have d3:=ac a0 (j:=3) (u:=.slice A3 n3 q3) rfl;have b8:=Qa (fun (i:Nat) (c:UInt8) (h:s.data.toList[i]?=some c)=>Zg a9.out (f8.out i c h))
  by_cases hc3:c3=0
  ·subst hc3;clear c9 c8 b1 c6
   by_cases hzl:z=s.size
   ·obtain rfl:=hzl;have b3:=Qa (f9.out rfl);have b4:=Qa (HP.out ⟨g6.out rfl,b3.out⟩);clear f0;go_wp2_with (refine eX HZ.out ?_);clear d0 d3 a0;generalize (w3.alloc (.cells #[.int .i64 0,.int .i64 0,.int .i64 0,.slice none 0 0] 66)).setRow w3.heap.size #[.int .i64 0,.int .i64 h3,.int .i64 l3,.slice A3 n3 q3]=w4 at *
    go_loopg [7,8,9] s.size (fun m s7 s8 s9 wr=> ∃i:Nat,m+i=s.size/\s9 =.int .i64 i/\Hid (J4 w4 i s7 s8 wr))
    case atStart=>exact⟨0,rfl,rfl,Qa ⟨⟨[],by simp,aV.nil _ _⟩,⟨[],by simp,aq.nil _ _⟩,Ze _ _⟩⟩
    case round=>
     obtain⟨i,hm,rfl,HR⟩:=hrel;have Hm:=Qa hm;obtain⟨⟨l,i5,hS⟩,⟨ys,h6,hO⟩,hB⟩:=HR.out;have HS:=Qa hS;have HO:=Qa hO;have HB:=Qa hB;have b5:=aI hO.bs;clear hS hO hB HR hm
     by_cases hlt:i<s.size
     ·omega
     ·have f4:¬ (i:Int)<s.size:=by omega
      clear hlt;go_wp2_with fail;refine(gX 0 wr).mono ?_;rintro e w6 ⟨v6,rfl,⟨hh,ll,s6,rfl,d6⟩,c4⟩;obtain⟨fA,fn,fq,rfl,-⟩:=d6.slice;have g0:=Qa (aj d5.out (aj a9.out (aj HB.out c4)));have a4:=Qa (((aj HB.out c4).block w.heap.size (ak a1.out)).trans a1.out);clear c4 d6;unfold gF;go_wp2_with (refine eX a4.out ?_);refine Zh (dF Tryz.results30 _ _ w.heap.size 66 _ _ _ _ (0,0) (by simp) (setRow_heap _ _ _ _ _ _ a4.out)) rfl ⟨_,0,hh,ll,fA,fn,fq,rfl,fun _=>b4.out,below_setRow g0.out (Zb _) _⟩
   ·omega
  ·obtain⟨p,hp,-⟩:=c8 hc3;have:=Hl.out;omega
 ·obtain⟨c,hc⟩:∃c,s.data.toList[0]?=some c:=⟨_,Zd (by omega)⟩;have c0:=f8.out 0 c hc;have f6:(0:Int)<s.size:=by omega
  by_cases h47:c=47
  ·have hne:((c.toNat:Int) !=47)=false:=by rw[h47];rfl
   have HP:=Qa (show zL s.data.toList/\mu s.data.toList->aW s from fun h=>.inr ⟨by rw[hc,h47],h⟩);clear h47 hc;go_enter Tryz.func30,Tryz.ntmps30;go_wp2_with fail;refine(ox e2.out (by have:=Hl.out;omega)).mono ?_;rintro e w' ⟨rfl,z,rfl,f0,b2⟩;rw[Hl.out] at f0 b2;have f9:=Qa b2;clear b2 hl c0 hne;go_wp2_with fail;refine(kQ e2.out (by have:=Hl.out;omega)).mono ?_;rintro e w3 ⟨c3,h3,l3,A3,n3,q3,rfl,c9,c8,b1⟩;unfold gF;have g6:=Qa c9;have c7:=Zf w3 (.cells #[.int .i64 0,.int .i64 0,.int .i64 0,.slice none 0 0] 66);have HZ:=Qa c7;have c6:=below_setRow (aa w3 (.cells #[.int .i64 0,.int .i64 0,.int .i64 0,.slice none 0 0] 66)) (Zb _) #[.int .i64 c3,.int .i64 h3,.int .i64 l3,.slice A3 n3 q3];have a0:=setRow_heap (w3.alloc (.cells #[.int .i64 0,.int .i64 0,.int .i64 0,.slice none 0 0] 66)) w3.heap.size _ #[.int .i64 c3,.int .i64 h3,.int .i64 l3,.slice A3 n3 q3] _ _ c7;clear c7;have a9:=Qa (aj b1 c6);have a1:=Qa ((a9.out.block w.heap.size (by have:=g1.out;omega)).trans c5.out);have d0:=ac a0 (j:=0) (u:=.int .i64 c3) rfl;have d3:=ac a0 (j:=3) (u:=.slice A3 n3 q3) rfl;have b8:=Qa (fun (i:Nat) (c:UInt8) (h:s.data.toList[i]?=some c)=>Zg a9.out (f8.out i c h))
   by_cases hc3:c3=0
   ·subst hc3;clear c9 c8 b1 c6
    by_cases hzl:z=s.size
    ·obtain rfl:=hzl;have b3:=Qa (f9.out rfl);have b4:=Qa (HP.out ⟨g6.out rfl,b3.out⟩);clear f0;go_wp2_with (refine eX HZ.out ?_);clear d0 d3 a0;generalize (w3.alloc (.cells #[.int .i64 0,.int .i64 0,.int .i64 0,.slice none 0 0] 66)).setRow w3.heap.size #[.int .i64 0,.int .i64 h3,.int .i64 l3,.slice A3 n3 q3]=w4 at *
     go_loopg [7,8,9] s.size (fun m s7 s8 s9 wr=> ∃i:Nat,m+i=s.size/\s9 =.int .i64 i/\Hid (J4 w4 i s7 s8 wr))
     case atStart=>exact⟨0,rfl,rfl,Qa ⟨⟨[],by simp,aV.nil _ _⟩,⟨[],by simp,aq.nil _ _⟩,Ze _ _⟩⟩
     case round=>
      obtain⟨i,hm,rfl,HR⟩:=hrel;have Hm:=Qa hm;obtain⟨⟨l,i5,hS⟩,⟨ys,h6,hO⟩,hB⟩:=HR.out;have HS:=Qa hS;have HO:=Qa hO;have HB:=Qa hB;have b5:=aI hO.bs;clear hS hO hB HR hm
      by_cases hlt:i<s.size
      ·have f4:(i:Int)<s.size:=by omega
       obtain⟨c,hc⟩:∃c,s.data.toList[i]?=some c:=⟨_,Zd (by rw[Hl.out];exact hlt)⟩;have c1:=Zg HB.out (b8.out i c hc)
       by_cases h47:c=47
       ·have g4:((c.toNat:Int)==47)=true:=by rw[h47];rfl
        rcases Nat.eq_zero_or_pos i with h0|h0
        ·subst h0;clear h47 hc b5;go_wp2_with fail;go_roundg (s.size - 1)
         case measure=>have:=Hm.out;omega
         case rel=>exact⟨1,by have:=Hm.out;omega,rfl,Qa ⟨⟨l,by omega,HS.out⟩,⟨[],by simp,aq.nil _ _⟩,HB.out⟩⟩
        ·have i8:(0:Int)<i:=by omega
         have a3:=Qa (show aV (wr.alloc (.cells #[.string ⟨ys.toArray⟩] 9)) w4.heap.size u7 l from ai HS.out (aa _ _) (Zb _));have a2:=Qa (aj HB.out (aa wr (.cells #[.string ⟨ys.toArray⟩] 9)));clear h47 hc;go_wp2_with (at_builtin;refine j3 jx a3.out (av wr [cn ⟨ys.toArray⟩] 9) a2.out.size ?_ (h1:=(by simp[cn,Value.oneCell'])) (hlen:=by unfold maxLen;omega) (hby:=by omega);intro v' w5 p1 p2 p3;have Hp1:=Qa p1;have Hb5:=Qa (aF a2.out a3.out a2.out.size p2);clear p1 p2 p3);go_roundg (s.size - (i+1))
         case measure=>have:=Hm.out;omega
         case rel=>
          refine⟨i+1,by have:=Hm.out;omega,by go_num,Qa ⟨⟨l ++ [⟨ys.toArray⟩],by simp;omega,?_⟩,⟨[],by simp,aq.nil _ _⟩,Hb5.out⟩⟩;unfold aV;rw[List.map_append,List.length_append];exact Hp1.out
       ·have g4:((c.toNat:Int)==47)=false:=by
         rw[beq_eq_false_iff_ne];intro e;exact h47 (UInt8.toNat_inj.1 (by have:c.toNat=47:=(by omega);rw[this];rfl))
        clear b5
        by_cases h126:c=126
        ·have e6:((c.toNat:Int)==126)=true:=by rw[h126];rfl
         obtain⟨d,hd,h7⟩:∃d,s.data.toList[i+1]?=some d/\(d=48\/d=49):=by
          rcases pJ.1 b3.out i (by rw[hc,h126]) with h|h
          ·exact⟨_,h,.inl rfl⟩
          ·exact⟨_,h,.inr rfl⟩
         have j0:i+1<s.size:=by have:=(List.getElem?_eq_some_iff.1 hd).1;have:=Hl.out;omega
         have h5:(i:Int)+1<s.size:=by omega
         have c2:=Zg HB.out (b8.out (i+1) d hd);clear h47 hc h126 hd;rcases h7 with rfl|rfl
         ·have g7:(((48:UInt8).toNat:Int)==49)=false:=rfl;have a3:=Qa (show aq (wr.alloc (.cells #[.int .u8 126] 5)) w4.heap.size u8 ys from ai HO.out (aa _ _) (Zb _));have e3:=Qa (show aV (wr.alloc (.cells #[.int .u8 126] 5)) w4.heap.size u7 l from ai HS.out (aa _ _) (Zb _));have a2:=Qa (aj HB.out (aa wr (.cells #[.int .u8 126] 5)));go_wp2_with (at_builtin;refine j3 IJ a3.out (av wr [.int .u8 126] 5) a2.out.size ?_ (h1:=(by simp[Value.oneCell'])) (hlen:=by unfold maxLen;omega) (hby:=by omega);intro v' w5 p1 p2 p3;have Hp1:=Qa p1;have Hb5:=Qa (aF a2.out a3.out a2.out.size p2);have Hs5:=Qa (jl e3.out a3.out p2);clear p1 p2 p3);go_roundg (s.size - (i+2))
          case measure=>have:=Hm.out;omega
          case rel=>exact⟨i+2,by have:=Hm.out;omega,by go_num,Qa ⟨⟨l,by omega,Hs5.out⟩,⟨ys ++ [126],by simp;omega,aq.snoc (c:=126) Hp1.out⟩,Hb5.out⟩⟩
         ·have g7:(((49:UInt8).toNat:Int)==49)=true:=rfl;have a3:=Qa (show aq (wr.alloc (.cells #[.int .u8 47] 5)) w4.heap.size u8 ys from ai HO.out (aa _ _) (Zb _));have e3:=Qa (show aV (wr.alloc (.cells #[.int .u8 47] 5)) w4.heap.size u7 l from ai HS.out (aa _ _) (Zb _));have a2:=Qa (aj HB.out (aa wr (.cells #[.int .u8 47] 5)));go_wp2_with (at_builtin;refine j3 IJ a3.out (av wr [.int .u8 47] 5) a2.out.size ?_ (h1:=(by simp[Value.oneCell'])) (hlen:=by unfold maxLen;omega) (hby:=by omega);intro v' w5 p1 p2 p3;have Hp1:=Qa p1;have Hb5:=Qa (aF a2.out a3.out a2.out.size p2);have Hs5:=Qa (jl e3.out a3.out p2);clear p1 p2 p3);go_roundg (s.size - (i+2))
          case measure=>have:=Hm.out;omega
          case rel=>exact⟨i+2,by have:=Hm.out;omega,by go_num,Qa ⟨⟨l,by omega,Hs5.out⟩,⟨ys ++ [47],by simp;omega,aq.snoc (c:=47) Hp1.out⟩,Hb5.out⟩⟩
        ·have e6:((c.toNat:Int)==126)=false:=by
          rw[beq_eq_false_iff_ne];intro e;exact h126 (UInt8.toNat_inj.1 (by have:c.toNat=126:=(by omega);rw[this];rfl))
         clear h47 hc h126;have a3:=Qa (show aq (wr.alloc (.cells #[.int .u8 c.toNat] 5)) w4.heap.size u8 ys from ai HO.out (aa _ _) (Zb _));have e3:=Qa (show aV (wr.alloc (.cells #[.int .u8 c.toNat] 5)) w4.heap.size u7 l from ai HS.out (aa _ _) (Zb _));have a2:=Qa (aj HB.out (aa wr (.cells #[.int .u8 c.toNat] 5)));go_wp2_with (at_builtin;refine j3 IJ a3.out (av wr [.int .u8 c.toNat] 5) a2.out.size ?_ (h1:=(by simp[Value.oneCell'])) (hlen:=by unfold maxLen;omega) (hby:=by omega);intro v' w5 p1 p2 p3;have Hp1:=Qa p1;have Hb5:=Qa (aF a2.out a3.out a2.out.size p2);have Hs5:=Qa (jl e3.out a3.out p2);clear p1 p2 p3);go_roundg (s.size - (i+1))
         case measure=>have:=Hm.out;omega
         case rel=>exact⟨i+1,by have:=Hm.out;omega,by go_num,Qa ⟨⟨l,by omega,Hs5.out⟩,⟨ys ++ [c],by simp;omega,aq.snoc (c:=c) Hp1.out⟩,Hb5.out⟩⟩
      ·have f4:¬ (i:Int)<s.size:=by omega
       clear hlt;have i0:i<=s.size:=by have:=Hm.out;omega
       have a3:=Qa (show aV (wr.alloc (.cells #[.string ⟨ys.toArray⟩] 9)) w4.heap.size u7 l from ai HS.out (aa _ _) (Zb _));have a2:=Qa (aj HB.out (aa wr (.cells #[.string ⟨ys.toArray⟩] 9)));go_wp2_with (at_builtin;refine j3 jx a3.out (av wr [cn ⟨ys.toArray⟩] 9) a2.out.size ?_ (h1:=(by simp[cn,Value.oneCell'])) (hlen:=by unfold maxLen;omega) (hby:=by omega);intro v' w5 p1 p2 p3;have Hb5:=Qa (aF a2.out a3.out a2.out.size p2);clear p1 p2 p3);refine(gX 0 w5).mono ?_;rintro e w6 ⟨v6,rfl,⟨hh,ll,s6,rfl,d6⟩,c4⟩;obtain⟨fA,fn,fq,rfl,-⟩:=d6.slice;have g0:=Qa (aj d5.out (aj a9.out (aj Hb5.out c4)));have a4:=Qa (((aj Hb5.out c4).block w.heap.size (ak a1.out)).trans a1.out);clear c4 d6;unfold gF;go_wp2_with (refine eX a4.out ?_);refine Zh (dF Tryz.results30 _ _ w.heap.size 66 _ _ _ _ (0,0) (by simp) (setRow_heap _ _ _ _ _ _ a4.out)) rfl ⟨_,0,hh,ll,fA,fn,fq,rfl,fun _=>b4.out,below_setRow g0.out (Zb _) _⟩
    ·have h8:(z:Int)<s.size:=by omega
     clear hzl;go_wp2_with (refine eX HZ.out ?_);clear d0 d3 a0;generalize (w3.alloc (.cells #[.int .i64 0,.int .i64 0,.int .i64 0,.slice none 0 0] 66)).setRow w3.heap.size #[.int .i64 0,.int .i64 h3,.int .i64 l3,.slice A3 n3 q3]=w4 at *;refine(jD 115 z w4).mono ?_;rintro e w5 ⟨sv,rfl,⟨g5,rfl,-,-⟩,b9⟩;have a5:=Qa ((b9.block w.heap.size (ak a1.out)).trans a1.out);have Hb5:=Qa (aj d5.out (aj a9.out b9));clear b9;unfold gF;go_wp2_with (refine eX a5.out ?_);refine Zh (dF Tryz.results30 _ _ w.heap.size 66 _ _ _ _ (0,0) (by simp) (setRow_heap _ _ _ _ _ _ a5.out)) rfl ⟨_,115,0,0,_,1,1,rfl,fun e=>by omega,below_setRow Hb5.out (Zb _) _⟩
   ·obtain⟨p,hp,g,e1,-,h2⟩:=c8 hc3;obtain⟨rfl,rfl,rfl⟩:=Value.slice.inj e1;have i9:(c3 !=0)=true:=by simpa using hc3
    have d4:=Zg c6 h2;have i4:=Qa hc3;clear c9 c8 b1 c6 h2 hc3
    by_cases hpz:p<z
    ·have f6:(p:Int)<z:=by omega
     have d1:=ac a0 (j:=1) (u:=.int .i64 h3) rfl;have d2:=ac a0 (j:=2) (u:=.int .i64 l3) rfl;have HD:=Qa (And.intro d0 (And.intro d1 (And.intro d2 (And.intro d3 a1.out))));clear d1 d2;go_wp2_with (refine eX HZ.out ?_);clear d0 d3 d4 a0;generalize (w3.alloc (.cells #[.int .i64 0,.int .i64 0,.int .i64 0,.slice none 0 0] 66)).setRow w3.heap.size #[.int .i64 c3,.int .i64 h3,.int .i64 l3,.slice (some ⟨g,0,none⟩) 1 1]=w4 at *;refine cC (fun w'=>w'.cell? ⟨w3.heap.size,0,none⟩=some (.int .i64 c3)/\w'.cell? ⟨w3.heap.size,1,none⟩=some (.int .i64 h3)/\w'.cell? ⟨w3.heap.size,2,none⟩=some (.int .i64 l3)/\w'.cell? ⟨w3.heap.size,3,none⟩=some (.slice (some ⟨g,0,none⟩) 1 1)/\w'.heap[w.heap.size]?=some (.cells #[.int .i64 0,.int .i64 0,.int .i64 0,.slice none 0 0] 66 (0,0))) 2 (HD.out) fun g8=>?_
     refine tZ 0 g8 ?_
     try simp only[Act.put,jP,jQ,jR]
     refine tZ 1 g8 ?_
     try simp only[Act.put,jP,jQ,jR]
     refine rZ 2 fun K hK=>?_
     refine kP HD.out.2.2.2.2 ?_;refine hK.out _ _ (fun h=>absurd rfl h) (fun _=>?_);clear hK K
     try simp only[Act.put,jP,jQ,jR]
     refine aK (by kernel_rfl) (NoPanic.normal ?_) _;go_wp2_with fail;exact Zh (dF Tryz.results30 _ _ w.heap.size 66 _ _ _ _ (0,0) (by simp) (setRow_heap _ _ _ _ _ _ HD.out.2.2.2.2)) rfl ⟨_,c3,h3,l3,_,1,1,rfl,fun e=>absurd e i4.out,below_setRow (aj d5.out a9.out.drew) (Zb _) _⟩
    ·have f6:¬ (p:Int)<z:=by omega
     have h8:(z:Int)<s.size:=by have:=Hl.out;omega
     go_wp2_with (refine eX HZ.out ?_);clear d0 d3 d4 a0;generalize (w3.alloc (.cells #[.int .i64 0,.int .i64 0,.int .i64 0,.slice none 0 0] 66)).setRow w3.heap.size #[.int .i64 c3,.int .i64 h3,.int .i64 l3,.slice (some ⟨g,0,none⟩) 1 1]=w4 at *;refine(jD 115 z w4).mono ?_;rintro e w5 ⟨sv,rfl,⟨g5,rfl,-,-⟩,b9⟩;have a5:=Qa ((b9.block w.heap.size (ak a1.out)).trans a1.out);have Hb5:=Qa (aj d5.out (aj a9.out b9));clear b9;unfold gF;go_wp2_with (refine eX a5.out ?_);refine Zh (dF Tryz.results30 _ _ w.heap.size 66 _ _ _ _ (0,0) (by simp) (setRow_heap _ _ _ _ _ _ a5.out)) rfl ⟨_,115,0,0,_,1,1,rfl,fun e=>by omega,below_setRow Hb5.out (Zb _) _⟩
  ·have hne:((c.toNat:Int) !=47)=true:=by
    rw[bne_iff_ne];intro e;exact h47 (UInt8.toNat_inj.1 (by have:c.toNat=47:=(by omega);rw[this];rfl))
   clear h47 hc hl;go_enter Tryz.func30,Tryz.ntmps30;go_wp2_with fail;refine(show Calls Tryz.prog 59 #[.int .i64 115,.int .i64 0] W2 _ from jD 115 0 W2).mono ?_;rintro e w3 ⟨sv,rfl,⟨g3,rfl,-,-⟩,b1⟩;have e0:=Qa ((b1.block w.heap.size (by have:=g1.out;omega)).trans c5.out);have i2:=Qa (aj d5.out b1);clear b1 c0;unfold gF;go_wp2_with (refine eX e0.out ?_);refine Zh (dF Tryz.results30 _ _ w.heap.size 66 _ _ _ _ (0,0) (by simp) (setRow_heap _ _ _ _ _ _ e0.out)) rfl ⟨_,115,0,0,_,1,1,rfl,fun e=>by omega,below_setRow i2.out (Zb _) _⟩
