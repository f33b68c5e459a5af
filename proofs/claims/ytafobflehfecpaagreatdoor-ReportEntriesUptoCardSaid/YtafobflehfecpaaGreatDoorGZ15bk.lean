import Derived.Test.YtafobflehfecpaaGreatDoorGZ15bj
set_option linter.unusedVariables false
set_option linter.unusedSimpArgs false
set_option maxHeartbeats 64000000
set_option maxRecDepth 100000
namespace Go.Proofs.YtafobflehfecpaaGreatDoor
open Go.RowKit Go.Shelf
variable {l:List ByteArray}{xs ys:List UInt8}{us:List Value}{b1 b2 base i n:Nat}{u v:Value}{w w':World}
def vi (B:Nat)(w:World)(v:Value)(p:Nat):Prop:= ∃g,v =.slice (some ⟨g,0,none⟩) 1 1/\B<=g/\w.cell? ⟨g,1,none⟩=some (.int .i64 p)
def E2 (c:Int)(p:Nat)(w:World)(e:Ending)(w':World):Prop:= ∃s,e =.returned (fR c 0 0 s)/\vi w.heap.size w' s p/\Below w.heap.size w w'
theorem iJ (c:Int)(p:Nat)(w:World):Calls Tryz.prog 73 #[.int .i64 c,.int .i64 p] w (E2 c p w):=by
 go_enter Tryz.func73,Tryz.ntmps73;go_wp2;refine Zh (results_cell_row Tryz.results73 _ _ w.heap.size 74 #[.int .i64 c,.int .i64 0,.int .i64 0,.slice (some ⟨w.heap.size+1,0,none⟩) 1 1] (0,0) _ (by simp) ?_ Tryz.underlying74 rfl cO) rfl ⟨_,rfl,⟨w.heap.size+1,rfl,by omega,?_⟩,?_⟩
 ·exact(Below.heap_alloc _ _ _ (by simp)).trans (Zf w _)
 ·have:=av (w.alloc (.cells #[.int .i64 c,.int .i64 0,.int .i64 0,.slice (some ⟨w.heap.size+1,0,none⟩) 1 1] 74)) [.bool false,.int .i64 p,.string es] 135 1 _ rfl
  rwa[World.size_alloc] at this
 ·exact ak (ac _ _) (ac _ _)
def yH (xs:List UInt8):Prop:= ∃cs:List Int,(∀c∈cs,ce c=true)/\xs=cs.flatMap aO
theorem yH.nil:yH []:=⟨[],fun _ h=>(by cases h),rfl⟩
theorem yH.next {k:Nat}(h:yH (xs.take k))(hd:(a7 (xs.drop k)).2.2=0):yH (xs.take (k+ (a7 (xs.drop k)).2.1)):=by
 obtain⟨cs,h1,h2⟩:=h;obtain⟨h3,h4⟩:=gd hd;refine⟨cs ++ [((a7 (xs.drop k)).1:Int)],fun c hc=>?_,?_⟩
 ·rcases List.mem_append.1 hc with hc|hc
  ·exact h1 c hc
  ·rw[List.mem_singleton.1 hc];exact h4
 ·rw[List.take_add,h2,<-h3,List.flatMap_append];simp
theorem jY {fn:Func}{p u q:Tmp}(h:fn.results = #[.tmp p,.tmp u,.cell q 74])(tmps:Array Value)(w:World)(g:Nat)(t:TypeId)(c0 c1 c2 c3:Value)(fr:Nat×Nat)
  (hp:tmps.getD q undef =.pointer (some ⟨g,0,none⟩)) (hg:w.heap[g]?=some (.cells #[c0,c1,c2,c3] t fr)) :
  (results fn tmps).run Tryz.prog w =.ok (.tuple #[tmps.getD p undef,tmps.getD u undef,.agg #[c0,c1,c2,c3]]) w:=by
 have a0:tmps[q]?.getD undef =.pointer (some ⟨g,0,none⟩):=by simpa using hp
 have hl:=run_loadVar_row (P:=Tryz.prog) w g t 74 #[c0,c1,c2,c3] fr _ hg Tryz.underlying74 rfl cO;simp[results,h,a0,asAddr,hl]
def EK (xs:List UInt8)(w:World)(e:Ending)(w':World):Prop:= ∃ (v1 v2:Value) (c h l:Int) (A:Option Addr) (n q:Nat),e =.returned (.tuple #[v1,v2,fR c h l (.slice A n q)])/\(c=0->yH xs)/\(c≠0->∃p,p<xs.length/\vi w.heap.size w' (.slice A n q) p)/\Below w.heap.size w w'
def Ew (xs:List UInt8)(w0:World)(s5 s6 s7:Value)(wr:World):Prop:= ∃ (k m:Nat) (us vs:List Value),m<=k/\k<=xs.length/\s7 =.int .i64 k/\yH (xs.take k)/\wr.ownsRow w0.heap.size 3 1 s5 m us/\wr.ownsRow w0.heap.size 21 1 s6 m vs/\Below w0.heap.size w0 wr
theorem sm {n1 n2 k1 k2:Nat}{e1 e2:TypeId}{vs:List Value}(h:w.ownsRow b1 e1 k1 v n1 us)(k:w.ownsRow b2 e2 k2 u n2 vs)(he:e1≠e2):∀g,v.ownBlock=some g->u.ownBlock≠some g:=by
 intro g h1 h2;obtain⟨_,c1,h3⟩:=al h h1;obtain⟨_,c2,h4⟩:=al k h2;rw[h3] at h4;injection h4 with h4
 injection h4 with _ h4 _
 exact he h4
theorem yl (hb:Bs w v xs)(hlen:xs.length<=2000000):Calls Tryz.prog 109 #[v] w (EK xs w):=by
 obtain⟨hm,A,cap,rfl,g0,b3⟩:=id hb;have b8:=ac w (.cells #[.int .i64 0,.int .i64 0,.int .i64 0,.slice none 0 0] 74);have b2:=Zf w (.cells #[.int .i64 0,.int .i64 0,.int .i64 0,.slice none 0 0] 74);have a9:(w.alloc (.cells #[.int .i64 0,.int .i64 0,.int .i64 0,.slice none 0 0] 74)).heap.size=w.heap.size+1:=by simp
 have Hb:=Qa (hb.below b8);have c1:=Qa b8;have c7:=Qa b2;have c9:=Qa a9;clear hb b3 b8 b2 a9;go_enter Tryz.func109,Tryz.ntmps109;go_wp2_with fail;generalize (w.alloc (.cells #[.int .i64 0,.int .i64 0,.int .i64 0,.slice none 0 0] 74))=w0 at *
 go_loopw [5,6,7,8,9,10] (fun s5 s6 s7 _ _ _ wr=>Ew xs w0 s5 s6 s7 wr) (fun _ _ i _ _ _ _=>xs.length - (intOf i).toNat)
 case atStart=>exact⟨0,0, [], [],Zb _,Zj _,rfl,by rw[List.take_zero];exact yH.nil,World.ownsRow_nil _ _ _ _,World.ownsRow_nil _ _ _ _,Ze _ _⟩
 case round=>
  obtain⟨k,m,us,vs,h8,hk,rfl,d2,f3,d5,d6⟩:=hrel;have f4:=Qa d2;have f5:=Qa f3;have g2:=Qa d5;have a3:=Qa d6;clear d2 f3 d5 d6;have c8:=Qa (Hb.out.below a3.out);have a2:=Qa ((a3.out.block w.heap.size (by rw[c9.out];omega)).trans c7.out)
  by_cases hlt:k<xs.length
  ·obtain⟨-,A',c',e',-,f0⟩:=id c8.out;injection e' with e1 e2 e3
   subst e1 e3;obtain⟨b0,o0,rfl,-⟩:=f0 (by omega);have h7:¬cap=k:=by omega
   have hcut:=Qa (c8.out.cut hk);have hle:=dt xs k hk;clear f0 e2;go_wp2_with fail;refine(tJ hcut.out).mono ?_;rintro e w2 ⟨⟨code,rfl,a0⟩,d3⟩;have a4:=Qa d3;clear d3
   by_cases hz:(a7 (xs.drop k)).2.2=0
   ·have f1:code=0:=a0.2 hz;subst f1;clear a0;have hp:=dL hz;have f9:=Qa (f4.out.next hz);generalize (a7 (xs.drop k)).1=cc at *;generalize (a7 (xs.drop k)).2.1=nn at *;clear hz;have c4:w0.heap.size<=w2.heap.size:=Zc a3.out.size a4.out.size;have c6:=Qa (ai (ai f5.out a4.out (Zb _)) (ac w2 (.cells #[.int .i64 (k:Int)] 3)) (Zb _));have h0:=Qa (av w2 [.int .i64 (k:Int)] 3);have e5:=Qa ((a3.out.trans (a4.out.mono a3.out.size)).alloc c4 (.cells #[.int .i64 (k:Int)] 3));have b1:=Qa (ai (ai g2.out a4.out (Zb _)) (ac w2 (.cells #[.int .i64 (k:Int)] 3)) (Zb _));have h6:=Qa (sm c6.out b1.out (by decide));go_upto_region 9 with (at_builtin;refine dA F3 rfl (.tmp 30) (.tmp 32) rfl w0.heap.size u5 m w2.heap.size 1 1 us [.int .i64 (k:Int)] (by simp[Act.eval]) c6.out (by simp[Act.eval]) rfl h0.out (by simp[Value.oneCell']) (by unfold maxLen;omega) (by omega) (by simp;omega) ?_;intro v5 w5 h1 h2 h3;have f7:=Qa h1;have e4:=Qa h2;clear h1 h2 h3)
    have c2:=Qa (World.ownsRow.kept b1.out e4.out (by
     by_cases he:u6.ownBlock=none
     ·exact .inl he
     ·obtain⟨g6,e0⟩:=Option.ne_none_iff_exists'.1 he;exact .inr (fun e=>h6.out g6 (by rw[<-e];exact e0) e0)))
    have d0:=Qa (aJ e5.out c6.out e5.out.size e4.out);have g7:=d0.out.size;have c3:=Qa (ai c2.out (ac w5 (.cells #[.int .i32 (cc:Int)] 21)) (Zb _));have g1:=Qa (av w5 [.int .i32 (cc:Int)] 21);have d4:=Qa (d0.out.alloc g7 (.cells #[.int .i32 (cc:Int)] 21));have b4:=Qa (ai f7.out (ac w5 (.cells #[.int .i32 (cc:Int)] 21)) (Zb _));have g4:=Qa (sm b4.out c3.out (by decide));go_wp2_with (at_builtin;refine dA tu rfl (.tmp 34) (.tmp 36) rfl w0.heap.size u6 m w5.heap.size 1 1 vs [.int .i32 (cc:Int)] (by simp[Act.eval]) c3.out (by simp[Act.eval]) rfl g1.out (by simp[Value.oneCell']) (by unfold maxLen;omega) (by omega) (by simp;omega) ?_;intro v6 w6 h1 h2 h3;have h5:=Qa h1;have d9:=Qa h2;clear h1 h2 h3);have b9:=World.ownsRow.kept b4.out d9.out (by
     by_cases he:v5.ownBlock=none
     ·exact .inl he
     ·obtain⟨g5,d1⟩:=Option.ne_none_iff_exists'.1 he;exact .inr (fun e=>g4.out g5 d1 (by rw[<-e];exact d1)))
    exact⟨⟨k+nn,m+1,_,_,by omega,by omega,by go_num,f9.out,b9,h5.out,aJ d4.out c3.out d4.out.size d9.out⟩,by simp[intOf];omega⟩
   ·have f1:(code !=0)=true:=by
     have:code≠0:=fun h=>hz (a0.1 h)
     simpa using this
    have f6:=Qa (show code≠0 from fun h=>hz (a0.1 h));clear a0 hz;go_wp2_with fail;refine(iJ code k w2).mono ?_;rintro e w3 ⟨s,rfl,⟨g3,rfl,e6,f2⟩,a5⟩;have c0:=Qa (And.intro e6 f2);clear e6 f2;unfold fR;have b5:=Qa a5;have a1:=Qa (((ak a4.out a5).block w.heap.size (ag a2.out)).trans a2.out);clear a5;go_wp2_with (refine wpList_store_rowTo rfl 74 (.tmp 4) (.tmp 29) rfl rfl w.heap.size #[.int .i64 code,.int .i64 0,.int .i64 0,.slice (some ⟨g3,0,none⟩) 1 1] (by simp[Act.eval]) (by simp[Act.eval]) 74 _ a1.out cO rfl (po code 0 0 rfl) ?_);exact Zh (jY Tryz.results109 _ _ w.heap.size 74 _ _ _ _ (0,0) (by simp) (setRow_heap _ _ _ _ _ _ a1.out)) rfl ⟨u5,u6,code,0,0,_,1,1,rfl,fun e=>absurd e f6.out,fun _=>⟨k,hlt,g3,rfl,Zc (ak c1.out (ak a3.out a4.out)).size c0.out.1,(aB _ _ _).cell c0.out.2 (fun e=>by have h1:=c0.out.1;have h2:=(ak a3.out a4.out).size;have h3:=c9.out;have h4:=Zi e;simp only at h4;omega)⟩,below_setRow (ak c1.out (ak a3.out (ak a4.out b5.out))) (Zb _) _⟩
  ·obtain g8:k=xs.length:=by omega
   subst g8;have c5:=Qa (show yH xs by have h:=f4.out;rwa[List.take_length] at h);go_wp2_with fail;refine(fP 0 wr).mono ?_;rintro e w3 ⟨v,rfl,⟨hh,ll,s,rfl,f8⟩,a5⟩;obtain⟨fA,fn,fq,rfl,-⟩:=f8.slice;unfold fR;have b5:=Qa a5;have a1:=Qa ((a5.block w.heap.size (ag a2.out)).trans a2.out);clear a5;go_wp2_with (refine wpList_store_rowTo rfl 74 (.tmp 4) (.tmp 43) rfl rfl w.heap.size #[.int .i64 0,.int .i64 hh,.int .i64 ll,.slice fA fn fq] (by simp[Act.eval]) (by simp[Act.eval]) 74 _ a1.out cO rfl (po 0 hh ll rfl) ?_);exact Zh (jY Tryz.results109 _ _ w.heap.size 74 _ _ _ _ (0,0) (by simp) (setRow_heap _ _ _ _ _ _ a1.out)) rfl ⟨u5,u6,0,hh,ll,fA,fn,fq,rfl,fun _=>c5.out,fun e=>absurd rfl e,below_setRow (ak c1.out (ak a3.out b5.out)) (Zb _) _⟩
def ET (xs:List UInt8)(w:World)(e:Ending)(w':World):Prop:= ∃ (c h l:Int) (A:Option Addr) (n q:Nat),e =.returned (fR c h l (.slice A n q))/\(c=0->yH xs)/\(c≠0->∃p,p<xs.length/\vi w.heap.size w' (.slice A n q) p)/\Below w.heap.size w w'
theorem kj (hb:Bs w v xs)(hlen:xs.length<=2000000):Calls Tryz.prog 75 #[v] w (ET xs w):=by
 have a4:=ac w (.cells #[.int .i64 0,.int .i64 0,.int .i64 0,.slice none 0 0] 74);have a3:=Qa (Zf w (.cells #[.int .i64 0,.int .i64 0,.int .i64 0,.slice none 0 0] 74));have Hc:=Qa (yl (hb.below a4) hlen);have b0:=Qa a4;clear hb a4;go_enter Tryz.func75,Tryz.ntmps75;go_wp2_with fail;refine Za Hc ?_;rintro e w2 ⟨v1,v2,c,hh,ll,fA,fn,fq,rfl,b1,a9,a2⟩;have b2:=Qa (And.intro b1 a9);clear a9;have b4:=Qa a2;have a1:=Qa ((a2.block w.heap.size (by simp)).trans a3.out);have a5:=ac w2 (.cells #[.int .i64 c,.int .i64 hh,.int .i64 ll,.slice fA fn fq] 74);have a0:=Qa ((a5.block w.heap.size (ag a1.out)).trans a1.out);have b3:=Qa (b0.out.trans ((a2.trans (a5.mono a2.size)).mono b0.out.size));unfold fR;clear b1 a2 a5 Hc;go_wp2_with (refine wpList_store_rowTo rfl 74 (.tmp 2) (.tmp 12) rfl rfl w.heap.size #[.int .i64 c,.int .i64 hh,.int .i64 ll,.slice fA fn fq] (by simp[Act.eval]) (by simp[Act.eval]) 74 _ a0.out cO rfl (po c hh ll rfl) ?_);refine Zh (results_cell_row Tryz.results75 _ _ w.heap.size 74 #[.int .i64 c,.int .i64 hh,.int .i64 ll,.slice fA fn fq] (0,0) _ (by simp) (setRow_heap _ _ _ _ _ _ a0.out) Tryz.underlying74 rfl cO) rfl ⟨c,hh,ll,fA,fn,fq,rfl,b2.out.1,fun hc=>by
  obtain⟨p,hp,g,e1,e2,e3⟩:=b2.out.2 hc;exact⟨p,hp,g,e1,by simp at e2;omega,(aB _ _ _).cell (Zg (ac _ _) e3) (fun e=>by have h4:=Zi e;simp at e2 h4;omega)⟩,below_setRow b3.out (Zb _) _⟩
def Eg (xs:List UInt8)(w:World)(e:Ending)(w':World):Prop:=w=w'/\∃z:Nat,e =.returned (.int .i64 z)/\z<=xs.length/\(z=xs.length->lE xs)
theorem lh (h:i<xs.length)(hb:am xs i=n)(hn:n<256):xs[i]?=some (UInt8.ofNat n):=by
 rw[Zd h];unfold am at hb;rw[List.getD_eq_getElem?_getD,Zd h] at hb;simp at hb;rw[<-hb];simp
def nH (xs:List UInt8)(i:Nat):Prop:= ∀j:Nat,j<i->xs[j]?=some 126->xs[j+1]?=some 48\/xs[j+1]?=some 49
theorem nH.next (h:nH xs i)(hi:xs[i]?=some 126->xs[i+1]?=some 48\/xs[i+1]?=some 49):nH xs (i+1):=fun j hj hx=>by
 rcases Nat.lt_or_ge j i with h1|h1
 ·exact h j h1 hx
 ·obtain rfl:j=i:=by omega
  exact hi hx
theorem nH.all (h:nH xs xs.length):lE xs:=pg.2 fun j hx=>h j (List.getElem?_eq_some_iff.1 hx).1 hx
theorem mT (hb:Bs w v xs)(hl:xs.length<=1000000000):Calls Tryz.prog 74 #[v] w (Eg xs w):=by
 obtain⟨-,A,cap,rfl,b1,a0⟩:=hb;have Hc:=Qa a0;clear a0;go_enter Tryz.func74,Tryz.ntmps74;go_wp2_with fail
 go_loopg [3] xs.length (fun m s3 wr=> ∃i:Nat,m+i=xs.length/\s3 =.int .i64 i/\Hid (nH xs i)/\w=wr)
 case atStart=>exact⟨0,rfl,rfl,Qa (fun j hj=>by omega),rfl⟩
 case round=>
  obtain⟨i,hm,rfl,Ht,rfl⟩:=hrel;have Hm:=Qa hm
  by_cases hlt:i<xs.length
  ·have a2:(i:Int)<xs.length:=by omega
   obtain⟨b0,o0,rfl,a1⟩:=Hc.out (by omega);have c0:=a1 i hlt
   by_cases hx:am xs i=126
   ·have hb:(((am xs i:Nat):Int)==126)=true:=by rw[hx];rfl
    by_cases hend:i+1=xs.length
    ·have a4:((i:Int)+1== (xs.length:Int))=true:=by rw[beq_iff_eq];omega
     clear hx a1;go_wp2_with fail;go_ret;exact⟨rfl,i,rfl,by omega,fun e=>by omega⟩
    ·have a4:((i:Int)+1== (xs.length:Int))=false:=by rw[beq_eq_false_iff_ne];omega
     have a3:i+1<xs.length:=by omega
     have c1:=a1 (i+1) a3
     by_cases h48:am xs (i+1)=48
     ·have a9:(((am xs (i+1):Nat):Int) !=48)=false:=by rw[h48];rfl
      have Hn:=Qa (Ht.out.next (fun _=>.inl (lh a3 h48 (by decide))));clear hx a1 h48;go_wp2_with fail;go_roundg (xs.length - (i+1))
      case measure=>have:=Hm.out;omega
      case rel=>exact⟨i+1,by omega,by go_num,Hn,rfl⟩
     ·have a9:(((am xs (i+1):Nat):Int) !=48)=true:=by rw[bne_iff_ne];omega
      by_cases h49:am xs (i+1)=49
      ·have a5:(((am xs (i+1):Nat):Int) !=49)=false:=by rw[h49];rfl
       have Hn:=Qa (Ht.out.next (fun _=>.inr (lh a3 h49 (by decide))));clear hx a1 h48 h49;go_wp2_with fail;go_roundg (xs.length - (i+1))
       case measure=>have:=Hm.out;omega
       case rel=>exact⟨i+1,by omega,by go_num,Hn,rfl⟩
      ·have a5:(((am xs (i+1):Nat):Int) !=49)=true:=by rw[bne_iff_ne];omega
       clear hx a1 h48 h49;go_wp2_with fail;go_ret;exact⟨rfl,i,rfl,by omega,fun e=>by omega⟩
   ·have hb:(((am xs i:Nat):Int)==126)=false:=by rw[beq_eq_false_iff_ne];omega
    have Hn:=Qa (Ht.out.next (fun h=>absurd (by
     unfold am;rw[List.getD_eq_getElem?_getD,h];rfl) hx))
    clear hx a1;go_wp2_with fail;go_roundg (xs.length - (i+1))
    case measure=>have:=Hm.out;omega
    case rel=>exact⟨i+1,by omega,by go_num,Hn,rfl⟩
  ·obtain rfl:i=xs.length:=by omega
   have a2:¬ (xs.length:Int)<xs.length:=by omega
   clear hm hlt Hm;go_wp2_with fail;go_ret;exact⟨rfl,_,rfl,Zb _,fun _=>Ht.out.all⟩
theorem GE:cQ 28 5 (.int .u8 0) 1 1:=⟨Tryz.underlying28,by kernel_rfl,rfl,by decide⟩
theorem ao.snoc {c:UInt8}(h:w.ownsRow base 5 1 v (ys.length+1) (eW ys ++ [.int .u8 c.toNat])):ao w base v (ys ++ [c]):=by
 unfold ao;rw[List.length_append];have:eW (ys ++ [c])=eW ys ++ [.int .u8 c.toNat]:=by simp[eW,bv]
 rw[this];exact h
theorem iq (h:be w b1 v l)(he:ao w b2 u ys)(hg:w.grownBy w' u.ownBlock):be w' b1 v l:=by
 refine World.ownsRow.kept h hg ?_
 cases hv:v.ownBlock with
 |none=>exact .inl rfl
 |some k=>
  refine .inr fun e=>?_
  obtain⟨-,c1,h1⟩:=al h hv;obtain⟨-,c2,h2⟩:=al he e.symm;rw[h1] at h2;injection h2 with h2
  injection h2 with _ h2 _
  exact absurd h2 (by decide)
def GR (w:World)(i:Nat)(s7 s8:Value)(wr:World):Prop:=(∃l:List ByteArray,l.length<=i/\be wr w.heap.size s7 l)/\(∃ys:List UInt8,ys.length<=i/\ao wr w.heap.size s8 ys)/\Below w.heap.size w wr
def GW (s:ByteArray)(w:World)(e:Ending)(w':World):Prop:= ∃ (u:Value) (c h l:Int) (A:Option Addr) (n q:Nat),e =.returned (.tuple #[u,fR c h l (.slice A n q)])/\(c=0->aT s)/\Below w.heap.size w w'
theorem j8 {s:ByteArray}(hs:s.size<=2000000):Calls Tryz.prog 36 #[.string s] w (GW s w):=by
 have hl:s.data.toList.length=s.size:=by simp
 have h4:=ac w (.cells #[.int .i64 0,.int .i64 0,.int .i64 0,.slice none 0 0] 74);have e6:=Zf w (.cells #[.int .i64 0,.int .i64 0,.int .i64 0,.slice none 0 0] 74);have d9:(w.alloc (.cells #[.int .i64 0,.int .i64 0,.int .i64 0,.slice none 0 0] 74)).heap.size=w.heap.size+1:=by simp
 obtain⟨W2,cap,e3,f5,f8⟩:=DQ (w.alloc (.cells #[.int .i64 0,.int .i64 0,.int .i64 0,.slice none 0 0] 74)) s (by omega);rw[World.size_alloc] at e3 f8;have c5:=Qa ((f5.block w.heap.size (by rw[d9];omega)).trans e6);have d5:=Qa (ak h4 f5);have f2:=Qa f8;have b1:w.heap.size+1<=W2.heap.size:=by have:=f5.size;omega
 have f6:=Qa b1;clear h4 f5 f8 e6 d9 b1;have g0:=Qa (show ∀ (i:Nat) (c:UInt8),s.data.toList[i]?=some c->W2.cell? ⟨w.heap.size+1,i,none⟩=some (.int .u8 (c.toNat:Nat)) from by
  intro i c hx;have hi:=(List.getElem?_eq_some_iff.1 hx).1;obtain⟨-,A,q,e',-,h9⟩:=f2.out;obtain⟨b0,o0,rfl,f9⟩:=h9 (by omega);obtain⟨e1,-,-⟩:=Value.slice.inj e';obtain⟨e4,e5,-⟩:=Addr.mk.inj (Zi e1);subst e4 e5;have:=f9 i hi;rw[Nat.zero_add] at this;rw[this];unfold am;rw[List.getD_eq_getElem?_getD,hx];rfl)
 have Hl:=Qa hl;rcases Nat.eq_zero_or_pos s.size with hz|h8
 ·have d6:s.data.toList = []:=List.eq_nil_of_length_eq_zero (by omega);have HP:=Qa (show yH s.data.toList/\lE s.data.toList->aT s from fun _=>.inl d6);have f7:¬ (0:Int)<s.size:=by omega
  clear d6 hz;go_enter Tryz.func36,Tryz.ntmps36;go_wp2_with fail;refine(mT f2.out (by have:=Hl.out;omega)).mono ?_;rintro e w' ⟨rfl,z,rfl,f0,b1⟩;rw[Hl.out] at f0 b1;have g6:=Qa b1;clear b1 hl;go_wp2_with fail;refine(kj f2.out (by have:=Hl.out;omega)).mono ?_;rintro e w3 ⟨c3,h3,l3,A3,n3,q3,rfl,c9,c8,a9⟩;unfold fR;have g1:=Qa c9;have c4:=Zf w3 (.cells #[.int .i64 0,.int .i64 0,.int .i64 0,.slice none 0 0] 74);have HZ:=Qa c4;have b8:=below_setRow (ac w3 (.cells #[.int .i64 0,.int .i64 0,.int .i64 0,.slice none 0 0] 74)) (Zb _) #[.int .i64 c3,.int .i64 h3,.int .i64 l3,.slice A3 n3 q3];have a0:=setRow_heap (w3.alloc (.cells #[.int .i64 0,.int .i64 0,.int .i64 0,.slice none 0 0] 74)) w3.heap.size _ #[.int .i64 c3,.int .i64 h3,.int .i64 l3,.slice A3 n3 q3] _ _ c4;clear c4;have b2:=Qa (ak a9 b8);have a1:=Qa ((b2.out.block w.heap.size (by have:=f6.out;omega)).trans c5.out);have d0:=aa a0 (j:=0) (u:=.int .i64 c3) rfl;have d3:=aa a0 (j:=3) (u:=.slice A3 n3 q3) rfl;have b4:=Qa (fun (i:Nat) (c:UInt8) (h:s.data.toList[i]?=some c)=>Zg b2.out (g0.out i c h))
  by_cases hc3:c3=0
  ·subst hc3;clear c9 c8 a9 b8
   by_cases hzl:z=s.size
   ·obtain rfl:=hzl;have b3:=Qa (g6.out rfl);have c7:=Qa (HP.out ⟨g1.out rfl,b3.out⟩);clear f0;go_wp2_with (refine eE HZ.out ?_);clear d0 d3 a0;generalize (w3.alloc (.cells #[.int .i64 0,.int .i64 0,.int .i64 0,.slice none 0 0] 74)).setRow w3.heap.size #[.int .i64 0,.int .i64 h3,.int .i64 l3,.slice A3 n3 q3]=w4 at *
    go_loopg [7,8,9] s.size (fun m s7 s8 s9 wr=> ∃i:Nat,m+i=s.size/\s9 =.int .i64 i/\Hid (GR w4 i s7 s8 wr))
    case atStart=>exact⟨0,rfl,rfl,Qa ⟨⟨[],by simp,be.nil _ _⟩,⟨[],by simp,ao.nil _ _⟩,Ze _ _⟩⟩
    case round=>
     obtain⟨i,hm,rfl,HR⟩:=hrel;have Hm:=Qa hm;obtain⟨⟨l,i0,hS⟩,⟨ys,h6,hO⟩,hB⟩:=HR.out;have HS:=Qa hS;have HO:=Qa hO;have HB:=Qa hB;have b5:=aG hO.bs;clear hS hO hB HR hm
     by_cases hlt:i<s.size
     ·omega
     ·have f3:¬ (i:Int)<s.size:=by omega
      clear hlt;go_wp2_with fail;refine(fP 0 wr).mono ?_;rintro e w6 ⟨v6,rfl,⟨hh,ll,s6,rfl,e0⟩,b9⟩;obtain⟨fA,fn,fq,rfl,-⟩:=e0.slice;have g4:=Qa (ak d5.out (ak b2.out (ak HB.out b9)));have a5:=Qa (((ak HB.out b9).block w.heap.size (ag a1.out)).trans a1.out);clear b9 e0;unfold fR;go_wp2_with (refine eE a5.out ?_);refine Zh (dl Tryz.results36 _ _ w.heap.size 74 _ _ _ _ (0,0) (by simp) (setRow_heap _ _ _ _ _ _ a5.out)) rfl ⟨_,0,hh,ll,fA,fn,fq,rfl,fun _=>c7.out,below_setRow g4.out (Zb _) _⟩
   ·omega
  ·obtain⟨p,hp,-⟩:=c8 hc3;have:=Hl.out;omega
 ·obtain⟨c,hc⟩:∃c,s.data.toList[0]?=some c:=⟨_,Zd (by omega)⟩;have c0:=g0.out 0 c hc;have f7:(0:Int)<s.size:=by omega
  by_cases h47:c=47
  ·have hne:((c.toNat:Int) !=47)=false:=by rw[h47];rfl
   have HP:=Qa (show yH s.data.toList/\lE s.data.toList->aT s from fun h=>.inr ⟨by rw[hc,h47],h⟩);clear h47 hc;go_enter Tryz.func36,Tryz.ntmps36;go_wp2_with fail;refine(mT f2.out (by have:=Hl.out;omega)).mono ?_;rintro e w' ⟨rfl,z,rfl,f0,b1⟩;rw[Hl.out] at f0 b1;have g6:=Qa b1;clear b1 hl c0 hne;go_wp2_with fail;refine(kj f2.out (by have:=Hl.out;omega)).mono ?_;rintro e w3 ⟨c3,h3,l3,A3,n3,q3,rfl,c9,c8,a9⟩;unfold fR;have g1:=Qa c9;have c4:=Zf w3 (.cells #[.int .i64 0,.int .i64 0,.int .i64 0,.slice none 0 0] 74);have HZ:=Qa c4;have b8:=below_setRow (ac w3 (.cells #[.int .i64 0,.int .i64 0,.int .i64 0,.slice none 0 0] 74)) (Zb _) #[.int .i64 c3,.int .i64 h3,.int .i64 l3,.slice A3 n3 q3];have a0:=setRow_heap (w3.alloc (.cells #[.int .i64 0,.int .i64 0,.int .i64 0,.slice none 0 0] 74)) w3.heap.size _ #[.int .i64 c3,.int .i64 h3,.int .i64 l3,.slice A3 n3 q3] _ _ c4;clear c4;have b2:=Qa (ak a9 b8);have a1:=Qa ((b2.out.block w.heap.size (by have:=f6.out;omega)).trans c5.out);have d0:=aa a0 (j:=0) (u:=.int .i64 c3) rfl;have d3:=aa a0 (j:=3) (u:=.slice A3 n3 q3) rfl;have b4:=Qa (fun (i:Nat) (c:UInt8) (h:s.data.toList[i]?=some c)=>Zg b2.out (g0.out i c h))
   by_cases hc3:c3=0
   ·subst hc3;clear c9 c8 a9 b8
    by_cases hzl:z=s.size
    ·obtain rfl:=hzl;have b3:=Qa (g6.out rfl);have c7:=Qa (HP.out ⟨g1.out rfl,b3.out⟩);clear f0;go_wp2_with (refine eE HZ.out ?_);clear d0 d3 a0;generalize (w3.alloc (.cells #[.int .i64 0,.int .i64 0,.int .i64 0,.slice none 0 0] 74)).setRow w3.heap.size #[.int .i64 0,.int .i64 h3,.int .i64 l3,.slice A3 n3 q3]=w4 at *
     go_loopg [7,8,9] s.size (fun m s7 s8 s9 wr=> ∃i:Nat,m+i=s.size/\s9 =.int .i64 i/\Hid (GR w4 i s7 s8 wr))
     case atStart=>exact⟨0,rfl,rfl,Qa ⟨⟨[],by simp,be.nil _ _⟩,⟨[],by simp,ao.nil _ _⟩,Ze _ _⟩⟩
     case round=>
      obtain⟨i,hm,rfl,HR⟩:=hrel;have Hm:=Qa hm;obtain⟨⟨l,i0,hS⟩,⟨ys,h6,hO⟩,hB⟩:=HR.out;have HS:=Qa hS;have HO:=Qa hO;have HB:=Qa hB;have b5:=aG hO.bs;clear hS hO hB HR hm
      by_cases hlt:i<s.size
      ·have f3:(i:Int)<s.size:=by omega
       obtain⟨c,hc⟩:∃c,s.data.toList[i]?=some c:=⟨_,Zd (by rw[Hl.out];exact hlt)⟩;have c1:=Zg HB.out (b4.out i c hc)
       by_cases h47:c=47
       ·have g2:((c.toNat:Int)==47)=true:=by rw[h47];rfl
        rcases Nat.eq_zero_or_pos i with h0|h0
        ·subst h0;clear h47 hc b5;go_wp2_with fail;go_roundg (s.size - 1)
         case measure=>have:=Hm.out;omega
         case rel=>exact⟨1,by have:=Hm.out;omega,rfl,Qa ⟨⟨l,by omega,HS.out⟩,⟨[],by simp,ao.nil _ _⟩,HB.out⟩⟩
        ·have i8:(0:Int)<i:=by omega
         have a3:=Qa (show be (wr.alloc (.cells #[.string ⟨ys.toArray⟩] 9)) w4.heap.size u7 l from ai HS.out (ac _ _) (Zb _));have a2:=Qa (ak HB.out (ac wr (.cells #[.string ⟨ys.toArray⟩] 9)));clear h47 hc;go_wp2_with (at_builtin;refine kC lc a3.out (av wr [cH ⟨ys.toArray⟩] 9) a2.out.size ?_ (h1:=(by simp[cH,Value.oneCell'])) (hlen:=by unfold maxLen;omega) (hby:=by omega);intro v' w5 p1 p2 p3;have Hp1:=Qa p1;have Hb5:=Qa (aJ a2.out a3.out a2.out.size p2);clear p1 p2 p3);go_roundg (s.size - (i+1))
         case measure=>have:=Hm.out;omega
         case rel=>
          refine⟨i+1,by have:=Hm.out;omega,by go_num,Qa ⟨⟨l ++ [⟨ys.toArray⟩],by simp;omega,?_⟩,⟨[],by simp,ao.nil _ _⟩,Hb5.out⟩⟩;unfold be;rw[List.map_append,List.length_append];exact Hp1.out
       ·have g2:((c.toNat:Int)==47)=false:=by
         rw[beq_eq_false_iff_ne];intro e;exact h47 (UInt8.toNat_inj.1 (by have:c.toNat=47:=(by omega);rw[this];rfl))
        clear b5
        by_cases h126:c=126
        ·have f4:((c.toNat:Int)==126)=true:=by rw[h126];rfl
         obtain⟨d,hd,h7⟩:∃d,s.data.toList[i+1]?=some d/\(d=48\/d=49):=by
          rcases pg.1 b3.out i (by rw[hc,h126]) with h|h
          ·exact⟨_,h,.inl rfl⟩
          ·exact⟨_,h,.inr rfl⟩
         have j0:i+1<s.size:=by have:=(List.getElem?_eq_some_iff.1 hd).1;have:=Hl.out;omega
         have g8:(i:Int)+1<s.size:=by omega
         have c2:=Zg HB.out (b4.out (i+1) d hd);clear h47 hc h126 hd;rcases h7 with rfl|rfl
         ·have g7:(((48:UInt8).toNat:Int)==49)=false:=rfl;have a3:=Qa (show ao (wr.alloc (.cells #[.int .u8 126] 5)) w4.heap.size u8 ys from ai HO.out (ac _ _) (Zb _));have e2:=Qa (show be (wr.alloc (.cells #[.int .u8 126] 5)) w4.heap.size u7 l from ai HS.out (ac _ _) (Zb _));have a2:=Qa (ak HB.out (ac wr (.cells #[.int .u8 126] 5)));go_wp2_with (at_builtin;refine kC GE a3.out (av wr [.int .u8 126] 5) a2.out.size ?_ (h1:=(by simp[Value.oneCell'])) (hlen:=by unfold maxLen;omega) (hby:=by omega);intro v' w5 p1 p2 p3;have Hp1:=Qa p1;have Hb5:=Qa (aJ a2.out a3.out a2.out.size p2);have Hs5:=Qa (iq e2.out a3.out p2);clear p1 p2 p3);go_roundg (s.size - (i+2))
          case measure=>have:=Hm.out;omega
          case rel=>exact⟨i+2,by have:=Hm.out;omega,by go_num,Qa ⟨⟨l,by omega,Hs5.out⟩,⟨ys ++ [126],by simp;omega,ao.snoc (c:=126) Hp1.out⟩,Hb5.out⟩⟩
         ·have g7:(((49:UInt8).toNat:Int)==49)=true:=rfl;have a3:=Qa (show ao (wr.alloc (.cells #[.int .u8 47] 5)) w4.heap.size u8 ys from ai HO.out (ac _ _) (Zb _));have e2:=Qa (show be (wr.alloc (.cells #[.int .u8 47] 5)) w4.heap.size u7 l from ai HS.out (ac _ _) (Zb _));have a2:=Qa (ak HB.out (ac wr (.cells #[.int .u8 47] 5)));go_wp2_with (at_builtin;refine kC GE a3.out (av wr [.int .u8 47] 5) a2.out.size ?_ (h1:=(by simp[Value.oneCell'])) (hlen:=by unfold maxLen;omega) (hby:=by omega);intro v' w5 p1 p2 p3;have Hp1:=Qa p1;have Hb5:=Qa (aJ a2.out a3.out a2.out.size p2);have Hs5:=Qa (iq e2.out a3.out p2);clear p1 p2 p3);go_roundg (s.size - (i+2))
          case measure=>have:=Hm.out;omega
          case rel=>exact⟨i+2,by have:=Hm.out;omega,by go_num,Qa ⟨⟨l,by omega,Hs5.out⟩,⟨ys ++ [47],by simp;omega,ao.snoc (c:=47) Hp1.out⟩,Hb5.out⟩⟩
        ·have f4:((c.toNat:Int)==126)=false:=by
          rw[beq_eq_false_iff_ne];intro e;exact h126 (UInt8.toNat_inj.1 (by have:c.toNat=126:=(by omega);rw[this];rfl))
         clear h47 hc h126;have a3:=Qa (show ao (wr.alloc (.cells #[.int .u8 c.toNat] 5)) w4.heap.size u8 ys from ai HO.out (ac _ _) (Zb _));have e2:=Qa (show be (wr.alloc (.cells #[.int .u8 c.toNat] 5)) w4.heap.size u7 l from ai HS.out (ac _ _) (Zb _));have a2:=Qa (ak HB.out (ac wr (.cells #[.int .u8 c.toNat] 5)));go_wp2_with (at_builtin;refine kC GE a3.out (av wr [.int .u8 c.toNat] 5) a2.out.size ?_ (h1:=(by simp[Value.oneCell'])) (hlen:=by unfold maxLen;omega) (hby:=by omega);intro v' w5 p1 p2 p3;have Hp1:=Qa p1;have Hb5:=Qa (aJ a2.out a3.out a2.out.size p2);have Hs5:=Qa (iq e2.out a3.out p2);clear p1 p2 p3);go_roundg (s.size - (i+1))
         case measure=>have:=Hm.out;omega
         case rel=>exact⟨i+1,by have:=Hm.out;omega,by go_num,Qa ⟨⟨l,by omega,Hs5.out⟩,⟨ys ++ [c],by simp;omega,ao.snoc (c:=c) Hp1.out⟩,Hb5.out⟩⟩
      ·have f3:¬ (i:Int)<s.size:=by omega
       clear hlt;have i4:i<=s.size:=by have:=Hm.out;omega
       have a3:=Qa (show be (wr.alloc (.cells #[.string ⟨ys.toArray⟩] 9)) w4.heap.size u7 l from ai HS.out (ac _ _) (Zb _));have a2:=Qa (ak HB.out (ac wr (.cells #[.string ⟨ys.toArray⟩] 9)));go_wp2_with (at_builtin;refine kC lc a3.out (av wr [cH ⟨ys.toArray⟩] 9) a2.out.size ?_ (h1:=(by simp[cH,Value.oneCell'])) (hlen:=by unfold maxLen;omega) (hby:=by omega);intro v' w5 p1 p2 p3;have Hb5:=Qa (aJ a2.out a3.out a2.out.size p2);clear p1 p2 p3);refine(fP 0 w5).mono ?_;rintro e w6 ⟨v6,rfl,⟨hh,ll,s6,rfl,e0⟩,b9⟩;obtain⟨fA,fn,fq,rfl,-⟩:=e0.slice;have g4:=Qa (ak d5.out (ak b2.out (ak Hb5.out b9)));have a5:=Qa (((ak Hb5.out b9).block w.heap.size (ag a1.out)).trans a1.out);clear b9 e0;unfold fR;go_wp2_with (refine eE a5.out ?_);refine Zh (dl Tryz.results36 _ _ w.heap.size 74 _ _ _ _ (0,0) (by simp) (setRow_heap _ _ _ _ _ _ a5.out)) rfl ⟨_,0,hh,ll,fA,fn,fq,rfl,fun _=>c7.out,below_setRow g4.out (Zb _) _⟩
    ·have i5:(z:Int)<s.size:=by omega
     clear hzl;go_wp2_with (refine eE HZ.out ?_);clear d0 d3 a0;generalize (w3.alloc (.cells #[.int .i64 0,.int .i64 0,.int .i64 0,.slice none 0 0] 74)).setRow w3.heap.size #[.int .i64 0,.int .i64 h3,.int .i64 l3,.slice A3 n3 q3]=w4 at *;refine(iJ 115 z w4).mono ?_;rintro e w5 ⟨sv,rfl,⟨g5,rfl,-,-⟩,c6⟩;have a4:=Qa ((c6.block w.heap.size (ag a1.out)).trans a1.out);have Hb5:=Qa (ak d5.out (ak b2.out c6));clear c6;unfold fR;go_wp2_with (refine eE a4.out ?_);refine Zh (dl Tryz.results36 _ _ w.heap.size 74 _ _ _ _ (0,0) (by simp) (setRow_heap _ _ _ _ _ _ a4.out)) rfl ⟨_,115,0,0,_,1,1,rfl,fun e=>by omega,below_setRow Hb5.out (Zb _) _⟩
   ·obtain⟨p,hp,g,e1,-,h5⟩:=c8 hc3;obtain⟨rfl,rfl,rfl⟩:=Value.slice.inj e1;have i9:(c3 !=0)=true:=by simpa using hc3
    have d4:=Zg b8 h5;have i2:=Qa hc3;clear c9 c8 a9 b8 h5 hc3
    by_cases hpz:p<z
    ·have f7:(p:Int)<z:=by omega
     have d1:=aa a0 (j:=1) (u:=.int .i64 h3) rfl;have d2:=aa a0 (j:=2) (u:=.int .i64 l3) rfl;have HD:=Qa (And.intro d0 (And.intro d1 (And.intro d2 (And.intro d3 a1.out))));clear d1 d2;go_wp2_with (refine eE HZ.out ?_);clear d0 d3 d4 a0;generalize (w3.alloc (.cells #[.int .i64 0,.int .i64 0,.int .i64 0,.slice none 0 0] 74)).setRow w3.heap.size #[.int .i64 c3,.int .i64 h3,.int .i64 l3,.slice (some ⟨g,0,none⟩) 1 1]=w4 at *;refine ch (fun w'=>w'.cell? ⟨w3.heap.size,0,none⟩=some (.int .i64 c3)/\w'.cell? ⟨w3.heap.size,1,none⟩=some (.int .i64 h3)/\w'.cell? ⟨w3.heap.size,2,none⟩=some (.int .i64 l3)/\w'.cell? ⟨w3.heap.size,3,none⟩=some (.slice (some ⟨g,0,none⟩) 1 1)/\w'.heap[w.heap.size]?=some (.cells #[.int .i64 0,.int .i64 0,.int .i64 0,.slice none 0 0] 74 (0,0))) 2 (HD.out) fun h2=>?_
     refine tZ 0 h2 ?_
     try simp only[Act.put,jP,jQ,jR]
     refine tZ 1 h2 ?_
     try simp only[Act.put,jP,jQ,jR]
     refine rZ 2 fun K hK=>?_
     refine kW HD.out.2.2.2.2 ?_;refine hK.out _ _ (fun h=>absurd rfl h) (fun _=>?_);clear hK K
     try simp only[Act.put,jP,jQ,jR]
     refine aH (by kernel_rfl) (NoPanic.normal ?_) _;go_wp2_with fail;exact Zh (dl Tryz.results36 _ _ w.heap.size 74 _ _ _ _ (0,0) (by simp) (setRow_heap _ _ _ _ _ _ HD.out.2.2.2.2)) rfl ⟨_,c3,h3,l3,_,1,1,rfl,fun e=>absurd e i2.out,below_setRow (ak d5.out b2.out.drew) (Zb _) _⟩
    ·have f7:¬ (p:Int)<z:=by omega
     have i5:(z:Int)<s.size:=by have:=Hl.out;omega
     go_wp2_with (refine eE HZ.out ?_);clear d0 d3 d4 a0;generalize (w3.alloc (.cells #[.int .i64 0,.int .i64 0,.int .i64 0,.slice none 0 0] 74)).setRow w3.heap.size #[.int .i64 c3,.int .i64 h3,.int .i64 l3,.slice (some ⟨g,0,none⟩) 1 1]=w4 at *;refine(iJ 115 z w4).mono ?_;rintro e w5 ⟨sv,rfl,⟨g5,rfl,-,-⟩,c6⟩;have a4:=Qa ((c6.block w.heap.size (ag a1.out)).trans a1.out);have Hb5:=Qa (ak d5.out (ak b2.out c6));clear c6;unfold fR;go_wp2_with (refine eE a4.out ?_);refine Zh (dl Tryz.results36 _ _ w.heap.size 74 _ _ _ _ (0,0) (by simp) (setRow_heap _ _ _ _ _ _ a4.out)) rfl ⟨_,115,0,0,_,1,1,rfl,fun e=>by omega,below_setRow Hb5.out (Zb _) _⟩
  ·have hne:((c.toNat:Int) !=47)=true:=by
    rw[bne_iff_ne];intro e;exact h47 (UInt8.toNat_inj.1 (by have:c.toNat=47:=(by omega);rw[this];rfl))
   clear h47 hc hl;go_enter Tryz.func36,Tryz.ntmps36;go_wp2_with fail;refine(show Calls Tryz.prog 73 #[.int .i64 115,.int .i64 0] W2 _ from iJ 115 0 W2).mono ?_;rintro e w3 ⟨sv,rfl,⟨g3,rfl,-,-⟩,a9⟩;have f1:=Qa ((a9.block w.heap.size (by have:=f6.out;omega)).trans c5.out);have i3:=Qa (ak d5.out a9);clear a9 c0;unfold fR;go_wp2_with (refine eE f1.out ?_);refine Zh (dl Tryz.results36 _ _ w.heap.size 74 _ _ _ _ (0,0) (by simp) (setRow_heap _ _ _ _ _ _ f1.out)) rfl ⟨_,115,0,0,_,1,1,rfl,fun e=>by omega,below_setRow i3.out (Zb _) _⟩
