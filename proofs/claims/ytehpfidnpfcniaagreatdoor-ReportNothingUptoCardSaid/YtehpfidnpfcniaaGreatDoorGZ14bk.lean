import Derived.Test.YtehpfidnpfcniaaGreatDoorGZ14bj
set_option linter.unusedVariables false
set_option linter.unusedSimpArgs false
set_option maxHeartbeats 64000000
set_option maxRecDepth 100000
namespace Go.Proofs.YtehpfidnpfcniaaGreatDoor
open Go.RowKit Go.Shelf
variable {l:List ByteArray}{xs ys:List UInt8}{us:List Value}{b1 b2 base i n:Nat}{u v:Value}{w w':World}
def uJ (B:Nat)(w:World)(v:Value)(p:Nat):Prop:= ∃g,v =.slice (some ⟨g,0,none⟩) 1 1/\B<=g/\w.cell? ⟨g,1,none⟩=some (.int .i64 p)
def D2 (c:Int)(p:Nat)(w:World)(e:Ending)(w':World):Prop:= ∃s,e =.returned (fM c 0 0 s)/\uJ w.heap.size w' s p/\Below w.heap.size w w'
theorem iK (c:Int)(p:Nat)(w:World):Calls Tryz.prog 63 #[.int .i64 c,.int .i64 p] w (D2 c p w):=by
 go_enter Tryz.func63,Tryz.ntmps63;go_wp2;refine Zh (results_cell_row Tryz.results63 _ _ w.heap.size 73 #[.int .i64 c,.int .i64 0,.int .i64 0,.slice (some ⟨w.heap.size+1,0,none⟩) 1 1] (0,0) _ (by simp) ?_ Tryz.underlying73 rfl cR) rfl ⟨_,rfl,⟨w.heap.size+1,rfl,by omega,?_⟩,?_⟩
 ·exact(Below.heap_alloc _ _ _ (by simp)).trans (Zf w _)
 ·have:=ar (w.alloc (.cells #[.int .i64 c,.int .i64 0,.int .i64 0,.slice (some ⟨w.heap.size+1,0,none⟩) 1 1] 73)) [.bool false,.int .i64 p,.string es] 125 1 _ rfl
  rwa[World.size_alloc] at this
 ·exact ak (ac _ _) (ac _ _)
def yt (xs:List UInt8):Prop:= ∃cs:List Int,(∀c∈cs,b6 c=true)/\xs=cs.flatMap aO
theorem yt.nil:yt []:=⟨[],fun _ h=>(by cases h),rfl⟩
theorem yt.next {k:Nat}(h:yt (xs.take k))(hd:(a8 (xs.drop k)).2.2=0):yt (xs.take (k+ (a8 (xs.drop k)).2.1)):=by
 obtain⟨cs,h1,h2⟩:=h;obtain⟨h3,h4⟩:=gB hd;refine⟨cs ++ [((a8 (xs.drop k)).1:Int)],fun c hc=>?_,?_⟩
 ·rcases List.mem_append.1 hc with hc|hc
  ·exact h1 c hc
  ·rw[List.mem_singleton.1 hc];exact h4
 ·rw[List.take_add,h2,<-h3,List.flatMap_append];simp
theorem j8 {fn:Func}{p u q:Tmp}(h:fn.results = #[.tmp p,.tmp u,.cell q 73])(tmps:Array Value)(w:World)(g:Nat)(t:TypeId)(c0 c1 c2 c3:Value)(fr:Nat×Nat)
  (hp:tmps.getD q undef =.pointer (some ⟨g,0,none⟩)) (hg:w.heap[g]?=some (.cells #[c0,c1,c2,c3] t fr)) :
  (results fn tmps).run Tryz.prog w =.ok (.tuple #[tmps.getD p undef,tmps.getD u undef,.agg #[c0,c1,c2,c3]]) w:=by
 have a0:tmps[q]?.getD undef =.pointer (some ⟨g,0,none⟩):=by simpa using hp
 have hl:=run_loadVar_row (P:=Tryz.prog) w g t 73 #[c0,c1,c2,c3] fr _ hg Tryz.underlying73 rfl cR;simp[results,h,a0,asAddr,hl]
def DY (xs:List UInt8)(w:World)(e:Ending)(w':World):Prop:= ∃ (v1 v2:Value) (c h l:Int) (A:Option Addr) (n q:Nat),e =.returned (.tuple #[v1,v2,fM c h l (.slice A n q)])/\(c=0->yt xs)/\(c≠0->∃p,p<xs.length/\uJ w.heap.size w' (.slice A n q) p)/\Below w.heap.size w w'
def Ew (xs:List UInt8)(w0:World)(s5 s6 s7:Value)(wr:World):Prop:= ∃ (k m:Nat) (us vs:List Value),m<=k/\k<=xs.length/\s7 =.int .i64 k/\yt (xs.take k)/\wr.ownsRow w0.heap.size 3 1 s5 m us/\wr.ownsRow w0.heap.size 21 1 s6 m vs/\Below w0.heap.size w0 wr
theorem r8 {n1 n2 k1 k2:Nat}{e1 e2:TypeId}{vs:List Value}(h:w.ownsRow b1 e1 k1 v n1 us)(k:w.ownsRow b2 e2 k2 u n2 vs)(he:e1≠e2):∀g,v.ownBlock=some g->u.ownBlock≠some g:=by
 intro g h1 h2;obtain⟨_,c1,h3⟩:=al h h1;obtain⟨_,c2,h4⟩:=al k h2;rw[h3] at h4;injection h4 with h4
 injection h4 with _ h4 _
 exact he h4
theorem xd (hb:Bs w v xs)(hlen:xs.length<=2000000):Calls Tryz.prog 97 #[v] w (DY xs w):=by
 obtain⟨hm,A,cap,rfl,g8,a9⟩:=id hb;have c1:=ac w (.cells #[.int .i64 0,.int .i64 0,.int .i64 0,.slice none 0 0] 73);have b4:=Zf w (.cells #[.int .i64 0,.int .i64 0,.int .i64 0,.slice none 0 0] 73);have b2:(w.alloc (.cells #[.int .i64 0,.int .i64 0,.int .i64 0,.slice none 0 0] 73)).heap.size=w.heap.size+1:=by simp
 have Hb:=H8 (hb.below c1);have b8:=H8 c1;have c5:=H8 b4;have d9:=H8 b2;clear hb a9 c1 b4 b2;go_enter Tryz.func97,Tryz.ntmps97;go_wp2_with fail;generalize (w.alloc (.cells #[.int .i64 0,.int .i64 0,.int .i64 0,.slice none 0 0] 73))=w0 at *
 go_loopw [5,6,7,8,9,10] (fun s5 s6 s7 _ _ _ wr=>Ew xs w0 s5 s6 s7 wr) (fun _ _ i _ _ _ _=>xs.length - (intOf i).toNat)
 case atStart=>exact⟨0,0, [], [],Zb _,Zj _,rfl,by rw[List.take_zero];exact yt.nil,World.ownsRow_nil _ _ _ _,World.ownsRow_nil _ _ _ _,Ze _ _⟩
 case round=>
  obtain⟨k,m,us,vs,h8,hk,rfl,f4,f0,d6,d2⟩:=hrel;have f1:=H8 f4;have g7:=H8 f0;have f7:=H8 d6;have a3:=H8 d2;clear f4 f0 d6 d2;have d1:=H8 (Hb.out.below a3.out);have a2:=H8 ((a3.out.block w.heap.size (by rw[d9.out];omega)).trans c5.out)
  by_cases hlt:k<xs.length
  ·obtain⟨-,A',c',e',-,d5⟩:=id d1.out;injection e' with e1 e2 e3
   subst e1 e3;obtain⟨b0,o0,rfl,-⟩:=d5 (by omega);have h7:¬cap=k:=by omega
   have hcut:=H8 (d1.out.cut hk);have hle:=dx xs k hk;clear d5 e2;go_wp2_with fail;refine(tO hcut.out).mono ?_;rintro e w2 ⟨⟨code,rfl,a1⟩,e4⟩;have a4:=H8 e4;clear e4
   by_cases hz:(a8 (xs.drop k)).2.2=0
   ·have e6:code=0:=a1.2 hz;subst e6;clear a1;have hp:=dM hz;have f5:=H8 (f1.out.next hz);generalize (a8 (xs.drop k)).1=cc at *;generalize (a8 (xs.drop k)).2.1=nn at *;clear hz;have b9:w0.heap.size<=w2.heap.size:=Zc a3.out.size a4.out.size;have c0:=H8 (ag (ag g7.out a4.out (Zb _)) (ac w2 (.cells #[.int .i64 (k:Int)] 3)) (Zb _));have h6:=H8 (ar w2 [.int .i64 (k:Int)] 3);have c8:=H8 ((a3.out.trans (a4.out.mono a3.out.size)).alloc b9 (.cells #[.int .i64 (k:Int)] 3));have b3:=H8 (ag (ag f7.out a4.out (Zb _)) (ac w2 (.cells #[.int .i64 (k:Int)] 3)) (Zb _));have g2:=H8 (r8 c0.out b3.out (by decide));go_upto_region 9 with (at_builtin;refine dC Fg rfl (.tmp 30) (.tmp 32) rfl w0.heap.size u5 m w2.heap.size 1 1 us [.int .i64 (k:Int)] (by simp[Act.eval]) c0.out (by simp[Act.eval]) rfl h6.out (by simp[Value.oneCell']) (by unfold maxLen;omega) (by omega) (by simp;omega) ?_;intro v5 w5 h1 h2 h3;have g4:=H8 h1;have e5:=H8 h2;clear h1 h2 h3)
    have c2:=H8 (World.ownsRow.kept b3.out e5.out (by
     by_cases he:u6.ownBlock=none
     ·exact .inl he
     ·obtain⟨g6,f3⟩:=Option.ne_none_iff_exists'.1 he;exact .inr (fun e=>g2.out g6 (by rw[<-e];exact f3) f3)))
    have d4:=H8 (aA c8.out c0.out c8.out.size e5.out);have f6:=d4.out.size;have b5:=H8 (ag c2.out (ac w5 (.cells #[.int .i32 (cc:Int)] 21)) (Zb _));have f8:=H8 (ar w5 [.int .i32 (cc:Int)] 21);have d3:=H8 (d4.out.alloc f6 (.cells #[.int .i32 (cc:Int)] 21));have b1:=H8 (ag g4.out (ac w5 (.cells #[.int .i32 (cc:Int)] 21)) (Zb _));have g0:=H8 (r8 b1.out b5.out (by decide));go_wp2_with (at_builtin;refine dC sL rfl (.tmp 34) (.tmp 36) rfl w0.heap.size u6 m w5.heap.size 1 1 vs [.int .i32 (cc:Int)] (by simp[Act.eval]) b5.out (by simp[Act.eval]) rfl f8.out (by simp[Value.oneCell']) (by unfold maxLen;omega) (by omega) (by simp;omega) ?_;intro v6 w6 h1 h2 h3;have h5:=H8 h1;have f2:=H8 h2;clear h1 h2 h3);have c3:=World.ownsRow.kept b1.out f2.out (by
     by_cases he:v5.ownBlock=none
     ·exact .inl he
     ·obtain⟨g5,d0⟩:=Option.ne_none_iff_exists'.1 he;exact .inr (fun e=>g0.out g5 d0 (by rw[<-e];exact d0)))
    exact⟨⟨k+nn,m+1,_,_,by omega,by omega,by go_num,f5.out,c3,h5.out,aA d3.out b5.out d3.out.size f2.out⟩,by simp[intOf];omega⟩
   ·have e6:(code !=0)=true:=by
     have:code≠0:=fun h=>hz (a1.1 h)
     simpa using this
    have h0:=H8 (show code≠0 from fun h=>hz (a1.1 h));clear a1 hz;go_wp2_with fail;refine(iK code k w2).mono ?_;rintro e w3 ⟨s,rfl,⟨g3,rfl,e0,c9⟩,a5⟩;have c6:=H8 (And.intro e0 c9);clear e0 c9;unfold fM;have c4:=H8 a5;have a0:=H8 (((ak a4.out a5).block w.heap.size (ah a2.out)).trans a2.out);clear a5;go_wp2_with (refine wpList_store_rowTo rfl 73 (.tmp 4) (.tmp 29) rfl rfl w.heap.size #[.int .i64 code,.int .i64 0,.int .i64 0,.slice (some ⟨g3,0,none⟩) 1 1] (by simp[Act.eval]) (by simp[Act.eval]) 73 _ a0.out cR rfl (o7 code 0 0 rfl) ?_);exact Zh (j8 Tryz.results97 _ _ w.heap.size 73 _ _ _ _ (0,0) (by simp) (setRow_heap _ _ _ _ _ _ a0.out)) rfl ⟨u5,u6,code,0,0,_,1,1,rfl,fun e=>absurd e h0.out,fun _=>⟨k,hlt,g3,rfl,Zc (ak b8.out (ak a3.out a4.out)).size c6.out.1,(aD _ _ _).cell c6.out.2 (fun e=>by have h1:=c6.out.1;have h2:=(ak a3.out a4.out).size;have h3:=d9.out;have h4:=Zi e;simp only at h4;omega)⟩,below_setRow (ak b8.out (ak a3.out (ak a4.out c4.out))) (Zb _) _⟩
  ·obtain g1:k=xs.length:=by omega
   subst g1;have c7:=H8 (show yt xs by have h:=f1.out;rwa[List.take_length] at h);go_wp2_with fail;refine(fJ 0 wr).mono ?_;rintro e w3 ⟨v,rfl,⟨hh,ll,s,rfl,f9⟩,a5⟩;obtain⟨fA,fn,fq,rfl,-⟩:=f9.slice;unfold fM;have c4:=H8 a5;have a0:=H8 ((a5.block w.heap.size (ah a2.out)).trans a2.out);clear a5;go_wp2_with (refine wpList_store_rowTo rfl 73 (.tmp 4) (.tmp 43) rfl rfl w.heap.size #[.int .i64 0,.int .i64 hh,.int .i64 ll,.slice fA fn fq] (by simp[Act.eval]) (by simp[Act.eval]) 73 _ a0.out cR rfl (o7 0 hh ll rfl) ?_);exact Zh (j8 Tryz.results97 _ _ w.heap.size 73 _ _ _ _ (0,0) (by simp) (setRow_heap _ _ _ _ _ _ a0.out)) rfl ⟨u5,u6,0,hh,ll,fA,fn,fq,rfl,fun _=>c7.out,fun e=>absurd rfl e,below_setRow (ak b8.out (ak a3.out c4.out)) (Zb _) _⟩
def EM (xs:List UInt8)(w:World)(e:Ending)(w':World):Prop:= ∃ (c h l:Int) (A:Option Addr) (n q:Nat),e =.returned (fM c h l (.slice A n q))/\(c=0->yt xs)/\(c≠0->∃p,p<xs.length/\uJ w.heap.size w' (.slice A n q) p)/\Below w.heap.size w w'
theorem jW (hb:Bs w v xs)(hlen:xs.length<=2000000):Calls Tryz.prog 65 #[v] w (EM xs w):=by
 have a4:=ac w (.cells #[.int .i64 0,.int .i64 0,.int .i64 0,.slice none 0 0] 73);have a3:=H8 (Zf w (.cells #[.int .i64 0,.int .i64 0,.int .i64 0,.slice none 0 0] 73));have Hc:=H8 (xd (hb.below a4) hlen);have a9:=H8 a4;clear hb a4;go_enter Tryz.func65,Tryz.ntmps65;go_wp2_with fail;refine Za Hc ?_;rintro e w2 ⟨v1,v2,c,hh,ll,fA,fn,fq,rfl,b1,b2,a2⟩;have b0:=H8 (And.intro b1 b2);clear b2;have b4:=H8 a2;have a1:=H8 ((a2.block w.heap.size (by simp)).trans a3.out);have a5:=ac w2 (.cells #[.int .i64 c,.int .i64 hh,.int .i64 ll,.slice fA fn fq] 73);have a0:=H8 ((a5.block w.heap.size (ah a1.out)).trans a1.out);have b3:=H8 (a9.out.trans ((a2.trans (a5.mono a2.size)).mono a9.out.size));unfold fM;clear b1 a2 a5 Hc;go_wp2_with (refine wpList_store_rowTo rfl 73 (.tmp 2) (.tmp 12) rfl rfl w.heap.size #[.int .i64 c,.int .i64 hh,.int .i64 ll,.slice fA fn fq] (by simp[Act.eval]) (by simp[Act.eval]) 73 _ a0.out cR rfl (o7 c hh ll rfl) ?_);refine Zh (results_cell_row Tryz.results65 _ _ w.heap.size 73 #[.int .i64 c,.int .i64 hh,.int .i64 ll,.slice fA fn fq] (0,0) _ (by simp) (setRow_heap _ _ _ _ _ _ a0.out) Tryz.underlying73 rfl cR) rfl ⟨c,hh,ll,fA,fn,fq,rfl,b0.out.1,fun hc=>by
  obtain⟨p,hp,g,e1,e2,e3⟩:=b0.out.2 hc;exact⟨p,hp,g,e1,by simp at e2;omega,(aD _ _ _).cell (Zg (ac _ _) e3) (fun e=>by have h4:=Zi e;simp at e2 h4;omega)⟩,below_setRow b3.out (Zb _) _⟩
def Ex (xs:List UInt8)(w:World)(e:Ending)(w':World):Prop:=w=w'/\∃z:Nat,e =.returned (.int .i64 z)/\z<=xs.length/\(z=xs.length->lK xs)
theorem lU (h:i<xs.length)(hb:am xs i=n)(hn:n<256):xs[i]?=some (UInt8.ofNat n):=by
 rw[Zd h];unfold am at hb;rw[List.getD_eq_getElem?_getD,Zd h] at hb;simp at hb;rw[<-hb];simp
def mO (xs:List UInt8)(i:Nat):Prop:= ∀j:Nat,j<i->xs[j]?=some 126->xs[j+1]?=some 48\/xs[j+1]?=some 49
theorem mO.next (h:mO xs i)(hi:xs[i]?=some 126->xs[i+1]?=some 48\/xs[i+1]?=some 49):mO xs (i+1):=fun j hj hx=>by
 rcases Nat.lt_or_ge j i with h1|h1
 ·exact h j h1 hx
 ·obtain rfl:j=i:=by omega
  exact hi hx
theorem mO.all (h:mO xs xs.length):lK xs:=oS.2 fun j hx=>h j (List.getElem?_eq_some_iff.1 hx).1 hx
theorem nk (hb:Bs w v xs)(hl:xs.length<=1000000000):Calls Tryz.prog 64 #[v] w (Ex xs w):=by
 obtain⟨-,A,cap,rfl,b1,a0⟩:=hb;have Hc:=H8 a0;clear a0;go_enter Tryz.func64,Tryz.ntmps64;go_wp2_with fail
 go_loopg [3] xs.length (fun m s3 wr=> ∃i:Nat,m+i=xs.length/\s3 =.int .i64 i/\Hid (mO xs i)/\w=wr)
 case atStart=>exact⟨0,rfl,rfl,H8 (fun j hj=>by omega),rfl⟩
 case round=>
  obtain⟨i,hm,rfl,Ht,rfl⟩:=hrel;have Hm:=H8 hm
  by_cases hlt:i<xs.length
  ·have a2:(i:Int)<xs.length:=by omega
   obtain⟨b0,o0,rfl,a1⟩:=Hc.out (by omega);have c0:=a1 i hlt
   by_cases hx:am xs i=126
   ·have hb:(((am xs i:Nat):Int)==126)=true:=by rw[hx];rfl
    by_cases hend:i+1=xs.length
    ·have a9:((i:Int)+1== (xs.length:Int))=true:=by rw[beq_iff_eq];omega
     clear hx a1;go_wp2_with fail;go_ret;exact⟨rfl,i,rfl,by omega,fun e=>by omega⟩
    ·have a9:((i:Int)+1== (xs.length:Int))=false:=by rw[beq_eq_false_iff_ne];omega
     have a3:i+1<xs.length:=by omega
     have c1:=a1 (i+1) a3
     by_cases h48:am xs (i+1)=48
     ·have a5:(((am xs (i+1):Nat):Int) !=48)=false:=by rw[h48];rfl
      have Hn:=H8 (Ht.out.next (fun _=>.inl (lU a3 h48 (by decide))));clear hx a1 h48;go_wp2_with fail;go_roundg (xs.length - (i+1))
      case measure=>have:=Hm.out;omega
      case rel=>exact⟨i+1,by omega,by go_num,Hn,rfl⟩
     ·have a5:(((am xs (i+1):Nat):Int) !=48)=true:=by rw[bne_iff_ne];omega
      by_cases h49:am xs (i+1)=49
      ·have a4:(((am xs (i+1):Nat):Int) !=49)=false:=by rw[h49];rfl
       have Hn:=H8 (Ht.out.next (fun _=>.inr (lU a3 h49 (by decide))));clear hx a1 h48 h49;go_wp2_with fail;go_roundg (xs.length - (i+1))
       case measure=>have:=Hm.out;omega
       case rel=>exact⟨i+1,by omega,by go_num,Hn,rfl⟩
      ·have a4:(((am xs (i+1):Nat):Int) !=49)=true:=by rw[bne_iff_ne];omega
       clear hx a1 h48 h49;go_wp2_with fail;go_ret;exact⟨rfl,i,rfl,by omega,fun e=>by omega⟩
   ·have hb:(((am xs i:Nat):Int)==126)=false:=by rw[beq_eq_false_iff_ne];omega
    have Hn:=H8 (Ht.out.next (fun h=>absurd (by
     unfold am;rw[List.getD_eq_getElem?_getD,h];rfl) hx))
    clear hx a1;go_wp2_with fail;go_roundg (xs.length - (i+1))
    case measure=>have:=Hm.out;omega
    case rel=>exact⟨i+1,by omega,by go_num,Hn,rfl⟩
  ·obtain rfl:i=xs.length:=by omega
   have a2:¬ (xs.length:Int)<xs.length:=by omega
   clear hm hlt Hm;go_wp2_with fail;go_ret;exact⟨rfl,_,rfl,Zb _,fun _=>Ht.out.all⟩
theorem Gz:cV 28 5 (.int .u8 0) 1 1:=⟨Tryz.underlying28,by kernel_rfl,rfl,by decide⟩
theorem ao.snoc {c:UInt8}(h:w.ownsRow base 5 1 v (ys.length+1) (eD ys ++ [.int .u8 c.toNat])):ao w base v (ys ++ [c]):=by
 unfold ao;rw[List.length_append];have:eD (ys ++ [c])=eD ys ++ [.int .u8 c.toNat]:=by simp[eD,bv]
 rw[this];exact h
theorem io (h:aZ w b1 v l)(he:ao w b2 u ys)(hg:w.grownBy w' u.ownBlock):aZ w' b1 v l:=by
 refine World.ownsRow.kept h hg ?_
 cases hv:v.ownBlock with
 |none=>exact .inl rfl
 |some k=>
  refine .inr fun e=>?_
  obtain⟨-,c1,h1⟩:=al h hv;obtain⟨-,c2,h2⟩:=al he e.symm;rw[h1] at h2;injection h2 with h2
  injection h2 with _ h2 _
  exact absurd h2 (by decide)
def GG (w:World)(i:Nat)(s7 s8:Value)(wr:World):Prop:=(∃l:List ByteArray,l.length<=i/\aZ wr w.heap.size s7 l)/\(∃ys:List UInt8,ys.length<=i/\ao wr w.heap.size s8 ys)/\Below w.heap.size w wr
def GW (s:ByteArray)(w:World)(e:Ending)(w':World):Prop:= ∃ (u:Value) (c h l:Int) (A:Option Addr) (n q:Nat),e =.returned (.tuple #[u,fM c h l (.slice A n q)])/\(c=0->aT s)/\Below w.heap.size w w'
theorem kb {s:ByteArray}(hs:s.size<=2000000):Calls Tryz.prog 32 #[.string s] w (GW s w):=by
 have hl:s.data.toList.length=s.size:=by simp
 have h4:=ac w (.cells #[.int .i64 0,.int .i64 0,.int .i64 0,.slice none 0 0] 73);have e0:=Zf w (.cells #[.int .i64 0,.int .i64 0,.int .i64 0,.slice none 0 0] 73);have f1:(w.alloc (.cells #[.int .i64 0,.int .i64 0,.int .i64 0,.slice none 0 0] 73)).heap.size=w.heap.size+1:=by simp
 obtain⟨W2,cap,f0,f5,g1⟩:=DO (w.alloc (.cells #[.int .i64 0,.int .i64 0,.int .i64 0,.slice none 0 0] 73)) s (by omega);rw[World.size_alloc] at f0 g1;have b5:=H8 ((f5.block w.heap.size (by rw[f1];omega)).trans e0);have c9:=H8 (ak h4 f5);have e6:=H8 g1;have b1:w.heap.size+1<=W2.heap.size:=by have:=f5.size;omega
 have g6:=H8 b1;clear h4 f5 g1 e0 f1 b1;have g4:=H8 (show ∀ (i:Nat) (c:UInt8),s.data.toList[i]?=some c->W2.cell? ⟨w.heap.size+1,i,none⟩=some (.int .u8 (c.toNat:Nat)) from by
  intro i c hx;have hi:=(List.getElem?_eq_some_iff.1 hx).1;obtain⟨-,A,q,e',-,i2⟩:=e6.out;obtain⟨b0,o0,rfl,g0⟩:=i2 (by omega);obtain⟨e1,-,-⟩:=Value.slice.inj e';obtain⟨e4,e5,-⟩:=Addr.mk.inj (Zi e1);subst e4 e5;have:=g0 i hi;rw[Nat.zero_add] at this;rw[this];unfold am;rw[List.getD_eq_getElem?_getD,hx];rfl)
 have Hl:=H8 hl;rcases Nat.eq_zero_or_pos s.size with hz|i5
 ·have d9:s.data.toList = []:=List.eq_nil_of_length_eq_zero (by omega);have HP:=H8 (show yt s.data.toList/\lK s.data.toList->aT s from fun _=>.inl d9);have g2:¬ (0:Int)<s.size:=by omega
  clear d9 hz;go_enter Tryz.func32,Tryz.ntmps32;go_wp2_with fail;refine(nk e6.out (by have:=Hl.out;omega)).mono ?_;rintro e w' ⟨rfl,z,rfl,f2,b1⟩;rw[Hl.out] at f2 b1;have f8:=H8 b1;clear b1 hl;go_wp2_with fail;refine(jW e6.out (by have:=Hl.out;omega)).mono ?_;rintro e w3 ⟨c3,h3,l3,A3,n3,q3,rfl,c8,d5,a9⟩;unfold fM;have f7:=H8 c8;have b9:=Zf w3 (.cells #[.int .i64 0,.int .i64 0,.int .i64 0,.slice none 0 0] 73);have HZ:=H8 b9;have c5:=below_setRow (ac w3 (.cells #[.int .i64 0,.int .i64 0,.int .i64 0,.slice none 0 0] 73)) (Zb _) #[.int .i64 c3,.int .i64 h3,.int .i64 l3,.slice A3 n3 q3];have a0:=setRow_heap (w3.alloc (.cells #[.int .i64 0,.int .i64 0,.int .i64 0,.slice none 0 0] 73)) w3.heap.size _ #[.int .i64 c3,.int .i64 h3,.int .i64 l3,.slice A3 n3 q3] _ _ b9;clear b9;have b2:=H8 (ak a9 c5);have a1:=H8 ((b2.out.block w.heap.size (by have:=g6.out;omega)).trans b5.out);have d0:=aa a0 (j:=0) (u:=.int .i64 c3) rfl;have d3:=aa a0 (j:=3) (u:=.slice A3 n3 q3) rfl;have c7:=H8 (fun (i:Nat) (c:UInt8) (h:s.data.toList[i]?=some c)=>Zg b2.out (g4.out i c h))
  by_cases hc3:c3=0
  ·subst hc3;clear c8 d5 a9 c5
   by_cases hzl:z=s.size
   ·obtain rfl:=hzl;have b3:=H8 (f8.out rfl);have c4:=H8 (HP.out ⟨f7.out rfl,b3.out⟩);clear f2;go_wp2_with (refine eN HZ.out ?_);clear d0 d3 a0;generalize (w3.alloc (.cells #[.int .i64 0,.int .i64 0,.int .i64 0,.slice none 0 0] 73)).setRow w3.heap.size #[.int .i64 0,.int .i64 h3,.int .i64 l3,.slice A3 n3 q3]=w4 at *
    go_loopg [7,8,9] s.size (fun m s7 s8 s9 wr=> ∃i:Nat,m+i=s.size/\s9 =.int .i64 i/\Hid (GG w4 i s7 s8 wr))
    case atStart=>exact⟨0,rfl,rfl,H8 ⟨⟨[],by simp,aZ.nil _ _⟩,⟨[],by simp,ao.nil _ _⟩,Ze _ _⟩⟩
    case round=>
     obtain⟨i,hm,rfl,HR⟩:=hrel;have Hm:=H8 hm;obtain⟨⟨l,h7,hS⟩,⟨ys,h6,hO⟩,hB⟩:=HR.out;have HS:=H8 hS;have HO:=H8 hO;have HB:=H8 hB;have c6:=aH hO.bs;clear hS hO hB HR hm
     by_cases hlt:i<s.size
     ·omega
     ·have e3:¬ (i:Int)<s.size:=by omega
      clear hlt;go_wp2_with fail;refine(fJ 0 wr).mono ?_;rintro e w6 ⟨v6,rfl,⟨hh,ll,s6,rfl,f3⟩,b8⟩;obtain⟨fA,fn,fq,rfl,-⟩:=f3.slice;have f6:=H8 (ak c9.out (ak b2.out (ak HB.out b8)));have a5:=H8 (((ak HB.out b8).block w.heap.size (ah a1.out)).trans a1.out);clear b8 f3;unfold fM;go_wp2_with (refine eN a5.out ?_);refine Zh (dl Tryz.results32 _ _ w.heap.size 73 _ _ _ _ (0,0) (by simp) (setRow_heap _ _ _ _ _ _ a5.out)) rfl ⟨_,0,hh,ll,fA,fn,fq,rfl,fun _=>c4.out,below_setRow f6.out (Zb _) _⟩
   ·omega
  ·obtain⟨p,hp,-⟩:=d5 hc3;have:=Hl.out;omega
 ·obtain⟨c,hc⟩:∃c,s.data.toList[0]?=some c:=⟨_,Zd (by omega)⟩;have c0:=g4.out 0 c hc;have g2:(0:Int)<s.size:=by omega
  by_cases h47:c=47
  ·have hne:((c.toNat:Int) !=47)=false:=by rw[h47];rfl
   have HP:=H8 (show yt s.data.toList/\lK s.data.toList->aT s from fun h=>.inr ⟨by rw[hc,h47],h⟩);clear h47 hc;go_enter Tryz.func32,Tryz.ntmps32;go_wp2_with fail;refine(nk e6.out (by have:=Hl.out;omega)).mono ?_;rintro e w' ⟨rfl,z,rfl,f2,b1⟩;rw[Hl.out] at f2 b1;have f8:=H8 b1;clear b1 hl c0 hne;go_wp2_with fail;refine(jW e6.out (by have:=Hl.out;omega)).mono ?_;rintro e w3 ⟨c3,h3,l3,A3,n3,q3,rfl,c8,d5,a9⟩;unfold fM;have f7:=H8 c8;have b9:=Zf w3 (.cells #[.int .i64 0,.int .i64 0,.int .i64 0,.slice none 0 0] 73);have HZ:=H8 b9;have c5:=below_setRow (ac w3 (.cells #[.int .i64 0,.int .i64 0,.int .i64 0,.slice none 0 0] 73)) (Zb _) #[.int .i64 c3,.int .i64 h3,.int .i64 l3,.slice A3 n3 q3];have a0:=setRow_heap (w3.alloc (.cells #[.int .i64 0,.int .i64 0,.int .i64 0,.slice none 0 0] 73)) w3.heap.size _ #[.int .i64 c3,.int .i64 h3,.int .i64 l3,.slice A3 n3 q3] _ _ b9;clear b9;have b2:=H8 (ak a9 c5);have a1:=H8 ((b2.out.block w.heap.size (by have:=g6.out;omega)).trans b5.out);have d0:=aa a0 (j:=0) (u:=.int .i64 c3) rfl;have d3:=aa a0 (j:=3) (u:=.slice A3 n3 q3) rfl;have c7:=H8 (fun (i:Nat) (c:UInt8) (h:s.data.toList[i]?=some c)=>Zg b2.out (g4.out i c h))
   by_cases hc3:c3=0
   ·subst hc3;clear c8 d5 a9 c5
    by_cases hzl:z=s.size
    ·obtain rfl:=hzl;have b3:=H8 (f8.out rfl);have c4:=H8 (HP.out ⟨f7.out rfl,b3.out⟩);clear f2;go_wp2_with (refine eN HZ.out ?_);clear d0 d3 a0;generalize (w3.alloc (.cells #[.int .i64 0,.int .i64 0,.int .i64 0,.slice none 0 0] 73)).setRow w3.heap.size #[.int .i64 0,.int .i64 h3,.int .i64 l3,.slice A3 n3 q3]=w4 at *
     go_loopg [7,8,9] s.size (fun m s7 s8 s9 wr=> ∃i:Nat,m+i=s.size/\s9 =.int .i64 i/\Hid (GG w4 i s7 s8 wr))
     case atStart=>exact⟨0,rfl,rfl,H8 ⟨⟨[],by simp,aZ.nil _ _⟩,⟨[],by simp,ao.nil _ _⟩,Ze _ _⟩⟩
     case round=>
      obtain⟨i,hm,rfl,HR⟩:=hrel;have Hm:=H8 hm;obtain⟨⟨l,h7,hS⟩,⟨ys,h6,hO⟩,hB⟩:=HR.out;have HS:=H8 hS;have HO:=H8 hO;have HB:=H8 hB;have c6:=aH hO.bs;clear hS hO hB HR hm
      by_cases hlt:i<s.size
      ·have e3:(i:Int)<s.size:=by omega
       obtain⟨c,hc⟩:∃c,s.data.toList[i]?=some c:=⟨_,Zd (by rw[Hl.out];exact hlt)⟩;have c1:=Zg HB.out (c7.out i c hc)
       by_cases h47:c=47
       ·have g7:((c.toNat:Int)==47)=true:=by rw[h47];rfl
        rcases Nat.eq_zero_or_pos i with h0|h0
        ·subst h0;clear h47 hc c6;go_wp2_with fail;go_roundg (s.size - 1)
         case measure=>have:=Hm.out;omega
         case rel=>exact⟨1,by have:=Hm.out;omega,rfl,H8 ⟨⟨l,by omega,HS.out⟩,⟨[],by simp,ao.nil _ _⟩,HB.out⟩⟩
        ·have i9:(0:Int)<i:=by omega
         have a3:=H8 (show aZ (wr.alloc (.cells #[.string ⟨ys.toArray⟩] 9)) w4.heap.size u7 l from ag HS.out (ac _ _) (Zb _));have a2:=H8 (ak HB.out (ac wr (.cells #[.string ⟨ys.toArray⟩] 9)));clear h47 hc;go_wp2_with (at_builtin;refine mb kf a3.out (ar wr [b7 ⟨ys.toArray⟩] 9) a2.out.size ?_ (h1:=(by simp[b7,Value.oneCell'])) (hlen:=by unfold maxLen;omega) (hby:=by omega);intro v' w5 p1 p2 p3;have Hp1:=H8 p1;have Hb5:=H8 (aA a2.out a3.out a2.out.size p2);clear p1 p2 p3);go_roundg (s.size - (i+1))
         case measure=>have:=Hm.out;omega
         case rel=>
          refine⟨i+1,by have:=Hm.out;omega,by go_num,H8 ⟨⟨l ++ [⟨ys.toArray⟩],by simp;omega,?_⟩,⟨[],by simp,ao.nil _ _⟩,Hb5.out⟩⟩;unfold aZ;rw[List.map_append,List.length_append];exact Hp1.out
       ·have g7:((c.toNat:Int)==47)=false:=by
         rw[beq_eq_false_iff_ne];intro e;exact h47 (UInt8.toNat_inj.1 (by have:c.toNat=47:=(by omega);rw[this];rfl))
        clear c6
        by_cases h126:c=126
        ·have f4:((c.toNat:Int)==126)=true:=by rw[h126];rfl
         obtain⟨d,hd,i4⟩:∃d,s.data.toList[i+1]?=some d/\(d=48\/d=49):=by
          rcases oS.1 b3.out i (by rw[hc,h126]) with h|h
          ·exact⟨_,h,.inl rfl⟩
          ·exact⟨_,h,.inr rfl⟩
         have i8:i+1<s.size:=by have:=(List.getElem?_eq_some_iff.1 hd).1;have:=Hl.out;omega
         have g8:(i:Int)+1<s.size:=by omega
         have c2:=Zg HB.out (c7.out (i+1) d hd);clear h47 hc h126 hd;rcases i4 with rfl|rfl
         ·have f9:(((48:UInt8).toNat:Int)==49)=false:=rfl;have a3:=H8 (show ao (wr.alloc (.cells #[.int .u8 126] 5)) w4.heap.size u8 ys from ag HO.out (ac _ _) (Zb _));have e2:=H8 (show aZ (wr.alloc (.cells #[.int .u8 126] 5)) w4.heap.size u7 l from ag HS.out (ac _ _) (Zb _));have a2:=H8 (ak HB.out (ac wr (.cells #[.int .u8 126] 5)));go_wp2_with (at_builtin;refine mb Gz a3.out (ar wr [.int .u8 126] 5) a2.out.size ?_ (h1:=(by simp[Value.oneCell'])) (hlen:=by unfold maxLen;omega) (hby:=by omega);intro v' w5 p1 p2 p3;have Hp1:=H8 p1;have Hb5:=H8 (aA a2.out a3.out a2.out.size p2);have Hs5:=H8 (io e2.out a3.out p2);clear p1 p2 p3);go_roundg (s.size - (i+2))
          case measure=>have:=Hm.out;omega
          case rel=>exact⟨i+2,by have:=Hm.out;omega,by go_num,H8 ⟨⟨l,by omega,Hs5.out⟩,⟨ys ++ [126],by simp;omega,ao.snoc (c:=126) Hp1.out⟩,Hb5.out⟩⟩
         ·have f9:(((49:UInt8).toNat:Int)==49)=true:=rfl;have a3:=H8 (show ao (wr.alloc (.cells #[.int .u8 47] 5)) w4.heap.size u8 ys from ag HO.out (ac _ _) (Zb _));have e2:=H8 (show aZ (wr.alloc (.cells #[.int .u8 47] 5)) w4.heap.size u7 l from ag HS.out (ac _ _) (Zb _));have a2:=H8 (ak HB.out (ac wr (.cells #[.int .u8 47] 5)));go_wp2_with (at_builtin;refine mb Gz a3.out (ar wr [.int .u8 47] 5) a2.out.size ?_ (h1:=(by simp[Value.oneCell'])) (hlen:=by unfold maxLen;omega) (hby:=by omega);intro v' w5 p1 p2 p3;have Hp1:=H8 p1;have Hb5:=H8 (aA a2.out a3.out a2.out.size p2);have Hs5:=H8 (io e2.out a3.out p2);clear p1 p2 p3);go_roundg (s.size - (i+2))
          case measure=>have:=Hm.out;omega
          case rel=>exact⟨i+2,by have:=Hm.out;omega,by go_num,H8 ⟨⟨l,by omega,Hs5.out⟩,⟨ys ++ [47],by simp;omega,ao.snoc (c:=47) Hp1.out⟩,Hb5.out⟩⟩
        ·have f4:((c.toNat:Int)==126)=false:=by
          rw[beq_eq_false_iff_ne];intro e;exact h126 (UInt8.toNat_inj.1 (by have:c.toNat=126:=(by omega);rw[this];rfl))
         clear h47 hc h126;have a3:=H8 (show ao (wr.alloc (.cells #[.int .u8 c.toNat] 5)) w4.heap.size u8 ys from ag HO.out (ac _ _) (Zb _));have e2:=H8 (show aZ (wr.alloc (.cells #[.int .u8 c.toNat] 5)) w4.heap.size u7 l from ag HS.out (ac _ _) (Zb _));have a2:=H8 (ak HB.out (ac wr (.cells #[.int .u8 c.toNat] 5)));go_wp2_with (at_builtin;refine mb Gz a3.out (ar wr [.int .u8 c.toNat] 5) a2.out.size ?_ (h1:=(by simp[Value.oneCell'])) (hlen:=by unfold maxLen;omega) (hby:=by omega);intro v' w5 p1 p2 p3;have Hp1:=H8 p1;have Hb5:=H8 (aA a2.out a3.out a2.out.size p2);have Hs5:=H8 (io e2.out a3.out p2);clear p1 p2 p3);go_roundg (s.size - (i+1))
         case measure=>have:=Hm.out;omega
         case rel=>exact⟨i+1,by have:=Hm.out;omega,by go_num,H8 ⟨⟨l,by omega,Hs5.out⟩,⟨ys ++ [c],by simp;omega,ao.snoc (c:=c) Hp1.out⟩,Hb5.out⟩⟩
      ·have e3:¬ (i:Int)<s.size:=by omega
       clear hlt;have i3:i<=s.size:=by have:=Hm.out;omega
       have a3:=H8 (show aZ (wr.alloc (.cells #[.string ⟨ys.toArray⟩] 9)) w4.heap.size u7 l from ag HS.out (ac _ _) (Zb _));have a2:=H8 (ak HB.out (ac wr (.cells #[.string ⟨ys.toArray⟩] 9)));go_wp2_with (at_builtin;refine mb kf a3.out (ar wr [b7 ⟨ys.toArray⟩] 9) a2.out.size ?_ (h1:=(by simp[b7,Value.oneCell'])) (hlen:=by unfold maxLen;omega) (hby:=by omega);intro v' w5 p1 p2 p3;have Hb5:=H8 (aA a2.out a3.out a2.out.size p2);clear p1 p2 p3);refine(fJ 0 w5).mono ?_;rintro e w6 ⟨v6,rfl,⟨hh,ll,s6,rfl,f3⟩,b8⟩;obtain⟨fA,fn,fq,rfl,-⟩:=f3.slice;have f6:=H8 (ak c9.out (ak b2.out (ak Hb5.out b8)));have a5:=H8 (((ak Hb5.out b8).block w.heap.size (ah a1.out)).trans a1.out);clear b8 f3;unfold fM;go_wp2_with (refine eN a5.out ?_);refine Zh (dl Tryz.results32 _ _ w.heap.size 73 _ _ _ _ (0,0) (by simp) (setRow_heap _ _ _ _ _ _ a5.out)) rfl ⟨_,0,hh,ll,fA,fn,fq,rfl,fun _=>c4.out,below_setRow f6.out (Zb _) _⟩
    ·have i0:(z:Int)<s.size:=by omega
     clear hzl;go_wp2_with (refine eN HZ.out ?_);clear d0 d3 a0;generalize (w3.alloc (.cells #[.int .i64 0,.int .i64 0,.int .i64 0,.slice none 0 0] 73)).setRow w3.heap.size #[.int .i64 0,.int .i64 h3,.int .i64 l3,.slice A3 n3 q3]=w4 at *;refine(iK 115 z w4).mono ?_;rintro e w5 ⟨sv,rfl,⟨g5,rfl,-,-⟩,b4⟩;have a4:=H8 ((b4.block w.heap.size (ah a1.out)).trans a1.out);have Hb5:=H8 (ak c9.out (ak b2.out b4));clear b4;unfold fM;go_wp2_with (refine eN a4.out ?_);refine Zh (dl Tryz.results32 _ _ w.heap.size 73 _ _ _ _ (0,0) (by simp) (setRow_heap _ _ _ _ _ _ a4.out)) rfl ⟨_,115,0,0,_,1,1,rfl,fun e=>by omega,below_setRow Hb5.out (Zb _) _⟩
   ·obtain⟨p,hp,g,e1,-,h2⟩:=d5 hc3;obtain⟨rfl,rfl,rfl⟩:=Value.slice.inj e1;have j0:(c3 !=0)=true:=by simpa using hc3
    have d4:=Zg c5 h2;have h8:=H8 hc3;clear c8 d5 a9 c5 h2 hc3
    by_cases hpz:p<z
    ·have g2:(p:Int)<z:=by omega
     have d1:=aa a0 (j:=1) (u:=.int .i64 h3) rfl;have d2:=aa a0 (j:=2) (u:=.int .i64 l3) rfl;have HD:=H8 (And.intro d0 (And.intro d1 (And.intro d2 (And.intro d3 a1.out))));clear d1 d2;go_wp2_with (refine eN HZ.out ?_);clear d0 d3 d4 a0;generalize (w3.alloc (.cells #[.int .i64 0,.int .i64 0,.int .i64 0,.slice none 0 0] 73)).setRow w3.heap.size #[.int .i64 c3,.int .i64 h3,.int .i64 l3,.slice (some ⟨g,0,none⟩) 1 1]=w4 at *;refine ce (fun w'=>w'.cell? ⟨w3.heap.size,0,none⟩=some (.int .i64 c3)/\w'.cell? ⟨w3.heap.size,1,none⟩=some (.int .i64 h3)/\w'.cell? ⟨w3.heap.size,2,none⟩=some (.int .i64 l3)/\w'.cell? ⟨w3.heap.size,3,none⟩=some (.slice (some ⟨g,0,none⟩) 1 1)/\w'.heap[w.heap.size]?=some (.cells #[.int .i64 0,.int .i64 0,.int .i64 0,.slice none 0 0] 73 (0,0))) 2 (HD.out) fun h5=>?_
     refine tZ 0 h5 ?_;refine tZ 1 h5 ?_
     try simp only[Act.put,jP,jQ,jR]
     refine rZ 2 fun K hK=>?_
     refine lH HD.out.2.2.2.2 ?_;refine hK.out _ _ (fun h=>absurd rfl h) (fun _=>?_);clear hK K
     try simp only[Act.put,jP,jQ,jR]
     refine aI (by kernel_rfl) (NoPanic.normal ?_) _;go_wp2_with fail;exact Zh (dl Tryz.results32 _ _ w.heap.size 73 _ _ _ _ (0,0) (by simp) (setRow_heap _ _ _ _ _ _ HD.out.2.2.2.2)) rfl ⟨_,c3,h3,l3,_,1,1,rfl,fun e=>absurd e h8.out,below_setRow (ak c9.out b2.out.drew) (Zb _) _⟩
    ·have g2:¬ (p:Int)<z:=by omega
     have i0:(z:Int)<s.size:=by have:=Hl.out;omega
     go_wp2_with (refine eN HZ.out ?_);clear d0 d3 d4 a0;generalize (w3.alloc (.cells #[.int .i64 0,.int .i64 0,.int .i64 0,.slice none 0 0] 73)).setRow w3.heap.size #[.int .i64 c3,.int .i64 h3,.int .i64 l3,.slice (some ⟨g,0,none⟩) 1 1]=w4 at *;refine(iK 115 z w4).mono ?_;rintro e w5 ⟨sv,rfl,⟨g5,rfl,-,-⟩,b4⟩;have a4:=H8 ((b4.block w.heap.size (ah a1.out)).trans a1.out);have Hb5:=H8 (ak c9.out (ak b2.out b4));clear b4;unfold fM;go_wp2_with (refine eN a4.out ?_);refine Zh (dl Tryz.results32 _ _ w.heap.size 73 _ _ _ _ (0,0) (by simp) (setRow_heap _ _ _ _ _ _ a4.out)) rfl ⟨_,115,0,0,_,1,1,rfl,fun e=>by omega,below_setRow Hb5.out (Zb _) _⟩
  ·have hne:((c.toNat:Int) !=47)=true:=by
    rw[bne_iff_ne];intro e;exact h47 (UInt8.toNat_inj.1 (by have:c.toNat=47:=(by omega);rw[this];rfl))
   clear h47 hc hl;go_enter Tryz.func32,Tryz.ntmps32;go_wp2_with fail;refine(show Calls Tryz.prog 63 #[.int .i64 115,.int .i64 0] W2 _ from iK 115 0 W2).mono ?_;rintro e w3 ⟨sv,rfl,⟨g3,rfl,-,-⟩,a9⟩;have d6:=H8 ((a9.block w.heap.size (by have:=g6.out;omega)).trans b5.out);have h9:=H8 (ak c9.out a9);clear a9 c0;unfold fM;go_wp2_with (refine eN d6.out ?_);refine Zh (dl Tryz.results32 _ _ w.heap.size 73 _ _ _ _ (0,0) (by simp) (setRow_heap _ _ _ _ _ _ d6.out)) rfl ⟨_,115,0,0,_,1,1,rfl,fun e=>by omega,below_setRow h9.out (Zb _) _⟩
