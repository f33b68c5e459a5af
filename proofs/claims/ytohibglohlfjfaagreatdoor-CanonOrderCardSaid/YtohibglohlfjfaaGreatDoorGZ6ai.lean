import Derived.Test.YtohibglohlfjfaaGreatDoorGZ6ah
import Derived.Deep.CutBlock
set_option linter.unusedVariables false
set_option linter.unusedSimpArgs false
set_option maxHeartbeats 64000000
set_option maxRecDepth 100000
namespace Go.Proofs.YtohibglohlfjfaaGreatDoor
open Go.RowKit
variable {d:Dc}{xs:List UInt8}{i p q:Nat}{v:Value}{w:World}
theorem o5 (c h l p:Int)(w:World):Calls Tryz.prog 187 #[dA c h l (.slice none 0 0),.int .i64 p] w (tV w c):=by
 unfold dA;go_enter Tryz.func187,Tryz.ntmps187;go_wp2_with fail;have hb:=((((Ze w.heap.size w).alloc (Zb _) (.cells #[.int .i64 c,.int .i64 h,.int .i64 l,.slice none 0 0] 62)).alloc (by simp) (.cells #[.int .i64 c,.int .i64 h,.int .i64 l,.slice (some ⟨w.heap.size+1+1,0,none⟩) 1 1] 62)).alloc (by simp;omega) (.cells #[.bool false,.int .i64 p,.string es] 298));have hc:=ap ((w.alloc (.cells #[.int .i64 c,.int .i64 h,.int .i64 l,.slice none 0 0] 62)).alloc (.cells #[.int .i64 c,.int .i64 h,.int .i64 l,.slice (some ⟨w.heap.size+1+1,0,none⟩) 1 1] 62)) [.bool false,.int .i64 p,.string es] 298;have a0:=Zf (w.alloc (.cells #[.int .i64 c,.int .i64 h,.int .i64 l,.slice none 0 0] 62)) (.cells #[.int .i64 c,.int .i64 h,.int .i64 l,.slice (some ⟨w.heap.size+1+1,0,none⟩) 1 1] 62);simp only[World.size_alloc] at hc a0;exact Zh (results_cell_row Tryz.results187 _ _ (w.heap.size+1) 62 #[.int .i64 c,.int .i64 h,.int .i64 l,.slice (some ⟨w.heap.size+1+1,0,none⟩) 1 1] (0,0) _ (by simp) ((Below.heap_alloc _ _ _ (by simp)).trans a0) Tryz.underlying62 rfl bi) rfl ⟨_,rfl,⟨h,l,_,rfl,.inr ⟨w.heap.size+1+1,1,false,p,es,rfl,hc 0 _ rfl,hc 1 _ rfl,hc 2 _ rfl⟩⟩,hb⟩
theorem iD {fn:Func}{p m q:Tmp}(h:fn.results = #[.cell p 67,.tmp m,.cell q 62])(tmps:Array Value)(w:World)(g1 g:Nat)(t1 t:TypeId)(d0 d1 d2 c0 c1 c2 c3:Value)(fr1 fr:Nat×Nat)
  (a2:tmps.getD p undef =.pointer (some ⟨g1,0,none⟩)) (a4:w.heap[g1]?=some (.cells #[d0,d1,d2] t1 fr1))
  (hp:tmps.getD q undef =.pointer (some ⟨g,0,none⟩)) (hg:w.heap[g]?=some (.cells #[c0,c1,c2,c3] t fr)) :
  (results fn tmps).run Tryz.prog w =.ok (.tuple #[.agg #[d0,d1,d2],tmps.getD m undef,.agg #[c0,c1,c2,c3]]) w:=by
 have a0:tmps[p]?.getD undef =.pointer (some ⟨g1,0,none⟩):=by simpa using a2
 have a3:tmps[q]?.getD undef =.pointer (some ⟨g,0,none⟩):=by simpa using hp
 have a1:=run_loadVar_row (P:=Tryz.prog) w g1 t1 67 #[d0,d1,d2] fr1 _ a4 Tryz.underlying67 rfl (by kernel_rfl);have hl:=run_loadVar_row (P:=Tryz.prog) w g t 62 #[c0,c1,c2,c3] fr _ hg Tryz.underlying62 rfl bi;simp[results,h,a0,a3,asAddr,a1,hl]
def up (d:Dc):Prop:=d= ⟨false,⟨#[48]⟩,0⟩\/(0<d.digits.size/\(∀i (h:i<d.digits.size),48<=d.digits[i].toNat/\d.digits[i].toNat<=57)/\(∀h:0<d.digits.size,d.digits[0].toNat≠48)/\(∀h:d.digits.size - 1<d.digits.size,d.digits[d.digits.size - 1].toNat≠48)/\ -1000000000<=d.exp/\d.exp<=1000000000)
theorem iQ {s:ByteArray}(h:i< (s.extract p q).size)(h2:p+i<s.size):(s.extract p q)[i]=s[p+i]:=by
 show(s.extract p q).data[i]=s.data[p+i]
 have e:(s.extract p q).data=s.data.extract p q:=ByteArray.data_extract ..;simp only[e,Array.getElem_extract]
theorem rI.norm {neg:Bool}{s:ByteArray}{x:Int}(h:rI neg s x d):up d:=by
 obtain⟨-,hd,⟨-,rfl⟩|⟨p,q,a1,hq,-,hp,hl,-,rfl,h1,h2⟩⟩:=h
 ·exact .inl rfl
 ·have hz:(s.extract p q).size=q - p:=by rw[ByteArray.size_extract];omega
  refine .inr ⟨by show 0< (s.extract p q).size;omega,fun i hi=>?_,fun h=>?_,fun h=>?_,h1,h2⟩
  ·have a0:i< (s.extract p q).size:=hi
   show 48<=(s.extract p q)[i].toNat/\(s.extract p q)[i].toNat<=57
   rw[iQ a0 (by omega)];exact hd _ _
  ·have a0:0< (s.extract p q).size:=h
   show(s.extract p q)[0].toNat≠48
   rw[iQ a0 (by omega)];exact hp _
  ·have a0:(s.extract p q).size - 1< (s.extract p q).size:=h
   show(s.extract p q)[(s.extract p q).size - 1].toNat≠48
   rw[iQ a0 (by omega)];have e:p+ ((s.extract p q).size - 1)=q - 1:=by omega
   have:=hl (by omega);simpa only[e] using this
def JG (len:Nat)(w:World)(e:Ending)(w':World):Prop:= ∃ (d:Dc) (n:Nat) (c:Int) (u:Value),e =.returned (.tuple #[Iy d,.int .i64 n,u])/\dE w' c u/\Below w.heap.size w w'/\d.digits.size<=len+1/\(c=0->1<=n/\n<=len/\up d)
def qB (w0:World)(len:Nat)(s5 s6 s7 s8 s9 s10 s11:Value)(wr:World):Prop:= ∃ (k:Nat) (s p x:Int) (b1 b2:Bool) (ys:List UInt8) (vd:Value),k<=len/\s5 =.int .i64 s/\(k=0->s=0)/\s6 =.int .i64 k/\s7 =.bool b1/\s8 =.bool b2/\vd=s9/\aq wr w0.heap.size vd ys/\ys.length<=k/\s10 =.int .i64 p/\s11 =.int .i64 x/\Below w0.heap.size w0 wr
theorem vC (hb:Bs w v xs)(hl:xs.length<=900000):Calls Tryz.prog 154 #[v] w (JG xs.length w):=by
 obtain⟨hm,A,cap,rfl,g2,b0⟩:=id hb;have f2:=Zf w (.cells #[.bool false,.string es,.int .i64 0] 67);have e0:=Zf (w.alloc (.cells #[.bool false,.string es,.int .i64 0] 67)) (.cells #[.int .i64 0,.int .i64 0,.int .i64 0,.slice none 0 0] 62);rw[World.size_alloc] at e0;have e4:Below w.heap.size w ((w.alloc (.cells #[.bool false,.string es,.int .i64 0] 67)).alloc (.cells #[.int .i64 0,.int .i64 0,.int .i64 0,.slice none 0 0] 62)):=((Ze _ _).alloc (Zb _) _).alloc (by simp) _;have c5:((w.alloc (.cells #[.bool false,.string es,.int .i64 0] 67)).alloc (.cells #[.int .i64 0,.int .i64 0,.int .i64 0,.slice none 0 0] 62)).heap[w.heap.size]?=some (.cells #[.bool false,.string es,.int .i64 0] 67 (0,0)):=(Below.heap_alloc _ _ _ (by simp)).trans f2;have e8:=Qa c5;have f4:=Qa e0;have d2:=Qa e4;have h7:=Qa hb;have c8:=Qa b0;clear f2 c5 e0 e4 hb b0;go_enter Tryz.func154,Tryz.ntmps154;go_upto_block 0 with fail
 generalize (w.alloc (.cells #[.bool false,.string es,.int .i64 0] 67)).alloc (.cells #[.int .i64 0,.int .i64 0,.int .i64 0,.slice none 0 0] 62)=w0 at *;go_cut [5,6,7,8,9,10,11] (fun s5 s6 s7 s8 s9 s10 s11 wx=>qB w0 xs.length s5 s6 s7 s8 s9 s10 s11 wx)
 case first=>
  go_wp2_with fail
  go_loopw [5,6,7,8,9,10,11] (qB w0 xs.length) (fun _ i _ _ _ _ _ _=>xs.length - (intOf i).toNat)
  case atStart=>exact⟨0,0,0,0,false,false, [],_,by omega,rfl,fun _=>rfl,rfl,rfl,rfl,rfl,aq.nil _ _,by simp,rfl,rfl,Ze _ _⟩
  case round=>
   obtain⟨k,s,p,x,b1,b2,ys,vd,hk,rfl,c7,rfl,rfl,rfl,rfl,ho,hyl,rfl,rfl,b5⟩:=hrel;have Ho:=Qa ho;have Hs0:=Qa c7;have Hbr:=Qa b5;clear ho c7 b5
   by_cases hlt:k<xs.length
   case neg=>
    have hki:¬ (k:Int)<xs.length:=by omega
    go_wp2_with fail;go_meet
    case rel=>exact⟨k,s,p,x,b1,b2,ys,vd,hk,rfl,Hs0.out,rfl,rfl,rfl,rfl,Ho.out,hyl,rfl,rfl,Hbr.out⟩
   have hki:(k:Int)<xs.length:=by omega
   obtain⟨b,o,rfl,e5⟩:=c8.out (by omega);have ck:=Zg (d2.out.trans (Hbr.out.mono d2.out.size)) (e5 k hlt);have b6:Bs (wr.alloc (.cells #[.int .u8 (am xs k)] 5)) (.slice (some ⟨wr.heap.size,0,none⟩) 1 1) [xs.getD k 0]:=rg [xs.getD k 0] (by simp) (by simp) (Zf _ _);obtain⟨X,hX,g8,h6⟩:∃X:Int,(am xs k:Int)=X/\0<=X/\X<256:=⟨_,rfl,by omega,by have:=aI xs k;omega⟩;rw[hX] at ck b6;have d0:=Qa b6;clear hX e5 b6;go_wp2_with fail;refine(zu s X wr).mono ?_;rintro e w' ⟨⟨t,rfl,g7,g9,e3⟩,rfl⟩;have h0:=Qa e3;clear e3;have hrel:∀ (s p x:Int) (b1 b2:Bool),qB w0 xs.length (.int .i64 s) (.int .i64 (k+1:Nat)) (.bool b1) (.bool b2) vd (.int .i64 p) (.int .i64 x) wr:=fun s p x b1 b2=>⟨k+1,s,p,x,b1,b2,ys,vd,by omega,rfl,fun h=>by omega,rfl,rfl,rfl,rfl,Ho.out,by omega,rfl,rfl,Hbr.out⟩
   have e2:=Qa hrel;have b4:∀ (v':Value) (w3:World),aq w3 w0.heap.size v' (ys ++ [xs.getD k 0])->(wr.alloc (.cells #[.int .u8 X] 5)).grownBy w3 vd.ownBlock->∀ (s p x:Int) (b1 b2:Bool),qB w0 xs.length (.int .i64 s) (.int .i64 (k+1:Nat)) (.bool b1) (.bool b2) v' (.int .i64 p) (.int .i64 x) w3:=fun v' w3 h1 h2 s p x b1 b2=>
    ⟨k+1,s,p,x,b1,b2,_,_,by omega,rfl,fun h=>by omega,rfl,rfl,rfl,rfl,h1,by simp;omega,rfl,rfl,(Hbr.out.trans ((ac _ _).mono Hbr.out.size)).grown h2 (by simp;have:=Hbr.out.size;omega) (fun g e=>(aj Ho.out e).1)⟩
   have c4:=Qa b4;have b3:=Ho.out.below (ac wr (.cells #[.int .u8 X] 5)) (Zb _);have a9:=Qa b3;clear hrel b4 b3;have f0:(((k+1:Nat):Int))= (k:Int)+1:=by omega
   have d4:=Qa f0;clear f0;rcases(by omega:t=1\/t=2\/t=3\/t=4\/t=5\/t=6\/t=7\/t=8\/t=9) with rfl|rfl|rfl|rfl|rfl|rfl|rfl|rfl|rfl
   case inr.inr.inr.inr.inr.inr.inr.inr=>
    go_wp2_with fail;go_meet
    case rel=>exact⟨k,s,p,x,b1,b2,ys,vd,hk,rfl,Hs0.out,rfl,rfl,rfl,rfl,Ho.out,hyl,rfl,rfl,Hbr.out⟩
   case inr.inl|inr.inr.inl|inr.inr.inr.inr.inl=>
    go_wp2_with (at_builtin;first
     |(refine pR a9.out d0.out (by simp;omega) (by have:=Hbr.out.size;simp;omega) ?_;intro v' w3 h1 h2 h3;have HK:=Qa h1;have HG:=Qa h2;clear h1 h2 h3)
     |(refine pR a9.out d0.out (by simp;omega) (by have:=Hbr.out.size;simp;omega) ?_;intro v' w3 h1 h2 h3;have HK:=Qa h1;have HG:=Qa h2;clear h1 h2 h3))
    all_goals
     have h:=c4.out v' w3 HK.out HG.out;rw[d4.out] at h;exact⟨h _ _ _ _ _,by simp[intOf];omega⟩
   all_goals
    go_wp2_with fail
    all_goals
     have h:=e2.out;rw[d4.out] at h;exact⟨h _ _ _ _ _,by simp[intOf];omega⟩
 case rest=>
  obtain⟨k,s,p,x,b1,b2,ys,vd,hk,rfl,c7,rfl,rfl,rfl,rfl,ho,hyl,rfl,rfl,b5⟩:=hcut;have Ho:=Qa ho;have Hs0:=Qa c7;have Hbr:=Qa b5;have b9:=Qa ((b5.block _ (ae e8.out)).trans e8.out);have b8:=Qa ((b5.block _ (ae f4.out)).trans f4.out);have b7:=d2.out.trans (b5.mono d2.out.size);have c0:=Qa b7;clear ho c7 b5 b7
  by_cases hs:s=2\/s=3\/s=5\/s=8
  case neg=>
   have h2:(s !=2)=true:=by simp;omega
   have h3:(s !=3)=true:=by simp;omega
   have h5:(s !=5)=true:=by simp;omega
   have h8:(s !=8)=true:=by simp;omega
   clear hs;go_wp2_with fail;refine(cD 107 k wc).mono ?_;rintro e wz ⟨u,rfl,hu,a6⟩;have c6:=Qa ((a6.block _ (ae b9.out)).trans b9.out);have d5:=Qa ((a6.block _ (ae b8.out)).trans b8.out);obtain⟨fh,fl,fA,fq,fr,rfl,h3,h4,h5,h1,h2⟩:=dk (D:= #[.bool false,.string es,.int .i64 0]) hu c6.out d5.out (Zb _) (by omega) (c0.out.trans (a6.mono c0.out.size));have H1:=Qa h1;have H2:=Qa h2;have H3:=Qa h3;have H4:=Qa h4;have H5:=Qa h5;clear h1 h2 h3 h4 h5 hu a6;go_wp2_with (first
    |(refine bF c6.out ?_)
    |(refine bF H3.out ?_))
   have h4:=H4.out;have h5:=H5.out;exact Zh (iD Tryz.results154 _ _ _ _ _ _ _ _ _ _ _ _ _ (0,0) (0,0) rfl h4 rfl h5) rfl ⟨⟨false,es,0⟩,0,107,_,rfl,H1.out,H2.out,Zc (Nat.le_of_eq (rfl:es.size=0)) (Zk _),fun h=>by cases h⟩
  have d4:=Qa (show 1<=k from by
   by_cases h:k=0
   ·have:=Hs0.out h;omega
   ·omega)
  have hq:∀W,Below wc.heap.size wc W->(convert 22 9 vd).run Tryz.prog W =.ok (.string ⟨ys.toArray⟩) W:=fun W hW=>aO (Ho.out.bs.below hW)
  have d9:=hq wc (Ze _ _);clear hq;have f1:(⟨ys.toArray⟩:ByteArray).size<=xs.length:=by simp[ByteArray.size];omega
  have f6:=Qa f1;clear f1;obtain⟨w3,c9⟩:∃w3,wc=w3:=⟨_,rfl⟩;rw[c9] at d9 Ho Hbr b9 b8 c0 ⊢;clear c9;go_upto_region 28 with fail
  go_cut [87] (fun s87 wx=>s87 =.bool false/\wx=w3)
  case first=>
   rcases hs with rfl|rfl|rfl|rfl <;> go_wp2_with fail
   all_goals
    go_meet
    case rel=>exact⟨rfl,rfl⟩
  case rest=>
   obtain⟨rfl,rfl⟩:=hcut;go_upto_if 91 with fail
   obtain⟨w3,c9⟩:∃w3,wc=w3:=⟨_,rfl⟩;rw[c9] at d9 Ho Hbr b9 b8 c0 ⊢;clear c9;go_cut [11] (fun s11 wx=>(∃x':Int,s11 =.int .i64 x')/\wx=w3)
   case first=>
    cases b2 <;> go_wp2_with fail
    all_goals
     go_meet
     case rel=>exact⟨⟨_,rfl⟩,rfl⟩
   case rest=>
    obtain⟨⟨x',rfl⟩,rfl⟩:=hcut;go_wp2_with fail;refine(vH b1 ⟨ys.toArray⟩ _ (by have:=f6.out;omega) wc).mono ?_;rintro e w1 ⟨d,c,rfl,b7,f9,f3⟩;have g0:=Qa (fun hc=>rI.norm (f3 hc));have g1:=Qa (show d.digits.size<=xs.length+1 from by have:=f6.out;omega);clear f9 f3;obtain⟨dn,dd,dx⟩:=d;rw[show Iy ⟨dn,dd,dx⟩ =.agg #[.bool dn,.string dd,.int .i64 dx] from rfl,show dA c 0 0 (.slice none 0 0) =.agg #[.int .i64 c,.int .i64 0,.int .i64 0,.slice none 0 0] from rfl];have f8:Below w1.heap.size w1 ((w1.alloc (.cells #[.bool dn,.string dd,.int .i64 dx] 67)).alloc (.cells #[.int .i64 c,.int .i64 0,.int .i64 0,.slice none 0 0] 62)):=(ac w1 _).alloc (by simp) _;have hcd:=ap w1 [.bool dn,.string dd,.int .i64 dx] 67;have c2:=ap (w1.alloc (.cells #[.bool dn,.string dd,.int .i64 dx] 67)) [.int .i64 c,.int .i64 0,.int .i64 0,.slice none 0 0] 62;rw[World.size_alloc] at c2;have d1:=ac (w1.alloc (.cells #[.bool dn,.string dd,.int .i64 dx] 67)) (.cells #[.int .i64 c,.int .i64 0,.int .i64 0,.slice none 0 0] 62);have a0:=Qa (show((w1.alloc (.cells #[.bool dn,.string dd,.int .i64 dx] 67)).alloc (.cells #[.int .i64 c,.int .i64 0,.int .i64 0,.slice none 0 0] 62)).cell? ⟨w1.heap.size,0,none⟩=some (.bool dn)/\((w1.alloc (.cells #[.bool dn,.string dd,.int .i64 dx] 67)).alloc (.cells #[.int .i64 c,.int .i64 0,.int .i64 0,.slice none 0 0] 62)).cell? ⟨w1.heap.size,1,none⟩=some (.string dd)/\((w1.alloc (.cells #[.bool dn,.string dd,.int .i64 dx] 67)).alloc (.cells #[.int .i64 c,.int .i64 0,.int .i64 0,.slice none 0 0] 62)).cell? ⟨w1.heap.size,2,none⟩=some (.int .i64 dx)/\((w1.alloc (.cells #[.bool dn,.string dd,.int .i64 dx] 67)).alloc (.cells #[.int .i64 c,.int .i64 0,.int .i64 0,.slice none 0 0] 62)).cell? ⟨w1.heap.size+1,0,none⟩=some (.int .i64 c)/\((w1.alloc (.cells #[.bool dn,.string dd,.int .i64 dx] 67)).alloc (.cells #[.int .i64 c,.int .i64 0,.int .i64 0,.slice none 0 0] 62)).cell? ⟨w1.heap.size+1,1,none⟩=some (.int .i64 0)/\((w1.alloc (.cells #[.bool dn,.string dd,.int .i64 dx] 67)).alloc (.cells #[.int .i64 c,.int .i64 0,.int .i64 0,.slice none 0 0] 62)).cell? ⟨w1.heap.size+1,2,none⟩=some (.int .i64 0)/\((w1.alloc (.cells #[.bool dn,.string dd,.int .i64 dx] 67)).alloc (.cells #[.int .i64 c,.int .i64 0,.int .i64 0,.slice none 0 0] 62)).cell? ⟨w1.heap.size+1,3,none⟩=some (.slice none 0 0) from⟨Zg d1 (hcd 0 _ rfl),Zg d1 (hcd 1 _ rfl),Zg d1 (hcd 2 _ rfl),c2 0 _ rfl,c2 1 _ rfl,c2 2 _ rfl,c2 3 _ rfl⟩);have a3:=b7.trans (f8.mono b7.size);have g6:=Qa a3;have d6:=Qa (c0.out.trans (a3.mono c0.out.size));have d3:=Qa ((a3.block _ (ae b9.out)).trans b9.out);have e1:=Qa ((a3.block _ (ae b8.out)).trans b8.out);have g3:w.heap.size+1<w1.heap.size:=Nat.lt_of_lt_of_le (ae b8.out) b7.size;clear f8 hcd c2 d1 a3 b7 d9
    by_cases hc:c=0
    case neg=>
     have i0:(c !=0)=true:=by simpa using hc
     have Hc:=Qa hc;clear hc;go_wp2_with fail;generalize ((w1.alloc (.cells #[.bool dn,.string dd,.int .i64 dx] 67)).alloc (.cells #[.int .i64 c,.int .i64 0,.int .i64 0,.slice none 0 0] 62))=w2 at *;refine(o5 c 0 0 0 w2).mono ?_;rintro e wz ⟨u,rfl,hu,a6⟩;have c6:=Qa ((a6.block _ (ae d3.out)).trans d3.out);have d5:=Qa ((a6.block _ (ae e1.out)).trans e1.out);obtain⟨fh,fl,fA,fq,fr,rfl,h3,h4,h5,h1,h2⟩:=dk (D:= #[.bool false,.string es,.int .i64 0]) hu c6.out d5.out (Zb _) (by omega) (d6.out.trans (a6.mono d6.out.size));have H1:=Qa h1;have H2:=Qa h2;have H3:=Qa h3;have H4:=Qa h4;have H5:=Qa h5;clear h1 h2 h3 h4 h5 hu a6;go_wp2_with (first
      |(refine bF c6.out ?_)
      |(refine bF H3.out ?_))
     have h4:=H4.out;have h5:=H5.out;exact Zh (iD Tryz.results154 _ _ _ _ _ _ _ _ _ _ _ _ _ (0,0) (0,0) rfl h4 rfl h5) rfl ⟨⟨false,es,0⟩,0,c,_,rfl,H1.out,H2.out,Zc (Nat.le_of_eq (rfl:es.size=0)) (Zk _),fun h=>absurd h Hc.out⟩
    subst hc;go_wp2_with fail;generalize ((w1.alloc (.cells #[.bool dn,.string dd,.int .i64 dx] 67)).alloc (.cells #[.int .i64 0,.int .i64 0,.int .i64 0,.slice none 0 0] 62))=w2 at *;have h9:=Qa (rfl:w1.heap.size=w1.heap.size);generalize w1.heap.size=db at *;obtain⟨fb,e6⟩:∃fb,db+1=fb:=⟨_,rfl⟩;rw[e6] at a0 ⊢;have Hu:=Qa (show dE w2.drew 0 (dA 0 0 0 (.slice none 0 0)) from⟨0,0,_,rfl,.inl rfl⟩);obtain⟨gh,gl',gA,gq,gr,c3,h3,h4,h5,h1,h2⟩:=dk (w:=w2.drew) (D:= #[.bool dn,.string dd,.int .i64 dx]) Hu.out d3.out e1.out (Zb _) (by omega) (d6.out.drew);injection c3 with c3
    obtain⟨rfl,rfl,c3⟩:0=gh/\0=gl'/\Value.slice none 0 0=Value.slice gA gq gr:=by simpa using c3
    obtain⟨rfl,rfl,rfl⟩:none=gA/\0=gq/\0=gr:=by simpa using c3
    have H1:=Qa h1;have H2:=Qa h2;have H3:=Qa h3;have H4:=Qa h4;have H5:=Qa h5;have a5:some db≠some w.heap.size:=fun e=>by injection e with e;omega
    have a1:some fb≠some w.heap.size:=fun e=>by injection e with e;omega
    have a7:some db≠some (w.heap.size+1):=fun e=>by injection e with e;omega
    have a2:some fb≠some (w.heap.size+1):=fun e=>by injection e with e;omega
    have a4:(w2.drew.setRow w.heap.size #[.bool dn,.string dd,.int .i64 dx]).cell? ⟨db,0,none⟩=some (.bool dn)/\(w2.drew.setRow w.heap.size #[.bool dn,.string dd,.int .i64 dx]).cell? ⟨db,1,none⟩=some (.string dd)/\(w2.drew.setRow w.heap.size #[.bool dn,.string dd,.int .i64 dx]).cell? ⟨db,2,none⟩=some (.int .i64 dx)/\(w2.drew.setRow w.heap.size #[.bool dn,.string dd,.int .i64 dx]).cell? ⟨fb,0,none⟩=some (.int .i64 0)/\(w2.drew.setRow w.heap.size #[.bool dn,.string dd,.int .i64 dx]).cell? ⟨fb,1,none⟩=some (.int .i64 0)/\(w2.drew.setRow w.heap.size #[.bool dn,.string dd,.int .i64 dx]).cell? ⟨fb,2,none⟩=some (.int .i64 0)/\(w2.drew.setRow w.heap.size #[.bool dn,.string dd,.int .i64 dx]).cell? ⟨fb,3,none⟩=some (.slice none 0 0):=⟨(ah _ _ _).cell a0.out.1 a5,(ah _ _ _).cell a0.out.2.1 a5,(ah _ _ _).cell a0.out.2.2.1 a5,(ah _ _ _).cell a0.out.2.2.2.1 a1,(ah _ _ _).cell a0.out.2.2.2.2.1 a1,(ah _ _ _).cell a0.out.2.2.2.2.2.1 a1,(ah _ _ _).cell a0.out.2.2.2.2.2.2 a1⟩;have f5:((w2.drew.setRow w.heap.size #[.bool dn,.string dd,.int .i64 dx]).setRow (w.heap.size+1) #[.int .i64 0,.int .i64 0,.int .i64 0,.slice none 0 0]).cell? ⟨db,0,none⟩=some (.bool dn)/\((w2.drew.setRow w.heap.size #[.bool dn,.string dd,.int .i64 dx]).setRow (w.heap.size+1) #[.int .i64 0,.int .i64 0,.int .i64 0,.slice none 0 0]).cell? ⟨db,1,none⟩=some (.string dd)/\((w2.drew.setRow w.heap.size #[.bool dn,.string dd,.int .i64 dx]).setRow (w.heap.size+1) #[.int .i64 0,.int .i64 0,.int .i64 0,.slice none 0 0]).cell? ⟨db,2,none⟩=some (.int .i64 dx)/\((w2.drew.setRow w.heap.size #[.bool dn,.string dd,.int .i64 dx]).setRow (w.heap.size+1) #[.int .i64 0,.int .i64 0,.int .i64 0,.slice none 0 0]).cell? ⟨fb,0,none⟩=some (.int .i64 0)/\((w2.drew.setRow w.heap.size #[.bool dn,.string dd,.int .i64 dx]).setRow (w.heap.size+1) #[.int .i64 0,.int .i64 0,.int .i64 0,.slice none 0 0]).cell? ⟨fb,1,none⟩=some (.int .i64 0)/\((w2.drew.setRow w.heap.size #[.bool dn,.string dd,.int .i64 dx]).setRow (w.heap.size+1) #[.int .i64 0,.int .i64 0,.int .i64 0,.slice none 0 0]).cell? ⟨fb,2,none⟩=some (.int .i64 0)/\((w2.drew.setRow w.heap.size #[.bool dn,.string dd,.int .i64 dx]).setRow (w.heap.size+1) #[.int .i64 0,.int .i64 0,.int .i64 0,.slice none 0 0]).cell? ⟨fb,3,none⟩=some (.slice none 0 0):=⟨(ah _ _ _).cell a4.1 a7,(ah _ _ _).cell a4.2.1 a7,(ah _ _ _).cell a4.2.2.1 a7,(ah _ _ _).cell a4.2.2.2.1 a2,(ah _ _ _).cell a4.2.2.2.2.1 a2,(ah _ _ _).cell a4.2.2.2.2.2.1 a2,(ah _ _ _).cell a4.2.2.2.2.2.2 a2⟩;have g4:=Qa a4;have g5:=Qa f5;clear h1 h2 h3 h4 h5 c3 a5 a1 a7 a2 a4 f5 e6;refine aA (fun w'=>w'.cell? ⟨db,0,none⟩=some (.bool dn)/\w'.cell? ⟨db,1,none⟩=some (.string dd)/\w'.cell? ⟨db,2,none⟩=some (.int .i64 dx)/\w'.cell? ⟨fb,0,none⟩=some (.int .i64 0)/\w'.cell? ⟨fb,1,none⟩=some (.int .i64 0)/\w'.cell? ⟨fb,2,none⟩=some (.int .i64 0)/\w'.cell? ⟨fb,3,none⟩=some (.slice none 0 0)) (a0.out) fun c1=>?_
    refine tH 0 c1 ?_;refine tH 1 c1 ?_;refine tH 2 c1 ?_
    try simp only[Act.put,jP,jQ,jR]
    refine rH 3 fun K hK=>?_
    refine bM d3.out ?_;refine hK.out _ _ (g4.out) (fun c1=>?_);clear hK K
    try simp only[Act.put,jP,jQ,jR]
    refine tH 4 c1 ?_
    try simp only[Act.put,jP,jQ,jR]
    refine rH 5 fun K hK=>?_
    refine bM H3.out ?_;refine hK.out _ _ (g5.out) (fun c1=>?_);clear hK K
    try simp only[Act.put,jP,jQ,jR]
    refine wpAnyH_done (by kernel_rfl) (NoPanic.normal ?_) _;go_wp2_with fail;have h4:=H4.out;have h5:=H5.out;exact Zh (iD Tryz.results154 _ _ _ _ _ _ _ _ _ _ _ _ _ (0,0) (0,0) rfl h4 rfl h5) rfl ⟨⟨dn,dd,dx⟩,k,0,_,rfl,H1.out,H2.out,g1.out,fun _=>⟨d4.out,hk,g0.out (by trivial)⟩⟩
def wC (w:World)(e:Ending)(w':World):Prop:= ∃b:Bool,e =.returned (.bool b)/\w=w'
def IQ (s:ByteArray)(w:World)(e:Ending)(w':World):Prop:= ∃b:Bool,e =.returned (.bool b)/\w=w'/\(b=true->0<s.size)
def E9 (w:World)(s3:Value)(wr:World):Prop:= ∃k:Nat,k<=6/\s3 =.int .i64 k/\w=wr
theorem wL (X:Int)(w:World):Calls Tryz.prog 149 #[.int .u8 X] w (wC w):=by
 go_enter Tryz.func149,Tryz.ntmps149;go_wp2_with fail
 go_loopw [3] (E9 w) (fun i _=>6 - (intOf i).toNat)
 case atStart=>exact⟨0,by omega,rfl,rfl⟩
 case round=>
  obtain⟨k,hk,rfl,rfl⟩:=hrel;rcases(by omega:k=0\/k=1\/k=2\/k=3\/k=4\/k=5\/k=6) with rfl|rfl|rfl|rfl|rfl|rfl|rfl
  all_goals clear hk
  all_goals go_wp2_with fail
  all_goals first
   |(go_ret;exact⟨_,rfl,rfl⟩)
   |exact⟨⟨1,by omega,rfl,rfl⟩,by simp[intOf]⟩
   |exact⟨⟨2,by omega,rfl,rfl⟩,by simp[intOf]⟩
   |exact⟨⟨3,by omega,rfl,rfl⟩,by simp[intOf]⟩
   |exact⟨⟨4,by omega,rfl,rfl⟩,by simp[intOf]⟩
   |exact⟨⟨5,by omega,rfl,rfl⟩,by simp[intOf]⟩
   |exact⟨⟨6,by omega,rfl,rfl⟩,by simp[intOf]⟩
theorem BE (X:Int)(w:World):Calls Tryz.prog 148 #[.int .u8 X] w (wC w):=by
 go_enter Tryz.func148,Tryz.ntmps148
 by_cases h1:X=32
 ·go_wp2;go_ret;exact⟨_,rfl,rfl⟩
 have a0:(X==32)=false:=by simpa using h1
 by_cases h2:X=9
 ·go_wp2;go_ret;exact⟨_,rfl,rfl⟩
 have a2:(X==9)=false:=by simpa using h2
 by_cases h3:X=10
 ·go_wp2;go_ret;exact⟨_,rfl,rfl⟩
 have a1:(X==10)=false:=by simpa using h3
 go_wp2;go_ret;exact⟨_,rfl,rfl⟩
theorem mV (X:Int)(w:World):Calls Tryz.prog 150 #[.int .u8 X] w (wC w):=by
 go_enter Tryz.func150,Tryz.ntmps150
 by_cases h1:97<=X <;> by_cases h2:X<=122 <;> by_cases h3:65<=X <;> by_cases h4:X<=90
 all_goals first
  |omega
  |(go_wp2
    go_ret;exact⟨_,rfl,rfl⟩)
theorem vR (s:ByteArray)(w:World):Calls Tryz.prog 151 #[.string s] w (IQ s w):=by
 by_cases hs:s.toList = []
 ·have h1:(s.toList == [110,117,108,108])=false:=by rw[hs];rfl
  have h2:(s.toList == [116,114,117,101])=false:=by rw[hs];rfl
  have h3:(s.toList == [102,97,108,115,101])=false:=by rw[hs];rfl
  clear hs;go_enter Tryz.func151,Tryz.ntmps151;go_wp2
  all_goals
   go_ret;exact⟨_,rfl,rfl,fun h=>by simp_all⟩
 ·have H:=Qa (show 0<s.size from by
   rcases Nat.eq_zero_or_pos s.size with h|h
   ·exact absurd (by
     have e:s=ByteArray.empty:=ByteArray.size_eq_zero_iff.1 h;rw[e];exact(ByteArray.toList_eq _).trans rfl) hs
   ·exact h)
  clear hs;go_enter Tryz.func151,Tryz.ntmps151;go_wp2
  all_goals
   go_ret;exact⟨_,rfl,rfl,fun _=>H.out⟩
def Ii (w:World)(n:Nat)(s5 s6:Value)(wr:World):Prop:=
 (s5 =.slice none 0 0/\s6 =.int .i64 0/\w=wr)\/(n=1/\∃g' b x s c,s5 =.slice (some ⟨g',0,none⟩) 1 c/\s6 =.int .i64 1/\Below w.heap.size w wr/\wr.cell? ⟨g',0,none⟩=some (.bool b)/\wr.cell? ⟨g',1,none⟩=some (.int .i64 x)/\wr.cell? ⟨g',2,none⟩=some (.string s))
theorem om (c hh l:Int)(v:Value)(by_:Int)(w:World)(hv:Wr w v):Calls Tryz.prog 153 #[dA c hh l v,.int .i64 by_] w (tV w c):=by
 unfold dA;obtain⟨A,n,q,rfl,-⟩:=hv.slice;have Hv:=Qa hv;have b1:Below w.heap.size w ((w.alloc (.cells #[.int .i64 c,.int .i64 hh,.int .i64 l,.slice A n q] 62)).alloc (.cells #[.int .i64 0,.int .i64 0,.int .i64 0,.slice none 0 0] 62)):=((Ze w.heap.size w).alloc (Zb _) _).alloc (by simp) _;have a4:=ap w [.int .i64 c,.int .i64 hh,.int .i64 l,.slice A n q] 62;have a7:=Zf (w.alloc (.cells #[.int .i64 c,.int .i64 hh,.int .i64 l,.slice A n q] 62)) (.cells #[.int .i64 0,.int .i64 0,.int .i64 0,.slice none 0 0] 62);rw[World.size_alloc] at a7;have a5:=ac (w.alloc (.cells #[.int .i64 c,.int .i64 hh,.int .i64 l,.slice A n q] 62)) (.cells #[.int .i64 0,.int .i64 0,.int .i64 0,.slice none 0 0] 62);have c0:=Zg a5 (a4 0 _ rfl);have c1:=Zg a5 (a4 1 _ rfl);have c2:=Zg a5 (a4 2 _ rfl);have c3:=Zg a5 (a4 3 _ rfl);have a2:=Qa b1;have a6:=Qa a7;have Hc:=Qa (And.intro c0 (And.intro c1 (And.intro c2 c3)));clear b1 a4 a7 a5 hv c0 c1 c2 c3;go_enter Tryz.func153,Tryz.ntmps153;go_wp2_with fail;generalize ((w.alloc (.cells #[.int .i64 c,.int .i64 hh,.int .i64 l,.slice A n q] 62)).alloc (.cells #[.int .i64 0,.int .i64 0,.int .i64 0,.slice none 0 0] 62))=w0 at *
 go_loopw [5,6] (Ii w0 n) (fun _ i _=>1 - (intOf i).toNat)
 case atStart=>exact .inl ⟨rfl,rfl,rfl⟩
 case round=>
  rcases hrel with ⟨rfl,rfl,rfl⟩|⟨rfl,g',b,x,s,q',rfl,rfl,a0,k0,k1,k2⟩
  ·have hcc:=Hc.out;rcases Hv.out with e|⟨g,q',b,p,s,e,h1,h2,h3⟩
   ·injection e with e1 e2 e3
    subst e1;subst e2;subst e3;obtain⟨c0,c1,c2,c3⟩:=hcc;go_wp2_with (refine bF a6.out ?_);exact Zh (results_cell_row Tryz.results153 _ _ (w.heap.size+1) 62 _ (0,0) _ (by simp) (setRow_heap _ _ _ _ _ _ a6.out) Tryz.underlying62 rfl bi) rfl ⟨_,rfl,⟨hh,l,_,rfl,.inl rfl⟩,a2.out.grown (ah ..) a2.out.size (fun g e=>by cases e;omega)⟩
   ·injection e with e1 e2 e3
    subst e1;subst e2;subst e3;obtain⟨c0,c1,c2,c3⟩:=hcc;have h1:=Zg a2.out h1;have h2:=Zg a2.out h2;have h3:=Zg a2.out h3;go_wp2_with fail;generalize hZ:(#[Value.bool b,Value.int IntKind.i64 (wrap64 (p+by_)),Value.string s]++Builtin.zeroCells #[Value.bool false,Value.int IntKind.i64 0,Value.string {data:= #[]}] ((Question.appendCap 1 0 298).cut (w0.tape w0.drawn (Question.appendCap 1 0 298)) - 1))=Z;generalize hW:(w0.alloc (.cells #[.bool b,.int .i64 (wrap64 (p+by_)),.string s] 298)).alloc (.cells #[.bool b,.int .i64 (wrap64 (p+by_)),.string s] 298)=W;have b3:W.heap.size=w0.heap.size+1+1:=by rw[<-hW];simp
    have b0:Below w0.heap.size w0 W:=by rw[<-hW];exact(ac w0 _).alloc (by simp) _
    have hn:=Zf W (.cells Z 298);rw[b3] at hn;have z0:Z[0]?=some (.bool b):=by rw[<-hZ];simp[Array.getElem?_append]
    have z1:Z[1]?=some (.int .i64 (wrap64 (p+by_))):=by rw[<-hZ];simp[Array.getElem?_append]
    have z2:Z[2]?=some (.string s):=by rw[<-hZ];simp[Array.getElem?_append]
    have a9:∀j u,Z[j]?=some u->((W.alloc (.cells Z 298)).drew).cell? ⟨w0.heap.size+1+1,j,none⟩=some u:=by
     intro j u hu
     show(W.alloc (.cells Z 298)).cell? ⟨w0.heap.size+1+1,j,none⟩=some u
     unfold World.cell?;simp only[hn];simpa using hu
    exact⟨.inr ⟨rfl,_,b,_,s,_,rfl,rfl,(b0.alloc b0.size _).drew,a9 0 _ z0,a9 1 _ z1,a9 2 _ z2⟩,by simp[intOf]⟩
  ·obtain⟨c0,c1,c2,c3⟩:=Hc.out;have c0:=Zg a0 c0;have c1:=Zg a0 c1;have c2:=Zg a0 c2;have c3:=Zg a0 c3;have a1:=Qa ((a0.block _ (ae a6.out)).trans a6.out);have b2:=Qa (a2.out.trans (a0.mono a2.out.size));have hu:dE wr c (dA c hh l (.slice (some ⟨g',0,none⟩) 1 q')):=⟨hh,l,_,rfl,.inr ⟨g',q',b,x,s,rfl,k0,k1,k2⟩⟩;obtain⟨fh,fl,fA,fq,fr,a3,h1,h2⟩:=bH hu a1.out;injection a3 with a3
   obtain⟨rfl,rfl,a3⟩:hh=fh/\l=fl/\Value.slice (some ⟨g',0,none⟩) 1 q'=Value.slice fA fq fr:=by simpa using a3
   obtain⟨rfl,rfl,rfl⟩:some ⟨g',0,none⟩=fA/\1=fq/\q'=fr:=by simpa using a3
   have H2:=Qa h2;clear h1 h2 hu a3 k0 k1 k2 a0;go_wp2_with (refine bF a1.out ?_);exact Zh (results_cell_row Tryz.results153 _ _ (w.heap.size+1) 62 _ (0,0) _ (by simp) (setRow_heap _ _ _ _ _ _ a1.out) Tryz.underlying62 rfl bi) rfl ⟨_,rfl,H2.out,b2.out.grown (ah ..) b2.out.size (fun g e=>by cases e;omega)⟩
