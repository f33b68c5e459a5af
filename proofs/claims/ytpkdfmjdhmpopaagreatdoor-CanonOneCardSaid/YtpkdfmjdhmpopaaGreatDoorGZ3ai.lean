import Derived.Test.YtpkdfmjdhmpopaaGreatDoorGZ3ah
import Derived.Deep.CutBlock
set_option linter.unusedVariables false
set_option linter.unusedSimpArgs false
set_option maxHeartbeats 64000000
set_option maxRecDepth 100000
namespace Go.Proofs.YtpkdfmjdhmpopaaGreatDoor
open Go.RowKit
variable {s : ByteArray} {d : Dc} {xs : List UInt8} {i p q : Nat} {v : Value} {w : World}
theorem o1 (c h l p:Int)(w:World):Calls Tryz.prog 188 #[dE c h l (.slice none 0 0), .int .i64 p] w (tj w c):=by
 unfold dE;go_enter Tryz.func188,Tryz.ntmps188;go_wp2_with fail;have hb:=((((Zd w.heap.size w).alloc (Za _) (.cells #[.int .i64 c, .int .i64 h, .int .i64 l, .slice none 0 0] 70)).alloc (by simp) (.cells #[.int .i64 c, .int .i64 h, .int .i64 l, .slice (some ⟨w.heap.size+1+1,0,none⟩) 1 1] 70)).alloc (by simp;omega) (.cells #[.bool false, .int .i64 p, .string es] 302));have hc:=av ((w.alloc (.cells #[.int .i64 c, .int .i64 h, .int .i64 l, .slice none 0 0] 70)).alloc (.cells #[.int .i64 c, .int .i64 h, .int .i64 l, .slice (some ⟨w.heap.size+1+1,0,none⟩) 1 1] 70)) [.bool false, .int .i64 p, .string es] 302;have a0:=Ze (w.alloc (.cells #[.int .i64 c, .int .i64 h, .int .i64 l, .slice none 0 0] 70)) (.cells #[.int .i64 c, .int .i64 h, .int .i64 l, .slice (some ⟨w.heap.size+1+1,0,none⟩) 1 1] 70);simp only [World.size_alloc] at hc a0;exact Zg (results_cell_row Tryz.results188 _ _ (w.heap.size+1) 70 #[.int .i64 c, .int .i64 h, .int .i64 l, .slice (some ⟨w.heap.size+1+1,0,none⟩) 1 1] (0,0) _ (by simp) ((Below.heap_alloc _ _ _ (by simp)).trans a0) Tryz.underlying70 rfl ao) rfl ⟨_,rfl,⟨h,l,_,rfl, .inr ⟨w.heap.size+1+1,1,false,p,es,rfl,hc 0 _ rfl,hc 1 _ rfl,hc 2 _ rfl⟩⟩,hb⟩
theorem iN {fn:Func}{p m q:Tmp}(h:fn.results = #[.cell p 74, .tmp m, .cell q 70])(tmps:Array Value)(w:World)(g1 g:Nat)(t1 t:TypeId)(d0 d1 d2 c0 c1 c2 c3:Value)(fr1 fr:Nat×Nat)
  (a3:tmps.getD p undef = .pointer (some ⟨g1,0,none⟩)) (a1:w.heap[g1]?=some (.cells #[d0,d1,d2] t1 fr1))
  (hp:tmps.getD q undef = .pointer (some ⟨g,0,none⟩)) (hg:w.heap[g]?=some (.cells #[c0,c1,c2,c3] t fr)) :
  (results fn tmps).run Tryz.prog w = .ok (.tuple #[.agg #[d0,d1,d2],tmps.getD m undef, .agg #[c0,c1,c2,c3]]) w:=by
 have a0:tmps[p]?.getD undef = .pointer (some ⟨g1,0,none⟩):=by simpa using a3
 have a2:tmps[q]?.getD undef = .pointer (some ⟨g,0,none⟩):=by simpa using hp
 have a4:=run_loadVar_row (P:=Tryz.prog) w g1 t1 74 #[d0,d1,d2] fr1 _ a1 Tryz.underlying74 rfl (by kernel_rfl);have hl:=run_loadVar_row (P:=Tryz.prog) w g t 70 #[c0,c1,c2,c3] fr _ hg Tryz.underlying70 rfl ao;simp [results,h,a0,a2,asAddr,a4,hl]
def wh (d:Dc):Prop:=d= ⟨false,⟨#[48]⟩,0⟩\/(0<d.digits.size/\(∀i (h:i<d.digits.size),48<=d.digits[i].toNat/\d.digits[i].toNat<=57)/\(∀h:0<d.digits.size,d.digits[0].toNat≠48)/\(∀h:d.digits.size - 1<d.digits.size,d.digits[d.digits.size - 1].toNat≠48)/\ -1000000000<=d.exp/\d.exp<=1000000000)
theorem jf (h:i< (s.extract p q).size)(h2:p+i<s.size): (s.extract p q)[i]=s[p+i]:=by
 show(s.extract p q).data[i]=s.data[p+i]
 have e: (s.extract p q).data=s.data.extract p q:=ByteArray.data_extract ..;simp only [e,Array.getElem_extract]
theorem qv.norm {neg:Bool}{x:Int}(h:qv neg s x d):wh d:=by
 obtain⟨-,hd,⟨-,rfl⟩ | ⟨p,q,a1,hq, -,hp,hl, -,rfl,h1,h2⟩⟩:=h
 ·exact .inl rfl
 ·have hz: (s.extract p q).size=q - p:=by rw [ByteArray.size_extract];omega
  refine .inr ⟨by show 0< (s.extract p q).size;omega,fun i hi=> ?_,fun h=> ?_,fun h=> ?_,h1,h2⟩
  ·have a0:i< (s.extract p q).size:=hi
   show 48<=(s.extract p q)[i].toNat/\(s.extract p q)[i].toNat<=57
   rw [jf a0 (by omega)];exact hd _ _
  ·have a0:0< (s.extract p q).size:=h
   show(s.extract p q)[0].toNat≠48
   rw [jf a0 (by omega)];exact hp _
  ·have a0: (s.extract p q).size - 1< (s.extract p q).size:=h
   show(s.extract p q)[(s.extract p q).size - 1].toNat≠48
   rw [jf a0 (by omega)];have e:p+ ((s.extract p q).size - 1)=q - 1:=by omega
   have:=hl (by omega);simpa only [e] using this
def Iq (len:Nat)(w:World)(e:Ending)(w':World):Prop:= ∃ (d:Dc) (n:Nat) (c:Int) (u:Value),e = .returned (.tuple #[F5 d, .int .i64 n,u])/\dT w' c u/\Below w.heap.size w w'/\d.digits.size<=len+1/\(c=0->1<=n/\n<=len/\wh d)
def qf (w0:World)(len:Nat)(s5 s6 s7 s8 s9 s10 s11:Value)(wr:World):Prop:= ∃ (k:Nat) (s p x:Int) (b1 b2:Bool) (ys:List UInt8) (vd:Value),k<=len/\s5 = .int .i64 s/\(k=0->s=0)/\s6 = .int .i64 k/\s7 = .bool b1/\s8 = .bool b2/\vd=s9/\au wr w0.heap.size vd ys/\ys.length<=k/\s10 = .int .i64 p/\s11 = .int .i64 x/\Below w0.heap.size w0 wr
theorem wC (hb:Bs w v xs)(hl:xs.length<=900000):Calls Tryz.prog 158 #[v] w (Iq xs.length w):=by
 obtain⟨hm,A,cap,rfl,g6,b3⟩:=id hb;have f1:=Ze w (.cells #[.bool false, .string es, .int .i64 0] 74);have d9:=Ze (w.alloc (.cells #[.bool false, .string es, .int .i64 0] 74)) (.cells #[.int .i64 0, .int .i64 0, .int .i64 0, .slice none 0 0] 70);rw [World.size_alloc] at d9;have e4:Below w.heap.size w ((w.alloc (.cells #[.bool false, .string es, .int .i64 0] 74)).alloc (.cells #[.int .i64 0, .int .i64 0, .int .i64 0, .slice none 0 0] 70)):=((Zd _ _).alloc (Za _) _).alloc (by simp) _;have c7: ((w.alloc (.cells #[.bool false, .string es, .int .i64 0] 74)).alloc (.cells #[.int .i64 0, .int .i64 0, .int .i64 0, .slice none 0 0] 70)).heap[w.heap.size]?=some (.cells #[.bool false, .string es, .int .i64 0] 74 (0,0)):=(Below.heap_alloc _ _ _ (by simp)).trans f1;have f6:=Qa c7;have f5:=Qa d9;have d1:=Qa e4;have h7:=Qa hb;have c5:=Qa b3;clear f1 c7 d9 e4 hb b3;go_enter Tryz.func158,Tryz.ntmps158;go_upto_block 0 with fail
 generalize (w.alloc (.cells #[.bool false, .string es, .int .i64 0] 74)).alloc (.cells #[.int .i64 0, .int .i64 0, .int .i64 0, .slice none 0 0] 70)=w0 at *;go_cut [5,6,7,8,9,10,11] (fun s5 s6 s7 s8 s9 s10 s11 wx=>qf w0 xs.length s5 s6 s7 s8 s9 s10 s11 wx)
 case first=>
  go_wp2_with fail
  go_loopw [5,6,7,8,9,10,11] (qf w0 xs.length) (fun _ i _ _ _ _ _ _=>xs.length - (intOf i).toNat)
  case atStart=>exact⟨0,0,0,0,false,false, [],_,by omega,rfl,fun _=>rfl,rfl,rfl,rfl,rfl,au.nil _ _,by simp,rfl,rfl,Zd _ _⟩
  case round=>
   obtain⟨k,s,p,x,b1,b2,ys,vd,hk,rfl,c4,rfl,rfl,rfl,rfl,ho,hyl,rfl,rfl,b5⟩:=hrel;have Ho:=Qa ho;have Hs0:=Qa c4;have Hbr:=Qa b5;clear ho c4 b5
   by_cases hlt:k<xs.length
   case neg=>
    have g1:¬ (k:Int)<xs.length:=by omega
    go_wp2_with fail;go_meet
    case rel=>exact⟨k,s,p,x,b1,b2,ys,vd,hk,rfl,Hs0.out,rfl,rfl,rfl,rfl,Ho.out,hyl,rfl,rfl,Hbr.out⟩
   have g1: (k:Int)<xs.length:=by omega
   obtain⟨b,o,rfl,f4⟩:=c5.out (by omega);have ck:=Zf (d1.out.trans (Hbr.out.mono d1.out.size)) (f4 k hlt);have b6:Bs (wr.alloc (.cells #[.int .u8 (am xs k)] 5)) (.slice (some ⟨wr.heap.size,0,none⟩) 1 1) [xs.getD k 0]:=qV [xs.getD k 0] (by simp) (by simp) (Ze _ _);obtain⟨X,hX,h9,g8⟩:∃X:Int,(am xs k:Int)=X/\0<=X/\X<256:=⟨_,rfl,by omega,by have:=aM xs k;omega⟩;rw [hX] at ck b6;have d0:=Qa b6;clear hX f4 b6;go_wp2_with fail;refine(yn s X wr).mono ?_;rintro e w' ⟨⟨t,rfl,i2,i0,f3⟩,rfl⟩;have h6:=Qa f3;clear f3;have hrel:∀ (s p x:Int) (b1 b2:Bool),qf w0 xs.length (.int .i64 s) (.int .i64 (k+1:Nat)) (.bool b1) (.bool b2) vd (.int .i64 p) (.int .i64 x) wr:=fun s p x b1 b2=>⟨k+1,s,p,x,b1,b2,ys,vd,by omega,rfl,fun h=>by omega,rfl,rfl,rfl,rfl,Ho.out,by omega,rfl,rfl,Hbr.out⟩
   have e2:=Qa hrel;have b4:∀ (v':Value) (w3:World),au w3 w0.heap.size v' (ys ++ [xs.getD k 0])->(wr.alloc (.cells #[.int .u8 X] 5)).grownBy w3 vd.ownBlock->∀ (s p x:Int) (b1 b2:Bool),qf w0 xs.length (.int .i64 s) (.int .i64 (k+1:Nat)) (.bool b1) (.bool b2) v' (.int .i64 p) (.int .i64 x) w3:=fun v' w3 h1 h2 s p x b1 b2=>
    ⟨k+1,s,p,x,b1,b2,_,_,by omega,rfl,fun h=>by omega,rfl,rfl,rfl,rfl,h1,by simp;omega,rfl,rfl,(Hbr.out.trans ((ac _ _).mono Hbr.out.size)).grown h2 (by simp;have:=Hbr.out.size;omega) (fun g e=>(ak Ho.out e).1)⟩
   have c6:=Qa b4;have b0:=Ho.out.below (ac wr (.cells #[.int .u8 X] 5)) (Za _);have a9:=Qa b0;clear hrel b4 b0;have e6: (((k+1:Nat):Int))= (k:Int)+1:=by omega
   have d4:=Qa e6;clear e6;rcases(by omega:t=1\/t=2\/t=3\/t=4\/t=5\/t=6\/t=7\/t=8\/t=9) with rfl | rfl | rfl | rfl | rfl | rfl | rfl | rfl | rfl
   case inr.inr.inr.inr.inr.inr.inr.inr=>
    go_wp2_with fail;go_meet
    case rel=>exact⟨k,s,p,x,b1,b2,ys,vd,hk,rfl,Hs0.out,rfl,rfl,rfl,rfl,Ho.out,hyl,rfl,rfl,Hbr.out⟩
   case inr.inl | inr.inr.inl | inr.inr.inr.inr.inl=>
    go_wp2_with (at_builtin;first
     | (refine aA rfl (.tmp 33) (.tmp 38) rfl w0.heap.size vd (.slice (some ⟨wr.heap.size,0,none⟩) 1 1) ys [xs.getD k 0] (by simp [Act.eval]) a9.out (by simp [Act.eval]) d0.out (by simp;omega) (by have:=Hbr.out.size;simp;omega) ?_;intro v' w3 h1 h2 h3;have HK:=Qa h1;have HG:=Qa h2;clear h1 h2 h3)
     | (refine aA rfl (.tmp 42) (.tmp 47) rfl w0.heap.size vd (.slice (some ⟨wr.heap.size,0,none⟩) 1 1) ys [xs.getD k 0] (by simp [Act.eval]) a9.out (by simp [Act.eval]) d0.out (by simp;omega) (by have:=Hbr.out.size;simp;omega) ?_;intro v' w3 h1 h2 h3;have HK:=Qa h1;have HG:=Qa h2;clear h1 h2 h3))
    all_goals
     have h:=c6.out v' w3 HK.out HG.out;rw [d4.out] at h;exact⟨h _ _ _ _ _,by simp [intOf];omega⟩
   all_goals
    go_wp2_with fail
    all_goals
     have h:=e2.out;rw [d4.out] at h;exact⟨h _ _ _ _ _,by simp [intOf];omega⟩
 case rest=>
  obtain⟨k,s,p,x,b1,b2,ys,vd,hk,rfl,c4,rfl,rfl,rfl,rfl,ho,hyl,rfl,rfl,b5⟩:=hcut;have Ho:=Qa ho;have Hs0:=Qa c4;have Hbr:=Qa b5;have c3:=Qa ((b5.block _ (ae f6.out)).trans f6.out);have b7:=Qa ((b5.block _ (ae f5.out)).trans f5.out);have b8:=d1.out.trans (b5.mono d1.out.size);have c2:=Qa b8;clear ho c4 b5 b8
  by_cases hs:s=2\/s=3\/s=5\/s=8
  case neg=>
   have h2: (s !=2)=true:=by simp;omega
   have h3: (s !=3)=true:=by simp;omega
   have h5: (s !=5)=true:=by simp;omega
   have h8: (s !=8)=true:=by simp;omega
   clear hs;go_wp2_with fail;refine(cv 107 k wc).mono ?_;rintro e wz ⟨u,rfl,hu,a7⟩;have c9:=Qa ((a7.block _ (ae c3.out)).trans c3.out);have d6:=Qa ((a7.block _ (ae b7.out)).trans b7.out);obtain⟨fh,fl,fA,fq,fr,rfl,h3,h4,h5,h1,h2⟩:=dB (D:= #[.bool false, .string es, .int .i64 0]) hu c9.out d6.out (Za _) (by omega) (c2.out.trans (a7.mono c2.out.size));have H1:=Qa h1;have H2:=Qa h2;have H3:=Qa h3;have H4:=Qa h4;have H5:=Qa h5;clear h1 h2 h3 h4 h5 hu a7;go_wp2_with (first
    | (refine wpList_store_rowTo rfl 74 (.tmp 2) (.tmp 88) rfl rfl w.heap.size #[.bool false, .string es, .int .i64 0] (by simp [Act.eval]) (by simp [Act.eval]) 74 _ c9.out ga rfl (fZ _ _ _) ?_)
    | (refine wpList_store_rowTo rfl 70 (.tmp 4) (.tmp 90) rfl rfl (w.heap.size+1) #[.int .i64 107, .int .i64 fh, .int .i64 fl, .slice fA fq fr] (by simp [Act.eval]) (by simp [Act.eval]) 70 _ H3.out ao rfl (az 107 fh fl rfl) ?_))
   have h4:=H4.out;have h5:=H5.out;exact Zg (iN Tryz.results158 _ _ _ _ _ _ _ _ _ _ _ _ _ (0,0) (0,0) rfl h4 rfl h5) rfl ⟨⟨false,es,0⟩,0,107,_,rfl,H1.out,H2.out,Zb (Nat.le_of_eq (rfl:es.size=0)) (Zj _),fun h=>by cases h⟩
  have d4:=Qa (show 1<=k from by
   by_cases h:k=0
   ·have:=Hs0.out h;omega
   ·omega)
  have hq:∀W,Below wc.heap.size wc W->(convert 22 9 vd).run Tryz.prog W = .ok (.string ⟨ys.toArray⟩) W:=fun W hW=>aF (Ho.out.bs.below hW)
  have e1:=hq wc (Zd _ _);clear hq;have f0: (⟨ys.toArray⟩:ByteArray).size<=xs.length:=by simp [ByteArray.size];omega
  have e3:=Qa f0;clear f0;obtain⟨w3,c8⟩:∃w3,wc=w3:=⟨_,rfl⟩;rw [c8] at e1 Ho Hbr c3 b7 c2 ⊢;clear c8;go_upto_region 28 with fail
  go_cut [87] (fun s87 wx=>s87 = .bool false/\wx=w3)
  case first=>
   rcases hs with rfl | rfl | rfl | rfl <;> go_wp2_with fail
   all_goals
    go_meet
    case rel=>exact⟨rfl,rfl⟩
  case rest=>
   obtain⟨rfl,rfl⟩:=hcut;go_upto_if 91 with fail
   obtain⟨w3,c8⟩:∃w3,wc=w3:=⟨_,rfl⟩;rw [c8] at e1 Ho Hbr c3 b7 c2 ⊢;clear c8;go_cut [11] (fun s11 wx=>(∃x':Int,s11 = .int .i64 x')/\wx=w3)
   case first=>
    cases b2 <;> go_wp2_with fail
    all_goals
     go_meet
     case rel=>exact⟨⟨_,rfl⟩,rfl⟩
   case rest=>
    obtain⟨⟨x',rfl⟩,rfl⟩:=hcut;go_wp2_with fail;refine(uS b1 ⟨ys.toArray⟩ _ (by have:=e3.out;omega) wc).mono ?_;rintro e w1 ⟨d,c,rfl,b8,g5,f2⟩;have g3:=Qa (fun hc=>qv.norm (f2 hc));have g4:=Qa (show d.digits.size<=xs.length+1 from by have:=e3.out;omega);clear g5 f2;obtain⟨dn,dd,dx⟩:=d;rw [show F5 ⟨dn,dd,dx⟩ = .agg #[.bool dn, .string dd, .int .i64 dx] from rfl,show dE c 0 0 (.slice none 0 0) = .agg #[.int .i64 c, .int .i64 0, .int .i64 0, .slice none 0 0] from rfl];have e5:Below w1.heap.size w1 ((w1.alloc (.cells #[.bool dn, .string dd, .int .i64 dx] 74)).alloc (.cells #[.int .i64 c, .int .i64 0, .int .i64 0, .slice none 0 0] 70)):=(ac w1 _).alloc (by simp) _;have hcd:=av w1 [.bool dn, .string dd, .int .i64 dx] 74;have b9:=av (w1.alloc (.cells #[.bool dn, .string dd, .int .i64 dx] 74)) [.int .i64 c, .int .i64 0, .int .i64 0, .slice none 0 0] 70;rw [World.size_alloc] at b9;have d2:=ac (w1.alloc (.cells #[.bool dn, .string dd, .int .i64 dx] 74)) (.cells #[.int .i64 c, .int .i64 0, .int .i64 0, .slice none 0 0] 70);have a0:=Qa (show((w1.alloc (.cells #[.bool dn, .string dd, .int .i64 dx] 74)).alloc (.cells #[.int .i64 c, .int .i64 0, .int .i64 0, .slice none 0 0] 70)).cell? ⟨w1.heap.size,0,none⟩=some (.bool dn)/\((w1.alloc (.cells #[.bool dn, .string dd, .int .i64 dx] 74)).alloc (.cells #[.int .i64 c, .int .i64 0, .int .i64 0, .slice none 0 0] 70)).cell? ⟨w1.heap.size,1,none⟩=some (.string dd)/\((w1.alloc (.cells #[.bool dn, .string dd, .int .i64 dx] 74)).alloc (.cells #[.int .i64 c, .int .i64 0, .int .i64 0, .slice none 0 0] 70)).cell? ⟨w1.heap.size,2,none⟩=some (.int .i64 dx)/\((w1.alloc (.cells #[.bool dn, .string dd, .int .i64 dx] 74)).alloc (.cells #[.int .i64 c, .int .i64 0, .int .i64 0, .slice none 0 0] 70)).cell? ⟨w1.heap.size+1,0,none⟩=some (.int .i64 c)/\((w1.alloc (.cells #[.bool dn, .string dd, .int .i64 dx] 74)).alloc (.cells #[.int .i64 c, .int .i64 0, .int .i64 0, .slice none 0 0] 70)).cell? ⟨w1.heap.size+1,1,none⟩=some (.int .i64 0)/\((w1.alloc (.cells #[.bool dn, .string dd, .int .i64 dx] 74)).alloc (.cells #[.int .i64 c, .int .i64 0, .int .i64 0, .slice none 0 0] 70)).cell? ⟨w1.heap.size+1,2,none⟩=some (.int .i64 0)/\((w1.alloc (.cells #[.bool dn, .string dd, .int .i64 dx] 74)).alloc (.cells #[.int .i64 c, .int .i64 0, .int .i64 0, .slice none 0 0] 70)).cell? ⟨w1.heap.size+1,3,none⟩=some (.slice none 0 0) from⟨Zf d2 (hcd 0 _ rfl),Zf d2 (hcd 1 _ rfl),Zf d2 (hcd 2 _ rfl),b9 0 _ rfl,b9 1 _ rfl,b9 2 _ rfl,b9 3 _ rfl⟩);have a1:=b8.trans (e5.mono b8.size);have g0:=Qa a1;have d5:=Qa (c2.out.trans (a1.mono c2.out.size));have d3:=Qa ((a1.block _ (ae c3.out)).trans c3.out);have e0:=Qa ((a1.block _ (ae b7.out)).trans b7.out);have g7:w.heap.size+1<w1.heap.size:=Nat.lt_of_lt_of_le (ae b7.out) b8.size;clear e5 hcd b9 d2 a1 b8 e1
    by_cases hc:c=0
    case neg=>
     have h0: (c !=0)=true:=by simpa using hc
     have Hc:=Qa hc;clear hc;go_wp2_with fail;generalize ((w1.alloc (.cells #[.bool dn, .string dd, .int .i64 dx] 74)).alloc (.cells #[.int .i64 c, .int .i64 0, .int .i64 0, .slice none 0 0] 70))=w2 at *;refine(o1 c 0 0 0 w2).mono ?_;rintro e wz ⟨u,rfl,hu,a7⟩;have c9:=Qa ((a7.block _ (ae d3.out)).trans d3.out);have d6:=Qa ((a7.block _ (ae e0.out)).trans e0.out);obtain⟨fh,fl,fA,fq,fr,rfl,h3,h4,h5,h1,h2⟩:=dB (D:= #[.bool false, .string es, .int .i64 0]) hu c9.out d6.out (Za _) (by omega) (d5.out.trans (a7.mono d5.out.size));have H1:=Qa h1;have H2:=Qa h2;have H3:=Qa h3;have H4:=Qa h4;have H5:=Qa h5;clear h1 h2 h3 h4 h5 hu a7;go_wp2_with (first
      | (refine wpList_store_rowTo rfl 74 (.tmp 2) (.tmp 107) rfl rfl w.heap.size #[.bool false, .string es, .int .i64 0] (by simp [Act.eval]) (by simp [Act.eval]) 74 _ c9.out ga rfl (fZ _ _ _) ?_)
      | (refine wpList_store_rowTo rfl 70 (.tmp 4) (.tmp 109) rfl rfl (w.heap.size+1) #[.int .i64 c, .int .i64 fh, .int .i64 fl, .slice fA fq fr] (by simp [Act.eval]) (by simp [Act.eval]) 70 _ H3.out ao rfl (az c fh fl rfl) ?_))
     have h4:=H4.out;have h5:=H5.out;exact Zg (iN Tryz.results158 _ _ _ _ _ _ _ _ _ _ _ _ _ (0,0) (0,0) rfl h4 rfl h5) rfl ⟨⟨false,es,0⟩,0,c,_,rfl,H1.out,H2.out,Zb (Nat.le_of_eq (rfl:es.size=0)) (Zj _),fun h=>absurd h Hc.out⟩
    subst hc;go_wp2_with fail;generalize ((w1.alloc (.cells #[.bool dn, .string dd, .int .i64 dx] 74)).alloc (.cells #[.int .i64 0, .int .i64 0, .int .i64 0, .slice none 0 0] 70))=w2 at *;have g9:=Qa (rfl:w1.heap.size=w1.heap.size);generalize w1.heap.size=db at *;obtain⟨fb,f8⟩:∃fb,db+1=fb:=⟨_,rfl⟩;rw [f8] at a0 ⊢;have Hu:=Qa (show dT w2.drew 0 (dE 0 0 0 (.slice none 0 0)) from⟨0,0,_,rfl, .inl rfl⟩);obtain⟨gh,gl',gA,gq,gr,c1,h3,h4,h5,h1,h2⟩:=dB (w:=w2.drew) (D:= #[.bool dn, .string dd, .int .i64 dx]) Hu.out d3.out e0.out (Za _) (by omega) (d5.out.drew);injection c1 with c1
    obtain⟨rfl,rfl,c1⟩:0=gh/\0=gl'/\Value.slice none 0 0=Value.slice gA gq gr:=by simpa using c1
    obtain⟨rfl,rfl,rfl⟩:none=gA/\0=gq/\0=gr:=by simpa using c1
    have H1:=Qa h1;have H2:=Qa h2;have H3:=Qa h3;have H4:=Qa h4;have H5:=Qa h5;have a5:some db≠some w.heap.size:=fun e=>by injection e with e;omega
    have a2:some fb≠some w.heap.size:=fun e=>by injection e with e;omega
    have a6:some db≠some (w.heap.size+1):=fun e=>by injection e with e;omega
    have a3:some fb≠some (w.heap.size+1):=fun e=>by injection e with e;omega
    have a4: (w2.drew.setRow w.heap.size #[.bool dn, .string dd, .int .i64 dx]).cell? ⟨db,0,none⟩=some (.bool dn)/\(w2.drew.setRow w.heap.size #[.bool dn, .string dd, .int .i64 dx]).cell? ⟨db,1,none⟩=some (.string dd)/\(w2.drew.setRow w.heap.size #[.bool dn, .string dd, .int .i64 dx]).cell? ⟨db,2,none⟩=some (.int .i64 dx)/\(w2.drew.setRow w.heap.size #[.bool dn, .string dd, .int .i64 dx]).cell? ⟨fb,0,none⟩=some (.int .i64 0)/\(w2.drew.setRow w.heap.size #[.bool dn, .string dd, .int .i64 dx]).cell? ⟨fb,1,none⟩=some (.int .i64 0)/\(w2.drew.setRow w.heap.size #[.bool dn, .string dd, .int .i64 dx]).cell? ⟨fb,2,none⟩=some (.int .i64 0)/\(w2.drew.setRow w.heap.size #[.bool dn, .string dd, .int .i64 dx]).cell? ⟨fb,3,none⟩=some (.slice none 0 0):=⟨(ah _ _ _).cell a0.out.1 a5,(ah _ _ _).cell a0.out.2.1 a5,(ah _ _ _).cell a0.out.2.2.1 a5,(ah _ _ _).cell a0.out.2.2.2.1 a2,(ah _ _ _).cell a0.out.2.2.2.2.1 a2,(ah _ _ _).cell a0.out.2.2.2.2.2.1 a2,(ah _ _ _).cell a0.out.2.2.2.2.2.2 a2⟩;have e8: ((w2.drew.setRow w.heap.size #[.bool dn, .string dd, .int .i64 dx]).setRow (w.heap.size+1) #[.int .i64 0, .int .i64 0, .int .i64 0, .slice none 0 0]).cell? ⟨db,0,none⟩=some (.bool dn)/\((w2.drew.setRow w.heap.size #[.bool dn, .string dd, .int .i64 dx]).setRow (w.heap.size+1) #[.int .i64 0, .int .i64 0, .int .i64 0, .slice none 0 0]).cell? ⟨db,1,none⟩=some (.string dd)/\((w2.drew.setRow w.heap.size #[.bool dn, .string dd, .int .i64 dx]).setRow (w.heap.size+1) #[.int .i64 0, .int .i64 0, .int .i64 0, .slice none 0 0]).cell? ⟨db,2,none⟩=some (.int .i64 dx)/\((w2.drew.setRow w.heap.size #[.bool dn, .string dd, .int .i64 dx]).setRow (w.heap.size+1) #[.int .i64 0, .int .i64 0, .int .i64 0, .slice none 0 0]).cell? ⟨fb,0,none⟩=some (.int .i64 0)/\((w2.drew.setRow w.heap.size #[.bool dn, .string dd, .int .i64 dx]).setRow (w.heap.size+1) #[.int .i64 0, .int .i64 0, .int .i64 0, .slice none 0 0]).cell? ⟨fb,1,none⟩=some (.int .i64 0)/\((w2.drew.setRow w.heap.size #[.bool dn, .string dd, .int .i64 dx]).setRow (w.heap.size+1) #[.int .i64 0, .int .i64 0, .int .i64 0, .slice none 0 0]).cell? ⟨fb,2,none⟩=some (.int .i64 0)/\((w2.drew.setRow w.heap.size #[.bool dn, .string dd, .int .i64 dx]).setRow (w.heap.size+1) #[.int .i64 0, .int .i64 0, .int .i64 0, .slice none 0 0]).cell? ⟨fb,3,none⟩=some (.slice none 0 0):=⟨(ah _ _ _).cell a4.1 a6,(ah _ _ _).cell a4.2.1 a6,(ah _ _ _).cell a4.2.2.1 a6,(ah _ _ _).cell a4.2.2.2.1 a3,(ah _ _ _).cell a4.2.2.2.2.1 a3,(ah _ _ _).cell a4.2.2.2.2.2.1 a3,(ah _ _ _).cell a4.2.2.2.2.2.2 a3⟩;have f9:=Qa a4;have g2:=Qa e8;clear h1 h2 h3 h4 h5 c1 a5 a2 a6 a3 a4 e8 f8;refine aW (fun w'=>w'.cell? ⟨db,0,none⟩=some (.bool dn)/\w'.cell? ⟨db,1,none⟩=some (.string dd)/\w'.cell? ⟨db,2,none⟩=some (.int .i64 dx)/\w'.cell? ⟨fb,0,none⟩=some (.int .i64 0)/\w'.cell? ⟨fb,1,none⟩=some (.int .i64 0)/\w'.cell? ⟨fb,2,none⟩=some (.int .i64 0)/\w'.cell? ⟨fb,3,none⟩=some (.slice none 0 0)) (a0.out) fun c0=> ?_
    refine tH 0 c0 ?_;refine tH 1 c0 ?_;refine tH 2 c0 ?_
    try simp only [Act.put,jP,jQ,jR]
    refine rH 3 fun K hK=> ?_
    refine aq rfl 74 (.tmp 2) (.tmp 110) rfl w.heap.size #[.bool dn, .string dd, .int .i64 dx] (by simp [Act.eval]) (by simp [Act.eval]) 74 _ d3.out ga rfl (fZ _ _ _) ?_;refine hK.out _ _ (f9.out) (fun c0=> ?_);clear hK K
    try simp only [Act.put,jP,jQ,jR]
    refine tH 4 c0 ?_
    try simp only [Act.put,jP,jQ,jR]
    refine rH 5 fun K hK=> ?_
    refine aq rfl 70 (.tmp 4) (.tmp 112) rfl (w.heap.size+1) #[.int .i64 0, .int .i64 0, .int .i64 0, .slice none 0 0] (by simp [Act.eval]) (by simp [Act.eval]) 70 _ H3.out ao rfl (az 0 0 0 rfl) ?_;refine hK.out _ _ (g2.out) (fun c0=> ?_);clear hK K
    try simp only [Act.put,jP,jQ,jR]
    refine wpAnyH_done (by kernel_rfl) (NoPanic.normal ?_) _;go_wp2_with fail;have h4:=H4.out;have h5:=H5.out;exact Zg (iN Tryz.results158 _ _ _ _ _ _ _ _ _ _ _ _ _ (0,0) (0,0) rfl h4 rfl h5) rfl ⟨⟨dn,dd,dx⟩,k,0,_,rfl,H1.out,H2.out,g4.out,fun _=>⟨d4.out,hk,g3.out (by trivial)⟩⟩
def vC (w:World)(e:Ending)(w':World):Prop:= ∃b:Bool,e = .returned (.bool b)/\w=w'
def GM (s:ByteArray)(w:World)(e:Ending)(w':World):Prop:= ∃b:Bool,e = .returned (.bool b)/\w=w'/\(b=true->0<s.size)
def CR (w:World)(s3:Value)(wr:World):Prop:= ∃k:Nat,k<=6/\s3 = .int .i64 k/\w=wr
theorem wJ (X:Int)(w:World):Calls Tryz.prog 153 #[.int .u8 X] w (vC w):=by
 go_enter Tryz.func153,Tryz.ntmps153;go_wp2_with fail
 go_loopw [3] (CR w) (fun i _=>6 - (intOf i).toNat)
 case atStart=>exact⟨0,by omega,rfl,rfl⟩
 case round=>
  obtain⟨k,hk,rfl,rfl⟩:=hrel;rcases(by omega:k=0\/k=1\/k=2\/k=3\/k=4\/k=5\/k=6) with rfl | rfl | rfl | rfl | rfl | rfl | rfl
  all_goals clear hk
  all_goals go_wp2_with fail
  all_goals first
   | (go_ret;exact⟨_,rfl,rfl⟩)
   | exact⟨⟨1,by omega,rfl,rfl⟩,by simp [intOf]⟩
   | exact⟨⟨2,by omega,rfl,rfl⟩,by simp [intOf]⟩
   | exact⟨⟨3,by omega,rfl,rfl⟩,by simp [intOf]⟩
   | exact⟨⟨4,by omega,rfl,rfl⟩,by simp [intOf]⟩
   | exact⟨⟨5,by omega,rfl,rfl⟩,by simp [intOf]⟩
   | exact⟨⟨6,by omega,rfl,rfl⟩,by simp [intOf]⟩
theorem yX (X:Int)(w:World):Calls Tryz.prog 152 #[.int .u8 X] w (vC w):=by
 go_enter Tryz.func152,Tryz.ntmps152
 by_cases h1:X=32
 ·go_wp2
  go_ret;exact⟨_,rfl,rfl⟩
 have a0: (X==32)=false:=by simpa using h1
 by_cases h2:X=9
 ·go_wp2
  go_ret;exact⟨_,rfl,rfl⟩
 have a1: (X==9)=false:=by simpa using h2
 by_cases h3:X=10
 ·go_wp2
  go_ret;exact⟨_,rfl,rfl⟩
 have a2: (X==10)=false:=by simpa using h3
 go_wp2;go_ret;exact⟨_,rfl,rfl⟩
theorem mU (X:Int)(w:World):Calls Tryz.prog 154 #[.int .u8 X] w (vC w):=by
 go_enter Tryz.func154,Tryz.ntmps154
 by_cases h1:97<=X <;> by_cases h2:X<=122 <;> by_cases h3:65<=X <;> by_cases h4:X<=90
 all_goals first
  | omega
  | (go_wp2
     go_ret;exact⟨_,rfl,rfl⟩)
theorem vI (s:ByteArray)(w:World):Calls Tryz.prog 155 #[.string s] w (GM s w):=by
 by_cases hs:s.toList = []
 ·have h1: (s.toList == [110,117,108,108])=false:=by rw [hs];rfl
  have h2: (s.toList == [116,114,117,101])=false:=by rw [hs];rfl
  have h3: (s.toList == [102,97,108,115,101])=false:=by rw [hs];rfl
  clear hs;go_enter Tryz.func155,Tryz.ntmps155;go_wp2
  all_goals
   go_ret;exact⟨_,rfl,rfl,fun h=>by simp_all⟩
 ·have H:=Qa (show 0<s.size from by
   rcases Nat.eq_zero_or_pos s.size with h | h
   ·exact absurd (by
     have e:s=ByteArray.empty:=ByteArray.size_eq_zero_iff.1 h;rw [e];exact(ByteArray.toList_eq _).trans rfl) hs
   ·exact h)
  clear hs;go_enter Tryz.func155,Tryz.ntmps155;go_wp2
  all_goals
   go_ret;exact⟨_,rfl,rfl,fun _=>H.out⟩
def EL (w:World)(n:Nat)(s5 s6:Value)(wr:World):Prop:=
 (s5 = .slice none 0 0/\s6 = .int .i64 0/\w=wr)\/(n=1/\∃g' b x s c,s5 = .slice (some ⟨g',0,none⟩) 1 c/\s6 = .int .i64 1/\Below w.heap.size w wr/\wr.cell? ⟨g',0,none⟩=some (.bool b)/\wr.cell? ⟨g',1,none⟩=some (.int .i64 x)/\wr.cell? ⟨g',2,none⟩=some (.string s))
theorem oB (c hh l:Int)(v:Value)(by_:Int)(w:World)(hv:Wr w v):Calls Tryz.prog 157 #[dE c hh l v, .int .i64 by_] w (tj w c):=by
 unfold dE;obtain⟨A,n,q,rfl, -⟩:=hv.slice;have Hv:=Qa hv;have b0:Below w.heap.size w ((w.alloc (.cells #[.int .i64 c, .int .i64 hh, .int .i64 l, .slice A n q] 70)).alloc (.cells #[.int .i64 0, .int .i64 0, .int .i64 0, .slice none 0 0] 70)):=((Zd w.heap.size w).alloc (Za _) _).alloc (by simp) _;have a5:=av w [.int .i64 c, .int .i64 hh, .int .i64 l, .slice A n q] 70;have a9:=Ze (w.alloc (.cells #[.int .i64 c, .int .i64 hh, .int .i64 l, .slice A n q] 70)) (.cells #[.int .i64 0, .int .i64 0, .int .i64 0, .slice none 0 0] 70);rw [World.size_alloc] at a9;have a4:=ac (w.alloc (.cells #[.int .i64 c, .int .i64 hh, .int .i64 l, .slice A n q] 70)) (.cells #[.int .i64 0, .int .i64 0, .int .i64 0, .slice none 0 0] 70);have c0:=Zf a4 (a5 0 _ rfl);have c1:=Zf a4 (a5 1 _ rfl);have c2:=Zf a4 (a5 2 _ rfl);have c3:=Zf a4 (a5 3 _ rfl);have a0:=Qa b0;have a6:=Qa a9;have Hc:=Qa (And.intro c0 (And.intro c1 (And.intro c2 c3)));clear b0 a5 a9 a4 hv c0 c1 c2 c3;go_enter Tryz.func157,Tryz.ntmps157;go_wp2_with fail;generalize ((w.alloc (.cells #[.int .i64 c, .int .i64 hh, .int .i64 l, .slice A n q] 70)).alloc (.cells #[.int .i64 0, .int .i64 0, .int .i64 0, .slice none 0 0] 70))=w0 at *
 go_loopw [5,6] (EL w0 n) (fun _ i _=>1 - (intOf i).toNat)
 case atStart=>exact .inl ⟨rfl,rfl,rfl⟩
 case round=>
  rcases hrel with ⟨rfl,rfl,rfl⟩ | ⟨rfl,g',b,x,s,q',rfl,rfl,a2,k0,k1,k2⟩
  ·have hcc:=Hc.out
   rcases Hv.out with e | ⟨g,q',b,p,s,e,h1,h2,h3⟩
   ·injection e with e1 e2 e3
    subst e1;subst e2;subst e3;obtain⟨c0,c1,c2,c3⟩:=hcc;go_wp2_with (refine wpList_store_rowTo rfl 70 (.tmp 4) (.tmp 38) rfl rfl (w.heap.size+1) #[.int .i64 c, .int .i64 hh, .int .i64 l, .slice none 0 0] (by simp [Act.eval]) (by simp [Act.eval]) 70 _ a6.out ao rfl (az c hh l rfl) ?_);exact Zg (results_cell_row Tryz.results157 _ _ (w.heap.size+1) 70 _ (0,0) _ (by simp) (setRow_heap _ _ _ _ _ _ a6.out) Tryz.underlying70 rfl ao) rfl ⟨_,rfl,⟨hh,l,_,rfl, .inl rfl⟩,a0.out.grown (ah _ _ _) a0.out.size (fun g e=>by cases e;omega)⟩
   ·injection e with e1 e2 e3
    subst e1;subst e2;subst e3;obtain⟨c0,c1,c2,c3⟩:=hcc;have h1:=Zf a0.out h1;have h2:=Zf a0.out h2;have h3:=Zf a0.out h3;go_wp2_with fail;generalize hZ: (#[Value.bool b,Value.int IntKind.i64 (wrap64 (p+by_)),Value.string s]++Builtin.zeroCells #[Value.bool false,Value.int IntKind.i64 0,Value.string {data:= #[]}] ((Question.appendCap 1 0 302).cut (w0.tape w0.drawn (Question.appendCap 1 0 302)) - 1))=Z;generalize hW: (w0.alloc (.cells #[.bool b, .int .i64 (wrap64 (p+by_)), .string s] 302)).alloc (.cells #[.bool b, .int .i64 (wrap64 (p+by_)), .string s] 302)=W;have b3:W.heap.size=w0.heap.size+1+1:=by rw [<- hW];simp
    have b2:Below w0.heap.size w0 W:=by rw [<- hW];exact(ac w0 _).alloc (by simp) _
    have hn:=Ze W (.cells Z 302);rw [b3] at hn;have z0:Z[0]?=some (.bool b):=by rw [<- hZ];simp [Array.getElem?_append]
    have z1:Z[1]?=some (.int .i64 (wrap64 (p+by_))):=by rw [<- hZ];simp [Array.getElem?_append]
    have z2:Z[2]?=some (.string s):=by rw [<- hZ];simp [Array.getElem?_append]
    have a7:∀j u,Z[j]?=some u->((W.alloc (.cells Z 302)).drew).cell? ⟨w0.heap.size+1+1,j,none⟩=some u:=by
     intro j u hu
     show(W.alloc (.cells Z 302)).cell? ⟨w0.heap.size+1+1,j,none⟩=some u
     unfold World.cell?;simp only [hn];simpa using hu
    exact⟨.inr ⟨rfl,_,b,_,s,_,rfl,rfl,(b2.alloc b2.size _).drew,a7 0 _ z0,a7 1 _ z1,a7 2 _ z2⟩,by simp [intOf]⟩
  ·obtain⟨c0,c1,c2,c3⟩:=Hc.out
   have c0:=Zf a2 c0;have c1:=Zf a2 c1;have c2:=Zf a2 c2;have c3:=Zf a2 c3;have a1:=Qa ((a2.block _ (ae a6.out)).trans a6.out);have b1:=Qa (a0.out.trans (a2.mono a0.out.size));have hu:dT wr c (dE c hh l (.slice (some ⟨g',0,none⟩) 1 q')):=⟨hh,l,_,rfl, .inr ⟨g',q',b,x,s,rfl,k0,k1,k2⟩⟩;obtain⟨fh,fl,fA,fq,fr,a3,h1,h2⟩:=aB hu a1.out;injection a3 with a3
   obtain⟨rfl,rfl,a3⟩:hh=fh/\l=fl/\Value.slice (some ⟨g',0,none⟩) 1 q'=Value.slice fA fq fr:=by simpa using a3
   obtain⟨rfl,rfl,rfl⟩:some ⟨g',0,none⟩=fA/\1=fq/\q'=fr:=by simpa using a3
   have H2:=Qa h2;clear h1 h2 hu a3 k0 k1 k2 a2;go_wp2_with (refine wpList_store_rowTo rfl 70 (.tmp 4) (.tmp 38) rfl rfl (w.heap.size+1) #[.int .i64 c, .int .i64 hh, .int .i64 l, .slice (some ⟨g',0,none⟩) 1 q'] (by simp [Act.eval]) (by simp [Act.eval]) 70 _ a1.out ao rfl (az c hh l rfl) ?_);exact Zg (results_cell_row Tryz.results157 _ _ (w.heap.size+1) 70 _ (0,0) _ (by simp) (setRow_heap _ _ _ _ _ _ a1.out) Tryz.underlying70 rfl ao) rfl ⟨_,rfl,H2.out,b1.out.grown (ah _ _ _) b1.out.size (fun g e=>by cases e;omega)⟩
