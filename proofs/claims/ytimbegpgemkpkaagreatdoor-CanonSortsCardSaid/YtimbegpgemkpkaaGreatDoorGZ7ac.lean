import Derived.Test.YtimbegpgemkpkaaGreatDoorGZ7ab
set_option linter.unusedVariables false
set_option linter.unusedSimpArgs false
set_option maxHeartbeats 64000000
set_option maxRecDepth 100000
namespace Go.Proofs.YtimbegpgemkpkaaGreatDoor
open Go.Proofs.Tryz
open Go.RowKit
variable {D D0 cs old:Array Value}{c0 c4:Int}{j:JV}{ts:List JV}{xs:Na}{us us' vs:Nb}{B at4 at_ base bf g k1 k2 k4 n q rb:Nat}{F G:Nat->Prop}{A A':OA}{e:TypeId}{u v y1 y2 y3:Value}{W W' W2 w w' w0 w1 w2:Wd}
structure Tk where
 kind:Int
 at_:Int
 mark:Int
 str:Nc
 num:Dc
def ly (t:Tk):Value:=.agg #[(t.kind:Int),(t.at_:Int),.int .u8 t.mark,t.str,.bool t.num.neg,t.num.digits,(t.num.exp:Int)]
def Ga:Tk:=⟨0,0,0,es,⟨false,es,0⟩⟩
theorem dD:(prog.info? 201).map (·.size)=some 7:=by kernel_rfl
theorem fS (a b c:Int)(s:Nc)(n:Bool)(d:Nc)(x:Int):(#[(a:Int),(b:Int),.int .u8 c,s,.bool n,d,(x:Int)]:Array Value).all (·.oneCell')=true:=by simp[Value.oneCell']
theorem cL {fn:Func}{p m q:Tmp}(h:fn.results = #[.cell p 201,.tmp m,.cell q 66])(tmps:Array Value)(w:Wd)(g1 g:Nat)(t1 t:TypeId)(d0 d1 d2 d3 d4 d5 d6 c0 c1 c2 c3:Value)(fr1 fr:Nat×Nat)
  (a1:tmps.getD p undef =.pointer (some (nl g1))) (a3:w.heap[g1]?=some (.cells #[d0,d1,d2,d3,d4,d5,d6] t1 fr1))
  (hp:tmps.getD q undef =.pointer (some (nl g))) (hg:w.heap[g]?=some (.cells #[c0,c1,c2,c3] t fr)) :
  (results fn tmps).run prog w =.ok (.tuple #[.agg #[d0,d1,d2,d3,d4,d5,d6],tmps.getD m undef,.agg #[c0,c1,c2,c3]]) w:=by
 have a0:tmps[p]?.getD undef =.pointer (some (nl g1)):=by simpa using a1
 have a2:tmps[q]?.getD undef =.pointer (some (nl g)):=by simpa using hp
 have a4:=run_loadVar_row (P:=prog) w g1 t1 201 #[d0,d1,d2,d3,d4,d5,d6] fr1 _ a3 underlying201 rfl (by kernel_rfl);have hl:=run_loadVar_row (P:=prog) w g t 66 #[c0,c1,c2,c3] fr _ hg underlying66 rfl bB;simp[results,h,a0,a2,asAddr,a4,hl]
theorem gC {k:Int}{bd:Nat}{T:TypeId}(hu:d8 w k u)(hd:w.heap[bd]?=some (.cells D0 T (0,0)))(hD:∀b:Bool,D0[0]?≠some (.bool b))(hlt:bd<bf)(hf:w.heap[bf]?=some (.cells #[(c0:Int),y1,y2,y3] 66 (0,0)))(a4:w0.heap.size<=bd)(a5:w0.heap.size<=bf)(hb:ge w0 w) :
  ∃h l A q r,u =.agg #[(k:Int),(h:Int),(l:Int),.slice A q r]/\(w.setRow bd D).heap[bf]?=some (.cells #[(c0:Int),y1,y2,y3] 66 (0,0))/\((w.setRow bd D).setRow bf #[(k:Int),(h:Int),(l:Int),.slice A q r]).heap[bd]?=some (.cells D T (0,0))/\
   ((w.setRow bd D).setRow bf #[(k:Int),(h:Int),(l:Int),.slice A q r]).heap[bf]?=some (.cells #[(k:Int),(h:Int),(l:Int),.slice A q r] 66 (0,0))/\
   d8 ((w.setRow bd D).setRow bf #[(k:Int),(h:Int),(l:Int),.slice A q r]) k u/\ge w0 ((w.setRow bd D).setRow bf #[(k:Int),(h:Int),(l:Int),.slice A q r]):=by
 have hne:bd≠bf:=Nat.ne_of_lt hlt;have a3:d8 (w.setRow bd D) k u:=by
  obtain⟨h,l,s,rfl,hs⟩:=hu;refine⟨h,l,s,rfl,?_⟩;rcases hs with e|⟨g,c',b',p,s',e,h1,h2,h3⟩
  .exact .inl e
  .have hne:some g≠some bd:=fun e'=>by
    injection e' with e';subst e'
    have a1:=h1;unfold World.cell? at a1;simp only[hd] at a1;exact hD b' (by simpa using a1)
   exact .inr ⟨g,c',b',p,s',e,(aj w _ _).cell h1 hne,(aj w _ _).cell h2 hne,(aj w _ _).cell h3 hne⟩
 have a0:(w.setRow bd D).heap[bf]?=some (.cells #[(c0:Int),y1,y2,y3] 66 (0,0)):=(setRow_other w bd bf D (Ne.symm hne)).trans hf;obtain⟨h,l,A,q,r,e,h1,h2⟩:=bV a3 a0;refine⟨h,l,A,q,r,e,a0,?_,setRow_heap _ _ _ _ _ _ a0,h2,?_⟩
 .exact(setRow_other _ bf bd _ hne).trans (setRow_heap _ _ _ _ _ _ hd)
 .have a2:ge w0 (w.setRow bd D):=hb.grown (aj ..) hb.size (fun g e=>by cases e;exact a4);exact a2.grown (aj ..) a2.size (fun g e=>by cases e;exact a5)
def S4 (fb:Nat)(w:Wd):Prop:=w.cell? (nl fb)=some (.int .i64 0)/\w.cell? (no fb 1)=some (.int .i64 0)/\w.cell? (no fb 2)=some (.int .i64 0)/\w.cell? (no fb 3)=some (.slice none 0 0)
theorem ff {b r:Nat}(h:w.cell? (no b n)=some v)(hg:w.grownBy w' (some r))(hr:b≠r):w'.cell? (no b n)=some v:=hg.cell h fun e=>by injection e with e;exact hr e
theorem S4.keep {fb r:Nat}(h:S4 fb w)(hg:w.grownBy w' (some r))(hr:fb≠r):S4 fb w':=by
 exact⟨ff h.1 hg hr,ff h.2.1 hg hr,ff h.2.2.1 hg hr,ff h.2.2.2 hg hr⟩
theorem jO {bd:Nat}{T:TypeId}{S:Wd->Prop}(hd:w.heap[bd]?=some (.cells D0 T (0,0)))(hD:∀b:Bool,D0[0]?≠some (.bool b))(hlt:bd<bf)(hf:w.heap[bf]?=some (.cells #[(c0:Int),y1,y2,y3] 66 (0,0)))(a2:w0.heap.size<=bd)(a1:w0.heap.size<=bf)(hb:ge w0 w)
  (hS:S w) (hk:∀ (w1 w2:Wd) (r:Nat),w1.grownBy w2 (some r)->r=bd\/r=bf->S w1->S w2) :
  Hid ((w.setRow bd D).heap[bf]?=some (.cells #[(c0:Int),y1,y2,y3] 66 (0,0)))/\Hid (((w.setRow bd D).setRow bf #[(0:Int),(0:Int),(0:Int),()]).heap[bd]?=some (.cells D T (0,0)))/\
   Hid (((w.setRow bd D).setRow bf #[(0:Int),(0:Int),(0:Int),()]).heap[bf]?=some (.cells #[(0:Int),(0:Int),(0:Int),()] 66 (0,0)))/\
   Hid (d8 ((w.setRow bd D).setRow bf #[(0:Int),(0:Int),(0:Int),()]) 0 (dV 0 0 0 ()))/\Hid (ge w0 ((w.setRow bd D).setRow bf #[(0:Int),(0:Int),(0:Int),()]))/\Hid (S (w.setRow bd D))/\Hid (S ((w.setRow bd D).setRow bf #[(0:Int),(0:Int),(0:Int),()])):=by
 obtain⟨gh,gl',gA,gq,gr,a0,h3,h4,h5,h1,h2⟩:=gC (D:=D) (show d8 w 0 (dV 0 0 0 ()) from⟨0,0,_,rfl,.inl rfl⟩) hd hD hlt hf a2 a1 hb;injection a0 with a0
 obtain⟨rfl,rfl,a0⟩:0=gh/\0=gl'/\Value.slice none 0 0=Value.slice gA gq gr:=by simpa using a0
 obtain⟨rfl,rfl,rfl⟩:none=gA/\0=gq/\0=gr:=by simpa using a0
 have s1:=hk _ _ _ (aj w bd D) (.inl rfl) hS;exact⟨h3,h4,h5,h1,h2,s1,hk _ _ _ (aj ..) (.inr rfl) s1⟩
theorem gD (n:Nat):es.size<=n:=Zc (Nat.le_of_eq (rfl:es.size=0)) (Zk _)
def Ei (len at_:Nat)(w:Wd)(e:Ending)(w':Wd):Prop:= ∃ (t:Tk) (n:Nat) (c:Int) (u:Value),e =.returned (.tuple #[ly t,(n:Int),u])/\d8 w' c u/\ge w w'/\
 at_+n<=len/\t.str.size<=len/\t.num.digits.size<=len+1/\(c=0->(t.kind≠5->1<=n)/\(t.kind=4->gG t.str.data.toList)/\(t.kind=3->kt t.num))
def l9 (at_ len:Nat)(w:Wd)(s8:Value)(wr:Wd):Prop:= ∃k:Nat,at_<=k/\k<=len/\s8 =(k:Int)/\w=wr
theorem iI (hb:Bs w v xs)(hl:xs.length<=900000)(hat:at_<=xs.length):Calls prog 143 #[v,(at_:Int)] w (Ei xs.length at_ w):=by
 obtain⟨hm,A,cap,rfl,g8,c4⟩:=id hb;have e8:=Zf w (.cells #[(0:Int),(0:Int),.int .u8 0,es,false,es,(0:Int)] 201);have e5:=Zf (w.alloc (.cells #[(0:Int),(0:Int),.int .u8 0,es,false,es,(0:Int)] 201)) (.cells #[(0:Int),(0:Int),(0:Int),()] 66);rw[World.size_alloc] at e5;have f9:ge w ((w.alloc (.cells #[(0:Int),(0:Int),.int .u8 0,es,false,es,(0:Int)] 201)).alloc (.cells #[(0:Int),(0:Int),(0:Int),()] 66)):=((Ze _ _).alloc (Zb _) _).alloc (by simp) _;have d1:((w.alloc (.cells #[(0:Int),(0:Int),.int .u8 0,es,false,es,(0:Int)] 201)).alloc (.cells #[(0:Int),(0:Int),(0:Int),()] 66)).heap[w.heap.size]?=some (.cells #[(0:Int),(0:Int),.int .u8 0,es,false,es,(0:Int)] 201 (0,0)):=(Below.heap_alloc _ _ _ (by simp)).trans e8;have f8:=Qa d1;have e0:=Qa e5;have f3:=Qa f9;have f5:=Qa hb;have c3:=Qa c4;clear e8 d1 e5 f9 hb c4;go_in;go_wp2_with fail;generalize (w.alloc (.cells #[(0:Int),(0:Int),.int .u8 0,es,false,es,(0:Int)] 201)).alloc (.cells #[(0:Int),(0:Int),(0:Int),()] 66)=w0 at *;refine(fI 0 w0).mono ?_;rintro e w1 ⟨rfl,d9⟩;rw[show dV 0 0 0 () =.agg #[(0:Int),(0:Int),(0:Int),()] from rfl];have b8:=aa w1 (.cells #[(0:Int),(0:Int),(0:Int),()] 66);have b0:=au w1 [(0:Int),(0:Int),(0:Int),()] 66;have a0:=x7 (b0 0 _ rfl) (b0 1 _ rfl) (b0 2 _ rfl) (b0 3 _ rfl);have c0:=d9.trans (b8.mono d9.size);have b1:=Qa (f3.trans (c0.mono f3.size));have b4:=Qa ((c0.block _ (ah f8)).trans f8.out);have b5:=Qa ((c0.block _ (ah e0)).trans e0.out);have g5:w.heap.size+1<w1.heap.size:=Nat.lt_of_lt_of_le (ah e0) d9.size;clear b0 b8 d9 c0;go_upto_block 0 with fail
 have d2:=Qa (show w1.heap.size< (w1.alloc (.cells #[(0:Int),(0:Int),(0:Int),()] 66)).heap.size by simp);generalize (w1.alloc (.cells #[(0:Int),(0:Int),(0:Int),()] 66))=w2 at *;generalize w1.heap.size=fb at *;go_cut [8] (fun s8 wx=>l9 at_ xs.length w2 s8 wx)
 case first=>
  go_wp2_with fail
  go_loopw [8] (l9 at_ xs.length w2) (fun i _=>xs.length - (intOf i).toNat)
  case atStart=>exact⟨at_,by omega,hat,rfl,rfl⟩
  case round=>
   obtain⟨k,hk1,hk2,rfl,rfl⟩:=hrel
   by_cases hlt:k<xs.length
   case neg=>
    have hki:¬ (k:Int)<xs.length:=by omega
    go_wp2_with fail;go_meet
    case rel=>exact⟨k,hk1,hk2,rfl,rfl⟩
   have hki:(k:Int)<xs.length:=by omega
   obtain⟨b,o,rfl,c9⟩:=c3 (by omega);have ck:=Zg b1.out (c9 k hlt);clear c9;go_wp2_with fail;refine(C9 _ w2).mono ?_;rintro e w' ⟨t,rfl,rfl⟩
   cases t
   .go_wp2_with fail;go_meet
    case rel=>exact⟨k,hk1,hk2,rfl,rfl⟩
   .go_wp2_with fail;exact⟨⟨k+1,by omega,by omega,by go_num,rfl⟩,by simp[intOf];omega⟩
 case rest=>
  obtain⟨k,hk1,hk2,rfl,rfl⟩:=hcut;have n1:=y9 ((k:Int) - at_)
  by_cases hlt:k<xs.length
  case neg=>
   obtain rfl:k=xs.length:=by omega
   go_wp2_with fail;obtain⟨H3,H4,H5,H1,H2,b3,b2⟩:=jO (w:=w2.drew) (S:=S4 fb) (D:= #[.int .i64 5,.int .i64 xs.length,.int .u8 0,.string es,.bool false,.string es,.int .i64 0]) b4.out (fun _ e=>by simp at e) (by omega) b5.out (Zb _) (by omega) (b1.drew) a0.out (fun _ _ r hg hr h=>h.keep hg (by omega));refine aI (fun w'=>w'.cell? (nl fb)=some (.int .i64 0)/\w'.cell? (no fb 1)=some (.int .i64 0)/\w'.cell? (no fb 2)=some (.int .i64 0)/\w'.cell? (no fb 3)=some (.slice none 0 0)) (a0.out) fun a5=>?_
   refine bw 0 1 2 a5 ?_;refine bw 3 4 5 a5 ?_;refine rH 6 fun K hK=>?_
   refine bZ b4.out ?_;refine hK _ _ (b3.out) (fun a5=>?_);clear hK K
   try simp only[Act.put,jP,jQ,jR]
   refine tH 7 a5 ?_;refine rH 8 fun K hK=>?_
   refine bZ H3.out ?_;refine hK _ _ (b2.out) (fun a5=>?_);clear hK K
   try simp only[Act.put,jP,jQ,jR]
   refine y5 ?_;go_wp2_with fail;have h4:=H4.out;have h5:=H5.out;exact Zh (cL results143 _ _ _ _ _ _ _ _ _ _ _ _ _ _ _ _ _ (0,0) (0,0) rfl h4 rfl h5) rfl ⟨⟨5,xs.length,0,es,⟨false,es,0⟩⟩,xs.length - at_,0,_,by rw[show((xs.length - at_:Nat):Int)= (xs.length:Int) - at_ from by omega];rfl,H1.out,H2.out,by omega,gD _,gD _,fun _=>⟨fun h=>absurd rfl h,fun h=>absurd h (show ¬ (5:Int)=4 by decide),fun h=>absurd h (show ¬ (5:Int)=3 by decide)⟩⟩
  have hki:(k:Int)<xs.length:=by omega
  obtain⟨b,o,rfl,c9⟩:=c3 (by omega);have ck:=Zg b1.out (c9 k hlt);obtain⟨X,hX,h9,h8⟩:∃X:Int,(ar xs k:Int)=X/\0<=X/\X<256:=⟨_,rfl,by omega,by have:=aO xs k;omega⟩;rw[hX] at ck;have g7:=Qa c9;clear hX c9;have n2:=y9 ((k:Int) - at_+1);have hne:((k:Int)==xs.length)=false:=by simp;omega
  go_wp2_with fail;refine(Al X w2).mono ?_;rintro e w' ⟨t,rfl,rfl⟩
  cases t
  case true=>
   go_wp2_with fail;obtain⟨H3,H4,H5,H1,H2,b3,b2⟩:=jO (w:=w2.drew) (S:=S4 fb) (D:= #[.int .i64 1,.int .i64 k,.int .u8 X,.string es,.bool false,.string es,.int .i64 0]) b4.out (fun _ e=>by simp at e) (by omega) b5.out (Zb _) (by omega) (b1.drew) a0.out (fun _ _ r hg hr h=>h.keep hg (by omega));refine aI (fun w'=>w'.cell? (nl fb)=some (.int .i64 0)/\w'.cell? (no fb 1)=some (.int .i64 0)/\w'.cell? (no fb 2)=some (.int .i64 0)/\w'.cell? (no fb 3)=some (.slice none 0 0)) (a0.out) fun a5=>?_
   refine bw 0 1 2 a5 ?_;refine bw 3 4 5 a5 ?_;refine tH 6 a5 ?_;refine tH 7 a5 ?_;refine rH 8 fun K hK=>?_
   refine bZ b4.out ?_;refine hK _ _ (b3.out) (fun a5=>?_);clear hK K
   try simp only[Act.put,jP,jQ,jR]
   refine tH 9 a5 ?_;refine rH 10 fun K hK=>?_
   refine bZ H3.out ?_;refine hK _ _ (b2.out) (fun a5=>?_);clear hK K
   try simp only[Act.put,jP,jQ,jR]
   refine y5 ?_;go_wp2_with fail;have h4:=H4.out;have h5:=H5.out;exact Zh (cL results143 _ _ _ _ _ _ _ _ _ _ _ _ _ _ _ _ _ (0,0) (0,0) rfl h4 rfl h5) rfl ⟨⟨1,k,X,es,⟨false,es,0⟩⟩,k - at_+1,0,_,by rw[show((k - at_+1:Nat):Int)= (k:Int) - at_+1 from by omega];rfl,H1.out,H2.out,by omega,gD _,gD _,fun _=>⟨fun _=>by omega,fun h=>absurd h (show ¬ (1:Int)=4 by decide),fun h=>absurd h (show ¬ (1:Int)=3 by decide)⟩⟩
  go_wp2_with fail;refine(o6 X w2).mono ?_;rintro e w' ⟨t,rfl,rfl⟩
  cases t
  case true=>
   go_upto_block 3 with fail
   go_cut [10] (fun s8 wx=>l9 k xs.length w2 s8 wx)
   case first=>
    go_wp2_with fail
    go_loopw [10] (l9 k xs.length w2) (fun i _=>xs.length - (intOf i).toNat)
    case atStart=>exact⟨k,by omega,by omega,rfl,rfl⟩
    case round=>
     obtain⟨q,hq1,hq2,rfl,rfl⟩:=hrel
     by_cases hlq:q<xs.length
     case neg=>
      have g0:¬ (q:Int)<xs.length:=by omega
      go_wp2_with fail;go_meet
      case rel=>exact⟨q,hq1,hq2,rfl,rfl⟩
     have g0:(q:Int)<xs.length:=by omega
     have cq:=Zg b1.out (g7 q hlq);go_wp2_with fail;refine(o6 _ w2).mono ?_;rintro e w' ⟨t,rfl,rfl⟩
     cases t
     .go_wp2_with fail;go_meet
      case rel=>exact⟨q,hq1,hq2,rfl,rfl⟩
     .go_wp2_with fail;exact⟨⟨q+1,by omega,by omega,by go_num,rfl⟩,by simp[intOf];omega⟩
   case rest=>
    obtain⟨q,hq1,hq2,rfl,rfl⟩:=hcut;have f1:=((f5.cut hk2).upto (k:=q - k) (by simp;omega)).below b1.out;have i0:=a8 f1;have z1:(k:Int)<=q:=by omega
    have z2:(q:Int)<=cap:=by omega
    have z3:k<=q:=hq1;have z4:q<=cap:=by omega
    clear f1;have f2:((xs.drop k).take (q - k)).length<=xs.length:=by simp;omega
    have g3:=Qa f2;have e2:=Qa (show((xs.drop k).take (q - k)).length<=q - k by simp;omega);clear f2;generalize ((xs.drop k).take (q - k))=ys at *;have n3:=y9 ((q:Int) - at_);go_wp2_with fail;refine(zj ⟨ys.toArray⟩ w2).mono ?_;rintro e w' ⟨t,rfl,rfl,f6⟩;have e3:=Qa f6;clear f6
    cases t
    case true=>
     have g2:=Qa (show 0<ys.length from by have h:0<ys.toArray.size:=e3 rfl;simpa using h);go_wp2_with fail;obtain⟨H3,H4,H5,H1,H2,b3,b2⟩:=jO (w:=w2.drew) (S:=S4 fb) (D:= #[.int .i64 2,.int .i64 k,.int .u8 0,.string ⟨ys.toArray⟩,.bool false,.string es,.int .i64 0]) b4.out (fun _ e=>by simp at e) (by omega) b5.out (Zb _) (by omega) (b1.drew) a0.out (fun _ _ r hg hr h=>h.keep hg (by omega));refine aI (fun w'=>w'.cell? (nl fb)=some (.int .i64 0)/\w'.cell? (no fb 1)=some (.int .i64 0)/\w'.cell? (no fb 2)=some (.int .i64 0)/\w'.cell? (no fb 3)=some (.slice none 0 0)) (a0.out) fun a5=>?_
     refine bw 0 1 2 a5 ?_;refine bw 3 4 5 a5 ?_;refine tH 6 a5 ?_;refine rH 7 fun K hK=>?_
     refine bZ b4.out ?_;refine hK _ _ (b3.out) (fun a5=>?_);clear hK K
     try simp only[Act.put,jP,jQ,jR]
     refine tH 8 a5 ?_;refine rH 9 fun K hK=>?_
     refine bZ H3.out ?_;refine hK _ _ (b2.out) (fun a5=>?_);clear hK K
     try simp only[Act.put,jP,jQ,jR]
     refine y5 ?_;go_wp2_with fail;have h4:=H4.out;have h5:=H5.out;exact Zh (cL results143 _ _ _ _ _ _ _ _ _ _ _ _ _ _ _ _ _ (0,0) (0,0) rfl h4 rfl h5) rfl ⟨⟨2,k,0,⟨ys.toArray⟩,⟨false,es,0⟩⟩,q - at_,0,_,by rw[show((q - at_:Nat):Int)= (q:Int) - at_ from by omega];rfl,H1.out,H2.out,by omega,by have:=g3.out;show ys.toArray.size<=_;simp;omega,gD _,fun _=>⟨fun _=>by have:=g2.out;have:=e2.out;omega,fun h=>absurd h (show ¬ (2:Int)=4 by decide),fun h=>absurd h (show ¬ (2:Int)=3 by decide)⟩⟩
    go_wp2_with fail;refine(cV 110 k w2).mono ?_;rintro e wz ⟨u,rfl,hu,a9⟩;have b6:=Qa ((a9.block _ (ah b4)).trans b4.out);have c8:=Qa ((a9.block _ (ah b5)).trans b5.out);obtain⟨fh,fl,fA,fq,fr,rfl,h3,h4,h5,h1,h2⟩:=gC (D:= #[.int .i64 0,.int .i64 0,.int .u8 0,.string es,.bool false,.string es,.int .i64 0]) hu b6.out (fun _ e=>by simp at e) (by omega) c8.out (Zb _) (by omega) (b1.trans (a9.mono b1.size));have H1:=Qa h1;have H2:=Qa h2;have H3:=Qa h3;have H4:=Qa h4;have H5:=Qa h5;clear h1 h2 h3 h4 h5 hu a9;go_wp2_with (first
     |(refine bQ b6 ?_)
     |(refine bQ H3 ?_))
    have h4:=H4.out;have h5:=H5.out;exact Zh (cL results143 _ _ _ _ _ _ _ _ _ _ _ _ _ _ _ _ _ (0,0) (0,0) rfl h4 rfl h5) rfl ⟨Ga,0,110,_,rfl,H1,H2,by omega,gD _,gD _,fun h=>absurd h (show ¬ (110:Int)=0 by decide)⟩
  have hcut:=(f5.cut hk2).below b1.out;have c1:=Qa hcut;have f4:(xs.drop k).length=xs.length - k:=by simp
  have d7:=Qa f4;have u1:k<=xs.length:=hk2;have u3:¬cap=k:=by omega
  clear hcut f4
  by_cases e34:X=34
  .subst e34;go_wp2_with fail;rw[<-d7.out] at c1 ⊢;refine(xH c1 (by have:=d7.out;omega)).mono ?_;rintro e w3 ⟨s,n,c,u,rfl,⟨fh,fl,fs,rfl,c7⟩,b9,d3⟩;obtain⟨fA,fq,fr,rfl,-⟩:=c7.slice;rw[show dV c fh fl (.slice fA fq fr) =.agg #[(c:Int),(fh:Int),(fl:Int),.slice fA fq fr] from rfl];have b8:=aa w3 (.cells #[(c:Int),(fh:Int),(fl:Int),.slice fA fq fr] 66);have b0:=au w3 [(c:Int),(fh:Int),(fl:Int),.slice fA fq fr] 66;have q0:=b0 0 _ rfl;have q1:=b0 1 _ rfl;have q2:=b0 2 _ rfl;have q3:=b0 3 _ rfl;clear b0;have a4:=b9.trans (b8.mono b9.size);have Hs:=Qa (c7.below b8);have c6:=Qa (b1.trans (a4.mono b1.size));have c2:=Qa ((a4.block _ (ah b4)).trans b4.out);have c5:=Qa ((a4.block _ (ah b5)).trans b5.out);have a7:=x7 (Zg a4 a0.1) (Zg a4 a0.2.1) (Zg a4 a0.2.2.1) (Zg a4 a0.2.2.2);have e7:=Qa d3;have d0:=Qa (Nat.lt_of_lt_of_le (ah b5) b9.size);clear b8 b9 a4 c7 d3
   by_cases hc:c=0
   case neg=>
    have g4:(c !=0)=true:=by simpa using hc
    have Hc:=Qa hc;clear hc;go_wp2_with fail;generalize (w3.alloc (.cells #[(c:Int),(fh:Int),(fl:Int),.slice fA fq fr] 66))=w4 at *;refine(p9 c fh fl (.slice fA fq fr) k w4 Hs).mono ?_;rintro e wz ⟨u,rfl,hu,a9⟩;have b6:=Qa ((a9.block _ (ah c2)).trans c2.out);have c8:=Qa ((a9.block _ (ah c5)).trans c5.out);obtain⟨fh,fl,fA,fq,fr,rfl,h3,h4,h5,h1,h2⟩:=gC (D:= #[.int .i64 0,.int .i64 0,.int .u8 0,.string es,.bool false,.string es,.int .i64 0]) hu b6.out (fun _ e=>by simp at e) (by omega) c8.out (Zb _) (by omega) (c6.trans (a9.mono c6.size));have H1:=Qa h1;have H2:=Qa h2;have H3:=Qa h3;have H4:=Qa h4;have H5:=Qa h5;clear h1 h2 h3 h4 h5 hu a9;go_wp2_with (first
     |(refine bQ b6 ?_)
     |(refine bQ H3 ?_))
    have h4:=H4.out;have h5:=H5.out;exact Zh (cL results143 _ _ _ _ _ _ _ _ _ _ _ _ _ _ _ _ _ (0,0) (0,0) rfl h4 rfl h5) rfl ⟨Ga,0,c,_,rfl,H1,H2,by omega,gD _,gD _,fun h=>absurd h Hc.out⟩
   subst hc;obtain⟨f0,f7,g9,d4⟩:=e7 rfl;have h6:=Qa f0;have b7:=Qa (show(xs.drop k).length=xs.length - k by simp);have d4:n<=xs.length - k:=by rw[<-b7.out];exact d4
   have f7:s.size<=xs.length:=by have:=b7.out;omega
   have n4:=y9 ((k:Int) - at_+n);clear f0;go_wp2_with fail;generalize (w3.alloc (.cells #[(0:Int),(fh:Int),(fl:Int),.slice fA fq fr] 66))=w4 at *;obtain⟨H3,H4,H5,H1,H2,b3,b2⟩:=jO (w:=w4.drew) (S:=S4 fb) (D:= #[.int .i64 4,.int .i64 k,.int .u8 0,.string s,.bool false,.string es,.int .i64 0]) c2.out (fun _ e=>by simp at e) (by omega) c5.out (Zb _) (by omega) (c6.drew) a7.out (fun _ _ r hg hr h=>h.keep hg (by omega));refine aI (fun w'=>w'.cell? (nl fb)=some (.int .i64 0)/\w'.cell? (no fb 1)=some (.int .i64 0)/\w'.cell? (no fb 2)=some (.int .i64 0)/\w'.cell? (no fb 3)=some (.slice none 0 0)) (a7.out) fun a5=>?_
   refine bw 0 1 2 a5 ?_;refine bw 3 4 5 a5 ?_;refine bw 6 7 8 a5 ?_;refine rH 9 fun K hK=>?_
   refine bZ c2.out ?_;refine hK _ _ (b3.out) (fun a5=>?_);clear hK K
   try simp only[Act.put,jP,jQ,jR]
   refine tH 10 a5 ?_;refine rH 11 fun K hK=>?_
   refine bZ H3.out ?_;refine hK _ _ (b2.out) (fun a5=>?_);clear hK K
   try simp only[Act.put,jP,jQ,jR]
   refine y5 ?_;go_wp2_with fail;have h4:=H4.out;have h5:=H5.out;exact Zh (cL results143 _ _ _ _ _ _ _ _ _ _ _ _ _ _ _ _ _ (0,0) (0,0) rfl h4 rfl h5) rfl ⟨⟨4,k,0,s,⟨false,es,0⟩⟩,k - at_+n,0,_,by rw[show((k - at_+n:Nat):Int)= (k:Int) - at_+n from by omega];rfl,H1.out,H2.out,by omega,f7,gD _,fun _=>⟨fun _=>by omega,fun _=>h6.out,fun h=>absurd h (show ¬ (4:Int)=3 by decide)⟩⟩
  have e34':(X==34)=false:=by simpa using e34
  clear e34;have e6:=Qa (show fb<w2.heap.size from d2.out);go_upto_region 23 with fail
  go_cut [120] (fun s120 wx=>(∃b:Bool,s120 =.bool b)/\w2=wx)
  case first=>
   by_cases a1:X=45
   .go_wp2_with fail;go_meet
    case rel=>exact⟨⟨_,rfl⟩,rfl⟩
   have a1':(X==45)=false:=by simpa using a1
   by_cases a2:48<=X <;> by_cases a3:X<=57 <;> go_wp2_with fail
   all_goals
    go_meet
    case rel=>exact⟨⟨_,rfl⟩,rfl⟩
  case rest=>
   obtain⟨⟨t,rfl⟩,rfl⟩:=hcut
   cases t
   .go_wp2_with fail;refine(cV 110 k w2).mono ?_;rintro e wz ⟨u,rfl,hu,a9⟩;have b6:=Qa ((a9.block _ (ah b4)).trans b4.out);have c8:=Qa ((a9.block _ (ah b5)).trans b5.out);obtain⟨fh,fl,fA,fq,fr,rfl,h3,h4,h5,h1,h2⟩:=gC (D:= #[.int .i64 0,.int .i64 0,.int .u8 0,.string es,.bool false,.string es,.int .i64 0]) hu b6.out (fun _ e=>by simp at e) (by omega) c8.out (Zb _) (by omega) (b1.trans (a9.mono b1.size));have H1:=Qa h1;have H2:=Qa h2;have H3:=Qa h3;have H4:=Qa h4;have H5:=Qa h5;clear h1 h2 h3 h4 h5 hu a9;go_wp2_with (first
     |(refine bQ b6 ?_)
     |(refine bQ H3 ?_))
    have h4:=H4.out;have h5:=H5.out;exact Zh (cL results143 _ _ _ _ _ _ _ _ _ _ _ _ _ _ _ _ _ (0,0) (0,0) rfl h4 rfl h5) rfl ⟨Ga,0,110,_,rfl,H1,H2,by omega,gD _,gD _,fun h=>absurd h (show ¬ (110:Int)=0 by decide)⟩
   .go_wp2_with fail;rw[<-d7.out] at c1 ⊢;refine(yK c1 (by have:=d7.out;omega)).mono ?_;rintro e w3 ⟨d,n,c,u,rfl,⟨fh,fl,fs,rfl,c7⟩,b9,d5,d3⟩;have g6:=Qa d5;have e4:=Qa b9.size;clear d5;obtain⟨fA,fq,fr,rfl,-⟩:=c7.slice;rw[show dV c fh fl (.slice fA fq fr) =.agg #[(c:Int),(fh:Int),(fl:Int),.slice fA fq fr] from rfl];obtain⟨dn,dd,dx⟩:=d;rw[show Df ⟨dn,dd,dx⟩ =.agg #[.bool dn,dd,(dx:Int)] from rfl];have b8:ge w3 ((w3.alloc (.cells #[.bool dn,dd,(dx:Int)] 71)).alloc (.cells #[(c:Int),(fh:Int),(fl:Int),.slice fA fq fr] 66)):=(aa w3 _).alloc (by simp) _;have b0:=au (w3.alloc (.cells #[.bool dn,dd,(dx:Int)] 71)) [(c:Int),(fh:Int),(fl:Int),.slice fA fq fr] 66;have hcd:=au w3 [.bool dn,dd,(dx:Int)] 71;have d6:=aa (w3.alloc (.cells #[.bool dn,dd,(dx:Int)] 71)) (.cells #[(c:Int),(fh:Int),(fl:Int),.slice fA fq fr] 66);rw[World.size_alloc] at b0;have q0:=b0 0 _ rfl;have q1:=b0 1 _ rfl;have q2:=b0 2 _ rfl;have q3:=b0 3 _ rfl;have p0:=Zg d6 (hcd 0 _ rfl);have p1:=Zg d6 (hcd 1 _ rfl);have p2:=Zg d6 (hcd 2 _ rfl);clear b0 hcd d6;have a4:=b9.trans (b8.mono b9.size);have Hs:=Qa (c7.below b8);have c6:=Qa (b1.trans (a4.mono b1.size));have c2:=Qa ((a4.block _ (ah b4)).trans b4.out);have c5:=Qa ((a4.block _ (ah b5)).trans b5.out);have a7:=x7 (Zg a4 a0.1) (Zg a4 a0.2.1) (Zg a4 a0.2.2.1) (Zg a4 a0.2.2.2);have e7:=Qa d3;have d0:=Qa (Nat.lt_of_lt_of_le (ah b5) b9.size);clear b8 b9 a4 c7 d3
    by_cases hc:c=0
    case neg=>
     have g4:(c !=0)=true:=by simpa using hc
     have Hc:=Qa hc;clear hc;go_wp2_with fail;generalize ((w3.alloc (.cells #[.bool dn,dd,(dx:Int)] 71)).alloc (.cells #[(c:Int),(fh:Int),(fl:Int),.slice fA fq fr] 66))=w4 at *;refine(p9 c fh fl (.slice fA fq fr) k w4 Hs).mono ?_;rintro e wz ⟨u,rfl,hu,a9⟩;have b6:=Qa ((a9.block _ (ah c2)).trans c2.out);have c8:=Qa ((a9.block _ (ah c5)).trans c5.out);obtain⟨fh,fl,fA,fq,fr,rfl,h3,h4,h5,h1,h2⟩:=gC (D:= #[.int .i64 0,.int .i64 0,.int .u8 0,.string es,.bool false,.string es,.int .i64 0]) hu b6.out (fun _ e=>by simp at e) (by omega) c8.out (Zb _) (by omega) (c6.trans (a9.mono c6.size));have H1:=Qa h1;have H2:=Qa h2;have H3:=Qa h3;have H4:=Qa h4;have H5:=Qa h5;clear h1 h2 h3 h4 h5 hu a9;go_wp2_with (first
      |(refine bQ b6 ?_)
      |(refine bQ H3 ?_))
     have h4:=H4.out;have h5:=H5.out;exact Zh (cL results143 _ _ _ _ _ _ _ _ _ _ _ _ _ _ _ _ _ (0,0) (0,0) rfl h4 rfl h5) rfl ⟨Ga,0,c,_,rfl,H1,H2,by omega,gD _,gD _,fun h=>absurd h Hc.out⟩
    subst hc;obtain⟨g9,d4,e1⟩:=e7 rfl;have b7:=Qa (show(xs.drop k).length=xs.length - k by simp);have d4:n<=xs.length - k:=by rw[<-b7.out];exact d4
    have d5:dd.size<=xs.length+1:=by have h1:dd.size<=(xs.drop k).length+1:=g6.out;have:=b7.out;omega
    have n4:=y9 ((k:Int) - at_+n);have h0:=d0.out;have h7:fb<w2.heap.size:=e6.out;have g1:w2.heap.size<=w3.heap.size:=e4.out;go_wp2_with fail;generalize ((w3.alloc (.cells #[.bool dn,dd,(dx:Int)] 71)).alloc (.cells #[(0:Int),(fh:Int),(fl:Int),.slice fA fq fr] 66))=w4 at *;generalize w3.heap.size=db at *;have a6:=x7 p0 p1 p2 a7.out;clear p0 p1 p2 q0 q1 q2 q3;obtain⟨H3,H4,H5,H1,H2,b3,b2⟩:=jO (w:=w4.drew) (S:=fun u=>(u.cell? (nl db)=some (.bool dn)/\u.cell? (no db 1)=some (.string dd)/\u.cell? (no db 2)=some (.int .i64 dx))/\S4 fb u) (D:= #[.int .i64 3,.int .i64 k,.int .u8 0,.string es,.bool dn,.string dd,.int .i64 dx]) c2.out (fun _ e=>by simp at e) (by omega) c5.out (Zb _) (by omega) (c6.drew) ⟨⟨a6.1,a6.2.1,a6.2.2.1⟩,a6.2.2.2⟩ (fun _ _ r hg hr h=>⟨⟨ff h.1.1 hg (by omega),ff h.1.2.1 hg (by omega),ff h.1.2.2 hg (by omega)⟩,h.2.keep hg (by omega)⟩);have b3:=x7 b3.1.1 b3.1.2.1 b3.1.2.2 b3.2;have b2:=x7 b2.1.1 b2.1.2.1 b2.1.2.2 b2.2;refine aI (fun w'=>w'.cell? (nl db)=some (.bool dn)/\w'.cell? (no db 1)=some (.string dd)/\w'.cell? (no db 2)=some (.int .i64 dx)/\w'.cell? (nl fb)=some (.int .i64 0)/\w'.cell? (no fb 1)=some (.int .i64 0)/\w'.cell? (no fb 2)=some (.int .i64 0)/\w'.cell? (no fb 3)=some (.slice none 0 0)) (a6.out) fun a5=>?_
    refine bw 0 1 2 a5 ?_;refine bw 3 4 5 a5 ?_;refine bw 6 7 8 a5 ?_;refine rH 9 fun K hK=>?_
    refine bZ c2.out ?_;refine hK _ _ (b3.out) (fun a5=>?_);clear hK K
    try simp only[Act.put,jP,jQ,jR]
    refine tH 10 a5 ?_;refine rH 11 fun K hK=>?_
    refine bZ H3.out ?_;refine hK _ _ (b2.out) (fun a5=>?_);clear hK K
    try simp only[Act.put,jP,jQ,jR]
    refine y5 ?_;go_wp2_with fail;have h4:=H4.out;have h5:=H5.out;exact Zh (cL results143 _ _ _ _ _ _ _ _ _ _ _ _ _ _ _ _ _ (0,0) (0,0) rfl h4 rfl h5) rfl ⟨⟨3,k,0,es,⟨dn,dd,dx⟩⟩,k - at_+n,0,_,by rw[show((k - at_+n:Nat):Int)= (k:Int) - at_+n from by omega];rfl,H1.out,H2.out,by omega,gD _,d5,fun _=>⟨fun _=>by omega,fun h=>absurd h (show ¬ (3:Int)=4 by decide),fun _=>e1⟩⟩
theorem ac {t:TypeId}{z:Nat×Nat}(h:w.heap[g]?=some (.cells cs t z)){j:Nat}(hu:cs[j]?=some u):w.cell? (no g j)=some u:=by
 unfold World.cell?;simp only[h];simpa using hu
theorem ao {t:TypeId}(h:w.heap[g]?=some (.cells cs t (0,0)))(j:Nat):w.frozen? (no g j)=false:=by
 unfold World.frozen?;simp[h]
theorem az {t:TypeId}{z:Nat×Nat}(h:w.heap[g]?=some (.cells cs t z))(j:Nat)(u:Value):(w.setCell (no g j) u).heap[g]?=some (.cells (cs.setIfInBounds j u) t z):=by
 have hlt:=ah h;have h':w.heap[g] =.cells cs t z:=by simpa [Array.getElem?_eq_getElem hlt] using h
 show(w.heap.modify g _)[g]?=_
 rw[Array.getElem?_eq_getElem (by simpa using hlt),Array.getElem_modify_self,h'];rfl
theorem ay (w:Wd)(i j k:Nat)(v:Value)(t:TypeId)(cs:Array Value)(hne:i≠j)(h:w.heap[i]?=some (.cells cs t (0,0))):(w.setCell (no j k) v).heap[i]?=some (.cells cs t (0,0)):=(Below.heap_setCell w _ v i hne).trans h
theorem al {x:Obj}(h:w.heap[g]?=some x)(hb:ge w w'):w'.heap[g]?=some x:=(hb.block _ (ah h)).trans h
theorem aJ {x:Obj}{o:Option Nat}(h:w.heap[g]?=some x)(hg:w.grownBy w' o)(ho:o≠some g):w'.heap[g]?=some x:=(hg.block g (ah h) (fun e=>ho e.symm)).trans h
structure aV (F:Nat->Prop) (w w':Wd):Prop where
 os:w'.os=w.os
 tape:w'.tape=w.tape
 output:w'.output=w.output
 size:w.heap.size<=w'.heap.size
 block:∀k,k<w.heap.size->¬F k->w'.heap[k]?=w.heap[k]?
theorem aV.of_below (h:ge w w'):aV F w w':=⟨h.os,h.tape,h.output,h.size,fun k hk _=>h.block k hk⟩
theorem aV.refl (F:Nat->Prop)(w:Wd):aV F w w:=aV.of_below (Ze _ _)
theorem aV.trans {a b c:Wd}(h:aV F a b)(k:aV G b c)(hg:∀i,G i->F i\/a.heap.size<=i):aV F a c:=
 ⟨k.os.trans h.os,k.tape.trans h.tape,k.output.trans h.output,Zc h.size k.size,fun i hi hf=>(k.block i (Nat.lt_of_lt_of_le hi h.size) (fun hG=>by rcases hg i hG with h1|h1;exact hf h1;omega)).trans (h.block i hi hf)⟩
theorem aV.mono {a b:Wd}(h:aV F a b)(hg:∀i,F i->G i):aV G a b:=⟨h.os,h.tape,h.output,h.size,fun i hi hn=>h.block i hi (fun hf=>hn (hg i hf))⟩
theorem aV.below (h:aV F w w')(hB:B<=w.heap.size)(hf:∀i,F i->B<=i):Below B w w':=⟨h.os,h.tape,h.output,h.size,fun k hk=>h.block k (Nat.lt_of_lt_of_le hk hB) (fun hF=>by have:=hf k hF;omega)⟩
theorem aV.set (g j:Nat)(u:Value):aV (fun k=>k=g) w (w.setCell (no g j) u):=⟨rfl,rfl,rfl,by simp,fun k _ hk=>Below.heap_setCell w _ u k hk⟩
theorem aV.grown {o:Option Nat}(h:w.grownBy w' o):aV (fun k=>o=some k) w w':=⟨h.os,h.tape,h.output,h.size,fun k hk hn=>h.block k hk (fun e=>hn e.symm)⟩
theorem bM {k:Nat}(h:w.ownsRow base e k v n us)(hs:∀b,v.ownBlock=some b->w'.heap[b]?=w.heap[b]?):w'.ownsRow base e k v n us:=by
 obtain⟨h1,⟨rfl,h0⟩|⟨g,cap,cur,rfl,a0,hg,r⟩⟩:=h
 .exact⟨h1,.inl ⟨rfl,h0⟩⟩
 .exact⟨h1,.inr ⟨g,cap,cur,rfl,a0,(hs g rfl).trans hg,r⟩⟩
theorem jI (g o:Nat):∀ (vs:Nb) (i:Nat),storeCells ⟨g,o,none⟩ vs i=storeCells ⟨g,0,none⟩ vs (o+i)
 | [],_=>rfl
 |v::vs,i=>by
  have e:(⟨g,o,none⟩:Addr).add i= (⟨g,0,none⟩:Addr).add (o+i):=by
   unfold Addr.add
   split <;> split <;> simp_all <;> omega
  unfold storeCells;rw[e,jI g o vs (i+1),Nat.add_assoc]
theorem dG {ops:Array Oper}{rest:List Oper}{o:Oper}{a:Act}{Q:Exit->Act->Wd->Prop}(a2:o.guard=none)(ty:TypeId)(x y:Operand)(ho:o.op =.store ty x y)
  (hd:o.dst=none) (g p:Nat) (cells new:Array Value) (hx:a.eval x =.pointer (some (no g p))) (hy:a.eval y =.agg cells)
  (t:TypeId) (old:Array Value) (hg:w.heap[g]?=some (.cells old t (0,0))) (hi:(prog.info? ty).map (·.size)=some cells.size)
  (a0:p+cells.size=old.size) (h1:cells.all (·.oneCell')=true) (hn:(old.toList.take p++cells.toList).toArray=new)
  (h:wpList prog ops Q rest a (w.setRow g new)):wpList prog ops Q (o::rest) a w:=by
 have:=run_storeCells_from (P:=prog) g t cells.toList p old w hg (by simpa using a0) (fun v hv=>(Array.all_eq_true_iff_forall_mem.1 h1) v (by simpa using hv));have e:=jI g p cells.toList 0;rw[Nat.add_zero] at e;rw[<-e,hn] at this;have a1:(storeVar ty ⟨g,p,none⟩ (.agg cells)).run prog w =.ok () (w.setRow g new):=by
  cases hq:prog.info? ty with
  |none=>simp[hq] at hi
  |some i=>
   have hs:cells.size=i.size:=by simp[hq] at hi;omega
   simp[storeVar,sizeOf,typeInfo,hq,Value.cells,hs,this]
 refine wpList_plain a2 fun _ hK=>?_
 unfold Oper.wp execOp;simp only[ho,hx,hy,Instr.storeAt,Instr.sureAddr,Sem.run_bind,Sem.run_pure,Result.andThen_ok,a1];refine hK _ _ ?_;rw[hd];exact h
def TR (t:TypeId):Prop:=t=262\/t=165
def Rk (rb:Nat)(w w':Wd):Prop:=Below rb w w'/\aK TR w w'
theorem Rk.refl (rb:Nat)(w:Wd):Rk rb w w:=⟨Ze _ _,aK.refl _ _⟩
theorem Rk.trans {a b c:Wd}(h:Rk rb a b)(k:Rk rb b c):Rk rb a c:=⟨h.1.trans k.1,h.2.trans k.2⟩
theorem Rk.of_below (h:ge w w')(hr:rb<=w.heap.size):Rk rb w w':=⟨h.mono hr,aK.of_below _ h⟩
theorem Rk.row (h:Rk rb w w'){z:Nat×Nat}(hg:w.heap[g]?=some (.cells cs e z))(he:¬TR e):w'.heap[g]?=some (.cells cs e z):=h.2.2 g cs e z hg he
def fo (bv:Value)(at_:Nat)(L:Fin 6->Int)(m:Fin 4->Int)(ev:Value)(c h l:Int)(s:Value):Array Value:=
 #[bv, .int .i64 at_, .int .i64 (L 0), .int .i64 (L 1), .int .i64 (L 2), .int .i64 (L 3), .int .i64 (L 4), .int .i64 (L 5), .int .i64 (m 0), .int .i64 (m 1), .int .i64 (m 2), .int .i64 (m 3), ev, .int .i64 c, .int .i64 h, .int .i64 l, s]
def Rd (xs:Na)(rb:Nat)(w:Wd)(at_ k:Nat)(c:Int):Prop:= ∃ (bA:OA) (bc:Nat) (eA:OA) (ec:Nat) (sA:OA) (sn sc:Nat) (L:Fin 6->Int) (m:Fin 4->Int) (h l:Int) (us:Nb) (w0:Wd),
 w.heap[rb]?=some (.cells (fo (.slice bA xs.length bc) at_ L m (.slice eA k ec) c h l (.slice sA sn sc)) 165 (0,0))/\Bs w0 (.slice bA xs.length bc) xs/\w0.heap.size<=rb/\Below rb w0 w/\w.ownsRow (rb+1) 262 5 (.slice eA k ec) k us/\at_<=xs.length/\k<=at_
theorem Rd.lt {k:Nat}{c:Int}(h:Rd xs rb w at_ k c):rb<w.heap.size:=by
 obtain⟨_,_,_,_,_,_,_,_,_,_,_,_,_,h,_⟩:=h;exact ah h
theorem Rd.below {k:Nat}{c:Int}(h:Rd xs rb w at_ k c)(hb:ge w w'):Rd xs rb w' at_ k c:=by
 have hlt:=h.lt;obtain⟨a1,a2,a3,a4,a5,a6,a7,L,m,hh,l,us,w0,h1,h2,h3,h4,h5,h6⟩:=h;exact⟨a1,a2,a3,a4,a5,a6,a7,L,m,hh,l,us,w0,(hb.block _ hlt).trans h1,h2,h3,h4.trans (hb.mono (Zj hlt)),aq h5 hb (Zb _),h6⟩
theorem Rk.set {z:Nat×Nat}(h:w.heap[rb]?=some (.cells cs 165 z))(j:Nat)(u:Value):Rk rb w (w.setCell (no rb j) u):=
 ⟨(Ze rb w).setCell (Zb _) u,aK.setCell u (fun cs' e z' h'=>by rw[h] at h';injection h' with h';injection h' with _ h';exact .inr h'.symm)⟩
theorem Rk.setRow {z:Nat×Nat}(h:w.heap[rb]?=some (.cells cs 165 z))(new:Array Value):Rk rb w (w.setRow rb new):=
 ⟨(Ze rb w).grown (aj ..) (Zj (ah h)) (fun g e=>by cases e;exact Zb _),aK.of_grown (aj ..) (fun g e cs' t' z' h'=>by cases e;rw[h] at h';injection h' with h';injection h' with _ h';exact .inr h'.symm)⟩
theorem o9 {k:Nat}(new:Array Value)(h:w.ownsRow (rb+1) 262 5 v k us):(w.setRow rb new).ownsRow (rb+1) 262 5 v k us:=
 World.ownsRow.kept h (aj ..) (by
  cases hb:v.ownBlock with
  |none=>exact .inl rfl
  |some g=>exact .inr (fun e=>by injection e with e;have:=(am h hb).1;omega))
theorem kg {k j:Nat}(h:w.ownsRow (rb+1) 262 5 v k us):(w.setCell (no rb j) u).ownsRow (rb+1) 262 5 v k us:=
 ownsRow_setCell_below h (a:=⟨rb,j,none⟩) (Nat.lt_succ_self _) u
def JA (xs:Na)(rb:Nat)(w:Wd)(at_ k:Nat)(c:Int)(e:Ending)(w':Wd):Prop:=(∃b:Bool,e =.returned (.bool b))/\Rd xs rb w' at_ k c/\Rk rb w w'/\∀j,j<13->w'.cell? (no rb j)=w.cell? (no rb j)
theorem fc {k:Nat}{c:Int}(h:Rd xs rb w at_ k c)(c' h' l':Int)(A:OA)(n q:Nat):Calls prog 144 #[.pointer (some (nl rb)),dV c' h' l' (.slice A n q)] w fun e w'=>JA xs rb w at_ k (if c=0 then c' else c) e w':=by
 have hlt:=h.lt;have a9:=aa w (.cells #[(c':Int),(h':Int),(l':Int),.slice A n q] 66);obtain⟨a1,a2,a3,a4,a5,a6,a7,L,m,hh,l,us,w0,h1,h2,h3,h4,h5,h6⟩:=h.below a9;have H:=x9 h1 h2 h3 h4 h5 h6;have b0:=Qa (Rk.of_below a9 (Zj hlt));have c13:=ac h1 (j:=13) (u:=(c:Int)) rfl;have c14:=ac h1 (j:=14) (u:=(hh:Int)) rfl;have c15:=ac h1 (j:=15) (u:=(l:Int)) rfl;have c16:=ac h1 (j:=16) (u:=.slice a5 a6 a7) rfl;have f13:=ao h1 13;have f14:=ao h1 14;have f15:=ao h1 15;have f16:=ao h1 16;have H0:=Qa h;clear h h1 h2 h3 h4 h5 h6 a9;unfold dV;go_in;have b3:¬rb=w.heap.size:=by omega
 have b1:=Qa hlt;clear hlt
 by_cases hc:c=0
 .subst hc;have hh:=H.1;have b2:=setRow_heap _ _ _ (fo (.slice a1 xs.length a2) at_ L m (.slice a3 k a4) c' h' l' (.slice A n q)) _ _ hh;have d13:=ac b2 (j:=13) (u:=(c':Int)) rfl;clear b2;have Hh:=Qa hh;clear hh;go_wp2_with (refine dG rfl 66 (.tmp 14) (.tmp 12) rfl rfl rb 13 #[(c':Int),(h':Int),(l':Int),.slice A n q] (fo (.slice a1 xs.length a2) at_ L m (.slice a3 k a4) c' h' l' (.slice A n q)) (by simp[Act.eval]) (by simp[Act.eval]) 165 _ Hh.out bB rfl (oG c' h' l' rfl) rfl ?_);go_ret;obtain⟨h1,h2,h3,h4,h5,h6⟩:=H.out;have hs:=Rk.setRow h1 (fo (.slice a1 xs.length a2) at_ L m (.slice a3 k a4) c' h' l' (.slice A n q));refine⟨⟨_,rfl⟩,⟨a1,a2,a3,a4,A,n,q,L,m,h',l',us,w0,setRow_heap _ _ _ _ _ _ h1,h2,h3,h4.trans hs.1,o9 _ h5,h6⟩,b0.trans hs,fun j hj=>?_⟩;rw[cell_setRow_same _ _ _ _ _ _ _ h1];have a0:w.cell? (no rb j)= (w.alloc (.cells #[(c':Int),(h':Int),(l':Int),.slice A n q] 66)).cell? (no rb j):=by
   unfold World.cell?;rw[(aa w _).block rb b1.out]
  rw[a0];unfold World.cell?;simp only[h1];rcases(by omega:j=0\/j=1\/j=2\/j=3\/j=4\/j=5\/j=6\/j=7\/j=8\/j=9\/j=10\/j=11\/j=12) with rfl|rfl|rfl|rfl|rfl|rfl|rfl|rfl|rfl|rfl|rfl|rfl|rfl <;> rfl
 .have b4:(c==0)=false:=by simpa using hc
  go_wp2;go_ret;refine⟨⟨_,rfl⟩,?_,b0,fun j _=>by unfold World.cell?;rw[(aa w _).block rb b1.out]⟩
  try rw[if_neg hc]
  exact H0.below (aa _ _)
def jL (s:Nc):Prop:=gG s.data.toList/\s.size<=6000
def kv (t:Tk):Prop:=(t.kind=4->jL t.str)/\t.num.digits.size<=6000+1/\(t.kind=3->kt t.num)
theorem Rk.bs (h:Bs w v xs)(hb:ge w w'):Bs w' v xs:=h.below hb
theorem Rd.other {k:Nat}{c:Int}(h:Rd xs rb w at_ k c){T:TypeId}{z:Nat×Nat}(hg:w.heap[g]?=some (.cells old T z))(hT:¬TR T)(hr:rb<=g)(new:Array Value):Rd xs rb (w.setRow g new) at_ k c:=by
 have hlt:=h.lt;obtain⟨a1,a2,a3,a4,a5,a6,a7,L,m,hh,l,us,w0,h1,h2,h3,h4,h5,h6⟩:=h;have hne:rb≠g:=fun e=>hT (by rw[<-e,h1] at hg;injection hg with hg;injection hg with _ hg;exact .inr hg.symm)
 refine⟨a1,a2,a3,a4,a5,a6,a7,L,m,hh,l,us,w0,(setRow_other _ _ _ _ hne).trans h1,h2,h3,h4.grown (aj ..) (Zj hlt) (fun x e=>by cases e;exact hr),World.ownsRow.kept h5 (aj ..) ?_,h6⟩
 cases hb:(Value.slice a3 k a4).ownBlock with
 |none=>exact .inl rfl
 |some x=>
  obtain⟨_,cur,hx⟩:=am h5 hb;exact .inr (fun e=>by injection e with e;subst e;rw[hx] at hg;injection hg with hg;injection hg with _ hg;exact hT (.inl hg.symm))
theorem Rk.fresh (h:Rk rb w w')(hg:w.heap.size<=g)(hr:rb<=w.heap.size)(new:Array Value):Rk rb w (w'.setRow g new):=
 ⟨h.1.grown (aj ..) (Zc hr h.2.1) (fun x e=>by cases e;omega),by rw[setRow_size];exact h.2.1,fun x cs e z hx he=>by
  have hlt:=ah hx;rw[setRow_other _ _ _ _ (by omega)];exact h.2.2 x cs e z hx he⟩
theorem da:¬TR 201:=by unfold TR;decide
theorem IA:¬TR 66:=by unfold TR;decide
def fd (t:Tk):Array Value:= #[.int .i64 t.kind,.int .i64 t.at_,.int .u8 t.mark,.string t.str,.bool t.num.neg,.string t.num.digits,.int .i64 t.num.exp]
def GM (xs:Na)(rb:Nat)(w:Wd)(at_ k:Nat)(s3 s4 s5:Value)(wx:Wd):Prop:= ∃ (g3 g5 n:Nat) (t:Tk) (c fh fl:Int) (fA:OA) (fq fr:Nat),
 s3 =.pointer (some (nl g3))/\s4 =(n:Int)/\s5 =.pointer (some (nl g5))/\wx.heap[g3]?=some (.cells (fd t) 201 (0,0))/\wx.heap[g5]?=some (.cells #[(c:Int),(fh:Int),(fl:Int),.slice fA fq fr] 66 (0,0))/\
 wx.heap[w.heap.size]?=some (.cells (fd Ga) 201 (0,0))/\Rd xs rb wx at_ k 0/\Rk rb w wx/\w.heap.size<g3/\at_+n<=xs.length/\(c=0->(t.kind≠5->1<=n)/\kv t)
def Jw (xs:Na)(rb:Nat)(w:Wd)(at_ k:Nat)(e:Ending)(w':Wd):Prop:= ∃ (t:Tk) (at':Nat) (c:Int),e =ly t/\Rd xs rb w' at' k c/\Rk rb w w'/\at_<=at'/\(c=0->(t.kind≠5->at_+1<=at')/\kv t)
theorem dE {k:Nat}(h:Rd xs rb w at_ k 0)(hl:xs.length<=6000):Calls prog 111 #[.pointer (some (nl rb))] w (Jw xs rb w at_ k):=by
 have hlt:=h.lt;have f6:=aa w (.cells #[(0:Int),(0:Int),.int .u8 0,es,false,es,(0:Int)] 201);have e0:=Zf w (.cells #[(0:Int),(0:Int),.int .u8 0,es,false,es,(0:Int)] 201);have hR:=h.below f6;obtain⟨a1,a2,a3,a4,a5,a6,a7,L,m,hh,l,us,w0,h1,h2,h3,h4,h5,h6,h7⟩:=id hR;have g0:Bs (w.alloc (.cells #[(0:Int),(0:Int),.int .u8 0,es,false,es,(0:Int)] 201)) (.slice a1 xs.length a2) xs:=h2.below (h4.mono (by omega));have c3:=Qa g0;have HR:=Qa hR;have b0:=Qa e0;have b9:=Qa (Rk.of_below f6 (Zj hlt));have c0:=ac h1 (j:=0) (u:=.slice a1 xs.length a2) rfl;have c1:=ac h1 (j:=1) (u:=(at_:Int)) rfl;clear h h1 h2 h3 h4 h5 h7 f6 e0 g0 hR;go_in;go_wp2_with fail;generalize (w.alloc (.cells #[(0:Int),(0:Int),.int .u8 0,es,false,es,(0:Int)] 201))=w1 at *;go_cut [3,4,5] (fun s3 s4 s5 wx=>GM xs rb w at_ k s3 s4 s5 wx)
 case first=>
  have HR:=Qa (show Rd xs rb w1.drew at_ k 0 from HR.below (Ze w1.heap.size w1).drew);have c3:=Qa (c3.below (Ze w1.heap.size w1).drew);have b0:=Qa (show w1.drew.heap[w.heap.size]?=_ from b0.out);have b9:=Qa (b9.trans (Rk.of_below (Ze w1.heap.size w1).drew (Zc (Zj hlt) b9.2.1)));have c01:=And.intro c0 c1;have C01:=Qa (show w1.drew.cell? (nl rb)=some (.slice a1 xs.length a2)/\w1.drew.cell? (no rb 1)=some (.int .i64 at_) from c01);clear c01 c0 c1;generalize hwq:w1.drew=wq at HR c3 b0 b9 C01;refine aI (fun w'=>w'.cell? (nl rb)=some (.slice a1 xs.length a2)/\w'.cell? (no rb 1)=some (.int .i64 at_)) ((by rw[hwq];exact C01.out)) fun b8=>?_
  rw[hwq] at b8 ⊢;clear hwq;refine bw 0 1 2 b8 ?_;refine bw 3 4 5 b8 ?_;refine tH 6 b8 ?_;refine tH 7 b8 ?_;refine wpAnyH_ready (rs:= [8,13,14]) (by kernel_rfl) (by simp) ?_;refine AllReadyH.cons (pk rfl) (fun K hK=>?_) (AllReadyH.cons (pk rfl) (fun K hK=>?_) (AllReadyH.cons (pk rfl) (fun K hK=>?_) AllReadyH.nil));go_simp;refine(iI c3 (by omega) h6).mono ?_;rintro e wn ⟨t,n,c,u,rfl,⟨fh,fl,fs,rfl,d3⟩,hb,c8,d5,d6,c2⟩;have c9:c=0->(t.kind≠5->1<=n)/\kv t:=(fun h=>⟨(c2 h).1,fun h4=>⟨(c2 h).2.1 h4,by omega⟩,by omega,(c2 h).2.2⟩);obtain⟨fA,fq,fr,rfl,-⟩:=d3.slice;have d9:=Qa c8;have d7:=Qa c9;clear c8 c9 c2 d5 d6 d3;have HR:=Qa (HR.below hb);have c3:=Qa (c3.below hb);have b9:=Qa (b9.trans (Rk.of_below hb (Zc (Zj hlt) b9.2.1)));have b0:=Qa ((hb.block _ (ah b0)).trans b0.out);(try have a0:=Qa ((hb.block _ (ah a0)).trans a0.out));(try have a9:=Qa ((hb.block _ (ah a9)).trans a9.out));obtain⟨wq,hwq⟩:∃x,x=wn:=⟨_,rfl⟩;subst hwq;go_wp2_with fail;refine hK _ _ (⟨Zg hb b8.1,Zg hb b8.2⟩) (fun b8=>?_);clear hK K
  try simp only[Act.put,jP,jQ,jR]
  refine bw 9 10 11 b8 ?_;refine tH 12 b8 ?_;refine wpAnyH_ready (rs:= [13,14]) (by kernel_rfl) (by simp) ?_;refine AllReadyH.cons (pk rfl) (fun K hK=>?_) (AllReadyH.cons (pk rfl) (fun K hK=>?_) AllReadyH.nil);go_simp;have hb:=aa wq (.cells #[(0:Int),(0:Int),.int .u8 0,es,false,es,(0:Int)] 201);have c5:=Zf wq (.cells #[(0:Int),(0:Int),.int .u8 0,es,false,es,(0:Int)] 201);obtain⟨g3,d2⟩:=y7 wq.heap.size;have d1:=Qa (show w.heap.size<g3 by rw[<-d2];exact ah b0.out);have HR:=Qa (HR.below hb);have c3:=Qa (c3.below hb);have b9:=Qa (b9.trans (Rk.of_below hb (Zc (Zj hlt) b9.2.1)));have b0:=Qa ((hb.block _ (ah b0)).trans b0.out);(try have a0:=Qa ((hb.block _ (ah a0)).trans a0.out));(try have a9:=Qa ((hb.block _ (ah a9)).trans a9.out));have a0:=Qa c5;rw[d2] at a0 ⊢;obtain⟨wn,c4⟩:=y7 (wq.alloc (.cells #[(0:Int),(0:Int),.int .u8 0,es,false,es,(0:Int)] 201));rw[c4] at HR c3 b9 b0 a0 hb ⊢;(try rw[c4] at a0);(try rw[c4] at a9);obtain⟨wq,hwq⟩:∃x,x=wn:=⟨_,rfl⟩;subst hwq;clear c5;refine hK _ _ (⟨Zg hb b8.1,Zg hb b8.2⟩) (fun b8=>?_);clear hK K
  try simp only[Act.put,jP,jQ,jR]
  refine rH 14 fun K hK=>?_
  go_simp;have hb:=aa wq (.cells #[(0:Int),(0:Int),(0:Int),()] 66);have c6:=Zf wq (.cells #[(0:Int),(0:Int),(0:Int),()] 66);obtain⟨g5,d4⟩:=y7 wq.heap.size;have d0:=Qa (show w.heap.size<g5 by rw[<-d4];exact ah b0.out);have HR:=Qa (HR.below hb);have c3:=Qa (c3.below hb);have b9:=Qa (b9.trans (Rk.of_below hb (Zc (Zj hlt) b9.2.1)));have b0:=Qa ((hb.block _ (ah b0)).trans b0.out);(try have a0:=Qa ((hb.block _ (ah a0)).trans a0.out));(try have a9:=Qa ((hb.block _ (ah a9)).trans a9.out));have a9:=Qa c6;rw[d4] at a9 ⊢;obtain⟨wn,c4⟩:=y7 (wq.alloc (.cells #[(0:Int),(0:Int),(0:Int),()] 66));rw[c4] at HR c3 b9 b0 a9 hb ⊢;(try rw[c4] at a0);(try rw[c4] at a9);obtain⟨wq,hwq⟩:∃x,x=wn:=⟨_,rfl⟩;subst hwq;clear c6;refine hK _ _ (⟨Zg hb b8.1,Zg hb b8.2⟩) (fun b8=>?_);clear hK K
  try simp only[Act.put,jP,jQ,jR]
  rotate_left
  go_simp;have hb:=aa wq (.cells #[(0:Int),(0:Int),(0:Int),()] 66);have c6:=Zf wq (.cells #[(0:Int),(0:Int),(0:Int),()] 66);obtain⟨g5,d4⟩:=y7 wq.heap.size;have d0:=Qa (show w.heap.size<g5 by rw[<-d4];exact ah b0.out);have HR:=Qa (HR.below hb);have c3:=Qa (c3.below hb);have b9:=Qa (b9.trans (Rk.of_below hb (Zc (Zj hlt) b9.2.1)));have b0:=Qa ((hb.block _ (ah b0)).trans b0.out);(try have a0:=Qa ((hb.block _ (ah a0)).trans a0.out));(try have a9:=Qa ((hb.block _ (ah a9)).trans a9.out));have a9:=Qa c6;rw[d4] at a9 ⊢;obtain⟨wn,c4⟩:=y7 (wq.alloc (.cells #[(0:Int),(0:Int),(0:Int),()] 66));rw[c4] at HR c3 b9 b0 a9 hb ⊢;(try rw[c4] at a0);(try rw[c4] at a9);obtain⟨wq,hwq⟩:∃x,x=wn:=⟨_,rfl⟩;subst hwq;clear c6;refine hK _ _ (⟨Zg hb b8.1,Zg hb b8.2⟩) (fun b8=>?_);clear hK K
  try simp only[Act.put,jP,jQ,jR]
  refine rH 13 fun K hK=>?_
  go_simp;have hb:=aa wq (.cells #[(0:Int),(0:Int),.int .u8 0,es,false,es,(0:Int)] 201);have c5:=Zf wq (.cells #[(0:Int),(0:Int),.int .u8 0,es,false,es,(0:Int)] 201);obtain⟨g3,d2⟩:=y7 wq.heap.size;have d1:=Qa (show w.heap.size<g3 by rw[<-d2];exact ah b0.out);have HR:=Qa (HR.below hb);have c3:=Qa (c3.below hb);have b9:=Qa (b9.trans (Rk.of_below hb (Zc (Zj hlt) b9.2.1)));have b0:=Qa ((hb.block _ (ah b0)).trans b0.out);(try have a0:=Qa ((hb.block _ (ah a0)).trans a0.out));(try have a9:=Qa ((hb.block _ (ah a9)).trans a9.out));have a0:=Qa c5;rw[d2] at a0 ⊢;obtain⟨wn,c4⟩:=y7 (wq.alloc (.cells #[(0:Int),(0:Int),.int .u8 0,es,false,es,(0:Int)] 201));rw[c4] at HR c3 b9 b0 a0 hb ⊢;(try rw[c4] at a0);(try rw[c4] at a9);obtain⟨wq,hwq⟩:∃x,x=wn:=⟨_,rfl⟩;subst hwq;clear c5;refine hK _ _ (⟨Zg hb b8.1,Zg hb b8.2⟩) (fun b8=>?_);clear hK K
  try simp only[Act.put,jP,jQ,jR]
  rotate_left
  go_simp;have hb:=aa wq (.cells #[(0:Int),(0:Int),.int .u8 0,es,false,es,(0:Int)] 201);have c5:=Zf wq (.cells #[(0:Int),(0:Int),.int .u8 0,es,false,es,(0:Int)] 201);obtain⟨g3,d2⟩:=y7 wq.heap.size;have d1:=Qa (show w.heap.size<g3 by rw[<-d2];exact ah b0.out);have HR:=Qa (HR.below hb);have c3:=Qa (c3.below hb);have b9:=Qa (b9.trans (Rk.of_below hb (Zc (Zj hlt) b9.2.1)));have b0:=Qa ((hb.block _ (ah b0)).trans b0.out);(try have a0:=Qa ((hb.block _ (ah a0)).trans a0.out));(try have a9:=Qa ((hb.block _ (ah a9)).trans a9.out));have a0:=Qa c5;rw[d2] at a0 ⊢;obtain⟨wn,c4⟩:=y7 (wq.alloc (.cells #[(0:Int),(0:Int),.int .u8 0,es,false,es,(0:Int)] 201));rw[c4] at HR c3 b9 b0 a0 hb ⊢;(try rw[c4] at a0);(try rw[c4] at a9);obtain⟨wq,hwq⟩:∃x,x=wn:=⟨_,rfl⟩;subst hwq;clear c5;refine hK _ _ (⟨Zg hb b8.1,Zg hb b8.2⟩) (fun b8=>?_);clear hK K
  try simp only[Act.put,jP,jQ,jR]
  refine wpAnyH_ready (rs:= [8,14]) (by kernel_rfl) (by simp) ?_;refine AllReadyH.cons (pk rfl) (fun K hK=>?_) (AllReadyH.cons (pk rfl) (fun K hK=>?_) AllReadyH.nil);go_simp;refine(iI c3 (by omega) h6).mono ?_;rintro e wn ⟨t,n,c,u,rfl,⟨fh,fl,fs,rfl,d3⟩,hb,c8,d5,d6,c2⟩;have c9:c=0->(t.kind≠5->1<=n)/\kv t:=(fun h=>⟨(c2 h).1,fun h4=>⟨(c2 h).2.1 h4,by omega⟩,by omega,(c2 h).2.2⟩);obtain⟨fA,fq,fr,rfl,-⟩:=d3.slice;have d9:=Qa c8;have d7:=Qa c9;clear c8 c9 c2 d5 d6 d3;have HR:=Qa (HR.below hb);have c3:=Qa (c3.below hb);have b9:=Qa (b9.trans (Rk.of_below hb (Zc (Zj hlt) b9.2.1)));have b0:=Qa ((hb.block _ (ah b0)).trans b0.out);(try have a0:=Qa ((hb.block _ (ah a0)).trans a0.out));(try have a9:=Qa ((hb.block _ (ah a9)).trans a9.out));obtain⟨wq,hwq⟩:∃x,x=wn:=⟨_,rfl⟩;subst hwq;go_wp2_with fail;refine hK _ _ (⟨Zg hb b8.1,Zg hb b8.2⟩) (fun b8=>?_);clear hK K
  try simp only[Act.put,jP,jQ,jR]
  refine bw 9 10 11 b8 ?_;refine tH 12 b8 ?_;refine rH 14 fun K hK=>?_
  go_simp;have hb:=aa wq (.cells #[(0:Int),(0:Int),(0:Int),()] 66);have c6:=Zf wq (.cells #[(0:Int),(0:Int),(0:Int),()] 66);obtain⟨g5,d4⟩:=y7 wq.heap.size;have d0:=Qa (show w.heap.size<g5 by rw[<-d4];exact ah b0.out);have HR:=Qa (HR.below hb);have c3:=Qa (c3.below hb);have b9:=Qa (b9.trans (Rk.of_below hb (Zc (Zj hlt) b9.2.1)));have b0:=Qa ((hb.block _ (ah b0)).trans b0.out);(try have a0:=Qa ((hb.block _ (ah a0)).trans a0.out));(try have a9:=Qa ((hb.block _ (ah a9)).trans a9.out));have a9:=Qa c6;rw[d4] at a9 ⊢;obtain⟨wn,c4⟩:=y7 (wq.alloc (.cells #[(0:Int),(0:Int),(0:Int),()] 66));rw[c4] at HR c3 b9 b0 a9 hb ⊢;(try rw[c4] at a0);(try rw[c4] at a9);obtain⟨wq,hwq⟩:∃x,x=wn:=⟨_,rfl⟩;subst hwq;clear c6;refine hK _ _ (⟨Zg hb b8.1,Zg hb b8.2⟩) (fun b8=>?_);clear hK K
  try simp only[Act.put,jP,jQ,jR]
  rotate_left
  go_simp;have hb:=aa wq (.cells #[(0:Int),(0:Int),(0:Int),()] 66);have c6:=Zf wq (.cells #[(0:Int),(0:Int),(0:Int),()] 66);obtain⟨g5,d4⟩:=y7 wq.heap.size;have d0:=Qa (show w.heap.size<g5 by rw[<-d4];exact ah b0.out);have HR:=Qa (HR.below hb);have c3:=Qa (c3.below hb);have b9:=Qa (b9.trans (Rk.of_below hb (Zc (Zj hlt) b9.2.1)));have b0:=Qa ((hb.block _ (ah b0)).trans b0.out);(try have a0:=Qa ((hb.block _ (ah a0)).trans a0.out));(try have a9:=Qa ((hb.block _ (ah a9)).trans a9.out));have a9:=Qa c6;rw[d4] at a9 ⊢;obtain⟨wn,c4⟩:=y7 (wq.alloc (.cells #[(0:Int),(0:Int),(0:Int),()] 66));rw[c4] at HR c3 b9 b0 a9 hb ⊢;(try rw[c4] at a0);(try rw[c4] at a9);obtain⟨wq,hwq⟩:∃x,x=wn:=⟨_,rfl⟩;subst hwq;clear c6;refine hK _ _ (⟨Zg hb b8.1,Zg hb b8.2⟩) (fun b8=>?_);clear hK K
  try simp only[Act.put,jP,jQ,jR]
  refine rH 8 fun K hK=>?_
  go_simp;refine(iI c3 (by omega) h6).mono ?_;rintro e wn ⟨t,n,c,u,rfl,⟨fh,fl,fs,rfl,d3⟩,hb,c8,d5,d6,c2⟩;have c9:c=0->(t.kind≠5->1<=n)/\kv t:=(fun h=>⟨(c2 h).1,fun h4=>⟨(c2 h).2.1 h4,by omega⟩,by omega,(c2 h).2.2⟩);obtain⟨fA,fq,fr,rfl,-⟩:=d3.slice;have d9:=Qa c8;have d7:=Qa c9;clear c8 c9 c2 d5 d6 d3;have HR:=Qa (HR.below hb);have c3:=Qa (c3.below hb);have b9:=Qa (b9.trans (Rk.of_below hb (Zc (Zj hlt) b9.2.1)));have b0:=Qa ((hb.block _ (ah b0)).trans b0.out);(try have a0:=Qa ((hb.block _ (ah a0)).trans a0.out));(try have a9:=Qa ((hb.block _ (ah a9)).trans a9.out));obtain⟨wq,hwq⟩:∃x,x=wn:=⟨_,rfl⟩;subst hwq;go_wp2_with fail;refine hK _ _ (⟨Zg hb b8.1,Zg hb b8.2⟩) (fun b8=>?_);clear hK K
  try simp only[Act.put,jP,jQ,jR]
  refine bw 9 10 11 b8 ?_;refine tH 12 b8 ?_
  rotate_left
  go_simp;have hb:=aa wq (.cells #[(0:Int),(0:Int),(0:Int),()] 66);have c6:=Zf wq (.cells #[(0:Int),(0:Int),(0:Int),()] 66);obtain⟨g5,d4⟩:=y7 wq.heap.size;have d0:=Qa (show w.heap.size<g5 by rw[<-d4];exact ah b0.out);have HR:=Qa (HR.below hb);have c3:=Qa (c3.below hb);have b9:=Qa (b9.trans (Rk.of_below hb (Zc (Zj hlt) b9.2.1)));have b0:=Qa ((hb.block _ (ah b0)).trans b0.out);(try have a0:=Qa ((hb.block _ (ah a0)).trans a0.out));(try have a9:=Qa ((hb.block _ (ah a9)).trans a9.out));have a9:=Qa c6;rw[d4] at a9 ⊢;obtain⟨wn,c4⟩:=y7 (wq.alloc (.cells #[(0:Int),(0:Int),(0:Int),()] 66));rw[c4] at HR c3 b9 b0 a9 hb ⊢;(try rw[c4] at a0);(try rw[c4] at a9);obtain⟨wq,hwq⟩:∃x,x=wn:=⟨_,rfl⟩;subst hwq;clear c6;refine hK _ _ (⟨Zg hb b8.1,Zg hb b8.2⟩) (fun b8=>?_);clear hK K
  try simp only[Act.put,jP,jQ,jR]
  refine wpAnyH_ready (rs:= [8,13]) (by kernel_rfl) (by simp) ?_;refine AllReadyH.cons (pk rfl) (fun K hK=>?_) (AllReadyH.cons (pk rfl) (fun K hK=>?_) AllReadyH.nil);go_simp;refine(iI c3 (by omega) h6).mono ?_;rintro e wn ⟨t,n,c,u,rfl,⟨fh,fl,fs,rfl,d3⟩,hb,c8,d5,d6,c2⟩;have c9:c=0->(t.kind≠5->1<=n)/\kv t:=(fun h=>⟨(c2 h).1,fun h4=>⟨(c2 h).2.1 h4,by omega⟩,by omega,(c2 h).2.2⟩);obtain⟨fA,fq,fr,rfl,-⟩:=d3.slice;have d9:=Qa c8;have d7:=Qa c9;clear c8 c9 c2 d5 d6 d3;have HR:=Qa (HR.below hb);have c3:=Qa (c3.below hb);have b9:=Qa (b9.trans (Rk.of_below hb (Zc (Zj hlt) b9.2.1)));have b0:=Qa ((hb.block _ (ah b0)).trans b0.out);(try have a0:=Qa ((hb.block _ (ah a0)).trans a0.out));(try have a9:=Qa ((hb.block _ (ah a9)).trans a9.out));obtain⟨wq,hwq⟩:∃x,x=wn:=⟨_,rfl⟩;subst hwq;go_wp2_with fail;refine hK _ _ (⟨Zg hb b8.1,Zg hb b8.2⟩) (fun b8=>?_);clear hK K
  try simp only[Act.put,jP,jQ,jR]
  refine bw 9 10 11 b8 ?_;refine tH 12 b8 ?_;refine rH 13 fun K hK=>?_
  go_simp;have hb:=aa wq (.cells #[(0:Int),(0:Int),.int .u8 0,es,false,es,(0:Int)] 201);have c5:=Zf wq (.cells #[(0:Int),(0:Int),.int .u8 0,es,false,es,(0:Int)] 201);obtain⟨g3,d2⟩:=y7 wq.heap.size;have d1:=Qa (show w.heap.size<g3 by rw[<-d2];exact ah b0.out);have HR:=Qa (HR.below hb);have c3:=Qa (c3.below hb);have b9:=Qa (b9.trans (Rk.of_below hb (Zc (Zj hlt) b9.2.1)));have b0:=Qa ((hb.block _ (ah b0)).trans b0.out);(try have a0:=Qa ((hb.block _ (ah a0)).trans a0.out));(try have a9:=Qa ((hb.block _ (ah a9)).trans a9.out));have a0:=Qa c5;rw[d2] at a0 ⊢;obtain⟨wn,c4⟩:=y7 (wq.alloc (.cells #[(0:Int),(0:Int),.int .u8 0,es,false,es,(0:Int)] 201));rw[c4] at HR c3 b9 b0 a0 hb ⊢;(try rw[c4] at a0);(try rw[c4] at a9);obtain⟨wq,hwq⟩:∃x,x=wn:=⟨_,rfl⟩;subst hwq;clear c5;refine hK _ _ (⟨Zg hb b8.1,Zg hb b8.2⟩) (fun b8=>?_);clear hK K
  try simp only[Act.put,jP,jQ,jR]
  rotate_left
  go_simp;have hb:=aa wq (.cells #[(0:Int),(0:Int),.int .u8 0,es,false,es,(0:Int)] 201);have c5:=Zf wq (.cells #[(0:Int),(0:Int),.int .u8 0,es,false,es,(0:Int)] 201);obtain⟨g3,d2⟩:=y7 wq.heap.size;have d1:=Qa (show w.heap.size<g3 by rw[<-d2];exact ah b0.out);have HR:=Qa (HR.below hb);have c3:=Qa (c3.below hb);have b9:=Qa (b9.trans (Rk.of_below hb (Zc (Zj hlt) b9.2.1)));have b0:=Qa ((hb.block _ (ah b0)).trans b0.out);(try have a0:=Qa ((hb.block _ (ah a0)).trans a0.out));(try have a9:=Qa ((hb.block _ (ah a9)).trans a9.out));have a0:=Qa c5;rw[d2] at a0 ⊢;obtain⟨wn,c4⟩:=y7 (wq.alloc (.cells #[(0:Int),(0:Int),.int .u8 0,es,false,es,(0:Int)] 201));rw[c4] at HR c3 b9 b0 a0 hb ⊢;(try rw[c4] at a0);(try rw[c4] at a9);obtain⟨wq,hwq⟩:∃x,x=wn:=⟨_,rfl⟩;subst hwq;clear c5;refine hK _ _ (⟨Zg hb b8.1,Zg hb b8.2⟩) (fun b8=>?_);clear hK K
  try simp only[Act.put,jP,jQ,jR]
  refine rH 8 fun K hK=>?_
  go_simp;refine(iI c3 (by omega) h6).mono ?_;rintro e wn ⟨t,n,c,u,rfl,⟨fh,fl,fs,rfl,d3⟩,hb,c8,d5,d6,c2⟩;have c9:c=0->(t.kind≠5->1<=n)/\kv t:=(fun h=>⟨(c2 h).1,fun h4=>⟨(c2 h).2.1 h4,by omega⟩,by omega,(c2 h).2.2⟩);obtain⟨fA,fq,fr,rfl,-⟩:=d3.slice;have d9:=Qa c8;have d7:=Qa c9;clear c8 c9 c2 d5 d6 d3;have HR:=Qa (HR.below hb);have c3:=Qa (c3.below hb);have b9:=Qa (b9.trans (Rk.of_below hb (Zc (Zj hlt) b9.2.1)));have b0:=Qa ((hb.block _ (ah b0)).trans b0.out);(try have a0:=Qa ((hb.block _ (ah a0)).trans a0.out));(try have a9:=Qa ((hb.block _ (ah a9)).trans a9.out));obtain⟨wq,hwq⟩:∃x,x=wn:=⟨_,rfl⟩;subst hwq;go_wp2_with fail;refine hK _ _ (⟨Zg hb b8.1,Zg hb b8.2⟩) (fun b8=>?_);clear hK K
  try simp only[Act.put,jP,jQ,jR]
  refine bw 9 10 11 b8 ?_;refine tH 12 b8 ?_
  rotate_left
  all_goals
   refine rH 15 fun K hK=>?_
   have f5:=Qa (show g5≠g3 from fun e=>by have a:=a0.out;have b:=a9.out;rw[e,a] at b;injection b with b;injection b with _ b;exact absurd b (by decide));refine bZ a0.out ?_;refine hK _ _ (⟨(aj _ _ _).cell b8.1 (fun e=>by injection e with e;exact Nat.ne_of_lt (Nat.lt_trans hlt d1) e),(aj _ _ _).cell b8.2 (fun e=>by injection e with e;exact Nat.ne_of_lt (Nat.lt_trans hlt d1) e)⟩) (fun b8=>?_);clear hK K
   try simp only[Act.put,jP,jQ,jR]
   refine tH 16 b8 ?_;refine rH 17 fun K hK=>?_
   refine bZ ((setRow_other _ _ _ _ f5).trans a9.out) ?_;refine hK _ _ (⟨(aj _ _ _).cell b8.1 (fun e=>by injection e with e;exact Nat.ne_of_lt (Nat.lt_trans hlt d0) e),(aj _ _ _).cell b8.2 (fun e=>by injection e with e;exact Nat.ne_of_lt (Nat.lt_trans hlt d0) e)⟩) (fun b8=>?_);clear hK K
   try simp only[Act.put,jP,jQ,jR]
   refine y5 ?_;go_wp2_with fail;go_meet
   case rel=>
    have l3:=d1.out;have l5:=d0.out;have x5:=(setRow_other wq g3 g5 (fd t) f5).trans a9.out;exact⟨g3,g5,n,t,c,fh,fl,fA,fq,fr,rfl,rfl,rfl,(setRow_other _ _ _ _ (Ne.symm f5)).trans (setRow_heap _ _ _ _ _ _ a0),setRow_heap _ _ _ _ _ _ x5,(setRow_other _ _ _ _ (by omega)).trans ((setRow_other _ _ _ _ (by omega)).trans b0.out),(HR.other a0 da (by omega) _).other x5 IA (by omega) _,(b9.fresh (by omega) (by omega) _).fresh (by omega) (by omega) _,l3,d9.out,d7.out⟩
 case rest=>
  obtain⟨g3,g5,n,t,c,fh,fl,fA,fq,fr,rfl,rfl,rfl,e4,e3,e0,hR,f9,g8,c8,c9⟩:=hcut;have q0:=ac e3 (j:=0) (u:=(c:Int)) rfl;have q1:=ac e3 (j:=1) (u:=(fh:Int)) rfl;have q2:=ac e3 (j:=2) (u:=(fl:Int)) rfl;have q3:=ac e3 (j:=3) (u:=.slice fA fq fr) rfl;have g1:=Qa hR;have f4:=Qa f9;have a0:=Qa e4;have g6:=Qa e0;have d9:=Qa c8;have d7:=Qa c9;clear hR f9 e4 e3 e0 c8 c9 c0 c1;go_wp2_with fail;refine(fc g1 c fh fl fA fq fr).mono ?_;rintro e wf ⟨⟨b,rfl⟩,e8,e7,-⟩;rw[if_pos rfl] at e8;have e4:=e7.row a0.out da;have e0:=e7.row g6.out da;have g9:=e8.lt;obtain⟨b1,b2,b3,b4,b5,b6,b7,L',m',g4,l',us',w0',h1,h2,h3,h4,h5,g7,g2⟩:=id e8;have e1:=ac h1 (j:=1) (u:=(at_:Int)) rfl;have f1:=ao h1 1;have hs:=az h1 1 ((at_+n:Nat):Int);have f3:g3≠rb:=by omega
  have f2:w.heap.size≠rb:=by omega
  have c7:=(Below.heap_setCell wf ⟨rb,1,none⟩ ((at_+n:Nat):Int) g3 f3).trans e4;have e6:=(Below.heap_setCell wf ⟨rb,1,none⟩ ((at_+n:Nat):Int) w.heap.size f2).trans e0;have t0:=ac c7 (j:=0) (u:=(t.kind:Int)) rfl;have t1:=ac c7 (j:=1) (u:=(t.at_:Int)) rfl;have t2:=ac c7 (j:=2) (u:=.int .u8 t.mark) rfl;have t3:=ac c7 (j:=3) (u:=.string t.str) rfl;have t4:=ac c7 (j:=4) (u:=.bool t.num.neg) rfl;have t5:=ac c7 (j:=5) (u:=.string t.num.digits) rfl;have t6:=ac c7 (j:=6) (u:=(t.num.exp:Int)) rfl;have f7:Rd xs rb (wf.setCell (no rb 1) ((at_+n:Nat):Int)) (at_+n) k c:=
   ⟨b1,b2,b3,b4,b5,b6,b7,L',m',g4,l',us',w0',hs,h2,h3,h4.trans (Rk.set h1 1 _).1,kg h5,d9,by omega⟩
  have e5:=Qa ((f4.trans e7).trans (Rk.set h1 1 ((at_+n:Nat):Int)));have f8:=Qa f7;have f0:=Qa e6;have e2:((at_+n:Nat):Int)= (at_:Int)+n:=by omega
  have hw:=IntWalk.i64_in ((at_:Int)+n) (by have:=d9.out;omega);rw[e2] at t0 t1 t2 t3 t4 t5 t6 e5 f8 f0;clear e4 e0 e8 e7 h1 h2 h3 h4 h5 g2 hs c7 e6 f7 e2 q0 q1 q2 q3;go_wp2_with (refine bQ f0 ?_);exact Zh (results_cell_row results111 _ _ w.heap.size 201 (fd t) (0,0) _ (by simp) (setRow_heap _ _ _ _ _ _ f0) underlying201 rfl dD) rfl
   ⟨t,at_+n,c,rfl,f8.other f0 da (Zj hlt) _,e5.fresh (Zb _) (Zj hlt) _,by omega,fun h=>⟨fun h'=>by have:=(d7 h).1 h';omega,(d7 h).2⟩⟩
def kR (xs:Na)(rb:Nat)(w:Wd)(at_ k:Nat)(e:Ending)(w':Wd):Prop:=(∃v,e =.returned v)/\∃c:Int,c≠0/\Rd xs rb w' at_ k c/\Rk rb w w'
theorem fV {k:Nat}{c:Int}(h:Rd xs rb w at_ k c)(t:Tk):Calls prog 113 #[.pointer (some (nl rb)),ly t] w (kR xs rb w at_ k):=by
 obtain⟨tk,ta,tm,ts,⟨dn,dd,dx⟩⟩:=t;unfold ly;have hlt:=h.lt;have a7:=aa w (.cells #[(tk:Int),(ta:Int),.int .u8 tm,ts,.bool dn,dd,(dx:Int)] 201);have HR:=Qa (h.below a7);have a9:=Qa (Rk.of_below a7 (Zj hlt));clear h a7;go_in
 by_cases h5:tk=5
 .subst h5;go_wp2_with fail;generalize (w.alloc (.cells #[(5:Int),(ta:Int),.int .u8 tm,ts,.bool dn,dd,(dx:Int)] 201))=w1 at *;refine(cV 103 ta w1).mono ?_;rintro e w2 ⟨u,rfl,⟨fh,fl,fs,rfl,a1⟩,hb⟩;obtain⟨fA,fq,fr,rfl,-⟩:=a1.slice;have a5:=Qa (HR.below hb);have a0:=Qa (a9.trans (Rk.of_below hb (Zj HR.lt)));clear a1 hb;go_wp2_with fail;refine(fc a5 103 fh fl fA fq fr).mono ?_;rintro e w3 ⟨⟨b,rfl⟩,a2,a3,-⟩;have a6:=Qa a2;have a4:=Qa a3;clear a2 a3;go_wp2;go_end0;exact⟨⟨_,rfl⟩,_,(by by_cases h:c=0 <;> simp[h]),a6.out,a0.trans a4.out⟩
 .have b0:(tk==5)=false:=by simpa using h5
  clear h5;go_wp2_with fail;generalize (w.alloc (.cells #[(tk:Int),(ta:Int),.int .u8 tm,ts,.bool dn,dd,(dx:Int)] 201))=w1 at *;refine(cV 111 ta w1).mono ?_;rintro e w2 ⟨u,rfl,⟨fh,fl,fs,rfl,a1⟩,hb⟩;obtain⟨fA,fq,fr,rfl,-⟩:=a1.slice;have a5:=Qa (HR.below hb);have a0:=Qa (a9.trans (Rk.of_below hb (Zj HR.lt)));clear a1 hb;go_wp2_with fail;refine(fc a5 111 fh fl fA fq fr).mono ?_;rintro e w3 ⟨⟨b,rfl⟩,a2,a3,-⟩;have a6:=Qa a2;have a4:=Qa a3;clear a2 a3;go_wp2;go_end0;exact⟨⟨_,rfl⟩,_,(by by_cases h:c=0 <;> simp[h]),a6.out,a0.trans a4.out⟩
def iW (t:Tk)(X:Int)(w:Wd)(e:Ending)(w':Wd):Prop:= ∃b:Bool,e =.returned (.bool b)/\(b=true->t.kind=1)/\ge w w'
theorem gd (t:Tk)(X:Int)(w:Wd):Calls prog 145 #[ly t,.int .u8 X] w (iW t X w):=by
 obtain⟨tk,ta,tm,ts,⟨dn,dd,dx⟩⟩:=t;unfold ly;go_in
 by_cases h1:tk=1
 .subst h1;go_wp2;go_ret;exact⟨_,rfl,fun _=>rfl,aa _ _⟩
 .have a0:(tk==1)=false:=by simpa using h1
  have H1:=Qa h1;clear h1;go_wp2;go_ret;exact⟨_,rfl,(fun h=>absurd h (by decide)),aa _ _⟩
def Ea (xs:Na)(rb:Nat)(w:Wd)(at_ k:Nat)(e:Ending)(w':Wd):Prop:=(∃v,e =.returned v)/\∃c:Int,Rd xs rb w' at_ k c/\Rk rb w w'
theorem wD {k:Nat}{c:Int}(h:Rd xs rb w at_ k c)(d:Int):Calls prog 146 #[.pointer (some (nl rb)),(d:Int)] w (Ea xs rb w at_ k):=by
 have HR:=Qa h;obtain⟨a1,a2,a3,a4,a5,a6,a7,L,m,hh,l,us,w0,h1,h2,h3,h4,h5,h6,h7⟩:=h;have c2:=ac h1 (j:=2) (u:=(L 0:Int)) rfl;have c3:=ac h1 (j:=3) (u:=(L 1:Int)) rfl;have c4:=ac h1 (j:=4) (u:=(L 2:Int)) rfl;have c5:=ac h1 (j:=5) (u:=(L 3:Int)) rfl;have c6:=ac h1 (j:=6) (u:=(L 4:Int)) rfl;have c7:=ac h1 (j:=7) (u:=(L 5:Int)) rfl;clear h1 h2 h3 h4 h5 h6 h7;go_in;go_wp2_with fail;refine(ie (L 0) (L 1) (L 2) (L 3) (L 4) (L 5) 2 d w).mono ?_;rintro e w1 ⟨c1,u,rfl,⟨fh,fl,fs,rfl,b1⟩,hb⟩;obtain⟨fA,fq,fr,rfl,-⟩:=b1.slice;have b6:=Qa (HR.below hb);have c0:=Qa (Rk.of_below hb (Zj HR.lt));clear b1 hb c2 c3 c4 c5 c6 c7;go_wp2_with fail;refine(fc b6 c1 fh fl fA fq fr).mono ?_;rintro e w2 ⟨⟨b,rfl⟩,d4,b9,-⟩;have b8:=Qa (c0.trans b9);clear HR b6 c0 b9;obtain⟨a1,a2,a3,a4,a5,a6,a7,L,m,hh,l,us,w0,h1,h2,h3,h4,h5,h6,h7⟩:=d4;have c10:=ac h1 (j:=10) (u:=(m 2:Int)) rfl;have f10:=ao h1 10;have hs:=az h1 10 (wrap64 (m 2+1):Int);have b7:Rd xs rb (w2.setCell (no rb 10) (wrap64 (m 2+1):Int)) at_ k (if c=0 then c1 else c):=
  ⟨a1,a2,a3,a4,a5,a6,a7,L,fun i=>if i=2 then wrap64 (m 2+1) else m i,hh,l,us,w0,hs,h2,h3,h4.trans (Rk.set h1 10 _).1,kg h5,h6,h7⟩
 have b0:=Qa b7;have b2:=Qa (b8.trans (Rk.set h1 10 (wrap64 (m 2+1):Int)));have cs2:∀j u,j≠10->w2.cell? (no rb j)=some u->(w2.setCell (no rb 10) (wrap64 (m 2+1):Int)).cell? (no rb j)=some u:=fun j u hj hu=>by
  unfold World.cell? at hu ⊢;simp only[h1] at hu;simp only[hs];simpa [Array.getElem?_setIfInBounds,Ne.symm hj] using hu
 have HC:=Qa (And.intro (cs2 2 _ (by decide) (ac h1 (j:=2) (u:=(L 0:Int)) rfl)) (And.intro (cs2 3 _ (by decide) (ac h1 (j:=3) (u:=(L 1:Int)) rfl)) (And.intro (cs2 4 _ (by decide) (ac h1 (j:=4) (u:=(L 2:Int)) rfl)) (And.intro (cs2 5 _ (by decide) (ac h1 (j:=5) (u:=(L 3:Int)) rfl)) (And.intro (cs2 6 _ (by decide) (ac h1 (j:=6) (u:=(L 4:Int)) rfl)) (And.intro (cs2 7 _ (by decide) (ac h1 (j:=7) (u:=(L 5:Int)) rfl)) (ac hs (j:=10) (u:=(wrap64 (m 2+1):Int)) rfl)))))));clear b8 b7 h1 h2 h3 h4 h5 h6 h7 hs cs2;go_wp2_with fail;generalize wrap64 (m 2+1)=N at *;generalize (w2.setCell (no rb 10) (N:Int))=w3 at *;have HC:=Qa (show(fun w':Wd=>w'.cell? (no rb 2)=some (.int .i64 (L 0))/\w'.cell? (no rb 3)=some (.int .i64 (L 1))/\w'.cell? (no rb 4)=some (.int .i64 (L 2))/\w'.cell? (no rb 5)=some (.int .i64 (L 3))/\w'.cell? (no rb 6)=some (.int .i64 (L 4))/\w'.cell? (no rb 7)=some (.int .i64 (L 5))/\w'.cell? (no rb 10)=some (.int .i64 N)) w3.drew from HC.out);have b0:=Qa (b0.below (Ze w3.heap.size w3).drew);have b2:=Qa (b2.trans (Rk.of_below (Ze w3.heap.size w3).drew (Zj b0.lt)));generalize hwq:w3.drew=wq at HC b0 b2;refine aI (fun w'=>w'.cell? (no rb 2)=some (.int .i64 (L 0))/\w'.cell? (no rb 3)=some (.int .i64 (L 1))/\w'.cell? (no rb 4)=some (.int .i64 (L 2))/\w'.cell? (no rb 5)=some (.int .i64 (L 3))/\w'.cell? (no rb 6)=some (.int .i64 (L 4))/\w'.cell? (no rb 7)=some (.int .i64 (L 5))/\w'.cell? (no rb 10)=some (.int .i64 N)) ((by rw[hwq];exact HC.out)) fun a0=>?_
 rw[hwq] at a0 ⊢;clear hwq HC;refine bw 0 1 2 a0 ?_;refine bw 3 4 5 a0 ?_;refine bw 6 7 8 a0 ?_;refine tH 9 a0 ?_
 rotate_left
 all_goals
  refine rH 10 fun K hK=>?_
  go_simp;refine(ie (L 0) (L 1) (L 2) (L 3) (L 4) (L 5) 3 N wq).mono ?_;rintro e w4 ⟨c4,u,rfl,⟨fh,fl,fs,rfl,b1⟩,hb⟩;obtain⟨fA,fq,fr,rfl,-⟩:=b1.slice;have d2:=Qa (b0.below hb);have d0:=Qa (b2.trans (Rk.of_below hb (Zj b0.lt)));clear b1;go_wp2_with fail;refine hK _ _ (⟨Zg hb a0.1,Zg hb a0.2.1,Zg hb a0.2.2.1,Zg hb a0.2.2.2.1,Zg hb a0.2.2.2.2.1,Zg hb a0.2.2.2.2.2.1,Zg hb a0.2.2.2.2.2.2⟩) (fun a0=>?_);clear hK K
  try simp only[Act.put,jP,jQ,jR]
  refine rH 11 fun K hK=>?_
  go_simp;refine(fc d2 c4 fh fl fA fq fr).mono ?_;rintro e w5 ⟨⟨b,rfl⟩,b5,c8,b3⟩;have d1:=Qa b5;have d3:=Qa (d0.trans c8);clear b5 c8;have a9:=Qa b3;clear b3;go_wp2_with fail;refine hK _ _ (⟨(a9 2 (by decide)).trans a0.1,(a9 3 (by decide)).trans a0.2.1,(a9 4 (by decide)).trans a0.2.2.1,(a9 5 (by decide)).trans a0.2.2.2.1,(a9 6 (by decide)).trans a0.2.2.2.2.1,(a9 7 (by decide)).trans a0.2.2.2.2.2.1,(a9 10 (by decide)).trans a0.2.2.2.2.2.2⟩) (fun a0=>?_);clear hK K
  try simp only[Act.put,jP,jQ,jR]
  refine y5 ?_;clear a0 c10 f10;obtain⟨a1,a2,a3,a4,a5,a6,a7,L,m,hh,l,us,w0,h1,h2,h3,h4,h5,h6,h7⟩:=d1.out;have c9:=ac h1 (j:=9) (u:=(m 1:Int)) rfl;have f9:=ao h1 9;have b4:∀X:Int,Ea xs rb w at_ k (.returned (.tuple #[])) (w5.setCell (no rb 9) (X:Int)):=fun X=>
   ⟨⟨_,rfl⟩,_,⟨a1,a2,a3,a4,a5,a6,a7,L,fun i=>if i=1 then X else m i,hh,l,us,w0,az h1 9 (X:Int),h2,h3,h4.trans (Rk.set h1 9 _).1,kg h5,h6,h7⟩,d3.trans (Rk.set h1 9 _)⟩
  have H6:=Qa b4;clear b4 h1 h2 h3 h4 h5 h6 h7;go_wp2_with fail
  all_goals
   go_end0;exact H6 _
def Lf (t:Tk)(j:JV):Prop:=j =.mk 1 false es jx [] []\/(∃b,j =.mk 2 b es jx [] [])\/(t.kind=3/\j =.mk 3 false es t.num [] [])\/(t.kind=4/\j =.mk 4 false t.str jx [] [])
def Do (xs:Na)(rb:Nat)(w:Wd)(at_ k:Nat)(t:Tk)(e:Ending)(w':Wd):Prop:= ∃ (v:Value) (j:JV) (c:Int),e =.returned v/\Lf t j/\bo (w.heap.size<= ·) w' rb v (j.flat 0)/\Rd xs rb w' at_ k c/\Rk rb w w'
theorem Dj {k:Nat}{c:Int}(h:Rd xs rb w at_ k c)(t:Tk):Calls prog 149 #[.pointer (some (nl rb)),ly t] w (Do xs rb w at_ k t):=by
 obtain⟨tk,ta,tm,ts,⟨dn,dd,dx⟩⟩:=t;unfold ly;have hlt:=h.lt;have b2:=aa w (.cells #[(tk:Int),(ta:Int),.int .u8 tm,ts,.bool dn,dd,(dx:Int)] 201);have b7:=Zf w (.cells #[(tk:Int),(ta:Int),.int .u8 tm,ts,.bool dn,dd,(dx:Int)] 201);have HR:=Qa (h.below b2);have b8:=Qa b7;have b3:=Qa (Rk.of_below b2 (Zj hlt));clear h b2 b7;go_in
 by_cases h3:tk=3
 .subst h3;obtain⟨a1,a2,a3,a4,a5,a6,a7,L,m,hh,l,us,w0,h1,h2,h3,h4,h5,h6,h7⟩:=HR.out;have c2:=ac h1 (j:=2) (u:=(L 0:Int)) rfl;have c3:=ac h1 (j:=3) (u:=(L 1:Int)) rfl;have c4:=ac h1 (j:=4) (u:=(L 2:Int)) rfl;have c5:=ac h1 (j:=5) (u:=(L 3:Int)) rfl;have c6:=ac h1 (j:=6) (u:=(L 4:Int)) rfl;have c7:=ac h1 (j:=7) (u:=(L 5:Int)) rfl;clear h1 h2 h3 h4 h5 h6 h7;go_wp2_with fail
  all_goals
   refine(ie (L 0) (L 1) (L 2) (L 3) (L 4) (L 5) 5 _ _).mono ?_;rintro e w1 ⟨c1,u,rfl,⟨fh,fl,fs,rfl,b6⟩,hb⟩;obtain⟨fA,fq,fr,rfl,-⟩:=b6.slice;have d3:=Qa (HR.below hb);have d5:=Qa (b3.trans (Rk.of_below hb (Zj HR.lt)));have d0:=Qa ((hb.block _ (ah b8)).trans b8.out);clear b6 hb c2 c3 c4 c5 c6 c7;go_wp2_with fail;refine(fc d3 c1 fh fl fA fq fr).mono ?_;rintro e w2 ⟨⟨b,rfl⟩,d6,b4,-⟩;have a0:=b4.row d0.out da;have c8:=Qa (d5.trans b4);obtain⟨a1,a2,a3,a4,a5,a6,a7,L,m,hh,l,us,w0,h1,h2,h3,h4,h5,h6,h7⟩:=d6;have c11:=ac h1 (j:=11) (u:=(m 3:Int)) rfl;have f11:=ao h1 11;have hne:¬w.heap.size=rb:=by omega
   have t4:=ac a0 (j:=4) (u:=.bool dn) rfl;have t5:=ac a0 (j:=5) (u:=.string dd) rfl;have t6:=ac a0 (j:=6) (u:=(dx:Int)) rfl;have b9:∀X:Int,Rd xs rb (w2.setCell (no rb 11) (X:Int)) at_ k (if c=0 then c1 else c):=fun X=>
    ⟨a1,a2,a3,a4,a5,a6,a7,L,fun i=>if i=3 then X else m i,hh,l,us,w0,az h1 11 (X:Int),h2,h3,h4.trans (Rk.set h1 11 _).1,kg h5,h6,h7⟩
   have b5:=Qa b9;have c0:=Qa (fun X:Int=>Rk.set h1 11 (X:Int));clear b9 h1 h2 h3 h4 h5 h6 h7 b4 a0;go_wp2_with fail
   all_goals
    refine(kF ⟨dn,dd,dx⟩ _).mono ?_;rintro e w4 ⟨v,rfl,b1,c9⟩;have d4:=Qa ((b5 _).below b1);have d1:=Qa ((c8.trans (c0 _)).trans (Rk.of_below b1 (Zj (b5 _).lt)));have d2:=Qa ((c9.low (Zj (b5 _).lt)).imp (Q:=(w.heap.size<= ·)) (fun g h _=>Zc (c8.trans (c0 _)).2.1 h));clear b1 c9;go_wp2;go_ret;exact⟨v,.mk 3 false es ⟨dn,dd,dx⟩ [] [],_,rfl,.inr (.inr (.inl ⟨rfl,rfl⟩)),d2,d4,d1⟩
 have b0:∀ (j:JV) (e:Ending) (x:Nd) (w':Wd),jk (w.alloc (.cells #[(tk:Int),(ta:Int),.int .u8 tm,ts,.bool dn,dd,(dx:Int)] 201)) x e w'->j.flat 0 = [x]->Lf ⟨tk,ta,tm,ts,⟨dn,dd,dx⟩⟩ j->Do xs rb w at_ k ⟨tk,ta,tm,ts,⟨dn,dd,dx⟩⟩ e w':=by
  rintro j e x w' ⟨v,rfl,hb,hf⟩ hj hl;exact⟨v,j,c,rfl,hl,by rw[hj];exact(hf.low (Zj HR.lt)).imp (fun g h _=>Zc b3.2.1 h),HR.below hb,b3.trans (Rk.of_below hb (Zj HR.lt))⟩
 have a9:=Qa b0;clear b0
 by_cases h4:tk=4
 .subst h4;go_wp2_with fail;refine(nR ts _).mono ?_;rintro e w' ⟨v,rfl,hb,hf⟩;have hp:=a9 (.mk 4 false ts jx [] []) _ _ w' ⟨v,rfl,hb,hf⟩ rfl (.inr (.inr (.inr ⟨rfl,rfl⟩)));have Hp:=Qa hp;clear hp hb hf;go_wp2;go_ret;exact Hp.out
 have d7:(tk==3)=false:=by simpa using h3
 have d9:(tk==4)=false:=by simpa using h4
 clear h3 h4;go_wp2_with fail
 .refine(nO _).mono ?_;rintro e w' ⟨v,rfl,hb,hf⟩;have hp:=a9 (.mk 1 false es jx [] []) _ _ w' ⟨v,rfl,hb,hf⟩ rfl (.inl rfl);have Hp:=Qa hp;clear hp hb hf;go_wp2;go_ret;exact Hp.out
 .refine(nr _ _).mono ?_;rintro e w' ⟨v,rfl,hb,hf⟩;have hp:=a9 (.mk 2 _ es jx [] []) _ _ w' ⟨v,rfl,hb,hf⟩ rfl (.inr (.inl ⟨_,rfl⟩));have Hp:=Qa hp;clear hp hb hf;go_wp2;go_ret;exact Hp.out
theorem ki:dH 163 262 (.agg #[(0:Int),(0:Int),(0:Int),ByteArray.empty,()]) 5 64:=⟨underlying163,by kernel_rfl,rfl,by decide⟩
inductive cW (asc:List Nc->Prop):JV->Prop
 |null:cW asc (.mk 1 false es jx [] [])
 |bool (b:Bool):cW asc (.mk 2 b es jx [] [])
 |num (d:Dc):d.digits.size<=6000+1->kt d->cW asc (.mk 3 false es d [] [])
 |text (s:Nc):jL s->cW asc (.mk 4 false s jx [] [])
 |list (ks:List JV):(∀u∈ks,cW asc u)->cW asc (.mk 5 false es jx [] ks)
 |obj (ns:List Nc) (ks:List JV):ns.length=ks.length->(∀s∈ns,jL s)->asc ns->(∀u∈ks,cW asc u)->cW asc (.mk 6 false es jx ns ks)
theorem cW.of_leaf {asc:List Nc->Prop}{t:Tk}(h:Lf t j)(ht:kv t):cW asc j:=by
 rcases h with rfl|⟨b,rfl⟩|⟨hk,rfl⟩|⟨hk,rfl⟩
 .exact .null
 .exact .bool b
 .exact .num _ ht.2.1 (ht.2.2 hk)
 .exact .text _ (ht.1 hk)
theorem Lf.size {t:Tk}(h:Lf t j):j.size=1:=by
 rcases h with rfl|⟨b,rfl⟩|⟨_,rfl⟩|⟨hk,rfl⟩ <;> simp[JV.size,JV.sizes]
theorem iQ:¬TR 9:=by unfold TR;decide
theorem lO:¬TR 3:=by unfold TR;decide
theorem lJ:¬TR 74:=by unfold TR;decide
def kr (asc:List Nc->Prop)(xs:Na)(rb:Nat)(w:Wd)(at_:Nat)(p:Prop)(e:Ending)(w':Wd):Prop:= ∃ (A:OA) (n q at' k':Nat) (c:Int),e =.returned (.slice A n q)/\Rd xs rb w' at' k' c/\Rk rb w w'/\at_<=at'/\
 (c=0->p/\∃j:JV,cW asc j/\bo (w.heap.size<= ·) w' rb (.slice A n q) (j.flat 0)/\j.size+at_<=at'+1)
theorem xj {asc:List Nc->Prop}{p:JV->Prop}(h:∃j:JV,cW asc j/\bo (w.heap.size<= ·) w' rb v (j.flat 0)/\p j)(hB:B<=w.heap.size):∃j:JV,cW asc j/\bo (B<= ·) w' rb v (j.flat 0)/\p j:=by
 obtain⟨j,h1,h2,h3⟩:=h;exact⟨j,h1,h2.imp (fun g h _=>Zc hB h),h3⟩
theorem bl {t:Tk}(h:W.heap[g]?=some (.cells (fd t) 201 (0,0))):W.cell? (nl g)=some (.int .i64 t.kind)/\W.cell? (no g 1)=some (.int .i64 t.at_)/\W.cell? (no g 2)=some (.int .u8 t.mark)/\W.cell? (no g 3)=some (.string t.str)/\W.cell? (no g 4)=some (.bool t.num.neg)/\W.cell? (no g 5)=some (.string t.num.digits)/\W.cell? (no g 6)=some (.int .i64 t.num.exp):=
 ⟨ac h rfl,ac h rfl,ac h rfl,ac h rfl,ac h rfl,ac h rfl,ac h rfl⟩
theorem Rd.code {k:Nat}{c:Int}(h:Rd xs rb w at_ k c):w.cell? (no rb 13)=some (.int .i64 c):=by
 obtain⟨a1,a2,a3,a4,a5,a6,a7,L,m,hh,l,us,w0,h1,_⟩:=h;exact ac h1 rfl
theorem ke {k:Nat}{c:Int}{bA eA sA:OA}{bc ec sn sc c':Nat}{L:Fin 6->Int}{m:Fin 4->Int}{h l:Int}
  (h1:W.heap[rb]?=some (.cells (fo (.slice bA xs.length bc) at_ L m (.slice eA k ec) c h l (.slice sA sn sc)) 165 (0,0))) (h2:Bs w0 (.slice bA xs.length bc) xs) (h3:w0.heap.size<=rb) (h4:Below rb w0 W) (h5:W.ownsRow (rb+1) 262 5 (.slice eA k ec) k us) (h6:at_<=xs.length) (hk:k+1<=at_)
  (hv:W'.ownsRow (rb+1) 262 5 (.slice A' (k+1) c') (k+1) us') (hg:W.grownBy W' (Value.slice eA k ec).ownBlock) :
  W'.heap[rb]?=some (.cells (fo (.slice bA xs.length bc) at_ L m (.slice eA k ec) c h l (.slice sA sn sc)) 165 (0,0))/\Rd xs rb (W'.setCell (no rb 12) (.slice A' (k+1) c')) at_ (k+1) c/\Rk rb W (W'.setCell (no rb 12) (.slice A' (k+1) c')):=by
 have hlt:=ah h1;have hb:Below (rb+1) W W':=aD (Ze (rb+1) W) h5 hlt hg;have hr:=(hb.block rb (Nat.lt_succ_self _)).trans h1;have a0:Below rb W W':=hb.mono (Nat.le_succ _);have a1:Rk rb W W':=⟨a0,aK.of_grown hg (fun g e cs t z hh=>by obtain⟨cs',z',h'⟩:=cK h5 g e;rw[h'] at hh;injection hh with hh;injection hh with _ hh;exact .inl hh.symm)⟩;have hs:=Rk.set hr 12 (.slice A' (k+1) c');exact⟨hr,⟨bA,bc,A',c',sA,sn,sc,L,m,h,l,us',w0,az hr 12 _,h2,h3,(h4.trans a0).trans hs.1,kg hv,h6,hk⟩,a1.trans hs⟩
theorem qm (asc:List Nc->Prop)(hl:xs.length<=6000)(t:Tk)
  (hL:t.kind=1->∀ (w:Wd) (k:Nat) (d:Int),Rd xs rb w at_ k 0->k+1<=at_->Calls prog 147 #[.pointer (some (nl rb)),(d:Int)] w (kr asc xs rb w at_ True))
  (hO:t.kind=1->∀ (w:Wd) (k:Nat) (d:Int),Rd xs rb w at_ k 0->k+1<=at_->Calls prog 148 #[.pointer (some (nl rb)),(d:Int)] w (kr asc xs rb w at_ True))
  {w:Wd} {k:Nat} {c:Int} (h:Rd xs rb w at_ k c) (hk:c=0->(t.kind≠5->k+1<=at_)/\kv t) (d:Int) :
  Calls prog 112 #[.pointer (some (nl rb)),ly t,(d:Int)] w (kr asc xs rb w at_ (t.kind≠5)):=by
 have Ht:=Qa hk;have HL:=Qa hL;have HO:=Qa hO;have hlt:=h.lt;have b0:=aa w (.cells (fd t) 201);have e3:=Zf w (.cells (fd t) 201);have HR:=Qa (h.below b0);have b5:=Qa e3;have b7:=Qa (Rk.of_below b0 (Zj hlt));have cc:=(h.below b0).code;clear hk hL hO h b0 e3;obtain⟨tk,ta,tm,ts,⟨dn,dd,dx⟩⟩:=t;unfold ly;simp only[fd] at HR b5 b7 cc;go_in
 by_cases hc:c=0
 case neg=>
  have e6:(c !=0)=true:=by simpa using hc
  have Hc:=Qa hc;clear hc;go_wp2;go_ret;exact⟨_,_,_,at_,k,c,rfl,HR,b7,Zb _,fun h=>absurd h Hc.out⟩
 subst hc;obtain⟨hk,h8⟩:=Ht rfl;have Hk:=Qa hk;have H8:=Qa h8;clear hk h8 Ht;go_upto_region 3 with fail
 generalize (w.alloc (.cells #[(tk:Int),(ta:Int),.int .u8 tm,ts,.bool dn,dd,(dx:Int)] 201))=w1 at *;have mk:∀ (X:Int) (W:Wd),Calls prog 145 #[.agg #[(tk:Int),(ta:Int),.int .u8 tm,ts,.bool dn,dd,(dx:Int)],.int .u8 X] W fun e w'=>iW ⟨tk,ta,tm,ts,⟨dn,dd,dx⟩⟩ X W e w':=fun X W=>gd ⟨tk,ta,tm,ts,⟨dn,dd,dx⟩⟩ X W
 have Mk:=Qa mk;clear mk cc;go_cut [7] (fun s7 wx=>(∃b:Bool,s7 =.bool b)/\ge w1 wx)
 case first=>
  obtain⟨t0,t1,t2,t3,t4,t5,t6⟩:=bl (t:=⟨tk,ta,tm,ts,⟨dn,dd,dx⟩⟩) b5.out;go_wp2_with fail;refine(Mk 91 w1).mono ?_;rintro e w2 ⟨b1,rfl,-,a9⟩;have u0:=Zg a9 t0;have u1:=Zg a9 t1;have u2:=Zg a9 t2;have u3:=Zg a9 t3;have u4:=Zg a9 t4;have u5:=Zg a9 t5;have u6:=Zg a9 t6;have Hb1:=Qa a9;clear a9 t0 t1 t2 t3 t4 t5 t6
  cases b1
  .go_wp2_with fail;refine(Mk 123 w2).mono ?_;rintro e w3 ⟨b2,rfl,-,f5⟩;have Hb2:=Qa (Hb1.trans (f5.mono Hb1.size));clear f5 u0 u1 u2 u3 u4 u5 u6;go_wp2_with fail;go_meet
   case rel=>exact⟨⟨_,rfl⟩,Hb2⟩
  .clear u0 u1 u2 u3 u4 u5 u6;go_wp2_with fail;go_meet
   case rel=>exact⟨⟨_,rfl⟩,Hb1⟩
 case rest=>
  obtain⟨⟨b,rfl⟩,a9⟩:=hcut;have HR:=Qa (HR.below a9);have b7:=Qa (b7.trans (Rk.of_below a9 (Zc (Zj hlt) b7.2.1)));have b5:=Qa ((a9.block _ (ah b5)).trans b5.out);clear a9;obtain⟨w2,f0⟩:=y7 wc;rw[f0] at HR b7 b5 ⊢;clear f0;obtain⟨t0,t1,t2,t3,t4,t5,t6⟩:=bl (t:=⟨tk,ta,tm,ts,⟨dn,dd,dx⟩⟩) b5.out;go_upto_region 4 with fail
  go_cut [32] (fun s32 wx=>(∃q:Bool,s32 =.bool q/\(q=false->tk≠5))/\w2=wx)
  case first=>
   by_cases e5:tk=5
   .have e5':(tk==5)=true:=by simpa using e5
    clear e5;go_wp2_with fail;go_meet
    case rel=>exact⟨⟨_,rfl,fun h=>absurd h (by simp)⟩,rfl⟩
   have e5':(tk==5)=false:=by simpa using e5
   have E5:=Qa e5
   by_cases e1:tk=1
   .have e1':(tk==1)=true:=by simpa using e1
    clear e5 e1;go_wp2_with fail;go_meet
    case rel=>exact⟨⟨_,rfl,fun _=>E5.out⟩,rfl⟩
   have e1':(tk==1)=false:=by simpa using e1
   clear e1 e5;go_wp2_with fail;go_meet
   case rel=>exact⟨⟨_,rfl,fun _=>E5.out⟩,rfl⟩
  case rest=>
   obtain⟨⟨q,rfl,hq⟩,rfl⟩:=hcut;have Hq:=Qa hq;clear hq;have wr:Calls prog 113 #[.pointer (some (nl rb)),.agg #[(tk:Int),(ta:Int),.int .u8 tm,ts,.bool dn,dd,(dx:Int)]] w2 (kR xs rb w2 at_ k):=fV HR.out ⟨tk,ta,tm,ts,⟨dn,dd,dx⟩⟩;have Wr:=Qa wr;clear wr
   cases q
   case true=>
    go_wp2_with fail;refine Za Wr ?_;rintro e w3 ⟨⟨v,rfl⟩,c,hc,c3,c2⟩;have Hc:=Qa hc;have c8:=Qa c3;have d2:=Qa (b7.trans c2);clear hc c3 c2;go_wp2;go_ret;exact⟨_,_,_,at_,k,c,rfl,c8,d2,Zb _,fun h=>absurd h Hc.out⟩
   have c7:=Qa (Hk (Hq rfl));have c1:=Qa (show tk≠5 from Hq rfl);clear Wr Hk Hq;go_wp2_with fail;refine(wD HR d).mono ?_;rintro e w3 ⟨⟨v,rfl⟩,c,c3,c2⟩;have b8:=c2.row b5.out da;obtain⟨u0,u1,u2,u3,u4,u5,u6⟩:=bl (t:=⟨tk,ta,tm,ts,⟨dn,dd,dx⟩⟩) b8;have cc:=c3.code;have c8:=Qa c3;have d2:=Qa (b7.trans c2);have c9:=Qa b8;clear c3 c2 b8 t0 t1 t2 t3 t4 t5 t6
   by_cases hc:c=0
   case neg=>
    have e6:(c !=0)=true:=by simpa using hc
    have Hc:=Qa hc;clear hc;go_wp2;go_ret;exact⟨_,_,_,at_,k,c,rfl,c8,d2,Zb _,fun h=>absurd h Hc.out⟩
   subst hc;go_wp2_with fail;refine(Mk 91 w3).mono ?_;rintro e w4 ⟨b1,rfl,f4,d0⟩;have f6:=Qa f4;have d5:=Qa (c8.below d0);have d6:=Qa (d2.trans (Rk.of_below d0 (Zj c8.lt)));have c0:=(d0.block _ (ah c9)).trans c9.out;have c5:=Qa c0;obtain⟨v0,v1,v2,v3,v4,v5,v6⟩:=bl (t:=⟨tk,ta,tm,ts,⟨dn,dd,dx⟩⟩) c0;clear f4 d0 c0 u0 u1 u2 u3 u4 u5 u6 cc
   cases b1
   case true=>
    go_wp2_with fail;refine(HL (f6 trivial) w4 k d d5 c7).mono ?_;rintro e w5 ⟨A,n,q,at',k',c',rfl,f3,e8,hat,hj⟩;have HP:=Qa (show kr asc xs rb w at_ (tk≠5) (.returned (.slice A n q)) w5 from⟨A,n,q,at',k',c',rfl,f3,d6.trans e8,hat,fun h=>⟨c1,xj (hj h).2 d6.2.1⟩⟩);clear f3 e8 hat hj;go_wp2;go_ret;exact HP.out
   go_wp2_with fail;refine(Mk 123 w4).mono ?_;rintro e w5 ⟨b2,rfl,e2,d1⟩;have g0:=Qa e2;have e0:=Qa (d5.below d1);have b3:=Qa (d6.trans (Rk.of_below d1 (Zj d5.lt)));have b9:=(d1.block _ (ah c5)).trans c5.out;have f9:=Qa b9;obtain⟨x0,x1,x2,x3,x4,x5,x6⟩:=bl (t:=⟨tk,ta,tm,ts,⟨dn,dd,dx⟩⟩) b9;clear e2 d1 b9 v0 v1 v2 v3 v4 v5 v6
   cases b2
   case true=>
    go_wp2_with fail;refine(HO (g0 trivial) w5 k d e0 c7).mono ?_;rintro e w6 ⟨A,n,q,at',k',c',rfl,c4,c6,hat,hj⟩;have HP:=Qa (show kr asc xs rb w at_ (tk≠5) (.returned (.slice A n q)) w6 from⟨A,n,q,at',k',c',rfl,c4,b3.trans c6,hat,fun h=>⟨c1,xj (hj h).2 b3.2.1⟩⟩);clear c4 c6 hat hj;go_wp2;go_ret;exact HP.out
   have lf:Calls prog 149 #[.pointer (some (nl rb)),.agg #[(tk:Int),(ta:Int),.int .u8 tm,ts,.bool dn,dd,(dx:Int)]] w5 fun e w'=>Do xs rb w5 at_ k ⟨tk,ta,tm,ts,⟨dn,dd,dx⟩⟩ e w':=Dj e0.out ⟨tk,ta,tm,ts,⟨dn,dd,dx⟩⟩
   have LF:=Qa lf;clear lf;go_wp2_with fail;refine Za LF ?_;rintro e w6 ⟨v,j,c,rfl,f2,d4,c4,c6⟩;have d3:=Qa c4;have e4:=Qa (b3.trans c6);have cc:=c4.code;have g5:∃A n q,v =.slice A n q:=by
    obtain⟨A,q,e,_⟩:=d4.form;exact⟨A,_,q,e⟩
   obtain⟨A,n,q,rfl⟩:=g5;have d9:=Qa f2;have g3:=Qa d4;clear c4 c6 f2 d4
   by_cases hc:c=0
   case neg=>
    have e6:(c !=0)=true:=by simpa using hc
    have Hc:=Qa hc;clear hc;go_wp2;go_ret;exact⟨_,_,_,at_,k,c,rfl,d3,e4,Zb _,fun h=>absurd h Hc.out⟩
   subst hc;have b0:=aa w6 (.cells #[(3:Int),(d:Int),(0:Int),es,.slice A n q] 262);have b4:=d3.lt;obtain⟨a1,a2,a3,a4,a5,a6,a7,L,m,hh,l,us,w0,h1,h2,h3,h4,h5,h6,h7⟩:=d3.out;have c12:=ac h1 (j:=12) (u:=.slice a3 k a4) rfl;have g1:=(b0.block _ b4).trans h1;have H:=x9 g1 h2 h3 (h4.trans (b0.mono (Zj b4))) (aq h5 b0 (Zb _)) h6;have g2:=Qa (au w6 [(3:Int),(d:Int),(0:Int),es,.slice A n q] 262);have f1:=Qa b0;have g4:=Qa (show rb+1<=w6.heap.size from b4);have e7:=Qa h6;clear h1 h2 h3 h4 h5 h6 h7 b0 g1 b4;go_wp2_with (at_builtin;refine ir ki H.2.2.2.2.1 g2.out (Zc g4 f1.size) ?_ (hlen:=(by have:=c7.out;have:=e7.out;unfold maxLen;omega)) (hby:=(by have:=c7.out;have:=e7.out;omega));intro v' w7 p1 p2 p3;have f7:=Qa p1;have f8:=Qa p2;(obtain⟨A',c',he,-⟩:=ai p1);subst he;have a0:=ke H.1 H.2.1 H.2.2.1 H.2.2.2.1 H.2.2.2.2.1 H.2.2.2.2.2 c7.out f7.out f8.out;have r12:=ac a0.1 (j:=12) (u:=.slice a3 k a4) rfl;have f12:=ao a0.1 12;have d7:=Qa a0;clear p1 p2 p3 a0);go_ret;have b6:=(Rk.of_below f1 (Zj d3.lt)).trans d7.2.2;exact⟨A,n,q,at_,k+1,0,rfl,d7.2.1,e4.trans b6,Zb _,fun _=>⟨c1,j,cW.of_leaf d9 H8,(g3.keeps b6.2 iQ lO lJ).imp (fun g h _=>Zc b3.2.1 h),by rw[Lf.size d9.out];omega⟩⟩
theorem mn:∀ (l:List JV) (p q:Nat),q∈aZ p l->q<=p+JV.sizes l
 | [],p,q,h=>by simp[aZ] at h
 |v::vs,p,q,h=>by
  simp only[aZ,List.mem_cons] at h;simp only[JV.sizes];rcases h with rfl|h
  .omega
  .have:=mn vs (p+v.size) q h;omega
theorem fT (l:List JV):l.length<=JV.sizes l:=bW l
theorem oZ {asc:List Nc->Prop}{v:JV}(h:cW asc v):∀p,∀x∈v.flat p,x.names.length<=v.size/\∀q∈x.kids,q<=p+v.size:=by
 have key:∀ (ks:List JV),(∀u∈ks,∀p,∀x∈u.flat p,x.names.length<=u.size/\∀q∈x.kids,q<=p+u.size)->∀p,∀y∈JV.flats p ks,y.names.length<=JV.sizes ks/\∀q∈y.kids,q<=p+JV.sizes ks:=by
  intro ks
  induction ks with
  |nil=>intro _ p y h;simp[JV.flats] at h
  |cons v vs ih=>
   intro hu p y h;simp only[JV.flats,List.mem_append] at h;simp only[JV.sizes];rcases h with h|h
   .have ⟨h1,h2⟩:=hu v (by simp) p y h;exact⟨by omega,fun q hq=>by have:=h2 q hq;omega⟩
   .have ⟨h1,h2⟩:=ih (fun u hm=>hu u (Zm _ hm)) (p+v.size) y h;exact⟨by omega,fun q hq=>by have:=h2 q hq;omega⟩
 induction h with
 |null|bool b|num d _ _|text s _=>intro p x hx;simp[JV.flat,JV.flats,aZ] at hx;subst hx;simp
 |list ks hks ih=>
  intro p x hx;simp only[JV.flat,List.mem_cons] at hx;simp only[JV.size];rcases hx with rfl|hx
  .exact⟨by simp,fun q hq=>by have:=mn ks (p+1) q hq;omega⟩
  .have ⟨h1,h2⟩:=key ks ih (p+1) x hx;exact⟨by omega,fun q hq=>by have:=h2 q hq;omega⟩
 |obj ns ks hl h8 ha hks ih=>
  intro p x hx;simp only[JV.flat,List.mem_cons] at hx;simp only[JV.size];rcases hx with rfl|hx
  .have:=fT ks;exact⟨by show ns.length<=_;omega,fun q hq=>by have:=mn ks (p+1) q hq;omega⟩
  .have ⟨h1,h2⟩:=key ks ih (p+1) x hx;exact⟨by omega,fun q hq=>by have:=h2 q hq;omega⟩
def nX (len rb:Nat)(wr:Wd):Nat:=2* (len - (intOf ((wr.cell? (no rb 1)).getD undef)).toNat)+ (if intOf ((wr.cell? (no rb 13)).getD undef)=0 then 1 else 0)
theorem Rd.mu {k:Nat}{c:Int}(h:Rd xs rb w at_ k c):nX xs.length rb w=2* (xs.length - at_)+ (if c=0 then 1 else 0):=by
 have hc:=h.code;obtain⟨a1,a2,a3,a4,a5,a6,a7,L,m,hh,l,us,w0,h1,_⟩:=h;have a0:=ac h1 (j:=1) (u:=(at_:Int)) rfl;unfold nX;rw[a0,hc]
 by_cases h:c=0 <;> simp[intOf,h]
theorem ej:dH 24 27 () 1 24:=⟨underlying24,by kernel_rfl,rfl,by decide⟩
theorem fG {t:JV}(h:t∈ts):t.size<=JV.sizes ts:=by
 obtain⟨i,hi,rfl⟩:=List.getElem_of_mem h;have:=kP (Zd hi);omega
def AZ (asc:List Nc->Prop)(xs:Na)(rb:Nat)(w:Wd)(at_:Nat)(e:Nat)(s5:Value)(wx:Wd):Prop:= ∃ (A:OA) (n q:Nat) (vs:Nb) (ts:List JV) (at' k':Nat) (c:Int),s5 =.slice A n q/\wx.ownsRow w.heap.size 27 1 (.slice A n q) n vs/\n<=at'/\Rd xs rb wx at' k' c/\Rk rb w wx/\at_<=at'/\
 (c=0->(∀u∈ts,cW asc u)/\bC (fun v ns=>cS wx rb v ns) vs (ts.map (JV.flat 0))/\JV.sizes ts+at_<=at'/\k'+e<=at')
theorem Rd.grownTree {k:Nat}{c:Int}(h:Rd xs rb W at_ k c)(hv:W.ownsRow B 27 1 v n vs)(hB:rb<B)(a9:B<=W.heap.size)(hg:W.grownBy W' v.ownBlock):Rd xs rb W' at_ k c:=by
 have hlt:=h.lt;have hb:Below B W W':=aD (Ze B W) hv a9 hg;obtain⟨a1,a2,a3,a4,a5,a6,a7,L,m,hh,l,us,w0,h1,h2,h3,h4,h5,h6⟩:=h;refine⟨a1,a2,a3,a4,a5,a6,a7,L,m,hh,l,us,w0,(hb.block rb hB).trans h1,h2,h3,h4.trans (hb.mono (Zj hB)),World.ownsRow.kept h5 hg ?_,h6⟩
 cases hb:(Value.slice a3 k a4).ownBlock with
 |none=>exact .inl rfl
 |some x=>
  obtain⟨_,cur,hx⟩:=am h5 hb;refine .inr (fun e=>?_);obtain⟨_,cur2,a0⟩:=am hv e.symm;rw[hx] at a0;injection a0 with a0;injection a0 with _ a0;exact absurd a0 (by decide)
theorem Rk.grownFresh (h:Rk rb w W){row:Option Nat}(hg:W.grownBy W' row)(hr:∀g,row=some g->w.heap.size<=g)(hrb:rb<=w.heap.size):Rk rb w W':=
 ⟨h.1.grown hg (Zc hrb h.2.1) (fun g e=>Zc hrb (hr g e)),Zc h.2.1 hg.size,fun g cs e z hh he=>by
  have hlt:=ah hh;have:=h.2.2 g cs e z hh he;exact(hg.block g (ah this) (fun e'=>by have:=hr g e'.symm;omega)).trans this⟩
def LS (asc:List Nc->Prop)(xs:Na)(rb:Nat)(w:Wd)(at_ tb lo:Nat)(p:Prop)(at' k':Nat)(c:Int)(s5:Value)(t:Tk)(wx:Wd):Prop:= ∃ (A:OA) (n q:Nat) (vs:Nb) (ts:List JV),s5 =.slice A n q/\wx.ownsRow w.heap.size 27 1 (.slice A n q) n vs/\(n<=lo/\lo<=at')/\Rd xs rb wx at' k' c/\Rk rb w wx/\at_<=lo/\
 wx.heap[tb]?=some (.cells (fd t) 201 (0,0))/\w.heap.size<=tb/\rb<w.heap.size/\(p->(∀u∈ts,cW asc u)/\bC (fun v ns=>cS wx rb v ns) vs (ts.map (JV.flat 0))/\JV.sizes ts+at_<=lo)
section
variable {asc:List Nc->Prop}{xs:Na}{rb:Nat}{w wx:Wd}{at_ tb lo at' k':Nat}{p:Prop}{c:Int}{s5:Value}{t:Tk}
theorem LS.rd (h:LS asc xs rb w at_ tb lo p at' k' c s5 t wx):Rd xs rb wx at' k' c:=by obtain⟨_,_,_,_,_,_,_,_,h,_⟩:=h;exact h
theorem LS.shape (h:LS asc xs rb w at_ tb lo p at' k' c s5 t wx):∃A n q,s5 =.slice A n q:=by obtain⟨A,n,q,_,_,h,_⟩:=h;exact⟨A,n,q,h⟩
theorem Rd.kle {k:Nat}(h:Rd xs rb w at_ k c):k<=at_:=by obtain⟨_,_,_,_,_,_,_,_,_,_,_,_,_,_,_,_,_,_,_,h⟩:=h;exact h
theorem Rd.atle {k:Nat}(h:Rd xs rb w at_ k c):at_<=xs.length:=by obtain⟨_,_,_,_,_,_,_,_,_,_,_,_,_,_,_,_,_,_,h,_⟩:=h;exact h
theorem Rd.mu_lt {jy lP:Nat}{c2:Int}(h1:Rd xs rb w1 jy k1 0)(h2:Rd xs rb w2 lP k2 c2)(h:jy+1<=lP):nX xs.length rb w2<nX xs.length rb w1:=by
 rw[h1.mu,h2.mu];have:=h2.atle;split <;> simp <;> omega
theorem LS.tok (h:LS asc xs rb w at_ tb lo p at' k' c s5 t wx):wx.heap[tb]?=some (.cells (fd t) 201 (0,0)):=by obtain⟨_,_,_,_,_,_,_,_,_,_,_,h,_⟩:=h;exact h
theorem LS.step {lP:Nat}{c2:Int}(h:LS asc xs rb w at_ tb lo p at' k' c s5 t wx)(hR:Rd xs rb w2 lP k2 c2)(hk:Rk rb wx w2)(hat:at'<=lP):LS asc xs rb w at_ tb lo p lP k2 c2 s5 t w2:=by
 obtain⟨A,n,q,vs,ts,rfl,h1,h2,h3,h4,h5,h6,h7,h8,h9⟩:=h;refine⟨A,n,q,vs,ts,rfl,ap h1 hk.2 (by unfold TR;decide),⟨h2.1,by omega⟩,hR,h4.trans hk,h5,hk.row h6 da,h7,h8,fun e=>?_⟩;obtain⟨g1,g2,g3⟩:=h9 e;exact⟨g1,g2.mono fun _ _ h=>h.keeps hk.2 iQ lO lJ,g3⟩
theorem LS.put (h:LS asc xs rb w at_ tb lo p at' k' c s5 t wx)(t2:Tk):LS asc xs rb w at_ tb lo p at' k' c s5 t2 (wx.setRow tb (fd t2)):=by
 obtain⟨A,n,q,vs,ts,rfl,h1,h2,h3,h4,h5,h6,h7,h8,h9⟩:=h;have a0:aK (fun e=>e=201) wx (wx.setRow tb (fd t2)):=aK.of_grown (aj ..) (fun g e cs T z hh=>by cases e;rw[h6] at hh;injection hh with hh;injection hh with _ hh;exact hh.symm);refine⟨A,n,q,vs,ts,rfl,ap h1 a0 (by decide),h2,h3.other h6 da (by omega) _,h4.fresh h7 (Zj h8) _,h5,setRow_heap _ _ _ _ _ _ h6,h7,h8,fun e=>?_⟩;obtain⟨g1,g2,g3⟩:=h9 e;exact⟨g1,g2.mono fun _ _ h=>h.keeps a0 (by decide) (by decide) (by decide),g3⟩
theorem LS.below (h:LS asc xs rb w at_ tb lo p at' k' c s5 t wx)(hb:ge wx w2):LS asc xs rb w at_ tb lo p at' k' c s5 t w2:=
 h.step (h.rd.below hb) (Rk.of_below hb (Zj h.rd.lt)) (Zb _)
theorem LS.open (h:LS asc xs rb w at_ tb lo p at' k' c (.slice A n q) t wx):∃vs ts,wx.ownsRow w.heap.size 27 1 (.slice A n q) n vs/\n<=lo/\(p->(∀u∈ts,cW asc u)/\bC (fun v ns=>cS wx rb v ns) vs (ts.map (JV.flat 0))/\JV.sizes ts+at_<=lo):=by
 obtain⟨_,_,_,vs,ts,e,h1,h2,_,_,_,_,_,_,h9⟩:=h;injection e with e1 e2 e3
 subst e1 e2 e3;exact⟨vs,ts,h1,h2.1,h9⟩
theorem LS.rk (h:LS asc xs rb w at_ tb lo p at' k' c s5 t wx):Rk rb w wx/\at_<=lo/\lo<=at'/\w.heap.size<=tb/\rb<w.heap.size:=by
 obtain⟨_,_,_,vs,ts,e,h1,h2,_,h4,h5,h6,h7,h8,h9⟩:=h;exact⟨h4,h5,h2.2,h7,h8⟩
theorem LS.push {W4:Wd}{A4:OA}{a4n a4q:Nat}(h1:wx.ownsRow w.heap.size 27 1 (.slice A n q) n vs)(h2:n+1<=at4)(h4:Rk rb w wx)(h6:wx.heap[tb]?=some (.cells (fd t) 201 (0,0)))(h7:w.heap.size<=tb)(h8:rb<w.heap.size)
  (h9:p->(∀u∈ts,cW asc u)/\bC (fun v ns=>cS wx rb v ns) vs (ts.map (JV.flat 0))/\JV.sizes ts+at_<=lo) (hat:at_<=at4)
  (hR:Rd xs rb W4 at4 k4 c4) (hk:Rk rb wx W4) (hj:c4=0->p/\∃j:JV,cW asc j/\cS W4 rb (.slice A4 a4n a4q) (j.flat 0)/\j.size+lo<=at4) {v':Value}
  (hv:W2.ownsRow w.heap.size 27 1 v' (n+1) (vs ++ [.slice A4 a4n a4q])) (hg:(W4.alloc (.cells #[.slice A4 a4n a4q] 27)).grownBy W2 (Value.slice A n q).ownBlock):LS asc xs rb w at_ tb at4 (c4=0) at4 k4 c4 v' t W2:=by
 obtain⟨A',q',rfl,-⟩:=ai hv;have a3:=aa W4 (.cells #[.slice A4 a4n a4q] 27);have a1:Rk rb wx (W4.alloc (.cells #[.slice A4 a4n a4q] 27)):=hk.trans (Rk.of_below a3 (Zj hR.lt));have hw:=h4.2.1;have a0:=ap h1 a1.2 (by unfold TR;decide);have a4:=Zc hw a1.2.1;have a2:aK (fun e=>e=27) (W4.alloc (.cells #[.slice A4 a4n a4q] 27)) W2:=aK.of_grown hg (fun g e cs T z hh=>by obtain⟨cs',z',h'⟩:=cK a0 g e;rw[h'] at hh;injection hh with hh;injection hh with _ hh;exact hh.symm);refine⟨A',n+1,q',vs ++ [.slice A4 a4n a4q],(@dite _ (c4=0) (Classical.propDecidable _) (fun h=>ts ++ [Classical.choose (hj h).2]) (fun _=> [])),rfl,hv,⟨h2,Zb _⟩,(hR.below a3).grownTree a0 h8 a4 hg,(h4.trans a1).grownFresh hg (fun g e=>(am a0 e).1) (Zj h8),hat,a2.2 _ _ _ _ (a1.row h6 da) (by decide),h7,h8,fun e=>?_⟩;simp only[dif_pos e];obtain⟨g1,g2,g3⟩:=h9 (hj e).1;obtain⟨q1,q2,q3⟩:=Classical.choose_spec (hj e).2;generalize Classical.choose (hj e).2=j at *;refine⟨fun u hu=>?_,?_,?_⟩
 .rcases List.mem_append.1 hu with hu|hu
  .exact g1 u hu
  .rw[List.mem_singleton] at hu;subst hu;exact q1
 .rw[List.map_append];exact(g2.mono fun _ _ h=>(h.keeps a1.2 iQ lO lJ).keeps a2 (by decide) (by decide) (by decide)).snoc ((q2.below a3 (Zb _)).keeps a2 (by decide) (by decide) (by decide))
 .rw[dk];simp only[JV.sizes];omega
def MW (asc:List Nc->Prop)(xs:Na)(rb:Nat)(w:Wd)(at_ tb:Nat)(s5:Value)(wx:Wd):Prop:= ∃at' k' c t,LS asc xs rb w at_ tb at' (c=0) at' k' c s5 t wx
theorem LS.list (h:LS asc xs rb w at_ tb lo p at' k' c s5 t wx)(e:Nat)(he:c=0->p/\k'+e<=at'):AZ asc xs rb w at_ e s5 wx:=by
 obtain⟨A,n,q,vs,ts,rfl,h1,h2,h3,h4,h5,h6,h7,h8,h9⟩:=h;exact⟨A,n,q,vs,ts,at',k',c,rfl,h1,by omega,h3,h4,by omega,fun e=>by obtain⟨g1,g2,g3⟩:=h9 (he e).1;exact⟨g1,g2,by omega,(he e).2⟩⟩
end
theorem C6 (asc:List Nc->Prop)(hl:xs.length<=6000)
  (hV:∀ (jy:Nat) (t:Tk) (w:Wd) (k:Nat) (c:Int) (d:Int),(c=0->t.kind≠5->at_+1<=jy)->Rd xs rb w jy k c->(c=0->(t.kind≠5->k+1<=jy)/\kv t)->
   Calls prog 112 #[.pointer (some (nl rb)),ly t,(d:Int)] w (kr asc xs rb w jy (t.kind≠5)))
  {w:Wd} {k:Nat} (d:Int) (h:Rd xs rb w at_ k 0) (hk:k+1<=at_):Calls prog 147 #[.pointer (some (nl rb)),(d:Int)] w (kr asc xs rb w at_ True):=by
 have HR:=Qa h;have Hk:=Qa hk;have HV:=Qa hV;clear hV hk h;have b9:=aa w (.cells #[(1:Int),(d:Int),(5:Int),es,()] 262);have b4:=HR.lt;obtain⟨a1,a2,a3,a4,a5,a6,a7,L,m,hh,l,us,w0,h1,h2,h3,h4,h5,h6,h7⟩:=HR.out;have c12:=ac h1 (j:=12) (u:=.slice a3 _ a4) rfl;have g1:=(b9.block _ b4).trans h1;have H:=x9 g1 h2 h3 (h4.trans (b9.mono (Zj b4))) (aq h5 b9 (Zb _)) h6;have f7:=Qa (au w [(1:Int),(d:Int),(5:Int),es,()] 262);have d4:=Qa b9;have f8:=Qa (show rb+1<=w.heap.size from b4);have c1:=Qa h6;clear h1 h2 h3 h4 h5 h6 h7 b9 g1 b4;go_in;go_wp2_with (at_builtin;refine dB ki rfl (.tmp 11) (.tmp 14) rfl (rb+1) (.slice a3 k a4) k w.heap.size 1 1 us [(1:Int),(d:Int),(5:Int),es,()] (by simp[Act.eval]) H.2.2.2.2.1 (by simp[Act.eval]) rfl f7.out (by simp[Value.oneCell']) (by have:=Hk.out;have:=c1.out;unfold maxLen;omega) (by have:=Hk.out;have:=c1.out;omega) (Zc f8 d4.size) ?_;intro v' w1 p1 p2 p3;have c3:=Qa p1;have c4:=Qa p2;(obtain⟨A',c',he,-⟩:=ai p1);subst he;have a0:=ke H.1 H.2.1 H.2.2.1 H.2.2.2.1 H.2.2.2.2.1 H.2.2.2.2.2 Hk.out c3.out c4.out;have r12:=ac a0.1 (j:=12) (u:=.slice a3 k a4) rfl;have f12:=ao a0.1 12;have c0:=Qa a0;clear p1 p2 p3 a0);refine(dE c0.2.1 (by omega)).mono ?_;rintro e w2 ⟨t,lP,c,rfl,k1,l0,hat2,k4⟩;have g6:=Qa k1;have i8:=Qa (((Rk.of_below d4 (Zj HR.lt)).trans c0.2.2).trans l0);have Ht2:=Qa k4;obtain⟨tk,ta,tm,ts,⟨dn,dd,dx⟩⟩:=t;rw[show ly ⟨tk,ta,tm,ts,⟨dn,dd,dx⟩⟩ =.agg #[(tk:Int),(ta:Int),.int .u8 tm,ts,.bool dn,dd,(dx:Int)] from rfl];have d1:=aa w2 (.cells #[(tk:Int),(ta:Int),.int .u8 tm,ts,.bool dn,dd,(dx:Int)] 201);have h0:=Qa (Zf w2 (.cells #[(tk:Int),(ta:Int),.int .u8 tm,ts,.bool dn,dd,(dx:Int)] 201));have h8:=Qa (g6.below d1);have m5:=Qa (i8.trans (Rk.of_below d1 (Zj g6.lt)));have l2:=Qa (show w.heap.size<=w2.heap.size from i8.2.1);have l4:=Qa HR.lt;clear k1 l0 k4 d1 g6 i8 c12 r12 f12;have mk:∀ (X:Int) (W:Wd),Calls prog 145 #[.agg #[(tk:Int),(ta:Int),.int .u8 tm,ts,.bool dn,dd,(dx:Int)],.int .u8 X] W fun e w'=>iW ⟨tk,ta,tm,ts,⟨dn,dd,dx⟩⟩ X W e w':=fun X W=>gd ⟨tk,ta,tm,ts,⟨dn,dd,dx⟩⟩ X W
 have Mk:=Qa mk;clear mk;go_upto_region 4 with fail
 generalize (w2.alloc (.cells #[(tk:Int),(ta:Int),.int .u8 tm,ts,.bool dn,dd,(dx:Int)] 201))=w3 at *;generalize w2.heap.size=tb at *;go_cut [30] (fun s30 wx=>(∃b:Bool,s30 =.bool b/\(b=false->c=0->tk=1)/\(b=true->c=0))/\ge w3 wx)
 case first=>
  have cc:=h8.code;obtain⟨t0,t1,t2,t3,t4,t5,t6⟩:=bl (t:=⟨tk,ta,tm,ts,⟨dn,dd,dx⟩⟩) h0.out
  by_cases hc:c=0
  .have Hc:=Qa hc;subst hc;go_wp2_with fail;refine(Mk 93 w3).mono ?_;rintro e w4 ⟨b,rfl,hm,j2⟩;have Hm:=Qa hm;have Hb4:=Qa j2;clear hm j2 t0 t1 t2 t3 t4 t5 t6 cc
   cases b
   .go_wp2_with fail;go_meet
    case rel=>exact⟨⟨_,rfl,(fun h=>absurd h (by decide)),(fun _=>by trivial)⟩,Hb4.out⟩
   .have Hm1:=Qa (Hm rfl);go_wp2_with fail;go_meet
    case rel=>exact⟨⟨_,rfl,(fun _ _=>Hm1.out),(fun h=>absurd h (by decide))⟩,Hb4.out⟩
  .have g9:(c==0)=false:=by simpa using hc
   have Hc:=Qa hc;clear hc;go_wp2_with fail;go_meet
   case rel=>exact⟨⟨_,rfl,(fun _ h=>absurd h Hc.out),(fun h=>absurd h (by decide))⟩,Ze _ _⟩
 case rest=>
  obtain⟨⟨b,rfl,j5,k7⟩,f6⟩:=hcut;have Hq1:=Qa j5;have i5:=Qa k7;have HR4:=Qa (h8.below f6);have Hk4:=Qa (m5.trans (Rk.of_below f6 (Zj h8.lt)));have c6:=Qa ((f6.block _ (ah h0)).trans h0.out);clear j5 k7 f6;obtain⟨w4,l1⟩:=y7 wc;rw[l1] at HR4 Hk4 c6 ⊢;clear l1;go_upto_if 30 with fail
  go_cut [5] (fun s5 wx=>AZ asc xs rb w at_ 1 s5 wx)
  case first=>
   cases b
   .go_wp2_with fail;go_meet
    case rel=>exact⟨none,0,0, [], [],lP,k+1,c,rfl,⟨rfl,.inl ⟨rfl,rfl⟩⟩,by omega,HR4.out,Hk4.out,hat2,fun h=>⟨by simp,⟨rfl,fun i u v hu=>by simp at hu⟩,by simp[JV.sizes];exact hat2,by have e1:tk=1:=(by first|exact Hq1 rfl h|exact Hq1 h|exact Hq1 trivial h);have:=(Ht2 h).1 (by show ¬tk=5;omega);have:=Hk.out;omega⟩⟩
   .have m9:c=0:=(by first|exact i5 rfl|exact i5 trivial|exact i5.out);subst m9;have hv:=fun (dd':Int)=>HV lP ⟨tk,ta,tm,ts,⟨dn,dd,dx⟩⟩ w4 (k+1) 0 dd' (fun _ h=>(Ht2 rfl).1 h) HR4.out (fun _=>⟨fun h=>by have:=(Ht2 rfl).1 h;have:=Hk.out;omega,(Ht2 rfl).2⟩)
    have Hv:=Qa hv;clear hv;obtain⟨t0,t1,t2,t3,t4,t5,t6⟩:=bl (t:=⟨tk,ta,tm,ts,⟨dn,dd,dx⟩⟩) c6.out;go_wp2_with fail;refine(Hv _).mono ?_;rintro e w5 ⟨A,n,q,at5,k5,c5,rfl,f9,i2,e5,k0⟩;have n1:=Qa (f9.below (aa w5 (.cells #[.slice A n q] 27)));have l5:=Qa ((Hk4.trans i2).trans (Rk.of_below (aa w5 (.cells #[.slice A n q] 27)) (Zj f9.lt)));have m0:=Qa k0;have g8:=Qa (au w5 [.slice A n q] 27);have i3:=Qa f9;have i4:=Qa i2;have f4:=Qa e5;clear f9 i2 k0 e5 t0 t1 t2 t3 t4 t5 t6;go_wp2_with (at_builtin;refine dB ej rfl (.tmp 31) (.tmp 37) rfl w.heap.size () 0 w5.heap.size 1 1 [] [.slice A n q] (by simp[Act.eval]) ⟨rfl,.inl ⟨rfl,rfl⟩⟩ (by simp[Act.eval]) rfl g8.out (by simp[Value.oneCell']) (by unfold maxLen;omega) (by omega) (l5.2.1) ?_;intro v' w6 p1 p2 p3;have c3:=Qa p1;have c4:=Qa p2;clear p1 p2 p3);have e6:=LS.push (at_:=at_) (t:=⟨tk,ta,tm,ts,⟨dn,dd,dx⟩⟩) (vs:= []) (ts:= []) (lo:=at_) (p:=True) (n:=0) ⟨rfl,.inl ⟨rfl,rfl⟩⟩ (by have:=Hk.out;have:=f4.out;omega) Hk4.out c6.out l2.out l4.out (fun _=>⟨by simp,bC.nil _,by simp[JV.sizes]⟩) (by have:=f4.out;omega) i3.out i4.out (fun h=>by obtain⟨hn,j,g1,g2,g3⟩:=m0 h;have:=(Ht2 (by trivial)).1 hn;exact⟨trivial,j,g1,g2.flat,by omega⟩) c3.out c4.out;have HLS0:=Qa e6;clear e6
    go_loopw [5] (fun s5 wx=>MW asc xs rb w at_ tb s5 wx) (fun _ wx=>nX xs.length rb wx)
    case atStart=>exact⟨_,_,_,_,HLS0⟩
    case round=>
     obtain⟨at',k',c',tt,f5⟩:=hrel;have cc:=f5.rd.code;obtain⟨A,n,q,rfl⟩:=f5.shape;have HLS:=Qa f5;clear f5
     by_cases hc:c'=0
     case neg=>
      have g9:(c'==0)=false:=by simpa using hc
      have Hc:=Qa hc;clear hc;go_wp2_with fail;go_meet
      case rel=>exact HLS.list 1 (fun h=>absurd h Hc.out)
     subst hc;go_wp2_with fail;refine(dE HLS.rd (by omega)).mono ?_;rintro e wn7 ⟨tn,at7,c7,rfl,e2,e3,b5,d5⟩;have b3:=Qa (HLS.step e2 e3 b5);have n0:=Qa b5;obtain⟨tk7,ta7,tm7,ts7,⟨dn7,dd7,dx7⟩⟩:=tn;have Ht7:=Qa d5;clear e2 e3 b5 d5;rw[show ly ⟨tk7,ta7,tm7,ts7,⟨dn7,dd7,dx7⟩⟩ =.agg #[(tk7:Int),(ta7:Int),.int .u8 tm7,ts7,.bool dn7,dd7,(dx7:Int)] from rfl];have HLS7:=Qa (b3.put ⟨tk7,ta7,tm7,ts7,⟨dn7,dd7,dx7⟩⟩);clear cc
     by_cases hc7:c7=0
     case neg=>
      have g9:(c7 !=0)=true:=by simpa using hc7
      have Hc:=Qa hc7;clear hc7;go_wp2_with (refine wpList_store_rowTo rfl 201 (.tmp 6) (.tmp 46) rfl rfl tb (fd ⟨tk7,ta7,tm7,ts7,⟨dn7,dd7,dx7⟩⟩) (by simp[Act.eval]) (by simp[Act.eval,fd]) 201 _ b3.tok dD rfl (fS ..) ?_;generalize wn7.setRow tb (fd ⟨tk7,ta7,tm7,ts7,⟨dn7,dd7,dx7⟩⟩)=w7 at *;have cc:=HLS7.rd.code;obtain⟨t0,t1,t2,t3,t4,t5,t6⟩:=bl HLS7.tok;clear b3);go_meet
      case rel=>exact HLS7.list 1 (fun h=>absurd h Hc.out)
     subst hc7;have Hkle:=Qa HLS.rd.kle;go_wp2_with (refine wpList_store_rowTo rfl 201 (.tmp 6) (.tmp 46) rfl rfl tb (fd ⟨tk7,ta7,tm7,ts7,⟨dn7,dd7,dx7⟩⟩) (by simp[Act.eval]) (by simp[Act.eval,fd]) 201 _ b3.tok dD rfl (fS ..) ?_;generalize wn7.setRow tb (fd ⟨tk7,ta7,tm7,ts7,⟨dn7,dd7,dx7⟩⟩)=w7 at *;have cc:=HLS7.rd.code;obtain⟨t0,t1,t2,t3,t4,t5,t6⟩:=bl HLS7.tok;clear b3);have mk7:∀ (X:Int) (W:Wd),Calls prog 145 #[.agg #[(tk7:Int),(ta7:Int),.int .u8 tm7,ts7,.bool dn7,dd7,(dx7:Int)],.int .u8 X] W fun e w'=>iW ⟨tk7,ta7,tm7,ts7,⟨dn7,dd7,dx7⟩⟩ X W e w':=fun X W=>gd ⟨tk7,ta7,tm7,ts7,⟨dn7,dd7,dx7⟩⟩ X W
     have Mk7:=Qa mk7;clear mk7;refine(Mk7 93 w7).mono ?_;rintro e w8 ⟨b1,rfl,k6,d3⟩;have HLS8:=Qa (HLS7.below d3);have Hm1:=Qa k6;clear cc t0 t1 t2 t3 t4 t5 t6 k6 d3;have cc:=HLS8.rd.code;obtain⟨t0,t1,t2,t3,t4,t5,t6⟩:=bl HLS8.tok
     cases b1
     case true=>
      have Hm:=Qa (Hm1 rfl);go_wp2_with fail;go_meet
      case rel=>exact HLS8.list 1 (fun _=>⟨by trivial,by have h1:=(Ht7 (by trivial)).1;have h2:=Hm.out;have h3:=Hkle.out;have h4:at'+1<=at7:=h1 (by show ¬tk7=5;have:tk7=1:=h2;omega);omega⟩)
     go_wp2_with fail;refine(Mk7 44 w8).mono ?_;rintro e w9 ⟨b2,rfl,j3,k3⟩;have b6:=Qa (HLS8.below k3);have k2:=Qa j3;clear cc t0 t1 t2 t3 t4 t5 t6 j3 k3;have cc:=b6.rd.code;obtain⟨t0,t1,t2,t3,t4,t5,t6⟩:=bl b6.tok
     cases b2
     case false=>
      have wr:Calls prog 113 #[.pointer (some (nl rb)),.agg #[(tk7:Int),(ta7:Int),.int .u8 tm7,ts7,.bool dn7,dd7,(dx7:Int)]] w9 (kR xs rb w9 at7 k'):=fV b6.rd ⟨tk7,ta7,tm7,ts7,⟨dn7,dd7,dx7⟩⟩;have Wr:=Qa wr;clear wr;go_wp2_with fail;refine Za Wr ?_;rintro e w10 ⟨⟨v,rfl⟩,c10,d7,d6,e7⟩;have HLS10:=Qa (b6.step d6 e7 (Zb _));have Hc10:=Qa d7;clear d6 e7 d7;go_wp2_with fail;go_meet
      case rel=>exact HLS10.list 1 (fun h=>absurd h Hc10.out)
     have b7:=Qa (show at'+1<=at7 from(Ht7 (by trivial)).1 (by show ¬tk7=5;have:tk7=1:=k2 rfl;omega));clear Mk7 Hm1 k2 Ht7;go_wp2_with fail;refine(dE b6.rd (by omega)).mono ?_;rintro e wn11 ⟨tn,at11,c11,rfl,e2,e3,b5,d5⟩;have b3:=Qa (b6.step e2 e3 b5);have a9:=Qa b5;obtain⟨tk11,ta11,tm11,ts11,⟨dn11,dd11,dx11⟩⟩:=tn;have i9:=Qa d5;clear e2 e3 b5 d5;rw[show ly ⟨tk11,ta11,tm11,ts11,⟨dn11,dd11,dx11⟩⟩ =.agg #[(tk11:Int),(ta11:Int),.int .u8 tm11,ts11,.bool dn11,dd11,(dx11:Int)] from rfl];have b0:=Qa (b3.put ⟨tk11,ta11,tm11,ts11,⟨dn11,dd11,dx11⟩⟩);clear cc t0 t1 t2 t3 t4 t5 t6;go_wp2_with (refine wpList_store_rowTo rfl 201 (.tmp 6) (.tmp 64) rfl rfl tb (fd ⟨tk11,ta11,tm11,ts11,⟨dn11,dd11,dx11⟩⟩) (by simp[Act.eval]) (by simp[Act.eval,fd]) 201 _ b3.tok dD rfl (fS ..) ?_;generalize wn11.setRow tb (fd ⟨tk11,ta11,tm11,ts11,⟨dn11,dd11,dx11⟩⟩)=w11 at *;have cc:=b0.rd.code;obtain⟨t0,t1,t2,t3,t4,t5,t6⟩:=bl b0.tok;clear b3);have hv:∀dd',Calls prog 112 #[.pointer (some (nl rb)),.agg #[(tk11:Int),(ta11:Int),.int .u8 tm11,ts11,.bool dn11,dd11,(dx11:Int)],(dd':Int)] w11 (kr asc xs rb w11 at11 (¬tk11=5)):=fun dd'=>HV at11 ⟨tk11,ta11,tm11,ts11,⟨dn11,dd11,dx11⟩⟩ w11 k' c11 dd' (fun _ _=>by have:=b7.out;have:=a9.out;have:=HLS.rk.2.1;omega) b0.rd (fun h=>⟨fun _=>by have:=b7.out;have:=a9.out;have:=Hkle.out;omega,(i9 h).2⟩)
     refine(hv _).mono ?_;rintro e w12 ⟨A4,n4,q4,at12,k12,c12,rfl,d2,f3,c2,f2⟩;have j0:=Qa d2;have d0:=Qa f3;have b8:=Qa c2;have g7:=Qa f2;have e8:=Qa (au w12 [.slice A4 n4 q4] 27);obtain⟨vs,ts,h1,h2,h9⟩:=b0.open;have c1:=Qa d2.atle;clear d2 f3 f2 c2 hv cc t0 t1 t2 t3 t4 t5 t6;have H1:=Qa h1;have H2:=Qa h2;have H9:=Qa h9;have f1:=Qa b0.rk;have c8:=Qa (aq (ap h1 d0.2 (by unfold TR;decide)) (aa w12 (.cells #[.slice A4 n4 q4] 27)) (Zb _));clear h1 h2 h9;have l3:n+1<=at12:=by have:=H2.out;have:=b8.out;have:=a9.out;have:=b7.out;omega
     have n2:at12<=100000:=by have:=c1.out;omega
     go_wp2_with (at_builtin;refine dB ej rfl (.tmp 65) (.tmp 71) rfl w.heap.size (.slice A n q) n w12.heap.size 1 1 vs [.slice A4 n4 q4] (by simp[Act.eval]) c8.out (by simp[Act.eval]) rfl e8.out (by simp[Value.oneCell']) (by unfold maxLen;omega) (by omega) (by have:=f1.1.2.1;have:=d0.2.1;simp;omega) ?_;intro v' w13 p1 p2 p3;have c3:=Qa p1;have c4:=Qa p2;clear p1 p2 p3);have hend:=LS.push (at_:=at_) (t:=⟨tk11,ta11,tm11,ts11,⟨dn11,dd11,dx11⟩⟩) H1.out l3 f1.1 b0.tok f1.2.2.2.1 f1.2.2.2.2 H9.out (by have:=f1.2.1;have:=H2.out;have:=b8.out;have:=a9.out;have:=b7.out;omega) j0.out d0.out (fun h=>⟨by trivial,by obtain⟨hn,j,g1,g2,g3⟩:=g7 h;exact⟨j,g1,g2.flat,by have:=a9.out;have:=b7.out;omega⟩⟩) c3.out c4.out;exact⟨⟨_,_,_,_,hend⟩,by show nX xs.length rb _<nX xs.length rb _;exact HLS.rd.mu_lt hend.rd (by have:=b8.out;have:=a9.out;have:=b7.out;omega)⟩
  case rest=>
   obtain⟨A,n,q,vs,ts,at9,k9,c9,rfl,h1,h2,h3,h4,h5,h6⟩:=hcut;have HT:=Qa h6;have d9:=Qa h3;have g5:=Qa h4;have c8:=Qa h1;have e0:=Qa h5;have cc:=h3.code;clear h1 h2 h3 h4 h5 h6
   by_cases hc:c9=0
   case neg=>
    have g9:(c9 !=0)=true:=by simpa using hc
    have Hc:=Qa hc;clear hc;go_wp2;go_ret;exact⟨none,0,0,at9,k9,c9,rfl,d9,g5,e0,fun h=>absurd h Hc.out⟩
   subst hc;obtain⟨g1,g2,g3,g4⟩:=HT rfl;have G1:=Qa g1;have G2:=Qa g2;have G3:=Qa g3;have G4:=Qa g4;clear g1 g2 g3 g4 HT H f7 d4 f8 c1 c0;have b9:=aa wc (.cells #[(4:Int),(d:Int),(5:Int),es,()] 262);have b4:=d9.lt;obtain⟨a1,a2,a3,a4,a5,a6,a7,L,m,hh,l,us,w0,h1,h2,h3,h4,h5,h6,h7⟩:=d9.out;have c12:=ac h1 (j:=12) (u:=.slice a3 _ a4) rfl;have g1:=(b9.block _ b4).trans h1;have H:=x9 g1 h2 h3 (h4.trans (b9.mono (Zj b4))) (aq h5 b9 (Zb _)) h6;have f7:=Qa (au wc [(4:Int),(d:Int),(5:Int),es,()] 262);have d4:=Qa b9;have f8:=Qa (show rb+1<=wc.heap.size from b4);have c1:=Qa h6;clear h1 h2 h3 h4 h5 h6 h7 b9 g1 b4;go_wp2_with (at_builtin;refine dB ki rfl (.tmp 83) (.tmp 86) rfl (rb+1) (.slice a3 k9 a4) k9 wc.heap.size 1 1 us [(4:Int),(d:Int),(5:Int),es,()] (by simp[Act.eval]) H.2.2.2.2.1 (by simp[Act.eval]) rfl f7.out (by simp[Value.oneCell']) (by have:=G4.out;have:=c1.out;unfold maxLen;omega) (by have:=G4.out;have:=c1.out;omega) (Zc f8 d4.size) ?_;intro v' w7 p1 p2 p3;have c3:=Qa p1;have c4:=Qa p2;(obtain⟨A',c',he,-⟩:=ai p1);subst he;have a0:=ke H.1 H.2.1 H.2.2.1 H.2.2.2.1 H.2.2.2.2.1 H.2.2.2.2.2 G4.out c3.out c4.out;have r12:=ac a0.1 (j:=12) (u:=.slice a3 k9 a4) rfl;have f12:=ao a0.1 12;have c0:=Qa a0;clear p1 p2 p3 a0);have g0:=(Rk.of_below d4 (Zj d9.lt)).trans c0.2.2;have j1:=Qa g0;have f0:=Qa (ap c8.out g0.2 (by unfold TR;decide));have m1:=Qa (G2.mono fun _ _ h=>h.keeps g0.2 iQ lO lJ);have hsz:JV.sizes ts<=100000:=by have:=G3.out;have:=d9.atle;omega
   clear g0 c12 r12 f12;refine(mT ⟨vs,Sl.of_own f0,m1.mono fun _ _ h=>h.low (Zk _)⟩ (by omega) (fun t ht x hx=>?_)).mono ?_
   .obtain⟨q1,q2⟩:=oZ (G1 t ht) 0 x hx;have:=fG ht;exact⟨by omega,fun z hz=>by have:=q2 z hz;omega⟩
   rintro e w8 ⟨v,rfl,d3,i0⟩;have e4:∃A n q,v =.slice A n q:=by obtain⟨A,q,e,_⟩:=i0.form;exact⟨_,_,_,e⟩
   obtain⟨A8,n8,q8,rfl⟩:=e4;have m3:=Qa (c0.2.1.below d3);have m2:=Qa ((g5.trans j1).trans (Rk.of_below d3 (Zj c0.2.1.lt)));have m4:=Qa ((i0.low (Zj c0.2.1.lt)).imp (Q:=(w.heap.size<= ·)) (fun g h _=>Zc (g5.trans j1).2.1 h));clear d3 i0;go_wp2;go_ret;exact⟨A8,n8,q8,at9,k9+1,0,rfl,m3,m2,e0,fun _=>⟨trivial,.mk 5 false es jx [] ts,.list _ G1,m4,by have:=G3.out;simp only[JV.size];omega⟩⟩
def Mr (asc:List Nc->Prop)(xs:Na)(rb:Nat)(w:Wd)(at_:Nat)(names:List Nc)(e:Ending)(w':Wd):Prop:= ∃ (s:Nc) (A:OA) (n q at' k':Nat) (c:Int),e =.returned (.tuple #[s,.slice A n q])/\Rd xs rb w' at' k' c/\Rk rb w w'/\at_<=at'/\
 (c=0->at_+1<=at'/\jL s/\s∉names/\∃j:JV,cW asc j/\bo (w.heap.size<= ·) w' rb (.slice A n q) (j.flat 0)/\j.size+at_<=at')
theorem Gw {k:Nat}(h:W.ownsRow B 262 5 v k us)(hg:W.grownBy W' v.ownBlock):aK (fun e=>e=262) W W':=
 aK.of_grown hg (fun g e cs t z hh=>by obtain⟨cs',z',h'⟩:=cK h g e;rw[h'] at hh;injection hh with hh;injection hh with _ hh;exact hh.symm)
def Ez (w1:Wd)(s:Nc)(names:List Nc)(s10:Value)(wr:Wd):Prop:= ∃i:Nat,i<=names.length/\s10 =(i:Int)/\ge w1 wr/\s∉names.take i
theorem vD (asc:List Nc->Prop)(hl:xs.length<=6000){vb:Nat}
  (hV:∀ (jy:Nat) (t:Tk) (w:Wd) (k:Nat) (c:Int) (d:Int),(c=0->t.kind≠5->vb+1<=jy)->Rd xs rb w jy k c->(c=0->(t.kind≠5->k+1<=jy)/\kv t)->
   Calls prog 112 #[.pointer (some (nl rb)),ly t,(d:Int)] w (kr asc xs rb w jy (t.kind≠5)))
  {w:Wd} {k:Nat} {c:Int} (t:Tk) (d:Int) {vn:Value} {B:Nat} {names:List Nc} (h:Rd xs rb w at_ k c) (hn:cX w B vn names) (hat:vb<=at_) (hk:c=0->(t.kind≠5->k+1<=at_)/\kv t) :
  Calls prog 188 #[.pointer (some (nl rb)),ly t,(d:Int),vn] w (Mr asc xs rb w at_ names):=by
 have l5:=Qa hk;have HV:=Qa hV;obtain⟨An,cn,rfl,hcn,n7,k9⟩:=ai hn;unfold maxLen at n7;have n9:=Qa k9;have b9:=aa w (.cells (fd t) 201);have Hn:=Qa (hn.below b9 (Zb _));have h9:=Qa (Zf w (.cells (fd t) 201));have HR:=Qa (h.below b9);have g0:=Qa (Rk.of_below b9 (Zj h.lt));have hrb:=h.lt;have cc:=(h.below b9).code;clear hk hV h hn k9 b9;obtain⟨tk,ta,tm,ts,⟨dn,dd,dx⟩⟩:=t;unfold ly;simp only[fd] at HR h9 g0 Hn cc;go_in
 by_cases hc:c=0
 case neg=>
  have i9:(c !=0)=true:=by simpa using hc
  have Hc:=Qa hc;clear hc;go_wp2_with fail;go_ret2;exact⟨es,none,0,0,at_,k,c,rfl,HR,g0,Zb _,fun h=>absurd h Hc.out⟩
 subst hc;obtain⟨hk,h8⟩:=l5 rfl;have Hk:=Qa hk;have H8:=Qa h8;clear hk h8 l5;obtain⟨t0,t1,t2,t3,t4,t5,t6⟩:=bl (t:=⟨tk,ta,tm,ts,⟨dn,dd,dx⟩⟩) h9.out
 by_cases h4:tk=4
 case neg=>
  have o3:(tk !=4)=true:=by simpa using h4
  clear h4;have wr:∀W,Rd xs rb W at_ k 0->Calls prog 113 #[.pointer (some (nl rb)),.agg #[(tk:Int),(ta:Int),.int .u8 tm,ts,.bool dn,dd,(dx:Int)]] W (kR xs rb W at_ k):=fun W h=>fV h ⟨tk,ta,tm,ts,⟨dn,dd,dx⟩⟩
  have Wr:=Qa wr;clear wr;go_wp2_with fail;refine(Wr _ HR).mono ?_;rintro e w3 ⟨⟨v,rfl⟩,c3,l2,n1,l3⟩;have Hc:=Qa l2;have j2:=Qa n1;have k2:=Qa (g0.trans l3);clear l2 n1 l3;go_wp2_with fail;go_ret2;exact⟨es,none,0,0,at_,k,c3,rfl,j2,k2,Zb _,fun h=>absurd h Hc.out⟩
 subst h4;have l4:=Hk (by show ¬ (4:Int)=5;decide);have m9:=H8.1 rfl;have i0:=Qa l4;have o2:=Qa m9;clear l4 m9 Hk H8;go_upto_region 6 with fail
 generalize (w.alloc (.cells #[(4:Int),(ta:Int),.int .u8 tm,ts,.bool dn,dd,(dx:Int)] 201))=w1 at *;go_wp2_with fail
 go_loopw [10] (Ez w1 ts names) (fun i _=>names.length - (intOf i).toNat)
 case atStart=>exact⟨0,Zk _,rfl,Ze _ _,by simp⟩
 case round=>
  obtain⟨i,hi,rfl,hb,f0⟩:=hrel;have Hb:=Qa hb;have e0:=Qa f0;have e8:=Qa (HR.below hb);have g8:=Qa ((hb.block _ (ah h9)).trans h9.out);have n5:=Qa (Hn.below hb (Zb _));have f7:=Qa (g0.trans (Rk.of_below hb (Zc (Zj hrb) g0.2.1)));clear cc t0 t1 t2 t3 t4 t5 t6 hb f0;obtain⟨t0,t1,t2,t3,t4,t5,t6⟩:=bl (t:=⟨4,ta,tm,ts,⟨dn,dd,dx⟩⟩) g8.out;have cc:=e8.code
  by_cases hlt:i<names.length
  .obtain⟨gn,rfl⟩:=n9 (by omega);obtain⟨s,hs⟩:∃s,names[i]?=some s:=⟨_,Zd hlt⟩;have cn:=aB n5.out rfl i (by omega);rw[List.getElem?_map,hs] at cn;simp only[Option.map_some,dy] at cn;have Hs:=Qa (show names.take (i+1)=names.take i ++ [s] from cA hs);have o0:(i:Int)<names.length:=by omega
   clear hs
   by_cases he:s=ts
   .have o1:(s.toList==ts.toList)=true:=by rw[eF];simp[he]
    clear he;go_wp2_with fail;go_quiet (fail);go_wp2_with fail;refine(cV 112 ta _).mono ?_;rintro e w2 ⟨u,rfl,⟨fh,fl,fs,rfl,m0⟩,n3⟩;obtain⟨fA,fq,fr,rfl,-⟩:=m0.slice;have j3:ge wr w2:=(av (Ze _ _) _).trans n3;have j2:=Qa (e8.below j3);have k2:=Qa (f7.trans (Rk.of_below j3 (Zj e8.lt)));clear m0 n3 j3 cc t0 t1 t2 t3 t4 t5 t6;go_wp2_with fail;refine(fc j2 112 fh fl fA fq fr).mono ?_;rintro e w4 ⟨⟨b,rfl⟩,k4,n0,-⟩;rw[if_pos rfl] at k4;have n6:=Qa k4;have n8:=Qa (k2.trans n0);clear k4 n0;go_wp2_with fail;go_ret2;exact⟨es,none,0,0,at_,k,112,rfl,n6,n8,Zb _,fun h=>absurd h (by decide)⟩
   .have o1:(s.toList==ts.toList)=false:=by rw[eF];simp[he]
    have He:=Qa he;clear he;go_wp2_with fail;go_quiet (fail);go_wp2_with fail;exact⟨⟨i+1,by omega,by go_num,av Hb.out _,by rw[Hs.out];intro hm;rcases List.mem_append.1 hm with hm|hm;exact e0 hm;exact He (List.mem_singleton.1 hm).symm⟩,by simp[intOf];omega⟩
  .obtain rfl:i=names.length:=by omega
   rw[List.take_length] at e0;go_wp2_with fail;have c8:=Qa (show Rd xs rb wr.drew at_ k 0 from e8.below (Ze wr.heap.size wr).drew);have a9:=Qa (show wr.drew.heap[w.heap.size]?=_ from g8.out);have b3:=Qa (f7.trans (Rk.of_below (Ze wr.heap.size wr).drew (Zj e8.lt)));have i3:=Qa (show wr.drew.cell? (no w.heap.size 3)=some (.string ts) from t3);clear cc t0 t1 t2 t3 t4 t5 t6;generalize hwq:wr.drew=wq at c8 a9 b3 i3;have f8:=aa wq (.cells #[(2:Int),(d:Int),(0:Int),ts,()] 262);have c5:=c8.lt;obtain⟨a1,a2,a3,a4,a5,a6,a7,L,m,hh,l,us,w0,h1,h2,h3,h4,h5,h6,h7⟩:=c8.out;have c12:=ac h1 (j:=12) (u:=.slice a3 _ a4) rfl;have g1:=(f8.block _ c5).trans h1;have H:=x9 g1 h2 h3 (h4.trans (f8.mono (Zj c5))) (aq h5 f8 (Zb _)) h6;have m1:=Qa (au wq [(2:Int),(d:Int),(0:Int),ts,()] 262);have e3:=Qa f8;have m3:=Qa (show rb+1<=wq.heap.size from c5);have j0:=Qa h6;clear h1 h2 h3 h4 h5 h6 h7 f8 g1 c5;have C12:=Qa c12;clear c12;refine cJ (fun w'=>w'.cell? (no rb 12)=some (.slice a3 k a4)/\w'.cell? (no w.heap.size 3)=some (.string ts)) 13 ((by rw[hwq];exact⟨C12,i3⟩)) fun a0=>?_
   rw[hwq] at a0 ⊢;clear hwq;refine iz 0 1 2 a0 ?_;refine iz 3 4 5 a0 ?_;refine iz 6 7 8 a0 ?_;refine rZ 9 fun K hK=>?_
   go_simp;refine hK _ _ (fun _=>⟨Zg e3 a0.1,Zg e3 a0.2⟩) (fun a0=>?_);clear hK K;have a0:=a0 (by decide)
   try simp only[Act.put,jP,jQ,jR]
   refine rZ 10 fun K hK=>?_
   refine Ao ki H.2.2.2.2.1 m1.out (Zc m3 e3.size) ?_ (hlen:=(by have:=i0.out;have:=j0.out;unfold maxLen;omega)) (hby:=(by have:=i0.out;have:=j0.out;omega));intro v' w7 p1 p2 p3;have k7:=Qa p1;have i4:=Qa p2;(obtain⟨A',c',he,-⟩:=ai p1);subst he;have b4:=ke H.1 H.2.1 H.2.2.1 H.2.2.2.1 H.2.2.2.2.1 H.2.2.2.2.2 i0.out k7.out i4.out;have r12:=ac b4.1 (j:=12) (u:=.slice a3 k a4) rfl;have f12:=ao b4.1 12;have h0:=Qa b4;clear p1 p2 p3 b4;have l1:=Qa ((Gw H.2.2.2.2.1 i4).2 _ _ _ _ ((e3.block _ (ah a9)).trans a9.out) (by decide));refine hK _ _ (fun _=>⟨r12,ac l1 (j:=3) rfl⟩) (fun a0=>?_);clear hK K;have a0:=a0 (by decide)
   try simp only[Act.put,jP,jQ,jR]
   refine rZ 11 fun K hK=>?_
   go_simp;refine hK _ _ (fun _=>a0) (fun a0=>?_);clear hK K;have a0:=a0 (by decide)
   try simp only[Act.put,jP,jQ,jR]
   refine tZ 12 a0 ?_;refine rZ 13 fun K hK=>?_
   go_simp;refine hK _ _ (fun h=>absurd rfl h) (fun _=>?_);clear hK K
   try simp only[Act.put,jP,jQ,jR]
   refine aR (by kernel_rfl) (NoPanic.normal ?_) _;clear a0 r12 f12;have k6:=Qa (b3.trans ((Rk.of_below e3 (Zj c8.lt)).trans h0.2.2));have m5:=Qa h0.2.1;have f6:=Qa (((Rk.of_below e3 (Zj c8.lt)).trans h0.2.2).row a9.out da);clear h0 k7 i4 l1 H m1 e3 m3 j0 i3 a9 c8 b3 C12;go_wp2_with fail;generalize (w7.setCell (no rb 12) (.slice A' (k+1) c'))=w8 at *;refine(dE m5 (by omega)).mono ?_;rintro e w9 ⟨t9,at9,c9,rfl,n2,j1,f2,m2⟩;have i8:=Qa n2;have l0:=Qa (k6.trans j1);have e1:=Qa (j1.row f6.out da);have m4:=Qa m2;have d6:=Qa f2;obtain⟨tk9,ta9,tm9,ts9,⟨dn9,dd9,dx9⟩⟩:=t9;rw[show ly ⟨tk9,ta9,tm9,ts9,⟨dn9,dd9,dx9⟩⟩ =.agg #[(tk9:Int),(ta9:Int),.int .u8 tm9,ts9,.bool dn9,dd9,(dx9:Int)] from rfl];have c4:=aa w9 (.cells #[(tk9:Int),(ta9:Int),.int .u8 tm9,ts9,.bool dn9,dd9,(dx9:Int)] 201);have b2:=Qa (Zf w9 (.cells #[(tk9:Int),(ta9:Int),.int .u8 tm9,ts9,.bool dn9,dd9,(dx9:Int)] 201));have d0:=Qa (i8.below c4);have f5:=Qa (l0.trans (Rk.of_below c4 (Zj i8.lt)));have b8:=Qa ((c4.block _ (ah e1)).trans e1.out);clear n2 j1 f2 m2 c4 i8 l0 e1 m5 k6 f6;have mk:∀ (X:Int) (W:Wd),Calls prog 145 #[.agg #[(tk9:Int),(ta9:Int),.int .u8 tm9,ts9,.bool dn9,dd9,(dx9:Int)],.int .u8 X] W fun e w'=>iW ⟨tk9,ta9,tm9,ts9,⟨dn9,dd9,dx9⟩⟩ X W e w':=fun X W=>gd ⟨tk9,ta9,tm9,ts9,⟨dn9,dd9,dx9⟩⟩ X W
   have Mk:=Qa mk;clear mk;go_upto_region 14 with fail
   generalize (w9.alloc (.cells #[(tk9:Int),(ta9:Int),.int .u8 tm9,ts9,.bool dn9,dd9,(dx9:Int)] 201))=w10 at *;generalize w9.heap.size=tb at *;go_cut [68] (fun s68 wx=>(∃b:Bool,s68 =.bool b/\(b=false->c9=0->tk9=1))/\ge w10 wx)
   case first=>
    have cc:=d0.code;obtain⟨t0,t1,t2,t3,t4,t5,t6⟩:=bl (t:=⟨tk9,ta9,tm9,ts9,⟨dn9,dd9,dx9⟩⟩) b2.out
    by_cases hc:c9=0
    .have Hc:=Qa hc;subst hc;go_wp2_with fail;refine(Mk 58 w10).mono ?_;rintro e w11 ⟨b,rfl,hm,b1⟩;have Hm:=Qa hm;have Hb11:=Qa b1;clear hm b1 t0 t1 t2 t3 t4 t5 t6 cc
     cases b
     .go_wp2_with fail;go_meet
      case rel=>exact⟨⟨_,rfl,(fun h=>absurd h (by decide))⟩,Hb11.out⟩
     .have Hm1:=Qa (Hm rfl);go_wp2_with fail;go_meet
      case rel=>exact⟨⟨_,rfl,(fun _ _=>Hm1.out)⟩,Hb11.out⟩
    .have i9:(c9==0)=false:=by simpa using hc
     have Hc:=Qa hc;clear hc;go_wp2_with fail;go_meet
     case rel=>exact⟨⟨_,rfl,(fun _ h=>absurd h Hc.out)⟩,Ze _ _⟩
   case rest=>
    obtain⟨⟨b,rfl,hq⟩,b1⟩:=hcut;have Hq:=Qa hq;have b6:=Qa (d0.below b1);have c2:=Qa (f5.trans (Rk.of_below b1 (Zj d0.lt)));have c0:=Qa ((b1.block _ (ah b8)).trans b8.out);have b7:=Qa ((b1.block _ (ah b2)).trans b2.out);clear hq b1 d0 f5 b8 b2;obtain⟨w11,e7⟩:=y7 wc;rw[e7] at b6 c2 c0 b7 ⊢;clear e7;obtain⟨t0,t1,t2,t3,t4,t5,t6⟩:=bl (t:=⟨tk9,ta9,tm9,ts9,⟨dn9,dd9,dx9⟩⟩) b7.out;have cc:=b6.code
    cases b
    case true=>
     have wr:Calls prog 113 #[.pointer (some (nl rb)),.agg #[(tk9:Int),(ta9:Int),.int .u8 tm9,ts9,.bool dn9,dd9,(dx9:Int)]] w11 (kR xs rb w11 at9 (k+1)):=fV b6.out ⟨tk9,ta9,tm9,ts9,⟨dn9,dd9,dx9⟩⟩;have Wr:=Qa wr;clear wr;go_wp2_with fail;refine Za Wr ?_;rintro e w12 ⟨⟨v,rfl⟩,c12,d5,e4,g5⟩;have k5:=Qa e4;have k0:=Qa (c2.trans g5);have k1:=Qa d5;have i9:(c12 !=0)=true:=by simpa using d5
     clear cc t0 t1 t2 t3 t4 t5 t6;have cc:=e4.code;clear e4 g5 d5;go_wp2_with fail;go_ret2;exact⟨es,none,0,0,at9,k+1,c12,rfl,k5,k0,d6,fun h=>absurd h k1.out⟩
    by_cases hc:c9=0
    case neg=>
     have i9:(c9 !=0)=true:=by simpa using hc
     have Hc:=Qa hc;clear hc;go_wp2_with fail;go_ret2;exact⟨es,none,0,0,at9,k+1,c9,rfl,b6,c2,d6,fun h=>absurd h Hc.out⟩
    have f3:=Qa (Hq rfl hc);subst hc;have c7:=Qa (show at_+1<=at9 from(m4 (by trivial)).1 (by show ¬tk9=5;have:=f3.out;omega));clear f3 Hq m4 Mk t0 t1 t2 t3 t4 t5 t6;go_wp2_with fail;refine(dE b6 (by omega)).mono ?_;rintro e w12 ⟨t13,at13,c13,rfl,e6,d9,d3,g9⟩;have d7:=Qa e6;have f4:=Qa (c2.trans d9);have c1:=Qa (d9.row c0.out da);have i2:=Qa g9;have b0:=Qa d3;obtain⟨tk13,ta13,tm13,ts13,⟨dn13,dd13,dx13⟩⟩:=t13;rw[show ly ⟨tk13,ta13,tm13,ts13,⟨dn13,dd13,dx13⟩⟩ =.agg #[(tk13:Int),(ta13:Int),.int .u8 tm13,ts13,.bool dn13,dd13,(dx13:Int)] from rfl];have b5:=aa w12 (.cells #[(tk13:Int),(ta13:Int),.int .u8 tm13,ts13,.bool dn13,dd13,(dx13:Int)] 201);have b2:=Qa (Zf w12 (.cells #[(tk13:Int),(ta13:Int),.int .u8 tm13,ts13,.bool dn13,dd13,(dx13:Int)] 201));have e2:=Qa (d7.below b5);have g4:=Qa (f4.trans (Rk.of_below b5 (Zj d7.lt)));have d4:=Qa ((b5.block _ (ah c1)).trans c1.out);clear e6 d9 d3 g9 b5 d7 f4 c1 b6 c2 c0 b7 cc;go_upto_region 19 with fail
    generalize (w12.alloc (.cells #[(tk13:Int),(ta13:Int),.int .u8 tm13,ts13,.bool dn13,dd13,(dx13:Int)] 201))=w14 at *;generalize w12.heap.size=tv at *;have c8:=Qa (show Rd xs rb w14.drew at13 (k+1) c13 from e2.below (Ze w14.heap.size w14).drew);have a9:=Qa (show w14.drew.heap[w.heap.size]?=_ from d4.out);have e5:=Qa (show w14.drew.heap[tv]?=_ from b2.out);have b3:=Qa (g4.trans (Rk.of_below (Ze w14.heap.size w14).drew (Zj e2.lt)));clear e2 d4 b2 g4;generalize hwq:w14.drew=wq at c8 a9 b3 e5;have hv:∀dd',Calls prog 112 #[.pointer (some (nl rb)),.agg #[(tk13:Int),(ta13:Int),.int .u8 tm13,ts13,.bool dn13,dd13,(dx13:Int)],(dd':Int)] wq (kr asc xs rb wq at13 (¬tk13=5)):=fun dd'=>HV at13 ⟨tk13,ta13,tm13,ts13,⟨dn13,dd13,dx13⟩⟩ wq (k+1) c13 dd' (fun _ _=>by have:=c7.out;have:=b0.out;omega) c8.out (fun h=>⟨fun _=>by have:=c7.out;have:=b0.out;have:=i0.out;omega,(i2 h).2⟩)
    have Hv:=Qa hv;clear hv;refine aI (fun w'=>w'.cell? (no w.heap.size 3)=some (.string ts)/\w'.cell? (nl tv)=some (.int .i64 tk13)/\w'.cell? (no tv 1)=some (.int .i64 ta13)/\w'.cell? (no tv 2)=some (.int .u8 tm13)/\w'.cell? (no tv 3)=some (.string ts13)/\w'.cell? (no tv 4)=some (.bool dn13)/\w'.cell? (no tv 5)=some (.string dd13)/\w'.cell? (no tv 6)=some (.int .i64 dx13)) ((by rw[hwq];exact⟨ac a9 (j:=3) rfl,bl (t:=⟨tk13,ta13,tm13,ts13,⟨dn13,dd13,dx13⟩⟩) e5.out⟩)) fun a0=>?_
    refine bw 0 1 2 a0 ?_;refine bw 3 4 5 a0 ?_;refine rH 6 fun K hK=>?_
    go_simp;refine(Hv _).mono ?_;rintro e w15 ⟨A4,n4,q4,at15,k15,c15,rfl,f1,c6,d2,g6⟩;have j5:=Qa f1;have i5:=Qa (b3.trans c6);have d1:=Qa d2;have k3:=Qa g6;have f9:=Qa (c6.row a9.out da);have g7:=Qa (c6.row e5.out da);clear f1 c6 d2 g6;go_simp;refine hK _ _ (⟨ac f9 (j:=3) rfl,bl (t:=⟨tk13,ta13,tm13,ts13,⟨dn13,dd13,dx13⟩⟩) g7.out⟩) (fun a0=>?_);clear hK K
    try simp only[Act.put,jP,jQ,jR]
    refine tH 7 a0 ?_;refine tH 8 a0 ?_;refine y5 ?_;clear a0;go_wp2_with fail;go_ret2;exact⟨ts,A4,n4,q4,at15,k15,c15,rfl,j5,i5,by have:=d1.out;have:=b0.out;have:=d6.out;omega,fun h=>⟨by have:=d1.out;have:=b0.out;have:=c7.out;omega,o2.out,e0.out,by obtain⟨_,j,g1,g2,g3⟩:=k3 h;exact⟨j,g1,g2.imp (fun g h _=>Zc b3.2.1 h),by have:=b0.out;have:=c7.out;omega⟩⟩⟩
def fJ (bad:UInt8->Int):Nat->Na->List Int
 |0,_=> []
 |_+1, []=> []
 |f+1,x::t=>if(bK (x::t)).2.2=0 then((bK (x::t)).1:Int)::fJ bad f ((x::t).drop (bK (x::t)).2.1) else bad x::fJ bad f t
def bj (bad:UInt8->Int)(xs:Na):List Int:=fJ bad xs.length xs
theorem mr (bad:UInt8->Int):∀ (f g:Nat) (xs:Na),xs.length<=f->xs.length<=g->fJ bad f xs=fJ bad g xs
 |0,g,xs,h,_=>by
  obtain rfl:xs = []:=List.eq_nil_of_length_eq_zero (by omega)
  cases g <;> rfl
 |f+1,g, [],_,_=>by cases g <;> rfl
 |f+1,0,x::t,_,h=>by simp at h
 |f+1,g+1,x::t,h1,h2=>by
  simp only[List.length_cons] at h1 h2;unfold fJ
  split
  .rename_i h
   have hp:=fp h;rw[mr bad f g _ (by rw[List.length_drop,List.length_cons];omega) (by rw[List.length_drop,List.length_cons];omega)]
  .rw[mr bad f g t (by omega) (by omega)]
theorem j7 (bad:UInt8->Int):bj bad [] = []:=rfl
theorem dK {bad:UInt8->Int}(h0:xs≠ [])(h:(bK xs).2.2=0):bj bad xs= ((bK xs).1:Int)::bj bad (xs.drop (bK xs).2.1):=by
 cases xs with
 |nil=>exact absurd rfl h0
 |cons x t=>
  have hp:=fp h;unfold bj;rw[List.length_cons,fJ,if_pos h,mr bad t.length _ _ (by rw[List.length_drop,List.length_cons];omega) (Zb _)]
theorem fg {bad:UInt8->Int}{x:UInt8}{t:Na}(h:(bK (x::t)).2.2≠0):bj bad (x::t)=bad x::bj bad t:=by
 unfold bj;rw[List.length_cons,fJ,if_neg h]
theorem jm (bad:UInt8->Int):∀ {cs:List Int},(∀c∈cs,dY c=true)->bj bad (cs.flatMap bL)=cs
 | [],_=>rfl
 |c::cs,h=>by
  have hc:=h c (by simp);have h0:=eJ hc;obtain⟨n,rfl⟩:∃n:Nat,c=n:=⟨c.toNat,by omega⟩;have hd:=jr n hc (cs.flatMap bL);rw[List.flatMap_cons,dK (by simp[pM hc]) (by rw[hd]),hd];simp only[List.drop_left];rw[jm bad (fun c hm=>h c (Zm _ hm))]
theorem qI {bad bad':UInt8->Int}(h:gG xs):bj bad xs=bj bad' xs:=by
 obtain⟨cs,h1,rfl⟩:=h;rw[jm bad h1,jm bad' h1]
def dP (x:UInt8):Int:=1114112+x.toNat
def L3 (c:Int):Na:=if c<1114112 then bL c else [UInt8.ofNat (c - 1114112).toNat]
theorem je:∀ (n:Nat) (xs:Na),xs.length<=n->(bj dP xs).flatMap L3=xs
 |_, [],_=>rfl
 |0,x::t,h=>by simp at h
 |n+1,x::t,h=>by
  simp only[List.length_cons] at h
  by_cases hd:(bK (x::t)).2.2=0
  .have ⟨h1,h2⟩:=jp hd;have hp:=fp hd;rw[dK (by simp) hd,List.flatMap_cons,je n _ (by rw[List.length_drop,List.length_cons];omega)];unfold L3;rw[if_pos (by have:=Dw h2;omega),h1,List.take_append_drop]
  .rw[fg hd,List.flatMap_cons,je n t (by omega)];unfold L3 dP;rw[if_neg (by have:=x.toNat_lt;omega),show(1114112+ (x.toNat:Int) - 1114112).toNat=x.toNat by omega,UInt8.ofNat_toNat];rfl
def nm (s:Nc):List Int:=bj dP s.data.toList
theorem Dh {s t:Nc}(h:nm s=nm t):s=t:=by
 have h1:=je _ s.data.toList (Zb _);have h2:=je _ t.data.toList (Zb _);unfold nm at h;rw[h,h2] at h1
 cases s with|mk s=>cases t with|mk t=>simp at h1;simp[h1]
def aA:List Int->List Int->Int
 | [], []=>0
 | [],_::_=> -1
 |_::_, []=>1
 |a::x,b::y=>if a<b then -1 else if b<a then 1 else aA x y
theorem lz:∀ {x y:List Int},aA x y=0->x=y
 | [], [],_=>rfl
 | [],_::_,h=>by simp[aA] at h
 |_::_, [],h=>by simp[aA] at h
 |a::x,b::y,h=>by
  unfold aA at h
  split at h
  .simp at h
  .split at h
   .simp at h
   .rw[lz h,show a=b by omega]
theorem eU:∀x:List Int,aA x x=0
 | []=>rfl
 |a::x=>by unfold aA;rw[if_neg (by omega),if_neg (by omega),eU x]
theorem mK:∀x y:List Int,aA y x = - aA x y
 | [], []=>rfl
 | [],_::_=>rfl
 |_::_, []=>rfl
 |a::x,b::y=>by
  unfold aA
  by_cases h1:a<b
  .rw[if_neg (by omega),if_pos h1,if_pos h1];rfl
  .by_cases h2:b<a
   .rw[if_pos h2,if_neg h1,if_pos h2];try rfl
   .rw[if_neg h2,if_neg h1,if_neg h1,if_neg h2,mK x y]
theorem k8:∀ {x y z:List Int},aA x y<0->aA y z<0->aA x z<0
 | [],y, [],h1,h2=>by cases y <;> simp[aA] at h1 h2
 | [],_,_::_,_,_=>by simp[aA]
 |_::_, [],_,h1,_=>by simp[aA] at h1
 |_::_,_::_, [],_,h2=>by simp[aA] at h2
 |a::x,b::y,c::z,h1,h2=>by
  unfold aA at h1 h2 ⊢
  by_cases ab:a<b
  .rw[if_pos ab] at h1
   by_cases bc:b<c
   .rw[if_pos (by omega)];omega
   .rw[if_neg bc] at h2
    by_cases cb:c<b
    .rw[if_pos cb] at h2;omega
    .rw[if_pos (by omega)];omega
  .rw[if_neg ab] at h1
   by_cases ba:b<a
   .rw[if_pos ba] at h1;omega
   .rw[if_neg ba] at h1
    by_cases bc:b<c
    .rw[if_pos (by omega)];omega
    .rw[if_neg bc] at h2
     by_cases cb:c<b
     .rw[if_pos cb] at h2;omega
     .rw[if_neg cb] at h2;rw[if_neg (by omega),if_neg (by omega)];exact k8 h1 h2
def gH (a b:Nc):Prop:=aA (nm a) (nm b)<0
theorem iC {a b c:Nc}(h1:gH a b)(h2:gH b c):gH a c:=k8 h1 h2
theorem kS (a:Nc):¬gH a a:=by unfold gH;rw[eU];omega
theorem kj {a b:Nc}(h:¬gH a b)(hne:a≠b):gH b a:=by
 unfold gH at *;have h1:=mK (nm a) (nm b)
 by_cases h0:aA (nm a) (nm b)=0
 .exact absurd (Dh (lz h0)) hne
 .omega
theorem pl {a b:Nc}(h:gH a b):a≠b:=fun e=>by subst e;exact kS _ h
def ix (ns:List Nc):Prop:=ns.Pairwise gH
theorem rC {α:Type}{f:α->Nc}:∀ {l m:List α},l.Perm m->(l.map f).Pairwise gH->(m.map f).Pairwise gH->l=m
 | [],m,hp,_,_=>by have:=hp.length_eq;simp at this;rw[List.eq_nil_of_length_eq_zero this.symm]
 |a::l, [],hp,_,_=>by have:=hp.length_eq;simp at this
 |a::l,b::m,hp,h1,h2=>by
  simp only[List.map_cons,List.pairwise_cons] at h1 h2
  by_cases hab:a=b
  .subst hab;rw[rC (List.Perm.cons_inv hp) h1.2 h2.2]
  .have hb:b∈a::l:=hp.mem_iff.2 (by simp);have ha:a∈b::m:=hp.mem_iff.1 (by simp);have a0:b∈l:=by rcases List.mem_cons.1 hb with e|h;exact absurd e.symm hab;exact h
   have a1:a∈m:=by rcases List.mem_cons.1 ha with e|h;exact absurd e hab;exact h
   exact absurd (iC (h1.1 (f b) (List.mem_map_of_mem a0)) (h2.1 (f a) (List.mem_map_of_mem a1))) (kS _)
