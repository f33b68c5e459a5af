import Derived.Test.YtimbegpgemkpkaaGreatDoorGZ7ak
import Derived.Lib.SmallJoins
set_option linter.unusedVariables false
set_option linter.unusedSimpArgs false
set_option maxHeartbeats 64000000
set_option maxRecDepth 100000
namespace Go.Proofs.YtimbegpgemkpkaaGreatDoor
open Go.Proofs.Tryz
open Go.RowKit Go.Shelf
variable {aE aU:Addr}{d:Dc}{j:JV}{news us:Nb}{B N base c g h0 hi i l0 lo m n:Nat}{P Q:Nat->Prop}{A A':OA}{e:TypeId}{T:TypeId->Prop}{u v z:Value}{w w' w0 w1 w10 w2 w8 wr:Wd}
section
variable {Q:Nat->Array Value->Prop}{B g:Nat}{w:Wd}{bs:List Nat}{frs:List Fr}{a aU aE:Addr}{v:Value}{j j0:JV}{P:Nat->Prop}
theorem Ey (h:qE B Q w g frs none bs)(ht:KH frs none=true)(hv:VW (Pb B bs) w v j)(hP:dh w)(hG:cG w aU aE)(tx:Tx j)(sz:Sz j)(hx:(JV.txt j).length<=140737488355328)(hB:B<=w.heap.size)(hl:frs.length<=1000000000)(hi:∀f∈frs,Ma f) :
  Calls prog 18 #[.pointer (some (nl g)),v] w fun e w'=>LM B Q g (dq frs j).frs (dq frs j).done w e w':=by
 have H1:=Qa (kl hv hP hG tx sz hx);have H2:=Qa (fun w1 (hw:ge w w1)=>qB (h.below hw) hl);have H3:=Qa (fun w1 (hw:ge w w1)=>ny (h.below hw) ht (hv.later hw) (Zc hB hw.size) hl hi);rw[ht] at H2;have HB:=Qa hB;generalize JV.txt j=tl at *;obtain⟨t,x,rfl⟩:=hv.iface;clear h ht hv hP hG tx sz hx hB hl hi;go_in;go_wp2_with fail;refine Za H1 ?_;rintro e w1 ⟨u,rfl,ho,a0⟩;obtain⟨A,q,rfl,-⟩:=ai ho;have a1:=Qa a0;have a5:=Qa (H2 w1 a0);clear ho a0;go_wp2_with fail;refine Za a5 ?_;rintro e w2 ⟨rfl,a3⟩;have a2:=Qa (a1.trans (a3.mono a1.size));have a6:=Qa (H3 w2 a2.out);clear a3;go_wp2_with fail;refine Za a6 ?_;rintro e w3 ⟨rfl,a4,bs',hs⟩;have a7:=Qa a4;have Hs:=Qa hs;clear a4 hs;go_wp2;go_ret;exact⟨rfl,(zS.new a2 HB).trans a7,bs',Hs⟩
theorem vB (h:qE B Q w g [] (some j) bs)(hP:dh w)(hG:cG w aU aE)(tx:Tx j)(sz:Sz j)(hx:(JV.txt j).length<=140737488355328):Calls prog 20 #[.pointer (some (nl g))] w (J0 (JV.txt j) w):=by
 obtain⟨A,c,dv,us,h⟩:=h;obtain⟨rfl,rfl⟩:=h.empty;have hr:=h.row;have hd:VW (Pb B []) w dv j:=h.done;have H1:=Qa (kl hd hP hG tx sz hx);obtain⟨t,x,rfl⟩:=hd.iface;have c0:=ac hr (j:=0) (u:=.slice A 0 c) rfl;have c1:=ac hr (j:=1) (u:=.iface t x) rfl;generalize JV.txt j=tl at *;clear h hr hd hP hG tx sz hx;go_in;go_wp2_with fail;refine Za H1 ?_;rintro e w1 ⟨u,rfl,ho,a0⟩;obtain⟨A2,q,rfl,-⟩:=ai ho;have a1:=Qa a0;have Ho:=Qa ho;clear ho a0;go_wp2_with fail;go_ret2;exact⟨_,rfl,Ho,a1⟩
end
section
variable {Q:Nat->Array Value->Prop}{B g:Nat}{w:Wd}{bs:List Nat}{fs:List Fr}{its:List JV}{ms:List (Nc×JV)}
theorem cM.freshW {k:Nat}{xs:Nb}(h:cM (w.heap.size<= ·) w' e k A n c xs)(hB:B<=w.heap.size)(a0:∀g∈bs,g<w.heap.size):cM (Pb B bs) w' e k A n c xs:=
 h.stay fun g o hp hg _ _=>⟨⟨Zc hB hp,fun hb=>by have:=a0 g hb;omega⟩,hg⟩
theorem sY (h:qE B Q w g (⟨true, [],ms,none⟩::fs) none bs)(ht:KH fs none=true)(hB:B<=w.heap.size)(hl:fs.length<1000000000)(hi:∀f∈fs,Ma f)(hn:ms.length<=1000000000)(c3:∀s∈ms.map Prod.fst,kN s)(b2:(ms.map Prod.fst).Nodup) :
  Calls prog 19 #[.pointer (some (nl g))] w fun e w'=>LM B Q g (dq fs (od (gX ms))).frs (dq fs (od (gX ms))).done w e w':=by
 obtain⟨A,c,dv,us,hA⟩:=h;obtain⟨u,m,us,rfl,hw,c7⟩:=hA.innermost;have hin:=Qa (hA.in_top hl);have HA:=Qa hA;have HB:=Qa hB;have hlt:=hA.lt
 cases hw with
 |table gt At ct L ms s0 nm h1 h2 h3 h4 h5 h6=>
 have c8:L.length=ms.length:=by have:=congrArg List.length h4;simpa using this
 have HE:=Qa (fun k=>ug (w:=w.drewN k) (K:=fun gl w1=>ge w w1/\VW (Pb B bs) w1 (.iface 126 (.pointer (some (nl gl)))) (od (gX ms))) h2 rfl ((ip (w:=w.drewN k) (Bl.of_own h3) (fun p hp=>by
   obtain⟨i,hi,rfl⟩:=List.getElem_of_mem hp;exact⟨c3 _ (by rw[<-h4];exact List.mem_map.2 ⟨_,List.getElem_mem hi,rfl⟩),(h5.2 i L[i].2 ((ms[i]'(by omega)).2) (by rw[List.getElem?_map,Zd hi];rfl) (by rw[List.getElem?_map,Zd (by omega)];rfl)).iface⟩) (by rw[h4];exact b2) (by omega)).mono (by
  rintro e w1 ⟨gl,A1,c1,S,rfl,d3,a9,c9,d0,hp,hs⟩;have hb:ge w w1:=(av (Ze _ _) k).trans d3;have a9:w.heap.size<=gl:=a9;have b5:S.length=L.length:=hp.length_eq;exact⟨gl,rfl,hb,zV (by rw[b5];exact c9) (by rw[b5];exact d0.freshW hB hlt) ⟨Zc hB a9,fun hk=>by have:=hlt gl hk;omega⟩ hp hs h4 (h5.mono fun _ _ h=>h.later hb)⟩)))
 have Ht:=Qa ht;have Hi:=Qa hi;have Hl:=Qa hl;obtain⟨n,a6⟩:=y7 us.length;have d5:n<1000000000:=by omega
 have c6:n+1<=c:=by
  obtain⟨_,_,e,hc,_⟩:=ai hA.own;obtain⟨-,-,rfl⟩:=Value.slice.inj e;rw[List.length_cons,a6] at hc;exact hc
 obtain⟨go,d2⟩:∃go,A=some (nl go):=by
  obtain⟨_,_,e,_,_,hA⟩:=ai hA.own;obtain⟨rfl,-,-⟩:=Value.slice.inj e;exact hA (by simp)
 subst d2;have b1:=Qa a6;clear hA ht hB hi hn h1 h2 h3 h4 h5 h6 c3 b2 hlt c8 c7 a6 hl;go_in;go_wp2_with fail;refine Za hin ?_;rintro e w1 ⟨rfl,k,rfl⟩;have b3:=Qa (HE k);go_wp2_with fail;refine Za b3 ?_;rintro e w2 ⟨gl,rfl,w3,m3,⟨c5,b9⟩,rfl⟩;have a4:ge w (w3.drewN m3):=av c5 m3;have Hv:=Qa (b9.drewN m3);obtain⟨w4,c4⟩:=y7 (w3.drewN m3);rw[c4] at a4 Hv ⊢;have b8:=Qa a4;have a3:=Qa (HA.below a4);clear c5 b9 c4 a4 HE b3;have a2:=a3.row;rw[List.length_cons,b1.out] at a2;have c0:=ac a2 (j:=0) (u:=.slice (some (nl go)) (n+1) c) rfl;have s1:=NC ((n:Int)+1 - 1) (n:Int)
 have s2:IntKind.i64.wrap (n:Int)=n:=IntWalk.i64_in _ (by omega);have s3:(((n+1:Nat):Int))= (n:Int)+1:=by omega
 have s4:(n:Int)<=c:=by omega
 have c0d:w4.drew.cell? (nl g)=some (.slice (some (nl go)) (n+1) c):=c0;have f0d:w4.drew.frozen? (nl g)=false:=ao a2 0;clear a2 c0;go_wp2_with fail;refine cJ (fun w'=>w'.cell? (nl g)=some (.slice (some (nl go)) (n+1) c)) 14 (c0d) fun a0=>?_
 refine iz 0 1 2 a0 ?_;refine iz 3 4 5 a0 ?_;refine iz 6 7 8 a0 ?_;refine iz 9 10 11 a0 ?_;refine rZ 12 fun K hK=>?_
 go_simp;refine hK _ _ (fun _=>a0) (fun a0=>?_);clear hK K;have a0:=a0 (by decide)
 try simp only[Act.put,jP,jQ,jR]
 refine tZ 13 a0 ?_;refine rZ 14 fun K hK=>?_
 go_simp;refine hK _ _ (fun h=>absurd rfl h) (fun _=>?_);clear hK K
 try simp only[Act.put,jP,jQ,jR]
 refine aR (by kernel_rfl) (NoPanic.normal ?_) _;obtain⟨w5,a5⟩:=y7 ((w4.setCell (nl g) (.slice (some (nl go)) n c)).drew);have b4:lx B Q w4.drew g _ none _ c dv _ bs:=a3.below (Ze _ _).drew;have a1:=b4.pop;rw[b1.out] at a1;have a1:lx B Q w5 g fs none (some (nl go)) c dv us (us.flatMap fun u=>dZ u.2):=by rw[<-a5];exact a1
 have a7:aV (fun k=>k=g) w4 w5:=by rw[<-a5];exact(aV.of_below (Ze _ _).drew).trans (aV.set g 0 (.slice (some (nl go)) n c)) fun i h=>.inl h
 have hm:Mw [] w4 w5:=Mw.of_chg a7 fun k hk _=>.inr (by subst hk;exact⟨_,_,_,a3.row,iL⟩)
 have b7:=Hv.move (bs':=us.flatMap fun u=>dZ u.2) hm.mv (by simp) (fun k hk=>.inl (by rw[<-a3.out.blocks];exact List.mem_append_right _ hk));have b6:=Qa ((zS.new b8 HB).trans (.chg a7 (Zc HB b8.size) fun i e=>by subst e;exact⟨a3.low,_,_,_,a3.row,.inr (.inl rfl)⟩));have b0:=ny ⟨_,_,_,_,a1⟩ Ht.out b7 (Zc HB b6.b.size) (by have:=Hl.out;omega) Hi.out;rw[a5];have d4:=Qa b0;clear b4 a7 hm b7 b0 a5 c0d f0d a0;go_wp2_with fail;refine Za d4 ?_;rintro e w6 ⟨rfl,c2,bs',hs⟩;have d1:=Qa c2;have Hs:=Qa hs;clear c2 hs;go_wp2;go_ret;exact⟨rfl,b6.trans d1,bs',Hs⟩
end
section
variable {Q:Nat->Array Value->Prop}{B g c:Nat}{w:Wd}{bs:List Nat}{A:OA}{dv u:Value}{f:Fr}{frs:List Fr}{us:List (Value×Nat×Value)}
theorem wN (h:qE B Q w g frs none bs)(ht:KH frs none=true)(hB:B<=w.heap.size)(hl:frs.length<=1000000000):Calls prog 16 #[.pointer (some (nl g)),.int .u8 123] w (LM B Q g (⟨true, [], [],none⟩::frs) none w):=by
 have HT:=Qa (qB h hl);rw[ht] at HT;have Hl:=Qa hl;have H:=Qa h;clear h ht hl;go_in;go_wp2_with fail;refine Za HT ?_;rintro e w1 ⟨rfl,a1⟩;obtain⟨A,c,dv,us,hA⟩:=H.below a1;have b0:us.length=frs.length:=hA.frames.1;obtain⟨n,hn⟩:=y7 us.length;have b2:n<=1000000000:=by have:=Hl.out;omega
 have hh:=hA.row;have ho:=hA.own;rw[hn] at hh ho;have c0:=ac hh (j:=0) (u:=.slice A n c) rfl;have a0:ge w1 ((w1.alloc (.cells #[(),.string ⟨#[]⟩,false] 100)).alloc (.cells #[Ij w1.heap.size] 103)):=((Ze _ _).alloc (Zb _) _).alloc (by simp) _;have a2:=Qa (aq ho a0 (Zb _));have a6:=Qa (au (w1.alloc (.cells #[(),.string ⟨#[]⟩,false] 100)) [Ij w1.heap.size] 103);have a4:=Qa (al hh a0);have a7:=Qa (aW a2.out a4.out (by decide));have a3:=Qa ((Below.heap_alloc (w1.alloc (.cells #[(),.string ⟨#[]⟩,false] 100)) (.cells #[Ij w1.heap.size] 103) w1.heap.size (by simp)).trans (Zf w1 (.cells #[(),.string ⟨#[]⟩,false] 100)));have HA:=Qa hA;have a9:=Qa a1;have a5:=Qa a0;have HB:=Qa (Zc hB a1.size);have b1:=Qa hB;have Hn:=Qa hn;clear hA a1 a0 hh ho b0 hn H hB;go_wp2_with (at_builtin;refine ir JP a2.out (by have:=a6.out;rw[World.size_alloc] at this;exact this) (Zc HB a5.size) ?_;intro v' w5 p1 p2 p3;obtain⟨A5,q5,rfl,-,-,-⟩:=ai p1;have g5:=aJ a4.out p2 a7.out;have f5:=ao g5 0;have c5:=ac g5 (j:=0) (u:=.slice A n c) rfl;have HK:=Qa p1;have HG:=Qa p2;clear p1 p2 p3 g5);go_ret;obtain rfl:=Hn.out;obtain⟨r1,r2⟩:=HA.push (f:=⟨true, [], [],none⟩) HB.out a5.out (Zb _) (ah a3) HG.out HK.out (fun P w' e=>.table w1.heap.size none 0 [] [] ⟨#[]⟩ none HB.out (e.trans a3) ⟨rfl,.inl ⟨rfl,rfl⟩⟩ rfl (bC.nil _) (fun t e=>by cases e));exact⟨rfl,(zS.new a9 b1).trans r1,_,_,_,_,_,r2⟩
end
structure yQ (w:Wd):Prop where
 env:∃aU aE,sT w aU aE
 may:lT w
 pow:dh w
 eNil:bG w 0
 eTwice:bG w 2
 eHidden:bG w 1
 eSyntax:bG w 3
theorem yQ.below (h:yQ w)(hb:ge w w'):yQ w':=by
 obtain⟨⟨aU,aE,h1⟩,h2,h3,h4,h5,h6,h7⟩:=h;exact⟨⟨aU,aE,h1.below hb⟩,h2.below hb,h3.below hb,h4.below hb,h5.below hb,h6.below hb,h7.below hb⟩
theorem sN (a:Addr)(W:Wd):(binOp .neq 44 (bR a) (bR a)).run prog W =.ok false W:=by
 obtain⟨i,hi,hc⟩:=Option.map_eq_some_iff.1 DJ;obtain⟨j,hj,hs⟩:=Option.map_eq_some_iff.1 Dn;simp only[binOp];simp[Op.equal,Op.maxDepth,run_equalIn_iface_ptr_same W 9998 a underlying44 underlying425 hi hc hj]
theorem jJ (w:Wd)(xs:Na)(hm:xs.length<=9223372036854775807):Bs (w.alloc (.cells (iK xs).toArray 5 (xs.length,xs.length+1))) (.slice (some (nl w.heap.size)) xs.length xs.length) xs:=tT xs hm (Zb _) (Zf w _)
theorem gZ:uG ⟨false,⟨#[]⟩,0⟩:=⟨by decide,by decide,by decide⟩
theorem fE {k:Int}{t:Bool}{x:Nc}:x.size<=1000000000->d.digits.size<=1000000000->Sz (.mk k t x d [] []):=fun h1 h2=>.mk _ _ _ _ _ _ h1 h2 (by simp) (by simp)
theorem JM:Sz KD:=by
 refine .mk _ _ _ _ _ _ (by decide) (by decide) (by simp;decide) (fun u hu=>?_);simp only[List.mem_cons,List.mem_nil_iff,or_false] at hu;rcases hu with rfl|rfl
 .exact fE (by decide) (by decide)
 .refine .mk _ _ _ _ _ _ (by decide) (by decide) (by simp) (fun u hu=>?_);simp only[List.mem_cons,List.mem_nil_iff,or_false] at hu;rcases hu with rfl|rfl <;> exact fE (by decide) (by decide)
theorem El:Tx (ei [eC ⟨false,⟨#[49]⟩,0⟩,eC ⟨false,⟨#[50]⟩,0⟩]):=by
 refine .list _ fun u hu=>?_
 simp only[List.mem_cons,List.mem_nil_iff,or_false] at hu;rcases hu with rfl|rfl
 .exact .num _ (.inr ⟨⟨by decide,by decide,by decide,by decide⟩,by decide,by decide⟩)
 .exact .num _ (.inr ⟨⟨by decide,by decide,by decide,by decide⟩,by decide,by decide⟩)
theorem F3:Sz (ei [eC ⟨false,⟨#[49]⟩,0⟩,eC ⟨false,⟨#[50]⟩,0⟩]):=by
 refine .mk _ _ _ _ _ _ (by decide) (by decide) (by simp) (fun u hu=>?_);simp only[List.mem_cons,List.mem_nil_iff,or_false] at hu;rcases hu with rfl|rfl <;> exact fE (by decide) (by decide)
def bS:Nc:=⟨#[98]⟩
theorem sX:dS bS:=⟨[98],by decide,by decide⟩
def bJ:JV:=od [(bS,gB true)]
theorem DN:bJ.txt = [123,34,98,34,58,116,114,117,101,125]:=by rfl
theorem Lr:Tx bJ:=.obj [bS] [gB true] rfl (fun s hs=>by rw[List.mem_singleton.1 hs];exact sX) (List.pairwise_singleton _ _) (fun u hu=>by rw[List.mem_singleton.1 hu];exact .bool true)
theorem KX:Sz bJ:=.mk _ _ _ _ _ _ (by decide) (by decide) (fun s hs=>by rw[List.mem_singleton.1 hs];decide) (fun u hu=>by rw[List.mem_singleton.1 hu];exact fE (by decide) (by decide))
theorem Jy (h:w'.heap[w.heap.size]?=some (.cells #[(),.nilIface] 93 (0,0))):qE w.heap.size MG w' w.heap.size [] none []:=
 ⟨none,0,.nilIface, [],h,Zb _,⟨rfl,.inl ⟨rfl,rfl⟩⟩,bC.nil _,rfl,List.nodup_nil,rfl,fun _ _ h=>h.elim⟩
theorem nI {w12:Wd}{a:Addr}(h:w10.cell? (nl g)=some (bR a))(h1:ge w8 w10)(h2:ge w8 w12)(he:bG w8 g):w12.cell? (nl g)=some (bR a):=by
 obtain⟨b,hb⟩:=he;have e:=Zg h1 hb;rw[h] at e;rw[Zi e];exact Zg h2 hb
theorem Ar {a:Addr}(h:w10.cell? (nl g)=some (bR a))(h1:ge w8 w10)(he:bG w8 g):w8.cell? (nl g)=some (bR a):=nI h h1 (Ze _ _) he
def LU (w:Wd)(e:Ending)(w':Wd):Prop:=e =.returned true/\ge w w'
theorem CG (hL:yQ w):Calls prog 4 #[] w (LU w):=by
 have a7:=aa w (.cells #[.int .u8 123,.int .u8 32,.int .u8 34,.int .u8 98,.int .u8 34,.int .u8 32,.int .u8 58,.int .u8 32,.int .u8 91,.int .u8 49,.int .u8 46,.int .u8 53,.int .u8 48,.int .u8 44,.int .u8 32,.int .u8 49,.int .u8 101,.int .u8 50,.int .u8 93,.int .u8 44,.int .u8 32,.int .u8 34,.int .u8 97,.int .u8 92,.int .u8 117,.int .u8 48,.int .u8 48,.int .u8 54,.int .u8 50,.int .u8 34,.int .u8 32,.int .u8 58,.int .u8 32,.int .u8 110,.int .u8 117,.int .u8 108,.int .u8 108,.int .u8 32,.int .u8 125] 5 (39,40));have f4:=Qa a7;have H1:=Qa (show Calls prog 11 #[.slice (some ⟨w.heap.size,0,none⟩) 39 39] (w.alloc (.cells #[.int .u8 123,.int .u8 32,.int .u8 34,.int .u8 98,.int .u8 34,.int .u8 32,.int .u8 58,.int .u8 32,.int .u8 91,.int .u8 49,.int .u8 46,.int .u8 53,.int .u8 48,.int .u8 44,.int .u8 32,.int .u8 49,.int .u8 101,.int .u8 50,.int .u8 93,.int .u8 44,.int .u8 32,.int .u8 34,.int .u8 97,.int .u8 92,.int .u8 117,.int .u8 48,.int .u8 48,.int .u8 54,.int .u8 50,.int .u8 34,.int .u8 32,.int .u8 58,.int .u8 32,.int .u8 110,.int .u8 117,.int .u8 108,.int .u8 108,.int .u8 32,.int .u8 125] 5 (39,40))) _ from by
  obtain⟨⟨aU,aE,hE⟩,hM,hP,-⟩:=hL.below a7;exact ww (v:=.slice (some ⟨w.heap.size,0,none⟩) 39 39) (xs:=L5) (j:=KD) hE hM hP (jJ w L5 (by decide)) (by decide) (by decide) FG Jq JM (by rw[Fh];decide))
 rw[Fh] at H1;have HL:=Qa hL;clear hL a7;have q0:=fun (w:World) (C:Array Value) (n c:Nat)=>Lib.run_convert_bytes_const (P:=prog) w 30 5 C n c underlying30 underlying5
 go_in;go_wp2_with fail;refine Za H1 ?_;rintro e w1 ⟨u1,rfl,f5,g5⟩;have e3:=Qa (f4.trans (g5.mono f4.size));have a1:=Qa (aw.bs f5);obtain⟨A1,q1,rfl,-⟩:=ai f5;clear f5 g5 H1 f4;obtain⟨aN,hN⟩:=(HL.below e3).eNil;have HN:=Qa hN;have H2:=Qa (Cb hN);clear hN;go_wp2_with fail;refine Za H2 ?_;rintro e w2 ⟨rfl,f1⟩;have f0:=Qa (e3.trans (f1.mono e3.size));replace a1:=Qa (a1.below f1);replace HN:=Qa (Zg f1 HN.out);obtain⟨aH,hH⟩:=(HL.below f0).eHidden;have HH:=Qa hH;have H3:=Qa (yP hH);clear hH f1 H2 e3;go_wp2_with fail;refine Za H3 ?_;rintro e w3 ⟨rfl,d0⟩;have g1:=Qa (f0.trans (d0.mono f0.size));replace a1:=Qa (a1.below d0);replace HN:=Qa (Zg d0 HN.out);replace HH:=Qa (Zg d0 HH.out);clear d0 H3 f0;have f2:=aa w3 (.cells #[.int .u8 49] 5 (1,2));have f9:=aa (w3.alloc (.cells #[.int .u8 49] 5 (1,2))) (.cells #[.int .u8 49,.int .u8 46,.int .u8 48] 5 (3,4));have d5:=f2.trans (f9.mono f2.size);have a3:=Qa (g1.trans (d5.mono g1.size));have H4:=Qa (show Calls prog 13 #[.slice (some ⟨w3.heap.size,0,none⟩) 1 1,.slice (some ⟨w3.heap.size+1,0,none⟩) 3 3] ((w3.alloc (.cells #[.int .u8 49] 5 (1,2))).alloc (.cells #[.int .u8 49,.int .u8 46,.int .u8 48] 5 (3,4))) _ from by
  obtain⟨⟨aU,aE,hE⟩,hM,hP,-⟩:=HL.below a3.out;have b2:=jJ (w3.alloc (.cells #[.int .u8 49] 5 (1,2))) [49,46,48] (by decide);rw[World.size_alloc] at b2;exact Fw (v:=.slice (some ⟨w3.heap.size,0,none⟩) 1 1) (v':=.slice (some ⟨w3.heap.size+1,0,none⟩) 3 3) (xs:= [49]) (xs':= [49,46,48]) (j:=eC ⟨false,⟨#[49]⟩,0⟩) (j':=eC ⟨false,⟨#[49]⟩,0⟩) hE hM hP ((jJ w3 [49] (by decide)).below f9) (by decide) (by decide) CN b2 (by decide) (by decide) Ac)
 rw[dQ.2 rfl] at H4;have q4:=Joins.run_convert_bytes_const_at (P:=prog) (w3.alloc (.cells #[.int .u8 49] 5 (1,2))) 30 5 #[.int .u8 49,.int .u8 46,.int .u8 48] 3 3 (w3.heap.size+1) (by simp) underlying30 underlying5;replace a1:=Qa (a1.below d5);replace HN:=Qa (Zg d5 HN.out);replace HH:=Qa (Zg d5 HH.out);clear f2 f9 d5 g1;go_wp2_with fail;refine Za H4 ?_;rintro e w4 ⟨rfl,b9⟩;have e5:=Qa (a3.trans (b9.mono a3.size));replace a1:=Qa (a1.below b9);replace HN:=Qa (Zg b9 HN.out);replace HH:=Qa (Zg b9 HH.out);clear b9 H4 a3;have H5:=Qa (show Calls prog 12 #[.iface 52 (.pointer none)] w4 _ from by
  obtain⟨⟨aU,aE,hE⟩,hM,hP,-⟩:=HL.below e5.out;exact kl (P:=fun _=>True) (j:=ei []) .bare hP hE.glob (.list [] (by simp)) (fE (by decide) (by decide)) (by decide))
 rw[show(ei []).txt = [91,93] from rfl] at H5;go_wp2_with fail;refine Za H5 ?_;rintro e w5 ⟨u5,rfl,g0,c6⟩;have e7:=Qa (e5.trans (c6.mono e5.size));replace a1:=Qa (a1.below c6);replace HN:=Qa (Zg c6 HN.out);replace HH:=Qa (Zg c6 HH.out);have a6:=Qa (aw.bs g0);obtain⟨A5,q5,rfl,-⟩:=ai g0;clear g0 c6 H5 e5;have C1:=Qa (show Calls prog 14 #[.iface 54 (.agg #[]),.iface 55 (.bool false)] w5 _ from by
  obtain⟨⟨aU,aE,hE⟩,hM,hP,-⟩:=HL.below e7.out;exact jV (P:=fun _=>True) (Q:=fun _=>True) (a:=some kC) (b:=some (gB false)) .null (.bool false) hP hE.glob (fun j e=>by cases e;exact Tx.jb .null (fE (by decide) (by decide))) (fun j e=>by cases e;exact Tx.jb (.bool _) (fE (by decide) (by decide))))
 rw[show bF (some kC) (some (gB false)) = -1 from rfl] at C1;go_wp2_with fail;refine Za C1 ?_;rintro e w6 ⟨rfl,b7⟩;have e6:=Qa (e7.trans (b7.mono e7.size));replace a1:=Qa (a1.below b7);replace a6:=Qa (a6.below b7);replace HN:=Qa (Zg b7 HN.out);replace HH:=Qa (Zg b7 HH.out);clear b7 C1 e7;have C2:=Qa (show Calls prog 14 #[.iface 37 (.string ⟨#[98]⟩),.iface 37 (.string ⟨#[97,98]⟩)] w6 _ from by
  obtain⟨⟨aU,aE,hE⟩,hM,hP,-⟩:=HL.below e6.out;exact jV (P:=fun _=>True) (Q:=fun _=>True) (a:=some (fB ⟨#[98]⟩)) (b:=some (fB ⟨#[97,98]⟩)) (.text _) (.text _) hP hE.glob (fun j e=>by cases e;exact .mk _ _ _ _ _ _ (by decide) gZ (by simp) (by simp)) (fun j e=>by cases e;exact .mk _ _ _ _ _ _ (by decide) gZ (by simp) (by simp)))
 rw[show bF (some (fB ⟨#[98]⟩)) (some (fB ⟨#[97,98]⟩))=1 from rfl] at C2;go_wp2_with fail;refine Za C2 ?_;rintro e w7 ⟨rfl,b3⟩;have e4:=Qa (e6.trans (b3.mono e6.size));replace a1:=Qa (a1.below b3);replace a6:=Qa (a6.below b3);replace HN:=Qa (Zg b3 HN.out);replace HH:=Qa (Zg b3 HH.out);clear b3 C2 e6;have C3:=Qa (show Calls prog 14 #[.nilIface,.nilIface] w7 _ from by
  obtain⟨⟨aU,aE,hE⟩,hM,hP,-⟩:=HL.below e4.out;exact jV (P:=fun _=>True) (Q:=fun _=>True) (a:=none) (b:=none) rfl rfl hP hE.glob (fun j e=>by cases e) (fun j e=>by cases e))
 rw[show bF none none=0 from rfl] at C3;go_wp2_with fail;refine Za C3 ?_;rintro e w8 ⟨rfl,b5⟩;have a2:=Qa (e4.trans (b5.mono e4.size));replace a1:=Qa (a1.below b5);replace a6:=Qa (a6.below b5);replace HN:=Qa (Zg b5 HN.out);replace HH:=Qa (Zg b5 HH.out);clear b5 C3 e4;go_wp2_with fail;refine ra.mono ?_;rintro e w9 ⟨rfl,g2,g3⟩;have H9:=Qa g3;have g4:=Qa (Jy g2);clear g2 g3;have O1:=Qa (wN g4.out rfl H9.size (Zk _));go_wp2_with fail;refine Za O1 ?_;rintro e w10 ⟨rfl,c4,bs10,d6⟩;have b6:=Qa (H9.trans c4.b);have c5:=Qa d6;clear c4 d6 O1 g4 H9;obtain⟨aT,hT⟩:=(HL.below (a2.trans (b6.mono a2.size))).eTwice;have e0:=Qa hT;have N1:=Qa (show Calls prog 17 #[.pointer (some ⟨w8.heap.size,0,none⟩),.string ⟨#[98]⟩] w10 _ from by
  obtain⟨⟨aU,aE,hE⟩,-⟩:=HL.below (a2.trans (b6.mono a2.size));exact rP c5.out sX hE.glob (by decide) hT b6.size (by decide) (by decide))
 clear hT;go_wp2_with fail;refine Za N1 ?_;rintro e w11 (⟨hx,-⟩|⟨-,rfl,d3,bs11,c1⟩)
 ·exact absurd hx (by simp)
 have e8:=Qa (b6.trans d3.b);have c0:=Qa c1;clear d3 c1 N1 c5;have P1:=Qa (show Calls prog 18 #[.pointer (some ⟨w8.heap.size,0,none⟩),.iface 55 (.bool true)] w11 _ from by
  obtain⟨⟨aU,aE,hE⟩,hM,hP,-⟩:=HL.below (a2.trans (e8.mono a2.size));exact Ey c0.out rfl (.bool true) hP hE.glob (.bool true) (fE (by decide) (by decide)) (by decide) e8.size (by decide) (fun f hf=>by rw[List.mem_singleton.1 hf];exact⟨by decide,by decide⟩))
 go_wp2_with fail;refine Za P1 ?_;rintro e w12 ⟨rfl,c3,bs12,c8⟩;have b4:=Qa (e8.trans c3.b);have b1:=Qa (show qE w8.heap.size MG w12 w8.heap.size (⟨true, [], [(bS,gB true)],none⟩:: []) none bs12 from c8);clear c3 c8 P1 c0 e8;have N2:=Qa (show Calls prog 17 #[.pointer (some ⟨w8.heap.size,0,none⟩),.string ⟨#[98]⟩] w12 _ from by
  obtain⟨⟨aU,aE,hE⟩,-⟩:=HL.below (a2.trans (b4.mono a2.size));exact rP (s:=⟨#[98]⟩) b1.out sX hE.glob (by decide) (nI e0 b6 b4 (HL.below a2).eTwice) b4.size (by decide) (by decide))
 go_wp2_with fail;refine Za N2 ?_;rintro e w13 (⟨-,rfl,b0⟩|⟨hx,-⟩)
 case inr=>exact absurd (List.mem_singleton.2 rfl) hx
 have f3:=Qa (b4.trans (b0.mono b4.size));have e2:=Qa (b1.below b0);clear b0 N2 b1 b4;have K1:=Qa (sY e2.out rfl f3.size (by decide) (fun f hf=>by cases hf) (by decide) (fun s hs=>by rw[List.mem_singleton.1 hs];exact⟨sX,by decide⟩) (List.pairwise_singleton _ _));go_wp2_with fail;refine Za K1 ?_;rintro e w14 ⟨rfl,d1,bs14,c7⟩;have f7:=Qa (f3.trans d1.b);have f8:=Qa (show qE w8.heap.size MG w14 w8.heap.size [] (some bJ) bs14 from c7);clear d1 c7 K1 e2 f3;have B1:=Qa (show Calls prog 20 #[.pointer (some ⟨w8.heap.size,0,none⟩)] w14 _ from by
  obtain⟨⟨aU,aE,hE⟩,hM,hP,-⟩:=HL.below (a2.trans (f7.mono a2.size));exact vB f8.out hP hE.glob Lr KX (by rw[DN];decide))
 rw[DN] at B1;go_wp2_with fail;refine Za B1 ?_;rintro e w15 ⟨u15,rfl,a5,b8⟩;have a0:=f7.trans (b8.mono f7.size);have cN:=Zg a0 HN.out;have cH:=Zg a0 HH.out;have cT:=Zg a0 (Ar e0 b6 (HL.below a2).eTwice);have s1:(convert 30 9 (.slice A1 27 q1)).run prog w15 =.ok (.string ⟨#[123,34,97,98,34,58,110,117,108,108,44,34,98,34,58,91,49,53,101,45,49,44,49,101,50,93,125]⟩) w15:=a8 (a1.below a0);have s5:(convert 30 9 (.slice A5 2 q5)).run prog w15 =.ok (.string ⟨#[91,93]⟩) w15:=a8 (a6.below a0);have d2:=aw.bs a5;have c2:=Qa (a2.trans (a0.mono a2.size));obtain⟨A15,q15,rfl,-⟩:=ai a5;have s15:(convert 30 9 (.slice A15 10 q15)).run prog w15 =.ok (.string ⟨#[123,34,98,34,58,116,114,117,101,125]⟩) w15:=a8 d2;have qe:=sN;have d9:=aa w15 (.cells #[.int .u8 91,.int .u8 49,.int .u8 44,.int .u8 50,.int .u8 93] 5 (5,6));have a4:=Qa (c2.trans (d9.mono c2.size));have I1:=Qa (show Calls prog 21 #[.slice (some ⟨w15.heap.size,0,none⟩) 5 5] (w15.alloc (.cells #[.int .u8 91,.int .u8 49,.int .u8 44,.int .u8 50,.int .u8 93] 5 (5,6))) _ from by
  obtain⟨⟨aU,aE,hE⟩,hM,hP,-⟩:=HL.below a4.out;exact Fq (v:=.slice (some ⟨w15.heap.size,0,none⟩) 5 5) (xs:= [91,49,44,50,93]) hE hM hP (jJ w15 [91,49,44,50,93] (by decide)) (by decide) (by decide) BL El F3 (by rw[oB];decide))
 rw[oB,decide_eq_true rfl] at I1;clear a5 b8 a0 B1 d9 d2;go_wp2_with fail;refine Za I1 ?_;rintro e w17 ⟨rfl,d7⟩;have c9:=Qa (a4.trans (d7.mono a4.size));have d4:=aa w17 (.cells #[.int .u8 91,.int .u8 49,.int .u8 44,.int .u8 32,.int .u8 50,.int .u8 93] 5 (6,7));have a9:=Qa (c9.trans (d4.mono c9.size));have I2:=Qa (show Calls prog 21 #[.slice (some ⟨w17.heap.size,0,none⟩) 6 6] (w17.alloc (.cells #[.int .u8 91,.int .u8 49,.int .u8 44,.int .u8 32,.int .u8 50,.int .u8 93] 5 (6,7))) _ from by
  obtain⟨⟨aU,aE,hE⟩,hM,hP,-⟩:=HL.below a9.out;exact Fq (v:=.slice (some ⟨w17.heap.size,0,none⟩) 6 6) (xs:= [91,49,44,32,50,93]) hE hM hP (jJ w17 [91,49,44,32,50,93] (by decide)) (by decide) (by decide) Cq El F3 (by rw[oB];decide))
 rw[oB,decide_eq_false (by decide)] at I2;clear d7 d4 I1;go_wp2_with fail;refine Za I2 ?_;rintro e w19 ⟨rfl,e1⟩;have f6:=Qa (a9.trans (e1.mono a9.size));clear e1 I2;go_wp2;go_ret;exact⟨rfl,f6⟩
theorem zJ (hd:d.digits.size<=6000+1)(hn:kt d):Tx (.mk 3 false es d [] [])/\Sz (.mk 3 false es d [] []):=⟨.num d (qn hn),.mk _ _ _ _ _ _ (by decide) (by omega) (by simp) (by simp)⟩
theorem KP {b:Nat}(hb:b<=9223372036854775807)(g:Ok True (uD b) j):JB j:=by
 induction g with
 |null=>exact .mk _ _ _ _ _ _ (by decide) gZ (by simp) (by simp)
 |bool b=>exact .mk _ _ _ _ _ _ (by decide) gZ (by simp) (by simp)
 |num d hd hn=>exact(zJ hd hn).1.jb (zJ hd hn).2
 |text s hs=>exact .mk _ _ _ _ _ _ (by unfold uD at hs;omega) gZ (by simp) (by simp)
 |hole e=>exact .mk _ _ _ _ _ _ (by decide) gZ (by simp) (by simp)
 |list ks _ ih=>exact .mk _ _ _ _ _ _ (by decide) gZ (by simp) ih
 |obj ns ks h1 h2 h3 _ ih=>exact .mk _ _ _ _ _ _ (by decide) gZ (fun s hs=>by have:=(h2 s hs).2;omega) ih
theorem K9 {T:Nc->Prop}(g:Ok True T j):Vl j:=by
 induction g with
 |null=>exact .null
 |bool b=>exact .bool b
 |num d hd hn=>exact(zJ hd hn).1.vl
 |text s hs=>exact .text s
 |hole e=>exact .hole
 |list ks _ ih=>exact .list ks ih
 |obj ns ks h1 h2 h3 _ ih=>exact .obj ns ks h1 ih
def Ky (o:Option JV):Prop:= ∀j,o=some j->JB j/\Vl j
theorem OT.ok {o:Option JV}(h:OT w v o):Ky o:=fun j e=>by
 subst e;exact⟨KP (by decide) h.2.1,K9 h.2.1⟩
def M4 (w:Wd)(o:Option JV)(e:Ending)(w':Wd):Prop:= ∃u,e =.returned u/\ge w w'/\OV (w.heap.size<= ·) w' u o
theorem F8 {o:Option JV}(h:OT w v o):Calls prog 6 #[v] w (M4 w o):=by
 cases o with
 |some j=>exact(E8 h.1 (by have:=h.2.2;omega) h.2.1).mono fun e w' ⟨u,he,hb,hv⟩=>⟨u,he,hb,hv⟩
 |none=>
  obtain rfl:v =.slice none 0 0:=h;go_in;go_wp2;go_ret;exact⟨_,rfl,Ze _ _,rfl⟩
theorem gc (a b:Option JV):bF b a = - bF a b:=mK _ _
theorem rj (a:Option JV):bF a a=0:=eU _
abbrev Vj:=Value×Option JV
def Db (B:Nat)(w:Wd)(L:List Vj):Prop:= ∀p∈L,OV (· < B) w p.1 p.2/\Ky p.2
theorem OV.lowB {o:Option JV}(h:OV (· < B) w v o)(hb:Below B w w'):OV (· < B) w' v o:=by
 cases o with
 |none=>exact h
 |some j=>exact VW.stay h fun g o hp hg _=>⟨hp,(hb.block g hp).trans hg⟩
theorem Db.lowB {L:List Vj}(h:Db B w L)(hb:Below B w w'):Db B w' L:=fun p hp=>⟨(h p hp).1.lowB hb,(h p hp).2⟩
theorem OV.one {o:Option JV}(h:OV P w v o):v.oneCell'=true:=by
 cases o with
 |none=>rw[show v =.nilIface from h];rfl
 |some j=>obtain⟨t,x,rfl⟩:=VW.iface h;rfl
theorem OV.two {o:Option JV}(h:OV P w v o):v =.nilIface\/∃t x,v =.iface t x:=by
 cases o with
 |none=>exact .inl h
 |some j=>exact .inr (VW.iface h)
def cB (B g c:Nat)(w:Wd)(L:List Vj):Prop:=w.ownsRow B 35 1 (.slice (some (nl g)) L.length c) L.length (L.map Prod.fst)
theorem cB.cell {L:List Vj}(h:cB B g c w L){j:Nat}{p:Vj}(hp:L[j]?=some p):w.cell? (no g j)=some p.1/\w.frozen? (no g j)=false:=by
 have hj:=(List.getElem?_eq_some_iff.1 hp).1;refine⟨?_,World.ownsRow.frozenAt h j⟩;rw[World.ownsRow.cellAt h j (by omega),List.getElem?_map,hp];rfl
theorem cB.set {L:List Vj}(h:cB B g c w L)(j:Nat)(p:Vj):cB B g c (w.setCell (no g j) p.1) (L.set j p):=by
 have:=(World.ownsRow.stored h j p.1).1;unfold cB;rw[List.length_set,List.map_set];exact this
theorem cB.below {L:List Vj}(h:cB B g c w L)(hb:ge w w'):cB B g c w' L:=aq h hb (Zb _)
theorem cB.lt {L:List Vj}(h:cB B g c w L):B<=g/\g<w.heap.size:=World.ownsRow.lt h g rfl
def cD (S:List Vj):Prop:=S.Pairwise fun p q=>bF p.2 q.2<=0
theorem lW {a b c:Option JV}(h1:bF a b<=0)(h2:bF b c<=0):bF a c<=0:=ri h1 h2
theorem cD.ins {S1 S2:List Vj}{x:Vj}(h:cD (S1++S2))(h1:∀y,S1.getLast?=some y->bF y.2 x.2<=0)(h2:∀y∈S2,bF x.2 y.2<=0):cD (S1++x::S2):=by
 have ⟨a1,a2,a3⟩:=List.pairwise_append.1 h;refine List.pairwise_append.2 ⟨a1,List.pairwise_cons.2 ⟨h2,a2⟩,fun y hy z hz=>?_⟩;rcases List.mem_cons.1 hz with rfl|hz
 .rcases List.eq_nil_or_concat S1 with rfl|⟨T,l,a0⟩
  .cases hy
  rw[List.concat_eq_append] at a0;subst a0
  .have hl:=h1 l (by simp);rcases List.mem_append.1 (by simpa using hy:y∈T ++ [l]) with hy|hy
   .exact lW ((List.pairwise_append.1 (by simpa using a1:(T ++ [l]).Pairwise _)).2.2 y hy l (by simp)) hl
   .rw[List.mem_singleton.1 hy];exact hl
 .exact a3 y hy z hz
def JX (B g c a b:Nat)(L:List Vj)(w:Wd)(e:Ending)(w':Wd):Prop:=e =.returned (.tuple #[])/\aV (· = g) w w'/\∃S,S.Perm ((L.take b).drop a)/\cD S/\cB B g c w' (L.take a++S++L.drop b)
def Fg (B g c a b:Nat)(L:List Vj)(w:Wd)(s8:Value)(wr:Wd):Prop:= ∃ (i:Nat) (S:List Vj),s8 =(i:Int)/\a+1<=i/\i<=b+1/\(i<=b\/i=a+1)/\S.Perm ((L.take (min i b)).drop a)/\cD S/\cB B g c wr (L.take a++S++L.drop (min i b))/\aV (· = g) w wr
def Mo (B g c a:Nat)(P S R:List Vj)(x:Vj)(w:Wd)(s9:Value)(wr:Wd):Prop:= ∃S1 S2:List Vj,S=S1++S2/\(∀y∈S2,bF x.2 y.2<=0)/\s9 =((a+S1.length:Nat):Int)/\cB B g c wr (P++ (S1++x::S2)++R)/\aV (· = g) w wr
theorem Fg.next {a b:Nat}{L S S1 S2:List Vj}{x:Vj}(hp:S.Perm ((L.take i).drop a))(hs:cD S)(hx:L[i]?=some x)(he:S=S1++S2)(h1:∀y,S1.getLast?=some y->bF y.2 x.2<=0)(h2:∀y∈S2,bF x.2 y.2<=0)(a1:cB B g c wr (L.take a++ (S1++x::S2)++L.drop (i+1)))(a2:aV (· = g) w wr)(ha:a+1<=i)(a3:i<b):Fg B g c a b L w ((i:Int)+1:Int) wr:=by
 subst he;have a0:min (i+1) b=i+1:=Nat.min_eq_left (by omega);refine⟨i+1,S1++x::S2,by go_num,by omega,by omega,.inl (by omega),?_,hs.ins h1 h2,by rw[a0];exact a1,a2⟩;rw[a0,eN (by omega) hx];exact(List.perm_middle.trans (List.Perm.cons x hp)).trans (List.perm_append_singleton _ _).symm
theorem gI {a b c:Wd}(h:aV (· = g) a b)(k:aV (· = g) b c):aV (· = g) a c:=h.trans k fun i hi=>.inl hi
theorem AW {P S1 S2 R:List Vj}{x:Vj}{a:Nat}(hP:P.length=a):(P++ (S1++x::S2)++R)[a+S1.length]?=some x:=by
 rw[List.append_assoc,List.getElem?_append_right (by omega),List.append_assoc,List.getElem?_append_right (by omega)];simp[hP]
theorem Ec {P T S2 R:List Vj}{x y:Vj}{a:Nat}(hP:P.length=a):(P++ ((T ++ [y])++x::S2)++R)[a+T.length]?=some y:=by
 have:=AW (P:=P) (S1:=T) (S2:=x::S2) (R:=R) (x:=y) hP;simpa using this
theorem DB {P T S2 R:List Vj}{x y:Vj}{a:Nat}(hP:P.length=a):((P++ ((T ++ [y])++x::S2)++R).set (a+T.length+1) y).set (a+T.length) x=P++ (T++x:: (y::S2))++R:=by
 subst hP;rw[List.append_assoc,List.set_append_right _ _ (by omega),List.set_append_right _ _ (by omega),List.append_assoc,List.append_assoc,List.set_append_right _ _ (by omega),List.set_append_right _ _ (by omega)];rw[show P.length+T.length+1 - P.length - T.length=1 by omega,show P.length+T.length - P.length - T.length=0 by omega];simp
theorem zE {a b:Nat}{L:List Vj}(hr:cB B g c w L)(hv:Db B w L)(h0:ge w0 w)(d4:w0.heap.size<=B)(hB:B<=w.heap.size)(hlen:L.length<=1000)(hab:a<=b)(hb:b<=L.length)(hT:dh w0)(hG:cG w0 aU aE) :
  Calls prog 90 #[.slice (some (nl g)) L.length c,(a:Int),(b:Int),.func (.func 28) #[] #[]] w (JX B g c a b L w):=by
 have c6:=hr.lt;have Hr:=Qa hr;have Hv:=Qa hv;have H0:=x8 h0 d4 hB hT hG;have e4:=c6.1;have e7:=Qa c6;clear hr hv h0 d4 hB hT hG c6;obtain⟨n,hn⟩:=y7 L.length;have Hn:=Qa hn;rw[hn] at hlen hb ⊢;clear hn;go_in;go_wp2_with fail
 go_loopw [8,9] (fun s8 _ wr=>Fg B g c a b L w s8 wr) (fun v _ _=>b+1 - (intOf v).toNat)
 case atStart=>
  refine⟨a+1,(L.take (min (a+1) b)).drop a,by go_num,Zb _,by omega,.inr rfl,.refl _,?_,?_,aV.refl _ _⟩
  .have hl:((L.take (min (a+1) b)).drop a).length<=1:=by rw[List.length_drop,List.length_take];omega
   generalize (L.take (min (a+1) b)).drop a=S at hl
   match S,hl with
   | [],_=>exact List.Pairwise.nil
   | [x],_=>exact List.pairwise_singleton _ _
  .have e:L.take a++ (L.take (min (a+1) b)).drop a++L.drop (min (a+1) b)=L:=by
    have h1:L.take a= (L.take (min (a+1) b)).take a:=by rw[List.take_take,Nat.min_eq_left (by omega)]
    rw[h1,List.take_append_drop,List.take_append_drop]
   rw[e];exact Hr.out
 case round=>
  obtain⟨i,S,rfl,e1,f8,e6,hp,hs,b4,e3⟩:=hrel;have Hp:=Qa hp;have Hs:=Qa hs;have Hrow:=Qa b4;have Hch:=Qa e3;clear hp hs b4 e3
  by_cases hlt:i<b
  .have a5:min i b=i:=Nat.min_eq_left (by omega);rw[a5] at Hp Hrow;have e0:i<L.length:=by have:=Hn.out;omega
   obtain⟨x,hx⟩:∃x,L[i]?=some x:=⟨_,Zd e0⟩;have d7:S.length=i - a:=by have:=Hp.length_eq;rw[this,List.length_drop,List.length_take];omega
   have d5:L.drop i=x::L.drop (i+1):=by rw[List.drop_eq_getElem_cons e0];congr 1;exact(List.getElem?_eq_some_iff.1 hx).2
   rw[d5] at Hrow;have Hx:=Qa hx;have HSl:=Qa d7;have c4:(i:Int)<b:=by omega
   clear hx d7 d5 a5;go_wp2_with fail
   go_loopw [9] (fun s9 wx=>Mo B g c a (L.take a) S (L.drop (i+1)) x w s9 wx) (fun v _=>(intOf v).toNat)
   case atStart=>exact⟨S, [],by simp,by simp,by rw[HSl.out,show a+ (i - a)=i by omega],by have:=Hrow.out;simpa using this,Hch.out⟩
   case round=>
    obtain⟨S1,S2,he,h2,rfl,a7,b0⟩:=hrel;have c1:(L.take a).length=a:=by rw[List.length_take];have:=Hn.out;omega
    have b6:Below B w wr:=b0.below H0.2.2.1 fun k hk=>by subst hk;exact e4
    have b1:=Qa (Hv.lowB b6);have b2:=Qa (H0.1.trans (b6.mono H0.2.1));have b3:=b6.size;have He:=Qa he;have H2:=Qa h2;have a1:=Qa a7;have a9:=Qa b0;have a4:x∈L:=Zl Hx.out;clear he h2 a7 b0 b6;rcases List.eq_nil_or_concat S1 with rfl|⟨T,y,c8⟩
    .have hja:((a+ ([]:List Vj).length:Nat):Int)=a:=by simp
     have f6:¬ (a:Int)<a:=by omega
     rw[hja];clear hja;go_wp2_with fail;refine aI (fun _=>True) (trivial) fun a0=>?_
     refine bw 0 1 2 a0 ?_;refine tH 3 a0 ?_;refine uH 4 a0 ?_;refine uH 5 a0 ?_
     try simp only[Act.put,jP,jQ,jR]
     refine uH 6 a0 ?_;refine uH 7 a0 ?_;refine uH 8 a0 ?_;refine uH 9 a0 ?_;refine uH 10 a0 ?_;refine uH 11 a0 ?_
     try simp only[Act.put,jP,jQ,jR]
     refine uH 12 a0 ?_;refine uH 13 a0 ?_
     try simp only[Act.put,jP,jQ,jR]
     refine rH 14 fun K hK=>?_
     go_simp;refine hK _ _ (trivial) (fun a0=>?_);clear hK K
     try simp only[Act.put,jP,jQ,jR]
     refine uH 15 a0 ?_;refine tH 16 a0 ?_;refine y5 ?_;go_wp2_with fail;refine⟨Fg.next Hp Hs Hx He (fun y e=>by simp at e) H2.out (cB.below a1 (Ze _ _).drew) (gI a9 (aV.of_below (Ze _ _).drew)) e1 hlt,by simp[intOf];omega⟩
    .rw[List.concat_eq_append] at c8;subst c8;obtain⟨k,hk⟩:=y7 (a+T.length);have b5:=AW (S1:=T ++ [y]) (S2:=S2) (R:=L.drop (i+1)) (x:=x) c1;have b7:=Ec (T:=T) (S2:=S2) (R:=L.drop (i+1)) (x:=x) (y:=y) c1;rw[List.length_append,List.length_singleton,<-Nat.add_assoc,hk] at b5;rw[hk] at b7;obtain⟨cx,-⟩:=a1.cell b5;obtain⟨cy,-⟩:=a1.cell b7;have hjk:((a+ (T ++ [y]).length:Nat):Int)= (k:Int)+1:=by rw[List.length_append,List.length_singleton,<-Nat.add_assoc,hk];omega
     rw[hjk];have f5:k+1<n:=by
      have h1:=(List.getElem?_eq_some_iff.1 b5).1;have h3:=HSl.out;rw[He.out] at h3;simp only[List.length_append,List.length_cons,List.length_singleton,List.length_take,List.length_drop] at h1 h3;have:=Hn.out;omega
     have c7:=DB (T:=T) (S2:=S2) (R:=L.drop (i+1)) (x:=x) (y:=y) c1;rw[hk] at c7;have c9:=Qa c7;have Hm:=NA b5 b7;have a3:y∈L:=by
      have h1:y∈S:=by rw[He.out];simp
      have h2:=Hp.mem_iff.1 h1;exact List.mem_of_mem_take (List.mem_of_mem_drop h2)
     have HC:=Qa (fun (w1:Wd) (b8:ge wr w1)=>iX (((b1 x a4).1.lowB (b8.mono (Zc H0.2.2.1 b3)))) (((b1 y a3).1.lowB (b8.mono (Zc H0.2.2.1 b3)))) ((H0.2.2.2.1.below b2).below b8) ((H0.2.2.2.2.below b2).below b8) (fun j e=>((b1 x a4).2 j e).1) (fun j e=>((b1 y a3).2 j e).1));have ox:=(b1 x a4).1.two;have oy:=(b1 y a3).1.two;have a2:=gc x.2 y.2;obtain⟨xv,xo⟩:=x;obtain⟨yv,yo⟩:=y;simp only at cx cy HC ox oy a2;obtain⟨z,hz⟩:=y7 (bF xo yo);rw[hz] at HC a2;have Hz:=Qa hz;have a6:=Qa a2;have f4:(a:Int)< (k:Int)+1:=by omega
     have f0:IntKind.i64.wrap (k:Int)=k:=IntWalk.i64_in _ (by omega);have e5:=NC ((k:Int)+1 - 1) (k:Int)
     have f9:(k:Int)+1<n:=by omega
     have f7:(k:Int)<n:=by omega
     have e8:(0:Int)<=(k:Int)+1:=by omega
     clear b5 b7 c7 hz a2 hjk;go_wp2_with fail;refine aI (fun w'=>w'.cell? ⟨g,k+1,none⟩=some xv/\w'.cell? (no g k)=some yv) (⟨cx,cy⟩) fun a0=>?_
     refine bw 0 1 2 a0 ?_;refine bw 3 4 5 a0 ?_;refine bw 6 7 8 a0 ?_;refine bw 9 10 11 a0 ?_;refine tH 12 a0 ?_;refine tH 13 a0 ?_;refine rH 14 fun K hK=>?_
     go_simp;refine(HC _ (Ze _ _).drew).mono ?_;rintro e wz ⟨rfl,hz⟩;have c0:=Qa ((Ze _ _).drew.trans hz);refine hK _ _ (⟨Zg hz a0.1,Zg hz a0.2⟩) (fun a0=>?_);clear hK K
     try simp only[Act.put,jP,jQ,jR]
     refine tH 15 a0 ?_;refine tH 16 a0 ?_;refine y5 ?_;have d9:ge wr wz:=c0.out
     by_cases hneg:z<0
     .have d6:=Qa (a1.below d9);have d1:=a0.1;have d2:=a0.2;have b9:=d6.out;have f1:=(b9.cell Hm.1).2;have f2:=(b9.cell Hm.2).2;have c5:=b9.set (k+1) (yv,yo);have e2:=c5.cell (j:=k) (p:=(yv,yo)) (by rw[List.getElem?_set_ne (by omega)];exact Hm.2);obtain⟨d3,f3⟩:=e2;have c3:=c5.set k (xv,xo);rw[c9.out] at c3;have d0:=Qa c3;simp only at d3 f3;have c2:=NB d0.out hneg Hz.out;clear d0 Hm c9 a6 HC d6 Hz;clear c5 c3 b9 d9 a0;rcases ox with rfl|⟨tx,qx,rfl⟩ <;> rcases oy with rfl|⟨ty,qy,rfl⟩
      all_goals
       go_wp2_with fail;refine cJ (fun w'=>w'.cell? (no g k)=_) 17 (d2) fun a0=>?_
       refine iz 0 1 2 a0 ?_;refine iz 3 4 5 a0 ?_;refine iz 6 7 8 a0 ?_;refine iz 9 10 11 a0 ?_;refine tZ 12 a0 ?_;refine rZ 13 fun K hK=>?_
       go_simp;refine hK _ _ (fun _=>a0) (fun a0=>?_);clear hK K;have a0:=a0 (by decide)
       try simp only[Act.put,jP,jQ,jR]
       refine tZ 14 a0 ?_;refine rZ 15 fun K hK=>?_
       go_simp;refine hK _ _ (fun _=>d3) (fun a0=>?_);clear hK K;have a0:=a0 (by decide)
       try simp only[Act.put,jP,jQ,jR]
       refine tZ 16 a0 ?_;refine rZ 17 fun K hK=>?_
       go_simp;refine hK _ _ (fun h=>absurd rfl h) (fun _=>?_);clear hK K
       try simp only[Act.put,jP,jQ,jR]
       refine aR (by kernel_rfl) (NoPanic.normal ?_) _;go_wp2_with fail;refine⟨⟨T,(_,yo)::S2,by rw[He.out,List.append_assoc];rfl,fun z hz=>?_,by rw[hk],cB.below c2.1 (Ze _ _).drew,?_⟩,by simp[intOf]⟩
       .rcases List.mem_cons.1 hz with rfl|hz
        .exact Int.le_of_lt (c2.2.2.symm▸c2.2.1)
        .exact H2 z hz
       .exact gI a9.out (((aV.of_below c0.out).trans ((aV.set g (k+1) _).trans (aV.set g k _) fun i hi=>.inl hi) fun i hi=>.inl hi).trans (aV.of_below (Ze _ _).drew) fun i hi=>.inl hi)
     .go_wp2_with fail;refine⟨Fg.next Hp Hs Hx He (fun y e=>by
       rw[List.getLast?_append] at e;simp at e;subst e
       show bF yo xo<=0
       rw[a6.out];omega) H2.out (a1.below c0) (gI a9 (aV.of_below c0)) e1 hlt,by simp[intOf];omega⟩
  .have a5:min i b=b:=Nat.min_eq_right (by omega);rw[a5] at Hp Hrow;have c4:¬ (i:Int)<b:=by omega
   go_wp2;go_end0;exact⟨rfl,Hch,S,Hp,Hs,Hrow⟩
theorem B8 (h:n<=c):Calls prog 29 #[.slice (some (nl g)) n c] w fun e w'=>e =.returned (.slice (some (nl g)) n n)/\w=w':=by
 have h1:(n:Int)<=c:=by omega
 go_in;go_wp2;go_ret;exact⟨rfl,rfl⟩
theorem Gv {S T:List Vj}(h1:cD S)(h2:cD T)(h:∀x∈S,∀y∈T,bF x.2 y.2<=0):cD (S++T):=List.pairwise_append.2 ⟨h1,h2,h⟩
theorem rr {S T:List Vj}(hS:cD S)(hT:cD T)(h:∀x y,S.getLast?=some x->T.head?=some y->bF x.2 y.2<=0):∀x∈S,∀y∈T,bF x.2 y.2<=0:=by
 intro x hx y hy;rcases List.eq_nil_or_concat S with rfl|⟨S',l,rfl⟩
 .cases hx
 cases T with
 |nil=>cases hy
 |cons z T=>
  rw[List.concat_eq_append] at hS hx h;have a0:=h l z (by simp) rfl;have a2:bF x.2 l.2<=0:=by
   rcases List.mem_append.1 hx with hx|hx
   .exact(List.pairwise_append.1 hS).2.2 x hx l (by simp)
   .rw[List.mem_singleton.1 hx,rj];decide
  have a1:bF z.2 y.2<=0:=by
   rcases List.mem_cons.1 hy with rfl|hy
   .rw[rj];decide
   .exact(List.pairwise_cons.1 hT).1 y hy
  exact lW (lW a2 a0) a1
theorem DO {X1 X2 Y1 Y2 S1 S2:List Vj}(hX:cD (X1++X2))(hY:cD (Y1++Y2))(c1:∀x y,X1.getLast?=some x->Y2.head?=some y->bF x.2 y.2<=0)(c2:∀y x,Y1.getLast?=some y->X2.head?=some x->bF y.2 x.2<=0)(p1:S1.Perm (X1++Y1))(p2:S2.Perm (X2++Y2))(s1:cD S1)(s2:cD S2):(S1++S2).Perm ((X1++X2)++ (Y1++Y2))/\cD (S1++S2):=by
 have ⟨a1,a2,a3⟩:=List.pairwise_append.1 hX;have ⟨b1,b2,b3⟩:=List.pairwise_append.1 hY;refine⟨(p1.append p2).trans ?_,Gv s1 s2 fun x hx y hy=>?_⟩
 .rw[List.append_assoc,List.append_assoc];refine List.Perm.append_left _ ?_;rw[<-List.append_assoc,<-List.append_assoc];exact List.Perm.append_right _ List.perm_append_comm
 .rcases List.mem_append.1 (p1.mem_iff.1 hx) with hx|hx <;> rcases List.mem_append.1 (p2.mem_iff.1 hy) with hy|hy
  .exact a3 x hx y hy
  .exact rr a1 b2 c1 x hx y hy
  .exact rr b1 a2 c2 x hx y hy
  .exact b3 x hx y hy
theorem AJ {T1 T2:List Vj}{x:Vj}(h:cD (T1++T2))(h1:∀y∈T1,bF y.2 x.2<=0)(h2:∀y∈T2,bF x.2 y.2<=0):cD (T1++x::T2):=by
 have ⟨a1,a2,a3⟩:=List.pairwise_append.1 h;refine List.pairwise_append.2 ⟨a1,List.pairwise_cons.2 ⟨h2,a2⟩,fun y hy z hz=>?_⟩;rcases List.mem_cons.1 hz with rfl|hz
 .exact h1 y hy
 .exact a3 y hy z hz
theorem ot {P R:List Vj}{x y:Vj}{k:Nat}(hk:P.length=k):(P++x::R).set k y=P++y::R:=by
 subst hk;rw[List.set_append_right _ _ (Zb _),Nat.sub_self];rfl
theorem ou {P R:List Vj}{x:Vj}{k:Nat}(hk:P.length=k):(P++x::R)[k]?=some x:=by
 subst hk;rw[List.getElem?_append_right (Zb _),Nat.sub_self];rfl
theorem pt {P M R:List Vj}{x y:Vj}{k:Nat}(hi:P.length=i)(hk:P.length+1+M.length=k):(P++x:: (M++y::R))[i]?=some x/\(P++x:: (M++y::R))[k]?=some y/\((P++x:: (M++y::R)).set i y).set k x=P++y:: (M++x::R)/\((P++x:: (M++y::R)).set k x).set i y=P++y:: (M++x::R):=by
 have e:∀z u:Vj,P++z:: (M++u::R)= (P++z::M)++u::R:=fun z u=>by simp
 have hl:∀z:Vj,(P++z::M).length=k:=fun z=>by simp;omega
 refine⟨ou hi,?_,?_,?_⟩
 .rw[e];exact ou (hl x)
 .rw[ot hi,e,ot (hl y),<-e]
 .rw[e,ot (hl x),<-e,ot hi]
def yg (B g c:Nat)(w:Wd)(L:List Vj)(e:Ending)(w':Wd):Prop:=e =.returned (.tuple #[])/\aV (· = g) w w'/\cB B g c w' L
theorem cB.swap {L:List Vj}(h:cB B g c w L){k:Nat}{p q:Vj}:cB B g c ((w.setCell (no g i) q.1).setCell (no g k) p.1) ((L.set i q).set k p):=(h.set i q).set k p
theorem qf {k:Nat}(h:aV (· = g) w w1)(hb:Below ((w1.setCell (no g i) u).setCell (no g k) v).heap.size ((w1.setCell (no g i) u).setCell (no g k) v) w2):aV (· = g) w w2:=
 gI h (((aV.set g i u).trans (aV.set g k v) fun i hi=>.inl hi).trans (aV.of_below hb) fun i hi=>.inl hi)
def wG (L:List Vj):Prop:= ∀p∈L,p.1 =.nilIface\/∃t x,p.1 =.iface t x
theorem oF {A B:List Vj}:wG (A++B)↔wG A/\wG B:=⟨fun h=>⟨fun p hp=>h p (List.mem_append_left _ hp),fun p hp=>h p (List.mem_append_right _ hp)⟩,fun h p hp=>(List.mem_append.1 hp).elim (h.1 p) (h.2 p)⟩
theorem Db.two {L:List Vj}(h:Db B w L):wG L:=fun p hp=>(h p hp).1.two
def Lh (B g c k:Nat)(P X M Y R:List Vj)(w:Wd)(s10:Value)(wr:Wd):Prop:= ∃X1 X2 Y1 Y2,X=X1++X2/\Y=Y1++Y2/\X1.length=Y1.length/\s10 =((X1.length:Nat):Int)/\cB B g c wr (P++ (Y1++X2)++M++ (X1++Y2)++R)/\aV (· = g) w wr
theorem sR {j k:Nat}{P X M Y R:List Vj}{f:Value}(hr:cB B g c w (P++X++M++Y++R))(hn:(P++X++M++Y++R).length=n)(hv:wG (P++X++M++Y++R))(hl:X.length=Y.length)(hlen:n<=1000)(hi:P.length=i)(hj:P.length+X.length+M.length=j)(hk:X.length=k) :
  Calls prog 164 #[.slice (some (nl g)) n c,(i:Int),(j:Int),(k:Int),f] w (yg B g c w (P++Y++M++X++R)):=by
 have Hr:=Qa hr;have Hv:=Qa hv;have Hn:=Qa hn;have Hl:=x7 hl hi hj hk;have a7:=hr.lt.1;have b1:j+k<=n:=by simp only[List.length_append] at hn;omega
 have hin:i+k<=n:=by simp only[List.length_append] at hn;omega
 clear hr hv hn hl hi hj hk;go_in;go_wp2_with fail
 go_loopw [10] (fun s10 wr=>Lh B g c k P X M Y R w s10 wr) (fun v _=>k - (intOf v).toNat)
 case atStart=>exact⟨[],X, [],Y,rfl,rfl,rfl,rfl,Hr,aV.refl _ _⟩
 case round=>
  obtain⟨X1,X2,Y1,Y2,e1,e2,e3,rfl,a2,a5⟩:=hrel;obtain⟨t,ht⟩:=y7 X1.length;rw[ht];have Ht:=x7 ht e1 e2 e3;have a1:=Qa a2;have a3:=Qa a5;clear ht e1 e2 e3 a2 a5;rcases X2 with - | ⟨x,X2⟩
  .have h0:¬ (t:Int)<k:=by have:=Ht.out;have:=Hl.out;have h:=this.2.2.2;rw[Ht.out.2.1,List.append_nil,Ht.out.1] at h;omega
   have hY:Y2 = []:=by
    refine List.eq_nil_of_length_eq_zero ?_;have h1:=Hl.1;rw[Ht.out.2.1,Ht.out.2.2.1,List.length_append,List.length_append] at h1;have:=Ht.2.2.2;simp only[List.length_nil] at h1;omega
   go_wp2;go_end0;refine⟨rfl,a3,?_⟩;have h2:=a1.out;rw[hY,List.append_nil,List.append_nil] at h2;rw[Ht.out.2.1,Ht.out.2.2.1,hY,List.append_nil,List.append_nil];simpa using h2
  .obtain⟨y,Y3,rfl⟩:∃y Y3,Y2=y::Y3:=by
    cases Y2 with
    |cons y Y3=>exact⟨y,Y3,rfl⟩
    |nil=>
     exfalso
     have h1:=Hl.1;rw[Ht.out.2.1,Ht.out.2.2.1,List.length_append,List.length_append] at h1;have:=Ht.2.2.2;simp only[List.length_cons,List.length_nil] at h1;omega
   have hlt:(t:Int)<k:=by
    have h:=Hl.2.2.2;rw[Ht.out.2.1,List.length_append,Ht.out.1] at h;simp only[List.length_cons] at h;omega
   have eL:∀u v:Vj,P++ (Y1++u::X2)++M++ (X1++v::Y3)++R= (P++Y1)++u:: ((X2++M++X1)++v:: (Y3++R)):=fun u v=>by simp
   obtain⟨p,hp⟩:=y7 (i+t);obtain⟨q,hq⟩:=y7 (j+t);have hs:=pt (P:=P++Y1) (M:=X2++M++X1) (R:=Y3++R) (x:=x) (y:=y) (i:=p) (k:=q) (by rw[List.length_append,<-Ht.out.2.2.2,Ht.out.1,Hl.out.2.1];exact hp) (by
    have h:=Hl.2.2.1;rw[Ht.out.2.1] at h;simp only[List.length_append,List.length_cons] at h ⊢;have:=Ht.1;have:=Ht.2.2.2;omega)
   rw[eL] at a1;have a6:=Qa eL;obtain⟨g1,g2,g3,-⟩:=hs;obtain⟨c1,f1⟩:=a1.cell g1;obtain⟨c2,f2⟩:=a1.cell g2;have ox:x.1 =.nilIface\/∃t z,x.1 =.iface t z:=Hv x (by rw[Ht.out.2.1];simp);have oy:y.1 =.nilIface\/∃t z,y.1 =.iface t z:=Hv y (by rw[Ht.out.2.2.1];simp);have b2:p<n:=by omega
   have b0:q<n:=by omega
   have hip:=NC ((i:Int)+t) (p:Int)
   have a9:=NC ((j:Int)+t) (q:Int)
   have a4:p≠q:=by
    have h:=Hl.out;have:=List.length_pos_of_mem (show x∈X by rw[Ht.out.2.1];simp);omega
   have e2:=(a1.set p y).cell (j:=q) (p:=y) (by rw[List.getElem?_set_ne a4];exact g2);obtain⟨d3,f3⟩:=e2;have h2:=a1.swap (i:=p) (k:=q) (p:=x) (q:=y);rw[g3] at h2;have HF:Hid (∀w2,Below ((wr.setCell (no g p) y.1).setCell (no g q) x.1).heap.size ((wr.setCell (no g p) y.1).setCell (no g q) x.1) w2->Lh B g c k P X M Y R w ((t:Int)+1:Int) w2):=Qa fun w2 hb=>⟨X1 ++ [x],X2,Y1 ++ [y],Y3,by rw[Ht.out.2.1];simp,by rw[Ht.out.2.2.1];simp,by simp[Ht.out.2.2.2],by rw[List.length_append,List.length_singleton,Ht.out.1];simp,(by
    have e:P++ (Y1 ++ [y]++X2)++M++ (X1 ++ [x]++Y3)++R= (P++Y1)++y:: ((X2++M++X1)++x:: (Y3++R)):=by simp
    rw[e];exact h2.below hb),qf a3.out hb⟩
   obtain⟨xv,xo⟩:=x;obtain⟨yv,yo⟩:=y;simp only at c1 c2 ox oy d3 f3 HF;clear g1 g2 g3 h2 eL hp hq Hv a4 Hl Ht a1 a3 a6;rcases ox with rfl|⟨tx,qx,rfl⟩ <;> rcases oy with rfl|⟨ty,qy,rfl⟩
   all_goals
    go_wp2_with fail;refine cJ (fun w'=>w'.cell? (no g q)=_) 23 (c2) fun a0=>?_
    refine iz 0 1 2 a0 ?_;refine iz 3 4 5 a0 ?_;refine iz 6 7 8 a0 ?_;refine iz 9 10 11 a0 ?_;refine iz 12 13 14 a0 ?_;refine iz 15 16 17 a0 ?_;refine tZ 18 a0 ?_;refine rZ 19 fun K hK=>?_
    go_simp;refine hK _ _ (fun _=>a0) (fun a0=>?_);clear hK K;have a0:=a0 (by decide)
    try simp only[Act.put,jP,jQ,jR]
    refine tZ 20 a0 ?_;refine rZ 21 fun K hK=>?_
    go_simp;refine hK _ _ (fun _=>d3) (fun a0=>?_);clear hK K;have a0:=a0 (by decide)
    try simp only[Act.put,jP,jQ,jR]
    refine tZ 22 a0 ?_;refine rZ 23 fun K hK=>?_
    go_simp;refine hK _ _ (fun h=>absurd rfl h) (fun _=>?_);clear hK K
    try simp only[Act.put,jP,jQ,jR]
    refine aR (by kernel_rfl) (NoPanic.normal ?_) _;go_wp2_with fail;exact⟨HF _ (Ze _ _).drew,by simp[intOf];omega⟩
def GU (B g c m:Nat)(T:List Vj)(w:Wd)(s10 s11:Value)(wr:Wd):Prop:= ∃P X Y R,X≠ []/\Y≠ []/\P++Y++X++R=T/\P.length+X.length=m/\s10 =((X.length:Nat):Int)/\s11 =((Y.length:Nat):Int)/\cB B g c wr (P++X++Y++R)/\aV (· = g) w wr
theorem jo {X:List Vj}(h:X≠ []):0<X.length:=List.length_pos_iff.2 h
theorem E9 {X:List Vj}(h:n<X.length):∃A C:List Vj,X=A++C/\A.length=n/\C≠ []:=⟨X.take n,X.drop n,(List.take_append_drop n X).symm,by rw[List.length_take];omega,fun e=>by have:=congrArg List.length e;rw[List.length_drop] at this;simp at this;omega⟩
theorem ID {j k:Nat}{P X Y R:List Vj}{f:Value}(hr:cB B g c w (P++X++Y++R))(hn:(P++X++Y++R).length=n)(hv:wG (P++X++Y++R))(hX:X≠ [])(hY:Y≠ [])(hlen:n<=1000)(hi:P.length=i)(hj:P.length+X.length=j)(hk:P.length+X.length+Y.length=k) :
  Calls prog 121 #[.slice (some (nl g)) n c,(i:Int),(j:Int),(k:Int),f] w (yg B g c w (P++Y++X++R)):=by
 have b3:(j:Int) - i=X.length/\(k:Int) - j=Y.length/\k<=n:=by
  simp only[List.length_append] at hn;omega
 obtain⟨h1,h2,c1⟩:=b3;have Hv:Hid (∀P' X' Y' R':List Vj,P'++Y'++X'++R'=P++Y++X++R->wG (P'++X'++Y'++R')/\(P'++X'++Y'++R').length=n):=Qa fun P' X' Y' R' e=>by
  have e1:wG (P++Y++X++R):=by
   simp only[oF] at hv ⊢;exact⟨⟨⟨hv.1.1.1,hv.1.2⟩,hv.1.1.2⟩,hv.2⟩
  have e2:(P++Y++X++R).length=n:=by
   rw[<-hn];simp only[List.length_append];omega
  rw[<-e] at e1 e2;simp only[oF] at e1 ⊢;refine⟨⟨⟨⟨e1.1.1.1,e1.1.2⟩,e1.1.1.2⟩,e1.2⟩,?_⟩;rw[<-e2];simp only[List.length_append];omega
 have c2:=jo hX;have c3:=jo hY;have c0:j<=n:=by omega
 have H0:=Qa (show GU B g c j (P++Y++X++R) w ((X.length:Nat):Int) ((Y.length:Nat):Int) w from⟨P,X,Y,R,hX,hY,rfl,hj,rfl,rfl,hr,aV.refl _ _⟩);clear hr hn hv hX hY hi hj hk;generalize P++Y++X++R=T at *;generalize X.length=a at *;generalize Y.length=b at *;have b0:=NC ((j:Int) - i) (a:Int)
 have b2:=NC ((k:Int) - j) (b:Int)
 clear h1 h2;go_in;go_wp2_with fail;clear b0 b2
 go_loopw [10,11] (fun s10 s11 wr=>GU B g c j T w s10 s11 wr) (fun u v _=>(intOf u).toNat+ (intOf v).toNat)
 case atStart=>exact H0.out
 case round=>
  clear H0;obtain⟨P',X',Y',R',q1,q2,q3,q4,rfl,rfl,a1,a6⟩:=hrel;have b9:=jo q1;have b4:=jo q2;have a2:=Hv _ _ _ _ q3;have b7:P'.length+X'.length+Y'.length<=n:=by
   have:=a2.2;simp only[List.length_append] at this;omega
  rcases Nat.lt_trichotomy X'.length Y'.length with hlt|heq|b5
  .obtain⟨C,D,a7,a3,hD⟩:=E9 (X:=Y') (n:=Y'.length - X'.length) (by omega);have b1:D.length=X'.length:=by have:=congrArg List.length a7;rw[List.length_append] at this;omega
   have HS:=Qa (sR (w:=wr) (P:=P') (X:=X') (M:=C) (Y:=D) (R:=R') (f:=f) (i:=j - X'.length) (j:=j+Y'.length - X'.length) (k:=X'.length) (by have:=a1;rw[a7] at this;simpa using this) (by rw[<-a2.2,a7];simp) (by have:=a2.1;rw[a7] at this;simpa using this) b1.symm hlen (by omega) (by omega) rfl);have a0:=Qa (show ∀w',aV (· = g) wr w'->cB B g c w' (P'++D++C++X'++R')->GU B g c j T w ((X'.length:Nat):Int) ((Y'.length - X'.length:Nat):Int) w' from fun w' h1 h2=>⟨P',D,C,X'++R',hD,fun e=>by rw[e] at a3;simp at a3;omega,by rw[<-q3,a7];simp,by omega,by rw[b1],by rw[a3],by simpa using h2,gI a6 h1⟩);clear hD a3 b1 a7 a1 a6 q1 q2 q3 a2 Hv;generalize X'.length=a' at *;generalize Y'.length=b' at *;have hne:((a':Int) !=b')=true:=by simp;omega
   have b6:¬ (b':Int)<a':=by omega
   have b0:=NC ((j:Int) - a') ((j - a':Nat):Int)
   have b2:=y9 ((j:Int)+b');have c4:=NC ((j:Int)+b' - a') ((j+b' - a':Nat):Int)
   have b8:=NC ((b':Int) - a') ((b' - a':Nat):Int)
   go_wp2_with fail;refine Za HS ?_;rintro e w1 ⟨rfl,h1,h2⟩;have a9:=Qa (a0 w1 h1 h2);clear h1 h2 HS a0;go_wp2_with fail;exact⟨a9,by simp[intOf];omega⟩
  .have HS:=Qa (sR (w:=wr) (P:=P') (X:=X') (M:= []) (Y:=Y') (R:=R') (f:=f) (i:=j - X'.length) (j:=j) (k:=X'.length) (by simpa using a1) (by rw[<-a2.2];simp) (by simpa using a2.1) heq hlen (by omega) (by simpa using q4) rfl);have a0:=Qa (show ∀w',aV (· = g) wr w'->cB B g c w' (P'++Y' ++ []++X'++R')->yg B g c w T (.returned (.tuple #[])) w' from fun w' h1 h2=>⟨rfl,gI a6 h1,by rw[<-q3];simpa using h2⟩);clear a1 a6 q1 q2 q3 a2 Hv;rw[<-heq];rw[<-heq] at b7;clear heq b4;generalize X'.length=a' at *;have hne:((a':Int) !=a')=false:=by simp
   have b0:=NC ((j:Int) - a') ((j - a':Nat):Int)
   go_wp2_with fail;refine Za HS ?_;rintro e w1 ⟨rfl,h1,h2⟩;have a9:=Qa (a0 w1 h1 h2);clear h1 h2 HS a0;go_wp2;go_end0;exact a9.out
  .obtain⟨A,C,a4,a5,hC⟩:=E9 (X:=X') (n:=Y'.length) b5;have a3:C.length=X'.length - Y'.length:=by have:=congrArg List.length a4;rw[List.length_append] at this;omega
   have HS:=Qa (sR (w:=wr) (P:=P') (X:=A) (M:=C) (Y:=Y') (R:=R') (f:=f) (i:=j - X'.length) (j:=j) (k:=Y'.length) (by have:=a1;rw[a4] at this;simpa using this) (by rw[<-a2.2,a4];simp) (by have:=a2.1;rw[a4] at this;simpa using this) a5 hlen (by omega) (by omega) a5);have a0:=Qa (show ∀w',aV (· = g) wr w'->cB B g c w' (P'++Y'++C++A++R')->GU B g c j T w ((X'.length - Y'.length:Nat):Int) ((Y'.length:Nat):Int) w' from fun w' h1 h2=>⟨P'++Y',C,A,R',hC,fun e=>by rw[e] at a5;simp at a5;omega,by rw[<-q3,a4];simp,by rw[List.length_append];omega,by rw[a3],by rw[a5],by simpa using h2,gI a6 h1⟩);clear hC a3 a5 a4 a1 a6 q1 q2 q3 a2 Hv;generalize X'.length=a' at *;generalize Y'.length=b' at *;have hne:((a':Int) !=b')=true:=by simp;omega
   have b6:(b':Int)<a':=by omega
   have b0:=NC ((j:Int) - a') ((j - a':Nat):Int)
   have b8:=NC ((a':Int) - b') ((a' - b':Nat):Int)
   go_wp2_with fail;refine Za HS ?_;rintro e w1 ⟨rfl,h1,h2⟩;have a9:=Qa (a0 w1 h1 h2);clear h1 h2 HS a0;go_wp2_with fail;exact⟨a9,by simp[intOf];omega⟩
def jg (B:Nat)(w:Wd)(L:List Vj):Prop:= ∀w1,Below B w w1->∀u∈L,∀v∈L,Calls prog 28 #[u.1,v.1] w1 (dR (bF u.2 v.2) w1)
theorem jg.on {L M:List Vj}(h:jg B w L)(hb:Below B w w1)(hm:∀u∈M,u∈L):jg B w1 M:=fun w2 h2 u hu v hv=>h w2 (hb.trans h2) u (hm u hu) v (hm v hv)
theorem Kf {L:List Vj}(hv:Db B w L)(h0:ge w0 w)(a1:w0.heap.size<=B)(hT:dh w0)(hG:cG w0 aU aE):jg B w L:=fun w1 hb u hu v a0=>
 iX ((hv u hu).1.lowB hb) ((hv v a0).1.lowB hb) (hT.below (h0.trans (hb.mono a1))) (hG.below (h0.trans (hb.mono a1))) (fun j e=>((hv u hu).2 j e).1) (fun j e=>((hv v a0).2 j e).1)
structure Kn (l0 h0:Nat) (A:Nat->Prop) (lo hi:Nat):Prop where
 a:l0<=lo
 b:lo<=hi
 c:hi<=h0
 d:lo=l0\/A (lo - 1)
 e:hi=h0\/¬A hi
theorem Kn.up {k:Nat}{A:Nat->Prop}(h:Kn l0 h0 A lo hi)(h1:lo<=k)(h2:k<hi)(ha:A k):Kn l0 h0 A (k+1) hi:=⟨by have:=h.a;omega,by omega,h.c,.inr (by simpa using ha),h.e⟩
theorem Kn.down {k:Nat}{A:Nat->Prop}(h:Kn l0 h0 A lo hi)(h1:lo<=k)(h2:k<hi)(ha:¬A k):Kn l0 h0 A lo k:=⟨h.a,h1,by have:=h.c;omega,h.d,.inr ha⟩
def J3 (l0 h0:Nat)(A:Nat->Prop)(w:Wd)(s t:Value)(wr:Wd):Prop:= ∃lo hi:Nat,s =(lo:Int)/\t =(hi:Int)/\Kn l0 h0 A lo hi/\ge w wr
def kO (L:List Vj)(t:Nat):Option JV:=L[t]?.bind Prod.snd
theorem kE {L:List Vj}{t:Nat}{u:Vj}(h:L[t]?=some u):kO L t=u.2:=by unfold kO;rw[h];rfl
theorem sd {Y:List Vj}{o:Option JV}{t:Nat}(hs:cD Y)(ht:t<=Y.length)(h1:t=0\/bF (kO Y (t - 1)) o<=0)(h2:t=Y.length\/bF o (kO Y t)<=0):∃T1 T2,Y=T1++T2/\T1.length=t/\(∀y∈T1,bF y.2 o<=0)/\(∀y∈T2,bF o y.2<=0):=by
 have he:=(List.take_append_drop t Y).symm;have hl:(Y.take t).length=t:=by rw[List.length_take];omega
 refine⟨Y.take t,Y.drop t,he,hl,fun y hy=>?_,fun y hy=>?_⟩
 .rcases h1 with rfl|h1
  .simp at hy
  .by_cases h0:t=0
   .subst h0;simp at hy
   .obtain⟨l,hY⟩:=y8 Y (t - 1);rw[kE hY] at h1;have hd:Y.take t=Y.take (t - 1) ++ [l]:=by
     have:=List.take_add_one (l:=Y) (i:=t - 1);rw[show t - 1+1=t by omega,hY] at this;exact this
    rw[hd] at hy;rcases List.mem_append.1 hy with hy|hy
    .rw[he,hd] at hs;exact lW ((List.pairwise_append.1 (List.pairwise_append.1 hs).1).2.2 y hy l (by simp)) h1
    .rw[List.mem_singleton.1 hy];exact h1
 .rcases h2 with rfl|h2
  .simp at hy
  .by_cases h0:t=Y.length
   .subst h0;simp at hy
   .have hlt:t<Y.length:=by omega
    rw[kE (Zd hlt)] at h2;have hd:=List.drop_eq_getElem_cons hlt;rw[hd] at hy;rcases List.mem_cons.1 hy with rfl|hy
    .exact h2
    .rw[he,hd] at hs;exact lW h2 ((List.pairwise_cons.1 (List.pairwise_append.1 hs).2.1).1 y hy)
def oY (B g c:Nat)(P X R:List Vj)(w:Wd)(e:Ending)(w':Wd):Prop:= ∃S:List Vj,S.Perm X/\cD S/\yg B g c w (P++S++R) e w'
def LC (B g c a:Nat)(P T1 R:List Vj)(x:Vj)(w:Wd)(s:Value)(wr:Wd):Prop:= ∃U1 U2:List Vj,T1=U1++U2/\s =((a+U1.length:Nat):Int)/\cB B g c wr (P++ (U1++x::U2)++R)/\aV (· = g) w wr
theorem GH {a b:Nat}{P Y R:List Vj}{x:Vj}(hr:cB B g c w (P ++ [x]++Y++R))(hn:(P ++ [x]++Y++R).length=n)(hlen:n<=1000)(hB:B<=w.heap.size)(hv:wG (P ++ [x]++Y++R))(hc:jg B w (P ++ [x]++Y++R))(hs:cD Y)(ha:P.length=a)(hm:a+1=m)(hb:m+Y.length=b) :
  Calls prog 91 #[.slice (some (nl g)) n c,(a:Int),(m:Int),(b:Int),.func (.func 28) #[] #[]] w (oY B g c P ([x]++Y) R w):=by
 have d4:b<=n:=by simp only[List.length_append,List.length_singleton] at hn;omega
 have d6:=hr.lt.1;have b0:(P ++ [x]++Y++R)[a]?=some x:=by
  have e:P ++ [x]++Y++R=P++x:: (Y++R):=by simp
  rw[e];exact ou ha
 have b3:∀t,t<Y.length->(P ++ [x]++Y++R)[m+t]?=Y[t]?:=fun t ht=>by
  have e:P ++ [x]++Y++R= (P ++ [x])++ (Y++R):=by simp
  have el:(P ++ [x]).length=m:=by rw[List.length_append,List.length_singleton];omega
  rw[e,List.getElem?_append_right (by omega),el,List.getElem?_append_left (by omega)]
  congr 1
  omega
 obtain⟨L,hL⟩:=y7 (P ++ [x]++Y++R);rw[hL] at hr hn hv hc b0 b3;have Hr:=Qa hr;have Hv:=Qa hv;have Hc:=Qa hc;have HY:=x8 b3 hs hL ha hn;have Hx:=Qa b0;have HB:=Qa hB;obtain⟨kY,b2⟩:=y7 Y.length;have a6:=Qa b2;rw[b2] at hb;clear hr hv hc b3 hs b0 hL ha hB b2 hn;have c7:=NC ((m:Int) - a) (1:Int)
 go_in;go_wp2_with fail;clear c7
 go_loopw [10,11,12] (fun s10 s11 _ wr=>J3 m b (fun t=>bF (kO L t) x.2<0) w s10 s11 wr) (fun u v _ _=>(intOf v).toNat - (intOf u).toNat)
 case atStart=>exact⟨m,b,rfl,rfl,⟨Zb _,by omega,Zb _,.inl rfl,.inl rfl⟩,Ze _ _⟩
 case round=>
  obtain⟨lo,hi,rfl,rfl,a3,b1⟩:=hrel;have q1:=a3.a;have q2:=a3.b;have q3:=a3.c;have a2:=Qa a3;have a5:=Qa b1;have a9:=Qa (Hr.below b1);clear a3 b1
  by_cases hlt:lo<hi
  .obtain⟨k,hk⟩:=y7 ((lo+hi)/2);have hki:((lo:Int)+ (hi:Int))/2=k:=by omega
   have b7:lo<=k:=by omega
   have b8:k<hi:=by omega
   clear hk;obtain⟨u,hu⟩:∃u,L[k]?=some u:=by
    have:=HY.2.2.2.2;exact⟨_,Zd (by omega)⟩
   obtain⟨c1,-⟩:=a9.cell hu;obtain⟨c2,-⟩:=a9.cell Hx.out;have HC:=Qa (fun (w1:Wd) (c9:ge wr w1)=>Hc w1 ((a5.trans (c9.mono a5.size)).mono HB.out) u (Zl hu) x (Zl Hx));have HA:=Qa (show(bF (kO L k) x.2<0)= (bF u.2 x.2<0) by rw[kE hu]);have c3:k<n:=by omega
   have d7:a<n:=by omega
   clear hu;obtain⟨xv,xo⟩:=x;obtain⟨uv,uo⟩:=u;simp only at c1 c2 HC HA;generalize bF uo xo=z at *;go_wp2_with fail;refine aI (fun w'=>w'.cell? (no g k)=some uv/\w'.cell? (no g a)=some xv) (⟨c1,c2⟩) fun a0=>?_
   refine bw 0 1 2 a0 ?_;refine bw 3 4 5 a0 ?_;refine bw 6 7 8 a0 ?_;refine rH 9 fun K hK=>?_
   go_simp;refine(HC _ (Ze _ _).drew).mono ?_;rintro e wz ⟨rfl,hz⟩;have c5:=Qa ((Ze _ _).drew.trans hz);refine hK _ _ (⟨Zg hz a0.1,Zg hz a0.2⟩) (fun a0=>?_);clear hK K
   try simp only[Act.put,jP,jQ,jR]
   refine tH 10 a0 ?_;refine y5 ?_;have b5:ge wr wz:=c5.out;have b9:=Qa (a5.trans (b5.mono a5.size));clear b5
   by_cases hneg:z<0
   .go_wp2_with fail;exact⟨⟨k+1,hi,by go_num,rfl,a2.up b7 b8 (by have:=HA.out;simp only[this];exact hneg),b9.out⟩,by simp[intOf];omega⟩
   .go_wp2_with fail;exact⟨⟨lo,k,rfl,rfl,a2.down b7 b8 (by have:=HA.out;simp only[this];exact hneg),b9.out⟩,by simp[intOf];omega⟩
  .obtain rfl:lo=hi:=by omega
   obtain⟨T1,T2,f1,f2,f3,f4⟩:=sd (o:=x.2) (t:=lo - m) HY.2.1 (by have:=a6.out;omega) (by
    by_cases h0:lo=m
    .exact .inl (by omega)
    .refine .inr ?_;have h:=a2.d.resolve_left h0;have h5:=HY.1 (lo - m - 1) (by have:=a6.out;omega);rw[show m+ (lo - m - 1)=lo - 1 by omega] at h5;have h6:kO L (lo - 1)=kO Y (lo - m - 1):=by unfold kO;rw[h5]
     rw[<-h6];exact Int.le_of_lt h) (by
    by_cases h0:lo=b
    .exact .inl (by have:=a6.out;omega)
    .refine .inr ?_;have h:=a2.e.resolve_left h0;have h5:=HY.1 (lo - m) (by have:=a6.out;omega);rw[show m+ (lo - m)=lo by omega] at h5;have h6:kO L lo=kO Y (lo - m):=by unfold kO;rw[h5]
     rw[<-h6,gc];have:¬bF (kO L lo) x.2<0:=h;omega)
   have d2:=NC ((lo:Int) - 1) ((a+T1.length:Nat):Int)
   have c6:a+T1.length<n:=by omega
   have HS:=Qa (show ∀S1 S2 w' e,S1=T1->yg B g c w (P++ (S1++x::S2)++T2++R) e w'->S2 = []->oY B g c P ([x]++Y) R w e w' from fun S1 S2 w' e e1 h e2=>⟨T1++x::T2,by rw[f1];exact List.perm_middle,AJ (f1▸HY.2.1) f3 f4,by subst e1 e2;simpa using h⟩);have HrT:=Qa (show cB B g c wr (P++ ([]++x::T1)++ (T2++R)) by
    have e:P++ ([]++x::T1)++ (T2++R)=L:=by rw[<-HY.out.2.2.1,f1];simp
    rw[e];exact a9.out)
   have b4:=Qa (show wG T1/\wG [x] by
    have h:=Hv.out;rw[<-HY.out.2.2.1,f1] at h;simp only[oF] at h;exact⟨h.1.2.1,h.1.1.2⟩)
   have Hch:=Qa (show aV (· = g) w wr from aV.of_below a5.out);have HP:=Qa (show P.length=a from HY.2.2.2.1);clear HY Hr Hv Hc Hx HB a6 q1 q2 q3 a2 a5 a9 hlt f1 f2 f3 f4 hb;go_wp2_with fail
   go_loopw [13] (fun s13 wq=>LC B g c a P T1 (T2++R) x w s13 wq) (fun u _=>a+T1.length - (intOf u).toNat)
   case atStart=>exact⟨[],T1,rfl,rfl,HrT,Hch⟩
   case round=>
    obtain⟨U1,U2,e1,rfl,a7,b6⟩:=hrel;have a1:=Qa a7;have a4:=Qa b6;have He:=Qa e1;clear a7 b6 e1 HrT;obtain⟨k,hk⟩:=y7 (a+U1.length);rw[hk];rcases U2 with - | ⟨y,U2⟩
    .have h0:¬ (k:Int)< ((a+T1.length:Nat):Int):=by have:=He.out;rw[List.append_nil] at this;rw[this];omega
     go_wp2_with fail;(try simp only[Exit.inBlock,Exit.then]);refine Zh (results_none rfl ..) rfl ?_;exact HS U1 [] _ _ (by rw[He.out,List.append_nil]) ⟨rfl,a4,by simpa using a1.out⟩ rfl
    .have hkl:(k:Int)< ((a+T1.length:Nat):Int):=by have:=He.out;rw[this,List.length_append,List.length_cons];omega
     have c3:k<n:=by omega
     have c0:k+1<n:=by omega
     have d5:=y9 ((k:Int)+1);have c4:(k:Int)<n:=by omega
     have c8:(k:Int)+1<n:=by omega
     have d1:(0:Int)<=(k:Int)+1:=by omega
     have eL:∀u v:Vj,P++ (U1++u::v::U2)++ (T2++R)= (P++U1)++u:: ([]++v:: (U2++ (T2++R))):=fun u v=>by simp
     have d0:=pt (P:=P++U1) (M:= []) (R:=U2++ (T2++R)) (x:=x) (y:=y) (i:=k) (k:=k+1) (by rw[List.length_append,HP.out];exact hk) (by rw[List.length_append,HP.out,List.length_nil];omega);rw[eL] at a1;obtain⟨g1,g2,g3,-⟩:=d0;obtain⟨c1,k1⟩:=a1.cell g1;obtain⟨c2,k2⟩:=a1.cell g2;have ox:=b4.2 x (by simp);have oy:=b4.1 y (by rw[He.out];simp);obtain⟨d3,k3⟩:=(a1.set k y).cell (j:=k+1) (p:=y) (by rw[List.getElem?_set_ne (by omega)];exact g2);have h2:=a1.swap (i:=k) (k:=k+1) (p:=x) (q:=y);rw[g3,show(P++U1)++y:: ([]++x:: (U2++ (T2++R)))=P++ ((U1 ++ [y])++x::U2)++ (T2++R) by simp] at h2;have HF:Hid (∀w2,Below ((wr.setCell (no g k) y.1).setCell ⟨g,k+1,none⟩ x.1).heap.size ((wr.setCell (no g k) y.1).setCell ⟨g,k+1,none⟩ x.1) w2->LC B g c a P T1 (T2++R) x w ((k:Int)+1:Int) w2):=Qa fun w2 hb=>⟨U1 ++ [y],U2,by rw[He.out];simp,by rw[List.length_append,List.length_singleton,<-hk];simp;omega,h2.below hb,qf a4.out hb⟩
     obtain⟨xv,xo⟩:=x;obtain⟨yv,yo⟩:=y;simp only at c1 c2 ox oy d3 k3 HF;clear g1 g2 g3 h2 eL hk He a1 a4 b4 HS Hch HP;rcases ox with rfl|⟨tx,qx,rfl⟩ <;> rcases oy with rfl|⟨ty,qy,rfl⟩
     all_goals
      go_wp2_with fail;refine cJ (fun w'=>w'.cell? ⟨g,k+1,none⟩=_) 17 (c2) fun a0=>?_
      refine iz 0 1 2 a0 ?_;refine iz 3 4 5 a0 ?_;refine iz 6 7 8 a0 ?_;refine iz 9 10 11 a0 ?_;refine tZ 12 a0 ?_;refine rZ 13 fun K hK=>?_
      go_simp;refine hK _ _ (fun _=>a0) (fun a0=>?_);clear hK K;have a0:=a0 (by decide)
      try simp only[Act.put,jP,jQ,jR]
      refine tZ 14 a0 ?_;refine rZ 15 fun K hK=>?_
      go_simp;refine hK _ _ (fun _=>d3) (fun a0=>?_);clear hK K;have a0:=a0 (by decide)
      try simp only[Act.put,jP,jQ,jR]
      refine tZ 16 a0 ?_;refine rZ 17 fun K hK=>?_
      go_simp;refine hK _ _ (fun h=>absurd rfl h) (fun _=>?_);clear hK K
      try simp only[Act.put,jP,jQ,jR]
      refine aR (by kernel_rfl) (NoPanic.normal ?_) _;go_wp2_with fail;exact⟨HF _ (Ze _ _).drew,by simp[intOf];omega⟩
def I8 (B g c lo:Nat)(P T1 T2 R:List Vj)(y:Vj)(w:Wd)(s:Value)(wr:Wd):Prop:= ∃U1 U2:List Vj,T2=U1++U2/\s =((lo+U1.length:Nat):Int)/\cB B g c wr (P++ (T1++U1)++y:: (U2++R))/\aV (· = g) w wr
theorem E3 {a b:Nat}{P X R:List Vj}{y:Vj}(hr:cB B g c w (P++X ++ [y]++R))(hn:(P++X ++ [y]++R).length=n)(hlen:n<=1000)(hB:B<=w.heap.size)(hv:wG (P++X ++ [y]++R))(hc:jg B w (P++X ++ [y]++R))(hs:cD X)(ha:P.length=a)(hm:a+X.length=m)(hb:m+1=b)(hX:2<=X.length) :
  Calls prog 91 #[.slice (some (nl g)) n c,(a:Int),(m:Int),(b:Int),.func (.func 28) #[] #[]] w (oY B g c P (X ++ [y]) R w):=by
 have d7:b<=n:=by simp only[List.length_append,List.length_singleton] at hn;omega
 have e0:=hr.lt.1;have b8:(P++X ++ [y]++R)[m]?=some y:=by
  have e:P++X ++ [y]++R= (P++X)++y::R:=by simp
  rw[e];exact ou (by rw[List.length_append];omega)
 have b5:∀t,t<X.length->(P++X ++ [y]++R)[a+t]?=X[t]?:=fun t ht=>by
  have e:P++X ++ [y]++R=P++ (X++ ([y]++R)):=by simp
  rw[e,List.getElem?_append_right (by omega),ha,List.getElem?_append_left (by omega)]
  congr 1
  omega
 obtain⟨L,hL⟩:=y7 (P++X ++ [y]++R);rw[hL] at hr hn hv hc b8 b5;have Hr:=Qa hr;have Hv:=Qa hv;have Hc:=Qa hc;have HY:=x8 b5 hs hL ha hn;have Hy:=Qa b8;have HB:=Qa hB;obtain⟨kX,b6⟩:=y7 X.length;have a6:=Qa b6;rw[b6] at hm hX;clear hr hv hc b5 hs b8 hL ha hB b6 hn;obtain⟨d,hd⟩:=y7 ((m:Int) - a:Int);have d0:IntKind.i64.wrap ((m:Int) - a)=d:=by rw[IntWalk.i64_in _ (by omega)];exact hd
 have c8:(d==1)=false:=by simp;omega
 have d1:=NC ((b:Int) - m) (1:Int)
 clear hd;go_in;go_wp2_with fail;clear d0 c8 d1
 go_loopw [14,15,16] (fun s14 s15 _ wr=>J3 a m (fun t=>0<=bF y.2 (kO L t)) w s14 s15 wr) (fun u v _ _=>(intOf v).toNat - (intOf u).toNat)
 case atStart=>exact⟨a,m,rfl,rfl,⟨Zb _,by omega,Zb _,.inl rfl,.inl rfl⟩,Ze _ _⟩
 case round=>
  obtain⟨lo,hi,rfl,rfl,a3,b4⟩:=hrel;have q1:=a3.a;have q2:=a3.b;have q3:=a3.c;have a2:=Qa a3;have a5:=Qa b4;have b2:=Qa (Hr.below b4);clear a3 b4
  by_cases hlt:lo<hi
  .obtain⟨k,hk⟩:=y7 ((lo+hi)/2);have hki:((lo:Int)+ (hi:Int))/2=k:=by omega
   have a7:lo<=k:=by omega
   have c3:k<hi:=by omega
   clear hk;obtain⟨u,hu⟩:∃u,L[k]?=some u:=by
    have:=HY.2.2.2.2;exact⟨_,Zd (by omega)⟩
   obtain⟨c1,-⟩:=b2.cell hu;obtain⟨c2,-⟩:=b2.cell Hy.out;have HC:=Qa (fun (w1:Wd) (d4:ge wr w1)=>Hc w1 ((a5.trans (d4.mono a5.size)).mono HB.out) y (Zl Hy) u (Zl hu));have HA:=Qa (show bF y.2 (kO L k)=bF y.2 u.2 by rw[kE hu]);have c6:k<n:=by omega
   have d9:m<n:=by omega
   clear hu;obtain⟨yv,yo⟩:=y;obtain⟨uv,uo⟩:=u;simp only at c1 c2 HC HA;generalize bF yo uo=z at *;obtain⟨bb,b3⟩:∃bb,decide (z<0)=bb:=⟨_,rfl⟩;go_wp2_with fail;refine aI (fun w'=>w'.cell? (no g k)=some uv/\w'.cell? (no g m)=some yv) (⟨c1,c2⟩) fun a0=>?_
   refine bw 0 1 2 a0 ?_;refine bw 3 4 5 a0 ?_;refine bw 6 7 8 a0 ?_;refine rH 9 fun K hK=>?_
   go_simp;refine(HC _ (Ze _ _).drew).mono ?_;rintro e wz ⟨rfl,hz⟩;have c9:=Qa ((Ze _ _).drew.trans hz);refine hK _ _ (⟨Zg hz a0.1,Zg hz a0.2⟩) (fun a0=>?_);clear hK K
   try simp only[Act.put,jP,jQ,jR]
   refine tH 10 a0 ?_;refine tH 11 a0 ?_;refine y5 ?_;have b9:ge wr wz:=c9.out;have c4:=Qa (a5.trans (b9.mono a5.size));clear b9
   cases bb with
   |false=>
    have Hz:=Qa (of_decide_eq_false b3);clear b3;go_wp2_with fail;exact⟨⟨k+1,hi,by go_num,rfl,a2.up a7 c3 (by show 0<=bF yo (kO L k);rw[HA.out];have:=Hz.out;omega),c4.out⟩,by simp[intOf];omega⟩
   |true=>
    have Hz:=Qa (of_decide_eq_true b3);clear b3;go_wp2_with fail;exact⟨⟨lo,k,rfl,rfl,a2.down a7 c3 (by show ¬0<=bF yo (kO L k);rw[HA.out];have:=Hz.out;omega),c4.out⟩,by simp[intOf];omega⟩
  .obtain rfl:lo=hi:=by omega
   obtain⟨T1,T2,f1,f2,f3,f4⟩:=sd (o:=y.2) (t:=lo - a) HY.2.1 (by have:=a6.out;omega) (by
    by_cases h0:lo=a
    .exact .inl (by omega)
    .refine .inr ?_;have h:0<=bF y.2 (kO L (lo - 1)):=a2.d.resolve_left h0;have h5:=HY.1 (lo - a - 1) (by have:=a6.out;omega);rw[show a+ (lo - a - 1)=lo - 1 by omega] at h5;have h6:kO L (lo - 1)=kO X (lo - a - 1):=by unfold kO;rw[h5]
     rw[<-h6,gc];omega) (by
    by_cases h0:lo=m
    .exact .inl (by have:=a6.out;omega)
    .refine .inr ?_;have h:¬0<=bF y.2 (kO L lo):=a2.e.resolve_left h0;have h5:=HY.1 (lo - a) (by have:=a6.out;omega);rw[show a+ (lo - a)=lo by omega] at h5;have h6:kO L lo=kO X (lo - a):=by unfold kO;rw[h5]
     rw[<-h6];omega)
   have a9:lo=a+T1.length:=by omega
   have b0:m=lo+T2.length:=by have:=a6.out;rw[f1,List.length_append] at this;omega
   have HS:=Qa (show ∀S1 S2 w' e,S2=T2->yg B g c w (P++ (T1++S1)++y:: (S2++R)) e w'->S1 = []->oY B g c P (X ++ [y]) R w e w' from fun S1 S2 w' e e1 h e2=>⟨T1++y::T2,by rw[f1];exact List.perm_middle.trans (List.perm_append_singleton y (T1++T2)).symm,AJ (f1▸HY.2.1) f3 f4,by subst e1 e2;simpa using h⟩);have HrT:=Qa (show cB B g c wr (P++ (T1++T2)++y:: ([]++R)) by
    have e:P++ (T1++T2)++y:: ([]++R)=L:=by rw[<-HY.out.2.2.1,f1];simp
    rw[e];exact b2.out)
   have b7:=Qa (show wG T2/\wG [y] by
    have h:=Hv.out;rw[<-HY.out.2.2.1,f1] at h;simp only[oF] at h;exact⟨h.1.1.2.2,h.1.2⟩)
   have Hch:=Qa (show aV (· = g) w wr from aV.of_below a5.out);have HP:=Qa (show P.length=a from HY.2.2.2.1);have HP1:=NA a9 b0;clear HY Hr Hv Hc Hy HB a6 q1 q2 q3 a2 a5 b2 hlt f1 f2 f3 f4 a9 b0;go_wp2_with fail
   go_loopw [17] (fun s17 wq=>I8 B g c lo P T1 T2 R y w s17 wq) (fun u _=>(intOf u).toNat)
   case atStart=>exact⟨T2, [],by simp,by rw[HP1.out.2],HrT.out,Hch.out⟩
   case round=>
    obtain⟨U1,U2,e1,rfl,b1,c0⟩:=hrel;have a1:=Qa b1;have a4:=Qa c0;have He:=Qa e1;have hU:U1.length<=T2.length:=by rw[e1,List.length_append];omega
    clear b1 c0 e1 HrT;rcases List.eq_nil_or_concat U1 with rfl|⟨U0,z,hz⟩
    .have h0:¬ (lo:Int)<lo:=by omega
     rw[show lo+ ([]:List Vj).length=lo from rfl];go_wp2_with fail;(try simp only[Exit.inBlock,Exit.then]);refine Zh (results_none rfl ..) rfl ?_;exact HS.out [] U2 _ _ (by rw[He.out,List.nil_append]) ⟨rfl,a4,a1⟩ rfl
    .rw[List.concat_eq_append] at hz;subst hz;obtain⟨k,hk⟩:=y7 (lo+U0.length);have a7:((lo+ (U0 ++ [z]).length:Nat):Int)= (k:Int)+1:=by rw[List.length_append,List.length_singleton];omega
     rw[a7];have hkl:(lo:Int)< (k:Int)+1:=by omega
     have c5:k+1<n:=by have:=HP1.out;rw[List.length_append,List.length_singleton] at hU;omega
     have c6:k<n:=by omega
     have hki:=NC ((k:Int)+1 - 1) (k:Int)
     have e3:IntKind.i64.wrap (k:Int)=k:=IntWalk.i64_in _ (by omega);have c7:(k:Int)<n:=by omega
     have d2:(k:Int)+1<n:=by omega
     have d6:(0:Int)<=(k:Int)+1:=by omega
     have eL:∀u v:Vj,P++ (T1++ (U0 ++ [u]))++v:: (U2++R)= (P++ (T1++U0))++u:: ([]++v:: (U2++R)):=fun u v=>by simp
     have d5:=pt (P:=P++ (T1++U0)) (M:= []) (R:=U2++R) (x:=z) (y:=y) (i:=k) (k:=k+1) (by simp only[List.length_append];have:=HP.out;have:=HP1.out;omega) (by simp only[List.length_append,List.length_nil];have:=HP.out;have:=HP1.out;omega);rw[eL] at a1;obtain⟨g1,g2,-,g4⟩:=d5;obtain⟨c1,k1⟩:=a1.cell g1;obtain⟨c2,k2⟩:=a1.cell g2;have oy:=b7.2 y (by simp);have oz:=b7.1 z (by rw[He.out];simp);obtain⟨d3,k3⟩:=(a1.set (k+1) z).cell (j:=k) (p:=z) (by rw[List.getElem?_set_ne (by omega)];exact g1);have h2:=a1.swap (i:=k+1) (k:=k) (p:=y) (q:=z);rw[g4,show(P++ (T1++U0))++y:: ([]++z:: (U2++R))=P++ (T1++U0)++y:: ((z::U2)++R) by simp] at h2;have HF:Hid (∀w2,Below ((wr.setCell ⟨g,k+1,none⟩ z.1).setCell (no g k) y.1).heap.size ((wr.setCell ⟨g,k+1,none⟩ z.1).setCell (no g k) y.1) w2->I8 B g c lo P T1 T2 R y w (k:Int) w2):=Qa fun w2 hb=>⟨U0,z::U2,by rw[He.out];simp,by rw[hk],h2.below hb,qf a4.out hb⟩
     obtain⟨yv,yo⟩:=y;obtain⟨zv,zo⟩:=z;simp only at c1 c2 oy oz d3 k3 HF;clear g1 g2 g4 h2 eL hk He a1 a4 b7 HS Hch HP HP1 a7 hU;rcases oy with rfl|⟨ty,qy,rfl⟩ <;> rcases oz with rfl|⟨tz,qz,rfl⟩
     all_goals
      go_wp2_with fail;refine cJ (fun w'=>w'.cell? (no g k)=_) 17 (c1) fun a0=>?_
      refine iz 0 1 2 a0 ?_;refine iz 3 4 5 a0 ?_;refine iz 6 7 8 a0 ?_;refine iz 9 10 11 a0 ?_;refine tZ 12 a0 ?_;refine rZ 13 fun K hK=>?_
      go_simp;refine hK _ _ (fun _=>a0) (fun a0=>?_);clear hK K;have a0:=a0 (by decide)
      try simp only[Act.put,jP,jQ,jR]
      refine tZ 14 a0 ?_;refine rZ 15 fun K hK=>?_
      go_simp;refine hK _ _ (fun _=>d3) (fun a0=>?_);clear hK K;have a0:=a0 (by decide)
      try simp only[Act.put,jP,jQ,jR]
      refine tZ 16 a0 ?_;refine rZ 17 fun K hK=>?_
      go_simp;refine hK _ _ (fun h=>absurd rfl h) (fun _=>?_);clear hK K
      try simp only[Act.put,jP,jQ,jR]
      refine aR (by kernel_rfl) (NoPanic.normal ?_) _;go_wp2_with fail;exact⟨HF _ (Ze _ _).drew,by simp[intOf]⟩
theorem vW {X:List Vj}{x:Vj}{k:Nat}(h:(X.take k).getLast?=some x)(hk:k<=X.length):0<k/\X[k - 1]?=some x:=by
 have h0:0<k:=by
  rcases Nat.eq_zero_or_pos k with rfl|h0
  .simp at h
  .exact h0
 refine⟨h0,?_⟩;rw[List.getLast?_eq_getElem?,List.length_take,Nat.min_eq_left hk,List.getElem?_take_of_lt (by omega)] at h;exact h
theorem xi {X:List Vj}{x:Vj}{k:Nat}(h:(X.drop k).head?=some x):X[k]?=some x:=by
 rw[List.head?_eq_getElem?,List.getElem?_drop] at h;exact h
theorem GZ {P X Y R L:List Vj}{a b e:Nat}(hL:P++X++Y++R=L)(ha:P.length=a)(hm:a+X.length=m)(hb:m+Y.length=b)(h1:a<=lo)(h2:lo<=m)(h3:m<=e)(h4:e<=b)(c1:lo=a\/e=b\/bF (kO L (lo - 1)) (kO L e)<=0)(c2:lo=m\/e=m\/bF (kO L (e - 1)) (kO L lo)<=0) :
  ∃X1 X2 Y1 Y2,X=X1++X2/\Y=Y1++Y2/\a+X1.length=lo/\m+Y1.length=e/\(∀x y,X1.getLast?=some x->Y2.head?=some y->bF x.2 y.2<=0)/\(∀y x,Y1.getLast?=some y->X2.head?=some x->bF y.2 x.2<=0):=by
 have kX:∀t,t<X.length->kO L (a+t)=kO X t:=fun t ht=>by
  unfold kO;rw[<-hL,List.append_assoc,List.append_assoc,List.getElem?_append_right (by omega),ha,Nat.add_sub_cancel_left,List.getElem?_append_left ht]
 have kY:∀t,t<Y.length->kO L (m+t)=kO Y t:=fun t ht=>by
  unfold kO;rw[<-hL,List.append_assoc,List.getElem?_append_right (by rw[List.length_append];omega),List.length_append,show m+t - (P.length+X.length)=t by omega,List.getElem?_append_left ht]
 refine⟨X.take (lo - a),X.drop (lo - a),Y.take (e - m),Y.drop (e - m),(List.take_append_drop _ _).symm,(List.take_append_drop _ _).symm,by rw[List.length_take];omega,by rw[List.length_take];omega,fun x y hx hy=>?_,fun y x hy hx=>?_⟩
 .obtain⟨p1,p2⟩:=vW hx (by omega);have p3:=xi hy;have p4:=(List.getElem?_eq_some_iff.1 p3).1;have p5:=kX (lo - a - 1) (by omega);have p6:=kY (e - m) p4;rw[kE p2,show a+ (lo - a - 1)=lo - 1 by omega] at p5;rw[kE p3,show m+ (e - m)=e by omega] at p6;rw[<-p5,<-p6];rcases c1 with h|h|h
  .omega
  .omega
  .exact h
 .obtain⟨p1,p2⟩:=vW hy (by omega);have p3:=xi hx;have p4:=(List.getElem?_eq_some_iff.1 p3).1;have p5:=kY (e - m - 1) (by omega);have p6:=kX (lo - a) p4;rw[kE p2,show m+ (e - m - 1)=e - 1 by omega] at p5;rw[kE p3,show a+ (lo - a)=lo by omega] at p6;rw[<-p5,<-p6];rcases c2 with h|h|h
  .omega
  .omega
  .exact h
def FQ (B g c n N:Nat):Prop:= ∀ (w:Wd) (P X Y R:List Vj) (a m b:Nat),X.length+Y.length<=N->X≠ []->Y≠ []->cB B g c w (P++X++Y++R)->(P++X++Y++R).length=n->B<=w.heap.size->wG (P++X++Y++R)->jg B w (P++X++Y++R)->cD X->cD Y->P.length=a->a+X.length=m->m+Y.length=b->
 Calls prog 91 #[.slice (some (nl g)) n c,(a:Int),(m:Int),(b:Int),.func (.func 28) #[] #[]] w (oY B g c P (X++Y) R w)
def Ld (p q:Prop)(s:Value):Prop:=(s =.bool true/\p/\q)\/(s =.bool false/\¬ (p/\q))
def Lo (B g c:Nat)(P X R:List Vj)(w wx:Wd):Prop:= ∃S:List Vj,S.Perm X/\cD S/\aV (· = g) w wx/\cB B g c wx (P++S++R)
theorem GA {a b:Nat}{P X Y R:List Vj}(hN:X.length+Y.length<=N+1)(hlen:n<=1000)(IH:FQ B g c n N)(hX:2<=X.length)(hY:2<=Y.length)(hr:cB B g c w (P++X++Y++R))(hn:(P++X++Y++R).length=n)(hB:B<=w.heap.size)(hv:wG (P++X++Y++R))(hc:jg B w (P++X++Y++R))(hs:cD X)(ht:cD Y)(ha:P.length=a)(hm:a+X.length=m)(hb:m+Y.length=b) :
  Calls prog 91 #[.slice (some (nl g)) n c,(a:Int),(m:Int),(b:Int),.func (.func 28) #[] #[]] w (oY B g c P (X++Y) R w):=by
 have k0:b<=n:=by simp only[List.length_append] at hn;omega
 have g1:=hr.lt.1;obtain⟨L,hL⟩:=y7 (P++X++Y++R);have b7:=Qa (fun lo e=>GZ (lo:=lo) (e:=e) hL ha hm hb);rw[hL] at hr hn hv hc;have Hr:=Qa hr;have Hv:=Qa hv;have Hc:=Qa hc;have H0:=x9 hL ha hn hs ht hB;have HI:=Qa IH;have HN:=Qa hN;obtain⟨mid,c4⟩:=y7 ((a+b)/2);have k4:a+2<=m:=by omega
 have k6:m+2<=b:=by omega
 have Hl:=NB hm hb c4;clear hL hr hn hv hc hs ht ha hm hb hX hY IH hN hB;obtain⟨d,hd⟩:=y7 ((m:Int) - a:Int);obtain⟨d2,g4⟩:=y7 ((b:Int) - m:Int);have i2:IntKind.i64.wrap ((m:Int) - a)=d:=by rw[IntWalk.i64_in _ (by omega)];exact hd
 have g9:(d==1)=false:=by simp;omega
 have i3:IntKind.i64.wrap ((b:Int) - m)=d2:=by rw[IntWalk.i64_in _ (by omega)];exact g4
 have i5:(d2==1)=false:=by simp;omega
 have j3:((a:Int)+b)/2=mid:=by omega
 have c3:a<mid/\mid<b:=by omega
 obtain⟨k5,j1⟩:=c3;obtain⟨nn,c8⟩:=y7 (mid+m);have j5:(mid:Int)+m=nn:=by omega
 obtain⟨l0,h0,g2⟩:∃l0 h0,(mid<m/\l0=nn - b/\h0=mid)\/(¬mid<m/\l0=a/\h0=m):=by
  by_cases h:mid<m
  .exact⟨_,_,.inl ⟨h,rfl,rfl⟩⟩
  .exact⟨_,_,.inr ⟨h,rfl,rfl⟩⟩
 have g8:=Hl.2.2;have c9:a<=l0/\l0<=h0/\h0<=m/\nn - l0<=b/\m<=nn - h0/\h0<=nn:=by omega
 have a6:=NB g2 c9 c8;clear hd g4 c4 c9 g8 c8 g2;go_in;go_upto_if 140 with fail
 obtain⟨w9,rfl⟩:∃w9:Wd,w9=w:=⟨_,rfl⟩;go_cut [20,21] (fun s20 s21 wx=>s20 =((l0:Nat):Int)/\s21 =((h0:Nat):Int)/\w9=wx)
 case first=>
  rcases a6.1 with ⟨h1,rfl,rfl⟩|⟨h1,rfl,rfl⟩
  .have h2:(h0:Int)<m:=by omega
   have h3:IntKind.i64.wrap ((nn:Int) - b)= ((nn - b:Nat):Int):=by rw[IntWalk.i64_in _ (by have:=a6.out.2;omega)];have:=a6.2;omega
   go_wp2_with fail;go_meet
   case rel=>exact⟨rfl,rfl,rfl⟩
  .have h2:¬ (mid:Int)<h0:=by omega
   go_wp2_with fail;go_meet
   case rel=>exact⟨rfl,rfl,rfl⟩
 case rest=>
  as_aux_lemma=>
   obtain⟨rfl,rfl,rfl⟩:=hcut;clear i2 g9 i3 i5;obtain⟨b1,b2,b3,b4,b5,b6⟩:=a6.2.1;have c8:=a6.2.2;obtain⟨p,hp⟩:∃p,p+1=nn:=⟨nn - 1,by omega⟩;have g5:=NC ((nn:Int) - 1) (p:Int)
   go_wp2_with fail;clear g5
   go_loopw [20,21,23] (fun s20 s21 _ wr=>J3 l0 h0 (fun t=>0<=bF (kO L (p - t)) (kO L t)) w9 s20 s21 wr) (fun u v _ _=>(intOf v).toNat - (intOf u).toNat)
   case atStart=>exact⟨l0,h0,rfl,rfl,⟨Zb _,b2,Zb _,.inl rfl,.inl rfl⟩,Ze _ _⟩
   case round=>
    obtain⟨lo,hi,rfl,rfl,a2,d4⟩:=hrel;have q1:=a2.a;have q2:=a2.b;have q3:=a2.c;have a1:=Qa a2;have a9:=Qa d4;have c6:=Qa (Hr.below d4);clear a2 d4
    by_cases hlt:lo<hi
    .obtain⟨k,hk⟩:=y7 ((lo+hi)/2);have hki:((lo:Int)+ (hi:Int))/2=k:=by omega
     have f8:lo<=k:=by omega
     have g3:k<hi:=by omega
     clear hk;obtain⟨q,hq⟩:=y7 (p - k);have k3:=NC ((p:Int) - k) (q:Int)
     have j0:k<n:=by omega
     have k2:q<n:=by omega
     obtain⟨u,hu⟩:=y8 L k (by have:=H0.2.2.1;omega);obtain⟨v,hv⟩:=y8 L q (by have:=H0.2.2.1;omega);obtain⟨c1,-⟩:=c6.cell hu;obtain⟨c2,-⟩:=c6.cell hv;have HC:=Qa (fun (w1:Wd) (c9:ge wr w1)=>Hc w1 ((a9.trans (c9.mono a9.size)).mono H0.2.2.2.2.2) v (Zl hv) u (Zl hu));have HA:=Qa (show bF (kO L (p - k)) (kO L k)=bF v.2 u.2 by rw[hq,kE hu,kE hv]);clear hu hv hq;obtain⟨uv,uo⟩:=u;obtain⟨vv,vo⟩:=v;simp only at c1 c2 HC HA;generalize bF vo uo=z at *;obtain⟨bb,c7⟩:∃bb,decide (z<0)=bb:=⟨_,rfl⟩;go_wp2_with fail;refine aI (fun w'=>w'.cell? (no g k)=some uv/\w'.cell? (no g q)=some vv) (⟨c1,c2⟩) fun a3=>?_
     refine bw 0 1 2 a3 ?_;refine bw 3 4 5 a3 ?_;refine bw 6 7 8 a3 ?_;refine tH 9 a3 ?_;refine tH 10 a3 ?_;refine rH 11 fun K hK=>?_
     go_simp;refine(HC _ (Ze _ _).drew).mono ?_;rintro e wz ⟨rfl,hz⟩;have h7:=Qa ((Ze _ _).drew.trans hz);refine hK _ _ (⟨Zg hz a3.1,Zg hz a3.2⟩) (fun a3=>?_);clear hK K
     try simp only[Act.put,jP,jQ,jR]
     refine tH 12 a3 ?_;refine tH 13 a3 ?_;refine y5 ?_;have e8:ge wr wz:=h7.out;have d0:=Qa (a9.trans (e8.mono a9.size));clear e8
     cases bb with
     |false=>
      have Hz:=Qa (of_decide_eq_false c7);clear c7;go_wp2_with fail;exact⟨⟨k+1,hi,by go_num,rfl,a1.up f8 g3 (by show 0<=bF (kO L (p - k)) (kO L k);rw[HA.out];have:=Hz.out;omega),d0.out⟩,by simp[intOf];omega⟩
     |true=>
      have Hz:=Qa (of_decide_eq_true c7);clear c7;go_wp2_with fail;exact⟨⟨lo,k,rfl,rfl,a1.down f8 g3 (by show ¬0<=bF (kO L (p - k)) (kO L k);rw[HA.out];have:=Hz.out;omega),d0.out⟩,by simp[intOf];omega⟩
    .obtain rfl:lo=hi:=by omega
     obtain⟨e,he⟩:=y7 (nn - lo);have j2:=NC ((nn:Int) - lo) (e:Int)
     have e1:m<=e:=by omega
     have e2:e<=b:=by omega
     obtain⟨X1,X2,Y1,Y2,f1,f2,f3,f4,f5,f6⟩:=b7 lo e (by omega) (by omega) e1 e2 (by
      by_cases h0:lo=l0
      .rcases a6.1 with ⟨h8,h,-⟩|⟨-,h,-⟩
       .exact .inr (.inl (by omega))
       .exact .inl (by omega)
      .have h:0<=bF (kO L (p - (lo - 1))) (kO L (lo - 1)):=a1.d.resolve_left h0;rw[show p - (lo - 1)=e by omega,gc] at h;exact .inr (.inr (by omega))) (by
      by_cases h9:lo=h0
      .rcases a6.1 with ⟨-,-,h⟩|⟨-,-,h⟩
       .exact .inr (.inl (by omega))
       .exact .inl (by omega)
      .have h:¬0<=bF (kO L (p - lo)) (kO L lo):=a1.e.resolve_left h9;rw[show p - lo=e - 1 by omega] at h;exact .inr (.inr (by omega)))
     have i0:(lo:Int)+e=mid+m:=by omega
     have i9:lo<=m:=by omega
     have k1:a<=lo:=by omega
     have HS:=x7 f3 f4 f1 f2;have e4:cD (X1++X2):=f1▸H0.2.2.2.1;have d7:cD (Y1++Y2):=f2▸H0.2.2.2.2.1;have HD:=Qa (fun (S1 S2:List Vj)=>DO (S1:=S1) (S2:=S2) e4 d7 f5 f6);have a4:=NA (List.pairwise_append.1 e4) (List.pairwise_append.1 d7);have b9:P++X1++X2++Y1++ (Y2++R)=L:=by rw[<-H0.out.1,f1,f2];simp
     have a7:=Qa (show cB B g c wr (P++X1++X2++Y1++ (Y2++R)) by rw[b9];exact c6.out);have e0:=Qa (show wG (P++X1++X2++Y1++ (Y2++R)) by rw[b9];exact Hv.out);have e7:=Qa (show(P++X1++X2++Y1++ (Y2++R)).length=n by rw[b9];exact H0.2.2.1);have f9:=Qa (show jg B w9 (P++X1++X2++Y1++ (Y2++R)) by rw[b9];exact Hc.out);have e5:=Qa (show aV (· = g) w9 wr from aV.of_below a9.out);have HB:=Qa (H0.2.2.2.2.2);have HP:=Qa H0.2.1;clear f1 f2 f3 f4 f5 f6 e4 d7 b9 b7 Hr Hv Hc H0 a1 a9 c6 he c8 hp a6 q1 q2 q3 b1 b2 b3 b4 b5 b6 hlt;go_upto_region 39 with fail
     obtain⟨wo,rfl⟩:∃wo:Wd,wo=wr:=⟨_,rfl⟩;go_cut [185] (fun s wx=>Ld ((lo:Int)<m) ((m:Int)<e) s/\wo=wx)
     case first=>
      by_cases h1:(lo:Int)<m <;> by_cases h2:(m:Int)<e
      all_goals
       go_wp2_with fail;go_meet
       case rel=>exact⟨by first|exact .inl ⟨rfl,h1,h2⟩|exact .inr ⟨rfl,fun h=>by have:=h.1;have:=h.2;omega⟩,rfl⟩
     case rest=>
      obtain⟨hh,rfl⟩:=hcut;have Hh:=Qa hh;clear hh;go_upto_if 185 with fail
      go_cut [24] (fun s24 wx=>s24 =((e:Nat):Int)/\aV (· = g) wo wx/\cB B g c wx (P++X1++Y1++X2++ (Y2++R)))
      case first=>
       rcases Hh.out with ⟨rfl,h1,h2⟩|⟨rfl,b0⟩
       .have HR:=Qa (ID (i:=lo) (j:=m) (k:=e) (f:=.func (.func 28) #[] #[]) a7.out e7.out e0.out (fun h=>by have h3:=HS.out;have h4:=Hl.out;rw[h3.2.2.1,h,List.append_nil] at h4;omega) (fun h=>by have h3:=HS.out;rw[h,List.length_nil] at h3;omega) hlen (by have:=HS.out;have:=HP.out;rw[List.length_append];omega) (by have h3:=HS.out;have h4:=Hl.out;have:=HP.out;rw[h3.2.2.1,List.length_append] at h4;rw[List.length_append];omega) (by have h3:=HS.out;have h4:=Hl.out;have:=HP.out;rw[h3.2.2.1,List.length_append] at h4;rw[List.length_append];omega));go_wp2_with fail;refine Za HR ?_;rintro e w1 ⟨rfl,f7,c0⟩;have Hx:=NA f7 c0;clear f7 c0 HR;go_wp2_with fail;go_meet
        case rel=>exact⟨rfl,Hx.1,Hx.2⟩
       .have Hn:=Qa b0;clear b0;go_wp2_with fail;go_meet
        case rel=>
         have g6:Y1 = []\/X2 = []:=by
          rcases Nat.eq_zero_or_pos Y1.length with h|h
          .exact .inl (List.eq_nil_of_length_eq_zero h)
          .refine .inr (List.eq_nil_of_length_eq_zero ?_);have h3:=HS.out;have h4:=Hl.out;have h5:=Hn.out;rw[h3.2.2.1,List.length_append] at h4;omega
         have h6:=a7.out;rcases g6 with h|h
         .rw[h,List.append_nil] at h6;exact⟨rfl,aV.refl _ _,by rw[h,List.append_nil];exact h6⟩
         .rw[h,List.append_nil] at h6;exact⟨rfl,aV.refl _ _,by rw[h,List.append_nil];exact h6⟩
      case rest=>
       as_aux_lemma=>
        obtain⟨rfl,b8,a5⟩:=hcut;obtain⟨w1,rfl⟩:∃w1:Wd,w1=wc:=⟨_,rfl⟩;have c5:=Qa (gI e5.out b8);have d5:=Qa (show cB B g c w1 (P++ (X1++Y1)++ (X2++ (Y2++R))) by simpa using a5);have Hm:=Qa (show(∀u,u∈P++ (X1++Y1)++ (X2++ (Y2++R))->u∈P++X1++X2++Y1++ (Y2++R)) from fun u hu=>by
         simp only[List.mem_append] at hu ⊢;rcases hu with (h|h|h)|h|h|h <;> simp[h])
        have e6:=Qa (c5.below HB.out fun k hk=>by subst hk;exact g1);have e3:=Qa (show(P++ (X1++Y1)++ (X2++ (Y2++R))).length=n by have:=e7.out;simp only[List.length_append] at this ⊢;omega);have a0:=Qa (show a+X1.length+Y1.length=mid/\mid+X2.length=e/\e+Y2.length=b/\X1.length+Y1.length+ (X2.length+Y2.length)=X.length+Y.length by
         have h3:=HS.out;have h4:=Hl.out;rw[h3.2.2.1,h3.2.2.2,List.length_append,List.length_append] at h4 ⊢;omega)
        have Hz:=Qa (show B<=w1.heap.size from Zc HB.out c5.size);clear b8 a5 a7 e5;go_upto_region 41 with fail
        go_cut [199] (fun s wx=>Ld ((a:Int)<lo) ((lo:Int)<mid) s/\w1=wx)
        case first=>
         by_cases h1:(a:Int)<lo <;> by_cases h2:(lo:Int)<mid
         all_goals
          go_wp2_with fail;go_meet
          case rel=>exact⟨by first|exact .inl ⟨rfl,h1,h2⟩|exact .inr ⟨rfl,fun h=>by have:=h.1;have:=h.2;omega⟩,rfl⟩
        case rest=>
         obtain⟨hh,rfl⟩:=hcut;have Hh:=Qa hh;clear hh;go_upto_if 199 with fail
         go_cut [24] (fun s24 wx=>s24 =((e:Nat):Int)/\Lo B g c P (X1++Y1) (X2++ (Y2++R)) w1 wx)
         case first=>
          rcases Hh.out with ⟨rfl,h1,h2⟩|⟨rfl,b0⟩
          .have HR:=Qa (HI w1 P X1 Y1 (X2++ (Y2++R)) a lo mid (by have:=a0.out;have:=HN.out;have:=Hl.out;omega) (fun h=>by have h3:=HS.out;rw[h,List.length_nil] at h3;omega) (fun h=>by have h3:=HS.out;have h4:=a0.out;rw[h,List.length_nil] at h4;omega) (by simpa using d5.out) (by simpa using e3.out) Hz.out (fun u hu=>e0 u (Hm u (by simpa using hu))) (f9.on e6 fun u hu=>Hm u (by simpa using hu)) a4.1.1 a4.2.1 HP.out HS.1 (by have:=HS.out;have:=a0.out;omega));go_wp2_with fail;refine Za HR ?_;rintro e w2 ⟨S,s1,s2,rfl,s3,s4⟩;have Hx:=Qa (show Lo B g c P (X1++Y1) (X2++ (Y2++R)) w1 w2 from⟨S,s1,s2,s3,s4⟩);clear s1 s2 s3 s4 HR;go_wp2_with fail;go_meet
           case rel=>exact⟨rfl,Hx⟩
          .have Hn:=Qa b0;clear b0;go_wp2_with fail;go_meet
           case rel=>
            have h6:=d5.out;rcases Nat.eq_zero_or_pos Y1.length with h|h
            .rw[List.eq_nil_of_length_eq_zero h,List.append_nil] at h6 ⊢;exact⟨rfl,X1,List.Perm.refl _,a4.1.1,aV.refl _ _,h6⟩
            .have hx:X1 = []:=List.eq_nil_of_length_eq_zero (by have h3:=HS.out;have h4:=a0.out;have h5:=Hn.out;omega);rw[hx,List.nil_append] at h6 ⊢;exact⟨rfl,Y1,List.Perm.refl _,a4.2.1,aV.refl _ _,h6⟩
         case rest=>
          as_aux_lemma=>
           obtain⟨rfl,S1,s1,s2,s3,s4⟩:=hcut;obtain⟨w2,rfl⟩:∃w2:Wd,w2=wc:=⟨_,rfl⟩;have d1:=Qa (gI c5.out s3);have d9:=s1.length_eq;rw[List.length_append] at d9;have d6:=NB s1 s2 d9;have d3:=Qa s4;have d0:=Qa (d1.below HB.out fun k hk=>by subst hk;exact g1);have g0:=Qa (show(∀u,u∈(P++S1)++X2++Y2++R->u∈P++X1++X2++Y1++ (Y2++R)) from fun u hu=>Hm u (by
            simp only[List.mem_append] at hu ⊢;rcases hu with (((h|h)|h)|h)|h
            .simp[h]
            .have:=s1.mem_iff.1 h;rw[List.mem_append] at this;simp[this]
            .simp[h]
            .simp[h]
            .simp[h]))
           have i4:=Qa (show((P++S1)++X2++Y2++R).length=n by have:=e3.out;simp only[List.length_append] at this ⊢;omega);have g7:=Qa (show B<=w2.heap.size from Zc HB.out d1.size);clear s1 s2 s3 s4 d9 d5 c5 e6 e3 Hz;have HE:=Qa (show ∀S2 w' e',S2.Perm (X2++Y2)->cD S2->yg B g c w2 ((P++S1)++S2++R) e' w'->oY B g c P (X++Y) R w9 e' w' from fun S2 w' e' h1 h2 h3=>by
            have h4:=HD S1 S2 d6.1 h1 d6.2.1 h2;refine⟨S1++S2,?_,h4.2,h3.1,gI d1 h3.2.1,by simpa using h3.2.2⟩;rw[HS.out.2.2.1,HS.out.2.2.2];exact h4.1)
           by_cases h1:mid<e
           .by_cases h2:e<b
            .have f0:(mid:Int)<e:=by omega
             have i8:(e:Int)<b:=by omega
             have HR:=Qa (HI w2 (P++S1) X2 Y2 R mid e b (by have:=a0.out;have:=HN.out;have:=Hl.out;omega) (fun h=>by have h4:=a0.out;rw[h,List.length_nil] at h4;omega) (fun h=>by have h4:=a0.out;rw[h,List.length_nil] at h4;omega) (by simpa using d3.out) i4.out g7.out (fun u hu=>e0 u (g0 u hu)) (f9.on d0 g0) a4.1.2.1 a4.2.2.1 (by have:=d6.2.2;have:=HP.out;have:=a0.out;rw[List.length_append];omega) a0.2.1 a0.2.2.1);go_wp2_with fail;refine Za HR ?_;rintro e w3 ⟨S2,s1,s2,rfl,s3,s4⟩;have Hx:=Qa (HE S2 w3 _ s1 s2 ⟨rfl,s3,s4⟩);clear s1 s2 s3 s4 HR;go_wp2;go_end0;exact Hx.out
            .have f0:(mid:Int)<e:=by omega
             have i8:¬ (e:Int)<b:=by omega
             have hy:Y2 = []:=List.eq_nil_of_length_eq_zero (by have:=a0.out;omega);have Hx:=Qa (HE X2 w2 _ (by rw[hy,List.append_nil]) a4.1.2.1 ⟨rfl,aV.refl _ _,by have:=d3.out;rw[hy] at this;simpa using this⟩);clear hy;go_wp2;go_end0;exact Hx.out
           .have f0:¬ (mid:Int)<e:=by omega
            have hx:X2 = []:=List.eq_nil_of_length_eq_zero (by have:=a0.out;omega);have Hx:=Qa (HE Y2 w2 _ (by rw[hx,List.nil_append]) a4.2.2.1 ⟨rfl,aV.refl _ _,by have:=d3.out;rw[hx] at this;simpa using this⟩);clear hx;go_wp2;go_end0;exact Hx.out
theorem IR (hlen:n<=1000):∀N,FQ B g c n N:=by
 intro N
 induction N with
 |zero=>intro w P X Y R a m b h1 h2;have:=jo h2;omega
 |succ N ih=>
  intro w P X Y R a m b h1 hX hY hr hn hB hv hc hs ht ha hm hb;have h2:=jo hX;have h3:=jo hY
  by_cases h4:X.length=1
  .obtain⟨x,rfl⟩:=List.length_eq_one_iff.1 h4;exact GH hr hn hlen hB hv hc ht ha (by simpa using hm) hb
  .by_cases h5:Y.length=1
   .obtain⟨y,rfl⟩:=List.length_eq_one_iff.1 h5;exact E3 hr hn hlen hB hv hc hs ha hm (by simpa using hb) (by omega)
   .exact GA h1 hlen ih (by omega) (by omega) hr hn hB hv hc hs ht ha hm hb
inductive mF (s:Nat):List Vj->Prop
 |nU {L:List Vj}:L.length<s->cD L->mF s L
 |more {A C:List Vj}:A.length=s->cD A->mF s C->mF s (A++C)
inductive qh (s:Nat):List Vj->Prop
 |none:qh s []
 |more {D A:List Vj}:qh s D->A.length=s->cD A->qh s (D++A)
theorem qh.cuts {s:Nat}{D:List Vj}(h:qh s D):∀ {C:List Vj},mF s C->mF s (D++C):=by
 induction h with
 |none=>intro C hc;exact hc
 |more _ h1 h2 ih=>intro C hc;rw[List.append_assoc];exact ih (.more h1 h2 hc)
theorem mF.short {s:Nat}{C:List Vj}(h:mF s C)(hl:C.length<=s):cD C:=by
 cases h with
 |nU _ h=>exact h
 |more h1 h2 h3=>
  rename_i A C
  have:C = []:=List.eq_nil_of_length_eq_zero (by rw[List.length_append] at hl;omega);rw[this,List.append_nil];exact h2
theorem mF.one {s:Nat}{C:List Vj}(h:mF s C)(hl:s<=C.length):∃A C',C=A++C'/\A.length=s/\cD A/\mF s C':=by
 cases h with
 |nU h _=>omega
 |more h1 h2 h3=>exact⟨_,_,rfl,h1,h2,h3⟩
def mj (B g c:Nat)(L M:List Vj)(w wr:Wd):Prop:=M.Perm L/\cB B g c wr M/\aV (· = g) w wr
def MM (B g c:Nat)(L:List Vj)(w:Wd)(s7 s8:Value)(wr:Wd):Prop:= ∃D C:List Vj,s7 =((D.length:Nat):Int)/\s8 =((D.length:Int)+20:Int)/\qh 20 D/\mj B g c L (D++C) w wr
def Mq (B g c s:Nat)(L:List Vj)(w:Wd)(s7 s8:Value)(wr:Wd):Prop:= ∃D C:List Vj,s7 =((D.length:Nat):Int)/\s8 =((D.length+2*s:Nat):Int)/\qh (2*s) D/\mF s C/\mj B g c L (D++C) w wr
def LO (B g c:Nat)(L:List Vj)(w:Wd)(s6:Value)(wr:Wd):Prop:= ∃ (s:Nat) (M:List Vj),s6 =(s:Int)/\1<=s/\s<=2000/\mF s M/\mj B g c L M w wr
theorem Db.mix {L M:List Vj}(h:Db B w L)(hb:Below B w w')(hp:M.Perm L):Db B w' M:=fun p hm=>(h.lowB hb) p (hp.mem_iff.1 hm)
theorem JX.app {D A R:List Vj}{e:Ending}{a b:Nat}(ha:D.length=a)(hb:a+A.length=b)(h:JX B g c a b (D++A++R) w e w'):oY B g c D A R w e w':=by
 obtain⟨h1,h2,S,h3,h4,h5⟩:=h;have e1:(D++A++R).take b=D++A:=by rw[<-hb,<-ha,<-List.length_append,List.take_left]
 have e2:(D++A++R).drop b=R:=by rw[<-hb,<-ha,<-List.length_append,List.drop_left]
 have e3:(D++A++R).take a=D:=by rw[List.append_assoc,<-ha,List.take_left]
 rw[e1,<-ha,List.drop_left] at h3;rw[e2,e3] at h5;exact⟨S,h3,h4,h1,h2,h5⟩
theorem AA {L:List Vj}(hr:cB B g c w L)(hn:L.length=n)(hv:Db B w L)(h0:ge w0 w)(a6:w0.heap.size<=B)(hB:B<=w.heap.size)(hlen:n<=1000)(hT:dh w0)(hG:cG w0 aU aE) :
  Calls prog 51 #[.slice (some (nl g)) n c,(n:Int),.func (.func 28) #[] #[]] w fun e w'=>e =.returned (.tuple #[])/\∃S,cD S/\mj B g c L S w w':=by
 have b2:=hr.lt.1;have Hb:=Qa (show ∀wr:Wd,aV (· = g) w wr->Below B w wr/\B<=wr.heap.size from fun wr h=>⟨h.below hB fun k hk=>by subst hk;exact b2,Zc hB h.size⟩);have HI:=Qa (show ∀ (wr:Wd) (D A R:List Vj) (a b:Nat),mj B g c L (D++A++R) w wr->D.length=a->a+A.length=b->Calls prog 90 #[.slice (some (nl g)) n c,(a:Int),(b:Int),.func (.func 28) #[] #[]] wr fun e w'=>oY B g c D A R wr e w' from fun wr D A R a b hm ha hb=>by
  have a5:=Hb _ hm.2.2;have hl:(D++A++R).length=n:=by rw[<-hn];exact hm.1.length_eq
  have:=zE (a:=a) (b:=b) hm.2.1 (hv.mix a5.1 hm.1) (h0.trans (a5.1.mono a6)) a6 a5.2 (by omega) (by omega) (by rw[<-hb,<-ha,<-List.length_append];simp) hT hG;rw[hl] at this;exact this.mono fun e w' h=>h.app ha hb)
 have HM:=Qa (show ∀ (wr:Wd) (P X Y R:List Vj) (a m b:Nat),mj B g c L (P++X++Y++R) w wr->X≠ []->Y≠ []->cD X->cD Y->P.length=a->a+X.length=m->m+Y.length=b->Calls prog 91 #[.slice (some (nl g)) n c,(a:Int),(m:Int),(b:Int),.func (.func 28) #[] #[]] wr fun e w'=>oY B g c P (X++Y) R wr e w' from fun wr P X Y R a m b hm hX hY hs ht ha b3 hb=>by
  have a5:=Hb _ hm.2.2;have b1:=hv.mix a5.1 hm.1;exact IR hlen (X.length+Y.length) wr P X Y R a m b (Zb _) hX hY hm.2.1 (by rw[<-hn];exact hm.1.length_eq) a5.2 b1.two (Kf b1 (h0.trans (a5.1.mono a6)) a6 hT hG) hs ht ha b3 hb)
 have Hr:=Qa (show mj B g c L L w w from⟨List.Perm.refl _,hr,aV.refl _ _⟩);have Hn:=Qa (show ∀ (M:List Vj) (wr:Wd),mj B g c L M w wr->M.length=n from fun M wr h=>by rw[<-hn];exact h.1.length_eq);have Hx:=Qa (show ∀ (D A R:List Vj) (wr:Wd) (e:Ending) (w':Wd),mj B g c L (D++A++R) w wr->oY B g c D A R wr e w'->e =.returned (.tuple #[])/\∃S,S.length=A.length/\cD S/\mj B g c L (D++S++R) w w' from fun D A R wr e w' hm hs=>by
  obtain⟨S,s1,s2,s3,s4,s5⟩:=hs;exact⟨s3,S,s1.length_eq,s2,((List.Perm.append_left _ s1).append_right _).trans hm.1,s5,gI hm.2.2 s4⟩)
 clear hr hn hv h0 a6 hB hT hG;go_in;go_wp2_with fail
 go_loopw [7,8] (fun s7 s8 wr=>MM B g c L w s7 s8 wr) (fun _ v _=>n+20 - (intOf v).toNat)
 case atStart=>exact⟨[],L,rfl,rfl,.none,Hr⟩
 case round=>
  obtain⟨D,C,rfl,rfl,hf,hm⟩:=hrel;have hl:=Hn _ _ hm;rw[List.length_append] at hl;obtain⟨a,ha⟩:=y7 D.length;obtain⟨k,hk⟩:=y7 C.length;rw[ha,hk] at hl;rw[ha];have Hf:=NB hf ha hk;have Hm:=Qa hm;clear hf hm ha hk Hr
  by_cases hlt:20<=k
  .obtain⟨b,hb⟩:=y7 (a+20);have h1:(b:Int)<=n:=by omega
   have h2:(a:Int)+20=b:=by omega
   have a0:=Hm.out;rw[<-List.take_append_drop 20 C,<-List.append_assoc] at a0;have hA:(C.take 20).length=20:=by rw[List.length_take,Hf.out.2.2];omega
   have a2:=Qa (HI wr D (C.take 20) (C.drop 20) a b a0 Hf.2.1 (by rw[hA];exact hb));have a1:=Qa (fun e w'=>Hx _ _ _ _ e w' a0);have HA:=NA hA hb;clear a0 hA;rw[h2];clear h2;have h3:=y9 ((b:Int)+20);clear hb;go_wp2_with fail;refine Za a2 ?_;rintro e w1 hs;obtain⟨rfl,S,s1,s2,s3⟩:=a1 _ _ hs;have hD:=Hf.1.more (s1.trans HA.1) s2;have a4:(D++S).length=b:=by rw[List.length_append,s1,HA.out.1,Hf.out.2.1];exact HA.2
   have a3:=Qa (show MM B g c L w (b:Int) ((b:Int)+20:Int) w1 from⟨D++S,C.drop 20,by rw[a4],by rw[a4],hD,s3⟩);clear hs s1 s2 s3 hD a4 a2 a1;go_wp2_with fail;exact⟨a3,by have:=HA.2;simp[intOf];omega⟩
  .have h1:¬ (a:Int)+20<=n:=by omega
   have a0:=Hm.out;rw[<-List.append_nil (D++C)] at a0;have a2:=Qa (HI wr D C [] a n a0 Hf.2.1 (by rw[Hf.out.2.2];exact hl));have a1:=Qa (fun e w'=>Hx _ _ _ _ e w' a0);clear a0;go_wp2_with fail;refine Za a2 ?_;rintro e w1 hs;obtain⟨rfl,S,s1,s2,s3⟩:=a1 _ _ hs;rw[List.append_nil] at s3;have H1:=Qa (show LO B g c L w (20:Int) w1 from⟨20,D++S,rfl,by omega,by omega,Hf.1.cuts (.nU (by rw[s1,Hf.out.2.2];omega) s2),s3⟩);clear hs s1 s2 s3 a2 a1 Hf Hm HI h1 hlt hl;go_wp2_with fail
   go_loopw [6,7,8,9] (fun s6 _ _ _ wq=>LO B g c L w s6 wq) (fun u _ _ _ _=>4000 - (intOf u).toNat)
   case atStart=>exact H1.out
   case round=>
    clear H1;obtain⟨s,M,rfl,b7,b6,hc,hm⟩:=hrel;have hl:=Hn _ _ hm;have Hc:=Qa hc;have Hm:=Qa hm;clear hc hm
    by_cases hlt:s<n
    .have a7:(s:Int)<n:=by omega
     obtain⟨t,ht⟩:=y7 (2*s);have b4:=NC (2* (s:Int)) (t:Int)
     have b8:=NC ((s:Int)*2) (t:Int)
     have H1:=Qa (show Mq B g c s L w (0:Int) ((t:Nat):Int) wr from⟨[],M,rfl,by rw[List.length_nil,ht,Nat.zero_add],.none,Hc.out,Hm.out⟩);have Ht:=Qa ht;clear Hc Hm ht;go_wp2_with fail;obtain⟨wo,rfl⟩:∃wo:Wd,wo=wr:=⟨_,rfl⟩
     go_loopw [7,8] (fun s7 s8 wq=>Mq B g c s L w s7 s8 wq) (fun _ v _=>n+t - (intOf v).toNat)
     case atStart=>exact H1.out
     case round=>
      clear H1;obtain⟨D,C,rfl,rfl,hf,hc,hm⟩:=hrel;have b0:=Hn _ _ hm;rw[List.length_append] at b0;obtain⟨a,ha⟩:=y7 D.length;obtain⟨k,hk⟩:=y7 C.length;rw[ha,hk] at b0;rw[ha];have Hf:=x7 hf ha hk hc;have Hm:=Qa hm;clear hf hm ha hk hc;obtain⟨b,hb⟩:=y7 (a+2*s);obtain⟨m,hm⟩:=y7 (a+s);have b5:=NC ((a:Int)+s) (m:Int)
      rw[hb]
      by_cases h2k:2*s<=k
      .have h1:(b:Int)<=n:=by omega
       obtain⟨q,hq⟩:=y7 (b+2*s);have h3:IntKind.i64.wrap ((b:Int)+t)=q:=by have:=Ht.out;rw[IntWalk.i64_in _ (by omega)];omega
       obtain⟨A1,C1,f1,f2,f3,f4⟩:=Hf.2.2.2.one (by have:=Hf.2.2.1;omega);obtain⟨A2,C2,f5,f6,f7,f8⟩:=f4.one (by have:=Hf.2.2.1;rw[f1,List.length_append] at this;omega);have a0:mj B g c L (D++A1++A2++C2) w wr:=by have:=Hm.out;rw[f1,f5] at this;simpa using this
       have a2:=Qa (HM wr D A1 A2 C2 a m b a0 (fun h=>by rw[h,List.length_nil] at f2;omega) (fun h=>by rw[h,List.length_nil] at f6;omega) f3 f7 Hf.2.1 (by rw[f2];exact hm) (by rw[f6];omega));have a1:=Qa (fun e w'=>Hx D (A1++A2) C2 wr e w' (by simpa using a0));have HA:=Qa (show(A1++A2).length=2*s/\mF s C2/\a+2*s=b/\b+2*s=q from⟨by rw[List.length_append];omega,f8,hb,hq⟩);clear a0 f1 f2 f3 f4 f5 f6 f7 f8 hb hm hq;go_wp2_with fail;refine Za a2 ?_;rintro e w1 hs;obtain⟨rfl,S,s1,s2,s3⟩:=a1 _ _ hs;have hD:=Hf.1.more (s1.trans HA.1) s2;have a4:(D++S).length=b:=by rw[List.length_append,s1,HA.out.1,Hf.out.2.1];exact HA.2.2.1
       have a3:=Qa (show Mq B g c s L w (b:Int) (q:Int) w1 from⟨D++S,C2,by rw[a4],by rw[a4,HA.out.2.2.2],hD,HA.2.1,s3⟩);clear hs s1 s2 s3 hD a4 a2 a1;go_wp2_with fail;exact⟨a3,by have:=HA.2.2;have:=Ht.out;simp[intOf];omega⟩
      .have h1:¬ (b:Int)<=n:=by omega
       by_cases hks:s<k
       .have h3:(m:Int)<n:=by omega
        obtain⟨A1,C1,f1,f2,f3,f4⟩:=Hf.2.2.2.one (by have:=Hf.2.2.1;omega);have a9:C1.length=k - s:=by have:=Hf.2.2.1;rw[f1,List.length_append] at this;omega
        have a0:mj B g c L (D++A1++C1 ++ []) w wr:=by have:=Hm.out;rw[f1] at this;simpa using this
        have a2:=Qa (HM wr D A1 C1 [] a m n a0 (fun h=>by rw[h,List.length_nil] at f2;omega) (fun h=>by rw[h,List.length_nil] at a9;omega) f3 (f4.short (by omega)) Hf.2.1 (by rw[f2];exact hm) (by rw[a9];omega));have a1:=Qa (fun e w'=>Hx D (A1++C1) [] wr e w' (by simpa using a0));have HA:=Qa (show(A1++C1).length=k/\k<2*s from⟨by rw[List.length_append];omega,by omega⟩);clear a0 f1 f2 f3 f4 a9 hb hm;go_wp2_with fail;refine Za a2 ?_;rintro e w1 hs;obtain⟨rfl,S,s1,s2,s3⟩:=a1 _ _ hs;rw[List.append_nil] at s3;have a3:=Qa (show LO B g c L w (t:Int) w1 from⟨t,D++S,rfl,by have:=Ht.out;omega,by have:=Ht.out;omega,by rw[<-Ht.out];exact Hf.1.cuts (.nU (by rw[s1,HA.out.1];exact HA.2) s2),s3⟩);clear hs s1 s2 s3 a2 a1;go_wp2_with fail;exact⟨a3,by have:=Ht.out;simp[intOf];omega⟩
       .have h3:¬ (m:Int)<n:=by omega
        have a3:=Qa (show LO B g c L w (t:Int) wr from⟨t,D++C,rfl,by have:=Ht.out;omega,by have:=Ht.out;omega,by rw[<-Ht.out];exact Hf.1.cuts (.nU (by have:=Hf.2.2.1;omega) (Hf.2.2.2.short (by have:=Hf.2.2.1;omega))),Hm.out⟩);clear hb hm;go_wp2_with fail;exact⟨a3,by have:=Ht.out;simp[intOf];omega⟩
    .have a7:¬ (s:Int)<n:=by omega
     go_wp2;go_end0;exact⟨rfl,M,Hc.short (by omega),Hm.out⟩
theorem pc {L:List Vj}(hr:cB B g c w L)(hn:L.length=n)(hv:Db B w L)(h0:ge w0 w)(a0:w0.heap.size<=B)(hB:B<=w.heap.size)(hlen:n<=1000)(hT:dh w0)(hG:cG w0 aU aE) :
  Calls prog 27 #[.slice (some (nl g)) n c,.func (.func 28) #[] #[]] w fun e w'=>e =.returned (.tuple #[])/\∃S,cD S/\mj B g c L S w w':=by
 have HI:=Qa (AA hr hn hv h0 a0 hB hlen hT hG);clear hr hv h0 a0 hB hT hG hn;go_in;go_wp2_with fail;refine Za HI ?_;rintro e w1 ⟨rfl,hS⟩;have Hr:=Qa hS;clear hS HI;go_wp2;go_end0;exact⟨rfl,Hr⟩
theorem F4 {L:List Vj}(hs:Sl w v (L.map Prod.fst))(hv:∀p∈L,OV P w p.1 p.2/\Ky p.2)(hl:0<L.length)(hlen:L.length<=1000)(hT:dh w)(hG:cG w aU aE):Calls prog 7 #[v] w fun e w'=> ∃ (g c:Nat) (S:List Vj),e =.returned (.slice (some (nl g)) L.length L.length)/\w.heap.size<=g/\ge w w'/\S.Perm L/\cD S/\cB w.heap.size g c w' S:=by
 have a4:Db w.heap.size w L:=fun p hp=>⟨by
  have h:=(hv p hp).1;obtain⟨pv,po⟩:=p
  cases po with
  |none=>exact h
  |some j=>exact VW.stay h fun g o _ hg _=>⟨ah hg,hg⟩,(hv p hp).2⟩
 have HC:=Qa (iy (w:=w) (v:=v) (n:=L.length) (us:=L.map Prod.fst) (by have:=hs.k;rwa[List.length_map] at this) (fun u hu=>by
  obtain⟨p,hp,rfl⟩:=List.mem_map.1 hu;exact(hv p hp).1.one) (by omega))
 have HS:=Qa (fun (w1:Wd) (g c:Nat) (hb:ge w w1) (ho:w1.ownsRow w.heap.size 35 1 (.slice (some (nl g)) L.length c) L.length (L.map Prod.fst))=>pc (w0:=w) ho rfl (a4.lowB hb) hb (Zb _) hb.size hlen hT hG);obtain⟨-,A0,c0,rfl,-⟩:=hs;rw[List.length_map] at HC ⊢;clear hv a4 hT hG;go_in;go_wp2_with fail;refine Za HC ?_;rintro e w1 ⟨A,c,rfl,hb,ho⟩;obtain⟨g,rfl⟩:=eb ho hl;obtain⟨_,_,he,a1,-,-⟩:=ai ho;obtain⟨-,-,he⟩:=Value.slice.inj he;subst he;have a6:=Qa (HS w1 g c hb ho);have Hb:=Qa hb;clear HC HS hb ho;go_wp2_with fail;refine Za a6 ?_;rintro e w2 ⟨rfl,S,a3,hp,a0,a2⟩;have hg:=a0.lt.1;have a5:=a2.below Hb.size fun k hk=>by subst hk;exact hg
 have Hr:=x8 hg (Hb.trans a5) hp a3 a0;clear a2 hp a3 a0 hg a5 a6;go_wp2_with fail;refine(B8 a1).mono ?_;rintro e w3 ⟨rfl,rfl⟩;go_wp2;go_ret;exact⟨g,c,S,rfl,Hr⟩
theorem MK {t:TypeId}(E:dH t e z 1 B){ops:Array Oper}{rest:List Oper}{o:Oper}{a:Act}{Q:Exit->Act->Wd->Prop}{s x:Operand}{ad:Addr}(a1:w.ownsRow base e 1 v n us)(hr:Sl w (.slice (some ad) m c) news)(a0:base<=w.heap.size)
  (h:∀v' w',w'.ownsRow base e 1 v' (n+m) (us++news)->w.grownBy w' v.ownBlock->(v'.ownBlock=v.ownBlock\/v'.ownBlock=some w.heap.size)->wpList prog ops Q rest (a.put o.dst v') w')
  (h1:∀x∈news,x.oneCell'=true) (hlen:n+m<=maxLen) (hby:(n+m)*B<=140737488355328)
  (ho:o.op =.call {callee:=.builtin .append,args:= #[s,x],argTypes:= #[t,t]}:=by exact rfl) (a2:o.guard=none:=by exact rfl) (hs:a.eval s=v:=by exact rfl) (hx:a.eval x =.slice (some ad) m c:=by exact rfl):wpList prog ops Q (o::rest) a w:=by
 obtain rfl:news.length=m:=by obtain⟨-,A,c',e,-⟩:=hr;exact(Value.slice.inj e).2.1.symm
 exact fi E a2 s x ho base v n ad c news.length us news hs a1 hx hr.k h1 hlen hby a0 h
theorem F2 {T S:List Vj}{y:Vj}{k:Nat}(h:T.length=k):(T++ ([y]++S))[k]?=some y:=by
 subst h;rw[List.getElem?_append_right (Zb _),Nat.sub_self];rfl
def LR (w:Wd)(L:List Vj):Prop:= ∀p∈L,OT w p.1 p.2
theorem LR.below {L:List Vj}(h:LR w L)(hb:ge w w'):LR w' L:=fun p hp=>(h p hp).below hb
theorem OT.sl {o:Option JV}(h:OT w v o):∃A n c,v =.slice A n c:=by
 cases o with
 |none=>exact⟨none,0,0,h⟩
 |some j=>obtain⟨A,q,e,-⟩:=h.1.form;exact⟨_,_,_,e⟩
theorem OT.one {o:Option JV}(h:OT w v o):v.oneCell'=true:=by obtain⟨A,n,c,rfl⟩:=h.sl;rfl
theorem Fx {wq:Wd}{S S1 S2:List Vj}(he:S=S1++S2)(hl:S.length=i)(h:Sl wq (.slice A i c) (S.map Prod.fst))(ho:w.ownsRow base e 1 (.slice A i c) i (S.map Prod.fst)) :
  Sl wq (.slice A S1.length c) (S1.map Prod.fst)/\∃A2 c2,Sl wq (.slice A2 S2.length c2) (S2.map Prod.fst)/\((A=none/\c=0/\i=0/\S1.length=0/\A2=none/\c2=0)\/∃g,A=some (nl g)/\i<=c/\A2=some (no g S1.length)/\c2=c - S1.length):=by
 obtain⟨h1,A',c',e1,h2,h3⟩:=h;obtain⟨rfl,-,rfl⟩:=Value.slice.inj e1;have a1:S1.length+S2.length=i:=by rw[<-hl,he,List.length_append]
 rw[List.length_map] at h1 h2 h3;rcases ho.2 with ⟨e2,h0⟩|⟨g,cap,cur,e2,-,-,h4,-⟩
 .obtain⟨rfl,-,rfl⟩:=Value.slice.inj e2;have z1:S1 = []:=List.eq_nil_of_length_eq_zero (by omega);have z2:S2 = []:=List.eq_nil_of_length_eq_zero (by omega);subst z1 z2;exact⟨⟨by simp,none,0,rfl,by simp,fun h=>by simp at h⟩,none,0,⟨by simp,none,0,rfl,by simp,fun h=>by simp at h⟩,.inl ⟨rfl,rfl,h0,rfl,rfl,rfl⟩⟩
 .obtain⟨rfl,-,rfl⟩:=Value.slice.inj e2;have a0:∀ (j:Nat) (u:Value),(S.map Prod.fst)[j]?=some u->wq.cell? (no g j)=some u:=fun j u hu=>by
   have hj:=(List.getElem?_eq_some_iff.1 hu).1;obtain⟨g',o',e',hc⟩:=h3 (by rw[List.length_map] at hj;omega);injection e' with e'
   injection e' with e1 e2
   subst e1 e2;have:=hc j u hu
   rwa[Nat.zero_add] at this
  subst he;refine⟨⟨by rw[List.length_map];omega,_,_,by rw[List.length_map],by rw[List.length_map];omega,fun _=>⟨g,0,rfl,fun j u hu=>?_⟩⟩,some (no g S1.length),c - S1.length,⟨by rw[List.length_map];omega,_,_,by rw[List.length_map],by rw[List.length_map];omega,fun _=>⟨g,S1.length,rfl,fun j u hu=>?_⟩⟩,.inr ⟨g,rfl,h4,rfl,rfl⟩⟩
  .rw[Nat.zero_add];exact a0 j u (by rw[List.map_append,List.getElem?_append_left (List.getElem?_eq_some_iff.1 hu).1];exact hu)
  .exact a0 _ u (by rw[List.map_append,List.getElem?_append_right (by rw[List.length_map];omega),List.length_map,Nat.add_sub_cancel_left];exact hu)
def MA (L:List Vj)(w:Wd)(s3 s4:Value)(wr:Wd):Prop:= ∃ (i:Nat) (S:List Vj),s4 =(i:Int)/\i<=L.length/\S.Perm (L.take i)/\cD S/\(∃A c,s3 =.slice A i c/\wr.ownsRow w.heap.size 27 1 (.slice A i c) i (S.map Prod.fst))/\ge w wr
def MI (S:List Vj)(x:Vj)(w:Wd)(s5:Value)(wr:Wd):Prop:= ∃S1 S2:List Vj,S=S1++S2/\s5 =((S1.length:Nat):Int)/\(∀y∈S2,bF x.2 y.2<=0)/\ge w wr
def MB (S:List Vj)(x:Vj)(w:Wd)(s5:Value)(wr:Wd):Prop:= ∃S1 S2:List Vj,S=S1++S2/\s5 =((S1.length:Nat):Int)/\(∀y∈S2,bF x.2 y.2<=0)/\(∀y,S1.getLast?=some y->bF y.2 x.2<=0)/\ge w wr
def LJ (L:List Vj)(w:Wd)(e:Ending)(w':Wd):Prop:= ∃ (u:Value) (S:List Vj),e =.returned u/\ge w w'/\S.Perm L/\cD S/\Sl w' u (S.map Prod.fst)
theorem vQ {L:List Vj}(hs:Sl w v (L.map Prod.fst))(ht:LR w L)(hn:L.length<=1000):Calls prog 8 #[v] w (LJ L w):=by
 have Hs:=Qa hs;have Ht:=Qa ht;obtain⟨-,A0,c0,rfl,-,hA⟩:=hs;rw[List.length_map] at hA ⊢;have HA:=Qa hA;obtain⟨n,c5⟩:=y7 L.length;have Hn:=Qa c5;rw[c5] at hn ⊢;clear hA ht c5;go_in;go_wp2_with fail
 go_loopw [3,4,5,6] (fun s3 s4 _ _ wr=>MA L w s3 s4 wr) (fun _ s4 _ _ _=>n - (intOf s4).toNat)
 case atStart=>exact⟨0, [],rfl,Zk _,by simp,List.Pairwise.nil,⟨none,0,rfl,rfl,.inl ⟨rfl,rfl⟩⟩,Ze _ _⟩
 case round=>
  obtain⟨i,S,rfl,hi,hp,c9,⟨A,c,rfl,ho⟩,hb⟩:=hrel;have Hp:=NA hp c9;have Ho:=Qa ho;have Hb:=Qa hb;have e1:S.length=i:=by rw[hp.length_eq,List.length_take];omega
  have HSl:=Qa e1;have e4:i<=n:=by have:=Hn.out;omega
  clear hp c9 ho hb e1 hi
  by_cases hin:i<n
  .have b9:(i:Int)<n:=by omega
   obtain⟨x,hx⟩:=y8 L i (by have:=Hn.out;omega);obtain⟨g0,o0,rfl,d6⟩:=HA (by have:=Hn.out;omega);have cx:=Zg Hb.out (d6 i x.1 (by rw[List.getElem?_map,hx];rfl));have Hx:=Qa hx;have c1:=Qa cx;clear hx d6 cx;obtain⟨wo,rfl⟩:∃wo:Wd,wo=wr:=⟨_,rfl⟩;go_upto_block 2 with fail
   go_cut [5] (fun s5 wx=>MB S x wo s5 wx)
   case first=>
    go_wp2_with fail
    go_loopw [5] (fun s5 wq=>MI S x wo s5 wq) (fun u _=>(intOf u).toNat)
    case atStart=>exact⟨S, [],by simp,by rw[HSl.out],by simp,Ze _ _⟩
    case round=>
     obtain⟨S1,S2,he,rfl,h2,a5⟩:=hrel;have He:=NA he h2;have Hbw:=Qa a5;have cx:=Zg a5 c1.out;clear he h2 a5;rcases List.eq_nil_or_concat S1 with rfl|⟨T,y,d5⟩
     .have hja:((([]:List Vj).length:Nat):Int)=0:=rfl;rw[hja];clear hja cx;go_wp2_with fail;refine aI (fun _=>True) (trivial) fun a0=>?_
      refine bw 0 1 2 a0 ?_;refine uH 3 a0 ?_;refine uH 4 a0 ?_;refine uH 5 a0 ?_
      try simp only[Act.put,jP,jQ,jR]
      refine uH 6 a0 ?_;refine uH 7 a0 ?_;refine uH 8 a0 ?_;refine uH 9 a0 ?_;refine uH 10 a0 ?_;refine uH 11 a0 ?_
      try simp only[Act.put,jP,jQ,jR]
      refine rH 12 fun K hK=>?_
      go_simp;refine hK _ _ (trivial) (fun a0=>?_);clear hK K
      try simp only[Act.put,jP,jQ,jR]
      refine uH 13 a0 ?_;refine tH 14 a0 ?_;refine y5 ?_;go_wp2_with fail;go_meet
      case rel=>exact⟨[],S2,He.1,rfl,He.2,fun y e=>by simp at e,Hbw.drew⟩
     .rw[List.concat_eq_append] at d5;subst d5;obtain⟨k,hk⟩:=y7 T.length;have d4:(((T ++ [y]).length:Nat):Int)= (k:Int)+1:=by rw[List.length_append,List.length_singleton,hk];rfl
      rw[d4];have b6:S[k]?=some y:=by rw[He.out.1,List.append_assoc];exact F2 hk
      have hki:k<i:=by have:=(List.getElem?_eq_some_iff.1 b6).1;have:=HSl.out;omega
      obtain⟨g,rfl⟩:=eb Ho.out (by omega);have cy:=aB Ho.out rfl k (by omega);rw[List.getElem?_map,b6] at cy;simp only[Option.map_some] at cy;have cy:=Zg Hbw.out cy;have c8:y∈L:=List.mem_of_mem_take (Hp.1.mem_iff.1 (Zl b6));have d0:x∈L:=Zl Hx.out;have HC:=Qa (fun (w1:Wd) (a6:ge wr w1)=>qA ((Ht.below (Hb.trans ((Hbw.trans (a6.mono Hbw.size)).mono Hb.size))) y c8) ((Ht.below (Hb.trans ((Hbw.trans (a6.mono Hbw.size)).mono Hb.size))) x d0));have a1:=gc y.2 x.2;have Hk:=Qa hk;obtain⟨xv,xo⟩:=x;obtain⟨yv,yo⟩:=y;simp only at cx cy HC a1;obtain⟨z,hz⟩:=y7 (bF yo xo);rw[hz] at HC a1;have Hz:=Qa hz;have b2:=Qa a1;have f7:=NC ((k:Int)+1 - 1) (k:Int)
      have f8:IntKind.i64.wrap (k:Int)=k:=IntWalk.i64_in _ (by omega);have f5:(0:Int)< (k:Int)+1:=by omega
      have f3:(k:Int)<i:=by omega
      clear b6 hk d4 a1 c8 d0 hz;go_wp2_with fail;refine aI (fun w'=>w'.cell? (no g k)=some yv/\w'.cell? ⟨g0,o0+i,none⟩=some xv) (⟨cy,cx⟩) fun a0=>?_
      refine bw 0 1 2 a0 ?_;refine bw 3 4 5 a0 ?_;refine bw 6 7 8 a0 ?_;refine bw 9 10 11 a0 ?_;refine rH 12 fun K hK=>?_
      go_simp;refine(HC _ (Ze _ _).drew).mono ?_;rintro e wz ⟨rfl,hz⟩;have e7:=Qa ((Ze _ _).drew.trans hz);refine hK _ _ (⟨Zg hz a0.1,Zg hz a0.2⟩) (fun a0=>?_);clear hK K
      try simp only[Act.put,jP,jQ,jR]
      refine tH 13 a0 ?_;refine tH 14 a0 ?_;refine y5 ?_;have d2:ge wr wz:=e7.out;have a3:=Qa (Hbw.trans (d2.mono Hbw.size));clear d2 a0
      by_cases hpos:0<z
      .go_wp2_with fail;refine⟨⟨T,(yv,yo)::S2,by rw[He.out.1,List.append_assoc];rfl,by rw[Hk.out],fun u hu=>?_,a3.out⟩,by simp[intOf]⟩;rcases List.mem_cons.1 hu with rfl|hu
       .show bF xo yo<=0
        rw[b2.out];omega
       .exact He.2 u hu
      .go_wp2_with fail;go_meet
       case rel=>exact⟨T ++ [(yv,yo)],S2,He.1,by rw[List.length_append,List.length_singleton,Hk.out];simp,He.2,fun u e=>by
        rw[List.getLast?_append] at e;simp at e;subst e
        show bF yo xo<=0
        rw[Hz.out];omega,a3.out⟩
   case rest=>
    obtain⟨S1,S2,he,rfl,h2,h1,a5⟩:=hcut;obtain⟨wq,rfl⟩:∃wq:Wd,wq=wc:=⟨_,rfl⟩;have d9:=Qa (show Sl wq (.slice A S1.length c) (S1.map Prod.fst)/\∃A2 c2,Sl wq (.slice A2 S2.length c2) (S2.map Prod.fst)/\((A=none/\c=0/\i=0/\S1.length=0/\A2=none/\c2=0)\/∃g,A=some (nl g)/\i<=c/\A2=some (no g S1.length)/\c2=c - S1.length) from by
     have f2:=Sl.of_own (aq Ho a5 (Zb _));exact Fx he HSl.out f2 Ho.out)
    have Hq:=Qa (Hb.trans (a5.mono Hb.size));have a9:=Qa (Zg a5 c1.out);have a4:=Qa (show(S1++x::S2).Perm (L.take (i+1))/\cD (S1++x::S2) from⟨by
     rw[List.take_add_one,Hx.out];exact(List.perm_middle.trans (List.Perm.cons x (he▸Hp.1))).trans (List.perm_append_singleton _ _).symm,(he▸Hp.2:cD (S1++S2)).ins h1 h2⟩)
    have H1:=Qa (show(∀u∈S1.map Prod.fst,u.oneCell'=true)/\(∀u∈S2.map Prod.fst,u.oneCell'=true)/\x.1.oneCell'=true from by
     have hm:∀p∈S,p.1.oneCell'=true:=fun p hp=>(Ht p (List.mem_of_mem_take (Hp.1.mem_iff.1 hp))).one
     refine⟨fun u hu=>?_,fun u hu=>?_,(Ht x (Zl Hx)).one⟩
     .obtain⟨p,hp,rfl⟩:=List.mem_map.1 hu;exact hm p (by rw[he];simp[hp])
     .obtain⟨p,hp,rfl⟩:=List.mem_map.1 hu;exact hm p (by rw[he];simp[hp]))
    have f0:S1.length+S2.length=i:=by have:=HSl.out;rw[he,List.length_append] at this;exact this
    obtain⟨Ax,nx,qx,c6⟩:=(Ht x (Zl Hx)).sl;rw[c6] at a9 H1;have c4:=Qa (show(S1.map Prod.fst).length=S1.length/\(S2.map Prod.fst).length=S2.length from⟨List.length_map _,List.length_map _⟩);have a7:=Qa (show(S1++x::S2).map Prod.fst = []++S1.map Prod.fst ++ [x.1]++S2.map Prod.fst by simp);rw[c6] at a7;obtain⟨m,hm⟩:=y7 (i+1);have e5:(i:Int)+1=m:=by omega
    obtain⟨cur,b3,d1⟩:=kV ej m (by unfold maxLen;omega) (by omega);have a2:=aa wq (.cells cur 27);have HM:=NA a2 (dA (base:=wq.heap.size) (Zf wq (.cells cur 27)) (Zb _) (show m<=maxLen by unfold maxLen;omega) b3);obtain⟨e0,A2,c2,d3,b0⟩:=d9.out;have c3:=Qa (e0.below a2);have b7:=Qa d3;have Hm:=Qa hm;clear he h1 h2 a5 e0 d3 d9 a2 b3 hm c6 Hx Hp Hb c1 Ho;generalize S1.map Prod.fst=us1 at *;generalize S2.map Prod.fst=us2 at *;generalize hk:S1.length=k at *;generalize hr:S2.length=r at *;have hki:(k:Int)<=i:=by omega
    have f9:(i:Int) - k=r:=by omega
    have g1:i - k=r:=by omega
    rcases b0 with ⟨rfl,rfl,rfl,rfl,rfl,rfl⟩|⟨g,rfl,f6,rfl,rfl⟩
    .obtain rfl:m=1:=by have:=Hm.out;omega
     obtain rfl:r=0:=by omega
     replace d1:∀W:Wd,(Instr.makeSlice 24 (0:Int) (1:Int)).run prog W =.ok (.slice (some (nl W.heap.size)) 0 1) (W.alloc (.cells cur 27)):=d1;obtain rfl:us1 = []:=List.eq_nil_of_length_eq_zero c4.1;obtain rfl:us2 = []:=List.eq_nil_of_length_eq_zero (by rw[c4.out.2]);have cx:=Zg HM.1 a9.out;rw[Nat.add_zero] at cx;have a2:=aa (wq.alloc (.cells cur 27)) (.cells #[.slice Ax nx qx] 27);have a3:=Qa (HM.1.trans (a2.mono HM.1.size));have P3:=Qa (aq HM.2 a2 (Zb _));have hcn:=au (wq.alloc (.cells cur 27)) [.slice Ax nx qx] 27;rw[World.size_alloc] at hcn;have f1:=Qa hcn;clear e5 a2 HM c3 b7 hcn;go_upto_region 10 with fail
     go_upto_region 11 with (at_builtin;refine ir ej P3.out f1.out a3.size ?_;intro v2 w2 p1 p2 p3;have P1:=Qa p1;have P2:=Qa p2;clear p1 p2 p3)
     have b1:=aD a3.out P3.out a3.size P2.out;obtain⟨A2,q2,rfl,e2,-⟩:=ai P1.out;have g3:1<=q2:=by omega
     obtain⟨g2,rfl⟩:=eb P1.out (by omega);go_wp2_with fail;refine⟨⟨1,S1++x::S2,rfl,by have:=Hn.out;omega,a4.1,a4.2,⟨_,q2,rfl,?_⟩,Hq.trans (b1.mono Hq.size)⟩,by simp[intOf];omega⟩;rw[a7.out];exact bT P1.out Hq.size
    .have b5:∃ad q,Sl wq (.slice (some ad) r q) us2/\((k=c/\ad= ⟨g,0,none⟩/\q=0)\/(k<c/\ad= ⟨g,k,none⟩/\q=c - k)):=by
      by_cases b8:k=c
      .obtain rfl:us2 = []:=List.eq_nil_of_length_eq_zero (by rw[c4.out.2];omega);exact⟨_,_,by rw[show r=0 by omega];exact⟨by simp,some (nl g),0,rfl,Zb _,fun h=>by simp at h⟩,.inl ⟨b8,rfl,rfl⟩⟩
      .exact⟨_,_,b7,.inr ⟨by omega,rfl,rfl⟩⟩
     obtain⟨ad,q,b5,b4⟩:=b5;have b7:=Qa b5;clear b5;have b8:¬k=c->¬c=k/\¬c - k=0:=fun h=>⟨by omega,by omega⟩
     rcases b4 with ⟨rfl,rfl,rfl⟩|⟨hkc0,rfl,rfl⟩
     rotate_left
     focus
      obtain⟨f4,e6⟩:=b8 (by omega)
     all_goals
      clear b8;go_upto_region 10 with (at_builtin;refine MK ej HM.2 c3.out HM.1.size ?_ H1.1 (by unfold maxLen;omega) (by omega);intro v1 w1 p1 p2 p3;have P1:=Qa p1;have P2:=Qa p2;clear p1 p2 p3)
      have a6:=aD HM.1 HM.2 HM.1.size P2.out;have p1:=P1.out;rw[Nat.zero_add,List.nil_append] at p1;obtain⟨A1,q1,rfl,-⟩:=ai p1;have cx:=Zg a6 a9.out;have a2:=aa w1 (.cells #[.slice Ax nx qx] 27);have a3:=Qa (a6.trans (a2.mono a6.size));have P3:=Qa (aq p1 a2 (Zb _));clear p1 a6 a2 P1 P2;go_upto_region 11 with (at_builtin;refine ir ej P3.out (au w1 [.slice Ax nx qx] 27) a3.size ?_ (hlen:=(by unfold maxLen;omega)) (hby:=(by omega));intro v2 w2 p1 p2 p3;have P1:=Qa p1;have P2:=Qa p2;clear p1 p2 p3)
      have b1:=aD a3.out P3.out a3.size P2.out;obtain⟨A2,q2,rfl,-⟩:=ai P1.out;have c7:=Qa b1;have e8:=Qa (b7.below b1);clear b1 cx a3 P2 P3 c3 HM;go_wp2_with (at_builtin;refine MK ej P1.out e8.out c7.size ?_ H1.2.1 (by unfold maxLen;omega) (by omega);intro v3 w3 p1 p2 p3;have P4:=Qa p1;have P5:=Qa p2;clear p1 p2 p3);have p1:=P4.out;have e3:=aD c7.out P1.out c7.size P5.out;rw[show k+1+r=i+1 by omega] at p1;obtain⟨A3,q3,rfl,-⟩:=ai p1;refine⟨⟨i+1,S1++x::S2,by go_num,by have:=Hn.out;omega,a4.1,a4.2,⟨A3,q3,rfl,?_⟩,Hq.trans (e3.mono Hq.size)⟩,by simp[intOf];omega⟩;rw[a7.out,List.nil_append];exact bT p1 Hq.size
  .have b9:¬ (i:Int)<n:=by omega
   have d7:i=L.length:=by have:=Hn.out;omega
   have h1:=Hp.out;rw[d7,List.take_length] at h1;have H1:=Qa h1;clear h1 d7;go_wp2;go_ret;exact⟨_,S,rfl,Hb,H1.1,H1.2,Sl.of_own Ho⟩
def LN (o:Option JV):List Nd:=match o with
 |none=> []
 |some j=>j.flat 0
theorem OT.fl {o:Option JV}(h:OT w v o):cS w 0 v (LN o):=by
 cases o with
 |none=>rw[show v =.slice none 0 0 from h];exact cS.nil _ _
 |some j=>exact h.1
theorem OT.keeps {o:Option JV}(h:OT w v o)(hk:aK T w w')(h1:¬T 9)(h2:¬T 3)(h3:¬T 74):OT w' v o:=by
 cases o with
 |none=>exact h
 |some j=>exact⟨h.1.keeps hk h1 h2 h3,h.2⟩
theorem OT.low {o:Option JV}(h:OT w v o)(hb:Below B w w')(hB:w.heap.size<=B):OT w' v o:=by
 cases o with
 |none=>exact h
 |some j=>exact⟨h.1.below hb hB,h.2⟩
def Lt (o:Option JV):Prop:= ∀j,o=some j->Ok True (fun _=>True) j/\j.size<=70000
theorem OT.oks {o:Option JV}(h:OT w v o):Lt o:=fun j e=>by
 subst e;exact⟨Ok.imp (fun _ _=>trivial) h.2.1,Zc h.2.2 (by decide)⟩
def MF (o:Option JV)(w:Wd)(e:Ending)(w':Wd):Prop:= ∃A n q b,e =.returned (.tuple #[.slice A n q,.bool b])/\ge w w'/\cS w' 0 (.slice A n q) (LN o)
theorem sM {o:Option JV}(h:OV P w v o)(hk:Lt o):Calls prog 9 #[v] w (MF o w):=by
 cases o with
 |some j=>exact(tW h (hk j rfl).1 (hk j rfl).2).mono fun e w' ⟨A,n,q,he,hb,hf⟩=>⟨A,n,q,true,he,hb,hf.flat⟩
 |none=>
  rw[show v =.nilIface from h];have H:Hid (Calls prog 31 #[.nilIface,(70000:Int)] w fun e w'=>e =.returned (.tuple #[(),false])/\w=w'):=Qa (by
   go_in;go_wp2_with fail;go_ret2;exact⟨rfl,rfl⟩)
  go_in;go_wp2_with fail;refine Za H ?_;rintro e w1 ⟨rfl,rfl⟩;go_wp2_with fail;go_ret2;exact⟨none,0,0,false,rfl,Ze _ _,cS.nil _ _⟩
theorem pZ {o:Option JV}(h1:cS w 0 u (LN o))(h2:cS w 0 v (LN o)):Calls prog 10 #[u,v] w (xP w true):=by
 have:=sK h1 h2
 rwa[decide_eq_true rfl] at this
theorem FA {S T VL TL:List Vj}(hs:cD S)(ht:cD T)(hp:S.Perm VL)(hq:T.Perm TL)(he:TL.map Prod.snd=VL.map Prod.snd)(hv:∀p∈VL,Ky p.2):S.map Prod.snd=T.map Prod.snd:=by
 have hm:∀o∈VL.map Prod.snd,Ky o:=fun o ho=>by obtain⟨p,hp,rfl⟩:=List.mem_map.1 ho;exact hv p hp
 have a1:=hp.map Prod.snd;have a0:=hq.map Prod.snd;rw[he] at a0;refine List.Perm.eq_of_pairwise (le:=fun a b=>bF a b<=0) (fun a b ha hb h1 h2=>?_) (List.pairwise_map.2 hs) (List.pairwise_map.2 ht) (a1.trans a0.symm);have:=gc a b;exact(BG (fun u e=>(hm a (a1.mem_iff.1 ha) u e).2) (fun u e=>(hm b (a0.mem_iff.1 hb) u e).2)).1 (by omega)
theorem AH {a b:Nat}{xs:Nb}{o:Option JV}(ho:w.ownsRow base 35 1 (.slice A m a) n xs)(hg:w.grownBy w' (Value.slice A m a).ownBlock)(hc:(Value.slice A' b c).ownBlock= (Value.slice A m a).ownBlock\/(Value.slice A' b c).ownBlock=some w.heap.size)(h:OV (fun g=>(Value.slice A 0 0).ownBlock≠some g) w u o):OV (fun g=>(Value.slice A' 0 0).ownBlock≠some g) w' u o:=by
 have e1:(Value.slice A 0 0).ownBlock= (Value.slice A m a).ownBlock:=by cases A <;> rfl
 have e2:(Value.slice A' 0 0).ownBlock= (Value.slice A' b c).ownBlock:=by cases A' <;> rfl
 cases o with
 |none=>exact h
 |some j=>
  refine VW.stay h fun g o hp a0 _=>⟨fun e=>?_,(hg.block g (ah a0) (fun e=>hp (e1.trans e.symm))).trans a0⟩
  rw[e2] at e;rcases hc with hc|hc
  .rw[hc,<-e1] at e;exact hp e
  .rw[hc] at e;injection e with e;have:=ah a0;omega
theorem OV.keeps {o:Option JV}(h:OV P w v o)(hk:aK T w w')(hT:∀e,TV e->¬T e):OV P w' v o:=by
 cases o with
 |none=>exact h
 |some j=>exact VW.keeps h hk hT
def Lv (_:Nat):Prop:=True
theorem OV.imp {o:Option JV}(h:OV P w v o)(hq:∀g,P g->g<w.heap.size->Q g):OV Q w v o:=by
 cases o with
 |none=>exact h
 |some j=>exact VW.imp h hq
theorem vZ:Calls prog 90 #[.slice A 0 c,(0:Int),(0:Int),.func (.func 28) #[] #[]] w fun e w'=>e =.returned (.tuple #[])/\w=w':=by
 go_in;go_wp2_with fail
 go_loopw [8,9] (fun s8 _ wr=>s8 =(1:Int)/\w=wr) (fun _ _ _=>0)
 case atStart=>exact⟨rfl,rfl⟩
 case round=>
  obtain⟨rfl,rfl⟩:=hrel;go_wp2;go_end0;exact⟨rfl,rfl⟩
theorem wm:Calls prog 51 #[.slice A 0 c,(0:Int),.func (.func 28) #[] #[]] w fun e w'=>e =.returned (.tuple #[])/\w=w':=by
 go_in;go_wp2_with fail
 go_loopw [7,8] (fun s7 s8 wr=>s7 =(0:Int)/\s8 =(20:Int)/\w=wr) (fun _ _ _=>0)
 case atStart=>exact⟨rfl,rfl,rfl⟩
 case round=>
  obtain⟨rfl,rfl,rfl⟩:=hrel;go_wp2_with fail;refine vZ.mono ?_;rintro e w1 ⟨rfl,rfl⟩;go_wp2_with fail
  go_loopw [6,7,8,9] (fun s6 _ _ _ wr=>s6 =(20:Int)/\w=wr) (fun _ _ _ _ _=>0)
  case atStart=>exact⟨rfl,rfl⟩
  case round=>
   obtain⟨rfl,rfl⟩:=hrel;go_wp2;go_end0;exact⟨rfl,rfl⟩
theorem Cu (hs:Sl w v []):Calls prog 7 #[v] w fun e w'=> ∃A c,e =.returned (.slice A 0 c)/\ge w w':=by
 have HC:=Qa (iy (w:=w) (v:=v) (n:=0) (us:= []) hs.k (fun u hu=>by cases hu) (by omega));have HS:Hid (∀ (w1:Wd) (A:OA) (c:Nat),Calls prog 27 #[.slice A 0 c,.func (.func 28) #[] #[]] w1 fun e w'=>e =.returned (.tuple #[])/\w1=w'):=Qa fun w1 A c=>by
  go_in;go_wp2_with fail;refine wm.mono ?_;rintro e w1 ⟨rfl,rfl⟩;go_wp2;go_end0;exact⟨rfl,rfl⟩
 have HK:Hid (∀ (w1:Wd) (A:OA) (c:Nat),Calls prog 29 #[.slice A 0 c] w1 fun e w'=>e =.returned (.slice A 0 0)/\w1=w'):=Qa fun w1 A c=>by
  have h1:(0:Int)<=c:=by omega
  go_in;go_wp2;go_ret;exact⟨rfl,rfl⟩
 obtain⟨-,A0,c0,rfl,-⟩:=hs;rw[List.length_nil] at HC ⊢;go_in;go_wp2_with fail;refine Za HC ?_;rintro e w1 ⟨A,c,rfl,hb,ho⟩;have Hb:=Qa hb;clear hb ho HC;go_wp2_with fail;refine(HS _ _ _).mono ?_;rintro e w2 ⟨rfl,rfl⟩;go_wp2_with fail;refine(HK _ _ _).mono ?_;rintro e w3 ⟨rfl,rfl⟩;go_wp2;go_ret;exact⟨A,0,rfl,Hb⟩
def I3 (L:List Vj)(w:Wd)(e:Ending)(w':Wd):Prop:= ∃ (A:OA) (c:Nat) (S:List Vj),e =.returned (.slice A L.length c)/\ge w w'/\S.Perm L/\cD S/\(0<L.length->∃g c',A=some (nl g)/\cB w.heap.size g c' w' S)
theorem ES {L:List Vj}(hs:Sl w v (L.map Prod.fst))(hv:∀p∈L,OV P w p.1 p.2/\Ky p.2)(hlen:L.length<=1000)(hT:dh w)(hG:cG w aU aE):Calls prog 7 #[v] w (I3 L w):=by
 rcases Nat.eq_zero_or_pos L.length with h0|h0
 .obtain rfl:=List.eq_nil_of_length_eq_zero h0;exact(Cu hs).mono fun e w' ⟨A,c,he,hb⟩=>⟨A,c, [],he,hb,List.Perm.refl _,List.Pairwise.nil,fun h=>by simp at h⟩
 .exact(F4 hs hv h0 hlen hT hG).mono fun e w' ⟨g,c,S,he,_,hb,hp,a0,hr⟩=>⟨_,_,S,he,hb,hp,a0,fun _=>⟨g,c,rfl,hr⟩⟩
def Kt (w:Wd)(A:OA)(L:List Vj):Prop:= ∀ (i:Nat) p,L[i]?=some p->∃g o,A=some (no g o)/\w.cell? ⟨g,o+i,none⟩=some p.1/\OV Lv w p.1 p.2/\Lt p.2
def IZ (w:Wd)(A:OA)(L:List Vj):Prop:= ∀ (i:Nat) p,L[i]?=some p->∃g o,A=some (no g o)/\w.cell? ⟨g,o+i,none⟩=some p.1/\OT w p.1 p.2
theorem Kt.below {L:List Vj}(h:Kt w A L)(hb:ge w w'):Kt w' A L:=fun i p hp=>by
 obtain⟨g,o,e,h1,h2,h3⟩:=h i p hp;exact⟨g,o,e,Zg hb h1,h2.later hb,h3⟩
theorem IZ.below {L:List Vj}(h:IZ w A L)(hb:ge w w'):IZ w' A L:=fun i p hp=>by
 obtain⟨g,o,e,h1,h2⟩:=h i p hp;exact⟨g,o,e,Zg hb h1,h2.below hb⟩
theorem Kt.of {L:List Vj}(h:Sl w (.slice A n c) (L.map Prod.fst))(hv:∀p∈L,OV Lv w p.1 p.2/\Lt p.2):Kt w A L:=fun i p hp=>by
 obtain⟨-,A',c',e,-,hc⟩:=h;obtain⟨rfl,-,-⟩:=Value.slice.inj e;obtain⟨g,o,e,a0⟩:=hc (by rw[List.length_map];have:=(List.getElem?_eq_some_iff.1 hp).1;omega);exact⟨g,o,e,a0 i p.1 (by rw[List.getElem?_map,hp];rfl),hv p (Zl hp)⟩
theorem IZ.of {L:List Vj}(h:Sl w (.slice A n c) (L.map Prod.fst))(hv:∀p∈L,OT w p.1 p.2):IZ w A L:=fun i p hp=>by
 obtain⟨-,A',c',e,-,hc⟩:=h;obtain⟨rfl,-,-⟩:=Value.slice.inj e;obtain⟨g,o,e,a0⟩:=hc (by rw[List.length_map];have:=(List.getElem?_eq_some_iff.1 hp).1;omega);exact⟨g,o,e,a0 i p.1 (by rw[List.getElem?_map,hp];rfl),hv p (Zl hp)⟩
