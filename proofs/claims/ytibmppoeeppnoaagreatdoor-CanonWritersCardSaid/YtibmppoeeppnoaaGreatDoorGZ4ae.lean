import Derived.Test.YtibmppoeeppnoaaGreatDoorGZ4ad
set_option linter.unusedVariables false
set_option linter.unusedSimpArgs false
set_option maxHeartbeats 64000000
set_option maxRecDepth 100000
namespace Go.Proofs.YtibmppoeeppnoaaGreatDoor
open Go.RowKit
variable {c0:Int}{names:List ByteArray}{ts:List JV}{b:Nat}{u v vk vl vn x1 x2 x3:Value}{W W' w w' w0:World}
def lL:Dc:=⟨false,es,0⟩
def fP (W:World)(b:Nat)(x:Nd)(vn vk:Value):Prop:=W.heap[b]?=some (.cells (aR x vn vk).toArray 69 (0,0))
theorem fP.cell {x:Nd}(h:fP W b x vn vk)(j:Nat)(u:Value)(hu:(aR x vn vk)[j]?=some u):W.cell? ⟨b,j,none⟩=some u:=by
 unfold fP at h;unfold World.cell?;simp only[h];simpa using hu
theorem fP.below {x:Nd}(h:fP W b x vn vk)(hb:Below W.heap.size W W'):fP W' b x vn vk:=(hb.block b (ae h)).trans h
def nV (b:Nat)(x:Nd)(vn:Value)(w:World):Prop:=
 w.cell? ⟨b,0,none⟩=some (.int .i64 x.kind)/\w.cell? ⟨b,1,none⟩=some (.bool x.tr)/\w.cell? ⟨b,2,none⟩=some (.string x.text)/\w.cell? ⟨b,3,none⟩=some (.bool x.num.neg)/\w.cell? ⟨b,4,none⟩=some (.string x.num.digits)/\w.cell? ⟨b,5,none⟩=some (.int .i64 x.num.exp)/\w.cell? ⟨b,6,none⟩=some vn
theorem nV.of_box {x:Nd}(h:fP W b x vn vk):nV b x vn W:=
 ⟨h.cell 0 _ rfl,h.cell 1 _ rfl,h.cell 2 _ rfl,h.cell 3 _ rfl,h.cell 4 _ rfl,h.cell 5 _ rfl,h.cell 6 _ rfl⟩
theorem nV.grown {x:Nd}{row:Option Nat}(h:nV b x vn W)(hg:W.grownBy W' row)(hr:some b≠row):nV b x vn W':=
 ⟨hg.cell h.1 hr,hg.cell h.2.1 hr,hg.cell h.2.2.1 hr,hg.cell h.2.2.2.1 hr,hg.cell h.2.2.2.2.1 hr,hg.cell h.2.2.2.2.2.1 hr,hg.cell h.2.2.2.2.2.2 hr⟩
def Dq (w:World)(k:Int)(names:List ByteArray)(ts:List JV)(s7 s8:Value)(wr:World):Prop:=
 ∃i:Nat,i<=ts.length/\s8 =.int .i64 i/\Below w.heap.size w wr/\ft wr w.heap.size s7 ⟨k,false,es,lL,names,aP 1 (ts.take i)⟩ (JV.flats 1 (ts.take i))
def F6 (w:World)(x:Nd)(rest more:List Nd)(s7 s10:Value)(wr:World):Prop:=
 ∃j:Nat,j<=more.length/\s10 =.int .i64 j/\Below w.heap.size w wr/\ft wr w.heap.size s7 x (rest++more.take j)
def Fy (w4:World)(kids:List Nat)(at_:Nat)(s12 s13:Value)(wr:World):Prop:=
 ∃q:Nat,q<=kids.length/\s13 =.int .i64 q/\Below w4.heap.size w4 wr/\bQ wr w4.heap.size s12 ((kids.take q).map (· + at_))
def Cj (w:World)(ns:List Nd)(e:Ending)(w':World):Prop:= ∃v,e =.returned v/\Below w.heap.size w w'/\bF (w.heap.size<= ·) w' w.heap.size v ns
theorem uA {k:Int}(hn:Sl w vn (names.map dL))(hl:ii w vl (ts.map (JV.flat 0)))(hnl:names.length<=1000000)(m1:JV.sizes ts<=1000000)
  (hkl:∀t∈ts,∀x∈t.flat 0,x.names.length<=1000000/\∀q∈x.kids,q<=1000000) :
  Calls Tryz.prog 183 #[.int .i64 k,vn,vl] w fun e w'=>Cj w (JV.flat 0 (.mk k false es lL names ts)) e w':=by
 obtain⟨vs,⟨hm,A,cap,rfl,f9,hA⟩,e6⟩:=id hl;have e4:vs.length=ts.length:=by have:=e6.1;simpa using this
 rw[e4] at hm f9 hA ⊢;have HA:=Qa hA;have l1:=Qa e6;have n5:=Qa e4;have Hn:=Qa hn;have h6:=Qa hkl;clear hn hl hA e6 e4 hkl;have n0:ts.length<=1000000:=Zb (bP ts) m1;go_enter Tryz.func183,Tryz.ntmps183;go_wp2_with fail;refine(lj Hn.out hnl).mono ?_;rintro e w1 ⟨vt,rfl,j3,g1⟩;have g0:=Qa j3;have g8:=Qa g1;obtain⟨At,ct,rfl,-,-,-⟩:=ag g1;clear j3 g1;go_wp2_with fail
 go_loopw [7,8] (Dq w k names ts) (fun _ i _=>ts.length - (intOf i).toNat)
 case atStart=>
  refine⟨0,by omega,rfl,g0.out.alloc g0.out.size _,_,.slice none 0 0, [],?_,(g8.out.below (ac _ _) (Za _)).low (Zj _),bQ.nil _ _,br.nil _,fun u hu=>by simp at hu,fun u hu g e=>?_⟩
  rotate_left
  ·simp at hu;subst hu;exact(ak g8.out (by simpa [aR] using e)).1 |> Zb (Za _)
  have:=eE (n:=1) (k:=8) (Ze w1 (.cells (aR ⟨k,false,es,lL,names, []⟩ (.slice At names.length ct) (.slice none 0 0)).toArray 69)) g0.out.size (by unfold maxLen;omega) rfl;simp only[List.take_zero,JV.flats,aP,List.length_nil,List.flatten_nil,List.append_nil,Nat.add_zero];exact this
 case round=>
  obtain⟨i,hi,rfl,b6,hj⟩:=hrel
  by_cases hlt:i<ts.length
  ·obtain⟨gl,ol,rfl,d2⟩:=HA.out (by omega);obtain⟨t,ht⟩:∃t,ts[i]?=some t:=⟨_,Zc hlt⟩;obtain⟨vi,d6,f8⟩:=l1.out.get (i:=i) (b:=t.flat 0) (by rw[List.getElem?_map,ht];rfl);have cl:=Zf b6 (d2 i vi d6);have h9:=Qa (d2 i vi d6);have p1:gl<w.heap.size:=World.block_lt_of_cell? w _ (d2 i vi d6);obtain⟨Ai,ci,rfl,l4,m0,g4⟩:=f8.form;have i3:=Qa f8;have h8:=Qa g4;rw[JV.flat_len] at l4 m0 cl h9 i3 h8;obtain⟨vn0,vk0,us,h1,h2,h3,h4,h5,hN⟩:=hj;have HN:=Qa hN;clear hN;obtain⟨n,hn⟩:∃n,1+ (JV.flats 1 (ts.take i)).length=n:=⟨_,rfl⟩;rw[hn] at h1;have j0:n=1+JV.sizes (ts.take i):=by rw[<-hn,JV.flats_len]
   have p0:=f7 ht;have n8:n+t.size<=1000001:=by omega
   have j1:0<n:=by omega
   obtain⟨g7,c7,rfl,f3,n9,n2⟩:∃g cap,u7 =.slice (some ⟨g,0,none⟩) n cap/\w.heap.size<=g/\n<=cap/\n<=maxLen:=by
    rcases bT h1 with ⟨_,h0,_⟩|h
    ·omega
    ·exact h
   have ck:wr.cell? ⟨g7,7,none⟩=some vk0:=by rw[World.ownsRow.cellAt h1 7 (by omega)];rfl
   have fk:=World.ownsRow.frozenAt h1 7;have m4:g7<wr.heap.size:=World.block_lt_of_cell? wr _ ck;have H1:=Qa h1;have H2:=Qa h2;have H3:=Qa h3;have H4:=Qa h4;have H5:=Qa h5;have l2:=Qa j0;have i8:=Qa hn;have g6:=Qa b6;have Ht:=Qa ht;have i5:∀g,vk0.ownBlock=some g->g≠g7:=fun g e e'=>by
    subst e';obtain⟨_,cur,hh⟩:=ak h3 e;obtain⟨cs,z,b4⟩:=cD h1 g rfl;rw[hh] at b4;injection b4 with b4;injection b4 with _ b4 _;exact absurd b4 (by decide)
   have h7:=Qa i5;clear h1 h2 h3 h4 h5 j0 hn b6 ht f8 g4 d2 d6 i5 n2;have e3:w.heap.size<=wr.heap.size:=g6.out.size;have a3:(aP 1 (ts.take i)).length=i:=by rw[bj,List.length_take];omega
   have a4:=Qa a3;clear a3;go_wp2_with (at_builtin;refine lH jv (by have:=(H3.out.below (ac wr (.cells #[.int .i64 (n:Int)] 3)) (Za _));unfold bQ at this;rw[a4.out] at this;exact this) (ap wr [df n] 3) (by simp;omega) ?_ (h1:=(by simp[df,Value.oneCell']));intro vk1 w2 h1 h2 h3;obtain⟨Ak,ck',rfl,-,-,-⟩:=ag h1;have ck2:=h2.cell ((World.cell?_alloc_lt wr (.cells #[.int .i64 (n:Int)] 3) ⟨g7,7,none⟩ m4).trans ck) (fun e=>h7.out g7 e.symm rfl);have fk2:w2.frozen? ⟨g7,7,none⟩=false:=World.ownsRow.frozenAt (World.ownsRow.kept (ao H1.out (ac wr (.cells #[.int .i64 (n:Int)] 3)) (Za _)) h2 (.inr (fun e=>h7.out g7 e.symm rfl))) 7;have HK:=Qa h1;have HG:=Qa h2;have HO:=Qa h3;clear h1 h2 h3);have b5:Below wr.heap.size wr (wr.alloc (.cells #[.int .i64 (n:Int)] 3)):=ac _ _;have i9:=xB (m:=n) (ao H1.out b5 (Za _)) (H2.out.below b5 (Za _)) (H4.out.mono fun _ _ h=>h.below b5 (Za _)) H5.out HN.out i8.out.symm (by unfold bQ;rw[List.length_append,a4.out,List.map_append];exact HK.out) HG.out HO.out (cD (H3.out.below b5 (Za _)));have b7:Below w.heap.size w w2:=(g6.out.alloc e3 _).grown HG.out (by simp;omega) (fun g e=>(ak H3.out e).1);have k2:Below w.heap.size w (w2.setCell ⟨g7,7,none⟩ (.slice Ak (i+1) ck')):=b7.setCell f3 _;have HJ3:=Qa i9;have Hb3:=Qa k2;clear b5 i9 b7 k2 ck fk ck2;go_wp2_with fail;obtain⟨w3,g5⟩:∃w3,(w2.setCell ⟨g7,7,none⟩ (.slice Ak (i+1) ck'))=w3:=⟨_,rfl⟩;rw[g5] at HJ3 Hb3 ⊢;clear g5 fk2 HK HG HO;have Hx:=Qa (sy Ht.out 1);have k5:Hid (∀x∈t.flat 0,x.names.length<=1000000/\x.kids.length<=1000000/\∀q∈x.kids,q<=1000000):=Qa (fun x hx=>⟨(h6.out t (Zk Ht.out) x hx).1,Zb (yF hx) (by omega),(h6.out t (Zk Ht.out) x hx).2⟩)
   go_loopw [7,10] (F6 w ⟨k,false,es,lL,names,aP 1 (ts.take i) ++ [n]⟩ (JV.flats 1 (ts.take i)) ((t.flat 0).map (Nd.shift n))) (fun _ j _=>t.size - (intOf j).toNat)
   case atStart=>exact⟨0,by omega,rfl,Hb3.out,by rw[List.take_zero,List.append_nil];exact HJ3.out⟩
   case round=>
    obtain⟨j,hj,rfl,b3,d3⟩:=hrel;rw[List.length_map,JV.flat_len] at hj;have cl2:=Zf b3 h9.out
    by_cases hjt:j<t.size
    ·obtain⟨gi,rfl⟩:=h8.out (by omega);obtain⟨x,hx⟩:∃x,(t.flat 0)[j]?=some x:=⟨_,Zc (by rw[JV.flat_len];exact hjt)⟩;obtain⟨k6,n6,i0⟩:=k5.out x (Zk hx);obtain⟨vnx,vkx,e5,d7,a2⟩:=(i3.out.below b3 (Za _)).node hx;have c0:=a2 0 _ rfl;rw[Nat.add_zero] at c0;have c1:=a2 1 _ rfl;have c2:=a2 2 _ rfl;have c3:=a2 3 _ rfl;have c4:=a2 4 _ rfl;have c5:=a2 5 _ rfl;have c6:=a2 6 _ rfl;have c7:=a2 7 _ rfl;obtain⟨Anx,cnx,rfl,-,-,-⟩:=ag e5;obtain⟨Akx,ckx,rfl,l5,m2,b9⟩:=ag d7;have g9:=Qa e5;have i2:=Qa d7;have g2:=Qa b9;have l0:=Qa (show((t.flat 0).map (Nd.shift n)).take (j+1)= ((t.flat 0).map (Nd.shift n)).take j ++ [x.shift n] from bU (by rw[List.getElem?_map,hx];rfl));have m5:=Qa i0;have c9:=Qa b3;have f0:=Qa d3;have m9:(j:Int)<t.size:=by omega
     obtain⟨xk,xt,xx,⟨xn1,xn2,xn3⟩,xns,xks⟩:=x;clear e5 d7 a2 b9 i0 b3 d3 hx;go_wp2_with fail;have e2:fP (wr.alloc (.cells #[.int .i64 xk,.bool xt,.string xx,.bool xn1,.string xn2,.int .i64 xn3,.slice Anx xns.length cnx,.slice Akx xks.length ckx] 69)) wr.heap.size ⟨xk,xt,xx,⟨xn1,xn2,xn3⟩,xns,xks⟩ (.slice Anx xns.length cnx) (.slice Akx xks.length ckx):=Ze wr _;have b1:=ac wr (.cells #[.int .i64 xk,.bool xt,.string xx,.bool xn1,.string xn2,.int .i64 xn3,.slice Anx xns.length cnx,.slice Akx xks.length ckx] 69);have k3:wr.heap.size< (wr.alloc (.cells #[.int .i64 xk,.bool xt,.string xx,.bool xn1,.string xn2,.int .i64 xn3,.slice Anx xns.length cnx,.slice Akx xks.length ckx] 69)).heap.size:=by simp
     obtain⟨w4,j2⟩:∃w4,(wr.alloc (.cells #[.int .i64 xk,.bool xt,.string xx,.bool xn1,.string xn2,.int .i64 xn3,.slice Anx xns.length cnx,.slice Akx xks.length ckx] 69))=w4:=⟨_,rfl⟩;rw[j2] at e2 b1 k3 ⊢;have d4:=Qa e2;have n4:=Qa b1;have f1:=Qa (f0.out.below b1);have f2:=Qa (g9.out.below b1 (Za _));have e7:=Qa (i2.out.below b1 (Za _));have f4:=Qa (c9.out.trans (b1.mono c9.out.size));have k0:Hid (∀g,u7.ownBlock=some g->g<wr.heap.size):=Qa (fun g e=>by obtain⟨_,_,_,h,_⟩:=f0.out;exact(World.ownsRow.lt h g e).2);obtain⟨bx,b0⟩:∃bx,wr.heap.size=bx:=⟨_,rfl⟩;have o2:w.heap.size<=bx:=by rw[<-b0];exact c9.out.size
     rw[b0] at d4 k3 k0 ⊢;clear j2 e2 b1 f0 g9 i2 c9 b0 c0 c1 c2 c3 c4 c5 c6 c7 cl2
     go_loopw [12,13] (Fy w4 xks n) (fun _ q _=>xks.length - (intOf q).toNat)
     case atStart=>exact⟨0,by omega,rfl,Zd _ _,by rw[List.take_zero,List.map_nil];exact bQ.nil _ _⟩
     case round=>
      obtain⟨q,hq,rfl,d5,k1⟩:=hrel;have b8:=Qa d5;have a6:=Qa k1;have cb7:=(d4.out.below d5).cell 7 _ rfl;have e8:=d5.size;clear d5 k1
      by_cases hqt:q<xks.length
      ·obtain⟨gk,rfl⟩:=g2.out (by omega);obtain⟨z,hz⟩:∃z,xks[q]?=some z:=⟨_,Zc hqt⟩;have ckq:=aD (e7.out.below b8.out (Za _)) rfl q (by omega);rw[List.getElem?_map,hz] at ckq;simp only[Option.map_some,df] at ckq;have hzb:=m5.out z (Zk hz);have Hz:=Qa (show(xks.take (q+1)).map (· + n)= (xks.take q).map (· + n) ++ [z+n] by rw[bU hz,List.map_append];rfl);have i4:=Qa (show((xks.take q).map (· + n)).length=q by rw[List.length_map,List.length_take];omega);have n3:(q:Int)<xks.length:=by omega
       clear hz;go_wp2_with (at_builtin;refine lH jv (by have:=(a6.out.below (ac wr (.cells #[.int .i64 ((z:Int)+n)] 3)) (Za _));unfold bQ at this;rw[i4.out] at this;exact this) (ap wr [df (z+n)] 3) (by simp;omega) ?_ (h1:=(by simp[df,Value.oneCell']));intro v' w5 h1 h2 h3;have HK:=Qa h1;have HG:=Qa h2;clear h1 h2 h3);have b7:Below w4.heap.size w4 (wr.alloc (.cells #[.int .i64 ((z:Int)+n)] 3)):=b8.out.alloc e8 _;exact⟨⟨q+1,by omega,by go_num,bw b7 (a6.out.below (ac _ _) (Za _)) b7.size HG.out,by rw[Hz.out];unfold bQ;rw[List.length_append,i4.out,List.map_append];exact HK.out⟩,by simp[intOf];omega⟩
      ·obtain rfl:q=xks.length:=by omega
       rw[List.take_length] at a6;go_wp2_with fail;obtain⟨vn0,vk0,us,h1,h2,h3,h4,h5,hN⟩:=f1.out;have HN:=Qa hN;clear hN;obtain⟨m,d1⟩:∃m,1+ (JV.flats 1 (ts.take i)++ ((t.flat 0).map (Nd.shift n)).take j).length=m:=⟨_,rfl⟩;have l3:m=n+j:=by
        rw[<-d1,List.length_append,List.length_take,List.length_map,JV.flat_len];have:=i8.out;omega
       rw[d1] at h1;have H1:=Qa h1;have H2:=Qa h2;have H3:=Qa h3;have H4:=Qa h4;have H5:=Qa h5;have k9:=Qa d1;have n1:m<=1000000:=by omega
       have a1:=nV.of_box (d4.out.below (b8.out.drew));obtain⟨Ak12,ck12,rfl,-,-,-⟩:=ag a6.out;rw[List.length_map] at a6 ⊢;have b2:=Qa a1;have a7:w.heap.size<=w4.heap.size:=by omega
       clear h1 h2 h3 h4 h5 d1 l3 a1 cb7;refine aO (fun w'=>w'.cell? ⟨bx,0,none⟩=some (.int .i64 xk)/\w'.cell? ⟨bx,1,none⟩=some (.bool xt)/\w'.cell? ⟨bx,2,none⟩=some (.string xx)/\w'.cell? ⟨bx,3,none⟩=some (.bool xn1)/\w'.cell? ⟨bx,4,none⟩=some (.string xn2)/\w'.cell? ⟨bx,5,none⟩=some (.int .i64 xn3)/\w'.cell? ⟨bx,6,none⟩=some (.slice Anx xns.length cnx)) (b2.out) fun a0=>?_
       refine tH 0 a0 ?_;refine tH 1 a0 ?_;refine tH 2 a0 ?_;refine tH 3 a0 ?_;refine tH 4 a0 ?_;refine tH 5 a0 ?_
       try simp only[Act.put,jP,jQ,jR]
       refine tH 6 a0 ?_;refine tH 7 a0 ?_;refine tH 8 a0 ?_;refine tH 9 a0 ?_;refine tH 10 a0 ?_;refine tH 12 a0 ?_
       try simp only[Act.put,jP,jQ,jR]
       refine rH 11 fun K hK=>?_
       go_simp;refine(lj ((Sl.of_own f2.out).below b8.out.drew) k6).mono ?_;rintro e w5 ⟨vt5,rfl,d9,f6⟩;obtain⟨At5,ct5,rfl,-,-,-⟩:=ag f6;have a5:Below w4.heap.size w4 w5:=b8.out.drew.trans (d9.mono e8);have q5:=nV.of_box (d4.out.below a5);have e0:=Qa (show Below wr.heap.size wr w5 from((Zd wr.heap.size wr).drew).trans d9);have d0:=Qa a5;have g3:=Qa f6;clear d9 f6 a5;go_wp2_with fail;refine hK.out _ _ (q5) (fun a0=>?_);clear hK K
       try simp only[Act.put,jP,jQ,jR]
       refine tH 13 a0 ?_
       try simp only[Act.put,jP,jQ,jR]
       refine rH 14 fun K hK=>?_
       go_simp;have q6:=q5.grown (World.grownBy_alloc w5 (.cells #[.int .i64 xk,.bool xt,.string xx,.bool xn1,.string xn2,.int .i64 xn3,.slice At5 xns.length ct5,.slice Ak12 xks.length ck12] 69) none) (fun e=>by cases e);refine hK.out _ _ (q6) (fun a0=>?_);clear hK K
       try simp only[Act.put,jP,jQ,jR]
       refine rH 15 fun K hK=>?_
       refine vm AL (ao (ao H1.out d0.out (Za _)) (ac _ _) (Za _)) (ap w5 _ 69) (by have:=d0.out.size;simp;omega) ?_ (h1:=(by intro u hu;simp[aR] at hu;rcases hu with rfl|rfl|rfl|rfl|rfl|rfl|rfl|rfl <;> rfl));intro v7 w6 h1 h2 h3;have q7:=q6.grown h2 (fun e=>Nat.lt_irrefl _ (k0.out bx e.symm));have HK:=Qa h1;have HG:=Qa h2;clear h1 h2 h3;refine hK.out _ _ (q7) (fun a0=>?_);clear hK K
       try simp only[Act.put,jP,jQ,jR]
       refine tH 16 a0 ?_
       try simp only[Act.put,jP,jQ,jR]
       refine wpAnyH_done (by kernel_rfl) (NoPanic.normal ?_) _;have a9:Below w4.heap.size w4 (w5.alloc (.cells #[.int .i64 xk,.bool xt,.string xx,.bool xn1,.string xn2,.int .i64 xn3,.slice At5 xns.length ct5,.slice Ak12 xks.length ck12] 69)):=d0.out.alloc d0.out.size _;have c8:Below w.heap.size w w6:=(f4.out.trans (a9.mono a7)).grown HG.out (Zb a7 a9.size) (fun g e=>(ak H1.out e).1);have e1:w.heap.size<=wr.heap.size:=Zb a7 e8;have hJ:=ft.snoc (y:=⟨xk,xt,xx,⟨xn1,xn2,xn3⟩,xns,xks.map (· + n)⟩) (ao H1.out a9 (Za _)) (H2.out.below a9 (Za _)) (H3.out.below a9 (Za _)) (H4.out.mono fun _ _ h=>h.below a9 (Za _)) H5.out HN.out (fun g e=>Zb e1 (ak g3.out e).1) k9.out.symm
        ⟨_,_,rfl,(g3.out.below (ac _ _) (Za _)).low (Zj _),by
         have:=(a6.out.below e0.out (Za _)).low (Zj _);exact(this.below (ac _ _) (Za _))⟩
        (fun g e e'=>by
         have h1:=(World.ownsRow.lt H3.out g e').2;have h2:=(ak a6.out e).1;omega) HK.out HG.out
       have HJ:=Qa hJ;have m3:=Qa c8;clear hJ a9 c8 q5 q6 q7 a0;go_wp2_with fail;exact⟨⟨j+1,by rw[List.length_map,JV.flat_len];omega,by go_num,m3.out,by rw[l0.out,<-List.append_assoc];exact HJ.out⟩,by simp[intOf];omega⟩
    ·obtain rfl:j=t.size:=by omega
     have k4:n=1+JV.sizes (ts.take i):=l2.out;have HJ:=Qa d3;have f5:=Qa b3;clear d3 b3;go_wp2_with fail;refine⟨⟨i+1,by omega,by go_num,f5.out,?_⟩,by simp[intOf];omega⟩;have h:=HJ.out;have he:((t.flat 0).map (Nd.shift n)).take t.size= (t.flat 0).map (Nd.shift n):=List.take_of_length_le (by rw[List.length_map,JV.flat_len];exact Za _);rw[he,k4,<-xd Ht.out 1] at h;rw[Hx.out];exact h
  ·obtain rfl:i=ts.length:=by omega
   have HJ:=Qa hj;have f5:=Qa b6;clear hj b6;go_wp2_with fail;go_ret;refine⟨_,rfl,f5.out,?_⟩;have h:=HJ.out.flat;rw[List.take_length] at h;exact h
theorem vb (hl:ii w vl (ts.map (JV.flat 0)))(a0:JV.sizes ts<=1000000)
  (hkl:∀t∈ts,∀x∈t.flat 0,x.names.length<=1000000/\∀q∈x.kids,q<=1000000) :
  Calls Tryz.prog 150 #[vl] w fun e w'=>Cj w (JV.flat 0 (.mk 5 false es lL [] ts)) e w':=by
 have Hl:=Qa hl;clear hl;go_enter Tryz.func150,Tryz.ntmps150;go_wp2_with fail;refine(uA (k:=5) (names:= []) (Sl.of_own (cI.nil w 0)) Hl.out (by simp) a0 hkl).mono ?_;rintro e w1 ⟨v,rfl,hb,hf⟩;go_wp2_with fail;go_ret;exact⟨_,rfl,hb,hf⟩
theorem o0 (hn:Sl w vn (names.map dL))(hl:ii w vl (ts.map (JV.flat 0)))(hnl:names.length<=1000000)(a0:JV.sizes ts<=1000000)
  (hkl:∀t∈ts,∀x∈t.flat 0,x.names.length<=1000000/\∀q∈x.kids,q<=1000000) :
  Calls Tryz.prog 186 #[vn,vl] w fun e w'=>Cj w (JV.flat 0 (.mk 6 false es lL names ts)) e w':=by
 have Hl:=Qa hl;have Hn:=Qa hn;clear hl hn;go_enter Tryz.func186,Tryz.ntmps186;go_wp2_with fail;refine(uA (k:=6) Hn.out Hl.out hnl a0 hkl).mono ?_;rintro e w1 ⟨v,rfl,hb,hf⟩;go_wp2_with fail;go_ret;exact⟨_,rfl,hb,hf⟩
def Wr (w:World)(v:Value):Prop:=v =.slice none 0 0\/∃g c b p s,v =.slice (some ⟨g,0,none⟩) 1 c/\w.cell? ⟨g,0,none⟩=some (.bool b)/\w.cell? ⟨g,1,none⟩=some (.int .i64 p)/\w.cell? ⟨g,2,none⟩=some (.string s)
theorem Wr.below (h:Wr w v)(hb:Below w.heap.size w w'):Wr w' v:=by
 rcases h with rfl|⟨g,c,b,p,s,rfl,h1,h2,h3⟩
 ·exact .inl rfl
 ·exact .inr ⟨g,c,b,p,s,rfl,Zf hb h1,Zf hb h2,Zf hb h3⟩
def dy (c h l:Int)(s:Value):Value:=.agg #[.int .i64 c,.int .i64 h,.int .i64 l,s]
def dE (w:World)(c:Int)(v:Value):Prop:= ∃h l s,v=dy c h l s/\Wr w s
def tg (w:World)(c:Int)(e:Ending)(w':World):Prop:= ∃v,e =.returned v/\dE w' c v/\Below w.heap.size w w'
theorem dE.below {c:Int}(h:dE w c v)(hb:Below w.heap.size w w'):dE w' c v:=by
 obtain⟨a,l,s,rfl,hs⟩:=h;exact⟨a,l,s,rfl,hs.below hb⟩
theorem Wr.slice (h:Wr w v):∃A n c,v =.slice A n c/\n<=1:=by
 rcases h with rfl|⟨g,c,b,p,s,rfl,_⟩
 ·exact⟨_,_,_,rfl,by omega⟩
 ·exact⟨_,_,_,rfl,by omega⟩
theorem bg:(Tryz.prog.info? 62).map (·.size)=some 4:=by kernel_rfl
theorem cv (c p:Int)(w:World):Calls Tryz.prog 115 #[.int .i64 c,.int .i64 p] w (tg w c):=by
 go_enter Tryz.func115,Tryz.ntmps115;go_wp2;refine Zg (results_cell_row Tryz.results115 _ _ w.heap.size 62 #[.int .i64 c,.int .i64 0,.int .i64 0,.slice (some ⟨w.heap.size+1,0,none⟩) 1 1] (0,0) _ (by simp) ?_ Tryz.underlying62 rfl bg) rfl ⟨_,rfl,⟨0,0,_,rfl,.inr ⟨w.heap.size+1,1,false,p,es,rfl,?_,?_,?_⟩⟩,?_⟩
 ·exact(Below.heap_alloc _ _ _ (by simp)).trans (Ze w _)
 ·have:=ap (w.alloc (.cells #[.int .i64 c,.int .i64 0,.int .i64 0,.slice (some ⟨w.heap.size+1,0,none⟩) 1 1] 62)) [.bool false,.int .i64 p,.string es] 295 0 _ rfl
  rwa[World.size_alloc] at this
 ·have:=ap (w.alloc (.cells #[.int .i64 c,.int .i64 0,.int .i64 0,.slice (some ⟨w.heap.size+1,0,none⟩) 1 1] 62)) [.bool false,.int .i64 p,.string es] 295 1 _ rfl
  rwa[World.size_alloc] at this
 ·have:=ap (w.alloc (.cells #[.int .i64 c,.int .i64 0,.int .i64 0,.slice (some ⟨w.heap.size+1,0,none⟩) 1 1] 62)) [.bool false,.int .i64 p,.string es] 295 2 _ rfl
  rwa[World.size_alloc] at this
 ·exact((Zd _ _).alloc (Za _) _).alloc (by simp) _
theorem eC (c:Int)(w:World):Calls Tryz.prog 79 #[.int .i64 c] w (tg w c):=by
 go_enter Tryz.func79,Tryz.ntmps79;go_wp2;exact Zg (results_cell_row Tryz.results79 _ _ w.heap.size 62 #[.int .i64 c,.int .i64 0,.int .i64 0,.slice none 0 0] (0,0) _ (by simp) (Ze w _) Tryz.underlying62 rfl bg) rfl ⟨_,rfl,⟨0,0,_,rfl,.inl rfl⟩,ac _ _⟩
theorem xJ (c h l:Int)(w:World):Calls Tryz.prog 107 #[.int .i64 c,.int .i64 h,.int .i64 l] w (tg w c):=by
 go_enter Tryz.func107,Tryz.ntmps107;go_wp2;exact Zg (results_cell_row Tryz.results107 _ _ w.heap.size 62 #[.int .i64 c,.int .i64 h,.int .i64 l,.slice none 0 0] (0,0) _ (by simp) (Ze w _) Tryz.underlying62 rfl bg) rfl ⟨_,rfl,⟨h,l,_,rfl,.inl rfl⟩,ac _ _⟩
def mQ (a b c d e f:Int):Value:=.agg #[.int .i64 a,.int .i64 b,.int .i64 c,.int .i64 d,.int .i64 e,.int .i64 f]
def FB (w:World)(e:Ending)(w':World):Prop:= ∃ (x:Int) (b:Bool),e =.returned (.tuple #[.int .i64 x,.bool b])/\Below w.heap.size w w'
theorem pg (a b c d x f m:Int)(w:World):Calls Tryz.prog 106 #[mQ a b c d x f,.int .i64 m] w (FB w):=by
 unfold mQ;go_enter Tryz.func106,Tryz.ntmps106;go_wp2_with fail
 all_goals
  go_ret2;exact⟨_,_,rfl,ac _ _⟩
theorem mB (c h l:Int){s:Value}(hs:s.oneCell'=true):(#[.int .i64 c,.int .i64 h,.int .i64 l,s]:Array Value).all (·.oneCell')=true:=by
 simp[hs,show ∀n,(Value.int .i64 n).oneCell'=true from fun _=>rfl]
theorem fR (a b c d x f m n:Int)(w:World):Calls Tryz.prog 81 #[mQ a b c d x f,.int .i64 m,.int .i64 n] w fun e w'=> ∃k,tg w k e w':=by
 have a3:=Ze (w.alloc (.cells #[.int .i64 a,.int .i64 b,.int .i64 c,.int .i64 d,.int .i64 x,.int .i64 f] 107)) (.cells #[.int .i64 0,.int .i64 0,.int .i64 0,.slice none 0 0] 62);rw[World.size_alloc] at a3;have b1:Below w.heap.size w ((w.alloc (.cells #[.int .i64 a,.int .i64 b,.int .i64 c,.int .i64 d,.int .i64 x,.int .i64 f] 107)).alloc (.cells #[.int .i64 0,.int .i64 0,.int .i64 0,.slice none 0 0] 62)):=((Zd _ _).alloc (Za _) _).alloc (by simp) _;have b0:((w.alloc (.cells #[.int .i64 a,.int .i64 b,.int .i64 c,.int .i64 d,.int .i64 x,.int .i64 f] 107)).alloc (.cells #[.int .i64 0,.int .i64 0,.int .i64 0,.slice none 0 0] 62)).heap.size=w.heap.size+2:=by simp
 have a4:=Qa a3;have a7:=Qa b1;have b2:=Qa b0;clear a3 b1 b0;unfold mQ;go_enter Tryz.func81,Tryz.ntmps81;go_wp2_with fail;generalize ((w.alloc (.cells #[.int .i64 a,.int .i64 b,.int .i64 c,.int .i64 d,.int .i64 x,.int .i64 f] 107)).alloc (.cells #[.int .i64 0,.int .i64 0,.int .i64 0,.slice none 0 0] 62))=w0 at *;refine(pg a b c d x f m w0).mono ?_;rintro e w1 ⟨y,t,rfl,a6⟩;have a1:=Qa ((a6.block _ (ae a4.out)).trans a4.out);have a5:=Qa (a7.out.trans (a6.mono a7.out.size));clear a6;have hend:∀ (k:Int) (u:Value) (w2:World),dE w2 k u->Below w1.heap.size w1 w2->∃h l A q r,u =.agg #[.int .i64 k,.int .i64 h,.int .i64 l,.slice A q r]/\w2.heap[w.heap.size+1]?=some (.cells #[.int .i64 0,.int .i64 0,.int .i64 0,.slice none 0 0] 62 (0,0))/\
   Below w.heap.size w (w2.setRow (w.heap.size+1) #[.int .i64 k,.int .i64 h,.int .i64 l,.slice A q r])/\dE (w2.setRow (w.heap.size+1) #[.int .i64 k,.int .i64 h,.int .i64 l,.slice A q r]) k u:=by
  rintro k u w2 ⟨h,l,s,rfl,hs⟩ a0;obtain⟨A,q,r,rfl,-⟩:=hs.slice;have hh:=(a0.block _ (ae a1.out)).trans a1.out;refine⟨h,l,A,q,r,rfl,hh,(a5.out.trans (a0.mono a5.out.size)).grown (ah ..) (Zb a5.out.size a0.size) (fun g e=>by cases e;omega),h,l,_,rfl,?_⟩;rcases hs with e|⟨g,c',b',p,s',e,h1,h2,h3⟩
  ·exact .inl e
  ·have hne:some g≠some (w.heap.size+1):=fun e'=>by
    injection e' with e';subst e'
    have a9:=h1;unfold World.cell? at a9;simp[hh] at a9
   exact .inr ⟨g,c',b',p,s',e,(ah w2 _ _).cell h1 hne,(ah w2 _ _).cell h2 hne,(ah w2 _ _).cell h3 hne⟩
 have a2:=Qa hend;clear hend
 cases t
 ·go_wp2_with fail;refine(eC 0 w1).mono ?_;rintro e w2 ⟨u,rfl,hu,a0⟩;obtain⟨h,l,A,q,r,rfl,hh,h1,h2⟩:=a2.out 0 u w2 hu a0;have Hh:=Qa hh;have H1:=Qa h1;have H2:=Qa h2;clear hh h1 h2 hu a0;go_wp2_with (refine bE Hh.out ?_);exact Zg (results_cell_row Tryz.results81 _ _ (w.heap.size+1) 62 _ (0,0) _ (by simp) (setRow_heap _ _ _ _ _ _ Hh.out) Tryz.underlying62 rfl bg) rfl ⟨0,_,rfl,H2.out,H1.out⟩
 ·by_cases hn:y<n
  ·go_wp2_with fail;refine(xJ m n y w1).mono ?_;rintro e w2 ⟨u,rfl,hu,a0⟩;obtain⟨h,l,A,q,r,rfl,hh,h1,h2⟩:=a2.out m u w2 hu a0;have Hh:=Qa hh;have H1:=Qa h1;have H2:=Qa h2;clear hh h1 h2 hu a0;go_wp2_with (refine bE Hh.out ?_);exact Zg (results_cell_row Tryz.results81 _ _ (w.heap.size+1) 62 _ (0,0) _ (by simp) (setRow_heap _ _ _ _ _ _ Hh.out) Tryz.underlying62 rfl bg) rfl ⟨m,_,rfl,H2.out,H1.out⟩
  ·go_wp2_with fail;refine(eC 0 w1).mono ?_;rintro e w2 ⟨u,rfl,hu,a0⟩;obtain⟨h,l,A,q,r,rfl,hh,h1,h2⟩:=a2.out 0 u w2 hu a0;have Hh:=Qa hh;have H1:=Qa h1;have H2:=Qa h2;clear hh h1 h2 hu a0;go_wp2_with (refine bE Hh.out ?_);exact Zg (results_cell_row Tryz.results81 _ _ (w.heap.size+1) 62 _ (0,0) _ (by simp) (setRow_heap _ _ _ _ _ _ Hh.out) Tryz.underlying62 rfl bg) rfl ⟨0,_,rfl,H2.out,H1.out⟩
theorem bG {k:Int}(hu:dE w k u)(hh:w.heap[b]?=some (.cells #[.int .i64 c0,x1,x2,x3] 62 (0,0))) :
  ∃h l A q r,u =.agg #[.int .i64 k,.int .i64 h,.int .i64 l,.slice A q r]/\w.grownBy (w.setRow b #[.int .i64 k,.int .i64 h,.int .i64 l,.slice A q r]) (some b)/\dE (w.setRow b #[.int .i64 k,.int .i64 h,.int .i64 l,.slice A q r]) k u:=by
 obtain⟨h,l,s,rfl,hs⟩:=hu;obtain⟨A,q,r,rfl,-⟩:=hs.slice;refine⟨h,l,A,q,r,rfl,ah _ _ _,h,l,_,rfl,?_⟩;rcases hs with e|⟨g,c',b',p,s',e,h1,h2,h3⟩
 ·exact .inl e
 ·have hne:some g≠some b:=fun e'=>by
   injection e' with e';subst e'
   have a0:=h1;unfold World.cell? at a0;simp[hh] at a0
  exact .inr ⟨g,c',b',p,s',e,(ah w _ _).cell h1 hne,(ah w _ _).cell h2 hne,(ah w _ _).cell h3 hne⟩
theorem be {wz:World}{k:Int}(hu:dE wz k u)(a0:Below w0.heap.size w0 wz)(hf:w0.heap[b]?=some (.cells #[.int .i64 c0,x1,x2,x3] 62 (0,0)))(hb:Below w.heap.size w w0)(a1:w.heap.size<=b) :
  ∃h l A q r,u =.agg #[.int .i64 k,.int .i64 h,.int .i64 l,.slice A q r]/\Hid (wz.heap[b]?=some (.cells #[.int .i64 c0,x1,x2,x3] 62 (0,0)))/\Hid (Below w.heap.size w (wz.setRow b #[.int .i64 k,.int .i64 h,.int .i64 l,.slice A q r]))/\Hid (dE (wz.setRow b #[.int .i64 k,.int .i64 h,.int .i64 l,.slice A q r]) k u):=by
 have hh:=(a0.block _ (ae hf)).trans hf;obtain⟨h,l,A,q,r,e,h1,h2⟩:=bG hu hh;exact⟨h,l,A,q,r,e,hh,(hb.trans (a0.mono hb.size)).grown h1 (Zb hb.size a0.size) (fun g e=>by cases e;exact a1),h2⟩
theorem aK (c p:Int)(w:World):Calls Tryz.prog 177 #[.int .i64 c,.int .i64 p] w (tg w c):=by
 have a0:=Qa (Ze w (.cells #[.int .i64 0,.int .i64 0,.int .i64 0,.slice none 0 0] 62));have a2:=Qa (ac w (.cells #[.int .i64 0,.int .i64 0,.int .i64 0,.slice none 0 0] 62));go_enter Tryz.func177,Tryz.ntmps177;go_wp2_with fail;generalize (w.alloc (.cells #[.int .i64 0,.int .i64 0,.int .i64 0,.slice none 0 0] 62))=w0 at *;refine(cv c p w0).mono ?_;rintro e w1 ⟨u,rfl,hu,a1⟩;have Hh:=Qa ((a1.block _ (ae a0.out)).trans a0.out);obtain⟨h,l,A,q,r,rfl,h1,h2⟩:=bG hu Hh.out;have H1:=Qa ((a2.out.trans (a1.mono a2.out.size)).grown h1 (Zb a2.out.size a1.size) (fun g e=>by cases e;exact Za _));have H2:=Qa h2;clear h1 h2 hu a1;go_wp2_with (refine bE Hh.out ?_);exact Zg (results_cell_row Tryz.results177 _ _ w.heap.size 62 _ (0,0) _ (by simp) (setRow_heap _ _ _ _ _ _ Hh.out) Tryz.underlying62 rfl bg) rfl ⟨_,rfl,H2.out,H1.out⟩
theorem en (w:World):Calls Tryz.prog 178 #[] w (tg w 0):=by
 have a0:=Qa (Ze w (.cells #[.int .i64 0,.int .i64 0,.int .i64 0,.slice none 0 0] 62));have a2:=Qa (ac w (.cells #[.int .i64 0,.int .i64 0,.int .i64 0,.slice none 0 0] 62));go_enter Tryz.func178,Tryz.ntmps178;go_wp2_with fail;generalize (w.alloc (.cells #[.int .i64 0,.int .i64 0,.int .i64 0,.slice none 0 0] 62))=w0 at *;refine(eC 0 w0).mono ?_;rintro e w1 ⟨u,rfl,hu,a1⟩;have Hh:=Qa ((a1.block _ (ae a0.out)).trans a0.out);obtain⟨h,l,A,q,r,rfl,h1,h2⟩:=bG hu Hh.out;have H1:=Qa ((a2.out.trans (a1.mono a2.out.size)).grown h1 (Zb a2.out.size a1.size) (fun g e=>by cases e;exact Za _));have H2:=Qa h2;clear h1 h2 hu a1;go_wp2_with (refine bE Hh.out ?_);exact Zg (results_cell_row Tryz.results178 _ _ w.heap.size 62 _ (0,0) _ (by simp) (setRow_heap _ _ _ _ _ _ Hh.out) Tryz.underlying62 rfl bg) rfl ⟨_,rfl,H2.out,H1.out⟩
def F2 (w:World)(s3:Value)(wr:World):Prop:= ∃k:Nat,k<=6/\s3 =.int .i64 k/\Below w.heap.size w wr
def CX (w:World)(e:Ending)(w':World):Prop:= ∃b,e =.returned (.bool b)/\Below w.heap.size w w'
theorem Di (a b c d x f:Int)(w:World):Calls Tryz.prog 80 #[mQ a b c d x f] w (CX w):=by
 unfold mQ;have a0:=ap w [.int .i64 a,.int .i64 b,.int .i64 c,.int .i64 d,.int .i64 x,.int .i64 f] 107;have a1:=Qa (ac w (.cells #[.int .i64 a,.int .i64 b,.int .i64 c,.int .i64 d,.int .i64 x,.int .i64 f] 107));have c0:=a0 0 _ rfl;have c1:=a0 1 _ rfl;have c2:=a0 2 _ rfl;have c3:=a0 3 _ rfl;have c4:=a0 4 _ rfl;have c5:=a0 5 _ rfl;have hz:w.heap.size< (w.alloc (.cells #[.int .i64 a,.int .i64 b,.int .i64 c,.int .i64 d,.int .i64 x,.int .i64 f] 107)).heap.size:=by simp
 have Hc:=Qa (show ∀wr,Below (w.alloc (.cells #[.int .i64 a,.int .i64 b,.int .i64 c,.int .i64 d,.int .i64 x,.int .i64 f] 107)).heap.size (w.alloc (.cells #[.int .i64 a,.int .i64 b,.int .i64 c,.int .i64 d,.int .i64 x,.int .i64 f] 107)) wr->wr.cell? ⟨w.heap.size,0,none⟩=some (.int .i64 a)/\wr.cell? ⟨w.heap.size,1,none⟩=some (.int .i64 b)/\wr.cell? ⟨w.heap.size,2,none⟩=some (.int .i64 c)/\wr.cell? ⟨w.heap.size,3,none⟩=some (.int .i64 d)/\wr.cell? ⟨w.heap.size,4,none⟩=some (.int .i64 x)/\wr.cell? ⟨w.heap.size,5,none⟩=some (.int .i64 f) from
  fun wr h=>⟨Zf h c0,Zf h c1,Zf h c2,Zf h c3,Zf h c4,Zf h c5⟩)
 clear a0 c0 c1 c2 c3 c4 c5 hz;go_enter Tryz.func80,Tryz.ntmps80;go_wp2_with fail;generalize (w.alloc (.cells #[.int .i64 a,.int .i64 b,.int .i64 c,.int .i64 d,.int .i64 x,.int .i64 f] 107))=w0 at *
 go_loopw [3] (F2 w0) (fun i _=>6 - (intOf i).toNat)
 case atStart=>exact⟨1,by omega,rfl,Zd _ _⟩
 case round=>
  obtain⟨k,hk,rfl,hb⟩:=hrel;obtain⟨c0,c1,c2,c3,c4,c5⟩:=Hc.out wr hb;have Hb:=Qa hb;clear hb
  by_cases hlt:k<6
  ·have a4:(k:Int)<6:=by omega
   go_wp2_with fail;refine(pg a b c d x f k wr).mono ?_;rintro e w1 ⟨y,t,rfl,a3⟩;have a2:=Qa (Hb.out.trans (a3.mono Hb.out.size));clear a3 c0 c1 c2 c3 c4 c5
   by_cases h1:y<0
   ·go_wp2_with fail;go_ret;exact⟨_,rfl,a1.out.trans (a2.out.mono a1.out.size)⟩
   ·by_cases h2:1073741824<y
    ·go_wp2_with fail;go_ret;exact⟨_,rfl,a1.out.trans (a2.out.mono a1.out.size)⟩
    ·go_wp2_with fail;exact⟨⟨k+1,by omega,by go_num,a2.out⟩,by simp[intOf];omega⟩
  ·have a4:¬ (k:Int)<6:=by omega
   go_wp2_with fail
   all_goals
    go_ret;exact⟨_,rfl,a1.out.trans (Hb.out.mono a1.out.size)⟩
