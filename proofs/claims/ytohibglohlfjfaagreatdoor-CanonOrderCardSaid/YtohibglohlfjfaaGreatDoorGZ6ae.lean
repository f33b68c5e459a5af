import Derived.Test.YtohibglohlfjfaaGreatDoorGZ6ad
set_option linter.unusedVariables false
set_option linter.unusedSimpArgs false
set_option maxHeartbeats 64000000
set_option maxRecDepth 100000
namespace Go.Proofs.YtohibglohlfjfaaGreatDoor
open Go.RowKit
variable {c0:Int}{ts:List JV}{u v vk vn x1 x2 x3:Value}{W W' w w' w0:World}
def j8:Dc:=⟨false,es,0⟩
def fX (W:World)(b:Nat)(x:Nd)(vn vk:Value):Prop:=W.heap[b]?=some (.cells (ay x vn vk).toArray 70 (0,0))
theorem fX.cell {b:Nat}{x:Nd}(h:fX W b x vn vk)(j:Nat)(u:Value)(hu:(ay x vn vk)[j]?=some u):W.cell? ⟨b,j,none⟩=some u:=by
 unfold fX at h;unfold World.cell?;simp only[h];simpa using hu
theorem fX.below {b:Nat}{x:Nd}(h:fX W b x vn vk)(hb:Below W.heap.size W W'):fX W' b x vn vk:=(hb.block b (ae h)).trans h
def nP (b:Nat)(x:Nd)(vn:Value)(w:World):Prop:=
 w.cell? ⟨b,0,none⟩=some (.int .i64 x.kind)/\w.cell? ⟨b,1,none⟩=some (.bool x.tr)/\w.cell? ⟨b,2,none⟩=some (.string x.text)/\w.cell? ⟨b,3,none⟩=some (.bool x.num.neg)/\w.cell? ⟨b,4,none⟩=some (.string x.num.digits)/\w.cell? ⟨b,5,none⟩=some (.int .i64 x.num.exp)/\w.cell? ⟨b,6,none⟩=some vn
theorem nP.of_box {b:Nat}{x:Nd}(h:fX W b x vn vk):nP b x vn W:=
 ⟨h.cell 0 _ rfl,h.cell 1 _ rfl,h.cell 2 _ rfl,h.cell 3 _ rfl,h.cell 4 _ rfl,h.cell 5 _ rfl,h.cell 6 _ rfl⟩
theorem nP.grown {b:Nat}{x:Nd}{row:Option Nat}(h:nP b x vn W)(hg:W.grownBy W' row)(hr:some b≠row):nP b x vn W':=
 ⟨hg.cell h.1 hr,hg.cell h.2.1 hr,hg.cell h.2.2.1 hr,hg.cell h.2.2.2.1 hr,hg.cell h.2.2.2.2.1 hr,hg.cell h.2.2.2.2.2.1 hr,hg.cell h.2.2.2.2.2.2 hr⟩
def Fd (w:World)(k:Int)(names:List ByteArray)(ts:List JV)(s7 s8:Value)(wr:World):Prop:=
 ∃i:Nat,i<=ts.length/\s8 =.int .i64 i/\Below w.heap.size w wr/\fy wr w.heap.size s7 ⟨k,false,es,j8,names,aV 1 (ts.take i)⟩ (JV.flats 1 (ts.take i))
def Gz (w:World)(x:Nd)(rest more:List Nd)(s7 s10:Value)(wr:World):Prop:=
 ∃j:Nat,j<=more.length/\s10 =.int .i64 j/\Below w.heap.size w wr/\fy wr w.heap.size s7 x (rest++more.take j)
def Gu (w4:World)(kids:List Nat)(at_:Nat)(s12 s13:Value)(wr:World):Prop:=
 ∃q:Nat,q<=kids.length/\s13 =.int .i64 q/\Below w4.heap.size w4 wr/\bI wr w4.heap.size s12 ((kids.take q).map (· + at_))
def pw (w:World)(ns:List Nd)(e:Ending)(w':World):Prop:= ∃v,e =.returned v/\Below w.heap.size w w'/\bj (w.heap.size<= ·) w' w.heap.size v ns
theorem se {k:Int}{vl:Value}{names:List ByteArray}(hn:Sl w vn (names.map dU))(hl:gZ w vl (ts.map (JV.flat 0)))(hnl:names.length<=1000000)(hsz:JV.sizes ts<=1000000)
  (hkl:∀t∈ts,∀x∈t.flat 0,x.names.length<=1000000/\∀q∈x.kids,q<=1000000) :
  Calls Tryz.prog 188 #[.int .i64 k,vn,vl] w fun e w'=>pw w (JV.flat 0 (.mk k false es j8 names ts)) e w':=by
 obtain⟨vs,⟨hm,A,cap,rfl,f6,hA⟩,f8⟩:=id hl;have f4:vs.length=ts.length:=by have:=f8.1;simpa using this
 rw[f4] at hm f6 hA ⊢;have HA:=Qa hA;have l0:=Qa f8;have o2:=Qa f4;have Hn:=Qa hn;have k4:=Qa hkl;clear hn hl hA f8 f4 hkl;have k5:ts.length<=1000000:=Zc (cf ts) hsz;go_enter Tryz.func188,Tryz.ntmps188;go_wp2_with fail;refine(lw Hn.out hnl).mono ?_;rintro e w1 ⟨vt,rfl,h9,e6⟩;have e4:=Qa h9;have j3:=Qa e6;obtain⟨At,ct,rfl,-,-,-⟩:=ag e6;clear h9 e6;go_wp2_with fail
 go_loopw [7,8] (Fd w k names ts) (fun _ i _=>ts.length - (intOf i).toNat)
 case atStart=>
  refine⟨0,by omega,rfl,e4.out.alloc e4.out.size _,_,.slice none 0 0, [],?_,(j3.out.below (ac _ _) (Zb _)).low (Zk _),bI.nil _ _,bo.nil _,fun u hu=>by simp at hu,fun u hu g e=>?_⟩
  rotate_left
  ·simp at hu;subst hu;exact(aj j3.out (by simpa [ay] using e)).1 |> Zc (Zb _)
  have:=eF (n:=1) (k:=8) (Zf w1 (.cells (ay ⟨k,false,es,j8,names, []⟩ (.slice At names.length ct) (.slice none 0 0)).toArray 70)) e4.out.size (by unfold maxLen;omega) rfl;simp only[List.take_zero,JV.flats,aV,List.length_nil,List.flatten_nil,List.append_nil,Nat.add_zero];exact this
 case round=>
  obtain⟨i,hi,rfl,b8,hj⟩:=hrel
  by_cases hlt:i<ts.length
  ·obtain⟨gl,ol,rfl,d0⟩:=HA.out (by omega);obtain⟨t,ht⟩:∃t,ts[i]?=some t:=⟨_,Zd hlt⟩;obtain⟨vi,d5,g4⟩:=l0.out.get (i:=i) (b:=t.flat 0) (by rw[List.getElem?_map,ht];rfl);have cl:=Zg b8 (d0 i vi d5);have i4:=Qa (d0 i vi d5);have n6:gl<w.heap.size:=World.block_lt_of_cell? w _ (d0 i vi d5);obtain⟨Ai,ci,rfl,m3,l2,i5⟩:=g4.form;have g6:=Qa g4;have i0:=Qa i5;rw[JV.flat_len] at m3 l2 cl i4 g6 i0;obtain⟨vn0,vk0,us,h1,h2,h3,h4,h5,hN⟩:=hj;have HN:=Qa hN;clear hN;obtain⟨n,hn⟩:∃n,1+ (JV.flats 1 (ts.take i)).length=n:=⟨_,rfl⟩;rw[hn] at h1;have k3:n=1+JV.sizes (ts.take i):=by rw[<-hn,JV.flats_len]
   have o1:=jA ht;have n5:n+t.size<=1000001:=by omega
   have i3:0<n:=by omega
   obtain⟨g7,c7,rfl,g0,n3,m2⟩:∃g cap,u7 =.slice (some ⟨g,0,none⟩) n cap/\w.heap.size<=g/\n<=cap/\n<=maxLen:=by
    rcases bN h1 with ⟨_,h0,_⟩|h
    ·omega
    ·exact h
   have ck:wr.cell? ⟨g7,7,none⟩=some vk0:=by rw[World.ownsRow.cellAt h1 7 (by omega)];rfl
   have fk:=World.ownsRow.frozenAt h1 7;have m4:g7<wr.heap.size:=World.block_lt_of_cell? wr _ ck;have H1:=Qa h1;have H2:=Qa h2;have H3:=Qa h3;have H4:=Qa h4;have H5:=Qa h5;have m5:=Qa k3;have i9:=Qa hn;have h8:=Qa b8;have Ht:=Qa ht;have h7:∀g,vk0.ownBlock=some g->g≠g7:=fun g e e'=>by
    subst e';obtain⟨_,cur,hh⟩:=aj h3 e;obtain⟨cs,z,b4⟩:=cj h1 g rfl;rw[hh] at b4;injection b4 with b4;injection b4 with _ b4 _;exact absurd b4 (by decide)
   have k2:=Qa h7;clear h1 h2 h3 h4 h5 k3 hn b8 ht g4 i5 d0 d5 h7 m2;have e5:w.heap.size<=wr.heap.size:=h8.out.size;have a4:(aV 1 (ts.take i)).length=i:=by rw[bR,List.length_take];omega
   have a3:=Qa a4;clear a4;go_wp2_with (at_builtin;refine km iz (by have:=(H3.out.below (ac wr (.cells #[.int .i64 (n:Int)] 3)) (Zb _));unfold bI at this;rw[a3.out] at this;exact this) (ap wr [cO n] 3) (by simp;omega) ?_ (h1:=(by simp[cO,Value.oneCell']));intro vk1 w2 h1 h2 h3;obtain⟨Ak,ck',rfl,-,-,-⟩:=ag h1;have ck2:=h2.cell ((World.cell?_alloc_lt wr (.cells #[.int .i64 (n:Int)] 3) ⟨g7,7,none⟩ m4).trans ck) (fun e=>k2.out g7 e.symm rfl);have fk2:w2.frozen? ⟨g7,7,none⟩=false:=World.ownsRow.frozenAt (World.ownsRow.kept (ao H1.out (ac wr (.cells #[.int .i64 (n:Int)] 3)) (Zb _)) h2 (.inr (fun e=>k2.out g7 e.symm rfl))) 7;have HK:=Qa h1;have HG:=Qa h2;have HO:=Qa h3;clear h1 h2 h3);have b6:Below wr.heap.size wr (wr.alloc (.cells #[.int .i64 (n:Int)] 3)):=ac _ _;have j1:=vO (m:=n) (ao H1.out b6 (Zb _)) (H2.out.below b6 (Zb _)) (H4.out.mono fun _ _ h=>h.below b6 (Zb _)) H5.out HN.out i9.out.symm (by unfold bI;rw[List.length_append,a3.out,List.map_append];exact HK.out) HG.out HO.out (cj (H3.out.below b6 (Zb _)));have b7:Below w.heap.size w w2:=(h8.out.alloc e5 _).grown HG.out (by simp;omega) (fun g e=>(aj H3.out e).1);have h6:Below w.heap.size w (w2.setCell ⟨g7,7,none⟩ (.slice Ak (i+1) ck')):=b7.setCell g0 _;have HJ3:=Qa j1;have Hb3:=Qa h6;clear b6 j1 b7 h6 ck fk ck2;go_wp2_with fail;obtain⟨w3,j5⟩:∃w3,(w2.setCell ⟨g7,7,none⟩ (.slice Ak (i+1) ck'))=w3:=⟨_,rfl⟩;rw[j5] at HJ3 Hb3 ⊢;clear j5 fk2 HK HG HO;have Hx:=Qa (vm Ht.out 1);have m9:Hid (∀x∈t.flat 0,x.names.length<=1000000/\x.kids.length<=1000000/\∀q∈x.kids,q<=1000000):=Qa (fun x hx=>⟨(k4.out t (Zl Ht.out) x hx).1,Zc (mO hx) (by omega),(k4.out t (Zl Ht.out) x hx).2⟩)
   go_loopw [7,10] (Gz w ⟨k,false,es,j8,names,aV 1 (ts.take i) ++ [n]⟩ (JV.flats 1 (ts.take i)) ((t.flat 0).map (Nd.shift n))) (fun _ j _=>t.size - (intOf j).toNat)
   case atStart=>exact⟨0,by omega,rfl,Hb3.out,by rw[List.take_zero,List.append_nil];exact HJ3.out⟩
   case round=>
    obtain⟨j,hj,rfl,b3,d2⟩:=hrel;rw[List.length_map,JV.flat_len] at hj;have cl2:=Zg b3 i4.out
    by_cases hjt:j<t.size
    ·obtain⟨gi,rfl⟩:=i0.out (by omega);obtain⟨x,hx⟩:∃x,(t.flat 0)[j]?=some x:=⟨_,Zd (by rw[JV.flat_len];exact hjt)⟩;obtain⟨n0,n8,k0⟩:=m9.out x (Zl hx);obtain⟨vnx,vkx,e1,e8,a2⟩:=(g6.out.below b3 (Zb _)).node hx;have c0:=a2 0 _ rfl;rw[Nat.add_zero] at c0;have c1:=a2 1 _ rfl;have c2:=a2 2 _ rfl;have c3:=a2 3 _ rfl;have c4:=a2 4 _ rfl;have c5:=a2 5 _ rfl;have c6:=a2 6 _ rfl;have c7:=a2 7 _ rfl;obtain⟨Anx,cnx,rfl,-,-,-⟩:=ag e1;obtain⟨Akx,ckx,rfl,n1,m0,b9⟩:=ag e8;have i2:=Qa e1;have j2:=Qa e8;have g2:=Qa b9;have l5:=Qa (show((t.flat 0).map (Nd.shift n)).take (j+1)= ((t.flat 0).map (Nd.shift n)).take j ++ [x.shift n] from bQ (by rw[List.getElem?_map,hx];rfl));have k9:=Qa k0;have d1:=Qa b3;have d9:=Qa d2;have k6:(j:Int)<t.size:=by omega
     obtain⟨xk,xt,xx,⟨xn1,xn2,xn3⟩,xns,xks⟩:=x;clear e1 e8 a2 b9 k0 b3 d2 hx;go_wp2_with fail;have e2:fX (wr.alloc (.cells #[.int .i64 xk,.bool xt,.string xx,.bool xn1,.string xn2,.int .i64 xn3,.slice Anx xns.length cnx,.slice Akx xks.length ckx] 70)) wr.heap.size ⟨xk,xt,xx,⟨xn1,xn2,xn3⟩,xns,xks⟩ (.slice Anx xns.length cnx) (.slice Akx xks.length ckx):=Zf wr _;have b1:=ac wr (.cells #[.int .i64 xk,.bool xt,.string xx,.bool xn1,.string xn2,.int .i64 xn3,.slice Anx xns.length cnx,.slice Akx xks.length ckx] 70);have g9:wr.heap.size< (wr.alloc (.cells #[.int .i64 xk,.bool xt,.string xx,.bool xn1,.string xn2,.int .i64 xn3,.slice Anx xns.length cnx,.slice Akx xks.length ckx] 70)).heap.size:=by simp
     obtain⟨w4,k1⟩:∃w4,(wr.alloc (.cells #[.int .i64 xk,.bool xt,.string xx,.bool xn1,.string xn2,.int .i64 xn3,.slice Anx xns.length cnx,.slice Akx xks.length ckx] 70))=w4:=⟨_,rfl⟩;rw[k1] at e2 b1 g9 ⊢;have d3:=Qa e2;have n9:=Qa b1;have f5:=Qa (d9.out.below b1);have g1:=Qa (i2.out.below b1 (Zb _));have g3:=Qa (j2.out.below b1 (Zb _));have f2:=Qa (d1.out.trans (b1.mono d1.out.size));have g8:Hid (∀g,u7.ownBlock=some g->g<wr.heap.size):=Qa (fun g e=>by obtain⟨_,_,_,h,_⟩:=d9.out;exact(World.ownsRow.lt h g e).2);obtain⟨bx,a5⟩:∃bx,wr.heap.size=bx:=⟨_,rfl⟩;have n4:w.heap.size<=bx:=by rw[<-a5];exact d1.out.size
     rw[a5] at d3 g9 g8 ⊢;clear k1 e2 b1 d9 i2 j2 d1 a5 c0 c1 c2 c3 c4 c5 c6 c7 cl2
     go_loopw [12,13] (Gu w4 xks n) (fun _ q _=>xks.length - (intOf q).toNat)
     case atStart=>exact⟨0,by omega,rfl,Ze _ _,by rw[List.take_zero,List.map_nil];exact bI.nil _ _⟩
     case round=>
      obtain⟨q,hq,rfl,c9,i8⟩:=hrel;have b5:=Qa c9;have a9:=Qa i8;have cb7:=(d3.out.below c9).cell 7 _ rfl;have e3:=c9.size;clear c9 i8
      by_cases hqt:q<xks.length
      ·obtain⟨gk,rfl⟩:=g2.out (by omega);obtain⟨z,hz⟩:∃z,xks[q]?=some z:=⟨_,Zd hqt⟩;have ckq:=aL (g3.out.below b5.out (Zb _)) rfl q (by omega);rw[List.getElem?_map,hz] at ckq;simp only[Option.map_some,cO] at ckq;have hzb:=k9.out z (Zl hz);have Hz:=Qa (show(xks.take (q+1)).map (· + n)= (xks.take q).map (· + n) ++ [z+n] by rw[bQ hz,List.map_append];rfl);have j0:=Qa (show((xks.take q).map (· + n)).length=q by rw[List.length_map,List.length_take];omega);have o3:(q:Int)<xks.length:=by omega
       clear hz;go_wp2_with (at_builtin;refine km iz (by have:=(a9.out.below (ac wr (.cells #[.int .i64 ((z:Int)+n)] 3)) (Zb _));unfold bI at this;rw[j0.out] at this;exact this) (ap wr [cO (z+n)] 3) (by simp;omega) ?_ (h1:=(by simp[cO,Value.oneCell']));intro v' w5 h1 h2 h3;have HK:=Qa h1;have HG:=Qa h2;clear h1 h2 h3);have b7:Below w4.heap.size w4 (wr.alloc (.cells #[.int .i64 ((z:Int)+n)] 3)):=b5.out.alloc e3 _;exact⟨⟨q+1,by omega,by go_num,aY b7 (a9.out.below (ac _ _) (Zb _)) b7.size HG.out,by rw[Hz.out];unfold bI;rw[List.length_append,j0.out,List.map_append];exact HK.out⟩,by simp[intOf];omega⟩
      ·obtain rfl:q=xks.length:=by omega
       rw[List.take_length] at a9;go_wp2_with fail;obtain⟨vn0,vk0,us,h1,h2,h3,h4,h5,hN⟩:=f5.out;have HN:=Qa hN;clear hN;obtain⟨m,d6⟩:∃m,1+ (JV.flats 1 (ts.take i)++ ((t.flat 0).map (Nd.shift n)).take j).length=m:=⟨_,rfl⟩;have l3:m=n+j:=by
        rw[<-d6,List.length_append,List.length_take,List.length_map,JV.flat_len];have:=i9.out;omega
       rw[d6] at h1;have H1:=Qa h1;have H2:=Qa h2;have H3:=Qa h3;have H4:=Qa h4;have H5:=Qa h5;have l4:=Qa d6;have l1:m<=1000000:=by omega
       have a1:=nP.of_box (d3.out.below (b5.out.drew));obtain⟨Ak12,ck12,rfl,-,-,-⟩:=ag a9.out;rw[List.length_map] at a9 ⊢;have b0:=Qa a1;have a6:w.heap.size<=w4.heap.size:=by omega
       clear h1 h2 h3 h4 h5 d6 l3 a1 cb7;refine aA (fun w'=>w'.cell? ⟨bx,0,none⟩=some (.int .i64 xk)/\w'.cell? ⟨bx,1,none⟩=some (.bool xt)/\w'.cell? ⟨bx,2,none⟩=some (.string xx)/\w'.cell? ⟨bx,3,none⟩=some (.bool xn1)/\w'.cell? ⟨bx,4,none⟩=some (.string xn2)/\w'.cell? ⟨bx,5,none⟩=some (.int .i64 xn3)/\w'.cell? ⟨bx,6,none⟩=some (.slice Anx xns.length cnx)) (b0.out) fun a0=>?_
       refine tH 0 a0 ?_;refine tH 1 a0 ?_;refine tH 2 a0 ?_;refine tH 3 a0 ?_;refine tH 4 a0 ?_;refine tH 5 a0 ?_
       try simp only[Act.put,jP,jQ,jR]
       refine tH 6 a0 ?_;refine tH 7 a0 ?_;refine tH 8 a0 ?_;refine tH 9 a0 ?_;refine tH 10 a0 ?_;refine tH 12 a0 ?_
       try simp only[Act.put,jP,jQ,jR]
       refine rH 11 fun K hK=>?_
       go_simp;refine(lw ((Sl.of_own g1.out).below b5.out.drew) n0).mono ?_;rintro e w5 ⟨vt5,rfl,f3,f1⟩;obtain⟨At5,ct5,rfl,-,-,-⟩:=ag f1;have b2:Below w4.heap.size w4 w5:=b5.out.drew.trans (f3.mono e3);have q5:=nP.of_box (d3.out.below b2);have f0:=Qa (show Below wr.heap.size wr w5 from((Ze wr.heap.size wr).drew).trans f3);have d4:=Qa b2;have g5:=Qa f1;clear f3 f1 b2;go_wp2_with fail;refine hK.out _ _ (q5) (fun a0=>?_);clear hK K
       try simp only[Act.put,jP,jQ,jR]
       refine tH 13 a0 ?_
       try simp only[Act.put,jP,jQ,jR]
       refine rH 14 fun K hK=>?_
       go_simp;have q6:=q5.grown (World.grownBy_alloc w5 (.cells #[.int .i64 xk,.bool xt,.string xx,.bool xn1,.string xn2,.int .i64 xn3,.slice At5 xns.length ct5,.slice Ak12 xks.length ck12] 70) none) (fun e=>by cases e);refine hK.out _ _ (q6) (fun a0=>?_);clear hK K
       try simp only[Act.put,jP,jQ,jR]
       refine rH 15 fun K hK=>?_
       refine xU rT (ao (ao H1.out d4.out (Zb _)) (ac _ _) (Zb _)) (ap w5 _ 70) (by have:=d4.out.size;simp;omega) ?_ (h1:=(by intro u hu;simp[ay] at hu;rcases hu with rfl|rfl|rfl|rfl|rfl|rfl|rfl|rfl <;> rfl));intro v7 w6 h1 h2 h3;have q7:=q6.grown h2 (fun e=>Nat.lt_irrefl _ (g8.out bx e.symm));have HK:=Qa h1;have HG:=Qa h2;clear h1 h2 h3;refine hK.out _ _ (q7) (fun a0=>?_);clear hK K
       try simp only[Act.put,jP,jQ,jR]
       refine tH 16 a0 ?_
       try simp only[Act.put,jP,jQ,jR]
       refine wpAnyH_done (by kernel_rfl) (NoPanic.normal ?_) _;have a7:Below w4.heap.size w4 (w5.alloc (.cells #[.int .i64 xk,.bool xt,.string xx,.bool xn1,.string xn2,.int .i64 xn3,.slice At5 xns.length ct5,.slice Ak12 xks.length ck12] 70)):=d4.out.alloc d4.out.size _;have c8:Below w.heap.size w w6:=(f2.out.trans (a7.mono a6)).grown HG.out (Zc a6 a7.size) (fun g e=>(aj H1.out e).1);have e0:w.heap.size<=wr.heap.size:=Zc a6 e3;have hJ:=fy.snoc (y:=⟨xk,xt,xx,⟨xn1,xn2,xn3⟩,xns,xks.map (· + n)⟩) (ao H1.out a7 (Zb _)) (H2.out.below a7 (Zb _)) (H3.out.below a7 (Zb _)) (H4.out.mono fun _ _ h=>h.below a7 (Zb _)) H5.out HN.out (fun g e=>Zc e0 (aj g5.out e).1) l4.out.symm
        ⟨_,_,rfl,(g5.out.below (ac _ _) (Zb _)).low (Zk _),by
         have:=(a9.out.below f0.out (Zb _)).low (Zk _);exact(this.below (ac _ _) (Zb _))⟩
        (fun g e e'=>by
         have h1:=(World.ownsRow.lt H3.out g e').2;have h2:=(aj a9.out e).1;omega) HK.out HG.out
       have HJ:=Qa hJ;have n2:=Qa c8;clear hJ a7 c8 q5 q6 q7 a0;go_wp2_with fail;exact⟨⟨j+1,by rw[List.length_map,JV.flat_len];omega,by go_num,n2.out,by rw[l5.out,<-List.append_assoc];exact HJ.out⟩,by simp[intOf];omega⟩
    ·obtain rfl:j=t.size:=by omega
     have m1:n=1+JV.sizes (ts.take i):=m5.out;have HJ:=Qa d2;have f9:=Qa b3;clear d2 b3;go_wp2_with fail;refine⟨⟨i+1,by omega,by go_num,f9.out,?_⟩,by simp[intOf];omega⟩;have h:=HJ.out;have he:((t.flat 0).map (Nd.shift n)).take t.size= (t.flat 0).map (Nd.shift n):=List.take_of_length_le (by rw[List.length_map,JV.flat_len];exact Zb _);rw[he,m1,<-ye Ht.out 1] at h;rw[Hx.out];exact h
  ·obtain rfl:i=ts.length:=by omega
   have HJ:=Qa hj;have f9:=Qa b8;clear hj b8;go_wp2_with fail;go_ret;refine⟨_,rfl,f9.out,?_⟩;have h:=HJ.out.flat;rw[List.take_length] at h;exact h
theorem sx {vl:Value}(hl:gZ w vl (ts.map (JV.flat 0)))(hsz:JV.sizes ts<=1000000)
  (hkl:∀t∈ts,∀x∈t.flat 0,x.names.length<=1000000/\∀q∈x.kids,q<=1000000) :
  Calls Tryz.prog 155 #[vl] w fun e w'=>pw w (JV.flat 0 (.mk 5 false es j8 [] ts)) e w':=by
 have Hl:=Qa hl;clear hl;go_enter Tryz.func155,Tryz.ntmps155;go_wp2_with fail;refine(se (k:=5) (names:= []) (Sl.of_own (dh.nil w 0)) Hl.out (by simp) hsz hkl).mono ?_;rintro e w1 ⟨v,rfl,hb,hf⟩;go_wp2_with fail;go_ret;exact⟨_,rfl,hb,hf⟩
theorem oV {vl:Value}{names:List ByteArray}(hn:Sl w vn (names.map dU))(hl:gZ w vl (ts.map (JV.flat 0)))(hnl:names.length<=1000000)(hsz:JV.sizes ts<=1000000)
  (hkl:∀t∈ts,∀x∈t.flat 0,x.names.length<=1000000/\∀q∈x.kids,q<=1000000) :
  Calls Tryz.prog 191 #[vn,vl] w fun e w'=>pw w (JV.flat 0 (.mk 6 false es j8 names ts)) e w':=by
 have Hl:=Qa hl;have Hn:=Qa hn;clear hl hn;go_enter Tryz.func191,Tryz.ntmps191;go_wp2_with fail;refine(se (k:=6) Hn.out Hl.out hnl hsz hkl).mono ?_;rintro e w1 ⟨v,rfl,hb,hf⟩;go_wp2_with fail;go_ret;exact⟨_,rfl,hb,hf⟩
def Wr (w:World)(v:Value):Prop:=v =.slice none 0 0\/∃g c b p s,v =.slice (some ⟨g,0,none⟩) 1 c/\w.cell? ⟨g,0,none⟩=some (.bool b)/\w.cell? ⟨g,1,none⟩=some (.int .i64 p)/\w.cell? ⟨g,2,none⟩=some (.string s)
theorem Wr.below (h:Wr w v)(hb:Below w.heap.size w w'):Wr w' v:=by
 rcases h with rfl|⟨g,c,b,p,s,rfl,h1,h2,h3⟩
 ·exact .inl rfl
 ·exact .inr ⟨g,c,b,p,s,rfl,Zg hb h1,Zg hb h2,Zg hb h3⟩
def dA (c h l:Int)(s:Value):Value:=.agg #[.int .i64 c,.int .i64 h,.int .i64 l,s]
def dE (w:World)(c:Int)(v:Value):Prop:= ∃h l s,v=dA c h l s/\Wr w s
def tV (w:World)(c:Int)(e:Ending)(w':World):Prop:= ∃v,e =.returned v/\dE w' c v/\Below w.heap.size w w'
theorem dE.below {c:Int}(h:dE w c v)(hb:Below w.heap.size w w'):dE w' c v:=by
 obtain⟨a,l,s,rfl,hs⟩:=h;exact⟨a,l,s,rfl,hs.below hb⟩
theorem Wr.slice (h:Wr w v):∃A n c,v =.slice A n c/\n<=1:=by
 rcases h with rfl|⟨g,c,b,p,s,rfl,_⟩
 ·exact⟨_,_,_,rfl,by omega⟩
 ·exact⟨_,_,_,rfl,by omega⟩
theorem bi:(Tryz.prog.info? 62).map (·.size)=some 4:=by kernel_rfl
theorem cD (c p:Int)(w:World):Calls Tryz.prog 118 #[.int .i64 c,.int .i64 p] w (tV w c):=by
 go_enter Tryz.func118,Tryz.ntmps118;go_wp2;refine Zh (results_cell_row Tryz.results118 _ _ w.heap.size 62 #[.int .i64 c,.int .i64 0,.int .i64 0,.slice (some ⟨w.heap.size+1,0,none⟩) 1 1] (0,0) _ (by simp) ?_ Tryz.underlying62 rfl bi) rfl ⟨_,rfl,⟨0,0,_,rfl,.inr ⟨w.heap.size+1,1,false,p,es,rfl,?_,?_,?_⟩⟩,?_⟩
 ·exact(Below.heap_alloc _ _ _ (by simp)).trans (Zf w _)
 ·have:=ap (w.alloc (.cells #[.int .i64 c,.int .i64 0,.int .i64 0,.slice (some ⟨w.heap.size+1,0,none⟩) 1 1] 62)) [.bool false,.int .i64 p,.string es] 298 0 _ rfl
  rwa[World.size_alloc] at this
 ·have:=ap (w.alloc (.cells #[.int .i64 c,.int .i64 0,.int .i64 0,.slice (some ⟨w.heap.size+1,0,none⟩) 1 1] 62)) [.bool false,.int .i64 p,.string es] 298 1 _ rfl
  rwa[World.size_alloc] at this
 ·have:=ap (w.alloc (.cells #[.int .i64 c,.int .i64 0,.int .i64 0,.slice (some ⟨w.heap.size+1,0,none⟩) 1 1] 62)) [.bool false,.int .i64 p,.string es] 298 2 _ rfl
  rwa[World.size_alloc] at this
 ·exact((Ze _ _).alloc (Zb _) _).alloc (by simp) _
theorem eH (c:Int)(w:World):Calls Tryz.prog 80 #[.int .i64 c] w (tV w c):=by
 go_enter Tryz.func80,Tryz.ntmps80;go_wp2;exact Zh (results_cell_row Tryz.results80 _ _ w.heap.size 62 #[.int .i64 c,.int .i64 0,.int .i64 0,.slice none 0 0] (0,0) _ (by simp) (Zf w _) Tryz.underlying62 rfl bi) rfl ⟨_,rfl,⟨0,0,_,rfl,.inl rfl⟩,ac _ _⟩
theorem yi (c h l:Int)(w:World):Calls Tryz.prog 110 #[.int .i64 c,.int .i64 h,.int .i64 l] w (tV w c):=by
 go_enter Tryz.func110,Tryz.ntmps110;go_wp2;exact Zh (results_cell_row Tryz.results110 _ _ w.heap.size 62 #[.int .i64 c,.int .i64 h,.int .i64 l,.slice none 0 0] (0,0) _ (by simp) (Zf w _) Tryz.underlying62 rfl bi) rfl ⟨_,rfl,⟨h,l,_,rfl,.inl rfl⟩,ac _ _⟩
def nG (a b c d e f:Int):Value:=.agg #[.int .i64 a,.int .i64 b,.int .i64 c,.int .i64 d,.int .i64 e,.int .i64 f]
def In (w:World)(e:Ending)(w':World):Prop:= ∃ (x:Int) (b:Bool),e =.returned (.tuple #[.int .i64 x,.bool b])/\Below w.heap.size w w'
theorem pI (a b c d x f m:Int)(w:World):Calls Tryz.prog 109 #[nG a b c d x f,.int .i64 m] w (In w):=by
 unfold nG;go_enter Tryz.func109,Tryz.ntmps109;go_wp2_with fail
 all_goals
  go_ret2;exact⟨_,_,rfl,ac _ _⟩
theorem mF (c h l:Int){s:Value}(hs:s.oneCell'=true):(#[.int .i64 c,.int .i64 h,.int .i64 l,s]:Array Value).all (·.oneCell')=true:=by
 simp[hs,show ∀n,(Value.int .i64 n).oneCell'=true from fun _=>rfl]
theorem fY (a b c d x f m n:Int)(w:World):Calls Tryz.prog 82 #[nG a b c d x f,.int .i64 m,.int .i64 n] w fun e w'=> ∃k,tV w k e w':=by
 have a3:=Zf (w.alloc (.cells #[.int .i64 a,.int .i64 b,.int .i64 c,.int .i64 d,.int .i64 x,.int .i64 f] 107)) (.cells #[.int .i64 0,.int .i64 0,.int .i64 0,.slice none 0 0] 62);rw[World.size_alloc] at a3;have a9:Below w.heap.size w ((w.alloc (.cells #[.int .i64 a,.int .i64 b,.int .i64 c,.int .i64 d,.int .i64 x,.int .i64 f] 107)).alloc (.cells #[.int .i64 0,.int .i64 0,.int .i64 0,.slice none 0 0] 62)):=((Ze _ _).alloc (Zb _) _).alloc (by simp) _;have b0:((w.alloc (.cells #[.int .i64 a,.int .i64 b,.int .i64 c,.int .i64 d,.int .i64 x,.int .i64 f] 107)).alloc (.cells #[.int .i64 0,.int .i64 0,.int .i64 0,.slice none 0 0] 62)).heap.size=w.heap.size+2:=by simp
 have a4:=Qa a3;have b1:=Qa a9;have b2:=Qa b0;clear a3 a9 b0;unfold nG;go_enter Tryz.func82,Tryz.ntmps82;go_wp2_with fail;generalize ((w.alloc (.cells #[.int .i64 a,.int .i64 b,.int .i64 c,.int .i64 d,.int .i64 x,.int .i64 f] 107)).alloc (.cells #[.int .i64 0,.int .i64 0,.int .i64 0,.slice none 0 0] 62))=w0 at *;refine(pI a b c d x f m w0).mono ?_;rintro e w1 ⟨y,t,rfl,a6⟩;have a1:=Qa ((a6.block _ (ae a4.out)).trans a4.out);have a5:=Qa (b1.out.trans (a6.mono b1.out.size));clear a6;have hend:∀ (k:Int) (u:Value) (w2:World),dE w2 k u->Below w1.heap.size w1 w2->∃h l A q r,u =.agg #[.int .i64 k,.int .i64 h,.int .i64 l,.slice A q r]/\w2.heap[w.heap.size+1]?=some (.cells #[.int .i64 0,.int .i64 0,.int .i64 0,.slice none 0 0] 62 (0,0))/\
   Below w.heap.size w (w2.setRow (w.heap.size+1) #[.int .i64 k,.int .i64 h,.int .i64 l,.slice A q r])/\dE (w2.setRow (w.heap.size+1) #[.int .i64 k,.int .i64 h,.int .i64 l,.slice A q r]) k u:=by
  rintro k u w2 ⟨h,l,s,rfl,hs⟩ a0;obtain⟨A,q,r,rfl,-⟩:=hs.slice;have hh:=(a0.block _ (ae a1.out)).trans a1.out;refine⟨h,l,A,q,r,rfl,hh,(a5.out.trans (a0.mono a5.out.size)).grown (ah ..) (Zc a5.out.size a0.size) (fun g e=>by cases e;omega),h,l,_,rfl,?_⟩;rcases hs with e|⟨g,c',b',p,s',e,h1,h2,h3⟩
  ·exact .inl e
  ·have hne:some g≠some (w.heap.size+1):=fun e'=>by
    injection e' with e';subst e'
    have a7:=h1;unfold World.cell? at a7;simp[hh] at a7
   exact .inr ⟨g,c',b',p,s',e,(ah w2 _ _).cell h1 hne,(ah w2 _ _).cell h2 hne,(ah w2 _ _).cell h3 hne⟩
 have a2:=Qa hend;clear hend
 cases t
 ·go_wp2_with fail;refine(eH 0 w1).mono ?_;rintro e w2 ⟨u,rfl,hu,a0⟩;obtain⟨h,l,A,q,r,rfl,hh,h1,h2⟩:=a2.out 0 u w2 hu a0;have Hh:=Qa hh;have H1:=Qa h1;have H2:=Qa h2;clear hh h1 h2 hu a0;go_wp2_with (refine bF Hh.out ?_);exact Zh (results_cell_row Tryz.results82 _ _ (w.heap.size+1) 62 _ (0,0) _ (by simp) (setRow_heap _ _ _ _ _ _ Hh.out) Tryz.underlying62 rfl bi) rfl ⟨0,_,rfl,H2.out,H1.out⟩
 ·by_cases hn:y<n
  ·go_wp2_with fail;refine(yi m n y w1).mono ?_;rintro e w2 ⟨u,rfl,hu,a0⟩;obtain⟨h,l,A,q,r,rfl,hh,h1,h2⟩:=a2.out m u w2 hu a0;have Hh:=Qa hh;have H1:=Qa h1;have H2:=Qa h2;clear hh h1 h2 hu a0;go_wp2_with (refine bF Hh.out ?_);exact Zh (results_cell_row Tryz.results82 _ _ (w.heap.size+1) 62 _ (0,0) _ (by simp) (setRow_heap _ _ _ _ _ _ Hh.out) Tryz.underlying62 rfl bi) rfl ⟨m,_,rfl,H2.out,H1.out⟩
  ·go_wp2_with fail;refine(eH 0 w1).mono ?_;rintro e w2 ⟨u,rfl,hu,a0⟩;obtain⟨h,l,A,q,r,rfl,hh,h1,h2⟩:=a2.out 0 u w2 hu a0;have Hh:=Qa hh;have H1:=Qa h1;have H2:=Qa h2;clear hh h1 h2 hu a0;go_wp2_with (refine bF Hh.out ?_);exact Zh (results_cell_row Tryz.results82 _ _ (w.heap.size+1) 62 _ (0,0) _ (by simp) (setRow_heap _ _ _ _ _ _ Hh.out) Tryz.underlying62 rfl bi) rfl ⟨0,_,rfl,H2.out,H1.out⟩
theorem bH {k:Int}{b:Nat}(hu:dE w k u)(hh:w.heap[b]?=some (.cells #[.int .i64 c0,x1,x2,x3] 62 (0,0))) :
  ∃h l A q r,u =.agg #[.int .i64 k,.int .i64 h,.int .i64 l,.slice A q r]/\w.grownBy (w.setRow b #[.int .i64 k,.int .i64 h,.int .i64 l,.slice A q r]) (some b)/\dE (w.setRow b #[.int .i64 k,.int .i64 h,.int .i64 l,.slice A q r]) k u:=by
 obtain⟨h,l,s,rfl,hs⟩:=hu;obtain⟨A,q,r,rfl,-⟩:=hs.slice;refine⟨h,l,A,q,r,rfl,ah _ _ _,h,l,_,rfl,?_⟩;rcases hs with e|⟨g,c',b',p,s',e,h1,h2,h3⟩
 ·exact .inl e
 ·have hne:some g≠some b:=fun e'=>by
   injection e' with e';subst e'
   have a0:=h1;unfold World.cell? at a0;simp[hh] at a0
  exact .inr ⟨g,c',b',p,s',e,(ah w _ _).cell h1 hne,(ah w _ _).cell h2 hne,(ah w _ _).cell h3 hne⟩
theorem bg {wz:World}{k:Int}{b:Nat}(hu:dE wz k u)(a0:Below w0.heap.size w0 wz)(hf:w0.heap[b]?=some (.cells #[.int .i64 c0,x1,x2,x3] 62 (0,0)))(hb:Below w.heap.size w w0)(a1:w.heap.size<=b) :
  ∃h l A q r,u =.agg #[.int .i64 k,.int .i64 h,.int .i64 l,.slice A q r]/\Hid (wz.heap[b]?=some (.cells #[.int .i64 c0,x1,x2,x3] 62 (0,0)))/\Hid (Below w.heap.size w (wz.setRow b #[.int .i64 k,.int .i64 h,.int .i64 l,.slice A q r]))/\Hid (dE (wz.setRow b #[.int .i64 k,.int .i64 h,.int .i64 l,.slice A q r]) k u):=by
 have hh:=(a0.block _ (ae hf)).trans hf;obtain⟨h,l,A,q,r,e,h1,h2⟩:=bH hu hh;exact⟨h,l,A,q,r,e,hh,(hb.trans (a0.mono hb.size)).grown h1 (Zc hb.size a0.size) (fun g e=>by cases e;exact a1),h2⟩
theorem aJ (c p:Int)(w:World):Calls Tryz.prog 182 #[.int .i64 c,.int .i64 p] w (tV w c):=by
 have a0:=Qa (Zf w (.cells #[.int .i64 0,.int .i64 0,.int .i64 0,.slice none 0 0] 62));have a2:=Qa (ac w (.cells #[.int .i64 0,.int .i64 0,.int .i64 0,.slice none 0 0] 62));go_enter Tryz.func182,Tryz.ntmps182;go_wp2_with fail;generalize (w.alloc (.cells #[.int .i64 0,.int .i64 0,.int .i64 0,.slice none 0 0] 62))=w0 at *;refine(cD c p w0).mono ?_;rintro e w1 ⟨u,rfl,hu,a1⟩;have Hh:=Qa ((a1.block _ (ae a0.out)).trans a0.out);obtain⟨h,l,A,q,r,rfl,h1,h2⟩:=bH hu Hh.out;have H1:=Qa ((a2.out.trans (a1.mono a2.out.size)).grown h1 (Zc a2.out.size a1.size) (fun g e=>by cases e;exact Zb _));have H2:=Qa h2;clear h1 h2 hu a1;go_wp2_with (refine bF Hh.out ?_);exact Zh (results_cell_row Tryz.results182 _ _ w.heap.size 62 _ (0,0) _ (by simp) (setRow_heap _ _ _ _ _ _ Hh.out) Tryz.underlying62 rfl bi) rfl ⟨_,rfl,H2.out,H1.out⟩
theorem eo (w:World):Calls Tryz.prog 183 #[] w (tV w 0):=by
 have a0:=Qa (Zf w (.cells #[.int .i64 0,.int .i64 0,.int .i64 0,.slice none 0 0] 62));have a2:=Qa (ac w (.cells #[.int .i64 0,.int .i64 0,.int .i64 0,.slice none 0 0] 62));go_enter Tryz.func183,Tryz.ntmps183;go_wp2_with fail;generalize (w.alloc (.cells #[.int .i64 0,.int .i64 0,.int .i64 0,.slice none 0 0] 62))=w0 at *;refine(eH 0 w0).mono ?_;rintro e w1 ⟨u,rfl,hu,a1⟩;have Hh:=Qa ((a1.block _ (ae a0.out)).trans a0.out);obtain⟨h,l,A,q,r,rfl,h1,h2⟩:=bH hu Hh.out;have H1:=Qa ((a2.out.trans (a1.mono a2.out.size)).grown h1 (Zc a2.out.size a1.size) (fun g e=>by cases e;exact Zb _));have H2:=Qa h2;clear h1 h2 hu a1;go_wp2_with (refine bF Hh.out ?_);exact Zh (results_cell_row Tryz.results183 _ _ w.heap.size 62 _ (0,0) _ (by simp) (setRow_heap _ _ _ _ _ _ Hh.out) Tryz.underlying62 rfl bi) rfl ⟨_,rfl,H2.out,H1.out⟩
def Gv (w:World)(s3:Value)(wr:World):Prop:= ∃k:Nat,k<=6/\s3 =.int .i64 k/\Below w.heap.size w wr
def Dg (w:World)(e:Ending)(w':World):Prop:= ∃b,e =.returned (.bool b)/\Below w.heap.size w w'
theorem Fy (a b c d x f:Int)(w:World):Calls Tryz.prog 81 #[nG a b c d x f] w (Dg w):=by
 unfold nG;have a0:=ap w [.int .i64 a,.int .i64 b,.int .i64 c,.int .i64 d,.int .i64 x,.int .i64 f] 107;have a1:=Qa (ac w (.cells #[.int .i64 a,.int .i64 b,.int .i64 c,.int .i64 d,.int .i64 x,.int .i64 f] 107));have c0:=a0 0 _ rfl;have c1:=a0 1 _ rfl;have c2:=a0 2 _ rfl;have c3:=a0 3 _ rfl;have c4:=a0 4 _ rfl;have c5:=a0 5 _ rfl;have hz:w.heap.size< (w.alloc (.cells #[.int .i64 a,.int .i64 b,.int .i64 c,.int .i64 d,.int .i64 x,.int .i64 f] 107)).heap.size:=by simp
 have Hc:=Qa (show ∀wr,Below (w.alloc (.cells #[.int .i64 a,.int .i64 b,.int .i64 c,.int .i64 d,.int .i64 x,.int .i64 f] 107)).heap.size (w.alloc (.cells #[.int .i64 a,.int .i64 b,.int .i64 c,.int .i64 d,.int .i64 x,.int .i64 f] 107)) wr->wr.cell? ⟨w.heap.size,0,none⟩=some (.int .i64 a)/\wr.cell? ⟨w.heap.size,1,none⟩=some (.int .i64 b)/\wr.cell? ⟨w.heap.size,2,none⟩=some (.int .i64 c)/\wr.cell? ⟨w.heap.size,3,none⟩=some (.int .i64 d)/\wr.cell? ⟨w.heap.size,4,none⟩=some (.int .i64 x)/\wr.cell? ⟨w.heap.size,5,none⟩=some (.int .i64 f) from
  fun wr h=>⟨Zg h c0,Zg h c1,Zg h c2,Zg h c3,Zg h c4,Zg h c5⟩)
 clear a0 c0 c1 c2 c3 c4 c5 hz;go_enter Tryz.func81,Tryz.ntmps81;go_wp2_with fail;generalize (w.alloc (.cells #[.int .i64 a,.int .i64 b,.int .i64 c,.int .i64 d,.int .i64 x,.int .i64 f] 107))=w0 at *
 go_loopw [3] (Gv w0) (fun i _=>6 - (intOf i).toNat)
 case atStart=>exact⟨1,by omega,rfl,Ze _ _⟩
 case round=>
  obtain⟨k,hk,rfl,hb⟩:=hrel;obtain⟨c0,c1,c2,c3,c4,c5⟩:=Hc.out wr hb;have Hb:=Qa hb;clear hb
  by_cases hlt:k<6
  ·have hki:(k:Int)<6:=by omega
   go_wp2_with fail;refine(pI a b c d x f k wr).mono ?_;rintro e w1 ⟨y,t,rfl,a3⟩;have a2:=Qa (Hb.out.trans (a3.mono Hb.out.size));clear a3 c0 c1 c2 c3 c4 c5
   by_cases h1:y<0
   ·go_wp2_with fail;go_ret;exact⟨_,rfl,a1.out.trans (a2.out.mono a1.out.size)⟩
   ·by_cases h2:1073741824<y
    ·go_wp2_with fail;go_ret;exact⟨_,rfl,a1.out.trans (a2.out.mono a1.out.size)⟩
    ·go_wp2_with fail;exact⟨⟨k+1,by omega,by go_num,a2.out⟩,by simp[intOf];omega⟩
  ·have hki:¬ (k:Int)<6:=by omega
   go_wp2_with fail
   all_goals
    go_ret;exact⟨_,rfl,a1.out.trans (Hb.out.mono a1.out.size)⟩
