import Derived.Test.YtpkdfmjdhmpopaaGreatDoorGZ3ad
set_option linter.unusedVariables false
set_option linter.unusedSimpArgs false
set_option maxHeartbeats 64000000
set_option maxRecDepth 100000
namespace Go.Proofs.YtpkdfmjdhmpopaaGreatDoor
open Go.RowKit
variable {c0 : Int} {names : List ByteArray} {ts : List JV} {b : Nat} {u v vk vl vn x1 x2 : Value} {W W' w w' : World}
def ll:Dc:=⟨false,es,0⟩
def gd (W:World)(b:Nat)(x:Nd)(vn vk:Value):Prop:=W.heap[b]?=some (.cells (aY x vn vk).toArray 77 (0,0))
theorem gd.cell {x:Nd}(h:gd W b x vn vk)(j:Nat)(u:Value)(hu: (aY x vn vk)[j]?=some u):W.cell? ⟨b,j,none⟩=some u:=by
 unfold gd at h;unfold World.cell?;simp only [h];simpa using hu
theorem gd.below {x:Nd}(h:gd W b x vn vk)(hb:Below W.heap.size W W'):gd W' b x vn vk:=(hb.block b (ae h)).trans h
def oC (b:Nat)(x:Nd)(vn:Value)(w:World):Prop:=
 w.cell? ⟨b,0,none⟩=some (.int .i64 x.kind)/\w.cell? ⟨b,1,none⟩=some (.bool x.tr)/\w.cell? ⟨b,2,none⟩=some (.string x.text)/\w.cell? ⟨b,3,none⟩=some (.bool x.num.neg)/\w.cell? ⟨b,4,none⟩=some (.string x.num.digits)/\w.cell? ⟨b,5,none⟩=some (.int .i64 x.num.exp)/\w.cell? ⟨b,6,none⟩=some vn
theorem oC.of_box {x:Nd}(h:gd W b x vn vk):oC b x vn W:=
 ⟨h.cell 0 _ rfl,h.cell 1 _ rfl,h.cell 2 _ rfl,h.cell 3 _ rfl,h.cell 4 _ rfl,h.cell 5 _ rfl,h.cell 6 _ rfl⟩
theorem oC.grown {x:Nd}{row:Option Nat}(h:oC b x vn W)(hg:W.grownBy W' row)(hr:some b≠row):oC b x vn W':=
 ⟨hg.cell h.1 hr,hg.cell h.2.1 hr,hg.cell h.2.2.1 hr,hg.cell h.2.2.2.1 hr,hg.cell h.2.2.2.2.1 hr,hg.cell h.2.2.2.2.2.1 hr,hg.cell h.2.2.2.2.2.2 hr⟩
def D5 (w:World)(k:Int)(names:List ByteArray)(ts:List JV)(s7 s8:Value)(wr:World):Prop:=
 ∃i:Nat,i<=ts.length/\s8 = .int .i64 i/\Below w.heap.size w wr/\fJ wr w.heap.size s7 ⟨k,false,es,ll,names,bi 1 (ts.take i)⟩ (JV.flats 1 (ts.take i))
def E7 (w:World)(x:Nd)(rest more:List Nd)(s7 s10:Value)(wr:World):Prop:=
 ∃j:Nat,j<=more.length/\s10 = .int .i64 j/\Below w.heap.size w wr/\fJ wr w.heap.size s7 x (rest++more.take j)
def EJ (w4:World)(kids:List Nat)(at_:Nat)(s12 s13:Value)(wr:World):Prop:=
 ∃q:Nat,q<=kids.length/\s13 = .int .i64 q/\Below w4.heap.size w4 wr/\cB wr w4.heap.size s12 ((kids.take q).map (· + at_))
def Aw (w:World)(ns:List Nd)(e:Ending)(w':World):Prop:= ∃v,e = .returned v/\Below w.heap.size w w'/\bG (w.heap.size<= ·) w' w.heap.size v ns
theorem tc {k:Int}(hn:Sl w vn (names.map dq))(hl:ir w vl (ts.map (JV.flat 0)))(hnl:names.length<=1000000)(n2:JV.sizes ts<=1000000)
  (hkl:∀t∈ts,∀x∈t.flat 0,x.names.length<=1000000/\∀q∈x.kids,q<=1000000) :
  Calls Tryz.prog 189 #[.int .i64 k,vn,vl] w fun e w'=>Aw w (JV.flat 0 (.mk k false es ll names ts)) e w':=by
 obtain⟨vs,⟨hm,A,cap,rfl,f9,hA⟩,f0⟩:=id hl;have e8:vs.length=ts.length:=by have:=f0.1;simpa using this
 rw [e8] at hm f9 hA ⊢;have HA:=Qa hA;have k9:=Qa f0;have p1:=Qa e8;have Hn:=Qa hn;have h6:=Qa hkl;clear hn hl hA f0 e8 hkl;have l2:ts.length<=1000000:=Zb (cW ts) n2;go_enter Tryz.func189,Tryz.ntmps189;go_wp2_with fail;refine(pm Hn.out hnl).mono ?_;rintro e w1 ⟨vt,rfl,k1,g3⟩;have f8:=Qa k1;have g8:=Qa g3;obtain⟨At,ct,rfl, -, -, -⟩:=ag g3;clear k1 g3;go_wp2_with fail
 go_loopw [7,8] (D5 w k names ts) (fun _ i _=>ts.length - (intOf i).toNat)
 case atStart=>
  refine⟨0,by omega,rfl,f8.out.alloc f8.out.size _,_, .slice none 0 0, [], ?_,(g8.out.below (ac _ _) (Za _)).low (Zj _),cB.nil _ _,bB.nil _,fun u hu=>by simp at hu,fun u hu g e=> ?_⟩
  rotate_left
  ·simp at hu;subst hu;exact(ak g8.out (by simpa [aY] using e)).1 |> Zb (Za _)
  have:=eH (n:=1) (k:=8) (Ze w1 (.cells (aY ⟨k,false,es,ll,names, []⟩ (.slice At names.length ct) (.slice none 0 0)).toArray 77)) f8.out.size (by unfold maxLen;omega) rfl;simp only [List.take_zero,JV.flats,bi,List.length_nil,List.flatten_nil,List.append_nil,Nat.add_zero];exact this
 case round=>
  obtain⟨i,hi,rfl,c8,hj⟩:=hrel
  by_cases hlt:i<ts.length
  ·obtain⟨gl,ol,rfl,d6⟩:=HA.out (by omega)
   obtain⟨t,ht⟩:∃t,ts[i]?=some t:=⟨_,Zc hlt⟩;obtain⟨vi,c9,e0⟩:=k9.out.get (i:=i) (b:=t.flat 0) (by rw [List.getElem?_map,ht];rfl);have cl:=Zf c8 (d6 i vi c9);have i5:=Qa (d6 i vi c9);have p3:gl<w.heap.size:=World.block_lt_of_cell? w _ (d6 i vi c9);obtain⟨Ai,ci,rfl,l3,n1,k2⟩:=e0.form;have i2:=Qa e0;have g6:=Qa k2;rw [JV.flat_len] at l3 n1 cl i5 i2 g6;obtain⟨vn0,vk0,us,h1,h2,h3,h4,h5,hN⟩:=hj;have HN:=Qa hN;clear hN;obtain⟨n,hn⟩:∃n,1+ (JV.flats 1 (ts.take i)).length=n:=⟨_,rfl⟩;rw [hn] at h1;have k3:n=1+JV.sizes (ts.take i):=by rw [<- hn,JV.flats_len]
   have p0:=jG ht;have n6:n+t.size<=1000001:=by omega
   have h7:0<n:=by omega
   obtain⟨g7,c7,rfl,f1,p2,n0⟩:∃g cap,u7 = .slice (some ⟨g,0,none⟩) n cap/\w.heap.size<=g/\n<=cap/\n<=maxLen:=by
    rcases bR h1 with ⟨_,h0,_⟩ | h
    ·omega
    ·exact h
   have ck:wr.cell? ⟨g7,7,none⟩=some vk0:=by rw [World.ownsRow.cellAt h1 7 (by omega)];rfl
   have fk:=World.ownsRow.frozenAt h1 7;have n4:g7<wr.heap.size:=World.block_lt_of_cell? wr _ ck;have H1:=Qa h1;have H2:=Qa h2;have H3:=Qa h3;have H4:=Qa h4;have H5:=Qa h5;have m9:=Qa k3;have i9:=Qa hn;have j0:=Qa c8;have Ht:=Qa ht;have k0:∀g,vk0.ownBlock=some g->g≠g7:=fun g e e'=>by
    subst e';obtain⟨_,cur,hh⟩:=ak h3 e;obtain⟨cs,z,b3⟩:=cO h1 g rfl;rw [hh] at b3;injection b3 with b3;injection b3 with _ b3 _;exact absurd b3 (by decide)
   have i3:=Qa k0;clear h1 h2 h3 h4 h5 k3 hn c8 ht e0 k2 d6 c9 k0 n0;have g4:w.heap.size<=wr.heap.size:=j0.out.size;have a3: (bi 1 (ts.take i)).length=i:=by rw [cS,List.length_take];omega
   have a4:=Qa a3;clear a3;go_wp2_with (at_builtin;refine ar jI rfl (.tmp 31) (.tmp 33) rfl w.heap.size vk0 i wr.heap.size 1 1 ((bi 1 (ts.take i)).map bX) [bX n] (by simp [Act.eval]) (by have:=(H3.out.below (ac wr (.cells #[.int .i64 (n:Int)] 3)) (Za _));unfold cB at this;rw [a4.out] at this;exact this) (by simp [Act.eval]) rfl (av wr [bX n] 3) (by simp [bX,Value.oneCell']) (by unfold maxLen;omega) (by omega) (by simp;omega) ?_;intro vk1 w2 h1 h2 h3;obtain⟨Ak,ck',rfl, -, -, -⟩:=ag h1;have ck2:=h2.cell ((World.cell?_alloc_lt wr (.cells #[.int .i64 (n:Int)] 3) ⟨g7,7,none⟩ n4).trans ck) (fun e=>i3.out g7 e.symm rfl);have fk2:w2.frozen? ⟨g7,7,none⟩=false:=World.ownsRow.frozenAt (World.ownsRow.kept (ap H1.out (ac wr (.cells #[.int .i64 (n:Int)] 3)) (Za _)) h2 (.inr (fun e=>i3.out g7 e.symm rfl))) 7;have HK:=Qa h1;have HG:=Qa h2;have HO:=Qa h3;clear h1 h2 h3);have b9:Below wr.heap.size wr (wr.alloc (.cells #[.int .i64 (n:Int)] 3)):=ac _ _;have k5:=xi (m:=n) (ap H1.out b9 (Za _)) (H2.out.below b9 (Za _)) (H4.out.mono fun _ _ h=>h.below b9 (Za _)) H5.out HN.out i9.out.symm (by unfold cB;rw [List.length_append,a4.out,List.map_append];exact HK.out) HG.out HO.out (cO (H3.out.below b9 (Za _)));have b8:Below w.heap.size w w2:=(j0.out.alloc g4 _).grown HG.out (by simp;omega) (fun g e=>(ak H3.out e).1);have h9:Below w.heap.size w (w2.setCell ⟨g7,7,none⟩ (.slice Ak (i+1) ck')):=b8.setCell f1 _;have HJ3:=Qa k5;have Hb3:=Qa h9;clear b9 k5 b8 h9 ck fk ck2;go_wp2_with fail;obtain⟨w3,i8⟩:∃w3,(w2.setCell ⟨g7,7,none⟩ (.slice Ak (i+1) ck'))=w3:=⟨_,rfl⟩;rw [i8] at HJ3 Hb3 ⊢;clear i8 fk2 HK HG HO;have Hx:=Qa (uA Ht.out 1);have l0:Hid (∀x∈t.flat 0,x.names.length<=1000000/\x.kids.length<=1000000/\∀q∈x.kids,q<=1000000):=Qa (fun x hx=>⟨(h6.out t (Zk Ht.out) x hx).1,Zb (xI hx) (by omega),(h6.out t (Zk Ht.out) x hx).2⟩)
   go_loopw [7,10] (E7 w ⟨k,false,es,ll,names,bi 1 (ts.take i) ++ [n]⟩ (JV.flats 1 (ts.take i)) ((t.flat 0).map (Nd.shift n))) (fun _ j _=>t.size - (intOf j).toNat)
   case atStart=>exact⟨0,by omega,rfl,Hb3.out,by rw [List.take_zero,List.append_nil];exact HJ3.out⟩
   case round=>
    obtain⟨j,hj,rfl,b4,d1⟩:=hrel;rw [List.length_map,JV.flat_len] at hj;have cl2:=Zf b4 i5.out
    by_cases hjt:j<t.size
    ·obtain⟨gi,rfl⟩:=g6.out (by omega)
     obtain⟨x,hx⟩:∃x,(t.flat 0)[j]?=some x:=⟨_,Zc (by rw [JV.flat_len];exact hjt)⟩;obtain⟨m5,n5,j3⟩:=l0.out x (Zk hx);obtain⟨vnx,vkx,f6,f3,a2⟩:=(i2.out.below b4 (Za _)).node hx;have c0:=a2 0 _ rfl;rw [Nat.add_zero] at c0;have c1:=a2 1 _ rfl;have c2:=a2 2 _ rfl;have c3:=a2 3 _ rfl;have c4:=a2 4 _ rfl;have c5:=a2 5 _ rfl;have c6:=a2 6 _ rfl;have c7:=a2 7 _ rfl;obtain⟨Anx,cnx,rfl, -, -, -⟩:=ag f6;obtain⟨Akx,ckx,rfl,m4,l4,b5⟩:=ag f3;have g9:=Qa f6;have g5:=Qa f3;have f4:=Qa b5;have m1:=Qa (show((t.flat 0).map (Nd.shift n)).take (j+1)= ((t.flat 0).map (Nd.shift n)).take j ++ [x.shift n] from cL (by rw [List.getElem?_map,hx];rfl));have l5:=Qa j3;have d3:=Qa b4;have d9:=Qa d1;have k6: (j:Int)<t.size:=by omega
     obtain⟨xk,xt,xx,⟨xn1,xn2,xn3⟩,xns,xks⟩:=x;clear f6 f3 a2 b5 j3 b4 d1 hx;go_wp2_with fail;have g1:gd (wr.alloc (.cells #[.int .i64 xk, .bool xt, .string xx, .bool xn1, .string xn2, .int .i64 xn3, .slice Anx xns.length cnx, .slice Akx xks.length ckx] 77)) wr.heap.size ⟨xk,xt,xx,⟨xn1,xn2,xn3⟩,xns,xks⟩ (.slice Anx xns.length cnx) (.slice Akx xks.length ckx):=Ze wr _;have a9:=ac wr (.cells #[.int .i64 xk, .bool xt, .string xx, .bool xn1, .string xn2, .int .i64 xn3, .slice Anx xns.length cnx, .slice Akx xks.length ckx] 77);have h8:wr.heap.size< (wr.alloc (.cells #[.int .i64 xk, .bool xt, .string xx, .bool xn1, .string xn2, .int .i64 xn3, .slice Anx xns.length cnx, .slice Akx xks.length ckx] 77)).heap.size:=by simp
     obtain⟨w4,j1⟩:∃w4,(wr.alloc (.cells #[.int .i64 xk, .bool xt, .string xx, .bool xn1, .string xn2, .int .i64 xn3, .slice Anx xns.length cnx, .slice Akx xks.length ckx] 77))=w4:=⟨_,rfl⟩;rw [j1] at g1 a9 h8 ⊢;have d2:=Qa g1;have n9:=Qa a9;have g0:=Qa (d9.out.below a9);have f2:=Qa (g9.out.below a9 (Za _));have e2:=Qa (g5.out.below a9 (Za _));have f5:=Qa (d3.out.trans (a9.mono d3.out.size));have k4:Hid (∀g,u7.ownBlock=some g->g<wr.heap.size):=Qa (fun g e=>by obtain⟨_,_,_,h,_⟩:=d9.out;exact(World.ownsRow.lt h g e).2);obtain⟨bx,b2⟩:∃bx,wr.heap.size=bx:=⟨_,rfl⟩;have o2:w.heap.size<=bx:=by rw [<- b2];exact d3.out.size
     rw [b2] at d2 h8 k4 ⊢;clear j1 g1 a9 d9 g9 g5 d3 b2 c0 c1 c2 c3 c4 c5 c6 c7 cl2
     go_loopw [12,13] (EJ w4 xks n) (fun _ q _=>xks.length - (intOf q).toNat)
     case atStart=>exact⟨0,by omega,rfl,Zd _ _,by rw [List.take_zero,List.map_nil];exact cB.nil _ _⟩
     case round=>
      obtain⟨q,hq,rfl,d5,j2⟩:=hrel;have b7:=Qa d5;have b0:=Qa j2;have cb7:=(d2.out.below d5).cell 7 _ rfl;have e6:=d5.size;clear d5 j2
      by_cases hqt:q<xks.length
      ·obtain⟨gk,rfl⟩:=f4.out (by omega)
       obtain⟨z,hz⟩:∃z,xks[q]?=some z:=⟨_,Zc hqt⟩;have ckq:=bg (e2.out.below b7.out (Za _)) rfl q (by omega);rw [List.getElem?_map,hz] at ckq;simp only [Option.map_some,bX] at ckq;have hzb:=l5.out z (Zk hz);have Hz:=Qa (show(xks.take (q+1)).map (· + n)= (xks.take q).map (· + n) ++ [z+n] by rw [cL hz,List.map_append];rfl);have i4:=Qa (show((xks.take q).map (· + n)).length=q by rw [List.length_map,List.length_take];omega);have n8: (q:Int)<xks.length:=by omega
       clear hz;go_wp2_with (at_builtin;refine ar jI rfl (.tmp 60) (.tmp 68) rfl w4.heap.size u12 q wr.heap.size 1 1 (((xks.take q).map (· + n)).map bX) [bX (z+n)] (by simp [Act.eval]) (by have:=(b0.out.below (ac wr (.cells #[.int .i64 ((z:Int)+n)] 3)) (Za _));unfold cB at this;rw [i4.out] at this;exact this) (by simp [Act.eval]) rfl (av wr [bX (z+n)] 3) (by simp [bX,Value.oneCell']) (by unfold maxLen;omega) (by omega) (by simp;omega) ?_;intro v' w5 h1 h2 h3;have HK:=Qa h1;have HG:=Qa h2;clear h1 h2 h3);have b8:Below w4.heap.size w4 (wr.alloc (.cells #[.int .i64 ((z:Int)+n)] 3)):=b7.out.alloc e6 _;exact⟨⟨q+1,by omega,by go_num,bz b8 (b0.out.below (ac _ _) (Za _)) b8.size HG.out,by rw [Hz.out];unfold cB;rw [List.length_append,i4.out,List.map_append];exact HK.out⟩,by simp [intOf];omega⟩
      ·obtain rfl:q=xks.length:=by omega
       rw [List.take_length] at b0;go_wp2_with fail;obtain⟨vn0,vk0,us,h1,h2,h3,h4,h5,hN⟩:=g0.out;have HN:=Qa hN;clear hN;obtain⟨m,d0⟩:∃m,1+ (JV.flats 1 (ts.take i)++ ((t.flat 0).map (Nd.shift n)).take j).length=m:=⟨_,rfl⟩;have m2:m=n+j:=by
        rw [<- d0,List.length_append,List.length_take,List.length_map,JV.flat_len];have:=i9.out;omega
       rw [d0] at h1;have H1:=Qa h1;have H2:=Qa h2;have H3:=Qa h3;have H4:=Qa h4;have H5:=Qa h5;have m0:=Qa d0;have n3:m<=1000000:=by omega
       have a1:=oC.of_box (d2.out.below (b7.out.drew));obtain⟨Ak12,ck12,rfl, -, -, -⟩:=ag b0.out;rw [List.length_map] at b0 ⊢;have a5:=Qa a1;have a6:w.heap.size<=w4.heap.size:=by omega
       clear h1 h2 h3 h4 h5 d0 m2 a1 cb7;refine aW (fun w'=>w'.cell? ⟨bx,0,none⟩=some (.int .i64 xk)/\w'.cell? ⟨bx,1,none⟩=some (.bool xt)/\w'.cell? ⟨bx,2,none⟩=some (.string xx)/\w'.cell? ⟨bx,3,none⟩=some (.bool xn1)/\w'.cell? ⟨bx,4,none⟩=some (.string xn2)/\w'.cell? ⟨bx,5,none⟩=some (.int .i64 xn3)/\w'.cell? ⟨bx,6,none⟩=some (.slice Anx xns.length cnx)) (a5.out) fun a0=> ?_
       refine tH 0 a0 ?_;refine tH 1 a0 ?_;refine tH 2 a0 ?_;refine tH 3 a0 ?_;refine tH 4 a0 ?_;refine tH 5 a0 ?_
       try simp only [Act.put,jP,jQ,jR]
       refine tH 6 a0 ?_;refine tH 7 a0 ?_;refine tH 8 a0 ?_;refine tH 9 a0 ?_;refine tH 10 a0 ?_;refine tH 12 a0 ?_
       try simp only [Act.put,jP,jQ,jR]
       refine rH 11 fun K hK=> ?_
       go_simp;refine(pm ((Sl.of_own f2.out).below b7.out.drew) m5).mono ?_;rintro e w5 ⟨vt5,rfl,e3,e4⟩;obtain⟨At5,ct5,rfl, -, -, -⟩:=ag e4;have b1:Below w4.heap.size w4 w5:=b7.out.drew.trans (e3.mono e6);have q5:=oC.of_box (d2.out.below b1);have e5:=Qa (show Below wr.heap.size wr w5 from((Zd wr.heap.size wr).drew).trans e3);have d4:=Qa b1;have i0:=Qa e4;clear e3 e4 b1;go_wp2_with fail;refine hK.out _ _ (q5) (fun a0=> ?_);clear hK K
       try simp only [Act.put,jP,jQ,jR]
       refine tH 13 a0 ?_
       try simp only [Act.put,jP,jQ,jR]
       refine rH 14 fun K hK=> ?_
       go_simp;have q6:=q5.grown (World.grownBy_alloc w5 (.cells #[.int .i64 xk, .bool xt, .string xx, .bool xn1, .string xn2, .int .i64 xn3, .slice At5 xns.length ct5, .slice Ak12 xks.length ck12] 77) none) (fun e=>by cases e);refine hK.out _ _ (q6) (fun a0=> ?_);clear hK K
       try simp only [Act.put,jP,jQ,jR]
       refine rH 15 fun K hK=> ?_
       refine cA Fd rfl (.tmp 70) (.tmp 84) rfl w.heap.size u7 m w5.heap.size 1 1 (aY ⟨k,false,es,ll,names,bi 1 (ts.take i) ++ [n]⟩ vn0 vk0++us.flatten) (aY ⟨xk,xt,xx,⟨xn1,xn2,xn3⟩,xns,xks.map (· + n)⟩ (.slice At5 xns.length ct5) (.slice Ak12 xks.length ck12)) (by simp [Act.eval]) (ap (ap H1.out d4.out (Za _)) (ac _ _) (Za _)) (by simp [Act.eval]) rfl (av w5 _ 77) (by intro u hu;simp [aY] at hu;rcases hu with rfl | rfl | rfl | rfl | rfl | rfl | rfl | rfl <;> rfl) (by unfold maxLen;omega) (by omega) (by have:=d4.out.size;simp;omega) ?_;intro v7 w6 h1 h2 h3;have q7:=q6.grown h2 (fun e=>Nat.lt_irrefl _ (k4.out bx e.symm));have HK:=Qa h1;have HG:=Qa h2;clear h1 h2 h3;refine hK.out _ _ (q7) (fun a0=> ?_);clear hK K
       try simp only [Act.put,jP,jQ,jR]
       refine tH 16 a0 ?_
       try simp only [Act.put,jP,jQ,jR]
       refine wpAnyH_done (by kernel_rfl) (NoPanic.normal ?_) _;have a7:Below w4.heap.size w4 (w5.alloc (.cells #[.int .i64 xk, .bool xt, .string xx, .bool xn1, .string xn2, .int .i64 xn3, .slice At5 xns.length ct5, .slice Ak12 xks.length ck12] 77)):=d4.out.alloc d4.out.size _;have b6:Below w.heap.size w w6:=(f5.out.trans (a7.mono a6)).grown HG.out (Zb a6 a7.size) (fun g e=>(ak H1.out e).1);have e1:w.heap.size<=wr.heap.size:=Zb a6 e6;have hJ:=fJ.snoc (y:=⟨xk,xt,xx,⟨xn1,xn2,xn3⟩,xns,xks.map (· + n)⟩) (ap H1.out a7 (Za _)) (H2.out.below a7 (Za _)) (H3.out.below a7 (Za _)) (H4.out.mono fun _ _ h=>h.below a7 (Za _)) H5.out HN.out (fun g e=>Zb e1 (ak i0.out e).1) m0.out.symm
        ⟨_,_,rfl,(i0.out.below (ac _ _) (Za _)).low (Zj _),by
         have:=(b0.out.below e5.out (Za _)).low (Zj _);exact(this.below (ac _ _) (Za _))⟩
        (fun g e e'=>by
         have h1:=(World.ownsRow.lt H3.out g e').2;have h2:=(ak b0.out e).1;omega) HK.out HG.out
       have HJ:=Qa hJ;have l1:=Qa b6;clear hJ a7 b6 q5 q6 q7 a0;go_wp2_with fail;exact⟨⟨j+1,by rw [List.length_map,JV.flat_len];omega,by go_num,l1.out,by rw [m1.out,<- List.append_assoc];exact HJ.out⟩,by simp [intOf];omega⟩
    ·obtain rfl:j=t.size:=by omega
     have m3:n=1+JV.sizes (ts.take i):=m9.out;have HJ:=Qa d1;have g2:=Qa b4;clear d1 b4;go_wp2_with fail;refine⟨⟨i+1,by omega,by go_num,g2.out, ?_⟩,by simp [intOf];omega⟩;have h:=HJ.out;have he: ((t.flat 0).map (Nd.shift n)).take t.size= (t.flat 0).map (Nd.shift n):=List.take_of_length_le (by rw [List.length_map,JV.flat_len];exact Za _);rw [he,m3,<- wG Ht.out 1] at h;rw [Hx.out];exact h
  ·obtain rfl:i=ts.length:=by omega
   have HJ:=Qa hj;have g2:=Qa c8;clear hj c8;go_wp2_with fail;go_ret;refine⟨_,rfl,g2.out, ?_⟩;have h:=HJ.out.flat;rw [List.take_length] at h;exact h
theorem up (hl:ir w vl (ts.map (JV.flat 0)))(a0:JV.sizes ts<=1000000)
  (hkl:∀t∈ts,∀x∈t.flat 0,x.names.length<=1000000/\∀q∈x.kids,q<=1000000) :
  Calls Tryz.prog 159 #[vl] w fun e w'=>Aw w (JV.flat 0 (.mk 5 false es ll [] ts)) e w':=by
 have Hl:=Qa hl;clear hl;go_enter Tryz.func159,Tryz.ntmps159;go_wp2_with fail;refine(tc (k:=5) (names:= []) (Sl.of_own (dS.nil w 0)) Hl.out (by simp) a0 hkl).mono ?_;rintro e w1 ⟨v,rfl,hb,hf⟩;go_wp2_with fail;go_ret;exact⟨_,rfl,hb,hf⟩
theorem oL (hn:Sl w vn (names.map dq))(hl:ir w vl (ts.map (JV.flat 0)))(hnl:names.length<=1000000)(a0:JV.sizes ts<=1000000)
  (hkl:∀t∈ts,∀x∈t.flat 0,x.names.length<=1000000/\∀q∈x.kids,q<=1000000) :
  Calls Tryz.prog 192 #[vn,vl] w fun e w'=>Aw w (JV.flat 0 (.mk 6 false es ll names ts)) e w':=by
 have Hl:=Qa hl;have Hn:=Qa hn;clear hl hn;go_enter Tryz.func192,Tryz.ntmps192;go_wp2_with fail;refine(tc (k:=6) Hn.out Hl.out hnl a0 hkl).mono ?_;rintro e w1 ⟨v,rfl,hb,hf⟩;go_wp2_with fail;go_ret;exact⟨_,rfl,hb,hf⟩
def Wr (w:World)(v:Value):Prop:=v = .slice none 0 0\/∃g c b p s,v = .slice (some ⟨g,0,none⟩) 1 c/\w.cell? ⟨g,0,none⟩=some (.bool b)/\w.cell? ⟨g,1,none⟩=some (.int .i64 p)/\w.cell? ⟨g,2,none⟩=some (.string s)
theorem Wr.below (h:Wr w v)(hb:Below w.heap.size w w'):Wr w' v:=by
 rcases h with rfl | ⟨g,c,b,p,s,rfl,h1,h2,h3⟩
 ·exact .inl rfl
 ·exact .inr ⟨g,c,b,p,s,rfl,Zf hb h1,Zf hb h2,Zf hb h3⟩
def dE (c h l:Int)(s:Value):Value:= .agg #[.int .i64 c, .int .i64 h, .int .i64 l,s]
def dT (w:World)(c:Int)(v:Value):Prop:= ∃h l s,v=dE c h l s/\Wr w s
def tj (w:World)(c:Int)(e:Ending)(w':World):Prop:= ∃v,e = .returned v/\dT w' c v/\Below w.heap.size w w'
theorem dT.below {c:Int}(h:dT w c v)(hb:Below w.heap.size w w'):dT w' c v:=by
 obtain⟨a,l,s,rfl,hs⟩:=h;exact⟨a,l,s,rfl,hs.below hb⟩
theorem Wr.slice (h:Wr w v):∃A n c,v = .slice A n c/\n<=1:=by
 rcases h with rfl | ⟨g,c,b,p,s,rfl,_⟩
 ·exact⟨_,_,_,rfl,by omega⟩
 ·exact⟨_,_,_,rfl,by omega⟩
theorem ao: (Tryz.prog.info? 70).map (·.size)=some 4:=by kernel_rfl
theorem cv (c p:Int)(w:World):Calls Tryz.prog 123 #[.int .i64 c, .int .i64 p] w (tj w c):=by
 go_enter Tryz.func123,Tryz.ntmps123;go_wp2;refine Zg (results_cell_row Tryz.results123 _ _ w.heap.size 70 #[.int .i64 c, .int .i64 0, .int .i64 0, .slice (some ⟨w.heap.size+1,0,none⟩) 1 1] (0,0) _ (by simp) ?_ Tryz.underlying70 rfl ao) rfl ⟨_,rfl,⟨0,0,_,rfl, .inr ⟨w.heap.size+1,1,false,p,es,rfl, ?_, ?_, ?_⟩⟩, ?_⟩
 ·exact(Below.heap_alloc _ _ _ (by simp)).trans (Ze w _)
 ·have:=av (w.alloc (.cells #[.int .i64 c, .int .i64 0, .int .i64 0, .slice (some ⟨w.heap.size+1,0,none⟩) 1 1] 70)) [.bool false, .int .i64 p, .string es] 302 0 _ rfl
  rwa [World.size_alloc] at this
 ·have:=av (w.alloc (.cells #[.int .i64 c, .int .i64 0, .int .i64 0, .slice (some ⟨w.heap.size+1,0,none⟩) 1 1] 70)) [.bool false, .int .i64 p, .string es] 302 1 _ rfl
  rwa [World.size_alloc] at this
 ·have:=av (w.alloc (.cells #[.int .i64 c, .int .i64 0, .int .i64 0, .slice (some ⟨w.heap.size+1,0,none⟩) 1 1] 70)) [.bool false, .int .i64 p, .string es] 302 2 _ rfl
  rwa [World.size_alloc] at this
 ·exact((Zd _ _).alloc (Za _) _).alloc (by simp) _
theorem eO (c:Int)(w:World):Calls Tryz.prog 87 #[.int .i64 c] w (tj w c):=by
 go_enter Tryz.func87,Tryz.ntmps87;go_wp2;exact Zg (results_cell_row Tryz.results87 _ _ w.heap.size 70 #[.int .i64 c, .int .i64 0, .int .i64 0, .slice none 0 0] (0,0) _ (by simp) (Ze w _) Tryz.underlying70 rfl ao) rfl ⟨_,rfl,⟨0,0,_,rfl, .inl rfl⟩,ac _ _⟩
theorem wW (c h l:Int)(w:World):Calls Tryz.prog 115 #[.int .i64 c, .int .i64 h, .int .i64 l] w (tj w c):=by
 go_enter Tryz.func115,Tryz.ntmps115;go_wp2;exact Zg (results_cell_row Tryz.results115 _ _ w.heap.size 70 #[.int .i64 c, .int .i64 h, .int .i64 l, .slice none 0 0] (0,0) _ (by simp) (Ze w _) Tryz.underlying70 rfl ao) rfl ⟨_,rfl,⟨h,l,_,rfl, .inl rfl⟩,ac _ _⟩
def od (a b c d e f:Int):Value:= .agg #[.int .i64 a, .int .i64 b, .int .i64 c, .int .i64 d, .int .i64 e, .int .i64 f]
def FY (w:World)(e:Ending)(w':World):Prop:= ∃ (x:Int) (b:Bool),e = .returned (.tuple #[.int .i64 x, .bool b])/\Below w.heap.size w w'
theorem pB (a b c d x f m:Int)(w:World):Calls Tryz.prog 114 #[od a b c d x f, .int .i64 m] w (FY w):=by
 unfold od;go_enter Tryz.func114,Tryz.ntmps114;go_wp2_with fail
 all_goals
  go_ret2;exact⟨_,_,rfl,ac _ _⟩
theorem az (c h l:Int){s:Value}(hs:s.oneCell'=true): (#[.int .i64 c, .int .i64 h, .int .i64 l,s]:Array Value).all (·.oneCell')=true:=by
 simp [hs,show ∀n,(Value.int .i64 n).oneCell'=true from fun _=>rfl]
theorem f7 (a b c d x f m n:Int)(w:World):Calls Tryz.prog 89 #[od a b c d x f, .int .i64 m, .int .i64 n] w fun e w'=> ∃k,tj w k e w':=by
 have a3:=Ze (w.alloc (.cells #[.int .i64 a, .int .i64 b, .int .i64 c, .int .i64 d, .int .i64 x, .int .i64 f] 90)) (.cells #[.int .i64 0, .int .i64 0, .int .i64 0, .slice none 0 0] 70);rw [World.size_alloc] at a3;have b0:Below w.heap.size w ((w.alloc (.cells #[.int .i64 a, .int .i64 b, .int .i64 c, .int .i64 d, .int .i64 x, .int .i64 f] 90)).alloc (.cells #[.int .i64 0, .int .i64 0, .int .i64 0, .slice none 0 0] 70)):=((Zd _ _).alloc (Za _) _).alloc (by simp) _;have b1: ((w.alloc (.cells #[.int .i64 a, .int .i64 b, .int .i64 c, .int .i64 d, .int .i64 x, .int .i64 f] 90)).alloc (.cells #[.int .i64 0, .int .i64 0, .int .i64 0, .slice none 0 0] 70)).heap.size=w.heap.size+2:=by simp
 have a4:=Qa a3;have a9:=Qa b0;have b2:=Qa b1;clear a3 b0 b1;unfold od;go_enter Tryz.func89,Tryz.ntmps89;go_wp2_with fail;generalize ((w.alloc (.cells #[.int .i64 a, .int .i64 b, .int .i64 c, .int .i64 d, .int .i64 x, .int .i64 f] 90)).alloc (.cells #[.int .i64 0, .int .i64 0, .int .i64 0, .slice none 0 0] 70))=w0 at *;refine(pB a b c d x f m w0).mono ?_;rintro e w1 ⟨y,t,rfl,a5⟩;have a1:=Qa ((a5.block _ (ae a4.out)).trans a4.out);have a6:=Qa (a9.out.trans (a5.mono a9.out.size));clear a5;have hend:∀ (k:Int) (u:Value) (w2:World),dT w2 k u->Below w1.heap.size w1 w2->∃h l A q r,u = .agg #[.int .i64 k, .int .i64 h, .int .i64 l, .slice A q r]/\w2.heap[w.heap.size+1]?=some (.cells #[.int .i64 0, .int .i64 0, .int .i64 0, .slice none 0 0] 70 (0,0))/\
   Below w.heap.size w (w2.setRow (w.heap.size+1) #[.int .i64 k, .int .i64 h, .int .i64 l, .slice A q r])/\dT (w2.setRow (w.heap.size+1) #[.int .i64 k, .int .i64 h, .int .i64 l, .slice A q r]) k u:=by
  rintro k u w2 ⟨h,l,s,rfl,hs⟩ a0;obtain⟨A,q,r,rfl, -⟩:=hs.slice;have hh:=(a0.block _ (ae a1.out)).trans a1.out;refine⟨h,l,A,q,r,rfl,hh,(a6.out.trans (a0.mono a6.out.size)).grown (ah _ _ _) (Zb a6.out.size a0.size) (fun g e=>by cases e;omega),h,l,_,rfl, ?_⟩;rcases hs with e | ⟨g,c',b',p,s',e,h1,h2,h3⟩
  ·exact .inl e
  ·have hne:some g≠some (w.heap.size+1):=fun e'=>by
    injection e' with e';subst e'
    have a7:=h1;unfold World.cell? at a7;simp [hh] at a7
   exact .inr ⟨g,c',b',p,s',e,(ah w2 _ _).cell h1 hne,(ah w2 _ _).cell h2 hne,(ah w2 _ _).cell h3 hne⟩
 have a2:=Qa hend;clear hend
 cases t
 ·go_wp2_with fail
  refine(eO 0 w1).mono ?_;rintro e w2 ⟨u,rfl,hu,a0⟩;obtain⟨h,l,A,q,r,rfl,hh,h1,h2⟩:=a2.out 0 u w2 hu a0;have Hh:=Qa hh;have H1:=Qa h1;have H2:=Qa h2;clear hh h1 h2 hu a0;go_wp2_with (refine wpList_store_rowTo rfl 70 (.tmp 6) (.tmp 25) rfl rfl (w.heap.size+1) #[.int .i64 0, .int .i64 h, .int .i64 l, .slice A q r] (by simp [Act.eval]) (by simp [Act.eval]) 70 _ Hh.out ao rfl (az 0 h l rfl) ?_);exact Zg (results_cell_row Tryz.results89 _ _ (w.heap.size+1) 70 _ (0,0) _ (by simp) (setRow_heap _ _ _ _ _ _ Hh.out) Tryz.underlying70 rfl ao) rfl ⟨0,_,rfl,H2.out,H1.out⟩
 ·by_cases hn:y<n
  ·go_wp2_with fail
   refine(wW m n y w1).mono ?_;rintro e w2 ⟨u,rfl,hu,a0⟩;obtain⟨h,l,A,q,r,rfl,hh,h1,h2⟩:=a2.out m u w2 hu a0;have Hh:=Qa hh;have H1:=Qa h1;have H2:=Qa h2;clear hh h1 h2 hu a0;go_wp2_with (refine wpList_store_rowTo rfl 70 (.tmp 6) (.tmp 24) rfl rfl (w.heap.size+1) #[.int .i64 m, .int .i64 h, .int .i64 l, .slice A q r] (by simp [Act.eval]) (by simp [Act.eval]) 70 _ Hh.out ao rfl (az m h l rfl) ?_);exact Zg (results_cell_row Tryz.results89 _ _ (w.heap.size+1) 70 _ (0,0) _ (by simp) (setRow_heap _ _ _ _ _ _ Hh.out) Tryz.underlying70 rfl ao) rfl ⟨m,_,rfl,H2.out,H1.out⟩
  ·go_wp2_with fail
   refine(eO 0 w1).mono ?_;rintro e w2 ⟨u,rfl,hu,a0⟩;obtain⟨h,l,A,q,r,rfl,hh,h1,h2⟩:=a2.out 0 u w2 hu a0;have Hh:=Qa hh;have H1:=Qa h1;have H2:=Qa h2;clear hh h1 h2 hu a0;go_wp2_with (refine wpList_store_rowTo rfl 70 (.tmp 6) (.tmp 25) rfl rfl (w.heap.size+1) #[.int .i64 0, .int .i64 h, .int .i64 l, .slice A q r] (by simp [Act.eval]) (by simp [Act.eval]) 70 _ Hh.out ao rfl (az 0 h l rfl) ?_);exact Zg (results_cell_row Tryz.results89 _ _ (w.heap.size+1) 70 _ (0,0) _ (by simp) (setRow_heap _ _ _ _ _ _ Hh.out) Tryz.underlying70 rfl ao) rfl ⟨0,_,rfl,H2.out,H1.out⟩
theorem aB {k:Int}{x3:Value}(hu:dT w k u)(hh:w.heap[b]?=some (.cells #[.int .i64 c0,x1,x2,x3] 70 (0,0))) :
  ∃h l A q r,u = .agg #[.int .i64 k, .int .i64 h, .int .i64 l, .slice A q r]/\w.grownBy (w.setRow b #[.int .i64 k, .int .i64 h, .int .i64 l, .slice A q r]) (some b)/\dT (w.setRow b #[.int .i64 k, .int .i64 h, .int .i64 l, .slice A q r]) k u:=by
 obtain⟨h,l,s,rfl,hs⟩:=hu;obtain⟨A,q,r,rfl, -⟩:=hs.slice;refine⟨h,l,A,q,r,rfl,ah _ _ _,h,l,_,rfl, ?_⟩;rcases hs with e | ⟨g,c',b',p,s',e,h1,h2,h3⟩
 ·exact .inl e
 ·have hne:some g≠some b:=fun e'=>by
   injection e' with e';subst e'
   have a0:=h1;unfold World.cell? at a0;simp [hh] at a0
  exact .inr ⟨g,c',b',p,s',e,(ah w _ _).cell h1 hne,(ah w _ _).cell h2 hne,(ah w _ _).cell h3 hne⟩
theorem aO (c p:Int)(w:World):Calls Tryz.prog 183 #[.int .i64 c, .int .i64 p] w (tj w c):=by
 have a0:=Qa (Ze w (.cells #[.int .i64 0, .int .i64 0, .int .i64 0, .slice none 0 0] 70));have a2:=Qa (ac w (.cells #[.int .i64 0, .int .i64 0, .int .i64 0, .slice none 0 0] 70));go_enter Tryz.func183,Tryz.ntmps183;go_wp2_with fail;generalize (w.alloc (.cells #[.int .i64 0, .int .i64 0, .int .i64 0, .slice none 0 0] 70))=w0 at *;refine(cv c p w0).mono ?_;rintro e w1 ⟨u,rfl,hu,a1⟩;have Hh:=Qa ((a1.block _ (ae a0.out)).trans a0.out);obtain⟨h,l,A,q,r,rfl,h1,h2⟩:=aB hu Hh.out;have H1:=Qa ((a2.out.trans (a1.mono a2.out.size)).grown h1 (Zb a2.out.size a1.size) (fun g e=>by cases e;exact Za _));have H2:=Qa h2;clear h1 h2 hu a1;go_wp2_with (refine wpList_store_rowTo rfl 70 (.tmp 4) (.tmp 7) rfl rfl w.heap.size #[.int .i64 c, .int .i64 h, .int .i64 l, .slice A q r] (by simp [Act.eval]) (by simp [Act.eval]) 70 _ Hh.out ao rfl (az c h l rfl) ?_);exact Zg (results_cell_row Tryz.results183 _ _ w.heap.size 70 _ (0,0) _ (by simp) (setRow_heap _ _ _ _ _ _ Hh.out) Tryz.underlying70 rfl ao) rfl ⟨_,rfl,H2.out,H1.out⟩
theorem eB (w:World):Calls Tryz.prog 184 #[] w (tj w 0):=by
 have a0:=Qa (Ze w (.cells #[.int .i64 0, .int .i64 0, .int .i64 0, .slice none 0 0] 70));have a2:=Qa (ac w (.cells #[.int .i64 0, .int .i64 0, .int .i64 0, .slice none 0 0] 70));go_enter Tryz.func184,Tryz.ntmps184;go_wp2_with fail;generalize (w.alloc (.cells #[.int .i64 0, .int .i64 0, .int .i64 0, .slice none 0 0] 70))=w0 at *;refine(eO 0 w0).mono ?_;rintro e w1 ⟨u,rfl,hu,a1⟩;have Hh:=Qa ((a1.block _ (ae a0.out)).trans a0.out);obtain⟨h,l,A,q,r,rfl,h1,h2⟩:=aB hu Hh.out;have H1:=Qa ((a2.out.trans (a1.mono a2.out.size)).grown h1 (Zb a2.out.size a1.size) (fun g e=>by cases e;exact Za _));have H2:=Qa h2;clear h1 h2 hu a1;go_wp2_with (refine wpList_store_rowTo rfl 70 (.tmp 0) (.tmp 1) rfl rfl w.heap.size #[.int .i64 0, .int .i64 h, .int .i64 l, .slice A q r] (by simp [Act.eval]) (by simp [Act.eval]) 70 _ Hh.out ao rfl (az 0 h l rfl) ?_);exact Zg (results_cell_row Tryz.results184 _ _ w.heap.size 70 _ (0,0) _ (by simp) (setRow_heap _ _ _ _ _ _ Hh.out) Tryz.underlying70 rfl ao) rfl ⟨_,rfl,H2.out,H1.out⟩
def FV (w:World)(s3:Value)(wr:World):Prop:= ∃k:Nat,k<=6/\s3 = .int .i64 k/\Below w.heap.size w wr
def Ax (w:World)(e:Ending)(w':World):Prop:= ∃b,e = .returned (.bool b)/\Below w.heap.size w w'
theorem CJ (a b c d x f:Int)(w:World):Calls Tryz.prog 88 #[od a b c d x f] w (Ax w):=by
 unfold od;have a0:=av w [.int .i64 a, .int .i64 b, .int .i64 c, .int .i64 d, .int .i64 x, .int .i64 f] 90;have a1:=Qa (ac w (.cells #[.int .i64 a, .int .i64 b, .int .i64 c, .int .i64 d, .int .i64 x, .int .i64 f] 90));have c0:=a0 0 _ rfl;have c1:=a0 1 _ rfl;have c2:=a0 2 _ rfl;have c3:=a0 3 _ rfl;have c4:=a0 4 _ rfl;have c5:=a0 5 _ rfl;have hz:w.heap.size< (w.alloc (.cells #[.int .i64 a, .int .i64 b, .int .i64 c, .int .i64 d, .int .i64 x, .int .i64 f] 90)).heap.size:=by simp
 have Hc:=Qa (show ∀wr,Below (w.alloc (.cells #[.int .i64 a, .int .i64 b, .int .i64 c, .int .i64 d, .int .i64 x, .int .i64 f] 90)).heap.size (w.alloc (.cells #[.int .i64 a, .int .i64 b, .int .i64 c, .int .i64 d, .int .i64 x, .int .i64 f] 90)) wr->wr.cell? ⟨w.heap.size,0,none⟩=some (.int .i64 a)/\wr.cell? ⟨w.heap.size,1,none⟩=some (.int .i64 b)/\wr.cell? ⟨w.heap.size,2,none⟩=some (.int .i64 c)/\wr.cell? ⟨w.heap.size,3,none⟩=some (.int .i64 d)/\wr.cell? ⟨w.heap.size,4,none⟩=some (.int .i64 x)/\wr.cell? ⟨w.heap.size,5,none⟩=some (.int .i64 f) from
  fun wr h=>⟨Zf h c0,Zf h c1,Zf h c2,Zf h c3,Zf h c4,Zf h c5⟩)
 clear a0 c0 c1 c2 c3 c4 c5 hz;go_enter Tryz.func88,Tryz.ntmps88;go_wp2_with fail;generalize (w.alloc (.cells #[.int .i64 a, .int .i64 b, .int .i64 c, .int .i64 d, .int .i64 x, .int .i64 f] 90))=w0 at *
 go_loopw [3] (FV w0) (fun i _=>6 - (intOf i).toNat)
 case atStart=>exact⟨1,by omega,rfl,Zd _ _⟩
 case round=>
  obtain⟨k,hk,rfl,hb⟩:=hrel;obtain⟨c0,c1,c2,c3,c4,c5⟩:=Hc.out wr hb;have Hb:=Qa hb;clear hb
  by_cases hlt:k<6
  ·have a4: (k:Int)<6:=by omega
   go_wp2_with fail;refine(pB a b c d x f k wr).mono ?_;rintro e w1 ⟨y,t,rfl,a3⟩;have a2:=Qa (Hb.out.trans (a3.mono Hb.out.size));clear a3 c0 c1 c2 c3 c4 c5
   by_cases h1:y<0
   ·go_wp2_with fail
    go_ret;exact⟨_,rfl,a1.out.trans (a2.out.mono a1.out.size)⟩
   ·by_cases h2:1073741824<y
    ·go_wp2_with fail
     go_ret;exact⟨_,rfl,a1.out.trans (a2.out.mono a1.out.size)⟩
    ·go_wp2_with fail
     exact⟨⟨k+1,by omega,by go_num,a2.out⟩,by simp [intOf];omega⟩
  ·have a4:¬ (k:Int)<6:=by omega
   go_wp2_with fail
   all_goals
    go_ret;exact⟨_,rfl,a1.out.trans (Hb.out.mono a1.out.size)⟩
