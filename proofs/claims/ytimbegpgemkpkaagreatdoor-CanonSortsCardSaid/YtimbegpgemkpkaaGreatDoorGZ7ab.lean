import Derived.Test.YtimbegpgemkpkaaGreatDoorGZ7aa
import Derived.Deep.CutBlock
set_option linter.unusedVariables false
set_option linter.unusedSimpArgs false
set_option maxHeartbeats 64000000
set_option maxRecDepth 100000
namespace Go.Proofs.YtimbegpgemkpkaaGreatDoor
open Go.Proofs.Tryz
open Go.RowKit
variable {D cells cs old:Array Value}{d:Dc}{c0:Int}{ts:List JV}{l xs:Na}{bf g i n p q:Nat}{ty:TypeId}{u v vk vn x1 x2 x3 y1 y2 y3:Value}{W W' w w' w0:Wd}
def jx:Dc:=⟨false,es,0⟩
def gY (W:Wd)(b:Nat)(x:Nd)(vn vk:Value):Prop:=W.heap[b]?=some (.cells (aF x vn vk).toArray 74 (0,0))
theorem gY.cell {b:Nat}{x:Nd}(h:gY W b x vn vk)(j:Nat)(u:Value)(hu:(aF x vn vk)[j]?=some u):W.cell? (no b j)=some u:=by
 unfold gY at h;unfold World.cell?;simp only[h];simpa using hu
theorem gY.below {b:Nat}{x:Nd}(h:gY W b x vn vk)(hb:ge W W'):gY W' b x vn vk:=(hb.block b (ah h)).trans h
def pS (b:Nat)(x:Nd)(vn:Value)(w:Wd):Prop:=
 w.cell? (nl b)=some (.int .i64 x.kind)/\w.cell? (no b 1)=some (.bool x.tr)/\w.cell? (no b 2)=some (.string x.text)/\w.cell? (no b 3)=some (.bool x.num.neg)/\w.cell? (no b 4)=some (.string x.num.digits)/\w.cell? (no b 5)=some (.int .i64 x.num.exp)/\w.cell? (no b 6)=some vn
theorem pS.of_box {b:Nat}{x:Nd}(h:gY W b x vn vk):pS b x vn W:=
 ⟨h.cell 0 _ rfl,h.cell 1 _ rfl,h.cell 2 _ rfl,h.cell 3 _ rfl,h.cell 4 _ rfl,h.cell 5 _ rfl,h.cell 6 _ rfl⟩
theorem pS.grown {b:Nat}{x:Nd}{row:Option Nat}(h:pS b x vn W)(hg:W.grownBy W' row)(hr:some b≠row):pS b x vn W':=
 ⟨hg.cell h.1 hr,hg.cell h.2.1 hr,hg.cell h.2.2.1 hr,hg.cell h.2.2.2.1 hr,hg.cell h.2.2.2.2.1 hr,hg.cell h.2.2.2.2.2.1 hr,hg.cell h.2.2.2.2.2.2 hr⟩
def IC (w:Wd)(k:Int)(names:List Nc)(ts:List JV)(s7 s8:Value)(wr:Wd):Prop:=
 ∃i:Nat,i<=ts.length/\s8 =(i:Int)/\ge w wr/\gE wr w.heap.size s7 ⟨k,false,es,jx,names,aZ 1 (ts.take i)⟩ (JV.flats 1 (ts.take i))
def JE (w:Wd)(x:Nd)(rest more:List Nd)(s7 s10:Value)(wr:Wd):Prop:=
 ∃j:Nat,j<=more.length/\s10 =(j:Int)/\ge w wr/\gE wr w.heap.size s7 x (rest++more.take j)
def Kk (w4:Wd)(kids:List Nat)(at_:Nat)(s12 s13:Value)(wr:Wd):Prop:=
 ∃q:Nat,q<=kids.length/\s13 =(q:Int)/\ge w4 wr/\bO wr w4.heap.size s12 ((kids.take q).map (· + at_))
def rU (w:Wd)(ns:List Nd)(e:Ending)(w':Wd):Prop:= ∃v,e =.returned v/\ge w w'/\bo (w.heap.size<= ·) w' w.heap.size v ns
theorem uX {k:Int}{vl:Value}{names:List Nc}(hn:Sl w vn (names.map dy))(hl:fQ w vl (ts.map (JV.flat 0)))(hnl:names.length<=1000000)(hsz:JV.sizes ts<=1000000)
  (hkl:∀t∈ts,∀x∈t.flat 0,x.names.length<=1000000/\∀q∈x.kids,q<=1000000) :
  Calls prog 128 #[(k:Int),vn,vl] w fun e w'=>rU w (JV.flat 0 (.mk k false es jx names ts)) e w':=by
 obtain⟨vs,⟨hm,A,cap,rfl,f0,hA⟩,f8⟩:=id hl;have f5:vs.length=ts.length:=by have:=f8.1;simpa using this
 rw[f5] at hm f0 hA ⊢;have HA:=Qa hA;have m3:=Qa f8;have n3:=Qa f5;have Hn:=Qa hn;have g2:=Qa hkl;clear hn hl hA f8 f5 hkl;have k9:ts.length<=1000000:=Zc (bW ts) hsz;go_in;go_wp2_with fail;refine(mE Hn hnl).mono ?_;rintro e w1 ⟨vt,rfl,j2,f9⟩;have d7:=Qa j2;have j3:=Qa f9;obtain⟨At,ct,rfl,-,-,-⟩:=ai f9;clear j2 f9;go_wp2_with fail
 go_loopw [7,8] (IC w k names ts) (fun _ i _=>ts.length - (intOf i).toNat)
 case atStart=>
  refine⟨0,by omega,rfl,d7.alloc d7.size _,_,(), [],?_,(j3.below (aa _ _) (Zb _)).low (Zk _),bO.nil _ _,bC.nil _,fun u hu=>by simp at hu,fun u hu g e=>?_⟩
  rotate_left
  .simp at hu;subst hu;exact(am j3 (by simpa [aF] using e)).1 |> Zc (Zb _)
  have:=ft (n:=1) (k:=8) (Zf w1 (.cells (aF ⟨k,false,es,jx,names, []⟩ (.slice At names.length ct) ()).toArray 74)) d7.size (by unfold maxLen;omega) rfl;simp only[List.take_zero,JV.flats,aZ,List.length_nil,List.flatten_nil,List.append_nil,Nat.add_zero];exact this
 case round=>
  obtain⟨i,hi,rfl,b7,hj⟩:=hrel
  by_cases hlt:i<ts.length
  .obtain⟨gl,ol,rfl,d4⟩:=HA (by omega);obtain⟨t,ht⟩:∃t,ts[i]?=some t:=⟨_,Zd hlt⟩;obtain⟨vi,d6,e7⟩:=m3.get (i:=i) (b:=t.flat 0) (by rw[List.getElem?_map,ht];rfl);have cl:=Zg b7 (d4 i vi d6);have k1:=Qa (d4 i vi d6);have n7:gl<w.heap.size:=World.block_lt_of_cell? w _ (d4 i vi d6);obtain⟨Ai,ci,rfl,m4,l1,g6⟩:=e7.form;have g9:=Qa e7;have g3:=Qa g6;rw[JV.flat_len] at m4 l1 cl k1 g9 g3;obtain⟨vn0,vk0,us,h1,h2,h3,h4,h5,hN⟩:=hj;have HN:=Qa hN;clear hN;obtain⟨n,hn⟩:=y7 (1+ (JV.flats 1 (ts.take i)).length);rw[hn] at h1;have i8:n=1+JV.sizes (ts.take i):=by rw[<-hn,JV.flats_len]
   have n5:=kP ht;have n0:n+t.size<=1000001:=by omega
   have i9:0<n:=by omega
   obtain⟨g7,c7,rfl,e1,m9,m2⟩:∃g cap,u7 =.slice (some (nl g)) n cap/\w.heap.size<=g/\n<=cap/\n<=maxLen:=by
    rcases ce h1 with ⟨_,h0,_⟩|h
    .omega
    .exact h
   have ck:wr.cell? (no g7 7)=some vk0:=by rw[World.ownsRow.cellAt h1 7 (by omega)];rfl
   have fk:=World.ownsRow.frozenAt h1 7;have k5:g7<wr.heap.size:=World.block_lt_of_cell? wr _ ck;have H1:=Qa h1;have H2:=Qa h2;have H3:=Qa h3;have H4:=Qa h4;have H5:=Qa h5;have k3:=Qa i8;have i2:=Qa hn;have h9:=Qa b7;have Ht:=Qa ht;have i4:∀g,vk0.ownBlock=some g->g≠g7:=fun g e e'=>by
    subst e';obtain⟨_,cur,hh⟩:=am h3 e;obtain⟨cs,z,b4⟩:=cK h1 g rfl;rw[hh] at b4;injection b4 with b4;injection b4 with _ b4 _;exact absurd b4 (by decide)
   have g4:=Qa i4;clear h1 h2 h3 h4 h5 i8 hn b7 ht e7 g6 d4 d6 i4 m2;have f2:w.heap.size<=wr.heap.size:=h9.size;have a3:(aZ 1 (ts.take i)).length=i:=by rw[bm,List.length_take];omega
   have a4:=Qa a3;clear a3;go_wp2_with (at_builtin;refine ir fD (by have:=(H3.below (aa wr (.cells #[(n:Int)] 3)) (Zb _));unfold bO at this;rw[a4.out] at this;exact this) (au wr [cv n] 3) (by simp;omega) ?_ (h1:=(by simp[cv,Value.oneCell']));intro vk1 w2 h1 h2 h3;obtain⟨Ak,ck',rfl,-,-,-⟩:=ai h1;have ck2:=h2.cell ((World.cell?_alloc_lt wr (.cells #[(n:Int)] 3) ⟨g7,7,none⟩ k5).trans ck) (fun e=>g4 g7 e.symm rfl);have fk2:w2.frozen? (no g7 7)=false:=World.ownsRow.frozenAt (World.ownsRow.kept (aq H1 (aa wr (.cells #[(n:Int)] 3)) (Zb _)) h2 (.inr (fun e=>g4 g7 e.symm rfl))) 7;have HK:=Qa h1;have HG:=Qa h2;have HO:=Qa h3;clear h1 h2 h3);have b8:ge wr (wr.alloc (.cells #[(n:Int)] 3)):=aa _ _;have h6:=yz (m:=n) (aq H1 b8 (Zb _)) (H2.below b8 (Zb _)) (H4.mono fun _ _ h=>h.below b8 (Zb _)) H5.out HN.out i2.symm (by unfold bO;rw[List.length_append,a4.out,List.map_append];exact HK.out) HG.out HO.out (cK (H3.below b8 (Zb _)));have c8:ge w w2:=(h9.alloc f2 _).grown HG.out (by simp;omega) (fun g e=>(am H3 e).1);have i0:ge w (w2.setCell (no g7 7) (.slice Ak (i+1) ck')):=c8.setCell e1 _;have HJ3:=Qa h6;have Hb3:=Qa i0;clear b8 h6 c8 i0 ck fk ck2;go_wp2_with fail;obtain⟨w3,k0⟩:=y7 (w2.setCell (no g7 7) (.slice Ak (i+1) ck'));rw[k0] at HJ3 Hb3 ⊢;clear k0 fk2 HK HG HO;have Hx:=Qa (uT Ht.out 1);have l0:Hid (∀x∈t.flat 0,x.names.length<=1000000/\x.kids.length<=1000000/\∀q∈x.kids,q<=1000000):=Qa (fun x hx=>⟨(g2 t (Zl Ht) x hx).1,Zc (ow hx) (by omega),(g2 t (Zl Ht) x hx).2⟩)
   go_loopw [7,10] (JE w ⟨k,false,es,jx,names,aZ 1 (ts.take i) ++ [n]⟩ (JV.flats 1 (ts.take i)) ((t.flat 0).map (Nd.shift n))) (fun _ j _=>t.size - (intOf j).toNat)
   case atStart=>exact⟨0,by omega,rfl,Hb3.out,by rw[List.take_zero,List.append_nil];exact HJ3.out⟩
   case round=>
    obtain⟨j,hj,rfl,b3,d3⟩:=hrel;rw[List.length_map,JV.flat_len] at hj;have cl2:=Zg b3 k1.out
    by_cases hjt:j<t.size
    .obtain⟨gi,rfl⟩:=g3 (by omega);obtain⟨x,hx⟩:∃x,(t.flat 0)[j]?=some x:=⟨_,Zd (by rw[JV.flat_len];exact hjt)⟩;obtain⟨k6,n4,g5⟩:=l0 x (Zl hx);obtain⟨vnx,vkx,f3,e4,a2⟩:=(g9.below b3 (Zb _)).node hx;have c0:=a2 0 _ rfl;rw[Nat.add_zero] at c0;have c1:=a2 1 _ rfl;have c2:=a2 2 _ rfl;have c3:=a2 3 _ rfl;have c4:=a2 4 _ rfl;have c5:=a2 5 _ rfl;have c6:=a2 6 _ rfl;have c7:=a2 7 _ rfl;obtain⟨Anx,cnx,rfl,-,-,-⟩:=ai f3;obtain⟨Akx,ckx,rfl,k4,l4,b5⟩:=ai e4;have i5:=Qa f3;have j1:=Qa e4;have e2:=Qa b5;have k7:=Qa (show((t.flat 0).map (Nd.shift n)).take (j+1)= ((t.flat 0).map (Nd.shift n)).take j ++ [x.shift n] from cA (by rw[List.getElem?_map,hx];rfl));have l3:=Qa g5;have d1:=Qa b3;have e0:=Qa d3;have l2:(j:Int)<t.size:=by omega
     obtain⟨xk,xt,xx,⟨xn1,xn2,xn3⟩,xns,xks⟩:=x;clear f3 e4 a2 b5 g5 b3 d3 hx;go_wp2_with fail;have e3:gY (wr.alloc (.cells #[(xk:Int),.bool xt,xx,.bool xn1,xn2,(xn3:Int),.slice Anx xns.length cnx,.slice Akx xks.length ckx] 74)) wr.heap.size ⟨xk,xt,xx,⟨xn1,xn2,xn3⟩,xns,xks⟩ (.slice Anx xns.length cnx) (.slice Akx xks.length ckx):=Zf wr _;have a9:=aa wr (.cells #[(xk:Int),.bool xt,xx,.bool xn1,xn2,(xn3:Int),.slice Anx xns.length cnx,.slice Akx xks.length ckx] 74);have h7:wr.heap.size< (wr.alloc (.cells #[(xk:Int),.bool xt,xx,.bool xn1,xn2,(xn3:Int),.slice Anx xns.length cnx,.slice Akx xks.length ckx] 74)).heap.size:=by simp
     obtain⟨w4,j5⟩:=y7 (wr.alloc (.cells #[(xk:Int),.bool xt,xx,.bool xn1,xn2,(xn3:Int),.slice Anx xns.length cnx,.slice Akx xks.length ckx] 74));rw[j5] at e3 a9 h7 ⊢;have d2:=Qa e3;have n1:=Qa a9;have f1:=Qa (e0.below a9);have g1:=Qa (i5.below a9 (Zb _));have f7:=Qa (j1.below a9 (Zb _));have d9:=Qa (d1.trans (a9.mono d1.size));have i3:Hid (∀g,u7.ownBlock=some g->g<wr.heap.size):=Qa (fun g e=>by obtain⟨_,_,_,h,_⟩:=e0.out;exact(World.ownsRow.lt h g e).2);obtain⟨bx,b0⟩:=y7 wr.heap.size;have n2:w.heap.size<=bx:=by rw[<-b0];exact d1.size
     rw[b0] at d2 h7 i3 ⊢;clear j5 e3 a9 e0 i5 j1 d1 b0 c0 c1 c2 c3 c4 c5 c6 c7 cl2
     go_loopw [12,13] (Kk w4 xks n) (fun _ q _=>xks.length - (intOf q).toNat)
     case atStart=>exact⟨0,by omega,rfl,Ze _ _,by rw[List.take_zero,List.map_nil];exact bO.nil _ _⟩
     case round=>
      obtain⟨q,hq,rfl,d0,j0⟩:=hrel;have b6:=Qa d0;have a7:=Qa j0;have cb7:=(d2.below d0).cell 7 _ rfl;have g0:=d0.size;clear d0 j0
      by_cases hqt:q<xks.length
      .obtain⟨gk,rfl⟩:=e2 (by omega);obtain⟨z,hz⟩:∃z,xks[q]?=some z:=⟨_,Zd hqt⟩;have ckq:=aB (f7.below b6 (Zb _)) rfl q (by omega);rw[List.getElem?_map,hz] at ckq;simp only[Option.map_some,cv] at ckq;have hzb:=l3 z (Zl hz);have Hz:=Qa (show(xks.take (q+1)).map (· + n)= (xks.take q).map (· + n) ++ [z+n] by rw[cA hz,List.map_append];rfl);have g8:=Qa (show((xks.take q).map (· + n)).length=q by rw[List.length_map,List.length_take];omega);have n6:(q:Int)<xks.length:=by omega
       clear hz;go_wp2_with (at_builtin;refine ir fD (by have:=(a7.below (aa wr (.cells #[((z:Int)+n:Int)] 3)) (Zb _));unfold bO at this;rw[g8.out] at this;exact this) (au wr [cv (z+n)] 3) (by simp;omega) ?_ (h1:=(by simp[cv,Value.oneCell']));intro v' w5 h1 h2 h3;have HK:=Qa h1;have HG:=Qa h2;clear h1 h2 h3);have c8:ge w4 (wr.alloc (.cells #[((z:Int)+n:Int)] 3)):=b6.alloc g0 _;exact⟨⟨q+1,by omega,by go_num,aD c8 (a7.below (aa _ _) (Zb _)) c8.size HG.out,by rw[Hz.out];unfold bO;rw[List.length_append,g8.out,List.map_append];exact HK.out⟩,by simp[intOf];omega⟩
      .obtain rfl:q=xks.length:=by omega
       rw[List.take_length] at a7;go_wp2_with fail;obtain⟨vn0,vk0,us,h1,h2,h3,h4,h5,hN⟩:=f1.out;have HN:=Qa hN;clear hN;obtain⟨m,c9⟩:=y7 (1+ (JV.flats 1 (ts.take i)++ ((t.flat 0).map (Nd.shift n)).take j).length);have m5:m=n+j:=by
        rw[<-c9,List.length_append,List.length_take,List.length_map,JV.flat_len];have:=i2.out;omega
       rw[c9] at h1;have H1:=Qa h1;have H2:=Qa h2;have H3:=Qa h3;have H4:=Qa h4;have H5:=Qa h5;have l5:=Qa c9;have k2:m<=1000000:=by omega
       have a0:=pS.of_box (d2.below (b6.drew));obtain⟨Ak12,ck12,rfl,-,-,-⟩:=ai a7.out;rw[List.length_map] at a7 ⊢;have a5:=Qa a0;have b2:w.heap.size<=w4.heap.size:=by omega
       clear h1 h2 h3 h4 h5 c9 m5 a0 cb7;refine aI (fun w'=>w'.cell? (nl bx)=some (.int .i64 xk)/\w'.cell? (no bx 1)=some (.bool xt)/\w'.cell? (no bx 2)=some (.string xx)/\w'.cell? (no bx 3)=some (.bool xn1)/\w'.cell? (no bx 4)=some (.string xn2)/\w'.cell? (no bx 5)=some (.int .i64 xn3)/\w'.cell? (no bx 6)=some (.slice Anx xns.length cnx)) (a5.out) fun a1=>?_
       refine bw 0 1 2 a1 ?_;refine bw 3 4 5 a1 ?_;refine bw 6 7 8 a1 ?_;refine bw 9 10 12 a1 ?_;refine rH 11 fun K hK=>?_
       go_simp;refine(mE ((Sl.of_own g1).below b6.drew) k6).mono ?_;rintro e w5 ⟨vt5,rfl,e6,f4⟩;obtain⟨At5,ct5,rfl,-,-,-⟩:=ai f4;have b1:ge w4 w5:=b6.drew.trans (e6.mono g0);have q5:=pS.of_box (d2.below b1);have e5:=Qa (show ge wr w5 from((Ze wr.heap.size wr).drew).trans e6);have d5:=Qa b1;have h8:=Qa f4;clear e6 f4 b1;go_wp2_with fail;refine hK _ _ (q5) (fun a1=>?_);clear hK K
       try simp only[Act.put,jP,jQ,jR]
       refine tH 13 a1 ?_;refine rH 14 fun K hK=>?_
       go_simp;have q6:=q5.grown (World.grownBy_alloc w5 (.cells #[(xk:Int),.bool xt,xx,.bool xn1,xn2,(xn3:Int),.slice At5 xns.length ct5,.slice Ak12 xks.length ck12] 74) none) (fun e=>by cases e);refine hK _ _ (q6) (fun a1=>?_);clear hK K
       try simp only[Act.put,jP,jQ,jR]
       refine rH 15 fun K hK=>?_
       refine Ao sG (aq (aq H1 d5 (Zb _)) (aa _ _) (Zb _)) (au w5 _ 74) (by have:=d5.size;simp;omega) ?_ (h1:=(by intro u hu;simp[aF] at hu;rcases hu with rfl|rfl|rfl|rfl|rfl|rfl|rfl|rfl <;> rfl));intro v7 w6 h1 h2 h3;have q7:=q6.grown h2 (fun e=>Nat.lt_irrefl _ (i3 bx e.symm));have HK:=Qa h1;have HG:=Qa h2;clear h1 h2 h3;refine hK _ _ (q7) (fun a1=>?_);clear hK K
       try simp only[Act.put,jP,jQ,jR]
       refine tH 16 a1 ?_;refine y5 ?_;have a6:ge w4 (w5.alloc (.cells #[(xk:Int),.bool xt,xx,.bool xn1,xn2,(xn3:Int),.slice At5 xns.length ct5,.slice Ak12 xks.length ck12] 74)):=d5.alloc d5.size _;have b9:ge w w6:=(d9.trans (a6.mono b2)).grown HG.out (Zc b2 a6.size) (fun g e=>(am H1 e).1);have e8:w.heap.size<=wr.heap.size:=Zc b2 g0;have hJ:=gE.snoc (y:=⟨xk,xt,xx,⟨xn1,xn2,xn3⟩,xns,xks.map (· + n)⟩) (aq H1 a6 (Zb _)) (H2.below a6 (Zb _)) (H3.below a6 (Zb _)) (H4.mono fun _ _ h=>h.below a6 (Zb _)) H5.out HN.out (fun g e=>Zc e8 (am h8 e).1) l5.symm
        ⟨_,_,rfl,(h8.below (aa _ _) (Zb _)).low (Zk _),by
         have:=(a7.below e5 (Zb _)).low (Zk _);exact(this.below (aa _ _) (Zb _))⟩
        (fun g e e'=>by
         have h1:=(World.ownsRow.lt H3 g e').2;have h2:=(am a7 e).1;omega) HK.out HG.out
       have HJ:=Qa hJ;have m1:=Qa b9;clear hJ a6 b9 q5 q6 q7 a1;go_wp2_with fail;exact⟨⟨j+1,by rw[List.length_map,JV.flat_len];omega,by go_num,m1.out,by rw[k7.out,<-List.append_assoc];exact HJ.out⟩,by simp[intOf];omega⟩
    .obtain rfl:j=t.size:=by omega
     have m0:n=1+JV.sizes (ts.take i):=k3.out;have HJ:=Qa d3;have f6:=Qa b3;clear d3 b3;go_wp2_with fail;refine⟨⟨i+1,by omega,by go_num,f6.out,?_⟩,by simp[intOf];omega⟩;have h:=HJ.out;have he:((t.flat 0).map (Nd.shift n)).take t.size= (t.flat 0).map (Nd.shift n):=List.take_of_length_le (by rw[List.length_map,JV.flat_len];exact Zb _);rw[he,m0,<-zu Ht.out 1] at h;rw[Hx.out];exact h
  .obtain rfl:i=ts.length:=by omega
   have HJ:=Qa hj;have f6:=Qa b7;clear hj b7;go_wp2;go_ret;refine⟨_,rfl,f6,?_⟩;have h:=HJ.flat;rw[List.take_length] at h;exact h
theorem mT {vl:Value}(hl:fQ w vl (ts.map (JV.flat 0)))(hsz:JV.sizes ts<=1000000)
  (hkl:∀t∈ts,∀x∈t.flat 0,x.names.length<=1000000/\∀q∈x.kids,q<=1000000) :
  Calls prog 98 #[vl] w fun e w'=>rU w (JV.flat 0 (.mk 5 false es jx [] ts)) e w':=by
 have Hl:=Qa hl;clear hl;go_in;go_wp2_with fail;refine(uX (k:=5) (names:= []) (Sl.of_own (cX.nil w 0)) Hl.out (by simp) hsz hkl).mono ?_;rintro e w1 ⟨v,rfl,hb,hf⟩;go_wp2;go_ret;exact⟨_,rfl,hb,hf⟩
theorem kL {vl:Value}{names:List Nc}(hn:Sl w vn (names.map dy))(hl:fQ w vl (ts.map (JV.flat 0)))(hnl:names.length<=1000000)(hsz:JV.sizes ts<=1000000)
  (hkl:∀t∈ts,∀x∈t.flat 0,x.names.length<=1000000/\∀q∈x.kids,q<=1000000) :
  Calls prog 100 #[vn,vl] w fun e w'=>rU w (JV.flat 0 (.mk 6 false es jx names ts)) e w':=by
 have Hl:=Qa hl;have Hn:=Qa hn;clear hl hn;go_in;go_wp2_with fail;refine(uX (k:=6) Hn.out Hl.out hnl hsz hkl).mono ?_;rintro e w1 ⟨v,rfl,hb,hf⟩;go_wp2;go_ret;exact⟨_,rfl,hb,hf⟩
def Wr (w:Wd)(v:Value):Prop:=v =.slice none 0 0\/∃g c b p s,v =.slice (some (nl g)) 1 c/\w.cell? (nl g)=some (.bool b)/\w.cell? (no g 1)=some (.int .i64 p)/\w.cell? (no g 2)=some (.string s)
theorem Wr.below (h:Wr w v)(hb:ge w w'):Wr w' v:=by
 rcases h with rfl|⟨g,c,b,p,s,rfl,h1,h2,h3⟩
 .exact .inl rfl
 .exact .inr ⟨g,c,b,p,s,rfl,Zg hb h1,Zg hb h2,Zg hb h3⟩
def dV (c h l:Int)(s:Value):Value:=.agg #[(c:Int),(h:Int),(l:Int),s]
def d8 (w:Wd)(c:Int)(v:Value):Prop:= ∃h l s,v=dV c h l s/\Wr w s
def xu (w:Wd)(c:Int)(e:Ending)(w':Wd):Prop:= ∃v,e =.returned v/\d8 w' c v/\ge w w'
theorem d8.below {c:Int}(h:d8 w c v)(hb:ge w w'):d8 w' c v:=by
 obtain⟨a,l,s,rfl,hs⟩:=h;exact⟨a,l,s,rfl,hs.below hb⟩
theorem Wr.slice (h:Wr w v):∃A n c,v =.slice A n c/\n<=1:=by
 rcases h with rfl|⟨g,c,b,p,s,rfl,_⟩
 .exact⟨_,_,_,rfl,by omega⟩
 .exact⟨_,_,_,rfl,by omega⟩
theorem bB:(prog.info? 66).map (·.size)=some 4:=by kernel_rfl
theorem cV (c p:Int)(w:Wd):Calls prog 150 #[(c:Int),(p:Int)] w (xu w c):=by
 go_in;go_wp2;refine Zh (results_cell_row results150 _ _ w.heap.size 66 #[(c:Int),(0:Int),(0:Int),.slice (some ⟨w.heap.size+1,0,none⟩) 1 1] (0,0) _ (by simp) ?_ underlying66 rfl bB) rfl ⟨_,rfl,⟨0,0,_,rfl,.inr ⟨w.heap.size+1,1,false,p,es,rfl,?_,?_,?_⟩⟩,?_⟩
 .exact(Below.heap_alloc _ _ _ (by simp)).trans (Zf w _)
 .have:=au (w.alloc (.cells #[(c:Int),(0:Int),(0:Int),.slice (some ⟨w.heap.size+1,0,none⟩) 1 1] 66)) [false,(p:Int),es] 316 0 _ rfl
  rwa[World.size_alloc] at this
 .have:=au (w.alloc (.cells #[(c:Int),(0:Int),(0:Int),.slice (some ⟨w.heap.size+1,0,none⟩) 1 1] 66)) [false,(p:Int),es] 316 1 _ rfl
  rwa[World.size_alloc] at this
 .have:=au (w.alloc (.cells #[(c:Int),(0:Int),(0:Int),.slice (some ⟨w.heap.size+1,0,none⟩) 1 1] 66)) [false,(p:Int),es] 316 2 _ rfl
  rwa[World.size_alloc] at this
 .exact((Ze _ _).alloc (Zb _) _).alloc (by simp) _
theorem fw (c:Int)(w:Wd):Calls prog 108 #[(c:Int)] w (xu w c):=by
 go_in;go_wp2;exact Zh (results_cell_row results108 _ _ w.heap.size 66 #[(c:Int),(0:Int),(0:Int),()] (0,0) _ (by simp) (Zf w _) underlying66 rfl bB) rfl ⟨_,rfl,⟨0,0,_,rfl,.inl rfl⟩,aa _ _⟩
theorem yE (c h l:Int)(w:Wd):Calls prog 142 #[(c:Int),(h:Int),(l:Int)] w (xu w c):=by
 go_in;go_wp2;exact Zh (results_cell_row results142 _ _ w.heap.size 66 #[(c:Int),(h:Int),(l:Int),()] (0,0) _ (by simp) (Zf w _) underlying66 rfl bB) rfl ⟨_,rfl,⟨h,l,_,rfl,.inl rfl⟩,aa _ _⟩
def ph (a b c d e f:Int):Value:=.agg #[(a:Int),(b:Int),(c:Int),(d:Int),(e:Int),(f:Int)]
def Kc (w:Wd)(e:Ending)(w':Wd):Prop:= ∃ (x:Int) (b:Bool),e =.returned (.tuple #[(x:Int),.bool b])/\ge w w'
theorem sq (a b c d x f m:Int)(w:Wd):Calls prog 141 #[ph a b c d x f,(m:Int)] w (Kc w):=by
 unfold ph;go_in;go_wp2_with fail
 all_goals
  go_ret2;exact⟨_,_,rfl,aa _ _⟩
theorem oG (c h l:Int){s:Value}(hs:s.oneCell'=true):(#[(c:Int),(h:Int),(l:Int),s]:Array Value).all (·.oneCell')=true:=by
 simp[hs,show ∀n,(Value.int .i64 n).oneCell'=true from fun _=>rfl]
theorem ie (a b c d x f m n:Int)(w:Wd):Calls prog 110 #[ph a b c d x f,(m:Int),(n:Int)] w fun e w'=> ∃k,xu w k e w':=by
 have a2:=Zf (w.alloc (.cells #[(a:Int),(b:Int),(c:Int),(d:Int),(x:Int),(f:Int)] 117)) (.cells #[(0:Int),(0:Int),(0:Int),()] 66);rw[World.size_alloc] at a2;have b0:ge w ((w.alloc (.cells #[(a:Int),(b:Int),(c:Int),(d:Int),(x:Int),(f:Int)] 117)).alloc (.cells #[(0:Int),(0:Int),(0:Int),()] 66)):=((Ze _ _).alloc (Zb _) _).alloc (by simp) _;have b1:((w.alloc (.cells #[(a:Int),(b:Int),(c:Int),(d:Int),(x:Int),(f:Int)] 117)).alloc (.cells #[(0:Int),(0:Int),(0:Int),()] 66)).heap.size=w.heap.size+2:=by simp
 have a4:=Qa a2;have a7:=Qa b0;have b2:=Qa b1;clear a2 b0 b1;unfold ph;go_in;go_wp2_with fail;generalize ((w.alloc (.cells #[(a:Int),(b:Int),(c:Int),(d:Int),(x:Int),(f:Int)] 117)).alloc (.cells #[(0:Int),(0:Int),(0:Int),()] 66))=w0 at *;refine(sq a b c d x f m w0).mono ?_;rintro e w1 ⟨y,t,rfl,a6⟩;have a1:=Qa ((a6.block _ (ah a4)).trans a4.out);have a5:=Qa (a7.trans (a6.mono a7.size));clear a6;have hend:∀ (k:Int) (u:Value) (w2:Wd),d8 w2 k u->ge w1 w2->∃h l A q r,u =.agg #[(k:Int),(h:Int),(l:Int),.slice A q r]/\w2.heap[w.heap.size+1]?=some (.cells #[(0:Int),(0:Int),(0:Int),()] 66 (0,0))/\
   ge w (w2.setRow (w.heap.size+1) #[(k:Int),(h:Int),(l:Int),.slice A q r])/\d8 (w2.setRow (w.heap.size+1) #[(k:Int),(h:Int),(l:Int),.slice A q r]) k u:=by
  rintro k u w2 ⟨h,l,s,rfl,hs⟩ a0;obtain⟨A,q,r,rfl,-⟩:=hs.slice;have hh:=(a0.block _ (ah a1)).trans a1.out;refine⟨h,l,A,q,r,rfl,hh,(a5.trans (a0.mono a5.size)).grown (aj ..) (Zc a5.size a0.size) (fun g e=>by cases e;omega),h,l,_,rfl,?_⟩;rcases hs with e|⟨g,c',b',p,s',e,h1,h2,h3⟩
  .exact .inl e
  .have hne:some g≠some (w.heap.size+1):=fun e'=>by
    injection e' with e';subst e'
    have a9:=h1;unfold World.cell? at a9;simp[hh] at a9
   exact .inr ⟨g,c',b',p,s',e,(aj w2 _ _).cell h1 hne,(aj w2 _ _).cell h2 hne,(aj w2 _ _).cell h3 hne⟩
 have a3:=Qa hend;clear hend
 cases t
 .go_wp2_with fail;refine(fw 0 w1).mono ?_;rintro e w2 ⟨u,rfl,hu,a0⟩;obtain⟨h,l,A,q,r,rfl,hh,h1,h2⟩:=a3 0 u w2 hu a0;have Hh:=Qa hh;have H1:=Qa h1;have H2:=Qa h2;clear hh h1 h2 hu a0;go_wp2_with (refine bQ Hh ?_);exact Zh (results_cell_row results110 _ _ (w.heap.size+1) 66 _ (0,0) _ (by simp) (setRow_heap _ _ _ _ _ _ Hh) underlying66 rfl bB) rfl ⟨0,_,rfl,H2,H1⟩
 .by_cases hn:y<n
  .go_wp2_with fail;refine(yE m n y w1).mono ?_;rintro e w2 ⟨u,rfl,hu,a0⟩;obtain⟨h,l,A,q,r,rfl,hh,h1,h2⟩:=a3 m u w2 hu a0;have Hh:=Qa hh;have H1:=Qa h1;have H2:=Qa h2;clear hh h1 h2 hu a0;go_wp2_with (refine bQ Hh ?_);exact Zh (results_cell_row results110 _ _ (w.heap.size+1) 66 _ (0,0) _ (by simp) (setRow_heap _ _ _ _ _ _ Hh) underlying66 rfl bB) rfl ⟨m,_,rfl,H2,H1⟩
  .go_wp2_with fail;refine(fw 0 w1).mono ?_;rintro e w2 ⟨u,rfl,hu,a0⟩;obtain⟨h,l,A,q,r,rfl,hh,h1,h2⟩:=a3 0 u w2 hu a0;have Hh:=Qa hh;have H1:=Qa h1;have H2:=Qa h2;clear hh h1 h2 hu a0;go_wp2_with (refine bQ Hh ?_);exact Zh (results_cell_row results110 _ _ (w.heap.size+1) 66 _ (0,0) _ (by simp) (setRow_heap _ _ _ _ _ _ Hh) underlying66 rfl bB) rfl ⟨0,_,rfl,H2,H1⟩
theorem bV {k:Int}{b:Nat}(hu:d8 w k u)(hh:w.heap[b]?=some (.cells #[(c0:Int),x1,x2,x3] 66 (0,0))) :
  ∃h l A q r,u =.agg #[(k:Int),(h:Int),(l:Int),.slice A q r]/\w.grownBy (w.setRow b #[(k:Int),(h:Int),(l:Int),.slice A q r]) (some b)/\d8 (w.setRow b #[(k:Int),(h:Int),(l:Int),.slice A q r]) k u:=by
 obtain⟨h,l,s,rfl,hs⟩:=hu;obtain⟨A,q,r,rfl,-⟩:=hs.slice;refine⟨h,l,A,q,r,rfl,aj _ _ _,h,l,_,rfl,?_⟩;rcases hs with e|⟨g,c',b',p,s',e,h1,h2,h3⟩
 .exact .inl e
 .have hne:some g≠some b:=fun e'=>by
   injection e' with e';subst e'
   have a0:=h1;unfold World.cell? at a0;simp[hh] at a0
  exact .inr ⟨g,c',b',p,s',e,(aj w _ _).cell h1 hne,(aj w _ _).cell h2 hne,(aj w _ _).cell h3 hne⟩
theorem bz {wz:Wd}{k:Int}{b:Nat}(hu:d8 wz k u)(a0:ge w0 wz)(hf:w0.heap[b]?=some (.cells #[(c0:Int),x1,x2,x3] 66 (0,0)))(hb:ge w w0)(a1:w.heap.size<=b) :
  ∃h l A q r,u =.agg #[(k:Int),(h:Int),(l:Int),.slice A q r]/\Hid (wz.heap[b]?=some (.cells #[(c0:Int),x1,x2,x3] 66 (0,0)))/\Hid (ge w (wz.setRow b #[(k:Int),(h:Int),(l:Int),.slice A q r]))/\Hid (d8 (wz.setRow b #[(k:Int),(h:Int),(l:Int),.slice A q r]) k u):=by
 have hh:=(a0.block _ (ah hf)).trans hf;obtain⟨h,l,A,q,r,e,h1,h2⟩:=bV hu hh;exact⟨h,l,A,q,r,e,hh,(hb.trans (a0.mono hb.size)).grown h1 (Zc hb.size a0.size) (fun g e=>by cases e;exact a1),h2⟩
theorem aP (c p:Int)(w:Wd):Calls prog 211 #[(c:Int),(p:Int)] w (xu w c):=by
 have a0:=Qa (Zf w (.cells #[(0:Int),(0:Int),(0:Int),()] 66));have a2:=Qa (aa w (.cells #[(0:Int),(0:Int),(0:Int),()] 66));go_in;go_wp2_with fail;generalize (w.alloc (.cells #[(0:Int),(0:Int),(0:Int),()] 66))=w0 at *;refine(cV c p w0).mono ?_;rintro e w1 ⟨u,rfl,hu,a1⟩;have Hh:=Qa ((a1.block _ (ah a0)).trans a0.out);obtain⟨h,l,A,q,r,rfl,h1,h2⟩:=bV hu Hh.out;have H1:=Qa ((a2.trans (a1.mono a2.size)).grown h1 (Zc a2.size a1.size) (fun g e=>by cases e;exact Zb _));have H2:=Qa h2;clear h1 h2 hu a1;go_wp2_with (refine bQ Hh ?_);exact Zh (results_cell_row results211 _ _ w.heap.size 66 _ (0,0) _ (by simp) (setRow_heap _ _ _ _ _ _ Hh) underlying66 rfl bB) rfl ⟨_,rfl,H2,H1⟩
theorem eY (w:Wd):Calls prog 212 #[] w (xu w 0):=by
 have a0:=Qa (Zf w (.cells #[(0:Int),(0:Int),(0:Int),()] 66));have a2:=Qa (aa w (.cells #[(0:Int),(0:Int),(0:Int),()] 66));go_in;go_wp2_with fail;generalize (w.alloc (.cells #[(0:Int),(0:Int),(0:Int),()] 66))=w0 at *;refine(fw 0 w0).mono ?_;rintro e w1 ⟨u,rfl,hu,a1⟩;have Hh:=Qa ((a1.block _ (ah a0)).trans a0.out);obtain⟨h,l,A,q,r,rfl,h1,h2⟩:=bV hu Hh.out;have H1:=Qa ((a2.trans (a1.mono a2.size)).grown h1 (Zc a2.size a1.size) (fun g e=>by cases e;exact Zb _));have H2:=Qa h2;clear h1 h2 hu a1;go_wp2_with (refine bQ Hh ?_);exact Zh (results_cell_row results212 _ _ w.heap.size 66 _ (0,0) _ (by simp) (setRow_heap _ _ _ _ _ _ Hh) underlying66 rfl bB) rfl ⟨_,rfl,H2,H1⟩
def JI (w:Wd)(s3:Value)(wr:Wd):Prop:= ∃k:Nat,k<=6/\s3 =(k:Int)/\ge w wr
def FF (w:Wd)(e:Ending)(w':Wd):Prop:= ∃b,e =.returned (.bool b)/\ge w w'
theorem If (a b c d x f:Int)(w:Wd):Calls prog 109 #[ph a b c d x f] w (FF w):=by
 unfold ph;have a0:=au w [(a:Int),(b:Int),(c:Int),(d:Int),(x:Int),(f:Int)] 117;have a1:=Qa (aa w (.cells #[(a:Int),(b:Int),(c:Int),(d:Int),(x:Int),(f:Int)] 117));have c0:=a0 0 _ rfl;have c1:=a0 1 _ rfl;have c2:=a0 2 _ rfl;have c3:=a0 3 _ rfl;have c4:=a0 4 _ rfl;have c5:=a0 5 _ rfl;have hz:w.heap.size< (w.alloc (.cells #[(a:Int),(b:Int),(c:Int),(d:Int),(x:Int),(f:Int)] 117)).heap.size:=by simp
 have Hc:=Qa (show ∀wr,Below (w.alloc (.cells #[(a:Int),(b:Int),(c:Int),(d:Int),(x:Int),(f:Int)] 117)).heap.size (w.alloc (.cells #[(a:Int),(b:Int),(c:Int),(d:Int),(x:Int),(f:Int)] 117)) wr->wr.cell? (nl w.heap.size)=some (.int .i64 a)/\wr.cell? (no w.heap.size 1)=some (.int .i64 b)/\wr.cell? (no w.heap.size 2)=some (.int .i64 c)/\wr.cell? (no w.heap.size 3)=some (.int .i64 d)/\wr.cell? (no w.heap.size 4)=some (.int .i64 x)/\wr.cell? (no w.heap.size 5)=some (.int .i64 f) from
  fun wr h=>⟨Zg h c0,Zg h c1,Zg h c2,Zg h c3,Zg h c4,Zg h c5⟩)
 clear a0 c0 c1 c2 c3 c4 c5 hz;go_in;go_wp2_with fail;generalize (w.alloc (.cells #[(a:Int),(b:Int),(c:Int),(d:Int),(x:Int),(f:Int)] 117))=w0 at *
 go_loopw [3] (JI w0) (fun i _=>6 - (intOf i).toNat)
 case atStart=>exact⟨1,by omega,rfl,Ze _ _⟩
 case round=>
  obtain⟨k,hk,rfl,hb⟩:=hrel;obtain⟨c0,c1,c2,c3,c4,c5⟩:=Hc wr hb;have Hb:=Qa hb;clear hb
  by_cases hlt:k<6
  .have hki:(k:Int)<6:=by omega
   go_wp2_with fail;refine(sq a b c d x f k wr).mono ?_;rintro e w1 ⟨y,t,rfl,a3⟩;have a2:=Qa (Hb.trans (a3.mono Hb.size));clear a3 c0 c1 c2 c3 c4 c5
   by_cases h1:y<0
   .go_wp2;go_ret;exact⟨_,rfl,a1.trans (a2.mono a1.size)⟩
   .by_cases h2:1073741824<y
    .go_wp2;go_ret;exact⟨_,rfl,a1.trans (a2.mono a1.size)⟩
    .go_wp2_with fail;exact⟨⟨k+1,by omega,by go_num,a2.out⟩,by simp[intOf];omega⟩
  .have hki:¬ (k:Int)<6:=by omega
   go_wp2_with fail
   all_goals
    go_ret;exact⟨_,rfl,a1.trans (Hb.mono a1.size)⟩
theorem bN {fn:Func}{p q:Tmp}(h:fn.results = #[.tmp p,.cell q 66])(tmps:Array Value)(w:Wd)(g:Nat)(t:TypeId)(c0 c1 c2 c3:Value)(fr:Nat×Nat)
  (hp:tmps.getD q undef =.pointer (some (nl g))) (hg:w.heap[g]?=some (.cells #[c0,c1,c2,c3] t fr)) :
  (results fn tmps).run prog w =.ok (.tuple #[tmps.getD p undef,.agg #[c0,c1,c2,c3]]) w:=by
 have a0:tmps[q]?.getD undef =.pointer (some (nl g)):=by simpa using hp
 have hl:=run_loadVar_row (P:=prog) w g t 66 #[c0,c1,c2,c3] fr _ hg underlying66 rfl bB;simp[results,h,a0,asAddr,hl]
theorem aY {fn:Func}{p u q:Tmp}(h:fn.results = #[.tmp p,.tmp u,.cell q 66])(tmps:Array Value)(w:Wd)(g:Nat)(t:TypeId)(c0 c1 c2 c3:Value)(fr:Nat×Nat)
  (hp:tmps.getD q undef =.pointer (some (nl g))) (hg:w.heap[g]?=some (.cells #[c0,c1,c2,c3] t fr)) :
  (results fn tmps).run prog w =.ok (.tuple #[tmps.getD p undef,tmps.getD u undef,.agg #[c0,c1,c2,c3]]) w:=by
 have a0:tmps[q]?.getD undef =.pointer (some (nl g)):=by simpa using hp
 have hl:=run_loadVar_row (P:=prog) w g t 66 #[c0,c1,c2,c3] fr _ hg underlying66 rfl bB;simp[results,h,a0,asAddr,hl]
theorem qc {ops:Array Oper}{o:Oper}{a:Act}{K:Act->Wd->Prop}{Q:Exit->Act->Wd->Prop}{E:Prop}(a1:o.guard=none)(ty:TypeId)(x y:Operand)(ho:o.op =.store ty x y)
  (g:Nat) (cells:Array Value) (hx:a.eval x =.pointer (some (nl g))) (hy:a.eval y =.agg cells)
  (t:TypeId) (old:Array Value) (hg:w.heap[g]?=some (.cells old t (0,0))) (hi:(prog.info? ty).map (·.size)=some cells.size)
  (a0:old.size=cells.size) (h1:cells.all (·.oneCell')=true)
  (h:K (a.put o.dst undef) (w.setRow g cells)):if Region.wanted o (yielded ops a.tmps)=true then Oper.wp prog o a w K Q else E:=by
 have hw:Region.wanted o (yielded ops a.tmps)=true:=by simp[Region.wanted,a1]
 rw[if_pos hw];exact wp_store_row ty x y ho g cells hx hy t old hg hi a0 h1 h
theorem bZ {ops:Array Oper}{o:Oper}{a:Act}{K:Act->Wd->Prop}{Q:Exit->Act->Wd->Prop}{E:Prop}{t:TypeId}{x y:Operand}(hg:w.heap[g]?=some (.cells old t (0,0)))(h:K (a.put o.dst undef) (w.setRow g cells))
  (ho:o.op =.store ty x y:=by exact rfl) (hx:a.eval x =.pointer (some (nl g)):=by exact rfl) (hy:a.eval y =.agg cells:=by exact rfl) (a1:o.guard=none:=by exact rfl)
  (hi:(prog.info? ty).map (·.size)=some cells.size:=by kernel_rfl) (a0:old.size=cells.size:=by exact rfl) (h1:cells.all (·.oneCell')=true:=by simp[Value.oneCell']):if Region.wanted o (yielded ops a.tmps)=true then Oper.wp prog o a w K Q else E:=
 qc a1 ty x y ho g cells hx hy t old hg hi a0 h1 h
def Jp (w:Wd)(e:Ending)(w':Wd):Prop:=(∃r:Int,e =.returned (.int .i32 r)/\0<=r/\r<=127)/\w=w'
theorem BI (c:Nat)(h:c<256)(w:Wd):Calls prog 246 #[.int .u8 (c:Int)] w (Jp w):=by
 obtain⟨x,hx,h0,h1⟩:∃x:Int,(c:Int)=x/\0<=x/\x<=255:=⟨c,rfl,by omega,by omega⟩;rw[hx];clear hx h;go_in;go_wp2_with fail
 all_goals
  go_ret;refine⟨⟨_,rfl,?_,?_⟩,rfl⟩ <;> first|omega|(simp_all;done)|(simp_all;omega)
def LX (w:Wd)(e:Ending)(w':Wd):Prop:=(∃d:Int,e = (d:Int)/\ -1<=d/\d<=15)/\w=w'
theorem GR (c:Nat)(h:c<256)(w:Wd):Calls prog 255 #[.int .u8 (c:Int)] w (LX w):=by
 obtain⟨x,hx,h0,h1⟩:∃x:Int,(c:Int)=x/\0<=x/\x<=255:=⟨c,rfl,by omega,by omega⟩;rw[hx];clear hx h;go_in;go_wp2_with fail
 all_goals
  go_ret;refine⟨⟨_,rfl,?_,?_⟩,rfl⟩ <;> omega
def LI (len k:Nat)(w:Wd)(e:Ending)(w':Wd):Prop:=(∃n x:Nat,e =.returned (.tuple #[(n:Int),(x:Int)])/\n<=4/\x<16 ^ n/\(n=0\/k+n<=len))/\w=w'
def IT (w:Wd)(len k:Nat)(s6 s7:Value)(wr:Wd):Prop:= ∃n x:Nat,n<=4/\x<16 ^ n/\(n=0\/k+n<=len)/\s6 =(n:Int)/\s7 =(x:Int)/\w=wr
theorem Lp {x:Nat}(hn:n<4)(hx:x<16 ^ n):x<4096:=by
 rcases(by omega:n=0\/n=1\/n=2\/n=3) with rfl|rfl|rfl|rfl <;> omega
theorem zW {x d:Nat}(hx:x<16 ^ n)(hd:d<=15):16*x+d<16 ^ (n+1):=by
 rw[Nat.pow_succ];omega
theorem xC (hb:Bs w v xs)(hl:xs.length<=1000000)(k:Nat)(hk:k<=1000000){a:Int}(ha:a=k):Calls prog 247 #[v,(a:Int)] w (LI xs.length k w):=by
 subst ha;obtain⟨hm,A,cap,rfl,a5,a0⟩:=id hb;have a1:=Qa a0;clear hb a0;go_in;go_wp2_with fail
 go_loopw [6,7] (IT w xs.length k) (fun n _ _=>4 - (intOf n).toNat)
 case atStart=>exact⟨0,0,by omega,by simp,.inl rfl,rfl,rfl,rfl⟩
 case round=>
  obtain⟨n,x,hn,hx,a2,rfl,rfl,rfl⟩:=hrel
  by_cases h4:n<4
  .have a7:(n:Int)<4:=by omega
   have a9:=Lp h4 hx
   by_cases hin:k+n<xs.length
   .have a3:(k:Int)+n<xs.length:=by omega
    obtain⟨b,o,rfl,a4⟩:=a1 (by omega);have c1:=a4 (k+n) hin;have a6:=aO xs (k+n);clear a4;go_wp2_with fail;refine(GR _ a6 w).mono ?_;rintro e w' ⟨⟨d,rfl,b0,b1⟩,rfl⟩
    by_cases hd:d<0
    .go_wp2_with fail;go_ret2;exact⟨⟨n,x,rfl,hn,hx,a2⟩,rfl⟩
    .obtain⟨d',rfl⟩:∃d':Nat,d=d':=⟨d.toNat,by omega⟩;go_wp2_with fail;exact⟨⟨n+1,16*x+d',by omega,zW hx (by omega),.inr (by omega),by go_num,by congr 1,rfl⟩,by simp[intOf];omega⟩
   .have a3:¬ (k:Int)+n<xs.length:=by omega
    go_wp2_with fail;go_ret2;exact⟨⟨n,x,rfl,hn,hx,a2⟩,rfl⟩
  .have a7:¬ (n:Int)<4:=by omega
   go_wp2_with fail;go_ret2;exact⟨⟨n,x,rfl,hn,hx,a2⟩,rfl⟩
theorem DF:∀x:Nat,x<256->bits .and .i64 (x:Int) 15= ((x % 16:Nat):Int):=by decide +kernel
theorem JD {x:Nat}(h:x<65536)(h1:(x:Int)/4096=13)(h2:12<=bits .and .i64 ((x:Int)/256) 15):56320<=(x:Int)/\(x:Int)<=57343:=by
 have e:(x:Int)/256= ((x/256:Nat):Int):=by omega
 rw[e,DF (x/256) (by omega)] at h2;omega
def MC (len k:Nat)(w:Wd)(e:Ending)(w':Wd):Prop:= ∃ (y c:Int) (u:Value),e =.returned (.tuple #[(y:Int),u])/\d8 w' c u/\ge w w'/\(c=0->56320<=y/\y<=57343/\k+6<=len)
theorem IG (hb:Bs w v xs)(hl:xs.length<=1000000)(k:Nat)(hk:k<=xs.length){a:Int}(ha:a=k)(a0:Int):Calls prog 248 #[v,(a:Int),(a0:Int)] w (MC xs.length k w):=by
 subst ha;obtain⟨hm,A,cap,rfl,a9,a3⟩:=id hb;have a4:=Qa a3;have a7:=Qa hb;have a2:=Qa (Zf w (.cells #[(0:Int),(0:Int),(0:Int),()] 66));have Hb:=Qa (aa w (.cells #[(0:Int),(0:Int),(0:Int),()] 66));clear hb a3;go_in
 by_cases e1:k=xs.length
 .have e1':((k:Int)==xs.length)=true:=by simp[e1]
  clear e1;go_wp2_with fail;generalize (w.alloc (.cells #[(0:Int),(0:Int),(0:Int),()] 66))=w0 at *;refine(aP 103 xs.length w0).mono ?_;rintro e wz ⟨u,rfl,hu,a1⟩;obtain⟨fh,fl,fA,fq,fr,rfl,Hh,H1,H2⟩:=bz hu a1 a2.out Hb.out (Zb _);clear hu a1;go_wp2_with (refine bQ Hh ?_);exact Zh (bN results248 _ _ _ _ _ _ _ _ (0,0) (by simp) (setRow_heap _ _ _ _ _ _ Hh)) rfl ⟨_,103,_,rfl,H2,H1,fun h=>by cases h⟩
 .have e1':((k:Int)==xs.length)=false:=by simp;omega
  have hki:(k:Int)<xs.length:=by omega
  obtain⟨b,o,rfl,a5⟩:=a4 (by omega);have c1:=Zg Hb.out (a5 k (by omega));have c2:k+1<xs.length->(w.alloc (.cells #[(0:Int),(0:Int),(0:Int),()] 66)).cell? ⟨b,o+ (k+1),none⟩=some (.int .u8 (ar xs (k+1))):=fun h=>Zg Hb.out (a5 (k+1) h)
  have C2:=Qa c2;have b2:=aO xs k;have b3:=aO xs (k+1);clear a5 c2
  by_cases q1:ar xs k=92
  case neg=>
   have q1':((ar xs k:Int) !=92)=true:=by simp;omega
   clear q1;go_wp2_with fail;generalize (w.alloc (.cells #[(0:Int),(0:Int),(0:Int),()] 66))=w0 at *;refine(aP 106 a0 w0).mono ?_;rintro e wz ⟨u,rfl,hu,a1⟩;obtain⟨fh,fl,fA,fq,fr,rfl,Hh,H1,H2⟩:=bz hu a1 a2.out Hb.out (Zb _);clear hu a1;go_wp2_with (refine bQ Hh ?_);exact Zh (bN results248 _ _ _ _ _ _ _ _ (0,0) (by simp) (setRow_heap _ _ _ _ _ _ Hh)) rfl ⟨_,106,_,rfl,H2,H1,fun h=>by cases h⟩
  have q1':((ar xs k:Int) !=92)=false:=by simp[q1]
  clear q1
  by_cases e2:k+1=xs.length
  .have e2':((k:Int)+1==xs.length)=true:=by simp;omega
   clear e2;go_wp2_with fail;generalize (w.alloc (.cells #[(0:Int),(0:Int),(0:Int),()] 66))=w0 at *;refine(aP 103 xs.length w0).mono ?_;rintro e wz ⟨u,rfl,hu,a1⟩;obtain⟨fh,fl,fA,fq,fr,rfl,Hh,H1,H2⟩:=bz hu a1 a2.out Hb.out (Zb _);clear hu a1;go_wp2_with (refine bQ Hh ?_);exact Zh (bN results248 _ _ _ _ _ _ _ _ (0,0) (by simp) (setRow_heap _ _ _ _ _ _ Hh)) rfl ⟨_,103,_,rfl,H2,H1,fun h=>by cases h⟩
  have e2':((k:Int)+1==xs.length)=false:=by simp;omega
  have b0:(k:Int)+1<xs.length:=by omega
  have c2:=C2 (by omega)
  by_cases q2:ar xs (k+1)=117
  case neg=>
   have q2':((ar xs (k+1):Int) !=117)=true:=by simp;omega
   clear q2;go_wp2_with fail;generalize (w.alloc (.cells #[(0:Int),(0:Int),(0:Int),()] 66))=w0 at *;refine(aP 106 a0 w0).mono ?_;rintro e wz ⟨u,rfl,hu,a1⟩;obtain⟨fh,fl,fA,fq,fr,rfl,Hh,H1,H2⟩:=bz hu a1 a2.out Hb.out (Zb _);clear hu a1;go_wp2_with (refine bQ Hh ?_);exact Zh (bN results248 _ _ _ _ _ _ _ _ (0,0) (by simp) (setRow_heap _ _ _ _ _ _ Hh)) rfl ⟨_,106,_,rfl,H2,H1,fun h=>by cases h⟩
  have q2':((ar xs (k+1):Int) !=117)=false:=by simp[q2]
  clear q2;go_wp2_with fail;generalize (w.alloc (.cells #[(0:Int),(0:Int),(0:Int),()] 66))=w0 at *;refine(xC (a7.below Hb) hl (k+2) (by omega) (by omega)).mono ?_;rintro e w' ⟨⟨n,x,rfl,hn,hx,b4⟩,rfl⟩;rcases(by omega:n=4\/n=3\/n=2\/n=1\/n=0) with rfl|rfl|rfl|rfl|rfl
  .have b1:x<65536:=by omega
   clear hx;go_wp2_with fail
   all_goals first
    |(with_reducible refine(aP 106 a0 w0).mono ?_
      rintro e wz ⟨u,rfl,hu,a1⟩;obtain⟨fh,fl,fA,fq,fr,rfl,Hh,H1,H2⟩:=bz hu a1 a2.out Hb.out (Zb _);clear hu a1;go_wp2_with (refine bQ Hh.out ?_);exact Zh (bN results248 _ _ _ _ _ _ _ _ (0,0) (by simp) (setRow_heap _ _ _ _ _ _ Hh.out)) rfl ⟨_,106,_,rfl,H2.out,H1.out,fun h=>by cases h⟩
     )
    |(with_reducible refine(aP 103 xs.length w0).mono ?_
      rintro e wz ⟨u,rfl,hu,a1⟩;obtain⟨fh,fl,fA,fq,fr,rfl,Hh,H1,H2⟩:=bz hu a1 a2.out Hb.out (Zb _);clear hu a1;go_wp2_with (refine bQ Hh.out ?_);exact Zh (bN results248 _ _ _ _ _ _ _ _ (0,0) (by simp) (setRow_heap _ _ _ _ _ _ Hh.out)) rfl ⟨_,103,_,rfl,H2.out,H1.out,fun h=>by cases h⟩
     )
    |(with_reducible refine(eY w0).mono ?_
      have g1:(x:Int)/4096=13:=by assumption
      have g2:12<=bits .and .i64 ((x:Int)/256) 15:=by assumption
      have g3:=Qa (JD b1 g1 g2);clear g1 g2;rintro e wz ⟨u,rfl,hu,a1⟩;obtain⟨fh,fl,fA,fq,fr,rfl,Hh,H1,H2⟩:=bz hu a1 a2.out Hb.out (Zb _);clear hu a1;go_wp2_with (refine bQ Hh.out ?_);exact Zh (bN results248 _ _ _ _ _ _ _ _ (0,0) (by simp) (setRow_heap _ _ _ _ _ _ Hh.out)) rfl ⟨_,0,_,rfl,H2.out,H1.out,fun _=>⟨g3.out.1,g3.out.2,by omega⟩⟩
     )
  .have a6:x<4096:=by omega
   clear hx;go_wp2_with fail
   all_goals first
    |(with_reducible refine(aP 106 a0 w0).mono ?_
      rintro e wz ⟨u,rfl,hu,a1⟩;obtain⟨fh,fl,fA,fq,fr,rfl,Hh,H1,H2⟩:=bz hu a1 a2.out Hb.out (Zb _);clear hu a1;go_wp2_with (refine bQ Hh.out ?_);exact Zh (bN results248 _ _ _ _ _ _ _ _ (0,0) (by simp) (setRow_heap _ _ _ _ _ _ Hh.out)) rfl ⟨_,106,_,rfl,H2.out,H1.out,fun h=>by cases h⟩
     )
    |(with_reducible refine(aP 103 xs.length w0).mono ?_
      rintro e wz ⟨u,rfl,hu,a1⟩;obtain⟨fh,fl,fA,fq,fr,rfl,Hh,H1,H2⟩:=bz hu a1 a2.out Hb.out (Zb _);clear hu a1;go_wp2_with (refine bQ Hh.out ?_);exact Zh (bN results248 _ _ _ _ _ _ _ _ (0,0) (by simp) (setRow_heap _ _ _ _ _ _ Hh.out)) rfl ⟨_,103,_,rfl,H2.out,H1.out,fun h=>by cases h⟩
     )
  .have a6:x<256:=by omega
   clear hx;go_wp2_with fail
   all_goals first
    |(with_reducible refine(aP 106 a0 w0).mono ?_
      rintro e wz ⟨u,rfl,hu,a1⟩;obtain⟨fh,fl,fA,fq,fr,rfl,Hh,H1,H2⟩:=bz hu a1 a2.out Hb.out (Zb _);clear hu a1;go_wp2_with (refine bQ Hh.out ?_);exact Zh (bN results248 _ _ _ _ _ _ _ _ (0,0) (by simp) (setRow_heap _ _ _ _ _ _ Hh.out)) rfl ⟨_,106,_,rfl,H2.out,H1.out,fun h=>by cases h⟩
     )
    |(with_reducible refine(aP 103 xs.length w0).mono ?_
      rintro e wz ⟨u,rfl,hu,a1⟩;obtain⟨fh,fl,fA,fq,fr,rfl,Hh,H1,H2⟩:=bz hu a1 a2.out Hb.out (Zb _);clear hu a1;go_wp2_with (refine bQ Hh.out ?_);exact Zh (bN results248 _ _ _ _ _ _ _ _ (0,0) (by simp) (setRow_heap _ _ _ _ _ _ Hh.out)) rfl ⟨_,103,_,rfl,H2.out,H1.out,fun h=>by cases h⟩
     )
  .have a6:x<16:=by omega
   clear hx;go_wp2_with fail
   all_goals first
    |(with_reducible refine(aP 106 a0 w0).mono ?_
      rintro e wz ⟨u,rfl,hu,a1⟩;obtain⟨fh,fl,fA,fq,fr,rfl,Hh,H1,H2⟩:=bz hu a1 a2.out Hb.out (Zb _);clear hu a1;go_wp2_with (refine bQ Hh.out ?_);exact Zh (bN results248 _ _ _ _ _ _ _ _ (0,0) (by simp) (setRow_heap _ _ _ _ _ _ Hh.out)) rfl ⟨_,106,_,rfl,H2.out,H1.out,fun h=>by cases h⟩
     )
    |(with_reducible refine(aP 103 xs.length w0).mono ?_
      rintro e wz ⟨u,rfl,hu,a1⟩;obtain⟨fh,fl,fA,fq,fr,rfl,Hh,H1,H2⟩:=bz hu a1 a2.out Hb.out (Zb _);clear hu a1;go_wp2_with (refine bQ Hh.out ?_);exact Zh (bN results248 _ _ _ _ _ _ _ _ (0,0) (by simp) (setRow_heap _ _ _ _ _ _ Hh.out)) rfl ⟨_,103,_,rfl,H2.out,H1.out,fun h=>by cases h⟩
     )
  .have a6:x<1:=by omega
   clear hx;go_wp2_with fail
   all_goals first
    |(with_reducible refine(aP 106 a0 w0).mono ?_
      rintro e wz ⟨u,rfl,hu,a1⟩;obtain⟨fh,fl,fA,fq,fr,rfl,Hh,H1,H2⟩:=bz hu a1 a2.out Hb.out (Zb _);clear hu a1;go_wp2_with (refine bQ Hh.out ?_);exact Zh (bN results248 _ _ _ _ _ _ _ _ (0,0) (by simp) (setRow_heap _ _ _ _ _ _ Hh.out)) rfl ⟨_,106,_,rfl,H2.out,H1.out,fun h=>by cases h⟩
     )
    |(with_reducible refine(aP 103 xs.length w0).mono ?_
      rintro e wz ⟨u,rfl,hu,a1⟩;obtain⟨fh,fl,fA,fq,fr,rfl,Hh,H1,H2⟩:=bz hu a1 a2.out Hb.out (Zb _);clear hu a1;go_wp2_with (refine bQ Hh.out ?_);exact Zh (bN results248 _ _ _ _ _ _ _ _ (0,0) (by simp) (setRow_heap _ _ _ _ _ _ Hh.out)) rfl ⟨_,103,_,rfl,H2.out,H1.out,fun h=>by cases h⟩
     )
def Mp (len k:Nat)(w:Wd)(e:Ending)(w':Wd):Prop:= ∃ (r:Int) (n:Nat) (c:Int) (u:Value),e =.returned (.tuple #[.int .i32 r,(n:Int),u])/\d8 w' c u/\ge w w'/\(c=0->dY r=true/\2<=n/\k+n<=len/\(bL r).length<=n)
theorem IU {r:Int}(h:0<=r)(h2:r<128):(bL r).length<=2:=by
 obtain⟨n,rfl⟩:∃n:Nat,r=n:=⟨r.toNat,by omega⟩;rw[mV n (by omega)];simp
theorem uh {r:Int}(h:0<=r/\r<=1114111/\(r<55296\/57343<r)):dY r=true:=by
 unfold dY;simp;omega
theorem yD (hb:Bs w v xs)(hl:xs.length<=1000000)(k:Nat)(hk:k<xs.length){a:Int}(ha:a=k):Calls prog 235 #[v,(a:Int)] w (Mp xs.length k w):=by
 subst ha;obtain⟨hm,A,cap,rfl,c3,a5⟩:=id hb;obtain⟨b,o,rfl,b5⟩:=a5 (by omega);have b8:=Qa hb;have a1:=Qa (Zf w (.cells #[(0:Int),(0:Int),(0:Int),()] 66));have Hb:=Qa (aa w (.cells #[(0:Int),(0:Int),(0:Int),()] 66));have c1:=Zg Hb.out (b5 k hk);have C2:=Qa (show k+1<xs.length->(w.alloc (.cells #[(0:Int),(0:Int),(0:Int),()] 66)).cell? ⟨b,o+ (k+1),none⟩=some (.int .u8 (ar xs (k+1))) from fun h=>Zg Hb.out (b5 (k+1) h));have c5:=aO xs (k+1);have hki:(k:Int)<xs.length:=by omega
 clear hb a5 b5;go_in
 by_cases e2:k+1=xs.length
 .have e2':((k:Int)+1==xs.length)=true:=by simp;omega
  clear e2;go_wp2_with fail;generalize (w.alloc (.cells #[(0:Int),(0:Int),(0:Int),()] 66))=w0 at *;refine(aP 103 xs.length w0).mono ?_;rintro e wz ⟨u,rfl,hu,a0⟩;obtain⟨fh,fl,fA,fq,fr,rfl,Hh,H1,H2⟩:=bz hu a0 a1.out Hb.out (Zb _);clear hu a0;go_wp2_with (refine bQ Hh ?_);exact Zh (aY results235 _ _ _ _ _ _ _ _ (0,0) (by simp) (setRow_heap _ _ _ _ _ _ Hh)) rfl ⟨0,0,103,_,rfl,H2,H1,fun h=>by cases h⟩
 have e2':((k:Int)+1==xs.length)=false:=by simp;omega
 have c4:(k:Int)+1<xs.length:=by omega
 have c2:=C2 (by omega)
 by_cases q2:ar xs (k+1)=117
 case neg=>
  have q2':((ar xs (k+1):Int) !=117)=true:=by simp;omega
  clear q2;go_wp2_with fail;generalize (w.alloc (.cells #[(0:Int),(0:Int),(0:Int),()] 66))=w0 at *;refine(BI _ c5 w0).mono ?_;rintro e w' ⟨⟨r,rfl,d5,c6⟩,rfl⟩
  by_cases hr0:r=0
  .subst hr0;go_wp2_with fail;refine(aP 105 k w0).mono ?_;rintro e wz ⟨u,rfl,hu,a0⟩;obtain⟨fh,fl,fA,fq,fr,rfl,Hh,H1,H2⟩:=bz hu a0 a1.out Hb.out (Zb _);clear hu a0;go_wp2_with (refine bQ Hh ?_);exact Zh (aY results235 _ _ _ _ _ _ _ _ (0,0) (by simp) (setRow_heap _ _ _ _ _ _ Hh)) rfl ⟨0,0,105,_,rfl,H2,H1,fun h=>by cases h⟩
  .have c0:(r==0)=false:=by simpa using hr0
   clear hr0;go_wp2_with fail;refine(eY w0).mono ?_;rintro e wz ⟨u,rfl,hu,a0⟩;obtain⟨fh,fl,fA,fq,fr,rfl,Hh,H1,H2⟩:=bz hu a0 a1.out Hb.out (Zb _);clear hu a0;go_wp2_with (refine bQ Hh ?_);exact Zh (aY results235 _ _ _ _ _ _ _ _ (0,0) (by simp) (setRow_heap _ _ _ _ _ _ Hh)) rfl ⟨r,2,0,_,rfl,H2,H1,fun _=>⟨uh ⟨by omega,by omega,.inl (by omega)⟩,by omega,by omega,IU (by omega) (by omega)⟩⟩
 have q2':((ar xs (k+1):Int) !=117)=false:=by simp[q2]
 clear q2;go_wp2_with fail;generalize (w.alloc (.cells #[(0:Int),(0:Int),(0:Int),()] 66))=w0 at *;refine(xC (b8.below Hb) hl (k+2) (by omega) (by omega)).mono ?_;rintro e w' ⟨⟨n,x,rfl,hn,hx,c7⟩,rfl⟩
 by_cases h4:n<4
 .have d7:(n:Int)<4:=by omega
  by_cases hin:k+2+n<xs.length
  .have b6:(k:Int)+2+n<xs.length:=by omega
   go_wp2_with fail;refine(aP 105 k w0).mono ?_;rintro e wz ⟨u,rfl,hu,a0⟩;obtain⟨fh,fl,fA,fq,fr,rfl,Hh,H1,H2⟩:=bz hu a0 a1.out Hb.out (Zb _);clear hu a0;go_wp2_with (refine bQ Hh ?_);exact Zh (aY results235 _ _ _ _ _ _ _ _ (0,0) (by simp) (setRow_heap _ _ _ _ _ _ Hh)) rfl ⟨0,0,105,_,rfl,H2,H1,fun h=>by cases h⟩
  .have b6:¬ (k:Int)+2+n<xs.length:=by omega
   go_wp2_with fail;refine(aP 103 xs.length w0).mono ?_;rintro e wz ⟨u,rfl,hu,a0⟩;obtain⟨fh,fl,fA,fq,fr,rfl,Hh,H1,H2⟩:=bz hu a0 a1.out Hb.out (Zb _);clear hu a0;go_wp2_with (refine bQ Hh ?_);exact Zh (aY results235 _ _ _ _ _ _ _ _ (0,0) (by simp) (setRow_heap _ _ _ _ _ _ Hh)) rfl ⟨0,0,103,_,rfl,H2,H1,fun h=>by cases h⟩
 obtain rfl:n=4:=by omega
 obtain⟨X,hX,d4,c8⟩:∃X:Int,(x:Int)=X/\0<=X/\X<65536:=⟨x,rfl,by omega,by omega⟩;rw[hX];clear hx h4 hX
 by_cases r1:56320<=X
 .by_cases r2:X<=57343
  .skip
   go_wp2_with fail;refine(aP 106 k w0).mono ?_;rintro e wz ⟨u,rfl,hu,a0⟩;obtain⟨fh,fl,fA,fq,fr,rfl,Hh,H1,H2⟩:=bz hu a0 a1.out Hb.out (Zb _);clear hu a0;go_wp2_with (refine bQ Hh ?_);exact Zh (aY results235 _ _ _ _ _ _ _ _ (0,0) (by simp) (setRow_heap _ _ _ _ _ _ Hh)) rfl ⟨0,0,106,_,rfl,H2,H1,fun h=>by cases h⟩
  .have r3i:¬X<55296:=by omega
   go_wp2_with fail;refine(eY w0).mono ?_;rintro e wz ⟨u,rfl,hu,a0⟩;obtain⟨fh,fl,fA,fq,fr,rfl,Hh,H1,H2⟩:=bz hu a0 a1.out Hb.out (Zb _);clear hu a0;go_wp2_with (refine bQ Hh ?_);exact Zh (aY results235 _ _ _ _ _ _ _ _ (0,0) (by simp) (setRow_heap _ _ _ _ _ _ Hh)) rfl ⟨X,6,0,_,rfl,H2,H1,fun _=>⟨uh ⟨by omega,by omega,.inr (by omega)⟩,by omega,by omega,Zc (ia _) (by omega)⟩⟩
 by_cases r3:X<55296
 .skip
  go_wp2_with fail;refine(eY w0).mono ?_;rintro e wz ⟨u,rfl,hu,a0⟩;obtain⟨fh,fl,fA,fq,fr,rfl,Hh,H1,H2⟩:=bz hu a0 a1.out Hb.out (Zb _);clear hu a0;go_wp2_with (refine bQ Hh ?_);exact Zh (aY results235 _ _ _ _ _ _ _ _ (0,0) (by simp) (setRow_heap _ _ _ _ _ _ Hh)) rfl ⟨X,6,0,_,rfl,H2,H1,fun _=>⟨uh ⟨by omega,by omega,.inl (by omega)⟩,by omega,by omega,Zc (ia _) (by omega)⟩⟩
 have r4i:¬57343<X:=by omega
 go_wp2_with fail;refine(IG (b8.below Hb) hl (k+6) (by omega) (by omega) k).mono ?_;rintro e w1 ⟨y,c,u,rfl,⟨fh,fl,fs,rfl,b4⟩,a7,hy⟩;obtain⟨fA,fq,fr,rfl,-⟩:=b4.slice;rw[show dV c fh fl (.slice fA fq fr) =.agg #[(c:Int),(fh:Int),(fl:Int),.slice fA fq fr] from rfl];have b3:=aa w1 (.cells #[(c:Int),(fh:Int),(fl:Int),.slice fA fq fr] 66);have b1:=au w1 [(c:Int),(fh:Int),(fl:Int),.slice fA fq fr] 66;have d0:=b1 0 _ rfl;have d1:=b1 1 _ rfl;have d2:=b1 2 _ rfl;have d3:=b1 3 _ rfl;have Hu:=Qa (show d8 (w1.alloc (.cells #[(c:Int),(fh:Int),(fl:Int),.slice fA fq fr] 66)) c (dV c fh fl (.slice fA fq fr)) from⟨fh,fl,_,rfl,b4.below b3⟩);have b2:=Qa (Hb.trans ((a7.trans (b3.mono a7.size)).mono Hb.size));have a2:=Qa ((b3.block _ (Nat.lt_of_lt_of_le (ah a1) a7.size)).trans ((a7.block _ (ah a1)).trans a1.out));have Hy:=Qa hy;have b7:w.heap.size<w1.heap.size:=Nat.lt_of_lt_of_le (ah a1) a7.size;clear hy b1 b3 a7 b4
 by_cases hc:c=0
 .obtain⟨y1,y2,y3⟩:=Hy hc;subst hc;go_wp2_with fail;generalize (w1.alloc (.cells #[(0:Int),(fh:Int),(fl:Int),.slice fA fq fr] 66))=w2 at *;refine(eY w2).mono ?_;rintro e wz ⟨u,rfl,hu,a0⟩;have Hh:=Qa ((a0.block _ (ah a2)).trans a2.out);obtain⟨fh,fl,fA,fq,fr,rfl,h1,h2⟩:=bV hu Hh.out;have H1:=Qa ((b2.trans (a0.mono b2.size)).grown h1 (Zc b2.size a0.size) (fun g e=>by cases e;exact Zb _));have H2:=Qa h2;have Hg:=Qa h1;have d6:=Qa a0;clear h1 h2 hu a0;go_wp2_with (refine bQ Hh ?_);exact Zh (aY results235 _ _ _ _ _ _ _ _ (0,0) (by simp) (setRow_heap _ _ _ _ _ _ Hh)) rfl ⟨65536+ (X - 55296)*1024+ (y - 56320),12,0,_,rfl,H2,H1,fun _=>⟨uh ⟨by omega,by omega,.inr (by omega)⟩,by omega,by omega,Zc (ia _) (by omega)⟩⟩
 .have c9:(c !=0)=true:=by simpa using hc
  have Hc:=Qa hc;clear hc;go_wp2_with fail;generalize (w1.alloc (.cells #[(c:Int),(fh:Int),(fl:Int),.slice fA fq fr] 66))=w2 at *;obtain⟨gh,gl',gA,gq,gr,a9,h1,h2⟩:=bV (w:=w2.drew) Hu.out a2.out;injection a9 with a9
  obtain⟨rfl,rfl,a9⟩:fh=gh/\fl=gl'/\Value.slice fA fq fr=Value.slice gA gq gr:=by simpa using a9
  obtain⟨rfl,rfl,rfl⟩:fA=gA/\fq=gq/\fr=gr:=by simpa using a9
  have H1:=Qa ((b2.drew).grown h1 b2.size (fun g e=>by cases e;exact Zb _));have H2:=Qa h2;have hne:some (w1.heap.size)≠some (w.heap.size):=fun e=>by injection e with e;exact(Nat.ne_of_gt b7) e
  have a3:w2.drew.cell? (nl w1.heap.size)=some (.int .i64 c)/\w2.drew.cell? (no w1.heap.size 1)=some (.int .i64 fh)/\w2.drew.cell? (no w1.heap.size 2)=some (.int .i64 fl)/\w2.drew.cell? (no w1.heap.size 3)=some (.slice fA fq fr):=⟨d0,d1,d2,d3⟩;have a4:(w2.drew.setRow (w.heap.size) #[(c:Int),(fh:Int),(fl:Int),.slice fA fq fr]).cell? (nl w1.heap.size)=some (.int .i64 c)/\(w2.drew.setRow (w.heap.size) #[(c:Int),(fh:Int),(fl:Int),.slice fA fq fr]).cell? (no w1.heap.size 1)=some (.int .i64 fh)/\(w2.drew.setRow (w.heap.size) #[(c:Int),(fh:Int),(fl:Int),.slice fA fq fr]).cell? (no w1.heap.size 2)=some (.int .i64 fl)/\(w2.drew.setRow (w.heap.size) #[(c:Int),(fh:Int),(fl:Int),.slice fA fq fr]).cell? (no w1.heap.size 3)=some (.slice fA fq fr):=⟨(aj _ _ _).cell d0 hne,(aj _ _ _).cell d1 hne,(aj _ _ _).cell d2 hne,(aj _ _ _).cell d3 hne⟩;have a6:=Qa a3;have b0:=Qa a4;clear h1 h2 a9 a3 a4 hne d0 d1 d2 d3;refine aI (fun w'=>w'.cell? (nl w1.heap.size)=some (.int .i64 c)/\w'.cell? (no w1.heap.size 1)=some (.int .i64 fh)/\w'.cell? (no w1.heap.size 2)=some (.int .i64 fl)/\w'.cell? (no w1.heap.size 3)=some (.slice fA fq fr)) (a6.out) fun b9=>?_
  refine bw 0 1 2 b9 ?_;refine rH 3 fun K hK=>?_
  refine bZ a2.out ?_;refine hK _ _ (b0.out) (fun b9=>?_);clear hK K
  try simp only[Act.put,jP,jQ,jR]
  refine y5 ?_;go_wp2_with fail;exact Zh (aY results235 _ _ _ _ _ _ _ _ (0,0) (by simp) (setRow_heap _ _ _ _ _ _ a2)) rfl ⟨0,0,c,_,rfl,H2,H1,fun h=>absurd h Hc.out⟩
def gG (l:Na):Prop:= ∃cs:List Int,(∀c∈cs,dY c=true)/\l=cs.flatMap bL
theorem gG.nil:gG []:=⟨[],by simp,rfl⟩
theorem gG.snoc {c:Int}(h:gG l)(hc:dY c=true):gG (l++bL c):=by
 obtain⟨cs,h1,rfl⟩:=h;refine⟨cs ++ [c],fun d hd=>?_,by simp⟩;rcases List.mem_append.1 hd with h|h
 .exact h1 d h
 .rw[List.mem_singleton] at h;rw[h];exact hc
def Ku (len k:Nat)(w:Wd)(e:Ending)(w':Wd):Prop:= ∃ (v:Value) (n:Nat) (c:Int) (u:Value),e =.returned (.tuple #[v,(n:Int),u])/\d8 w' c u/\ge w w'/\(∃A q r,v =.slice A q r)/\
 (c=0->∃d:Int,dY d=true/\Bs w' v (bL d)/\1<=n/\k+n<=len/\(bL d).length<=n)
theorem tf {b:Nat}(hh:w.heap[b]?=some (.cells #[(0:Int),(0:Int),(0:Int),()] 66 (0,0)))(hv:Bs w v xs):Bs (w.setRow b cs) v xs:=by
 obtain⟨hm,A,c,e,hc,a0⟩:=hv;refine⟨hm,A,c,e,hc,fun h0=>?_⟩;obtain⟨g,o,rfl,a1⟩:=a0 h0;refine⟨g,o,rfl,fun i hi=>(aj w b cs).cell (a1 i hi) (fun e=>?_)⟩;injection e with e
 have e:g=b:=e;subst e;have h1:=a1 i hi;unfold World.cell? at h1;simp only[hh] at h1;generalize o+i=j at h1;rcases(by omega:j=0\/j=1\/j=2\/j=3\/4<=j) with rfl|rfl|rfl|rfl|hj
 .simp at h1
 .simp at h1
 .simp at h1
 .simp at h1
 .rw[Array.getElem?_eq_none (by simpa using hj)] at h1;cases h1
theorem CD (hb:Bs w v xs)(hl:xs.length<=1000000)(k:Nat)(hk:k<xs.length){a:Int}(ha:a=k):Calls prog 213 #[v,(a:Int)] w (Ku xs.length k w):=by
 subst ha;obtain⟨hm,A,cap,rfl,e0,b6⟩:=id hb;obtain⟨b,o,rfl,d5⟩:=b6 (by omega);have c7:=Qa hb;have a7:=Qa (Zf w (.cells #[(0:Int),(0:Int),(0:Int),()] 66));have Hb:=Qa (aa w (.cells #[(0:Int),(0:Int),(0:Int),()] 66));have c1:=Zg Hb.out (d5 k hk);have f2:=aO xs k;obtain⟨X,hX,f9,f6⟩:∃X:Int,(ar xs k:Int)=X/\0<=X/\X<256:=⟨_,rfl,by omega,by omega⟩;rw[hX] at c1;have hki:(k:Int)<xs.length:=by omega
 clear hb b6 d5 f2;have HX:=Qa hX;clear hX;go_in
 by_cases e1:X<32
 .go_wp2_with fail;generalize (w.alloc (.cells #[(0:Int),(0:Int),(0:Int),()] 66))=w0 at *;refine(aP 104 k w0).mono ?_;rintro e wz ⟨u,rfl,hu,a9⟩;obtain⟨fh,fl,fA,fq,fr,rfl,Hh,H1,H2⟩:=bz hu a9 a7.out Hb.out (Zb _);clear hu a9;go_wp2_with (refine bQ Hh ?_);exact Zh (aY results213 _ _ _ _ _ _ _ _ (0,0) (by simp) (setRow_heap _ _ _ _ _ _ Hh)) rfl ⟨_,0,104,_,rfl,H2,H1,⟨_,_,_,rfl⟩,fun h=>by cases h⟩
 by_cases e2:X=92
 .subst e2;go_wp2_with fail;generalize (w.alloc (.cells #[(0:Int),(0:Int),(0:Int),()] 66))=w0 at *;refine(yD (c7.below Hb) hl k hk rfl).mono ?_;rintro e w1 ⟨y,n,c,u,rfl,⟨fh,fl,fs,rfl,c6⟩,b1,hy⟩;obtain⟨fA,fq,fr,rfl,-⟩:=c6.slice;rw[show dV c fh fl (.slice fA fq fr) =.agg #[(c:Int),(fh:Int),(fl:Int),.slice fA fq fr] from rfl];have c5:=aa w1 (.cells #[(c:Int),(fh:Int),(fl:Int),.slice fA fq fr] 66);have b9:=au w1 [(c:Int),(fh:Int),(fl:Int),.slice fA fq fr] 66;have d0:=b9 0 _ rfl;have d1:=b9 1 _ rfl;have d2:=b9 2 _ rfl;have d3:=b9 3 _ rfl;have Hu:=Qa (show d8 (w1.alloc (.cells #[(c:Int),(fh:Int),(fl:Int),.slice fA fq fr] 66)) c (dV c fh fl (.slice fA fq fr)) from⟨fh,fl,_,rfl,c6.below c5⟩);have c4:=Qa (Hb.trans ((b1.trans (c5.mono b1.size)).mono Hb.size));have a5:=Qa ((c5.block _ (Nat.lt_of_lt_of_le (ah a7) b1.size)).trans ((b1.block _ (ah a7)).trans a7.out));have Hy:=Qa hy;have b2:w.heap.size<w1.heap.size:=Nat.lt_of_lt_of_le (ah a7) b1.size;clear hy b9 c5 b1 c6
  by_cases hc:c=0
  .subst hc;have hr:=(Hy rfl).1;have e4:=(Hy rfl).2;have Hr:=Qa hr;clear hr;go_wp2_with fail;have a2:(w1.alloc (.cells #[(0:Int),(fh:Int),(fl:Int),.slice fA fq fr] 66)).cell? (nl w1.heap.size)=some (.int .i64 0)/\(w1.alloc (.cells #[(0:Int),(fh:Int),(fl:Int),.slice fA fq fr] 66)).cell? (no w1.heap.size 1)=some (.int .i64 fh)/\(w1.alloc (.cells #[(0:Int),(fh:Int),(fl:Int),.slice fA fq fr] 66)).cell? (no w1.heap.size 2)=some (.int .i64 fl)/\(w1.alloc (.cells #[(0:Int),(fh:Int),(fl:Int),.slice fA fq fr] 66)).cell? (no w1.heap.size 3)=some (.slice fA fq fr):=⟨d0,d1,d2,d3⟩;have a0:=Qa a2;generalize hw2:(w1.alloc (.cells #[(0:Int),(fh:Int),(fl:Int),.slice fA fq fr] 66))=w2 at *;have f5:w1.heap.size<w2.heap.size:=by rw[<-hw2];simp
   clear hw2 a2 d0 d1 d2 d3;refine aI (fun w'=>w'.cell? (nl w1.heap.size)=some (.int .i64 0)/\w'.cell? (no w1.heap.size 1)=some (.int .i64 fh)/\w'.cell? (no w1.heap.size 2)=some (.int .i64 fl)/\w'.cell? (no w1.heap.size 3)=some (.slice fA fq fr)) (a0.out) fun a6=>?_
   refine bw 0 2 3 a6 ?_;refine rH 1 fun K hK=>?_
   go_simp;refine(nT (w:=w2.drew) y Hr.out).mono ?_;rintro e w5 ⟨vf,rfl,c2,c8⟩;obtain⟨f0,fA5,fc5,rfl,e7,-⟩:=id c8;have a3:ge w2 w5:=(Ze w2.heap.size w2).drew.trans c2;have d9:w5.cell? (nl w1.heap.size)=some (.int .i64 0)/\w5.cell? (no w1.heap.size 1)=some (.int .i64 fh)/\w5.cell? (no w1.heap.size 2)=some (.int .i64 fl)/\w5.cell? (no w1.heap.size 3)=some (.slice fA fq fr):=⟨Zg a3 a0.1,Zg a3 a0.2.1,Zg a3 a0.2.2.1,Zg a3 a0.2.2.2⟩;have c3:=Qa d9;have f4:=Qa c8;have b7:=Qa a3;have a1:=Qa ((a3.block _ (ah a5)).trans a5.out);clear c2 c8 a3 d9 e7 f0;go_wp2_with fail;refine hK _ _ (c3.out) (fun a6=>?_);clear hK K
   try simp only[Act.put,jP,jQ,jR]
   refine tH 4 a6 ?_;refine tH 5 a6 ?_;refine rH 6 fun K hK=>?_
   refine bZ a1.out ?_;refine hK _ _ (⟨(aj _ _ _).cell c3.1 (fun e=>by injection e with e;exact Nat.ne_of_gt b2 e),(aj _ _ _).cell c3.2.1 (fun e=>by injection e with e;exact Nat.ne_of_gt b2 e),(aj _ _ _).cell c3.2.2.1 (fun e=>by injection e with e;exact Nat.ne_of_gt b2 e),(aj _ _ _).cell c3.2.2.2 (fun e=>by injection e with e;exact Nat.ne_of_gt b2 e)⟩) (fun a6=>?_);clear hK K
   try simp only[Act.put,jP,jQ,jR]
   refine y5 ?_;go_wp2_with fail;have c9:ge w (w5.setRow w.heap.size #[(0:Int),(fh:Int),(fl:Int),.slice fA fq fr]):=(c4.trans (b7.mono c4.size)).grown (aj ..) (Zc c4.size b7.size) (fun g e=>by cases e;exact Zb _);obtain⟨gh,gl',gA,gq,gr,b0,h1,h2⟩:=bV (Hu.below b7) a1.out;injection b0 with b0
   obtain⟨rfl,rfl,b0⟩:fh=gh/\fl=gl'/\Value.slice fA fq fr=Value.slice gA gq gr:=by simpa using b0
   obtain⟨rfl,rfl,rfl⟩:fA=gA/\fq=gq/\fr=gr:=by simpa using b0
   exact Zh (aY results213 _ _ _ _ _ _ _ _ (0,0) (by simp) (setRow_heap _ _ _ _ _ _ a1)) rfl ⟨_,n,0,_,rfl,h2,c9,⟨_,_,_,rfl⟩,fun _=>⟨y,Hr,tf a1 f4,by omega,by omega,e4.2.2⟩⟩
  .have f8:(c !=0)=true:=by simpa using hc
   have Hc:=Qa hc;clear hc;go_wp2_with fail;generalize (w1.alloc (.cells #[(c:Int),(fh:Int),(fl:Int),.slice fA fq fr] 66))=w2 at *;obtain⟨gh,gl',gA,gq,gr,b0,h1,h2⟩:=bV (w:=w2.drew) Hu.out a5.out;injection b0 with b0
   obtain⟨rfl,rfl,b0⟩:fh=gh/\fl=gl'/\Value.slice fA fq fr=Value.slice gA gq gr:=by simpa using b0
   obtain⟨rfl,rfl,rfl⟩:fA=gA/\fq=gq/\fr=gr:=by simpa using b0
   have H1:=Qa ((c4.drew).grown h1 c4.size (fun g e=>by cases e;exact Zb _));have H2:=Qa h2;have hne:some (w1.heap.size)≠some (w.heap.size):=fun e=>by injection e with e;exact(Nat.ne_of_gt b2) e
   have a2:w2.drew.cell? (nl w1.heap.size)=some (.int .i64 c)/\w2.drew.cell? (no w1.heap.size 1)=some (.int .i64 fh)/\w2.drew.cell? (no w1.heap.size 2)=some (.int .i64 fl)/\w2.drew.cell? (no w1.heap.size 3)=some (.slice fA fq fr):=⟨d0,d1,d2,d3⟩;have b5:(w2.drew.setRow (w.heap.size) #[(c:Int),(fh:Int),(fl:Int),.slice fA fq fr]).cell? (nl w1.heap.size)=some (.int .i64 c)/\(w2.drew.setRow (w.heap.size) #[(c:Int),(fh:Int),(fl:Int),.slice fA fq fr]).cell? (no w1.heap.size 1)=some (.int .i64 fh)/\(w2.drew.setRow (w.heap.size) #[(c:Int),(fh:Int),(fl:Int),.slice fA fq fr]).cell? (no w1.heap.size 2)=some (.int .i64 fl)/\(w2.drew.setRow (w.heap.size) #[(c:Int),(fh:Int),(fl:Int),.slice fA fq fr]).cell? (no w1.heap.size 3)=some (.slice fA fq fr):=⟨(aj _ _ _).cell d0 hne,(aj _ _ _).cell d1 hne,(aj _ _ _).cell d2 hne,(aj _ _ _).cell d3 hne⟩;have a0:=Qa a2;have b8:=Qa b5;clear h1 h2 b0 a2 b5 hne d0 d1 d2 d3;refine aI (fun w'=>w'.cell? (nl w1.heap.size)=some (.int .i64 c)/\w'.cell? (no w1.heap.size 1)=some (.int .i64 fh)/\w'.cell? (no w1.heap.size 2)=some (.int .i64 fl)/\w'.cell? (no w1.heap.size 3)=some (.slice fA fq fr)) (a0.out) fun a6=>?_
   refine bw 0 1 2 a6 ?_;refine rH 3 fun K hK=>?_
   refine bZ a5.out ?_;refine hK _ _ (b8.out) (fun a6=>?_);clear hK K
   try simp only[Act.put,jP,jQ,jR]
   refine y5 ?_;go_wp2_with fail;exact Zh (aY results213 _ _ _ _ _ _ _ _ (0,0) (by simp) (setRow_heap _ _ _ _ _ _ a5)) rfl ⟨_,0,c,_,rfl,H2,H1,⟨_,_,_,rfl⟩,fun h=>absurd h Hc.out⟩
 have e2':(X==92)=false:=by simpa using e2
 have f7:¬cap=k:=by omega
 go_wp2_with fail;generalize (w.alloc (.cells #[(0:Int),(0:Int),(0:Int),()] 66))=w0 at *;have hcut:=c7.cut (Zj hk);refine(oX (hcut.below Hb)).mono ?_;rintro e w1 ⟨⟨code,rfl,b4⟩,b1⟩;have a4:=Qa ((b1.block _ (ah a7)).trans a7.out);have b3:=Qa (Hb.trans (b1.mono Hb.size));have c0:=Qa b4;have e5:=Qa (c7.below (Hb.trans (b1.mono Hb.size)));have hle:=il xs k (Zj hk);clear b1 b4 hcut
 by_cases q1:code=103
 .subst q1;go_wp2_with fail;refine(aP 103 xs.length w1).mono ?_;rintro e wz ⟨u,rfl,hu,a9⟩;have Hh:=Qa ((a9.block _ (ah a4)).trans a4.out);obtain⟨fh,fl,fA,fq,fr,rfl,h1,h2⟩:=bV hu Hh.out;have H1:=Qa ((b3.trans (a9.mono b3.size)).grown h1 (Zc b3.size a9.size) (fun g e=>by cases e;exact Zb _));have H2:=Qa h2;have Hg:=Qa h1;have f1:=Qa a9;clear h1 h2 hu a9;go_wp2_with (refine bQ Hh ?_);exact Zh (aY results213 _ _ _ _ _ _ _ _ (0,0) (by simp) (setRow_heap _ _ _ _ _ _ Hh)) rfl ⟨_,0,103,_,rfl,H2,H1,⟨_,_,_,rfl⟩,fun h=>by cases h⟩
 have q1':(code==103)=false:=by simpa using q1
 by_cases q2:code=0
 case neg=>
  have q2':(code !=0)=true:=by simpa using q2
  clear q1 q2;go_wp2_with fail;refine(aP 101 k w1).mono ?_;rintro e wz ⟨u,rfl,hu,a9⟩;have Hh:=Qa ((a9.block _ (ah a4)).trans a4.out);obtain⟨fh,fl,fA,fq,fr,rfl,h1,h2⟩:=bV hu Hh.out;have H1:=Qa ((b3.trans (a9.mono b3.size)).grown h1 (Zc b3.size a9.size) (fun g e=>by cases e;exact Zb _));have H2:=Qa h2;have Hg:=Qa h1;have f1:=Qa a9;clear h1 h2 hu a9;go_wp2_with (refine bQ Hh ?_);exact Zh (aY results213 _ _ _ _ _ _ _ _ (0,0) (by simp) (setRow_heap _ _ _ _ _ _ Hh)) rfl ⟨_,0,101,_,rfl,H2,H1,⟨_,_,_,rfl⟩,fun h=>by cases h⟩
 subst q2;have hz:=c0.1 rfl;have hp:=fp hz;obtain⟨hfr,d7⟩:=jp hz;have d4:=Qa hfr;have e8:=Qa d7;obtain⟨rn,d6⟩:=y7 ((bK (xs.drop k)).2.1);rw[d6] at hle hp d4 ⊢;have e6:(k:Int)+rn<=xs.length:=by omega
 have e3:(k:Int)+rn<=cap:=by omega
 clear q1 q1' hz hfr d7 d6;go_wp2_with fail;have s3:k<=k+rn:=by omega
 have s4:k+rn - k=rn:=by omega
 have s1:=y9 ((k:Int)+rn);have s2:0<=(k:Int)+rn:=by omega
 have s5:((k:Int)+rn).toNat=k+rn:=by omega
 refine aI (fun _=>True) (trivial) fun a6=>?_
 refine bw 0 1 2 a6 ?_;refine bw 3 4 5 a6 ?_;refine tH 6 a6 ?_;refine rH 7 fun K hK=>?_
 go_simp;refine(eY w1.drew).mono ?_;rintro e w5 ⟨u,rfl,hu,c2⟩;have a3:ge w1 w5:=(Ze w1.heap.size w1).drew.trans c2;have a1:=Qa ((a3.block _ (ah a4)).trans a4.out);obtain⟨fh,fl,fA,fq,fr,rfl,h1,h2⟩:=bV hu a1.out;have H2:=Qa h2;have b7:=Qa a3;clear hu c2 a3 h1 h2;go_wp2_with fail;refine hK _ _ (trivial) (fun a6=>?_);clear hK K
 try simp only[Act.put,jP,jQ,jR]
 refine tH 8 a6 ?_;refine tH 9 a6 ?_;refine rH 10 fun K hK=>?_
 refine bZ a1.out ?_;refine hK _ _ (trivial) (fun a6=>?_);clear hK K
 try simp only[Act.put,jP,jQ,jR]
 refine y5 ?_;go_wp2_with fail;have f3:Bs w5 (.slice (some ⟨b,o+k,none⟩) rn (cap - k)) (bL ((bK (xs.drop k)).1:Nat)):=by
  have h:=((e5.below b7).cut (Zj hk)).upto (k:=rn) (by rw[List.length_drop];omega);rw[d4.out];exact h
 have c9:ge w (w5.setRow w.heap.size #[(0:Int),(fh:Int),(fl:Int),.slice fA fq fr]):=(b3.trans (b7.mono b3.size)).grown (aj ..) (Zc b3.size b7.size) (fun g e=>by cases e;exact Zb _);exact Zh (aY results213 _ _ _ _ _ _ _ _ (0,0) (by simp) (setRow_heap _ _ _ _ _ _ a1)) rfl ⟨_,rn,0,_,rfl,H2,c9,⟨_,_,_,rfl⟩,fun _=>⟨_,e8,tf a1 f3,hp,hle,by rw[d4.out,List.length_take];exact Nat.min_le_left _ _⟩⟩
def Mt (len:Nat)(w:Wd)(e:Ending)(w':Wd):Prop:= ∃ (s:Nc) (n:Nat) (c:Int) (u:Value),e =.returned (.tuple #[s,(n:Int),u])/\d8 w' c u/\ge w w'/\(c=0->gG s.data.toList/\s.size<=len/\2<=n/\n<=len)
def J7 (w0:Wd)(len:Nat)(s5 s6:Value)(wr:Wd):Prop:= ∃ (k:Nat) (ys:Na),1<=k/\k<=len/\s6 =(k:Int)/\aw wr w0.heap.size s5 ys/\gG ys/\ys.length<=k/\ge w0 wr
theorem xH (hb:Bs w v xs)(hl:xs.length<=1000000):Calls prog 185 #[v] w (Mt xs.length w):=by
 obtain⟨hm,A,cap,rfl,e5,b2⟩:=id hb;have e3:=Qa hb;have b9:=Qa b2;have a7:=Qa (Zf w (.cells #[(0:Int),(0:Int),(0:Int),()] 66));have Hb:=Qa (aa w (.cells #[(0:Int),(0:Int),(0:Int),()] 66));have Hz:=Qa (show(w.alloc (.cells #[(0:Int),(0:Int),(0:Int),()] 66)).heap.size=w.heap.size+1 by simp);clear hb b2;go_in
 by_cases e0:xs.length=0
 .have e0':((xs.length:Int)==0)=true:=by simp[e0]
  clear e0;go_wp2_with fail;generalize (w.alloc (.cells #[(0:Int),(0:Int),(0:Int),()] 66))=w0 at *;refine(aP 102 0 w0).mono ?_;rintro e wz ⟨u,rfl,hu,a2⟩;obtain⟨fh,fl,fA,fq,fr,rfl,Hh,H1,H2⟩:=bz hu a2 a7.out Hb.out (Zb _);clear hu a2;go_wp2_with (refine bQ Hh ?_);exact Zh (aY results185 _ _ _ _ _ _ _ _ (0,0) (by simp) (setRow_heap _ _ _ _ _ _ Hh)) rfl ⟨_,0,102,_,rfl,H2,H1,fun h=>by cases h⟩
 have e0':((xs.length:Int)==0)=false:=by simpa using e0
 obtain⟨b,o,rfl,c5⟩:=b9 (by omega);have c0:=Zg Hb.out (c5 0 (by omega));rw[Nat.add_zero] at c0;have g5:(0:Int)<xs.length:=by omega
 have f9:0<xs.length:=by omega
 have e4:=Qa (fun i hi=>Zg Hb.out (c5 i hi));clear c5
 by_cases e1:ar xs 0=34
 case neg=>
  have e1':((ar xs 0:Int) !=34)=true:=by simp;omega
  clear e1;go_wp2_with fail;generalize (w.alloc (.cells #[(0:Int),(0:Int),(0:Int),()] 66))=w0 at *;refine(aP 102 0 w0).mono ?_;rintro e wz ⟨u,rfl,hu,a2⟩;obtain⟨fh,fl,fA,fq,fr,rfl,Hh,H1,H2⟩:=bz hu a2 a7.out Hb.out (Zb _);clear hu a2;go_wp2_with (refine bQ Hh ?_);exact Zh (aY results185 _ _ _ _ _ _ _ _ (0,0) (by simp) (setRow_heap _ _ _ _ _ _ Hh)) rfl ⟨_,0,102,_,rfl,H2,H1,fun h=>by cases h⟩
 have e1':((ar xs 0:Int) !=34)=false:=by simp[e1]
 clear e1;go_wp2_with fail;generalize (w.alloc (.cells #[(0:Int),(0:Int),(0:Int),()] 66))=w0 at *
 go_loopw [5,6] (J7 w0 xs.length) (fun _ i _=>xs.length - (intOf i).toNat)
 case atStart=>exact⟨1, [],by omega,by omega,rfl,aw.nil _ _,gG.nil,by simp,Ze _ _⟩
 case round=>
  obtain⟨k,ys,g4,g0,rfl,ho,c7,f5,b5⟩:=hrel;have Ho:=Qa ho;have d6:=Qa c7;have e8:=Qa b5;have c2:=b5.size;have a0:=Qa ((b5.block _ (ah a7)).trans a7.out);have a5:=Qa (Hb.trans (b5.mono Hb.size))
  by_cases hlt:k<xs.length
  case neg=>
   have hki:¬ (k:Int)<xs.length:=by omega
   clear ho c7 b5;go_wp2_with fail;refine(aP 103 xs.length wr).mono ?_;rintro e wz ⟨u,rfl,hu,a2⟩;have Hh:=Qa ((a2.block _ (ah a0)).trans a0.out);obtain⟨fh,fl,fA,fq,fr,rfl,h1,h2⟩:=bV hu Hh.out;have H1:=Qa ((a5.trans (a2.mono a5.size)).grown h1 (Zc a5.size a2.size) (fun g e=>by cases e;exact Zb _));have H2:=Qa h2;have Hg:=Qa h1;have g3:=Qa a2;clear h1 h2 hu a2;go_wp2_with (refine bQ Hh ?_);exact Zh (aY results185 _ _ _ _ _ _ _ _ (0,0) (by simp) (setRow_heap _ _ _ _ _ _ Hh)) rfl ⟨_,0,103,_,rfl,H2,H1,fun h=>by cases h⟩
  have hki:(k:Int)<xs.length:=by omega
  have ck:=Zg b5 (e4 k hlt);obtain⟨X,hX,f7,f4⟩:∃X:Int,(ar xs k:Int)=X/\0<=X/\X<256:=⟨_,rfl,by omega,by have:=aO xs k;omega⟩;rw[hX] at ck;clear hX ho c7 b5
  by_cases e2:X=34
  .subst e2;have hq:=a8 Ho.bs;have Hq:=Qa (show ∀W:Wd,ge wr W->(convert 30 9 u5).run prog W =.ok (.string ⟨ys.toArray⟩) W from fun W hW=>a8 (Ho.bs.below hW));have d4:=Hq wr.drew ((Ze wr.heap.size wr).drew);have e7:=Qa d4;have s1:=y9 ((k:Int)+1);clear hq d4;go_wp2_with fail;refine aI (fun w'=>(convert 30 9 u5).run prog w' =.ok (.string ⟨ys.toArray⟩) w') (e7.out) fun b0=>?_
   refine bw 0 1 2 b0 ?_;refine tH 3 b0 ?_;refine rH 4 fun K hK=>?_
   go_simp;refine(eY wr.drew).mono ?_;rintro e w5 ⟨u,rfl,hu,d5⟩;have a9:ge wr w5:=(Ze wr.heap.size wr).drew.trans d5;have a1:=Qa ((a9.block _ (ah a0)).trans a0.out);obtain⟨fh,fl,fA,fq,fr,rfl,h1,h2⟩:=bV hu a1.out;have H2:=Qa h2;have c6:=Qa a9;have f2:=Qa (Hq w5 a9);clear hu d5 a9 h1 h2;go_wp2_with fail;refine hK _ _ (f2.out) (fun b0=>?_);clear hK K
   try simp only[Act.put,jP,jQ,jR]
   refine tH 5 b0 ?_;refine tH 6 b0 ?_;refine rH 7 fun K hK=>?_
   refine bZ a1.out ?_;refine hK _ _ (a8 (tf a1 (Ho.bs.below c6))) (fun b0=>?_);clear hK K
   try simp only[Act.put,jP,jQ,jR]
   refine y5 ?_;go_wp2_with fail;have f0:ge w (w5.setRow w.heap.size #[(0:Int),(fh:Int),(fl:Int),.slice fA fq fr]):=(a5.trans (c6.mono a5.size)).grown (aj ..) (Zc a5.size c6.size) (fun g e=>by cases e;exact Zb _);exact Zh (aY results185 _ _ _ _ _ _ _ _ (0,0) (by simp) (setRow_heap _ _ _ _ _ _ a1)) rfl ⟨_,k+1,0,_,by go_num,H2.out,f0,fun _=>⟨by simpa using d6.out,by simp[ByteArray.size];omega,by omega,by omega⟩⟩
  have e2':(X==34)=false:=by simpa using e2
  clear e2;go_wp2_with fail;refine(CD (e3.below a5) hl k hlt rfl).mono ?_;rintro e w1 ⟨pv,n,c,u,rfl,⟨fh,fl,fs,rfl,c4⟩,b6,⟨pA,pq,pr,rfl⟩,hy⟩;obtain⟨fA,fq,fr,rfl,-⟩:=c4.slice;rw[show dV c fh fl (.slice fA fq fr) =.agg #[(c:Int),(fh:Int),(fl:Int),.slice fA fq fr] from rfl];have c3:=aa w1 (.cells #[(c:Int),(fh:Int),(fl:Int),.slice fA fq fr] 66);have c1:=au w1 [(c:Int),(fh:Int),(fl:Int),.slice fA fq fr] 66;have d0:=c1 0 _ rfl;have d1:=c1 1 _ rfl;have d2:=c1 2 _ rfl;have d3:=c1 3 _ rfl;have Hu:=Qa (show d8 (w1.alloc (.cells #[(c:Int),(fh:Int),(fl:Int),.slice fA fq fr] 66)) c (dV c fh fl (.slice fA fq fr)) from⟨fh,fl,_,rfl,c4.below c3⟩);have b4:=b6.trans (c3.mono b6.size);have a6:=Qa b4;have d7:=Qa (a5.trans (b4.mono a5.size));have a3:=Qa ((c3.block _ (Nat.lt_of_lt_of_le (ah a0) b6.size)).trans ((b6.block _ (ah a0)).trans a0.out));have Hy:=Qa (show c=0->∃d:Int,dY d=true/\Bs (w1.alloc (.cells #[(c:Int),(fh:Int),(fl:Int),.slice fA fq fr] 66)) (.slice pA pq pr) (bL d)/\1<=n/\k+n<=xs.length/\(bL d).length<=n from fun h=>by obtain⟨d,h1,h2,h3⟩:=hy h;exact⟨d,h1,h2.below c3,h3⟩);have c8:w.heap.size<w1.heap.size:=Nat.lt_of_lt_of_le (ah a0) b6.size;clear hy c1 c3 b6 c4 b4
  by_cases hc:c=0
  .obtain⟨d,c9,d9,f8,f3,g2⟩:=Hy hc;subst hc;have f1:=Qa c9;have e6:=Qa d9;have g6:=ia d;have g1:(k:Int)+n<=xs.length:=by omega
   clear c9 d9 d1 d2 d3;go_wp2_with (at_builtin;refine su (Ho.below a6 (Zb _)) e6.out (by omega) (by have:=a6.size;omega) ?_;intro v' w3 h1 h2 h3;have HK:=Qa h1;have HG:=Qa h2;clear h1 h2 h3);have a2:ge w0 w3:=(e8.trans (a6.mono c2)).grown HG.out (Zc c2 a6.size) (fun g e=>(am Ho e).1);exact⟨⟨k+n,ys++bL d,by omega,by omega,by go_num,HK.out,d6.snoc f1.out,by rw[List.length_append];omega,a2⟩,by simp[intOf];omega⟩
  .have f6:(c !=0)=true:=by simpa using hc
   have Hc:=Qa hc;clear hc;go_wp2_with fail;generalize (w1.alloc (.cells #[(c:Int),(fh:Int),(fl:Int),.slice fA fq fr] 66))=w2 at *;obtain⟨gh,gl',gA,gq,gr,b7,h1,h2⟩:=bV (w:=w2.drew) Hu.out a3.out;injection b7 with b7
   obtain⟨rfl,rfl,b7⟩:fh=gh/\fl=gl'/\Value.slice fA fq fr=Value.slice gA gq gr:=by simpa using b7
   obtain⟨rfl,rfl,rfl⟩:fA=gA/\fq=gq/\fr=gr:=by simpa using b7
   have H1:=Qa ((d7.drew).grown h1 d7.size (fun g e=>by cases e;exact Zb _));have H2:=Qa h2;have hne:some (w1.heap.size)≠some (w.heap.size):=fun e=>by injection e with e;exact(Nat.ne_of_gt c8) e
   have a4:w2.drew.cell? (nl w1.heap.size)=some (.int .i64 c)/\w2.drew.cell? (no w1.heap.size 1)=some (.int .i64 fh)/\w2.drew.cell? (no w1.heap.size 2)=some (.int .i64 fl)/\w2.drew.cell? (no w1.heap.size 3)=some (.slice fA fq fr):=⟨d0,d1,d2,d3⟩;have b1:(w2.drew.setRow (w.heap.size) #[(c:Int),(fh:Int),(fl:Int),.slice fA fq fr]).cell? (nl w1.heap.size)=some (.int .i64 c)/\(w2.drew.setRow (w.heap.size) #[(c:Int),(fh:Int),(fl:Int),.slice fA fq fr]).cell? (no w1.heap.size 1)=some (.int .i64 fh)/\(w2.drew.setRow (w.heap.size) #[(c:Int),(fh:Int),(fl:Int),.slice fA fq fr]).cell? (no w1.heap.size 2)=some (.int .i64 fl)/\(w2.drew.setRow (w.heap.size) #[(c:Int),(fh:Int),(fl:Int),.slice fA fq fr]).cell? (no w1.heap.size 3)=some (.slice fA fq fr):=⟨(aj _ _ _).cell d0 hne,(aj _ _ _).cell d1 hne,(aj _ _ _).cell d2 hne,(aj _ _ _).cell d3 hne⟩;have b3:=Qa a4;have b8:=Qa b1;clear h1 h2 b7 a4 b1 hne d0 d1 d2 d3;refine aI (fun w'=>w'.cell? (nl w1.heap.size)=some (.int .i64 c)/\w'.cell? (no w1.heap.size 1)=some (.int .i64 fh)/\w'.cell? (no w1.heap.size 2)=some (.int .i64 fl)/\w'.cell? (no w1.heap.size 3)=some (.slice fA fq fr)) (b3.out) fun b0=>?_
   refine bw 0 1 2 b0 ?_;refine rH 3 fun K hK=>?_
   refine bZ a3.out ?_;refine hK _ _ (b8.out) (fun b0=>?_);clear hK K
   try simp only[Act.put,jP,jQ,jR]
   refine y5 ?_;go_wp2_with fail;exact Zh (aY results185 _ _ _ _ _ _ _ _ (0,0) (by simp) (setRow_heap _ _ _ _ _ _ a3)) rfl ⟨_,0,c,_,rfl,H2,H1,fun h=>absurd h Hc.out⟩
def L9 (X:Int)(w:Wd)(e:Ending)(w':Wd):Prop:=(∃b:Bool,e =.returned (.bool b)/\(b=true->48<=X/\X<=57))/\w=w'
theorem qo (X:Int)(w:Wd):Calls prog 236 #[.int .u8 X] w (L9 X w):=by
 by_cases h1:48<=X
 .by_cases h2:X<=57
  .go_in;go_wp2;go_ret;exact⟨⟨_,rfl,fun _=>⟨h1,h2⟩⟩,rfl⟩
  .go_in;go_wp2;go_ret;exact⟨⟨_,rfl,fun h=>by simp_all⟩,rfl⟩
 .go_in;go_wp2;go_ret;exact⟨⟨_,rfl,fun h=>by simp_all⟩,rfl⟩
def LD (X:Int)(w:Wd)(e:Ending)(w':Wd):Prop:=(∃t:Int,e = (t:Int)/\1<=t/\t<=9/\(t=8->48<=X/\X<=57))/\w=w'
theorem BW (s X:Int)(w:Wd):Calls prog 214 #[(s:Int),.int .u8 X] w (LD X w):=by
 go_in;go_wp2_with fail;refine(qo X w).mono ?_;rintro e w' ⟨⟨b,rfl,hb⟩,rfl⟩;have Hb:=Qa hb;clear hb
 cases b
 .go_wp2_with fail
  all_goals
   go_ret;exact⟨⟨_,rfl,by omega,by omega,fun h=>by cases h⟩,rfl⟩
 .have a0:=Qa (Hb rfl);go_wp2_with fail
  all_goals
   go_ret;exact⟨⟨_,rfl,by omega,by omega,fun _=>a0.out⟩,rfl⟩
theorem gF {fn:Func}{p q:Tmp}(h:fn.results = #[.cell p 71,.cell q 66])(tmps:Array Value)(w:Wd)(g1 g:Nat)(t1 t:TypeId)(d0 d1 d2 c0 c1 c2 c3:Value)(fr1 fr:Nat×Nat)
  (a1:tmps.getD p undef =.pointer (some (nl g1))) (a3:w.heap[g1]?=some (.cells #[d0,d1,d2] t1 fr1))
  (hp:tmps.getD q undef =.pointer (some (nl g))) (hg:w.heap[g]?=some (.cells #[c0,c1,c2,c3] t fr)) :
  (results fn tmps).run prog w =.ok (.tuple #[.agg #[d0,d1,d2],.agg #[c0,c1,c2,c3]]) w:=by
 have a0:tmps[p]?.getD undef =.pointer (some (nl g1)):=by simpa using a1
 have a2:tmps[q]?.getD undef =.pointer (some (nl g)):=by simpa using hp
 have a4:=run_loadVar_row (P:=prog) w g1 t1 71 #[d0,d1,d2] fr1 _ a3 underlying71 rfl (by kernel_rfl);have hl:=run_loadVar_row (P:=prog) w g t 66 #[c0,c1,c2,c3] fr _ hg underlying66 rfl bB;simp[results,h,a0,a2,asAddr,a4,hl]
theorem dN {k x2:Int}{x0:Bool}{x1:Nc}{bd:Nat}(hu:d8 w k u)(hd:w.heap[bd]?=some (.cells #[.bool x0,x1,(x2:Int)] 71 (0,0)))(hf:w.heap[bf]?=some (.cells #[(c0:Int),y1,y2,y3] 66 (0,0)))(a4:w0.heap.size<=bd)(a5:w0.heap.size<=bf)(hb:ge w0 w) :
  ∃h l A q r,u =.agg #[(k:Int),(h:Int),(l:Int),.slice A q r]/\(w.setRow bd D).heap[bf]?=some (.cells #[(c0:Int),y1,y2,y3] 66 (0,0))/\((w.setRow bd D).setRow bf #[(k:Int),(h:Int),(l:Int),.slice A q r]).heap[bd]?=some (.cells D 71 (0,0))/\
   ((w.setRow bd D).setRow bf #[(k:Int),(h:Int),(l:Int),.slice A q r]).heap[bf]?=some (.cells #[(k:Int),(h:Int),(l:Int),.slice A q r] 66 (0,0))/\
   d8 ((w.setRow bd D).setRow bf #[(k:Int),(h:Int),(l:Int),.slice A q r]) k u/\ge w0 ((w.setRow bd D).setRow bf #[(k:Int),(h:Int),(l:Int),.slice A q r]):=by
 have hne:bd≠bf:=fun e=>by subst e;rw[hd] at hf;cases hf
 have a3:d8 (w.setRow bd D) k u:=by
  obtain⟨h,l,s,rfl,hs⟩:=hu;refine⟨h,l,s,rfl,?_⟩;rcases hs with e|⟨g,c',b',p,s',e,h1,h2,h3⟩
  .exact .inl e
  .have hne:some g≠some bd:=fun e'=>by
    injection e' with e';subst e'
    have a1:=h2;unfold World.cell? at a1;simp[hd] at a1
   exact .inr ⟨g,c',b',p,s',e,(aj w _ _).cell h1 hne,(aj w _ _).cell h2 hne,(aj w _ _).cell h3 hne⟩
 have a0:(w.setRow bd D).heap[bf]?=some (.cells #[(c0:Int),y1,y2,y3] 66 (0,0)):=(setRow_other w bd bf D (Ne.symm hne)).trans hf;obtain⟨h,l,A,q,r,e,h1,h2⟩:=bV a3 a0;refine⟨h,l,A,q,r,e,a0,?_,setRow_heap _ _ _ _ _ _ a0,h2,?_⟩
 .exact(setRow_other _ bf bd _ hne).trans (setRow_heap _ _ _ _ _ _ hd)
 .have a2:ge w0 (w.setRow bd D):=hb.grown (aj ..) hb.size (fun g e=>by cases e;exact a4);exact a2.grown (aj ..) a2.size (fun g e=>by cases e;exact a5)
theorem fI (c:Int)(w:Wd):Calls prog 108 #[(c:Int)] w (y4 (dV c 0 0 ()) w):=by
 go_in;go_wp2;exact Zh (results_cell_row results108 _ _ w.heap.size 66 #[(c:Int),(0:Int),(0:Int),()] (0,0) _ (by simp) (Zf w _) underlying66 rfl bB) rfl ⟨rfl,aa _ _⟩
def uc (neg:Bool)(s:Nc)(x:Int)(d:Dc):Prop:=0<s.size/\(∀i (h:i<s.size),48<=s[i].toNat/\s[i].toNat<=57)/\(((∀i (h:i<s.size),s[i].toNat=48)/\d= ⟨false,⟨#[48]⟩,0⟩)\/∃p q,p<q/\q<=s.size/\(∀i (h:i<s.size),i<p->s[i].toNat=48)/\(∀h:p<s.size,s[p].toNat≠48)/\(∀h:q - 1<s.size,s[q - 1].toNat≠48)/\(∀i (h:i<s.size),q<=i->s[i].toNat=48)/\d= ⟨neg,s.extract p q,x+s.size - q⟩/\ -1000000000<=d.exp/\d.exp<=1000000000)
def Le (neg:Bool)(s:Nc)(x:Int)(w:Wd)(e:Ending)(w':Wd):Prop:= ∃ (d:Dc) (c:Int),e =.returned (.tuple #[Df d,dV c 0 0 ()])/\ge w w'/\d.digits.size<=s.size+1/\(c=0->uc neg s x d)
def Lg (s:Nc)(w:Wd)(s8:Value)(wr:Wd):Prop:= ∃k:Nat,k<=s.size/\s8 =(k:Int)/\w=wr/\(∀i (h:i<s.size),i<k->48<=s[i].toNat/\s[i].toNat<=57)
def KO (s:Nc)(w:Wd)(s8:Value)(wr:Wd):Prop:= ∃k:Nat,k<=s.size/\s8 =(k:Int)/\w=wr/\(∀i (h:i<s.size),i<k->s[i].toNat=48)
def KT (p:Nat)(s:Nc)(w:Wd)(s12:Value)(wr:Wd):Prop:= ∃q:Nat,p<q/\q<=s.size/\s12 =(q:Int)/\w=wr/\(∀i (h:i<s.size),q<=i->s[i].toNat=48)
theorem zD {s:Nc}{k:Nat}(hk:k<s.size)(h:∀i (h:i<s.size),i<k->48<=s[i].toNat/\s[i].toNat<=57)(hd:48<=s[k].toNat/\s[k].toNat<=57):∀i (h:i<s.size),i<k+1->48<=s[i].toNat/\s[i].toNat<=57:=by
 intro i hi hlt
 by_cases e:i=k
 .subst e;exact hd
 .exact h i hi (by omega)
theorem yO {s:Nc}{k:Nat}(hk:k<s.size)(h:∀i (h:i<s.size),i<k->s[i].toNat=48)(hd:s[k].toNat=48):∀i (h:i<s.size),i<k+1->s[i].toNat=48:=by
 intro i hi hlt
 by_cases e:i=k
 .subst e;exact hd
 .exact h i hi (by omega)
theorem yN {s:Nc}(hq:q - 1<s.size)(h:∀i (h:i<s.size),q<=i->s[i].toNat=48)(hd:s[q - 1].toNat=48):∀i (h:i<s.size),q - 1<=i->s[i].toNat=48:=by
 intro i hi hlt
 by_cases e:i=q - 1
 .subst e;exact hd
 .exact h i hi (by omega)
theorem z7 (neg:Bool)(s:Nc)(x:Int)(hs:s.size<=1000000)(w:Wd):Calls prog 215 #[.bool neg,s,(x:Int)] w (Le neg s x w):=by
 have d0:=Zf w (.cells #[false,es,(0:Int)] 71);have c3:=Zf (w.alloc (.cells #[false,es,(0:Int)] 71)) (.cells #[(0:Int),(0:Int),(0:Int),()] 66);rw[World.size_alloc] at c3;have d6:ge w ((w.alloc (.cells #[false,es,(0:Int)] 71)).alloc (.cells #[(0:Int),(0:Int),(0:Int),()] 66)):=((Ze _ _).alloc (Zb _) _).alloc (by simp) _;have b7:((w.alloc (.cells #[false,es,(0:Int)] 71)).alloc (.cells #[(0:Int),(0:Int),(0:Int),()] 66)).heap[w.heap.size]?=some (.cells #[false,es,(0:Int)] 71 (0,0)):=(Below.heap_alloc _ _ _ (by simp)).trans d0;have b2:=Qa b7;have b0:=Qa c3;have b3:=Qa d6;clear d0 b7 c3 d6;go_in
 by_cases h0:s=es
 .subst h0;go_wp2_with fail;generalize (w.alloc (.cells #[false,es,(0:Int)] 71)).alloc (.cells #[(0:Int),(0:Int),(0:Int),()] 66)=w0 at *;refine(fI 107 w0).mono ?_;rintro e wz ⟨rfl,a2⟩;have hu:d8 wz 107 (dV 107 0 0 ()):=⟨0,0,_,rfl,.inl rfl⟩;rw[show dV 107 0 0 () =.agg #[(107:Int),(0:Int),(0:Int),()] from rfl];have a9:=Qa ((a2.block _ (ah b2)).trans b2.out);have b5:=Qa ((a2.block _ (ah b0)).trans b0.out);obtain⟨gh,gl',gA,gq,gr,a1,h3,h4,h5,h1,h2⟩:=dN (D:= #[.bool false,.string es,.int .i64 0]) hu a9.out b5.out (Zb _) (by omega) (b3.trans (a2.mono b3.size));injection a1 with a1
  obtain⟨rfl,rfl,a1⟩:0=gh/\0=gl'/\Value.slice none 0 0=Value.slice gA gq gr:=by simpa using a1
  obtain⟨rfl,rfl,rfl⟩:none=gA/\0=gq/\0=gr:=by simpa using a1
  have H1:=Qa h1;have H2:=Qa h2;have H3:=Qa h3;have H4:=Qa h4;have H5:=Qa h5;clear h1 h2 h3 h4 h5 hu a2 a1;go_wp2_with (first
   |(refine bQ a9 ?_)
   |(refine bQ H3 ?_))
  have h4:=H4.out;have h5:=H5.out;exact Zh (gF results215 _ _ _ _ _ _ _ _ _ _ _ _ _ (0,0) (0,0) rfl h4 rfl h5) rfl ⟨⟨false,es,0⟩,107,rfl,H2,Zc (Nat.le_of_eq (rfl:es.size=0)) (Zk _),fun hc=>absurd hc (by decide)⟩
 have d2:¬s.toList = []:=fun h=>h0 (Bh.1 (h.trans (by rw[ByteArray.toList_eq])))
 have f7:s.toList.isEmpty=false:=by simpa using d2
 have e2:Hid (0<s.size):=Qa (by rcases Nat.eq_zero_or_pos s.size with h|h;exact absurd (by rw[ByteArray.toList_eq];exact List.eq_nil_of_length_eq_zero h) d2;exact h);clear h0;go_wp2_with fail;generalize (w.alloc (.cells #[false,es,(0:Int)] 71)).alloc (.cells #[(0:Int),(0:Int),(0:Int),()] 66)=w0 at *
 go_loopw [8] (Lg s w0) (fun i _=>s.size - (intOf i).toNat)
 case atStart=>exact⟨0,by omega,rfl,rfl,fun i hi h0=>absurd h0 (Nat.not_lt_zero _)⟩
 case round=>
  obtain⟨k,hk,rfl,rfl,hA⟩:=hrel;have HA:=Qa hA;clear hA
  by_cases hlt:k<s.size
  .have hki:(k:Int)<s.size:=by omega
   go_wp2_with fail;refine(qo _ w0).mono ?_;rintro e w' ⟨⟨b,rfl,d3⟩,rfl⟩;have e7:=Qa d3;clear d3
   cases b
   .go_wp2_with fail;refine(fI 107 w0).mono ?_;rintro e wz ⟨rfl,a2⟩;have hu:d8 wz 107 (dV 107 0 0 ()):=⟨0,0,_,rfl,.inl rfl⟩;rw[show dV 107 0 0 () =.agg #[(107:Int),(0:Int),(0:Int),()] from rfl];have a9:=Qa ((a2.block _ (ah b2)).trans b2.out);have b5:=Qa ((a2.block _ (ah b0)).trans b0.out);obtain⟨gh,gl',gA,gq,gr,a1,h3,h4,h5,h1,h2⟩:=dN (D:= #[.bool false,.string es,.int .i64 0]) hu a9.out b5.out (Zb _) (by omega) (b3.trans (a2.mono b3.size));injection a1 with a1
    obtain⟨rfl,rfl,a1⟩:0=gh/\0=gl'/\Value.slice none 0 0=Value.slice gA gq gr:=by simpa using a1
    obtain⟨rfl,rfl,rfl⟩:none=gA/\0=gq/\0=gr:=by simpa using a1
    have H1:=Qa h1;have H2:=Qa h2;have H3:=Qa h3;have H4:=Qa h4;have H5:=Qa h5;clear h1 h2 h3 h4 h5 hu a2 a1;go_wp2_with (first
     |(refine bQ a9 ?_)
     |(refine bQ H3 ?_))
    have h4:=H4.out;have h5:=H5.out;exact Zh (gF results215 _ _ _ _ _ _ _ _ _ _ _ _ _ (0,0) (0,0) rfl h4 rfl h5) rfl ⟨⟨false,es,0⟩,107,rfl,H2,Zc (Nat.le_of_eq (rfl:es.size=0)) (Zk _),fun hc=>absurd hc (by decide)⟩
   .go_wp2_with fail;exact⟨⟨k+1,by omega,by go_num,rfl,zD hlt HA.out (by have:=e7 (by trivial);omega)⟩,by simp[intOf];omega⟩
  obtain rfl:k=s.size:=by omega
  have hki:¬ (s.size:Int)<s.size:=by omega
  go_wp2_with fail;refine(fI 0 w0).mono ?_;rintro e w1 ⟨rfl,b8⟩;have c8:Wr w1 ():=.inl rfl;rw[show dV 0 0 0 () =.agg #[(0:Int),(0:Int),(0:Int),()] from rfl];have c5:=aa w1 (.cells #[(0:Int),(0:Int),(0:Int),()] 66);have b6:=au w1 [(0:Int),(0:Int),(0:Int),()] 66;have d4:=b6 0 _ rfl;have c7:=b6 1 _ rfl;have d5:=b6 2 _ rfl;have d1:=b6 3 _ rfl;have Hu:=Qa (show d8 (w1.alloc (.cells #[(0:Int),(0:Int),(0:Int),()] 66)) 0 (dV 0 0 0 ()) from⟨0,0,_,rfl,c8.below c5⟩);have a7:=b8.trans (c5.mono b8.size);have c0:=Qa (b3.trans (a7.mono b3.size));have b1:=Qa ((a7.block _ (ah b2)).trans b2.out);have b9:=Qa ((a7.block _ (ah b0)).trans b0.out);have f0:w.heap.size+1<w1.heap.size:=Nat.lt_of_lt_of_le (ah b0) b8.size;clear b6 c5 b8 c8 a7;have a0:=Qa (show(w1.alloc (.cells #[(0:Int),(0:Int),(0:Int),()] 66)).cell? (nl w1.heap.size)=some (.int .i64 0)/\(w1.alloc (.cells #[(0:Int),(0:Int),(0:Int),()] 66)).cell? (no w1.heap.size 1)=some (.int .i64 0)/\(w1.alloc (.cells #[(0:Int),(0:Int),(0:Int),()] 66)).cell? (no w1.heap.size 2)=some (.int .i64 0)/\(w1.alloc (.cells #[(0:Int),(0:Int),(0:Int),()] 66)).cell? (no w1.heap.size 3)=some (.slice none 0 0) from⟨d4,c7,d5,d1⟩);clear d4 c7 d5 d1;go_wp2_with fail;generalize (w1.alloc (.cells #[(0:Int),(0:Int),(0:Int),()] 66))=w2 at *;generalize w1.heap.size=fb at *
  go_loopw [11] (KO s w2) (fun i _=>s.size - (intOf i).toNat)
  case atStart=>exact⟨0,by omega,rfl,rfl,fun i hi h0=>absurd h0 (Nat.not_lt_zero _)⟩
  case round=>
   obtain⟨p,hp,rfl,rfl,hZ⟩:=hrel;have HZ:=Qa hZ;clear hZ
   by_cases hlt2:p<s.size
   .have d9:(p:Int)<s.size:=by omega
    by_cases h48:s[p].toNat=48
    .have c6:((s[p].toNat:Int)==48)=true:=by simp;omega
     have e4:=Qa (yO hlt2 HZ.out h48);clear h48;go_wp2_with fail;exact⟨⟨p+1,by omega,by go_num,rfl,e4.out⟩,by simp[intOf];omega⟩
    .have c6:((s[p].toNat:Int)==48)=false:=by simp;omega
     have d7:=Qa h48;have f9:((p:Int)==s.size)=false:=by simp;omega
     clear h48;go_wp2_with fail
     go_loopw [12] (KT p s w2) (fun i _=>(intOf i).toNat)
     case atStart=>exact⟨s.size,by omega,by omega,rfl,rfl,fun i hi h0=>absurd hi (by omega)⟩
     case round=>
      obtain⟨q,f8,e8,rfl,rfl,hD⟩:=hrel;have HD:=Qa hD;clear hD;have e0:q - 1<s.size:=by omega
      have f6:(q:Int) - 1<s.size:=by omega
      have f2:1<=(q:Int):=by omega
      by_cases z48:s[q - 1].toNat=48
      .have f5:q - 1≠p:=fun e=>d7 (by subst e;exact z48)
       have z48':((s[q - 1].toNat:Int)==48)=true:=by simp;omega
       have e6:=Qa (yN e0 HD.out z48);clear z48;go_wp2_with fail;exact⟨⟨q - 1,by omega,by omega,by congr 1;omega,rfl,e6.out⟩,by simp[intOf];omega⟩
      .have z48':((s[q - 1].toNat:Int)==48)=false:=by simp;omega
       have c4:=Qa z48;clear z48;have e5:p<=q:=by omega
       have e3:(p:Int)<=q:=by omega
       have e1:(q:Int)<=s.size:=by omega
       have c9:(s.extract p q).size<=s.size+1:=by simp[ByteArray.size_extract];omega
       have f1:=Qa c9;clear c9;go_wp2_with fail;have f4:p<=q:=by omega
       have f3:q<=s.size:=e8
       all_goals first
        |(with_reducible refine(fI 108 w2).mono ?_
          rintro e wz ⟨rfl,a2⟩;have hu:d8 wz 108 (dV 108 0 0 ()):=⟨0,0,_,rfl,.inl rfl⟩;rw[show dV 108 0 0 () =.agg #[(108:Int),(0:Int),(0:Int),()] from rfl];have a9:=Qa ((a2.block _ (ah b1.out)).trans b1.out);have b5:=Qa ((a2.block _ (ah b9.out)).trans b9.out);obtain⟨gh,gl',gA,gq,gr,a1,h3,h4,h5,h1,h2⟩:=dN (D:= #[.bool false,.string es,.int .i64 0]) hu a9.out b5.out (Zb _) (by omega) (c0.out.trans (a2.mono c0.out.size));injection a1 with a1
          obtain⟨rfl,rfl,a1⟩:0=gh/\0=gl'/\Value.slice none 0 0=Value.slice gA gq gr:=by simpa using a1
          obtain⟨rfl,rfl,rfl⟩:none=gA/\0=gq/\0=gr:=by simpa using a1
          have H1:=Qa h1;have H2:=Qa h2;have H3:=Qa h3;have H4:=Qa h4;have H5:=Qa h5;clear h1 h2 h3 h4 h5 hu a2 a1;go_wp2_with (first
           |(refine bQ a9.out ?_)
           |(refine bQ H3.out ?_))
          have h4:=H4.out;have h5:=H5.out;exact Zh (gF results215 _ _ _ _ _ _ _ _ _ _ _ _ _ (0,0) (0,0) rfl h4 rfl h5) rfl ⟨⟨false,es,0⟩,108,rfl,H2.out,Zc (Nat.le_of_eq (rfl:es.size=0)) (Zk _),fun hc=>absurd hc (by decide)⟩
         )
        |(skip
          obtain⟨gh,gl',gA,gq,gr,a1,h3,h4,h5,h1,h2⟩:=dN (w:=w2.drew) (D:= #[.bool neg,.string (s.extract p q),.int .i64 (x+s.size - q)]) Hu.out b1.out b9.out (Zb _) (by omega) (c0.drew);injection a1 with a1
          obtain⟨rfl,rfl,a1⟩:0=gh/\0=gl'/\Value.slice none 0 0=Value.slice gA gq gr:=by simpa using a1
          obtain⟨rfl,rfl,rfl⟩:none=gA/\0=gq/\0=gr:=by simpa using a1
          have H1:=Qa h1;have H2:=Qa h2;have H3:=Qa h3;have H4:=Qa h4;have H5:=Qa h5;have a4:some (fb)≠some (w.heap.size):=fun e=>by injection e with e;omega
          have a6:some (fb)≠some (w.heap.size+1):=fun e=>by injection e with e;omega
          have a3:(w2.drew.setRow w.heap.size #[.bool neg,.string (s.extract p q),(x+s.size - q:Int)]).cell? (nl fb)=some (.int .i64 0)/\(w2.drew.setRow w.heap.size #[.bool neg,.string (s.extract p q),(x+s.size - q:Int)]).cell? (no fb 1)=some (.int .i64 0)/\(w2.drew.setRow w.heap.size #[.bool neg,.string (s.extract p q),(x+s.size - q:Int)]).cell? (no fb 2)=some (.int .i64 0)/\(w2.drew.setRow w.heap.size #[.bool neg,.string (s.extract p q),(x+s.size - q:Int)]).cell? (no fb 3)=some (.slice none 0 0):=⟨(aj _ _ _).cell a0.1 a4,(aj _ _ _).cell a0.2.1 a4,(aj _ _ _).cell a0.2.2.1 a4,(aj _ _ _).cell a0.2.2.2 a4⟩;have b4:((w2.drew.setRow w.heap.size #[.bool neg,.string (s.extract p q),(x+s.size - q:Int)]).setRow (w.heap.size+1) #[(0:Int),(0:Int),(0:Int),()]).cell? (nl fb)=some (.int .i64 0)/\((w2.drew.setRow w.heap.size #[.bool neg,.string (s.extract p q),(x+s.size - q:Int)]).setRow (w.heap.size+1) #[(0:Int),(0:Int),(0:Int),()]).cell? (no fb 1)=some (.int .i64 0)/\((w2.drew.setRow w.heap.size #[.bool neg,.string (s.extract p q),(x+s.size - q:Int)]).setRow (w.heap.size+1) #[(0:Int),(0:Int),(0:Int),()]).cell? (no fb 2)=some (.int .i64 0)/\((w2.drew.setRow w.heap.size #[.bool neg,.string (s.extract p q),(x+s.size - q:Int)]).setRow (w.heap.size+1) #[(0:Int),(0:Int),(0:Int),()]).cell? (no fb 3)=some (.slice none 0 0):=⟨(aj _ _ _).cell a3.1 a6,(aj _ _ _).cell a3.2.1 a6,(aj _ _ _).cell a3.2.2.1 a6,(aj _ _ _).cell a3.2.2.2 a6⟩;have c1:=Qa a3;have c2:=Qa b4;clear h1 h2 h3 h4 h5 a1 a4 a6 a3 b4;refine aI (fun w'=>w'.cell? (nl fb)=some (.int .i64 0)/\w'.cell? (no fb 1)=some (.int .i64 0)/\w'.cell? (no fb 2)=some (.int .i64 0)/\w'.cell? (no fb 3)=some (.slice none 0 0)) (a0.out) fun a5=>?_
          refine bw 0 1 2 a5 ?_;refine bw 3 4 5 a5 ?_;refine tH 6 a5 ?_;refine tH 7 a5 ?_;refine rH 8 fun K hK=>?_
          refine bZ b1.out ?_;refine hK _ _ (c1.out) (fun a5=>?_);clear hK K
          try simp only[Act.put,jP,jQ,jR]
          refine rH 9 fun K hK=>?_
          refine bZ H3.out ?_;refine hK _ _ (c2.out) (fun a5=>?_);clear hK K
          try simp only[Act.put,jP,jQ,jR]
          refine y5 ?_;go_wp2_with fail;have h4:=H4.out;have h5:=H5.out;exact Zh (gF results215 _ _ _ _ _ _ _ _ _ _ _ _ _ (0,0) (0,0) rfl h4 rfl h5) rfl ⟨⟨neg,s.extract p q,x+s.size - q⟩,0,rfl,H2,f1,fun _=>⟨by omega,fun i hi=>HA i hi hi,.inr ⟨p,q,by omega,by omega,HZ.out,fun _=>d7.out,fun _=>c4.out,HD.out,rfl,by dsimp only;omega,by dsimp only;omega⟩⟩⟩
         )
   .have d9:¬ (p:Int)<s.size:=by omega
    obtain rfl:p=s.size:=by omega
    go_wp2_with fail;obtain⟨gh,gl',gA,gq,gr,a1,h3,h4,h5,h1,h2⟩:=dN (w:=w2.drew) (D:= #[.bool false,.string ⟨#[48]⟩,.int .i64 0]) Hu.out b1.out b9.out (Zb _) (by omega) (c0.drew);injection a1 with a1
    obtain⟨rfl,rfl,a1⟩:0=gh/\0=gl'/\Value.slice none 0 0=Value.slice gA gq gr:=by simpa using a1
    obtain⟨rfl,rfl,rfl⟩:none=gA/\0=gq/\0=gr:=by simpa using a1
    have H1:=Qa h1;have H2:=Qa h2;have H3:=Qa h3;have H4:=Qa h4;have H5:=Qa h5;have a4:some (fb)≠some (w.heap.size):=fun e=>by injection e with e;omega
    have a6:some (fb)≠some (w.heap.size+1):=fun e=>by injection e with e;omega
    have a3:(w2.drew.setRow w.heap.size #[false,.string ⟨#[48]⟩,(0:Int)]).cell? (nl fb)=some (.int .i64 0)/\(w2.drew.setRow w.heap.size #[false,.string ⟨#[48]⟩,(0:Int)]).cell? (no fb 1)=some (.int .i64 0)/\(w2.drew.setRow w.heap.size #[false,.string ⟨#[48]⟩,(0:Int)]).cell? (no fb 2)=some (.int .i64 0)/\(w2.drew.setRow w.heap.size #[false,.string ⟨#[48]⟩,(0:Int)]).cell? (no fb 3)=some (.slice none 0 0):=⟨(aj _ _ _).cell a0.1 a4,(aj _ _ _).cell a0.2.1 a4,(aj _ _ _).cell a0.2.2.1 a4,(aj _ _ _).cell a0.2.2.2 a4⟩;have b4:((w2.drew.setRow w.heap.size #[false,.string ⟨#[48]⟩,(0:Int)]).setRow (w.heap.size+1) #[(0:Int),(0:Int),(0:Int),()]).cell? (nl fb)=some (.int .i64 0)/\((w2.drew.setRow w.heap.size #[false,.string ⟨#[48]⟩,(0:Int)]).setRow (w.heap.size+1) #[(0:Int),(0:Int),(0:Int),()]).cell? (no fb 1)=some (.int .i64 0)/\((w2.drew.setRow w.heap.size #[false,.string ⟨#[48]⟩,(0:Int)]).setRow (w.heap.size+1) #[(0:Int),(0:Int),(0:Int),()]).cell? (no fb 2)=some (.int .i64 0)/\((w2.drew.setRow w.heap.size #[false,.string ⟨#[48]⟩,(0:Int)]).setRow (w.heap.size+1) #[(0:Int),(0:Int),(0:Int),()]).cell? (no fb 3)=some (.slice none 0 0):=⟨(aj _ _ _).cell a3.1 a6,(aj _ _ _).cell a3.2.1 a6,(aj _ _ _).cell a3.2.2.1 a6,(aj _ _ _).cell a3.2.2.2 a6⟩;have c1:=Qa a3;have c2:=Qa b4;clear h1 h2 h3 h4 h5 a1 a4 a6 a3 b4;refine aI (fun w'=>w'.cell? (nl fb)=some (.int .i64 0)/\w'.cell? (no fb 1)=some (.int .i64 0)/\w'.cell? (no fb 2)=some (.int .i64 0)/\w'.cell? (no fb 3)=some (.slice none 0 0)) (a0.out) fun a5=>?_
    refine tH 0 a5 ?_;refine tH 1 a5 ?_;refine rH 2 fun K hK=>?_
    refine bZ b1.out ?_;refine hK _ _ (c1.out) (fun a5=>?_);clear hK K
    try simp only[Act.put,jP,jQ,jR]
    refine rH 3 fun K hK=>?_
    refine bZ H3.out ?_;refine hK _ _ (c2.out) (fun a5=>?_);clear hK K
    try simp only[Act.put,jP,jQ,jR]
    refine y5 ?_;go_wp2_with fail;have h4:=H4.out;have h5:=H5.out;exact Zh (gF results215 _ _ _ _ _ _ _ _ _ _ _ _ _ (0,0) (0,0) rfl h4 rfl h5) rfl ⟨⟨false,⟨#[48]⟩,0⟩,0,rfl,H2,by show 1<=_;omega,fun _=>⟨by have:=e2.out;omega,fun i hi=>HA i hi hi,.inl ⟨fun i hi=>HZ i hi hi,rfl⟩⟩⟩
theorem qM (c h l p:Int)(w:Wd):Calls prog 216 #[dV c h l (),(p:Int)] w (xu w c):=by
 unfold dV;go_in;go_wp2_with fail;have hb:=((((Ze w.heap.size w).alloc (Zb _) (.cells #[(c:Int),(h:Int),(l:Int),()] 66)).alloc (by simp) (.cells #[(c:Int),(h:Int),(l:Int),.slice (some ⟨w.heap.size+1+1,0,none⟩) 1 1] 66)).alloc (by simp;omega) (.cells #[false,(p:Int),es] 316));have hc:=au ((w.alloc (.cells #[(c:Int),(h:Int),(l:Int),()] 66)).alloc (.cells #[(c:Int),(h:Int),(l:Int),.slice (some ⟨w.heap.size+1+1,0,none⟩) 1 1] 66)) [false,(p:Int),es] 316;have a0:=Zf (w.alloc (.cells #[(c:Int),(h:Int),(l:Int),()] 66)) (.cells #[(c:Int),(h:Int),(l:Int),.slice (some ⟨w.heap.size+1+1,0,none⟩) 1 1] 66);simp only[World.size_alloc] at hc a0;exact Zh (results_cell_row results216 _ _ (w.heap.size+1) 66 #[(c:Int),(h:Int),(l:Int),.slice (some ⟨w.heap.size+1+1,0,none⟩) 1 1] (0,0) _ (by simp) ((Below.heap_alloc _ _ _ (by simp)).trans a0) underlying66 rfl bB) rfl ⟨_,rfl,⟨h,l,_,rfl,.inr ⟨w.heap.size+1+1,1,false,p,es,rfl,hc 0 _ rfl,hc 1 _ rfl,hc 2 _ rfl⟩⟩,hb⟩
theorem jN {fn:Func}{p m q:Tmp}(h:fn.results = #[.cell p 71,.tmp m,.cell q 66])(tmps:Array Value)(w:Wd)(g1 g:Nat)(t1 t:TypeId)(d0 d1 d2 c0 c1 c2 c3:Value)(fr1 fr:Nat×Nat)
  (a1:tmps.getD p undef =.pointer (some (nl g1))) (a3:w.heap[g1]?=some (.cells #[d0,d1,d2] t1 fr1))
  (hp:tmps.getD q undef =.pointer (some (nl g))) (hg:w.heap[g]?=some (.cells #[c0,c1,c2,c3] t fr)) :
  (results fn tmps).run prog w =.ok (.tuple #[.agg #[d0,d1,d2],tmps.getD m undef,.agg #[c0,c1,c2,c3]]) w:=by
 have a0:tmps[p]?.getD undef =.pointer (some (nl g1)):=by simpa using a1
 have a2:tmps[q]?.getD undef =.pointer (some (nl g)):=by simpa using hp
 have a4:=run_loadVar_row (P:=prog) w g1 t1 71 #[d0,d1,d2] fr1 _ a3 underlying71 rfl (by kernel_rfl);have hl:=run_loadVar_row (P:=prog) w g t 66 #[c0,c1,c2,c3] fr _ hg underlying66 rfl bB;simp[results,h,a0,a2,asAddr,a4,hl]
def kt (d:Dc):Prop:=d= ⟨false,⟨#[48]⟩,0⟩\/(0<d.digits.size/\(∀i (h:i<d.digits.size),48<=d.digits[i].toNat/\d.digits[i].toNat<=57)/\(∀h:0<d.digits.size,d.digits[0].toNat≠48)/\(∀h:d.digits.size - 1<d.digits.size,d.digits[d.digits.size - 1].toNat≠48)/\ -1000000000<=d.exp/\d.exp<=1000000000)
theorem jK {s:Nc}(h:i< (s.extract p q).size)(h2:p+i<s.size):(s.extract p q)[i]=s[p+i]:=by
 show(s.extract p q).data[i]=s.data[p+i]
 have e:(s.extract p q).data=s.data.extract p q:=ByteArray.data_extract ..;simp only[e,Array.getElem_extract]
theorem uc.norm {neg:Bool}{s:Nc}{x:Int}(h:uc neg s x d):kt d:=by
 obtain⟨-,hd,⟨-,rfl⟩|⟨p,q,a1,hq,-,hp,hl,-,rfl,h1,h2⟩⟩:=h
 .exact .inl rfl
 .have hz:(s.extract p q).size=q - p:=by rw[ByteArray.size_extract];omega
  refine .inr ⟨by show 0< (s.extract p q).size;omega,fun i hi=>?_,fun h=>?_,fun h=>?_,h1,h2⟩
  .have a0:i< (s.extract p q).size:=hi
   show 48<=(s.extract p q)[i].toNat/\(s.extract p q)[i].toNat<=57
   rw[jK a0 (by omega)];exact hd _ _
  .have a0:0< (s.extract p q).size:=h
   show(s.extract p q)[0].toNat≠48
   rw[jK a0 (by omega)];exact hp _
  .have a0:(s.extract p q).size - 1< (s.extract p q).size:=h
   show(s.extract p q)[(s.extract p q).size - 1].toNat≠48
   rw[jK a0 (by omega)];have e:p+ ((s.extract p q).size - 1)=q - 1:=by omega
   have:=hl (by omega);simpa only[e] using this
def LW (len:Nat)(w:Wd)(e:Ending)(w':Wd):Prop:= ∃ (d:Dc) (n:Nat) (c:Int) (u:Value),e =.returned (.tuple #[Df d,(n:Int),u])/\d8 w' c u/\ge w w'/\d.digits.size<=len+1/\(c=0->1<=n/\n<=len/\kt d)
def sQ (w0:Wd)(len:Nat)(s5 s6 s7 s8 s9 s10 s11:Value)(wr:Wd):Prop:= ∃ (k:Nat) (s p x:Int) (b1 b2:Bool) (ys:Na) (vd:Value),k<=len/\s5 =(s:Int)/\(k=0->s=0)/\s6 =(k:Int)/\s7 =.bool b1/\s8 =.bool b2/\vd=s9/\aw wr w0.heap.size vd ys/\ys.length<=k/\s10 =(p:Int)/\s11 =(x:Int)/\ge w0 wr
theorem yK (hb:Bs w v xs)(hl:xs.length<=900000):Calls prog 187 #[v] w (LW xs.length w):=by
 obtain⟨hm,A,cap,rfl,g1,b4⟩:=id hb;have f4:=Zf w (.cells #[false,es,(0:Int)] 71);have d6:=Zf (w.alloc (.cells #[false,es,(0:Int)] 71)) (.cells #[(0:Int),(0:Int),(0:Int),()] 66);rw[World.size_alloc] at d6;have f5:ge w ((w.alloc (.cells #[false,es,(0:Int)] 71)).alloc (.cells #[(0:Int),(0:Int),(0:Int),()] 66)):=((Ze _ _).alloc (Zb _) _).alloc (by simp) _;have c8:((w.alloc (.cells #[false,es,(0:Int)] 71)).alloc (.cells #[(0:Int),(0:Int),(0:Int),()] 66)).heap[w.heap.size]?=some (.cells #[false,es,(0:Int)] 71 (0,0)):=(Below.heap_alloc _ _ _ (by simp)).trans f4;have f2:=Qa c8;have e3:=Qa d6;have d0:=Qa f5;have g8:=Qa hb;have c5:=Qa b4;clear f4 c8 d6 f5 hb b4;go_in;go_upto_block 0 with fail
 generalize (w.alloc (.cells #[false,es,(0:Int)] 71)).alloc (.cells #[(0:Int),(0:Int),(0:Int),()] 66)=w0 at *;go_cut [5,6,7,8,9,10,11] (fun s5 s6 s7 s8 s9 s10 s11 wx=>sQ w0 xs.length s5 s6 s7 s8 s9 s10 s11 wx)
 case first=>
  go_wp2_with fail
  go_loopw [5,6,7,8,9,10,11] (sQ w0 xs.length) (fun _ i _ _ _ _ _ _=>xs.length - (intOf i).toNat)
  case atStart=>exact⟨0,0,0,0,false,false, [],_,by omega,rfl,fun _=>rfl,rfl,rfl,rfl,rfl,aw.nil _ _,by simp,rfl,rfl,Ze _ _⟩
  case round=>
   obtain⟨k,s,p,x,b1,b2,ys,vd,hk,rfl,c7,rfl,rfl,rfl,rfl,ho,hyl,rfl,rfl,a9⟩:=hrel;have Ho:=Qa ho;have Hs0:=Qa c7;have Hbr:=Qa a9;clear ho c7 a9
   by_cases hlt:k<xs.length
   case neg=>
    have hki:¬ (k:Int)<xs.length:=by omega
    go_wp2_with fail;go_meet
    case rel=>exact⟨k,s,p,x,b1,b2,ys,vd,hk,rfl,Hs0,rfl,rfl,rfl,rfl,Ho,hyl,rfl,rfl,Hbr⟩
   have hki:(k:Int)<xs.length:=by omega
   obtain⟨b,o,rfl,f1⟩:=c5 (by omega);have ck:=Zg (d0.trans (Hbr.mono d0.size)) (f1 k hlt);have b6:Bs (wr.alloc (.cells #[.int .u8 (ar xs k)] 5)) (.slice (some (nl wr.heap.size)) 1 1) [xs.getD k 0]:=tT [xs.getD k 0] (by simp) (by simp) (Zf _ _);obtain⟨X,hX,g7,g4⟩:∃X:Int,(ar xs k:Int)=X/\0<=X/\X<256:=⟨_,rfl,by omega,by have:=aO xs k;omega⟩;rw[hX] at ck b6;have c3:=Qa b6;clear hX f1 b6;go_wp2_with fail;refine(BW s X wr).mono ?_;rintro e w' ⟨⟨t,rfl,h6,g9,f3⟩,rfl⟩;have h0:=Qa f3;clear f3;have hrel:∀ (s p x:Int) (b1 b2:Bool),sQ w0 xs.length (s:Int) ((k+1:Nat):Int) (.bool b1) (.bool b2) vd (p:Int) (x:Int) wr:=fun s p x b1 b2=>⟨k+1,s,p,x,b1,b2,ys,vd,by omega,rfl,fun h=>by omega,rfl,rfl,rfl,rfl,Ho.out,by omega,rfl,rfl,Hbr.out⟩
   have e0:=Qa hrel;have b5:∀ (v':Value) (w3:Wd),aw w3 w0.heap.size v' (ys ++ [xs.getD k 0])->(wr.alloc (.cells #[.int .u8 X] 5)).grownBy w3 vd.ownBlock->∀ (s p x:Int) (b1 b2:Bool),sQ w0 xs.length (s:Int) ((k+1:Nat):Int) (.bool b1) (.bool b2) v' (p:Int) (x:Int) w3:=fun v' w3 h1 h2 s p x b1 b2=>
    ⟨k+1,s,p,x,b1,b2,_,_,by omega,rfl,fun h=>by omega,rfl,rfl,rfl,rfl,h1,by simp;omega,rfl,rfl,(Hbr.trans ((aa _ _).mono Hbr.size)).grown h2 (by simp;have:=Hbr.size;omega) (fun g e=>(am Ho e).1)⟩
   have c6:=Qa b5;have b0:=Ho.below (aa wr (.cells #[.int .u8 X] 5)) (Zb _);have b3:=Qa b0;clear hrel b5 b0;have e8:(((k+1:Nat):Int))= (k:Int)+1:=by omega
   have d1:=Qa e8;clear e8;rcases(by omega:t=1\/t=2\/t=3\/t=4\/t=5\/t=6\/t=7\/t=8\/t=9) with rfl|rfl|rfl|rfl|rfl|rfl|rfl|rfl|rfl
   case inr.inr.inr.inr.inr.inr.inr.inr=>
    go_wp2_with fail;go_meet
    case rel=>exact⟨k,s,p,x,b1,b2,ys,vd,hk,rfl,Hs0,rfl,rfl,rfl,rfl,Ho,hyl,rfl,rfl,Hbr⟩
   case inr.inl|inr.inr.inl|inr.inr.inr.inr.inl=>
    go_wp2_with (at_builtin;first
     |(refine su b3 c3 (by simp;omega) (by have:=Hbr.size;simp;omega) ?_;intro v' w3 h1 h2 h3;have HK:=Qa h1;have HG:=Qa h2;clear h1 h2 h3)
     |(refine su b3 c3 (by simp;omega) (by have:=Hbr.size;simp;omega) ?_;intro v' w3 h1 h2 h3;have HK:=Qa h1;have HG:=Qa h2;clear h1 h2 h3))
    all_goals
     have h:=c6 v' w3 HK.out HG.out;rw[d1.out] at h;exact⟨h _ _ _ _ _,by simp[intOf];omega⟩
   all_goals
    go_wp2_with fail
    all_goals
     have h:=e0.out;rw[d1.out] at h;exact⟨h _ _ _ _ _,by simp[intOf];omega⟩
 case rest=>
  obtain⟨k,s,p,x,b1,b2,ys,vd,hk,rfl,c7,rfl,rfl,rfl,rfl,ho,hyl,rfl,rfl,a9⟩:=hcut;have Ho:=Qa ho;have Hs0:=Qa c7;have Hbr:=Qa a9;have c0:=Qa ((a9.block _ (ah f2)).trans f2.out);have b8:=Qa ((a9.block _ (ah e3)).trans e3.out);have b7:=d0.trans (a9.mono d0.size);have b9:=Qa b7;clear ho c7 a9 b7
  by_cases hs:s=2\/s=3\/s=5\/s=8
  case neg=>
   have h2:(s !=2)=true:=by simp;omega
   have h3:(s !=3)=true:=by simp;omega
   have h5:(s !=5)=true:=by simp;omega
   have h8:(s !=8)=true:=by simp;omega
   clear hs;go_wp2_with fail;refine(cV 107 k wc).mono ?_;rintro e wz ⟨u,rfl,hu,a4⟩;have c4:=Qa ((a4.block _ (ah c0)).trans c0.out);have d9:=Qa ((a4.block _ (ah b8)).trans b8.out);obtain⟨fh,fl,fA,fq,fr,rfl,h3,h4,h5,h1,h2⟩:=dN (D:= #[.bool false,.string es,.int .i64 0]) hu c4.out d9.out (Zb _) (by omega) (b9.trans (a4.mono b9.size));have H1:=Qa h1;have H2:=Qa h2;have H3:=Qa h3;have H4:=Qa h4;have H5:=Qa h5;clear h1 h2 h3 h4 h5 hu a4;go_wp2_with (first
    |(refine bQ c4 ?_)
    |(refine bQ H3 ?_))
   have h4:=H4.out;have h5:=H5.out;exact Zh (jN results187 _ _ _ _ _ _ _ _ _ _ _ _ _ (0,0) (0,0) rfl h4 rfl h5) rfl ⟨⟨false,es,0⟩,0,107,_,rfl,H1,H2,Zc (Nat.le_of_eq (rfl:es.size=0)) (Zk _),fun h=>by cases h⟩
  have d1:=Qa (show 1<=k from by
   by_cases h:k=0
   .have:=Hs0 h;omega
   .omega)
  have hq:∀W,ge wc W->(convert 30 9 vd).run prog W =.ok (.string ⟨ys.toArray⟩) W:=fun W hW=>a8 (Ho.bs.below hW)
  have d5:=hq wc (Ze _ _);clear hq;have e5:(⟨ys.toArray⟩:Nc).size<=xs.length:=by simp[ByteArray.size];omega
  have e6:=Qa e5;clear e5;obtain⟨w3,c9⟩:=y7 wc;rw[c9] at d5 Ho Hbr c0 b8 b9 ⊢;clear c9;go_upto_region 28 with fail
  go_cut [87] (fun s87 wx=>s87 =.bool false/\wx=w3)
  case first=>
   rcases hs with rfl|rfl|rfl|rfl <;> go_wp2_with fail
   all_goals
    go_meet
    case rel=>exact⟨rfl,rfl⟩
  case rest=>
   obtain⟨rfl,rfl⟩:=hcut;go_upto_if 91 with fail
   obtain⟨w3,c9⟩:=y7 wc;rw[c9] at d5 Ho Hbr c0 b8 b9 ⊢;clear c9;go_cut [11] (fun s11 wx=>(∃x':Int,s11 =(x':Int))/\wx=w3)
   case first=>
    cases b2 <;> go_wp2_with fail
    all_goals
     go_meet
     case rel=>exact⟨⟨_,rfl⟩,rfl⟩
   case rest=>
    obtain⟨⟨x',rfl⟩,rfl⟩:=hcut;go_wp2_with fail;refine(z7 b1 ⟨ys.toArray⟩ _ (by have:=e6.out;omega) wc).mono ?_;rintro e w1 ⟨d,c,rfl,b7,f9,e7⟩;have g3:=Qa (fun hc=>uc.norm (e7 hc));have g0:=Qa (show d.digits.size<=xs.length+1 from by have:=e6.out;omega);clear f9 e7;obtain⟨dn,dd,dx⟩:=d;rw[show Df ⟨dn,dd,dx⟩ =.agg #[.bool dn,dd,(dx:Int)] from rfl,show dV c 0 0 () =.agg #[(c:Int),(0:Int),(0:Int),()] from rfl];have f0:ge w1 ((w1.alloc (.cells #[.bool dn,dd,(dx:Int)] 71)).alloc (.cells #[(c:Int),(0:Int),(0:Int),()] 66)):=(aa w1 _).alloc (by simp) _;have hcd:=au w1 [.bool dn,dd,(dx:Int)] 71;have c1:=au (w1.alloc (.cells #[.bool dn,dd,(dx:Int)] 71)) [(c:Int),(0:Int),(0:Int),()] 66;rw[World.size_alloc] at c1;have d3:=aa (w1.alloc (.cells #[.bool dn,dd,(dx:Int)] 71)) (.cells #[(c:Int),(0:Int),(0:Int),()] 66);have a0:=Qa (show((w1.alloc (.cells #[.bool dn,dd,(dx:Int)] 71)).alloc (.cells #[(c:Int),(0:Int),(0:Int),()] 66)).cell? (nl w1.heap.size)=some (.bool dn)/\((w1.alloc (.cells #[.bool dn,dd,(dx:Int)] 71)).alloc (.cells #[(c:Int),(0:Int),(0:Int),()] 66)).cell? (no w1.heap.size 1)=some (.string dd)/\((w1.alloc (.cells #[.bool dn,dd,(dx:Int)] 71)).alloc (.cells #[(c:Int),(0:Int),(0:Int),()] 66)).cell? (no w1.heap.size 2)=some (.int .i64 dx)/\((w1.alloc (.cells #[.bool dn,dd,(dx:Int)] 71)).alloc (.cells #[(c:Int),(0:Int),(0:Int),()] 66)).cell? ⟨w1.heap.size+1,0,none⟩=some (.int .i64 c)/\((w1.alloc (.cells #[.bool dn,dd,(dx:Int)] 71)).alloc (.cells #[(c:Int),(0:Int),(0:Int),()] 66)).cell? ⟨w1.heap.size+1,1,none⟩=some (.int .i64 0)/\((w1.alloc (.cells #[.bool dn,dd,(dx:Int)] 71)).alloc (.cells #[(c:Int),(0:Int),(0:Int),()] 66)).cell? ⟨w1.heap.size+1,2,none⟩=some (.int .i64 0)/\((w1.alloc (.cells #[.bool dn,dd,(dx:Int)] 71)).alloc (.cells #[(c:Int),(0:Int),(0:Int),()] 66)).cell? ⟨w1.heap.size+1,3,none⟩=some (.slice none 0 0) from⟨Zg d3 (hcd 0 _ rfl),Zg d3 (hcd 1 _ rfl),Zg d3 (hcd 2 _ rfl),c1 0 _ rfl,c1 1 _ rfl,c1 2 _ rfl,c1 3 _ rfl⟩);have a1:=b7.trans (f0.mono b7.size);have f8:=Qa a1;have e1:=Qa (b9.trans (a1.mono b9.size));have d4:=Qa ((a1.block _ (ah c0)).trans c0.out);have d7:=Qa ((a1.block _ (ah b8)).trans b8.out);have g2:w.heap.size+1<w1.heap.size:=Nat.lt_of_lt_of_le (ah b8) b7.size;clear f0 hcd c1 d3 a1 b7 d5
    by_cases hc:c=0
    case neg=>
     have g6:(c !=0)=true:=by simpa using hc
     have Hc:=Qa hc;clear hc;go_wp2_with fail;generalize ((w1.alloc (.cells #[.bool dn,dd,(dx:Int)] 71)).alloc (.cells #[(c:Int),(0:Int),(0:Int),()] 66))=w2 at *;refine(qM c 0 0 0 w2).mono ?_;rintro e wz ⟨u,rfl,hu,a4⟩;have c4:=Qa ((a4.block _ (ah d4)).trans d4.out);have d9:=Qa ((a4.block _ (ah d7)).trans d7.out);obtain⟨fh,fl,fA,fq,fr,rfl,h3,h4,h5,h1,h2⟩:=dN (D:= #[.bool false,.string es,.int .i64 0]) hu c4.out d9.out (Zb _) (by omega) (e1.trans (a4.mono e1.size));have H1:=Qa h1;have H2:=Qa h2;have H3:=Qa h3;have H4:=Qa h4;have H5:=Qa h5;clear h1 h2 h3 h4 h5 hu a4;go_wp2_with (first
      |(refine bQ c4 ?_)
      |(refine bQ H3 ?_))
     have h4:=H4.out;have h5:=H5.out;exact Zh (jN results187 _ _ _ _ _ _ _ _ _ _ _ _ _ (0,0) (0,0) rfl h4 rfl h5) rfl ⟨⟨false,es,0⟩,0,c,_,rfl,H1,H2,Zc (Nat.le_of_eq (rfl:es.size=0)) (Zk _),fun h=>absurd h Hc.out⟩
    subst hc;go_wp2_with fail;generalize ((w1.alloc (.cells #[.bool dn,dd,(dx:Int)] 71)).alloc (.cells #[(0:Int),(0:Int),(0:Int),()] 66))=w2 at *;have g5:=Qa (rfl:w1.heap.size=w1.heap.size);generalize w1.heap.size=db at *;obtain⟨fb,e4⟩:=y7 (db+1);rw[e4] at a0 ⊢;have Hu:=Qa (show d8 w2.drew 0 (dV 0 0 0 ()) from⟨0,0,_,rfl,.inl rfl⟩);obtain⟨gh,gl',gA,gq,gr,c2,h3,h4,h5,h1,h2⟩:=dN (w:=w2.drew) (D:= #[.bool dn,.string dd,.int .i64 dx]) Hu.out d4.out d7.out (Zb _) (by omega) (e1.drew);injection c2 with c2
    obtain⟨rfl,rfl,c2⟩:0=gh/\0=gl'/\Value.slice none 0 0=Value.slice gA gq gr:=by simpa using c2
    obtain⟨rfl,rfl,rfl⟩:none=gA/\0=gq/\0=gr:=by simpa using c2
    have H1:=Qa h1;have H2:=Qa h2;have H3:=Qa h3;have H4:=Qa h4;have H5:=Qa h5;have a7:some db≠some w.heap.size:=fun e=>by injection e with e;omega
    have a2:some fb≠some w.heap.size:=fun e=>by injection e with e;omega
    have a6:some db≠some (w.heap.size+1):=fun e=>by injection e with e;omega
    have a3:some fb≠some (w.heap.size+1):=fun e=>by injection e with e;omega
    have a5:(w2.drew.setRow w.heap.size #[.bool dn,dd,(dx:Int)]).cell? (nl db)=some (.bool dn)/\(w2.drew.setRow w.heap.size #[.bool dn,dd,(dx:Int)]).cell? (no db 1)=some (.string dd)/\(w2.drew.setRow w.heap.size #[.bool dn,dd,(dx:Int)]).cell? (no db 2)=some (.int .i64 dx)/\(w2.drew.setRow w.heap.size #[.bool dn,dd,(dx:Int)]).cell? (nl fb)=some (.int .i64 0)/\(w2.drew.setRow w.heap.size #[.bool dn,dd,(dx:Int)]).cell? (no fb 1)=some (.int .i64 0)/\(w2.drew.setRow w.heap.size #[.bool dn,dd,(dx:Int)]).cell? (no fb 2)=some (.int .i64 0)/\(w2.drew.setRow w.heap.size #[.bool dn,dd,(dx:Int)]).cell? (no fb 3)=some (.slice none 0 0):=⟨(aj _ _ _).cell a0.1 a7,(aj _ _ _).cell a0.2.1 a7,(aj _ _ _).cell a0.2.2.1 a7,(aj _ _ _).cell a0.2.2.2.1 a2,(aj _ _ _).cell a0.2.2.2.2.1 a2,(aj _ _ _).cell a0.2.2.2.2.2.1 a2,(aj _ _ _).cell a0.2.2.2.2.2.2 a2⟩;have e2:((w2.drew.setRow w.heap.size #[.bool dn,dd,(dx:Int)]).setRow (w.heap.size+1) #[(0:Int),(0:Int),(0:Int),()]).cell? (nl db)=some (.bool dn)/\((w2.drew.setRow w.heap.size #[.bool dn,dd,(dx:Int)]).setRow (w.heap.size+1) #[(0:Int),(0:Int),(0:Int),()]).cell? (no db 1)=some (.string dd)/\((w2.drew.setRow w.heap.size #[.bool dn,dd,(dx:Int)]).setRow (w.heap.size+1) #[(0:Int),(0:Int),(0:Int),()]).cell? (no db 2)=some (.int .i64 dx)/\((w2.drew.setRow w.heap.size #[.bool dn,dd,(dx:Int)]).setRow (w.heap.size+1) #[(0:Int),(0:Int),(0:Int),()]).cell? (nl fb)=some (.int .i64 0)/\((w2.drew.setRow w.heap.size #[.bool dn,dd,(dx:Int)]).setRow (w.heap.size+1) #[(0:Int),(0:Int),(0:Int),()]).cell? (no fb 1)=some (.int .i64 0)/\((w2.drew.setRow w.heap.size #[.bool dn,dd,(dx:Int)]).setRow (w.heap.size+1) #[(0:Int),(0:Int),(0:Int),()]).cell? (no fb 2)=some (.int .i64 0)/\((w2.drew.setRow w.heap.size #[.bool dn,dd,(dx:Int)]).setRow (w.heap.size+1) #[(0:Int),(0:Int),(0:Int),()]).cell? (no fb 3)=some (.slice none 0 0):=⟨(aj _ _ _).cell a5.1 a6,(aj _ _ _).cell a5.2.1 a6,(aj _ _ _).cell a5.2.2.1 a6,(aj _ _ _).cell a5.2.2.2.1 a3,(aj _ _ _).cell a5.2.2.2.2.1 a3,(aj _ _ _).cell a5.2.2.2.2.2.1 a3,(aj _ _ _).cell a5.2.2.2.2.2.2 a3⟩;have f7:=Qa a5;have f6:=Qa e2;clear h1 h2 h3 h4 h5 c2 a7 a2 a6 a3 a5 e2 e4;refine aI (fun w'=>w'.cell? (nl db)=some (.bool dn)/\w'.cell? (no db 1)=some (.string dd)/\w'.cell? (no db 2)=some (.int .i64 dx)/\w'.cell? (nl fb)=some (.int .i64 0)/\w'.cell? (no fb 1)=some (.int .i64 0)/\w'.cell? (no fb 2)=some (.int .i64 0)/\w'.cell? (no fb 3)=some (.slice none 0 0)) (a0.out) fun d2=>?_
    refine bw 0 1 2 d2 ?_;refine rH 3 fun K hK=>?_
    refine bZ d4.out ?_;refine hK _ _ (f7.out) (fun d2=>?_);clear hK K
    try simp only[Act.put,jP,jQ,jR]
    refine tH 4 d2 ?_;refine rH 5 fun K hK=>?_
    refine bZ H3.out ?_;refine hK _ _ (f6.out) (fun d2=>?_);clear hK K
    try simp only[Act.put,jP,jQ,jR]
    refine y5 ?_;go_wp2_with fail;have h4:=H4.out;have h5:=H5.out;exact Zh (jN results187 _ _ _ _ _ _ _ _ _ _ _ _ _ (0,0) (0,0) rfl h4 rfl h5) rfl ⟨⟨dn,dd,dx⟩,k,0,_,rfl,H1,H2,g0,fun _=>⟨d1,hk,g3 (by trivial)⟩⟩
def zK (w:Wd)(e:Ending)(w':Wd):Prop:= ∃b:Bool,e =.returned (.bool b)/\w=w'
def Lu (s:Nc)(w:Wd)(e:Ending)(w':Wd):Prop:= ∃b:Bool,e =.returned (.bool b)/\w=w'/\(b=true->0<s.size)
def Gs (w:Wd)(s3:Value)(wr:Wd):Prop:= ∃k:Nat,k<=6/\s3 =(k:Int)/\w=wr
theorem Al (X:Int)(w:Wd):Calls prog 182 #[.int .u8 X] w (zK w):=by
 go_in;go_wp2_with fail
 go_loopw [3] (Gs w) (fun i _=>6 - (intOf i).toNat)
 case atStart=>exact⟨0,by omega,rfl,rfl⟩
 case round=>
  obtain⟨k,hk,rfl,rfl⟩:=hrel;rcases(by omega:k=0\/k=1\/k=2\/k=3\/k=4\/k=5\/k=6) with rfl|rfl|rfl|rfl|rfl|rfl|rfl
  all_goals clear hk
  all_goals go_wp2_with fail
  all_goals first
   |(go_ret;exact⟨_,rfl,rfl⟩)
   |exact⟨⟨1,by omega,rfl,rfl⟩,by simp[intOf]⟩
   |exact⟨⟨2,by omega,rfl,rfl⟩,by simp[intOf]⟩
   |exact⟨⟨3,by omega,rfl,rfl⟩,by simp[intOf]⟩
   |exact⟨⟨4,by omega,rfl,rfl⟩,by simp[intOf]⟩
   |exact⟨⟨5,by omega,rfl,rfl⟩,by simp[intOf]⟩
   |exact⟨⟨6,by omega,rfl,rfl⟩,by simp[intOf]⟩
theorem C9 (X:Int)(w:Wd):Calls prog 181 #[.int .u8 X] w (zK w):=by
 go_in
 by_cases h1:X=32
 .go_wp2;go_ret;exact⟨_,rfl,rfl⟩
 have a2:(X==32)=false:=by simpa using h1
 by_cases h2:X=9
 .go_wp2;go_ret;exact⟨_,rfl,rfl⟩
 have a0:(X==9)=false:=by simpa using h2
 by_cases h3:X=10
 .go_wp2;go_ret;exact⟨_,rfl,rfl⟩
 have a1:(X==10)=false:=by simpa using h3
 go_wp2;go_ret;exact⟨_,rfl,rfl⟩
theorem o6 (X:Int)(w:Wd):Calls prog 183 #[.int .u8 X] w (zK w):=by
 go_in
 by_cases h1:97<=X <;> by_cases h2:X<=122 <;> by_cases h3:65<=X <;> by_cases h4:X<=90
 all_goals first
  |omega
  |(go_wp2
    go_ret;exact⟨_,rfl,rfl⟩)
theorem zj (s:Nc)(w:Wd):Calls prog 184 #[s] w (Lu s w):=by
 by_cases hs:s.toList = []
 .have h1:(s.toList == [110,117,108,108])=false:=by rw[hs];rfl
  have h2:(s.toList == [116,114,117,101])=false:=by rw[hs];rfl
  have h3:(s.toList == [102,97,108,115,101])=false:=by rw[hs];rfl
  clear hs;go_in;go_wp2
  all_goals
   go_ret;exact⟨_,rfl,rfl,fun h=>by simp_all⟩
 .have H:=Qa (show 0<s.size from by
   rcases Nat.eq_zero_or_pos s.size with h|h
   .exact absurd (by
     have e:s=ByteArray.empty:=ByteArray.size_eq_zero_iff.1 h;rw[e];exact(ByteArray.toList_eq _).trans rfl) hs
   .exact h)
  clear hs;go_in;go_wp2
  all_goals
   go_ret;exact⟨_,rfl,rfl,fun _=>H.out⟩
def J8 (w:Wd)(n:Nat)(s5 s6:Value)(wr:Wd):Prop:=
 (s5 =.slice none 0 0/\s6 =(0:Int)/\w=wr)\/(n=1/\∃g' b x s c,s5 =.slice (some (nl g')) 1 c/\s6 =(1:Int)/\ge w wr/\wr.cell? (nl g')=some (.bool b)/\wr.cell? (no g' 1)=some (.int .i64 x)/\wr.cell? (no g' 2)=some (.string s))
theorem p9 (c hh l:Int)(v:Value)(by_:Int)(w:Wd)(hv:Wr w v):Calls prog 186 #[dV c hh l v,(by_:Int)] w (xu w c):=by
 unfold dV;obtain⟨A,n,q,rfl,-⟩:=hv.slice;have Hv:=Qa hv;have b1:ge w ((w.alloc (.cells #[(c:Int),(hh:Int),(l:Int),.slice A n q] 66)).alloc (.cells #[(0:Int),(0:Int),(0:Int),()] 66)):=((Ze w.heap.size w).alloc (Zb _) _).alloc (by simp) _;have a4:=au w [(c:Int),(hh:Int),(l:Int),.slice A n q] 66;have a7:=Zf (w.alloc (.cells #[(c:Int),(hh:Int),(l:Int),.slice A n q] 66)) (.cells #[(0:Int),(0:Int),(0:Int),()] 66);rw[World.size_alloc] at a7;have a5:=aa (w.alloc (.cells #[(c:Int),(hh:Int),(l:Int),.slice A n q] 66)) (.cells #[(0:Int),(0:Int),(0:Int),()] 66);have c0:=Zg a5 (a4 0 _ rfl);have c1:=Zg a5 (a4 1 _ rfl);have c2:=Zg a5 (a4 2 _ rfl);have c3:=Zg a5 (a4 3 _ rfl);have a0:=Qa b1;have a6:=Qa a7;have Hc:=x7 c0 c1 c2 c3;clear b1 a4 a7 a5 hv c0 c1 c2 c3;go_in;go_wp2_with fail;generalize ((w.alloc (.cells #[(c:Int),(hh:Int),(l:Int),.slice A n q] 66)).alloc (.cells #[(0:Int),(0:Int),(0:Int),()] 66))=w0 at *
 go_loopw [5,6] (J8 w0 n) (fun _ i _=>1 - (intOf i).toNat)
 case atStart=>exact .inl ⟨rfl,rfl,rfl⟩
 case round=>
  rcases hrel with ⟨rfl,rfl,rfl⟩|⟨rfl,g',b,x,s,q',rfl,rfl,a1,k0,k1,k2⟩
  .have hcc:=Hc.out;rcases Hv.out with e|⟨g,q',b,p,s,e,h1,h2,h3⟩
   .injection e with e1 e2 e3
    subst e1;subst e2;subst e3;obtain⟨c0,c1,c2,c3⟩:=hcc;go_wp2_with (refine bQ a6 ?_);exact Zh (results_cell_row results186 _ _ (w.heap.size+1) 66 _ (0,0) _ (by simp) (setRow_heap _ _ _ _ _ _ a6) underlying66 rfl bB) rfl ⟨_,rfl,⟨hh,l,_,rfl,.inl rfl⟩,a0.grown (aj ..) a0.size (fun g e=>by cases e;omega)⟩
   .injection e with e1 e2 e3
    subst e1;subst e2;subst e3;obtain⟨c0,c1,c2,c3⟩:=hcc;have h1:=Zg a0.out h1;have h2:=Zg a0.out h2;have h3:=Zg a0.out h3;go_wp2_with fail;generalize hZ:(#[Value.bool b,Value.int IntKind.i64 (wrap64 (p+by_)),Value.string s]++Builtin.zeroCells #[Value.bool false,Value.int IntKind.i64 0,Value.string {data:= #[]}] ((Question.appendCap 1 0 316).cut (w0.tape w0.drawn (Question.appendCap 1 0 316)) - 1))=Z;generalize hW:(w0.alloc (.cells #[.bool b,(wrap64 (p+by_):Int),s] 316)).alloc (.cells #[.bool b,(wrap64 (p+by_):Int),s] 316)=W;have b3:W.heap.size=w0.heap.size+1+1:=by rw[<-hW];simp
    have b0:ge w0 W:=by rw[<-hW];exact(aa w0 _).alloc (by simp) _
    have hn:=Zf W (.cells Z 316);rw[b3] at hn;have z0:Z[0]?=some (.bool b):=by rw[<-hZ];simp[Array.getElem?_append]
    have z1:Z[1]?=some (.int .i64 (wrap64 (p+by_))):=by rw[<-hZ];simp[Array.getElem?_append]
    have z2:Z[2]?=some (.string s):=by rw[<-hZ];simp[Array.getElem?_append]
    have a9:∀j u,Z[j]?=some u->((W.alloc (.cells Z 316)).drew).cell? ⟨w0.heap.size+1+1,j,none⟩=some u:=by
     intro j u hu
     show(W.alloc (.cells Z 316)).cell? ⟨w0.heap.size+1+1,j,none⟩=some u
     unfold World.cell?;simp only[hn];simpa using hu
    exact⟨.inr ⟨rfl,_,b,_,s,_,rfl,rfl,(b0.alloc b0.size _).drew,a9 0 _ z0,a9 1 _ z1,a9 2 _ z2⟩,by simp[intOf]⟩
  .obtain⟨c0,c1,c2,c3⟩:=Hc.out;have c0:=Zg a1 c0;have c1:=Zg a1 c1;have c2:=Zg a1 c2;have c3:=Zg a1 c3;have a2:=Qa ((a1.block _ (ah a6)).trans a6.out);have b2:=Qa (a0.trans (a1.mono a0.size));have hu:d8 wr c (dV c hh l (.slice (some (nl g')) 1 q')):=⟨hh,l,_,rfl,.inr ⟨g',q',b,x,s,rfl,k0,k1,k2⟩⟩;obtain⟨fh,fl,fA,fq,fr,a3,h1,h2⟩:=bV hu a2.out;injection a3 with a3
   obtain⟨rfl,rfl,a3⟩:hh=fh/\l=fl/\Value.slice (some (nl g')) 1 q'=Value.slice fA fq fr:=by simpa using a3
   obtain⟨rfl,rfl,rfl⟩:some (nl g')=fA/\1=fq/\q'=fr:=by simpa using a3
   have H2:=Qa h2;clear h1 h2 hu a3 k0 k1 k2 a1;go_wp2_with (refine bQ a2 ?_);exact Zh (results_cell_row results186 _ _ (w.heap.size+1) 66 _ (0,0) _ (by simp) (setRow_heap _ _ _ _ _ _ a2) underlying66 rfl bB) rfl ⟨_,rfl,H2,b2.grown (aj ..) b2.size (fun g e=>by cases e;omega)⟩
