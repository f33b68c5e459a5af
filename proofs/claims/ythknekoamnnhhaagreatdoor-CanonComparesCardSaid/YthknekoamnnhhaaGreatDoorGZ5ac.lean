import Derived.Test.YthknekoamnnhhaaGreatDoorGZ5ab
set_option linter.unusedVariables false
set_option linter.unusedSimpArgs false
set_option maxHeartbeats 64000000
set_option maxRecDepth 100000
namespace Go.Proofs.YthknekoamnnhhaaGreatDoor
open Go.RowKit
variable {cells old:Array Value}{c0:Int}{ts:List JV}{xs:List UInt8}{us:List Value}{base cap g m n:Nat}{e ty:TypeId}{u v v' vk vk' vn x1 x2 x3:Value}{W W' W2 w w' w0:World}
def iz (w:World)(v:Value)(fs:List (List Nd)):Prop:= ∃vs:List Value,Sl w v vs/\bB (fun v ns=>dI w 0 v ns) vs fs
theorem iz.below {fs:List (List Nd)}(h:iz w v fs)(hb:Below w.heap.size w w'):iz w' v fs:=by
 obtain⟨vs,h1,h2⟩:=h;exact⟨vs,h1.below hb,h2.mono fun _ _ h=>h.below hb (Za _)⟩
def yX (vk:Value)(us:List (List Value)):Prop:= ∀u∈us,∀g,(u.getD 7 undef).ownBlock=some g->vk.ownBlock≠some g
def fK (W:World)(base:Nat)(v:Value)(x:Nd)(rest:List Nd):Prop:=
 ∃vn vk us,W.ownsRow base 78 8 v (1+rest.length) (aB x vn vk++us.flatten)/\cJ W 0 vn x.names/\bK W base vk x.kids/\bB (ic W) us rest/\yX vk us/\nw (base<= ·) (aB x vn vk::us)
theorem fK.flat {x:Nd}{rest:List Nd}(h:fK W base v x rest):bu (base<= ·) W base v (x::rest):=by
 obtain⟨vn,vk,us,h1,h2,h3,h4,_,h6⟩:=h;exact⟨aB x vn vk::us,by rw[List.length_cons,Nat.add_comm];exact h1,bB.cons ⟨vn,vk,rfl,h2,h3.low (Zj _)⟩ h4,h6⟩
theorem fK.below {x:Nd}{rest:List Nd}(h:fK W base v x rest)(hb:Below W.heap.size W W'):fK W' base v x rest:=by
 obtain⟨vn,vk,us,h1,h2,h3,h4,h5,h6⟩:=h;exact⟨vn,vk,us,aq h1 hb (Za _),h2.below hb (Za _),h3.below hb (Za _),h4.mono fun _ _ h=>h.below hb (Za _),h5,h6⟩
theorem fL {row:Option Nat}(hg:W.grownBy W' row)(hr:∀g,row=some g->mw W g 78){u:List Value}{x:Nd}(h:ic W u x):ic W' u x:=
 h.keeps (T:=fun t=>t=78) (aJ.of_grown hg (fun g e cs t z hh=>by obtain⟨cs',z',h'⟩:=hr g e;rw[h'] at hh;injection hh with hh;injection hh with _ hh;exact hh.symm)) (by decide) (by decide)
theorem nX {row:Option Nat}(hg:W.grownBy W' row)(hr:∀g,row=some g->mw W g 78){b:Nat}{l:List ByteArray}(h:cJ W b v l):cJ W' b v l:=
 ao (T:=fun t=>t=78) h (aJ.of_grown hg (fun g e cs t z hh=>by obtain⟨cs',z',h'⟩:=hr g e;rw[h'] at hh;injection hh with hh;injection hh with _ hh;exact hh.symm)) (by decide)
theorem ou {row:Option Nat}(hg:W.grownBy W' row)(hr:∀g,row=some g->mw W g 78){b:Nat}{l:List Nat}(h:bK W b v l):bK W' b v l:=
 ao (T:=fun t=>t=78) h (aJ.of_grown hg (fun g e cs t z hh=>by obtain⟨cs',z',h'⟩:=hr g e;rw[h'] at hh;injection hh with hh;injection hh with _ hh;exact hh.symm)) (by decide)
theorem cm {k:Nat}(h:W.ownsRow base e k v n us):∀g,v.ownBlock=some g->mw W g e:=fun g hg=>by
 obtain⟨_,cur,hh⟩:=al h hg;exact⟨cur,_,hh⟩
theorem fK.snoc {vn':Value}{x y:Nd}{rest:List Nd}{us:List (List Value)}(h1:W.ownsRow base 78 8 v m (aB x vn vk++us.flatten))(h2:cJ W 0 vn x.names)(h3:bK W base vk x.kids)
  (h4:bB (ic W) us rest) (h5:yX vk us) (hN:nw (base<= ·) (aB x vn vk::us)) (a0:∀g,vn'.ownBlock=some g->base<=g) (hm:m=1+rest.length) (hy:ic W (aB y vn' vk') y) (hk:∀g,vk'.ownBlock=some g->vk.ownBlock≠some g)
  (h6:W'.ownsRow base 78 8 v' (m+1) ((aB x vn vk++us.flatten)++aB y vn' vk')) (hg:W.grownBy W' v.ownBlock):fK W' base v' x (rest ++ [y]):=by
 subst hm;have ht:=cm h1;refine⟨vn,vk,us ++ [aB y vn' vk'],?_,nX hg ht h2,ou hg ht h3,(h4.mono fun _ _ h=>fL hg ht h).snoc (fL hg ht hy),fun u hu g e=>?_,fun u hu g e=>?_⟩
 ·rw[List.length_append,List.flatten_append];simpa [Nat.add_assoc] using h6
 ·rcases List.mem_append.1 hu with hu|hu
  ·exact h5 u hu g e
  ·rw[List.mem_singleton] at hu;subst hu;exact hk g e
 ·rcases List.mem_cons.1 hu with hu|hu
  ·exact hN u (by simp[hu]) g e
  ·rcases List.mem_append.1 hu with hu|hu
   ·exact hN u (Zl _ hu) g e
   ·rw[List.mem_singleton] at hu;subst hu;exact a0 g (by simpa [aB] using e)
theorem yy {g7:Nat}{x:Nd}{rest:List Nd}{us:List (List Value)}(h1:W.ownsRow base 78 8 (.slice (some ⟨g7,0,none⟩) n cap) n (aB x vn vk++us.flatten))(h2:cJ W 0 vn x.names)
  (h4:bB (ic W) us rest) (h5:yX vk us) (hN:nw (base<= ·) (aB x vn vk::us)) (hn:n=1+rest.length) (h6:bK W2 base vk' (x.kids ++ [m])) (hg:W.grownBy W2 vk.ownBlock) (hk:vk'.ownBlock=vk.ownBlock\/vk'.ownBlock=some W.heap.size)
  (hv:∀g,vk.ownBlock=some g->mw W g 3) :
  fK (W2.setCell ⟨g7,7,none⟩ vk') base (.slice (some ⟨g7,0,none⟩) n cap) {x with kids:=x.kids ++ [m]} rest:=by
 have hr:W2.ownsRow base 78 8 (.slice (some ⟨g7,0,none⟩) n cap) n (aB x vn vk++us.flatten):=ao (T:=fun t=>t=3) h1 (aJ.of_grown hg (fun g e cs t z hh=>by obtain⟨cs',z',h'⟩:=hv g e;rw[h'] at hh;injection hh with hh;injection hh with _ hh;exact hh.symm)) (by decide);obtain⟨a5,a2⟩:=World.ownsRow.stored hr 7 vk';have ht:∀g,some g7=some g->mw W2 g 78:=fun g e=>by injection e with e;subst e;exact cm hr _ rfl
 have a0:cJ W2 0 vn x.names:=ao (T:=fun t=>t=3) h2 (aJ.of_grown hg (fun g e cs t z hh=>by obtain⟨cs',z',h'⟩:=hv g e;rw[h'] at hh;injection hh with hh;injection hh with _ hh;exact hh.symm)) (by decide);have a3:∀u∈us,∀g,(u.getD 7 undef).ownBlock=some g->g<W.heap.size:=fun u hu g e=>by
  obtain⟨i,hi,rfl⟩:=List.getElem_of_mem hu;obtain⟨vn2,vk2,e2,_,a4⟩:=h4.2 i us[i] (rest[i]'(by rw[<-h4.1];exact hi)) (Zc hi) (Zc _);rw[e2] at e;exact(World.ownsRow.lt a4 g (by simpa [aB] using e)).2
 have a1:bB (ic W2) us rest:=⟨h4.1,fun i u y hu hy=>by
  obtain⟨vn2,vk2,e2,a2,a4⟩:=h4.2 i u y hu hy;refine⟨vn2,vk2,e2,ao (T:=fun t=>t=3) a2 (aJ.of_grown hg (fun g e cs t z hh=>by obtain⟨cs',z',h'⟩:=hv g e;rw[h'] at hh;injection hh with hh;injection hh with _ hh;exact hh.symm)) (by decide),World.ownsRow.kept a4 hg ?_⟩
  cases hb:vk2.ownBlock with
  |none=>exact .inl rfl
  |some g=>exact .inr (fun e=>h5 u (Zk hu) g (by rw[e2];simpa [aB] using hb) e.symm)⟩
 refine⟨vn,vk',us,?_,nX a2 ht a0,ou a2 ht h6,a1.mono fun _ _ h=>fL a2 ht h,fun u hu g e=>?_,fun u hu g e=>?_⟩
 ·rw[<-hn];have e:(aB x vn vk++us.flatten).set 7 vk'=aB {x with kids:=x.kids ++ [m]} vn vk'++us.flatten:=rfl;rw[<-e];exact a5
 ·rcases hk with hk|hk
  ·rw[hk];exact h5 u hu g e
  ·rw[hk];have:=a3 u hu g e;intro e';injection e' with e';omega
 ·rcases List.mem_cons.1 hu with hu|hu
  ·exact hN (aB x vn vk) (by simp) g (by rw[hu] at e;simpa [aB] using e)
  ·exact hN u (Zl _ hu) g e
def kr:Dc:=⟨false,es,0⟩
def gd (W:World)(b:Nat)(x:Nd)(vn vk:Value):Prop:=W.heap[b]?=some (.cells (aB x vn vk).toArray 78 (0,0))
theorem gd.cell {b:Nat}{x:Nd}(h:gd W b x vn vk)(j:Nat)(u:Value)(hu:(aB x vn vk)[j]?=some u):W.cell? ⟨b,j,none⟩=some u:=by
 unfold gd at h;unfold World.cell?;simp only[h];simpa using hu
theorem gd.below {b:Nat}{x:Nd}(h:gd W b x vn vk)(hb:Below W.heap.size W W'):gd W' b x vn vk:=(hb.block b (ae h)).trans h
def nC (b:Nat)(x:Nd)(vn:Value)(w:World):Prop:=
 w.cell? ⟨b,0,none⟩=some (.int .i64 x.kind)/\w.cell? ⟨b,1,none⟩=some (.bool x.tr)/\w.cell? ⟨b,2,none⟩=some (.string x.text)/\w.cell? ⟨b,3,none⟩=some (.bool x.num.neg)/\w.cell? ⟨b,4,none⟩=some (.string x.num.digits)/\w.cell? ⟨b,5,none⟩=some (.int .i64 x.num.exp)/\w.cell? ⟨b,6,none⟩=some vn
theorem nC.of_box {b:Nat}{x:Nd}(h:gd W b x vn vk):nC b x vn W:=
 ⟨h.cell 0 _ rfl,h.cell 1 _ rfl,h.cell 2 _ rfl,h.cell 3 _ rfl,h.cell 4 _ rfl,h.cell 5 _ rfl,h.cell 6 _ rfl⟩
theorem nC.grown {b:Nat}{x:Nd}{row:Option Nat}(h:nC b x vn W)(hg:W.grownBy W' row)(hr:some b≠row):nC b x vn W':=
 ⟨hg.cell h.1 hr,hg.cell h.2.1 hr,hg.cell h.2.2.1 hr,hg.cell h.2.2.2.1 hr,hg.cell h.2.2.2.2.1 hr,hg.cell h.2.2.2.2.2.1 hr,hg.cell h.2.2.2.2.2.2 hr⟩
def EQ (w:World)(k:Int)(names:List ByteArray)(ts:List JV)(s7 s8:Value)(wr:World):Prop:=
 ∃i:Nat,i<=ts.length/\s8 =.int .i64 i/\Below w.heap.size w wr/\fK wr w.heap.size s7 ⟨k,false,es,kr,names,aV 1 (ts.take i)⟩ (JV.flats 1 (ts.take i))
def F8 (w:World)(x:Nd)(rest more:List Nd)(s7 s10:Value)(wr:World):Prop:=
 ∃j:Nat,j<=more.length/\s10 =.int .i64 j/\Below w.heap.size w wr/\fK wr w.heap.size s7 x (rest++more.take j)
def F6 (w4:World)(kids:List Nat)(at_:Nat)(s12 s13:Value)(wr:World):Prop:=
 ∃q:Nat,q<=kids.length/\s13 =.int .i64 q/\Below w4.heap.size w4 wr/\bK wr w4.heap.size s12 ((kids.take q).map (· + at_))
def pY (w:World)(ns:List Nd)(e:Ending)(w':World):Prop:= ∃v,e =.returned v/\Below w.heap.size w w'/\bu (w.heap.size<= ·) w' w.heap.size v ns
theorem uH {k:Int}{vl:Value}{names:List ByteArray}(hn:Sl w vn (names.map dR))(hl:iz w vl (ts.map (JV.flat 0)))(hnl:names.length<=1000000)(hsz:JV.sizes ts<=1000000)
  (hkl:∀t∈ts,∀x∈t.flat 0,x.names.length<=1000000/\∀q∈x.kids,q<=1000000) :
  Calls Tryz.prog 131 #[.int .i64 k,vn,vl] w fun e w'=>pY w (JV.flat 0 (.mk k false es kr names ts)) e w':=by
 obtain⟨vs,⟨hm,A,cap,rfl,g1,hA⟩,f4⟩:=id hl;have e4:vs.length=ts.length:=by have:=f4.1;simpa using this
 rw[e4] at hm g1 hA ⊢;have HA:=Qa hA;have l1:=Qa f4;have o2:=Qa e4;have Hn:=Qa hn;have k1:=Qa hkl;clear hn hl hA f4 e4 hkl;have l0:ts.length<=1000000:=Zb (bP ts) hsz;go_enter Tryz.func131,Tryz.ntmps131;go_wp2_with fail;refine(lE Hn.out hnl).mono ?_;rintro e w1 ⟨vt,rfl,h9,g0⟩;have e6:=Qa h9;have g5:=Qa g0;obtain⟨At,ct,rfl,-,-,-⟩:=ah g0;clear h9 g0;go_wp2_with fail
 go_loopw [7,8] (EQ w k names ts) (fun _ i _=>ts.length - (intOf i).toNat)
 case atStart=>
  refine⟨0,by omega,rfl,e6.out.alloc e6.out.size _,_,.slice none 0 0, [],?_,(g5.out.below (ac _ _) (Za _)).low (Zj _),bK.nil _ _,bB.nil _,fun u hu=>by simp at hu,fun u hu g e=>?_⟩
  rotate_left
  ·simp at hu;subst hu;exact(al g5.out (by simpa [aB] using e)).1 |> Zb (Za _)
  have:=fc (n:=1) (k:=8) (Ze w1 (.cells (aB ⟨k,false,es,kr,names, []⟩ (.slice At names.length ct) (.slice none 0 0)).toArray 78)) e6.out.size (by unfold maxLen;omega) rfl;simp only[List.take_zero,JV.flats,aV,List.length_nil,List.flatten_nil,List.append_nil,Nat.add_zero];exact this
 case round=>
  obtain⟨i,hi,rfl,b9,hj⟩:=hrel
  by_cases hlt:i<ts.length
  ·obtain⟨gl,ol,rfl,d4⟩:=HA.out (by omega);obtain⟨t,ht⟩:∃t,ts[i]?=some t:=⟨_,Zc hlt⟩;obtain⟨vi,c9,e5⟩:=l1.out.get (i:=i) (b:=t.flat 0) (by rw[List.getElem?_map,ht];rfl);have cl:=Zf b9 (d4 i vi c9);have i8:=Qa (d4 i vi c9);have n2:gl<w.heap.size:=World.block_lt_of_cell? w _ (d4 i vi c9);obtain⟨Ai,ci,rfl,k9,m2,i2⟩:=e5.form;have i9:=Qa e5;have g6:=Qa i2;rw[JV.flat_len] at k9 m2 cl i8 i9 g6;obtain⟨vn0,vk0,us,h1,h2,h3,h4,h5,hN⟩:=hj;have HN:=Qa hN;clear hN;obtain⟨n,hn⟩:∃n,1+ (JV.flats 1 (ts.take i)).length=n:=⟨_,rfl⟩;rw[hn] at h1;have h6:n=1+JV.sizes (ts.take i):=by rw[<-hn,JV.flats_len]
   have n5:=kh ht;have n4:n+t.size<=1000001:=by omega
   have i3:0<n:=by omega
   obtain⟨g7,c7,rfl,e7,n6,m9⟩:∃g cap,u7 =.slice (some ⟨g,0,none⟩) n cap/\w.heap.size<=g/\n<=cap/\n<=maxLen:=by
    rcases bU h1 with ⟨_,h0,_⟩|h
    ·omega
    ·exact h
   have ck:wr.cell? ⟨g7,7,none⟩=some vk0:=by rw[World.ownsRow.cellAt h1 7 (by omega)];rfl
   have fk:=World.ownsRow.frozenAt h1 7;have m0:g7<wr.heap.size:=World.block_lt_of_cell? wr _ ck;have H1:=Qa h1;have H2:=Qa h2;have H3:=Qa h3;have H4:=Qa h4;have H5:=Qa h5;have m5:=Qa h6;have g9:=Qa hn;have h7:=Qa b9;have Ht:=Qa ht;have j3:∀g,vk0.ownBlock=some g->g≠g7:=fun g e e'=>by
    subst e';obtain⟨_,cur,hh⟩:=al h3 e;obtain⟨cs,z,b4⟩:=cm h1 g rfl;rw[hh] at b4;injection b4 with b4;injection b4 with _ b4 _;exact absurd b4 (by decide)
   have j0:=Qa j3;clear h1 h2 h3 h4 h5 h6 hn b9 ht e5 i2 d4 c9 j3 m9;have e8:w.heap.size<=wr.heap.size:=h7.out.size;have a4:(aV 1 (ts.take i)).length=i:=by rw[bh,List.length_take];omega
   have a3:=Qa a4;clear a4;go_wp2_with (at_builtin;refine ju eU (by have:=(H3.out.below (ac wr (.cells #[.int .i64 (n:Int)] 3)) (Za _));unfold bK at this;rw[a3.out] at this;exact this) (ar wr [cI n] 3) (by simp;omega) ?_ (h1:=(by simp[cI,Value.oneCell']));intro vk1 w2 h1 h2 h3;obtain⟨Ak,ck',rfl,-,-,-⟩:=ah h1;have ck2:=h2.cell ((World.cell?_alloc_lt wr (.cells #[.int .i64 (n:Int)] 3) ⟨g7,7,none⟩ m0).trans ck) (fun e=>j0.out g7 e.symm rfl);have fk2:w2.frozen? ⟨g7,7,none⟩=false:=World.ownsRow.frozenAt (World.ownsRow.kept (aq H1.out (ac wr (.cells #[.int .i64 (n:Int)] 3)) (Za _)) h2 (.inr (fun e=>j0.out g7 e.symm rfl))) 7;have HK:=Qa h1;have HG:=Qa h2;have HO:=Qa h3;clear h1 h2 h3);have b6:Below wr.heap.size wr (wr.alloc (.cells #[.int .i64 (n:Int)] 3)):=ac _ _;have k0:=yy (m:=n) (aq H1.out b6 (Za _)) (H2.out.below b6 (Za _)) (H4.out.mono fun _ _ h=>h.below b6 (Za _)) H5.out HN.out g9.out.symm (by unfold bK;rw[List.length_append,a3.out,List.map_append];exact HK.out) HG.out HO.out (cm (H3.out.below b6 (Za _)));have b7:Below w.heap.size w w2:=(h7.out.alloc e8 _).grown HG.out (by simp;omega) (fun g e=>(al H3.out e).1);have g4:Below w.heap.size w (w2.setCell ⟨g7,7,none⟩ (.slice Ak (i+1) ck')):=b7.setCell e7 _;have HJ3:=Qa k0;have Hb3:=Qa g4;clear b6 k0 b7 g4 ck fk ck2;go_wp2_with fail;obtain⟨w3,j2⟩:∃w3,(w2.setCell ⟨g7,7,none⟩ (.slice Ak (i+1) ck'))=w3:=⟨_,rfl⟩;rw[j2] at HJ3 Hb3 ⊢;clear j2 fk2 HK HG HO;have Hx:=Qa (ww Ht.out 1);have m1:Hid (∀x∈t.flat 0,x.names.length<=1000000/\x.kids.length<=1000000/\∀q∈x.kids,q<=1000000):=Qa (fun x hx=>⟨(k1.out t (Zk Ht.out) x hx).1,Zb (m6 hx) (by omega),(k1.out t (Zk Ht.out) x hx).2⟩)
   go_loopw [7,10] (F8 w ⟨k,false,es,kr,names,aV 1 (ts.take i) ++ [n]⟩ (JV.flats 1 (ts.take i)) ((t.flat 0).map (Nd.shift n))) (fun _ j _=>t.size - (intOf j).toNat)
   case atStart=>exact⟨0,by omega,rfl,Hb3.out,by rw[List.take_zero,List.append_nil];exact HJ3.out⟩
   case round=>
    obtain⟨j,hj,rfl,b3,d3⟩:=hrel;rw[List.length_map,JV.flat_len] at hj;have cl2:=Zf b3 i8.out
    by_cases hjt:j<t.size
    ·obtain⟨gi,rfl⟩:=g6.out (by omega);obtain⟨x,hx⟩:∃x,(t.flat 0)[j]?=some x:=⟨_,Zc (by rw[JV.flat_len];exact hjt)⟩;obtain⟨m3,n9,i4⟩:=m1.out x (Zk hx);obtain⟨vnx,vkx,f6,f1,a2⟩:=(i9.out.below b3 (Za _)).node hx;have c0:=a2 0 _ rfl;rw[Nat.add_zero] at c0;have c1:=a2 1 _ rfl;have c2:=a2 2 _ rfl;have c3:=a2 3 _ rfl;have c4:=a2 4 _ rfl;have c5:=a2 5 _ rfl;have c6:=a2 6 _ rfl;have c7:=a2 7 _ rfl;obtain⟨Anx,cnx,rfl,-,-,-⟩:=ah f6;obtain⟨Akx,ckx,rfl,l4,n1,b8⟩:=ah f1;have i5:=Qa f6;have j1:=Qa f1;have d9:=Qa b8;have k6:=Qa (show((t.flat 0).map (Nd.shift n)).take (j+1)= ((t.flat 0).map (Nd.shift n)).take j ++ [x.shift n] from cf (by rw[List.getElem?_map,hx];rfl));have n0:=Qa i4;have d0:=Qa b3;have f0:=Qa d3;have k5:(j:Int)<t.size:=by omega
     obtain⟨xk,xt,xx,⟨xn1,xn2,xn3⟩,xns,xks⟩:=x;clear f6 f1 a2 b8 i4 b3 d3 hx;go_wp2_with fail;have g2:gd (wr.alloc (.cells #[.int .i64 xk,.bool xt,.string xx,.bool xn1,.string xn2,.int .i64 xn3,.slice Anx xns.length cnx,.slice Akx xks.length ckx] 78)) wr.heap.size ⟨xk,xt,xx,⟨xn1,xn2,xn3⟩,xns,xks⟩ (.slice Anx xns.length cnx) (.slice Akx xks.length ckx):=Ze wr _;have b1:=ac wr (.cells #[.int .i64 xk,.bool xt,.string xx,.bool xn1,.string xn2,.int .i64 xn3,.slice Anx xns.length cnx,.slice Akx xks.length ckx] 78);have k3:wr.heap.size< (wr.alloc (.cells #[.int .i64 xk,.bool xt,.string xx,.bool xn1,.string xn2,.int .i64 xn3,.slice Anx xns.length cnx,.slice Akx xks.length ckx] 78)).heap.size:=by simp
     obtain⟨w4,k2⟩:∃w4,(wr.alloc (.cells #[.int .i64 xk,.bool xt,.string xx,.bool xn1,.string xn2,.int .i64 xn3,.slice Anx xns.length cnx,.slice Akx xks.length ckx] 78))=w4:=⟨_,rfl⟩;rw[k2] at g2 b1 k3 ⊢;have d2:=Qa g2;have o1:=Qa b1;have e0:=Qa (f0.out.below b1);have e1:=Qa (i5.out.below b1 (Za _));have f2:=Qa (j1.out.below b1 (Za _));have f9:=Qa (d0.out.trans (b1.mono d0.out.size));have i0:Hid (∀g,u7.ownBlock=some g->g<wr.heap.size):=Qa (fun g e=>by obtain⟨_,_,_,h,_⟩:=f0.out;exact(World.ownsRow.lt h g e).2);obtain⟨bx,a5⟩:∃bx,wr.heap.size=bx:=⟨_,rfl⟩;have n8:w.heap.size<=bx:=by rw[<-a5];exact d0.out.size
     rw[a5] at d2 k3 i0 ⊢;clear k2 g2 b1 f0 i5 j1 d0 a5 c0 c1 c2 c3 c4 c5 c6 c7 cl2
     go_loopw [12,13] (F6 w4 xks n) (fun _ q _=>xks.length - (intOf q).toNat)
     case atStart=>exact⟨0,by omega,rfl,Zd _ _,by rw[List.take_zero,List.map_nil];exact bK.nil _ _⟩
     case round=>
      obtain⟨q,hq,rfl,d1,g8⟩:=hrel;have b5:=Qa d1;have b2:=Qa g8;have cb7:=(d2.out.below d1).cell 7 _ rfl;have e2:=d1.size;clear d1 g8
      by_cases hqt:q<xks.length
      ·obtain⟨gk,rfl⟩:=d9.out (by omega);obtain⟨z,hz⟩:∃z,xks[q]?=some z:=⟨_,Zc hqt⟩;have ckq:=aA (f2.out.below b5.out (Za _)) rfl q (by omega);rw[List.getElem?_map,hz] at ckq;simp only[Option.map_some,cI] at ckq;have hzb:=n0.out z (Zk hz);have Hz:=Qa (show(xks.take (q+1)).map (· + n)= (xks.take q).map (· + n) ++ [z+n] by rw[cf hz,List.map_append];rfl);have h8:=Qa (show((xks.take q).map (· + n)).length=q by rw[List.length_map,List.length_take];omega);have n3:(q:Int)<xks.length:=by omega
       clear hz;go_wp2_with (at_builtin;refine ju eU (by have:=(b2.out.below (ac wr (.cells #[.int .i64 ((z:Int)+n)] 3)) (Za _));unfold bK at this;rw[h8.out] at this;exact this) (ar wr [cI (z+n)] 3) (by simp;omega) ?_ (h1:=(by simp[cI,Value.oneCell']));intro v' w5 h1 h2 h3;have HK:=Qa h1;have HG:=Qa h2;clear h1 h2 h3);have b7:Below w4.heap.size w4 (wr.alloc (.cells #[.int .i64 ((z:Int)+n)] 3)):=b5.out.alloc e2 _;exact⟨⟨q+1,by omega,by go_num,aL b7 (b2.out.below (ac _ _) (Za _)) b7.size HG.out,by rw[Hz.out];unfold bK;rw[List.length_append,h8.out,List.map_append];exact HK.out⟩,by simp[intOf];omega⟩
      ·obtain rfl:q=xks.length:=by omega
       rw[List.take_length] at b2;go_wp2_with fail;obtain⟨vn0,vk0,us,h1,h2,h3,h4,h5,hN⟩:=e0.out;have HN:=Qa hN;clear hN;obtain⟨m,d6⟩:∃m,1+ (JV.flats 1 (ts.take i)++ ((t.flat 0).map (Nd.shift n)).take j).length=m:=⟨_,rfl⟩;have l2:m=n+j:=by
        rw[<-d6,List.length_append,List.length_take,List.length_map,JV.flat_len];have:=g9.out;omega
       rw[d6] at h1;have H1:=Qa h1;have H2:=Qa h2;have H3:=Qa h3;have H4:=Qa h4;have H5:=Qa h5;have m4:=Qa d6;have l3:m<=1000000:=by omega
       have a1:=nC.of_box (d2.out.below (b5.out.drew));obtain⟨Ak12,ck12,rfl,-,-,-⟩:=ah b2.out;rw[List.length_map] at b2 ⊢;have a7:=Qa a1;have a6:w.heap.size<=w4.heap.size:=by omega
       clear h1 h2 h3 h4 h5 d6 l2 a1 cb7;refine aR (fun w'=>w'.cell? ⟨bx,0,none⟩=some (.int .i64 xk)/\w'.cell? ⟨bx,1,none⟩=some (.bool xt)/\w'.cell? ⟨bx,2,none⟩=some (.string xx)/\w'.cell? ⟨bx,3,none⟩=some (.bool xn1)/\w'.cell? ⟨bx,4,none⟩=some (.string xn2)/\w'.cell? ⟨bx,5,none⟩=some (.int .i64 xn3)/\w'.cell? ⟨bx,6,none⟩=some (.slice Anx xns.length cnx)) (a7.out) fun a0=>?_
       refine tH 0 a0 ?_;refine tH 1 a0 ?_;refine tH 2 a0 ?_;refine tH 3 a0 ?_;refine tH 4 a0 ?_;refine tH 5 a0 ?_
       try simp only[Act.put,jP,jQ,jR]
       refine tH 6 a0 ?_;refine tH 7 a0 ?_;refine tH 8 a0 ?_;refine tH 9 a0 ?_;refine tH 10 a0 ?_;refine tH 12 a0 ?_
       try simp only[Act.put,jP,jQ,jR]
       refine rH 11 fun K hK=>?_
       go_simp;refine(lE ((Sl.of_own e1.out).below b5.out.drew) m3).mono ?_;rintro e w5 ⟨vt5,rfl,f8,g3⟩;obtain⟨At5,ct5,rfl,-,-,-⟩:=ah g3;have a9:Below w4.heap.size w4 w5:=b5.out.drew.trans (f8.mono e2);have q5:=nC.of_box (d2.out.below a9);have f5:=Qa (show Below wr.heap.size wr w5 from((Zd wr.heap.size wr).drew).trans f8);have d5:=Qa a9;have j5:=Qa g3;clear f8 g3 a9;go_wp2_with fail;refine hK.out _ _ (q5) (fun a0=>?_);clear hK K
       try simp only[Act.put,jP,jQ,jR]
       refine tH 13 a0 ?_
       try simp only[Act.put,jP,jQ,jR]
       refine rH 14 fun K hK=>?_
       go_simp;have q6:=q5.grown (World.grownBy_alloc w5 (.cells #[.int .i64 xk,.bool xt,.string xx,.bool xn1,.string xn2,.int .i64 xn3,.slice At5 xns.length ct5,.slice Ak12 xks.length ck12] 78) none) (fun e=>by cases e);refine hK.out _ _ (q6) (fun a0=>?_);clear hK K
       try simp only[Act.put,jP,jQ,jR]
       refine rH 15 fun K hK=>?_
       refine xh sf (aq (aq H1.out d5.out (Za _)) (ac _ _) (Za _)) (ar w5 _ 78) (by have:=d5.out.size;simp;omega) ?_ (h1:=(by intro u hu;simp[aB] at hu;rcases hu with rfl|rfl|rfl|rfl|rfl|rfl|rfl|rfl <;> rfl));intro v7 w6 h1 h2 h3;have q7:=q6.grown h2 (fun e=>Nat.lt_irrefl _ (i0.out bx e.symm));have HK:=Qa h1;have HG:=Qa h2;clear h1 h2 h3;refine hK.out _ _ (q7) (fun a0=>?_);clear hK K
       try simp only[Act.put,jP,jQ,jR]
       refine tH 16 a0 ?_
       try simp only[Act.put,jP,jQ,jR]
       refine wpAnyH_done (by kernel_rfl) (NoPanic.normal ?_) _;have b0:Below w4.heap.size w4 (w5.alloc (.cells #[.int .i64 xk,.bool xt,.string xx,.bool xn1,.string xn2,.int .i64 xn3,.slice At5 xns.length ct5,.slice Ak12 xks.length ck12] 78)):=d5.out.alloc d5.out.size _;have c8:Below w.heap.size w w6:=(f9.out.trans (b0.mono a6)).grown HG.out (Zb a6 b0.size) (fun g e=>(al H1.out e).1);have f3:w.heap.size<=wr.heap.size:=Zb a6 e2;have hJ:=fK.snoc (y:=⟨xk,xt,xx,⟨xn1,xn2,xn3⟩,xns,xks.map (· + n)⟩) (aq H1.out b0 (Za _)) (H2.out.below b0 (Za _)) (H3.out.below b0 (Za _)) (H4.out.mono fun _ _ h=>h.below b0 (Za _)) H5.out HN.out (fun g e=>Zb f3 (al j5.out e).1) m4.out.symm
        ⟨_,_,rfl,(j5.out.below (ac _ _) (Za _)).low (Zj _),by
         have:=(b2.out.below f5.out (Za _)).low (Zj _);exact(this.below (ac _ _) (Za _))⟩
        (fun g e e'=>by
         have h1:=(World.ownsRow.lt H3.out g e').2;have h2:=(al b2.out e).1;omega) HK.out HG.out
       have HJ:=Qa hJ;have l5:=Qa c8;clear hJ b0 c8 q5 q6 q7 a0;go_wp2_with fail;exact⟨⟨j+1,by rw[List.length_map,JV.flat_len];omega,by go_num,l5.out,by rw[k6.out,<-List.append_assoc];exact HJ.out⟩,by simp[intOf];omega⟩
    ·obtain rfl:j=t.size:=by omega
     have k4:n=1+JV.sizes (ts.take i):=m5.out;have HJ:=Qa d3;have e3:=Qa b3;clear d3 b3;go_wp2_with fail;refine⟨⟨i+1,by omega,by go_num,e3.out,?_⟩,by simp[intOf];omega⟩;have h:=HJ.out;have he:((t.flat 0).map (Nd.shift n)).take t.size= (t.flat 0).map (Nd.shift n):=List.take_of_length_le (by rw[List.length_map,JV.flat_len];exact Za _);rw[he,k4,<-xi Ht.out 1] at h;rw[Hx.out];exact h
  ·obtain rfl:i=ts.length:=by omega
   have HJ:=Qa hj;have e3:=Qa b9;clear hj b9;go_wp2_with fail;go_ret;refine⟨_,rfl,e3.out,?_⟩;have h:=HJ.out.flat;rw[List.take_length] at h;exact h
theorem wJ {vl:Value}(hl:iz w vl (ts.map (JV.flat 0)))(hsz:JV.sizes ts<=1000000)
  (hkl:∀t∈ts,∀x∈t.flat 0,x.names.length<=1000000/\∀q∈x.kids,q<=1000000) :
  Calls Tryz.prog 104 #[vl] w fun e w'=>pY w (JV.flat 0 (.mk 5 false es kr [] ts)) e w':=by
 have Hl:=Qa hl;clear hl;go_enter Tryz.func104,Tryz.ntmps104;go_wp2_with fail;refine(uH (k:=5) (names:= []) (Sl.of_own (cJ.nil w 0)) Hl.out (by simp) hsz hkl).mono ?_;rintro e w1 ⟨v,rfl,hb,hf⟩;go_wp2_with fail;go_ret;exact⟨_,rfl,hb,hf⟩
theorem pp {vl:Value}{names:List ByteArray}(hn:Sl w vn (names.map dR))(hl:iz w vl (ts.map (JV.flat 0)))(hnl:names.length<=1000000)(hsz:JV.sizes ts<=1000000)
  (hkl:∀t∈ts,∀x∈t.flat 0,x.names.length<=1000000/\∀q∈x.kids,q<=1000000) :
  Calls Tryz.prog 106 #[vn,vl] w fun e w'=>pY w (JV.flat 0 (.mk 6 false es kr names ts)) e w':=by
 have Hl:=Qa hl;have Hn:=Qa hn;clear hl hn;go_enter Tryz.func106,Tryz.ntmps106;go_wp2_with fail;refine(uH (k:=6) Hn.out Hl.out hnl hsz hkl).mono ?_;rintro e w1 ⟨v,rfl,hb,hf⟩;go_wp2_with fail;go_ret;exact⟨_,rfl,hb,hf⟩
def Wr (w:World)(v:Value):Prop:=v =.slice none 0 0\/∃g c b p s,v =.slice (some ⟨g,0,none⟩) 1 c/\w.cell? ⟨g,0,none⟩=some (.bool b)/\w.cell? ⟨g,1,none⟩=some (.int .i64 p)/\w.cell? ⟨g,2,none⟩=some (.string s)
theorem Wr.below (h:Wr w v)(hb:Below w.heap.size w w'):Wr w' v:=by
 rcases h with rfl|⟨g,c,b,p,s,rfl,h1,h2,h3⟩
 ·exact .inl rfl
 ·exact .inr ⟨g,c,b,p,s,rfl,Zf hb h1,Zf hb h2,Zf hb h3⟩
def dJ (c h l:Int)(s:Value):Value:=.agg #[.int .i64 c,.int .i64 h,.int .i64 l,s]
def dQ (w:World)(c:Int)(v:Value):Prop:= ∃h l s,v=dJ c h l s/\Wr w s
def uY (w:World)(c:Int)(e:Ending)(w':World):Prop:= ∃v,e =.returned v/\dQ w' c v/\Below w.heap.size w w'
theorem dQ.below {c:Int}(h:dQ w c v)(hb:Below w.heap.size w w'):dQ w' c v:=by
 obtain⟨a,l,s,rfl,hs⟩:=h;exact⟨a,l,s,rfl,hs.below hb⟩
theorem Wr.slice (h:Wr w v):∃A n c,v =.slice A n c/\n<=1:=by
 rcases h with rfl|⟨g,c,b,p,s,rfl,_⟩
 ·exact⟨_,_,_,rfl,by omega⟩
 ·exact⟨_,_,_,rfl,by omega⟩
theorem bo:(Tryz.prog.info? 70).map (·.size)=some 4:=by kernel_rfl
theorem cG (c p:Int)(w:World):Calls Tryz.prog 153 #[.int .i64 c,.int .i64 p] w (uY w c):=by
 go_enter Tryz.func153,Tryz.ntmps153;go_wp2;refine Zg (results_cell_row Tryz.results153 _ _ w.heap.size 70 #[.int .i64 c,.int .i64 0,.int .i64 0,.slice (some ⟨w.heap.size+1,0,none⟩) 1 1] (0,0) _ (by simp) ?_ Tryz.underlying70 rfl bo) rfl ⟨_,rfl,⟨0,0,_,rfl,.inr ⟨w.heap.size+1,1,false,p,es,rfl,?_,?_,?_⟩⟩,?_⟩
 ·exact(Below.heap_alloc _ _ _ (by simp)).trans (Ze w _)
 ·have:=ar (w.alloc (.cells #[.int .i64 c,.int .i64 0,.int .i64 0,.slice (some ⟨w.heap.size+1,0,none⟩) 1 1] 70)) [.bool false,.int .i64 p,.string es] 320 0 _ rfl
  rwa[World.size_alloc] at this
 ·have:=ar (w.alloc (.cells #[.int .i64 c,.int .i64 0,.int .i64 0,.slice (some ⟨w.heap.size+1,0,none⟩) 1 1] 70)) [.bool false,.int .i64 p,.string es] 320 1 _ rfl
  rwa[World.size_alloc] at this
 ·have:=ar (w.alloc (.cells #[.int .i64 c,.int .i64 0,.int .i64 0,.slice (some ⟨w.heap.size+1,0,none⟩) 1 1] 70)) [.bool false,.int .i64 p,.string es] 320 2 _ rfl
  rwa[World.size_alloc] at this
 ·exact((Zd _ _).alloc (Za _) _).alloc (by simp) _
theorem eR (c:Int)(w:World):Calls Tryz.prog 113 #[.int .i64 c] w (uY w c):=by
 go_enter Tryz.func113,Tryz.ntmps113;go_wp2;exact Zg (results_cell_row Tryz.results113 _ _ w.heap.size 70 #[.int .i64 c,.int .i64 0,.int .i64 0,.slice none 0 0] (0,0) _ (by simp) (Ze w _) Tryz.underlying70 rfl bo) rfl ⟨_,rfl,⟨0,0,_,rfl,.inl rfl⟩,ac _ _⟩
theorem xc (c h l:Int)(w:World):Calls Tryz.prog 145 #[.int .i64 c,.int .i64 h,.int .i64 l] w (uY w c):=by
 go_enter Tryz.func145,Tryz.ntmps145;go_wp2;exact Zg (results_cell_row Tryz.results145 _ _ w.heap.size 70 #[.int .i64 c,.int .i64 h,.int .i64 l,.slice none 0 0] (0,0) _ (by simp) (Ze w _) Tryz.underlying70 rfl bo) rfl ⟨_,rfl,⟨h,l,_,rfl,.inl rfl⟩,ac _ _⟩
def nN (a b c d e f:Int):Value:=.agg #[.int .i64 a,.int .i64 b,.int .i64 c,.int .i64 d,.int .i64 e,.int .i64 f]
def GW (w:World)(e:Ending)(w':World):Prop:= ∃ (x:Int) (b:Bool),e =.returned (.tuple #[.int .i64 x,.bool b])/\Below w.heap.size w w'
theorem pU (a b c d x f m:Int)(w:World):Calls Tryz.prog 144 #[nN a b c d x f,.int .i64 m] w (GW w):=by
 unfold nN;go_enter Tryz.func144,Tryz.ntmps144;go_wp2_with fail
 all_goals
  go_ret2;exact⟨_,_,rfl,ac _ _⟩
theorem mW (c h l:Int){s:Value}(hs:s.oneCell'=true):(#[.int .i64 c,.int .i64 h,.int .i64 l,s]:Array Value).all (·.oneCell')=true:=by
 simp[hs,show ∀n,(Value.int .i64 n).oneCell'=true from fun _=>rfl]
theorem gF (a b c d x f m n:Int)(w:World):Calls Tryz.prog 115 #[nN a b c d x f,.int .i64 m,.int .i64 n] w fun e w'=> ∃k,uY w k e w':=by
 have a3:=Ze (w.alloc (.cells #[.int .i64 a,.int .i64 b,.int .i64 c,.int .i64 d,.int .i64 x,.int .i64 f] 121)) (.cells #[.int .i64 0,.int .i64 0,.int .i64 0,.slice none 0 0] 70);rw[World.size_alloc] at a3;have b1:Below w.heap.size w ((w.alloc (.cells #[.int .i64 a,.int .i64 b,.int .i64 c,.int .i64 d,.int .i64 x,.int .i64 f] 121)).alloc (.cells #[.int .i64 0,.int .i64 0,.int .i64 0,.slice none 0 0] 70)):=((Zd _ _).alloc (Za _) _).alloc (by simp) _;have b0:((w.alloc (.cells #[.int .i64 a,.int .i64 b,.int .i64 c,.int .i64 d,.int .i64 x,.int .i64 f] 121)).alloc (.cells #[.int .i64 0,.int .i64 0,.int .i64 0,.slice none 0 0] 70)).heap.size=w.heap.size+2:=by simp
 have a4:=Qa a3;have a9:=Qa b1;have b2:=Qa b0;clear a3 b1 b0;unfold nN;go_enter Tryz.func115,Tryz.ntmps115;go_wp2_with fail;generalize ((w.alloc (.cells #[.int .i64 a,.int .i64 b,.int .i64 c,.int .i64 d,.int .i64 x,.int .i64 f] 121)).alloc (.cells #[.int .i64 0,.int .i64 0,.int .i64 0,.slice none 0 0] 70))=w0 at *;refine(pU a b c d x f m w0).mono ?_;rintro e w1 ⟨y,t,rfl,a5⟩;have a1:=Qa ((a5.block _ (ae a4.out)).trans a4.out);have a6:=Qa (a9.out.trans (a5.mono a9.out.size));clear a5;have hend:∀ (k:Int) (u:Value) (w2:World),dQ w2 k u->Below w1.heap.size w1 w2->∃h l A q r,u =.agg #[.int .i64 k,.int .i64 h,.int .i64 l,.slice A q r]/\w2.heap[w.heap.size+1]?=some (.cells #[.int .i64 0,.int .i64 0,.int .i64 0,.slice none 0 0] 70 (0,0))/\
   Below w.heap.size w (w2.setRow (w.heap.size+1) #[.int .i64 k,.int .i64 h,.int .i64 l,.slice A q r])/\dQ (w2.setRow (w.heap.size+1) #[.int .i64 k,.int .i64 h,.int .i64 l,.slice A q r]) k u:=by
  rintro k u w2 ⟨h,l,s,rfl,hs⟩ a0;obtain⟨A,q,r,rfl,-⟩:=hs.slice;have hh:=(a0.block _ (ae a1.out)).trans a1.out;refine⟨h,l,A,q,r,rfl,hh,(a6.out.trans (a0.mono a6.out.size)).grown (ai ..) (Zb a6.out.size a0.size) (fun g e=>by cases e;omega),h,l,_,rfl,?_⟩;rcases hs with e|⟨g,c',b',p,s',e,h1,h2,h3⟩
  ·exact .inl e
  ·have hne:some g≠some (w.heap.size+1):=fun e'=>by
    injection e' with e';subst e'
    have a7:=h1;unfold World.cell? at a7;simp[hh] at a7
   exact .inr ⟨g,c',b',p,s',e,(ai w2 _ _).cell h1 hne,(ai w2 _ _).cell h2 hne,(ai w2 _ _).cell h3 hne⟩
 have a2:=Qa hend;clear hend
 cases t
 ·go_wp2_with fail;refine(eR 0 w1).mono ?_;rintro e w2 ⟨u,rfl,hu,a0⟩;obtain⟨h,l,A,q,r,rfl,hh,h1,h2⟩:=a2.out 0 u w2 hu a0;have Hh:=Qa hh;have H1:=Qa h1;have H2:=Qa h2;clear hh h1 h2 hu a0;go_wp2_with (refine bM Hh.out ?_);exact Zg (results_cell_row Tryz.results115 _ _ (w.heap.size+1) 70 _ (0,0) _ (by simp) (setRow_heap _ _ _ _ _ _ Hh.out) Tryz.underlying70 rfl bo) rfl ⟨0,_,rfl,H2.out,H1.out⟩
 ·by_cases hn:y<n
  ·go_wp2_with fail;refine(xc m n y w1).mono ?_;rintro e w2 ⟨u,rfl,hu,a0⟩;obtain⟨h,l,A,q,r,rfl,hh,h1,h2⟩:=a2.out m u w2 hu a0;have Hh:=Qa hh;have H1:=Qa h1;have H2:=Qa h2;clear hh h1 h2 hu a0;go_wp2_with (refine bM Hh.out ?_);exact Zg (results_cell_row Tryz.results115 _ _ (w.heap.size+1) 70 _ (0,0) _ (by simp) (setRow_heap _ _ _ _ _ _ Hh.out) Tryz.underlying70 rfl bo) rfl ⟨m,_,rfl,H2.out,H1.out⟩
  ·go_wp2_with fail;refine(eR 0 w1).mono ?_;rintro e w2 ⟨u,rfl,hu,a0⟩;obtain⟨h,l,A,q,r,rfl,hh,h1,h2⟩:=a2.out 0 u w2 hu a0;have Hh:=Qa hh;have H1:=Qa h1;have H2:=Qa h2;clear hh h1 h2 hu a0;go_wp2_with (refine bM Hh.out ?_);exact Zg (results_cell_row Tryz.results115 _ _ (w.heap.size+1) 70 _ (0,0) _ (by simp) (setRow_heap _ _ _ _ _ _ Hh.out) Tryz.underlying70 rfl bo) rfl ⟨0,_,rfl,H2.out,H1.out⟩
theorem bO {k:Int}{b:Nat}(hu:dQ w k u)(hh:w.heap[b]?=some (.cells #[.int .i64 c0,x1,x2,x3] 70 (0,0))) :
  ∃h l A q r,u =.agg #[.int .i64 k,.int .i64 h,.int .i64 l,.slice A q r]/\w.grownBy (w.setRow b #[.int .i64 k,.int .i64 h,.int .i64 l,.slice A q r]) (some b)/\dQ (w.setRow b #[.int .i64 k,.int .i64 h,.int .i64 l,.slice A q r]) k u:=by
 obtain⟨h,l,s,rfl,hs⟩:=hu;obtain⟨A,q,r,rfl,-⟩:=hs.slice;refine⟨h,l,A,q,r,rfl,ai _ _ _,h,l,_,rfl,?_⟩;rcases hs with e|⟨g,c',b',p,s',e,h1,h2,h3⟩
 ·exact .inl e
 ·have hne:some g≠some b:=fun e'=>by
   injection e' with e';subst e'
   have a0:=h1;unfold World.cell? at a0;simp[hh] at a0
  exact .inr ⟨g,c',b',p,s',e,(ai w _ _).cell h1 hne,(ai w _ _).cell h2 hne,(ai w _ _).cell h3 hne⟩
theorem bm {wz:World}{k:Int}{b:Nat}(hu:dQ wz k u)(a0:Below w0.heap.size w0 wz)(hf:w0.heap[b]?=some (.cells #[.int .i64 c0,x1,x2,x3] 70 (0,0)))(hb:Below w.heap.size w w0)(a1:w.heap.size<=b) :
  ∃h l A q r,u =.agg #[.int .i64 k,.int .i64 h,.int .i64 l,.slice A q r]/\Hid (wz.heap[b]?=some (.cells #[.int .i64 c0,x1,x2,x3] 70 (0,0)))/\Hid (Below w.heap.size w (wz.setRow b #[.int .i64 k,.int .i64 h,.int .i64 l,.slice A q r]))/\Hid (dQ (wz.setRow b #[.int .i64 k,.int .i64 h,.int .i64 l,.slice A q r]) k u):=by
 have hh:=(a0.block _ (ae hf)).trans hf;obtain⟨h,l,A,q,r,e,h1,h2⟩:=bO hu hh;exact⟨h,l,A,q,r,e,hh,(hb.trans (a0.mono hb.size)).grown h1 (Zb hb.size a0.size) (fun g e=>by cases e;exact a1),h2⟩
theorem aM (c p:Int)(w:World):Calls Tryz.prog 219 #[.int .i64 c,.int .i64 p] w (uY w c):=by
 have a0:=Qa (Ze w (.cells #[.int .i64 0,.int .i64 0,.int .i64 0,.slice none 0 0] 70));have a2:=Qa (ac w (.cells #[.int .i64 0,.int .i64 0,.int .i64 0,.slice none 0 0] 70));go_enter Tryz.func219,Tryz.ntmps219;go_wp2_with fail;generalize (w.alloc (.cells #[.int .i64 0,.int .i64 0,.int .i64 0,.slice none 0 0] 70))=w0 at *;refine(cG c p w0).mono ?_;rintro e w1 ⟨u,rfl,hu,a1⟩;have Hh:=Qa ((a1.block _ (ae a0.out)).trans a0.out);obtain⟨h,l,A,q,r,rfl,h1,h2⟩:=bO hu Hh.out;have H1:=Qa ((a2.out.trans (a1.mono a2.out.size)).grown h1 (Zb a2.out.size a1.size) (fun g e=>by cases e;exact Za _));have H2:=Qa h2;clear h1 h2 hu a1;go_wp2_with (refine bM Hh.out ?_);exact Zg (results_cell_row Tryz.results219 _ _ w.heap.size 70 _ (0,0) _ (by simp) (setRow_heap _ _ _ _ _ _ Hh.out) Tryz.underlying70 rfl bo) rfl ⟨_,rfl,H2.out,H1.out⟩
theorem eG (w:World):Calls Tryz.prog 220 #[] w (uY w 0):=by
 have a0:=Qa (Ze w (.cells #[.int .i64 0,.int .i64 0,.int .i64 0,.slice none 0 0] 70));have a2:=Qa (ac w (.cells #[.int .i64 0,.int .i64 0,.int .i64 0,.slice none 0 0] 70));go_enter Tryz.func220,Tryz.ntmps220;go_wp2_with fail;generalize (w.alloc (.cells #[.int .i64 0,.int .i64 0,.int .i64 0,.slice none 0 0] 70))=w0 at *;refine(eR 0 w0).mono ?_;rintro e w1 ⟨u,rfl,hu,a1⟩;have Hh:=Qa ((a1.block _ (ae a0.out)).trans a0.out);obtain⟨h,l,A,q,r,rfl,h1,h2⟩:=bO hu Hh.out;have H1:=Qa ((a2.out.trans (a1.mono a2.out.size)).grown h1 (Zb a2.out.size a1.size) (fun g e=>by cases e;exact Za _));have H2:=Qa h2;clear h1 h2 hu a1;go_wp2_with (refine bM Hh.out ?_);exact Zg (results_cell_row Tryz.results220 _ _ w.heap.size 70 _ (0,0) _ (by simp) (setRow_heap _ _ _ _ _ _ Hh.out) Tryz.underlying70 rfl bo) rfl ⟨_,rfl,H2.out,H1.out⟩
def F7 (w:World)(s3:Value)(wr:World):Prop:= ∃k:Nat,k<=6/\s3 =.int .i64 k/\Below w.heap.size w wr
def BY (w:World)(e:Ending)(w':World):Prop:= ∃b,e =.returned (.bool b)/\Below w.heap.size w w'
theorem EC (a b c d x f:Int)(w:World):Calls Tryz.prog 114 #[nN a b c d x f] w (BY w):=by
 unfold nN;have a0:=ar w [.int .i64 a,.int .i64 b,.int .i64 c,.int .i64 d,.int .i64 x,.int .i64 f] 121;have a1:=Qa (ac w (.cells #[.int .i64 a,.int .i64 b,.int .i64 c,.int .i64 d,.int .i64 x,.int .i64 f] 121));have c0:=a0 0 _ rfl;have c1:=a0 1 _ rfl;have c2:=a0 2 _ rfl;have c3:=a0 3 _ rfl;have c4:=a0 4 _ rfl;have c5:=a0 5 _ rfl;have hz:w.heap.size< (w.alloc (.cells #[.int .i64 a,.int .i64 b,.int .i64 c,.int .i64 d,.int .i64 x,.int .i64 f] 121)).heap.size:=by simp
 have Hc:=Qa (show ∀wr,Below (w.alloc (.cells #[.int .i64 a,.int .i64 b,.int .i64 c,.int .i64 d,.int .i64 x,.int .i64 f] 121)).heap.size (w.alloc (.cells #[.int .i64 a,.int .i64 b,.int .i64 c,.int .i64 d,.int .i64 x,.int .i64 f] 121)) wr->wr.cell? ⟨w.heap.size,0,none⟩=some (.int .i64 a)/\wr.cell? ⟨w.heap.size,1,none⟩=some (.int .i64 b)/\wr.cell? ⟨w.heap.size,2,none⟩=some (.int .i64 c)/\wr.cell? ⟨w.heap.size,3,none⟩=some (.int .i64 d)/\wr.cell? ⟨w.heap.size,4,none⟩=some (.int .i64 x)/\wr.cell? ⟨w.heap.size,5,none⟩=some (.int .i64 f) from
  fun wr h=>⟨Zf h c0,Zf h c1,Zf h c2,Zf h c3,Zf h c4,Zf h c5⟩)
 clear a0 c0 c1 c2 c3 c4 c5 hz;go_enter Tryz.func114,Tryz.ntmps114;go_wp2_with fail;generalize (w.alloc (.cells #[.int .i64 a,.int .i64 b,.int .i64 c,.int .i64 d,.int .i64 x,.int .i64 f] 121))=w0 at *
 go_loopw [3] (F7 w0) (fun i _=>6 - (intOf i).toNat)
 case atStart=>exact⟨1,by omega,rfl,Zd _ _⟩
 case round=>
  obtain⟨k,hk,rfl,hb⟩:=hrel;obtain⟨c0,c1,c2,c3,c4,c5⟩:=Hc.out wr hb;have Hb:=Qa hb;clear hb
  by_cases hlt:k<6
  ·have hki:(k:Int)<6:=by omega
   go_wp2_with fail;refine(pU a b c d x f k wr).mono ?_;rintro e w1 ⟨y,t,rfl,a3⟩;have a2:=Qa (Hb.out.trans (a3.mono Hb.out.size));clear a3 c0 c1 c2 c3 c4 c5
   by_cases h1:y<0
   ·go_wp2_with fail;go_ret;exact⟨_,rfl,a1.out.trans (a2.out.mono a1.out.size)⟩
   ·by_cases h2:1073741824<y
    ·go_wp2_with fail;go_ret;exact⟨_,rfl,a1.out.trans (a2.out.mono a1.out.size)⟩
    ·go_wp2_with fail;exact⟨⟨k+1,by omega,by go_num,a2.out⟩,by simp[intOf];omega⟩
  ·have hki:¬ (k:Int)<6:=by omega
   go_wp2_with fail
   all_goals
    go_ret;exact⟨_,rfl,a1.out.trans (Hb.out.mono a1.out.size)⟩
theorem bI {fn:Func}{p q:Tmp}(h:fn.results = #[.tmp p,.cell q 70])(tmps:Array Value)(w:World)(g:Nat)(t:TypeId)(c0 c1 c2 c3:Value)(fr:Nat×Nat)
  (hp:tmps.getD q undef =.pointer (some ⟨g,0,none⟩)) (hg:w.heap[g]?=some (.cells #[c0,c1,c2,c3] t fr)) :
  (results fn tmps).run Tryz.prog w =.ok (.tuple #[tmps.getD p undef,.agg #[c0,c1,c2,c3]]) w:=by
 have a0:tmps[q]?.getD undef =.pointer (some ⟨g,0,none⟩):=by simpa using hp
 have hl:=run_loadVar_row (P:=Tryz.prog) w g t 70 #[c0,c1,c2,c3] fr _ hg Tryz.underlying70 rfl bo;simp[results,h,a0,asAddr,hl]
theorem aP {fn:Func}{p u q:Tmp}(h:fn.results = #[.tmp p,.tmp u,.cell q 70])(tmps:Array Value)(w:World)(g:Nat)(t:TypeId)(c0 c1 c2 c3:Value)(fr:Nat×Nat)
  (hp:tmps.getD q undef =.pointer (some ⟨g,0,none⟩)) (hg:w.heap[g]?=some (.cells #[c0,c1,c2,c3] t fr)) :
  (results fn tmps).run Tryz.prog w =.ok (.tuple #[tmps.getD p undef,tmps.getD u undef,.agg #[c0,c1,c2,c3]]) w:=by
 have a0:tmps[q]?.getD undef =.pointer (some ⟨g,0,none⟩):=by simpa using hp
 have hl:=run_loadVar_row (P:=Tryz.prog) w g t 70 #[c0,c1,c2,c3] fr _ hg Tryz.underlying70 rfl bo;simp[results,h,a0,asAddr,hl]
theorem oX {ops:Array Oper}{o:Oper}{a:Act}{K:Act->World->Prop}{Q:Exit->Act->World->Prop}{E:Prop}(a1:o.guard=none)(ty:TypeId)(x y:Operand)(ho:o.op =.store ty x y)
  (g:Nat) (cells:Array Value) (hx:a.eval x =.pointer (some ⟨g,0,none⟩)) (hy:a.eval y =.agg cells)
  (t:TypeId) (old:Array Value) (hg:w.heap[g]?=some (.cells old t (0,0))) (hi:(Tryz.prog.info? ty).map (·.size)=some cells.size)
  (a0:old.size=cells.size) (h1:cells.all (·.oneCell')=true)
  (h:K (a.put o.dst undef) (w.setRow g cells)):if Region.wanted o (yielded ops a.tmps)=true then Oper.wp Tryz.prog o a w K Q else E:=by
 have hw:Region.wanted o (yielded ops a.tmps)=true:=by simp[Region.wanted,a1]
 rw[if_pos hw];exact wp_store_row ty x y ho g cells hx hy t old hg hi a0 h1 h
theorem bT {ops:Array Oper}{o:Oper}{a:Act}{K:Act->World->Prop}{Q:Exit->Act->World->Prop}{E:Prop}{t:TypeId}{x y:Operand}(hg:w.heap[g]?=some (.cells old t (0,0)))(h:K (a.put o.dst undef) (w.setRow g cells))
  (ho:o.op =.store ty x y:=by exact rfl) (hx:a.eval x =.pointer (some ⟨g,0,none⟩):=by exact rfl) (hy:a.eval y =.agg cells:=by exact rfl) (a1:o.guard=none:=by exact rfl)
  (hi:(Tryz.prog.info? ty).map (·.size)=some cells.size:=by kernel_rfl) (a0:old.size=cells.size:=by exact rfl) (h1:cells.all (·.oneCell')=true:=by simp[Value.oneCell']):if Region.wanted o (yielded ops a.tmps)=true then Oper.wp Tryz.prog o a w K Q else E:=
 oX a1 ty x y ho g cells hx hy t old hg hi a0 h1 h
def GK (w:World)(e:Ending)(w':World):Prop:=(∃r:Int,e =.returned (.int .i32 r)/\0<=r/\r<=127)/\w=w'
theorem AC (c:Nat)(h:c<256)(w:World):Calls Tryz.prog 248 #[.int .u8 (c:Int)] w (GK w):=by
 obtain⟨x,hx,h0,h1⟩:∃x:Int,(c:Int)=x/\0<=x/\x<=255:=⟨c,rfl,by omega,by omega⟩;rw[hx];clear hx h;go_enter Tryz.func248,Tryz.ntmps248;go_wp2_with fail
 all_goals
  go_ret;refine⟨⟨_,rfl,?_,?_⟩,rfl⟩ <;> first|omega|(simp_all;done)|(simp_all;omega)
def JD (w:World)(e:Ending)(w':World):Prop:=(∃d:Int,e =.returned (.int .i64 d)/\ -1<=d/\d<=15)/\w=w'
theorem E9 (c:Nat)(h:c<256)(w:World):Calls Tryz.prog 257 #[.int .u8 (c:Int)] w (JD w):=by
 obtain⟨x,hx,h0,h1⟩:∃x:Int,(c:Int)=x/\0<=x/\x<=255:=⟨c,rfl,by omega,by omega⟩;rw[hx];clear hx h;go_enter Tryz.func257,Tryz.ntmps257;go_wp2_with fail
 all_goals
  go_ret;refine⟨⟨_,rfl,?_,?_⟩,rfl⟩ <;> omega
def IV (len k:Nat)(w:World)(e:Ending)(w':World):Prop:=(∃n x:Nat,e =.returned (.tuple #[.int .i64 n,.int .i64 x])/\n<=4/\x<16 ^ n/\(n=0\/k+n<=len))/\w=w'
def EI (w:World)(len k:Nat)(s6 s7:Value)(wr:World):Prop:= ∃n x:Nat,n<=4/\x<16 ^ n/\(n=0\/k+n<=len)/\s6 =.int .i64 n/\s7 =.int .i64 x/\w=wr
theorem IH {x:Nat}(hn:n<4)(hx:x<16 ^ n):x<4096:=by
 rcases(by omega:n=0\/n=1\/n=2\/n=3) with rfl|rfl|rfl|rfl <;> omega
theorem xP {x d:Nat}(hx:x<16 ^ n)(hd:d<=15):16*x+d<16 ^ (n+1):=by
 rw[Nat.pow_succ];omega
theorem uU (hb:Bs w v xs)(hl:xs.length<=1000000)(k:Nat)(hk:k<=1000000){a:Int}(ha:a=k):Calls Tryz.prog 249 #[v,.int .i64 a] w (IV xs.length k w):=by
 subst ha;obtain⟨hm,A,cap,rfl,a6,a0⟩:=id hb;have a1:=Qa a0;clear hb a0;go_enter Tryz.func249,Tryz.ntmps249;go_wp2_with fail
 go_loopw [6,7] (EI w xs.length k) (fun n _ _=>4 - (intOf n).toNat)
 case atStart=>exact⟨0,0,by omega,by simp,.inl rfl,rfl,rfl,rfl⟩
 case round=>
  obtain⟨n,x,hn,hx,a2,rfl,rfl,rfl⟩:=hrel
  by_cases h4:n<4
  ·have a5:(n:Int)<4:=by omega
   have a9:=IH h4 hx
   by_cases hin:k+n<xs.length
   ·have a3:(k:Int)+n<xs.length:=by omega
    obtain⟨b,o,rfl,a4⟩:=a1.out (by omega);have c1:=a4 (k+n) hin;have a7:=aK xs (k+n);clear a4;go_wp2_with fail;refine(E9 _ a7 w).mono ?_;rintro e w' ⟨⟨d,rfl,b0,b1⟩,rfl⟩
    by_cases hd:d<0
    ·go_wp2_with fail;go_ret2;exact⟨⟨n,x,rfl,hn,hx,a2⟩,rfl⟩
    ·obtain⟨d',rfl⟩:∃d':Nat,d=d':=⟨d.toNat,by omega⟩;go_wp2_with fail;exact⟨⟨n+1,16*x+d',by omega,xP hx (by omega),.inr (by omega),by go_num,by congr 1,rfl⟩,by simp[intOf];omega⟩
   ·have a3:¬ (k:Int)+n<xs.length:=by omega
    go_wp2_with fail;go_ret2;exact⟨⟨n,x,rfl,hn,hx,a2⟩,rfl⟩
  ·have a5:¬ (n:Int)<4:=by omega
   go_wp2_with fail;go_ret2;exact⟨⟨n,x,rfl,hn,hx,a2⟩,rfl⟩
theorem Dm:∀x:Nat,x<256->bits .and .i64 (x:Int) 15= ((x % 16:Nat):Int):=by decide +kernel
theorem GE {x:Nat}(h:x<65536)(h1:(x:Int)/4096=13)(h2:12<=bits .and .i64 ((x:Int)/256) 15):56320<=(x:Int)/\(x:Int)<=57343:=by
 have e:(x:Int)/256= ((x/256:Nat):Int):=by omega
 rw[e,Dm (x/256) (by omega)] at h2;omega
def JN (len k:Nat)(w:World)(e:Ending)(w':World):Prop:= ∃ (y c:Int) (u:Value),e =.returned (.tuple #[.int .i64 y,u])/\dQ w' c u/\Below w.heap.size w w'/\(c=0->56320<=y/\y<=57343/\k+6<=len)
theorem Er (hb:Bs w v xs)(hl:xs.length<=1000000)(k:Nat)(hk:k<=xs.length){a:Int}(ha:a=k)(a0:Int):Calls Tryz.prog 250 #[v,.int .i64 a,.int .i64 a0] w (JN xs.length k w):=by
 subst ha;obtain⟨hm,A,cap,rfl,b1,a3⟩:=id hb;have a4:=Qa a3;have a9:=Qa hb;have a2:=Qa (Ze w (.cells #[.int .i64 0,.int .i64 0,.int .i64 0,.slice none 0 0] 70));have Hb:=Qa (ac w (.cells #[.int .i64 0,.int .i64 0,.int .i64 0,.slice none 0 0] 70));clear hb a3;go_enter Tryz.func250,Tryz.ntmps250
 by_cases e1:k=xs.length
 ·have e1':((k:Int)==xs.length)=true:=by simp[e1]
  clear e1;go_wp2_with fail;generalize (w.alloc (.cells #[.int .i64 0,.int .i64 0,.int .i64 0,.slice none 0 0] 70))=w0 at *;refine(aM 103 xs.length w0).mono ?_;rintro e wz ⟨u,rfl,hu,a1⟩;obtain⟨fh,fl,fA,fq,fr,rfl,Hh,H1,H2⟩:=bm hu a1 a2.out Hb.out (Za _);clear hu a1;go_wp2_with (refine bM Hh.out ?_);exact Zg (bI Tryz.results250 _ _ _ _ _ _ _ _ (0,0) (by simp) (setRow_heap _ _ _ _ _ _ Hh.out)) rfl ⟨_,103,_,rfl,H2.out,H1.out,fun h=>by cases h⟩
 ·have e1':((k:Int)==xs.length)=false:=by simp;omega
  have hki:(k:Int)<xs.length:=by omega
  obtain⟨b,o,rfl,a5⟩:=a4.out (by omega);have c1:=Zf Hb.out (a5 k (by omega));have c2:k+1<xs.length->(w.alloc (.cells #[.int .i64 0,.int .i64 0,.int .i64 0,.slice none 0 0] 70)).cell? ⟨b,o+ (k+1),none⟩=some (.int .u8 (ap xs (k+1))):=fun h=>Zf Hb.out (a5 (k+1) h)
  have C2:=Qa c2;have b2:=aK xs k;have b3:=aK xs (k+1);clear a5 c2
  by_cases q1:ap xs k=92
  case neg=>
   have q1':((ap xs k:Int) !=92)=true:=by simp;omega
   clear q1;go_wp2_with fail;generalize (w.alloc (.cells #[.int .i64 0,.int .i64 0,.int .i64 0,.slice none 0 0] 70))=w0 at *;refine(aM 106 a0 w0).mono ?_;rintro e wz ⟨u,rfl,hu,a1⟩;obtain⟨fh,fl,fA,fq,fr,rfl,Hh,H1,H2⟩:=bm hu a1 a2.out Hb.out (Za _);clear hu a1;go_wp2_with (refine bM Hh.out ?_);exact Zg (bI Tryz.results250 _ _ _ _ _ _ _ _ (0,0) (by simp) (setRow_heap _ _ _ _ _ _ Hh.out)) rfl ⟨_,106,_,rfl,H2.out,H1.out,fun h=>by cases h⟩
  have q1':((ap xs k:Int) !=92)=false:=by simp[q1]
  clear q1
  by_cases e2:k+1=xs.length
  ·have e2':((k:Int)+1==xs.length)=true:=by simp;omega
   clear e2;go_wp2_with fail;generalize (w.alloc (.cells #[.int .i64 0,.int .i64 0,.int .i64 0,.slice none 0 0] 70))=w0 at *;refine(aM 103 xs.length w0).mono ?_;rintro e wz ⟨u,rfl,hu,a1⟩;obtain⟨fh,fl,fA,fq,fr,rfl,Hh,H1,H2⟩:=bm hu a1 a2.out Hb.out (Za _);clear hu a1;go_wp2_with (refine bM Hh.out ?_);exact Zg (bI Tryz.results250 _ _ _ _ _ _ _ _ (0,0) (by simp) (setRow_heap _ _ _ _ _ _ Hh.out)) rfl ⟨_,103,_,rfl,H2.out,H1.out,fun h=>by cases h⟩
  have e2':((k:Int)+1==xs.length)=false:=by simp;omega
  have b0:(k:Int)+1<xs.length:=by omega
  have c2:=C2.out (by omega)
  by_cases q2:ap xs (k+1)=117
  case neg=>
   have q2':((ap xs (k+1):Int) !=117)=true:=by simp;omega
   clear q2;go_wp2_with fail;generalize (w.alloc (.cells #[.int .i64 0,.int .i64 0,.int .i64 0,.slice none 0 0] 70))=w0 at *;refine(aM 106 a0 w0).mono ?_;rintro e wz ⟨u,rfl,hu,a1⟩;obtain⟨fh,fl,fA,fq,fr,rfl,Hh,H1,H2⟩:=bm hu a1 a2.out Hb.out (Za _);clear hu a1;go_wp2_with (refine bM Hh.out ?_);exact Zg (bI Tryz.results250 _ _ _ _ _ _ _ _ (0,0) (by simp) (setRow_heap _ _ _ _ _ _ Hh.out)) rfl ⟨_,106,_,rfl,H2.out,H1.out,fun h=>by cases h⟩
  have q2':((ap xs (k+1):Int) !=117)=false:=by simp[q2]
  clear q2;go_wp2_with fail;generalize (w.alloc (.cells #[.int .i64 0,.int .i64 0,.int .i64 0,.slice none 0 0] 70))=w0 at *;refine(uU (a9.out.below Hb.out) hl (k+2) (by omega) (by omega)).mono ?_;rintro e w' ⟨⟨n,x,rfl,hn,hx,b4⟩,rfl⟩;rcases(by omega:n=4\/n=3\/n=2\/n=1\/n=0) with rfl|rfl|rfl|rfl|rfl
  ·have a7:x<65536:=by omega
   clear hx;go_wp2_with fail
   all_goals first
    |(with_reducible refine(aM 106 a0 w0).mono ?_
      rintro e wz ⟨u,rfl,hu,a1⟩;obtain⟨fh,fl,fA,fq,fr,rfl,Hh,H1,H2⟩:=bm hu a1 a2.out Hb.out (Za _);clear hu a1;go_wp2_with (refine bM Hh.out ?_);exact Zg (bI Tryz.results250 _ _ _ _ _ _ _ _ (0,0) (by simp) (setRow_heap _ _ _ _ _ _ Hh.out)) rfl ⟨_,106,_,rfl,H2.out,H1.out,fun h=>by cases h⟩
     )
    |(with_reducible refine(aM 103 xs.length w0).mono ?_
      rintro e wz ⟨u,rfl,hu,a1⟩;obtain⟨fh,fl,fA,fq,fr,rfl,Hh,H1,H2⟩:=bm hu a1 a2.out Hb.out (Za _);clear hu a1;go_wp2_with (refine bM Hh.out ?_);exact Zg (bI Tryz.results250 _ _ _ _ _ _ _ _ (0,0) (by simp) (setRow_heap _ _ _ _ _ _ Hh.out)) rfl ⟨_,103,_,rfl,H2.out,H1.out,fun h=>by cases h⟩
     )
    |(with_reducible refine(eG w0).mono ?_
      have g1:(x:Int)/4096=13:=by assumption
      have g2:12<=bits .and .i64 ((x:Int)/256) 15:=by assumption
      have g3:=Qa (GE a7 g1 g2);clear g1 g2;rintro e wz ⟨u,rfl,hu,a1⟩;obtain⟨fh,fl,fA,fq,fr,rfl,Hh,H1,H2⟩:=bm hu a1 a2.out Hb.out (Za _);clear hu a1;go_wp2_with (refine bM Hh.out ?_);exact Zg (bI Tryz.results250 _ _ _ _ _ _ _ _ (0,0) (by simp) (setRow_heap _ _ _ _ _ _ Hh.out)) rfl ⟨_,0,_,rfl,H2.out,H1.out,fun _=>⟨g3.out.1,g3.out.2,by omega⟩⟩
     )
  ·have a6:x<4096:=by omega
   clear hx;go_wp2_with fail
   all_goals first
    |(with_reducible refine(aM 106 a0 w0).mono ?_
      rintro e wz ⟨u,rfl,hu,a1⟩;obtain⟨fh,fl,fA,fq,fr,rfl,Hh,H1,H2⟩:=bm hu a1 a2.out Hb.out (Za _);clear hu a1;go_wp2_with (refine bM Hh.out ?_);exact Zg (bI Tryz.results250 _ _ _ _ _ _ _ _ (0,0) (by simp) (setRow_heap _ _ _ _ _ _ Hh.out)) rfl ⟨_,106,_,rfl,H2.out,H1.out,fun h=>by cases h⟩
     )
    |(with_reducible refine(aM 103 xs.length w0).mono ?_
      rintro e wz ⟨u,rfl,hu,a1⟩;obtain⟨fh,fl,fA,fq,fr,rfl,Hh,H1,H2⟩:=bm hu a1 a2.out Hb.out (Za _);clear hu a1;go_wp2_with (refine bM Hh.out ?_);exact Zg (bI Tryz.results250 _ _ _ _ _ _ _ _ (0,0) (by simp) (setRow_heap _ _ _ _ _ _ Hh.out)) rfl ⟨_,103,_,rfl,H2.out,H1.out,fun h=>by cases h⟩
     )
  ·have a6:x<256:=by omega
   clear hx;go_wp2_with fail
   all_goals first
    |(with_reducible refine(aM 106 a0 w0).mono ?_
      rintro e wz ⟨u,rfl,hu,a1⟩;obtain⟨fh,fl,fA,fq,fr,rfl,Hh,H1,H2⟩:=bm hu a1 a2.out Hb.out (Za _);clear hu a1;go_wp2_with (refine bM Hh.out ?_);exact Zg (bI Tryz.results250 _ _ _ _ _ _ _ _ (0,0) (by simp) (setRow_heap _ _ _ _ _ _ Hh.out)) rfl ⟨_,106,_,rfl,H2.out,H1.out,fun h=>by cases h⟩
     )
    |(with_reducible refine(aM 103 xs.length w0).mono ?_
      rintro e wz ⟨u,rfl,hu,a1⟩;obtain⟨fh,fl,fA,fq,fr,rfl,Hh,H1,H2⟩:=bm hu a1 a2.out Hb.out (Za _);clear hu a1;go_wp2_with (refine bM Hh.out ?_);exact Zg (bI Tryz.results250 _ _ _ _ _ _ _ _ (0,0) (by simp) (setRow_heap _ _ _ _ _ _ Hh.out)) rfl ⟨_,103,_,rfl,H2.out,H1.out,fun h=>by cases h⟩
     )
  ·have a6:x<16:=by omega
   clear hx;go_wp2_with fail
   all_goals first
    |(with_reducible refine(aM 106 a0 w0).mono ?_
      rintro e wz ⟨u,rfl,hu,a1⟩;obtain⟨fh,fl,fA,fq,fr,rfl,Hh,H1,H2⟩:=bm hu a1 a2.out Hb.out (Za _);clear hu a1;go_wp2_with (refine bM Hh.out ?_);exact Zg (bI Tryz.results250 _ _ _ _ _ _ _ _ (0,0) (by simp) (setRow_heap _ _ _ _ _ _ Hh.out)) rfl ⟨_,106,_,rfl,H2.out,H1.out,fun h=>by cases h⟩
     )
    |(with_reducible refine(aM 103 xs.length w0).mono ?_
      rintro e wz ⟨u,rfl,hu,a1⟩;obtain⟨fh,fl,fA,fq,fr,rfl,Hh,H1,H2⟩:=bm hu a1 a2.out Hb.out (Za _);clear hu a1;go_wp2_with (refine bM Hh.out ?_);exact Zg (bI Tryz.results250 _ _ _ _ _ _ _ _ (0,0) (by simp) (setRow_heap _ _ _ _ _ _ Hh.out)) rfl ⟨_,103,_,rfl,H2.out,H1.out,fun h=>by cases h⟩
     )
  ·have a6:x<1:=by omega
   clear hx;go_wp2_with fail
   all_goals first
    |(with_reducible refine(aM 106 a0 w0).mono ?_
      rintro e wz ⟨u,rfl,hu,a1⟩;obtain⟨fh,fl,fA,fq,fr,rfl,Hh,H1,H2⟩:=bm hu a1 a2.out Hb.out (Za _);clear hu a1;go_wp2_with (refine bM Hh.out ?_);exact Zg (bI Tryz.results250 _ _ _ _ _ _ _ _ (0,0) (by simp) (setRow_heap _ _ _ _ _ _ Hh.out)) rfl ⟨_,106,_,rfl,H2.out,H1.out,fun h=>by cases h⟩
     )
    |(with_reducible refine(aM 103 xs.length w0).mono ?_
      rintro e wz ⟨u,rfl,hu,a1⟩;obtain⟨fh,fl,fA,fq,fr,rfl,Hh,H1,H2⟩:=bm hu a1 a2.out Hb.out (Za _);clear hu a1;go_wp2_with (refine bM Hh.out ?_);exact Zg (bI Tryz.results250 _ _ _ _ _ _ _ _ (0,0) (by simp) (setRow_heap _ _ _ _ _ _ Hh.out)) rfl ⟨_,103,_,rfl,H2.out,H1.out,fun h=>by cases h⟩
     )
def JL (len k:Nat)(w:World)(e:Ending)(w':World):Prop:= ∃ (r:Int) (n:Nat) (c:Int) (u:Value),e =.returned (.tuple #[.int .i32 r,.int .i64 n,u])/\dQ w' c u/\Below w.heap.size w w'/\(c=0->dO r=true/\2<=n/\k+n<=len/\(bG r).length<=n)
theorem EF {r:Int}(h:0<=r)(h2:r<128):(bG r).length<=2:=by
 obtain⟨n,rfl⟩:∃n:Nat,r=n:=⟨r.toNat,by omega⟩;rw[mz n (by omega)];simp
theorem sd {r:Int}(h:0<=r/\r<=1114111/\(r<55296\/57343<r)):dO r=true:=by
 unfold dO;simp;omega
theorem xp (hb:Bs w v xs)(hl:xs.length<=1000000)(k:Nat)(hk:k<xs.length){a:Int}(ha:a=k):Calls Tryz.prog 237 #[v,.int .i64 a] w (JL xs.length k w):=by
 subst ha;obtain⟨hm,A,cap,rfl,c5,a4⟩:=id hb;obtain⟨b,o,rfl,b6⟩:=a4 (by omega);have b9:=Qa hb;have a1:=Qa (Ze w (.cells #[.int .i64 0,.int .i64 0,.int .i64 0,.slice none 0 0] 70));have Hb:=Qa (ac w (.cells #[.int .i64 0,.int .i64 0,.int .i64 0,.slice none 0 0] 70));have c1:=Zf Hb.out (b6 k hk);have C2:=Qa (show k+1<xs.length->(w.alloc (.cells #[.int .i64 0,.int .i64 0,.int .i64 0,.slice none 0 0] 70)).cell? ⟨b,o+ (k+1),none⟩=some (.int .u8 (ap xs (k+1))) from fun h=>Zf Hb.out (b6 (k+1) h));have c0:=aK xs (k+1);have hki:(k:Int)<xs.length:=by omega
 clear hb a4 b6;go_enter Tryz.func237,Tryz.ntmps237
 by_cases e2:k+1=xs.length
 ·have e2':((k:Int)+1==xs.length)=true:=by simp;omega
  clear e2;go_wp2_with fail;generalize (w.alloc (.cells #[.int .i64 0,.int .i64 0,.int .i64 0,.slice none 0 0] 70))=w0 at *;refine(aM 103 xs.length w0).mono ?_;rintro e wz ⟨u,rfl,hu,a0⟩;obtain⟨fh,fl,fA,fq,fr,rfl,Hh,H1,H2⟩:=bm hu a0 a1.out Hb.out (Za _);clear hu a0;go_wp2_with (refine bM Hh.out ?_);exact Zg (aP Tryz.results237 _ _ _ _ _ _ _ _ (0,0) (by simp) (setRow_heap _ _ _ _ _ _ Hh.out)) rfl ⟨0,0,103,_,rfl,H2.out,H1.out,fun h=>by cases h⟩
 have e2':((k:Int)+1==xs.length)=false:=by simp;omega
 have c3:(k:Int)+1<xs.length:=by omega
 have c2:=C2.out (by omega)
 by_cases q2:ap xs (k+1)=117
 case neg=>
  have q2':((ap xs (k+1):Int) !=117)=true:=by simp;omega
  clear q2;go_wp2_with fail;generalize (w.alloc (.cells #[.int .i64 0,.int .i64 0,.int .i64 0,.slice none 0 0] 70))=w0 at *;refine(AC _ c0 w0).mono ?_;rintro e w' ⟨⟨r,rfl,c7,c9⟩,rfl⟩
  by_cases hr0:r=0
  ·subst hr0;go_wp2_with fail;refine(aM 105 k w0).mono ?_;rintro e wz ⟨u,rfl,hu,a0⟩;obtain⟨fh,fl,fA,fq,fr,rfl,Hh,H1,H2⟩:=bm hu a0 a1.out Hb.out (Za _);clear hu a0;go_wp2_with (refine bM Hh.out ?_);exact Zg (aP Tryz.results237 _ _ _ _ _ _ _ _ (0,0) (by simp) (setRow_heap _ _ _ _ _ _ Hh.out)) rfl ⟨0,0,105,_,rfl,H2.out,H1.out,fun h=>by cases h⟩
  ·have c4:(r==0)=false:=by simpa using hr0
   clear hr0;go_wp2_with fail;refine(eG w0).mono ?_;rintro e wz ⟨u,rfl,hu,a0⟩;obtain⟨fh,fl,fA,fq,fr,rfl,Hh,H1,H2⟩:=bm hu a0 a1.out Hb.out (Za _);clear hu a0;go_wp2_with (refine bM Hh.out ?_);exact Zg (aP Tryz.results237 _ _ _ _ _ _ _ _ (0,0) (by simp) (setRow_heap _ _ _ _ _ _ Hh.out)) rfl ⟨r,2,0,_,rfl,H2.out,H1.out,fun _=>⟨sd ⟨by omega,by omega,.inl (by omega)⟩,by omega,by omega,EF (by omega) (by omega)⟩⟩
 have q2':((ap xs (k+1):Int) !=117)=false:=by simp[q2]
 clear q2;go_wp2_with fail;generalize (w.alloc (.cells #[.int .i64 0,.int .i64 0,.int .i64 0,.slice none 0 0] 70))=w0 at *;refine(uU (b9.out.below Hb.out) hl (k+2) (by omega) (by omega)).mono ?_;rintro e w' ⟨⟨n,x,rfl,hn,hx,d9⟩,rfl⟩
 by_cases h4:n<4
 ·have d5:(n:Int)<4:=by omega
  by_cases hin:k+2+n<xs.length
  ·have b5:(k:Int)+2+n<xs.length:=by omega
   go_wp2_with fail;refine(aM 105 k w0).mono ?_;rintro e wz ⟨u,rfl,hu,a0⟩;obtain⟨fh,fl,fA,fq,fr,rfl,Hh,H1,H2⟩:=bm hu a0 a1.out Hb.out (Za _);clear hu a0;go_wp2_with (refine bM Hh.out ?_);exact Zg (aP Tryz.results237 _ _ _ _ _ _ _ _ (0,0) (by simp) (setRow_heap _ _ _ _ _ _ Hh.out)) rfl ⟨0,0,105,_,rfl,H2.out,H1.out,fun h=>by cases h⟩
  ·have b5:¬ (k:Int)+2+n<xs.length:=by omega
   go_wp2_with fail;refine(aM 103 xs.length w0).mono ?_;rintro e wz ⟨u,rfl,hu,a0⟩;obtain⟨fh,fl,fA,fq,fr,rfl,Hh,H1,H2⟩:=bm hu a0 a1.out Hb.out (Za _);clear hu a0;go_wp2_with (refine bM Hh.out ?_);exact Zg (aP Tryz.results237 _ _ _ _ _ _ _ _ (0,0) (by simp) (setRow_heap _ _ _ _ _ _ Hh.out)) rfl ⟨0,0,103,_,rfl,H2.out,H1.out,fun h=>by cases h⟩
 obtain rfl:n=4:=by omega
 obtain⟨X,hX,c6,c8⟩:∃X:Int,(x:Int)=X/\0<=X/\X<65536:=⟨x,rfl,by omega,by omega⟩;rw[hX];clear hx h4 hX
 by_cases r1:56320<=X
 ·by_cases r2:X<=57343
  ·skip
   go_wp2_with fail;refine(aM 106 k w0).mono ?_;rintro e wz ⟨u,rfl,hu,a0⟩;obtain⟨fh,fl,fA,fq,fr,rfl,Hh,H1,H2⟩:=bm hu a0 a1.out Hb.out (Za _);clear hu a0;go_wp2_with (refine bM Hh.out ?_);exact Zg (aP Tryz.results237 _ _ _ _ _ _ _ _ (0,0) (by simp) (setRow_heap _ _ _ _ _ _ Hh.out)) rfl ⟨0,0,106,_,rfl,H2.out,H1.out,fun h=>by cases h⟩
  ·have r3i:¬X<55296:=by omega
   go_wp2_with fail;refine(eG w0).mono ?_;rintro e wz ⟨u,rfl,hu,a0⟩;obtain⟨fh,fl,fA,fq,fr,rfl,Hh,H1,H2⟩:=bm hu a0 a1.out Hb.out (Za _);clear hu a0;go_wp2_with (refine bM Hh.out ?_);exact Zg (aP Tryz.results237 _ _ _ _ _ _ _ _ (0,0) (by simp) (setRow_heap _ _ _ _ _ _ Hh.out)) rfl ⟨X,6,0,_,rfl,H2.out,H1.out,fun _=>⟨sd ⟨by omega,by omega,.inr (by omega)⟩,by omega,by omega,Zb (gC _) (by omega)⟩⟩
 by_cases r3:X<55296
 ·skip
  go_wp2_with fail;refine(eG w0).mono ?_;rintro e wz ⟨u,rfl,hu,a0⟩;obtain⟨fh,fl,fA,fq,fr,rfl,Hh,H1,H2⟩:=bm hu a0 a1.out Hb.out (Za _);clear hu a0;go_wp2_with (refine bM Hh.out ?_);exact Zg (aP Tryz.results237 _ _ _ _ _ _ _ _ (0,0) (by simp) (setRow_heap _ _ _ _ _ _ Hh.out)) rfl ⟨X,6,0,_,rfl,H2.out,H1.out,fun _=>⟨sd ⟨by omega,by omega,.inl (by omega)⟩,by omega,by omega,Zb (gC _) (by omega)⟩⟩
 have r4i:¬57343<X:=by omega
 go_wp2_with fail;refine(Er (b9.out.below Hb.out) hl (k+6) (by omega) (by omega) k).mono ?_;rintro e w1 ⟨y,c,u,rfl,⟨fh,fl,fs,rfl,b7⟩,a7,hy⟩;obtain⟨fA,fq,fr,rfl,-⟩:=b7.slice;rw[show dJ c fh fl (.slice fA fq fr) =.agg #[.int .i64 c,.int .i64 fh,.int .i64 fl,.slice fA fq fr] from rfl];have b4:=ac w1 (.cells #[.int .i64 c,.int .i64 fh,.int .i64 fl,.slice fA fq fr] 70);have b2:=ar w1 [.int .i64 c,.int .i64 fh,.int .i64 fl,.slice fA fq fr] 70;have d0:=b2 0 _ rfl;have d1:=b2 1 _ rfl;have d2:=b2 2 _ rfl;have d3:=b2 3 _ rfl;have Hu:=Qa (show dQ (w1.alloc (.cells #[.int .i64 c,.int .i64 fh,.int .i64 fl,.slice fA fq fr] 70)) c (dJ c fh fl (.slice fA fq fr)) from⟨fh,fl,_,rfl,b7.below b4⟩);have b0:=Qa (Hb.out.trans ((a7.trans (b4.mono a7.size)).mono Hb.out.size));have a2:=Qa ((b4.block _ (Nat.lt_of_lt_of_le (ae a1.out) a7.size)).trans ((a7.block _ (ae a1.out)).trans a1.out));have Hy:=Qa hy;have b8:w.heap.size<w1.heap.size:=Nat.lt_of_lt_of_le (ae a1.out) a7.size;clear hy b2 b4 a7 b7
 by_cases hc:c=0
 ·obtain⟨y1,y2,y3⟩:=Hy.out hc;subst hc;go_wp2_with fail;generalize (w1.alloc (.cells #[.int .i64 0,.int .i64 fh,.int .i64 fl,.slice fA fq fr] 70))=w2 at *;refine(eG w2).mono ?_;rintro e wz ⟨u,rfl,hu,a0⟩;have Hh:=Qa ((a0.block _ (ae a2.out)).trans a2.out);obtain⟨fh,fl,fA,fq,fr,rfl,h1,h2⟩:=bO hu Hh.out;have H1:=Qa ((b0.out.trans (a0.mono b0.out.size)).grown h1 (Zb b0.out.size a0.size) (fun g e=>by cases e;exact Za _));have H2:=Qa h2;have Hg:=Qa h1;have d4:=Qa a0;clear h1 h2 hu a0;go_wp2_with (refine bM Hh.out ?_);exact Zg (aP Tryz.results237 _ _ _ _ _ _ _ _ (0,0) (by simp) (setRow_heap _ _ _ _ _ _ Hh.out)) rfl ⟨65536+ (X - 55296)*1024+ (y - 56320),12,0,_,rfl,H2.out,H1.out,fun _=>⟨sd ⟨by omega,by omega,.inr (by omega)⟩,by omega,by omega,Zb (gC _) (by omega)⟩⟩
 ·have d6:(c !=0)=true:=by simpa using hc
  have Hc:=Qa hc;clear hc;go_wp2_with fail;generalize (w1.alloc (.cells #[.int .i64 c,.int .i64 fh,.int .i64 fl,.slice fA fq fr] 70))=w2 at *;obtain⟨gh,gl',gA,gq,gr,a9,h1,h2⟩:=bO (w:=w2.drew) Hu.out a2.out;injection a9 with a9
  obtain⟨rfl,rfl,a9⟩:fh=gh/\fl=gl'/\Value.slice fA fq fr=Value.slice gA gq gr:=by simpa using a9
  obtain⟨rfl,rfl,rfl⟩:fA=gA/\fq=gq/\fr=gr:=by simpa using a9
  have H1:=Qa ((b0.out.drew).grown h1 b0.out.size (fun g e=>by cases e;exact Za _));have H2:=Qa h2;have hne:some (w1.heap.size)≠some (w.heap.size):=fun e=>by injection e with e;exact(Nat.ne_of_gt b8) e
  have a3:w2.drew.cell? ⟨w1.heap.size,0,none⟩=some (.int .i64 c)/\w2.drew.cell? ⟨w1.heap.size,1,none⟩=some (.int .i64 fh)/\w2.drew.cell? ⟨w1.heap.size,2,none⟩=some (.int .i64 fl)/\w2.drew.cell? ⟨w1.heap.size,3,none⟩=some (.slice fA fq fr):=⟨d0,d1,d2,d3⟩;have a5:(w2.drew.setRow (w.heap.size) #[.int .i64 c,.int .i64 fh,.int .i64 fl,.slice fA fq fr]).cell? ⟨w1.heap.size,0,none⟩=some (.int .i64 c)/\(w2.drew.setRow (w.heap.size) #[.int .i64 c,.int .i64 fh,.int .i64 fl,.slice fA fq fr]).cell? ⟨w1.heap.size,1,none⟩=some (.int .i64 fh)/\(w2.drew.setRow (w.heap.size) #[.int .i64 c,.int .i64 fh,.int .i64 fl,.slice fA fq fr]).cell? ⟨w1.heap.size,2,none⟩=some (.int .i64 fl)/\(w2.drew.setRow (w.heap.size) #[.int .i64 c,.int .i64 fh,.int .i64 fl,.slice fA fq fr]).cell? ⟨w1.heap.size,3,none⟩=some (.slice fA fq fr):=⟨(ai _ _ _).cell d0 hne,(ai _ _ _).cell d1 hne,(ai _ _ _).cell d2 hne,(ai _ _ _).cell d3 hne⟩;have a6:=Qa a3;have b1:=Qa a5;clear h1 h2 a9 a3 a5 hne d0 d1 d2 d3;refine aR (fun w'=>w'.cell? ⟨w1.heap.size,0,none⟩=some (.int .i64 c)/\w'.cell? ⟨w1.heap.size,1,none⟩=some (.int .i64 fh)/\w'.cell? ⟨w1.heap.size,2,none⟩=some (.int .i64 fl)/\w'.cell? ⟨w1.heap.size,3,none⟩=some (.slice fA fq fr)) (a6.out) fun b3=>?_
  refine tH 0 b3 ?_;refine tH 1 b3 ?_;refine tH 2 b3 ?_
  try simp only[Act.put,jP,jQ,jR]
  refine rH 3 fun K hK=>?_
  refine bT a2.out ?_;refine hK.out _ _ (b1.out) (fun b3=>?_);clear hK K
  try simp only[Act.put,jP,jQ,jR]
  refine wpAnyH_done (by kernel_rfl) (NoPanic.normal ?_) _;go_wp2_with fail;exact Zg (aP Tryz.results237 _ _ _ _ _ _ _ _ (0,0) (by simp) (setRow_heap _ _ _ _ _ _ a2.out)) rfl ⟨0,0,c,_,rfl,H2.out,H1.out,fun h=>absurd h Hc.out⟩
