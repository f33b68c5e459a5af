import Derived.Test.YtibmppoeeppnoaaGreatDoorGZ4bm
set_option linter.unusedVariables false
set_option linter.unusedSimpArgs false
set_option maxHeartbeats 64000000
set_option maxRecDepth 100000
namespace Go.Proofs.YtibmppoeeppnoaaGreatDoor
open Go.RowKit Go.Shelf
variable {aE aU:Addr}{d:Dc}{j:JV}{ns ns':List ByteArray}{ks ks':List JV}{xs ys zs:List UInt8}{us us':List Value}{c g1 g2 k n:Nat}{P Q:Nat->Prop}{A:Option Addr}{u v:Value}{W w w' w1 w2:World}
abbrev IH (d:Dc):Obj:=.cells #[.bool d.neg,.string d.digits,.int .i64 d.exp] 125 (0,0)
def uG (w:World)(g1 g2:Nat)(a b:Dc)(w':World):Prop:=w'.heap[g1]?=some (IH a)/\w'.heap[g2]?=some (IH b)/\Below w.heap.size w w'
theorem uG.below {a b:Dc}(h:uG w g1 g2 a b w1)(hb:Below w1.heap.size w1 w2):uG w g1 g2 a b w2:=⟨ai h.1 hb,ai h.2.1 hb,h.2.2.trans (hb.mono h.2.2.size)⟩
theorem uG.c1 {a b:Dc}(h:uG w g1 g2 a b w'):w'.cell? ⟨g1,0,none⟩=some (.bool a.neg)/\w'.cell? ⟨g1,1,none⟩=some (.string a.digits)/\w'.cell? ⟨g1,2,none⟩=some (.int .i64 a.exp):=⟨aa h.1 (j:=0) rfl,aa h.1 (j:=1) rfl,aa h.1 (j:=2) rfl⟩
theorem uG.c2 {a b:Dc}(h:uG w g1 g2 a b w'):w'.cell? ⟨g2,0,none⟩=some (.bool b.neg)/\w'.cell? ⟨g2,1,none⟩=some (.string b.digits)/\w'.cell? ⟨g2,2,none⟩=some (.int .i64 b.exp):=⟨aa h.2.1 (j:=0) rfl,aa h.2.1 (j:=1) rfl,aa h.2.1 (j:=2) rfl⟩
theorem wU (w:World)(a b:Dc):uG w w.heap.size (w.heap.size+1) a b ((w.alloc (.cells #[.bool a.neg,.string a.digits,.int .i64 a.exp] 125)).alloc (.cells #[.bool b.neg,.string b.digits,.int .i64 b.exp] 125)):=by
 refine⟨ai (Ze w _) (ac _ _),?_,((Zd _ _).alloc (Za _) _).alloc (by simp) _⟩;have:=Ze (w.alloc (.cells #[.bool a.neg,.string a.digits,.int .i64 a.exp] 125)) (.cells #[.bool b.neg,.string b.digits,.int .i64 b.exp] 125);have e:(w.alloc (.cells #[.bool a.neg,.string a.digits,.int .i64 a.exp] 125)).heap.size=w.heap.size+1:=by show(w.heap.push _).size=_;rw[Array.size_push]
 rwa[e] at this
theorem vC {a b:Dc}(ha:BJ a)(hb:BJ b):Calls Tryz.prog 76 #[.agg #[.bool a.neg,.string a.digits,.int .i64 a.exp],.agg #[.bool b.neg,.string b.digits,.int .i64 b.exp]] w fun e w'=>e =.returned (.int .i64 (aw (fM a) (fM b)))/\Below w.heap.size w w':=by
 have Hc:=Qa (AZ a b);have Ha:=Qa ha;have Hb:=Qa hb;have HT:=Qa (wU w a b);clear ha hb;go_enter Tryz.func76,Tryz.ntmps76;go_wp2_with fail;obtain⟨w0,b0⟩:∃w0:World,w0= ((w.alloc (.cells #[.bool a.neg,.string a.digits,.int .i64 a.exp] 125)).alloc (.cells #[.bool b.neg,.string b.digits,.int .i64 b.exp] 125)):=⟨_,rfl⟩;rw[<-b0] at HT ⊢;clear b0;have hs:=HT.out.c1;have ht:=HT.out.c2;have a9:=HT.out.2.2;clear HT;generalize w.heap.size+1=g2 at *;obtain⟨g1,a4⟩:∃g1,g1=w.heap.size:=⟨_,rfl⟩;rw[<-a4] at hs ⊢;have a5:=Qa a9;have b4:=Qa a4;clear a9 a4;refine aO (fun w'=>(w'.cell? ⟨g1,0,none⟩=some (.bool a.neg)/\w'.cell? ⟨g1,1,none⟩=some (.string a.digits)/\w'.cell? ⟨g1,2,none⟩=some (.int .i64 a.exp))/\(w'.cell? ⟨g2,0,none⟩=some (.bool b.neg)/\w'.cell? ⟨g2,1,none⟩=some (.string b.digits)/\w'.cell? ⟨g2,2,none⟩=some (.int .i64 b.exp))) (⟨hs,ht⟩) fun a0=>?_
 refine tH 0 a0 ?_;refine tH 2 a0 ?_
 try simp only[Act.put,jP,jQ,jR]
 refine rH 1 fun K hK=>?_
 go_simp;(with_reducible refine lK.mono ?_);rintro e w1 ⟨rfl,a2⟩;refine hK.out _ _ (⟨⟨Zf a2 a0.1.1,Zf a2 a0.1.2.1,Zf a2 a0.1.2.2⟩,⟨Zf a2 a0.2.1,Zf a2 a0.2.2.1,Zf a2 a0.2.2.2⟩⟩) (fun a0=>?_);clear hK K
 try simp only[Act.put,jP,jQ,jR]
 refine rH 3 fun K hK=>?_
 go_simp;(with_reducible refine lK.mono ?_);rintro e w2 ⟨rfl,a1⟩;refine hK.out _ _ (⟨⟨Zf a1 a0.1.1,Zf a1 a0.1.2.1,Zf a1 a0.1.2.2⟩,⟨Zf a1 a0.2.1,Zf a1 a0.2.2.1,Zf a1 a0.2.2.2⟩⟩) (fun a0=>?_);clear hK K
 try simp only[Act.put,jP,jQ,jR]
 refine tH 4 a0 ?_;refine tH 5 a0 ?_
 try simp only[Act.put,jP,jQ,jR]
 refine wpAnyH_done (by kernel_rfl) (NoPanic.normal ?_) _;obtain⟨⟨s0,s1,s2⟩,t0,t1,t2⟩:=a0;have a7:Below w.heap.size w w2:=by
  have h1:Below w.heap.size w w1:=a5.out.drew.trans (a2.mono (show w.heap.size<=w0.drew.heap.size from a5.out.size));exact h1.trans (a1.mono h1.size)
 clear hs ht a2 a1 a5 b4;have Hw:=Qa a7;have a3:=ji a;have a6:=ji b;have b1:=Qa (wj (w:=w2) Ha.out Hb.out);have Hd:Hid (mx a b=0\/mx a b=1\/mx a b = -1):=Qa (by unfold mx sg uq;(repeat' split) <;> simp);generalize hz:mx a b=z at *;generalize hsa:ke a=sa at *;generalize hsb:ke b=sb at *;clear hz hsa hsb a7 Ha Hb
 by_cases hq:sa=sb/\sa≠0
 ·obtain⟨rfl,h0⟩:=hq;have Hv:=Qa (show aw (fM a) (fM b)=sa*z from Hc.out.trans (if_pos ⟨rfl,h0⟩));have hin: -1<=sa*z/\sa*z<=1:=by
   rcases a3 with h|h|h <;> rcases Hd.out with k|k|k <;> rw[h,k] <;> omega
  have hw:IntKind.i64.wrap (sa*z)=sa*z:=IntWalk.i64_in _ (by omega);have b5:=Qa hin;clear hin Hc Hd a3 a6;have b7:(sa==0)=false:=by simpa using h0
  clear h0;go_wp2_with fail;(with_reducible refine b1.out.mono ?_);rintro e w3 ⟨rfl,b2⟩;have b3:=Qa (Hw.out.trans (b2.mono Hw.out.size));go_wp2_with fail;go_ret;rw[Hv.out];exact⟨rfl,b3.out⟩
 ·have Hv:=Qa (show aw (fM a) (fM b)=sg sa sb from Hc.out.trans (if_neg hq));clear Hc Hd b1
  by_cases he:sa=sb
  ·subst he;obtain rfl:sa=0:=by
    rcases a3 with h|h|h
    ·exact h
    all_goals exact absurd ⟨rfl,by rw[h];decide⟩ hq
   clear hq a3 a6;go_wp2_with fail;(with_reducible refine aY.mono ?_);rintro e w3 ⟨rfl,rfl⟩;go_wp2_with fail;go_ret;rw[Hv.out];exact⟨rfl,Hw.out⟩
  ·have b6:(sa==sb)=false:=by simpa using he
   clear hq a3 a6 he;go_wp2_with fail;(with_reducible refine aY.mono ?_);rintro e w3 ⟨rfl,rfl⟩;go_wp2_with fail;go_ret;rw[Hv.out];exact⟨rfl,Hw.out⟩
theorem tJ {a b:Dc}(ha:BJ a)(hb:BJ b):Calls Tryz.prog 55 #[.agg #[.bool a.neg,.string a.digits,.int .i64 a.exp],.agg #[.bool b.neg,.string b.digits,.int .i64 b.exp]] w fun e w'=>e =.returned (.int .i64 (aw (fM a) (fM b)))/\Below w.heap.size w w':=by
 have Hw:=Qa (show Below w.heap.size w ((w.alloc (.cells #[.bool a.neg,.string a.digits,.int .i64 a.exp] 128)).alloc (.cells #[.bool b.neg,.string b.digits,.int .i64 b.exp] 128)) from((Zd _ _).alloc (Za _) _).alloc (by simp) _);go_enter Tryz.func55,Tryz.ntmps55;go_wp2_with fail;(with_reducible refine(vC ha hb).mono ?_);rintro e w' ⟨rfl,a0⟩;have a1:=Qa (Hw.out.trans (a0.mono Hw.out.size));go_wp2_with fail;go_ret;exact⟨rfl,a1.out⟩
def wD (xs:List UInt8):Int:=if(bC xs).2.2=0 then((bC xs).1:Int) else fJ (xs.headD 0)
def oY (xs:List UInt8):Nat:=if(bC xs).2.2=0 then(bC xs).2.1 else 1
theorem jk (h:xs≠ []):bM fJ xs=wD xs::bM fJ (xs.drop (oY xs)):=by
 unfold wD oY
 by_cases h0:(bC xs).2.2=0
 ·rw[if_pos h0,if_pos h0,fy h h0]
 ·rw[if_neg h0,if_neg h0]
  cases xs with
  |nil=>exact absurd rfl h
  |cons x t=>rw[je h0];rfl
theorem G8 (h:(bC xs).2.2=0):(bC xs).1<2097152:=by
 have:=(jd h).2;unfold dF at this;simp at this;omega
theorem yx (h:xs≠ []):1<=oY xs/\oY xs<=xs.length:=by
 unfold oY
 by_cases h0:(bC xs).2.2=0
 ·rw[if_pos h0];exact⟨eB h0,nt xs⟩
 ·rw[if_neg h0]
  cases xs with
  |nil=>exact absurd rfl h
  |cons x t=>simp
theorem jG (hb:Bs w v xs)(h0:xs≠ [])(hG:co w aU aE):Calls Tryz.prog 77 #[v] w fun e w'=>e =.returned (.tuple #[.int .i64 (wD xs),.int .i64 (oY xs)])/\Below w.heap.size w w':=by
 obtain⟨x,t,rfl⟩:∃x t,xs=x::t:=by cases xs with|nil=>exact absurd rfl h0|cons x t=>exact⟨x,t,rfl⟩
 obtain⟨hm,A,c,rfl,hc,a0⟩:=id hb;obtain⟨b,o,rfl,a2⟩:=a0 (by simp);have c0:=a2 0 (by simp);rw[show am (x::t) 0=x.toNat from rfl,Nat.add_zero] at c0;have Hd:=Qa (gV hb hG);have a6:=(oo (x::t)).2;have hC:=Qa (show wD (x::t)=if(bC (x::t)).2.2=0 then((bC (x::t)).1:Int) else fJ x from rfl);have hN:=Qa (show oY (x::t)=if(bC (x::t)).2.2=0 then(bC (x::t)).2.1 else 1 from rfl);have hx:=x.toNat_lt;have a4:=(oo (x::t)).1;have hn:(x::t).length= (x::t).length:=rfl;generalize hr:bC (x::t)=r at *;obtain⟨r1,r2,r3⟩:=r
 dsimp only at *
 generalize wD (x::t)=lc at *;generalize oY (x::t)=ln at *;have a1:=Qa hr;clear hr hb hG a0 a2 h0 hm;generalize hl:(x::t).length=n at *;have a5:0<n:=by rw[<-hl];simp
 have Hl:=Qa hl;clear hl hn;have w1:IntKind.i64.wrap (1114112+ (x.toNat:Int))=1114112+ (x.toNat:Int):=IntWalk.i64_in _ (by omega);rcases(by omega:r3=0\/r3=1\/r3=2) with rfl|rfl|rfl
 ·have hD:=Qa (show qD (cj aU) (cj aE) (r1,r2,0) =.tuple #[.int .i32 r1,.int .i64 r2,.nilIface] from rfl);have HC:=Qa (show lc= (r1:Int) from hC.out);have HN:=Qa (show ln=r2 from hN.out);have a3:wrap64 (r1:Int)= (r1:Int):=by
   have h:=G8 (xs:=x::t) (by rw[a1.out]);rw[a1.out] at h
   dsimp only at h
   exact IntWalk.wrap64_in _ ⟨by omega,by omega⟩
  clear hC hN;go_enter Tryz.func77,Tryz.ntmps77;go_wp2_with fail;(with_reducible refine Hd.out.mono ?_);rintro e w' ⟨rfl,m,rfl⟩;rw[hD.out];go_wp2_with fail;go_ret2;rw[HC.out,HN.out];refine⟨?_,av (Zd _ _) m⟩
  show Ending.returned (.tuple #[.int .i64 (wrap64 (r1:Int)),.int .i64 r2])=_
  rw[a3]
 ·have hD:=Qa (show qD (cj aU) (cj aE) (r1,r2,1) =.tuple #[.int .i32 r1,.int .i64 r2,cj aE] from rfl);have HC:=Qa (show lc=fJ x from hC.out);have HN:=Qa (show ln=1 from hN.out);clear hC hN;go_enter Tryz.func77,Tryz.ntmps77;go_wp2_with fail;(with_reducible refine Hd.out.mono ?_);rintro e w' ⟨rfl,m,rfl⟩;rw[hD.out];go_wp2_with fail;go_ret2;rw[HC.out,HN.out];exact⟨rfl,av (Zd _ _) m⟩
 ·have hD:=Qa (show qD (cj aU) (cj aE) (r1,r2,2) =.tuple #[.int .i32 r1,.int .i64 r2,cj aU] from rfl);have HC:=Qa (show lc=fJ x from hC.out);have HN:=Qa (show ln=1 from hN.out);clear hC hN;go_enter Tryz.func77,Tryz.ntmps77;go_wp2_with fail;(with_reducible refine Hd.out.mono ?_);rintro e w' ⟨rfl,m,rfl⟩;rw[hD.out];go_wp2_with fail;go_ret2;rw[HC.out,HN.out];exact⟨rfl,av (Zd _ _) m⟩
theorem yu (h:Bs W (.slice A n c) xs)(hk:k<=xs.length)(e:c=k):Bs W (.slice A (xs.length - k) 0) (xs.drop k):=by
 obtain⟨hm,A',c',e',hc,-⟩:=h;injection e' with e1 e2 e3
 subst e1 e3;have h0:(xs.drop k).length=0:=by rw[List.length_drop];omega
 exact⟨by omega,A,0,by rw[List.length_drop],by omega,fun h=>by omega⟩
def Fl (W:World)(k:Int)(s5 s6:Value)(wr:World):Prop:= ∃ (ys zs:List UInt8) (A B:Option Addr) (c d:Nat),s5 =.slice A ys.length c/\s6 =.slice B zs.length d/\Bs W (.slice A ys.length c) ys/\Bs W (.slice B zs.length d) zs/\k=aw (bM fJ ys) (bM fJ zs)/\Below W.heap.size W wr
theorem xY (h:ys = []\/zs = []):aw (bM fJ ys) (bM fJ zs)=sg ys.length zs.length:=by
 cases ys with
 |nil=>
  cases zs with
  |nil=>rfl
  |cons z t=>rw[jk (xs:=z::t) (by simp),ll];simp[aw,sg]
 |cons y s=>
  obtain rfl:zs = []:=by simpa using h
  rw[jk (xs:=y::s) (by simp),ll];simp only[aw,sg,List.length_cons,List.length_nil];rw[if_neg (by omega),if_pos (by omega)]
theorem iM {a b:ByteArray}(ha:a.size<=9223372036854775807)(hb:b.size<=9223372036854775807)(hG:co w aU aE):Calls Tryz.prog 56 #[.string a,.string b] w fun e w'=>e =.returned (.int .i64 (aw (nm a) (nm b)))/\Below w.heap.size w w':=by
 obtain⟨W1,cap1,a2,b3,a3⟩:=gZ w a ha;obtain⟨W2,cap2,a1,b5,a4⟩:=gZ W1 b hb;have c4:a.data.toList.length=a.size:=by simp
 have c3:b.data.toList.length=b.size:=by simp
 rw[<-c4] at a2 a3;rw[<-c3] at a1 a4;unfold nm;generalize a.data.toList=xs at *;generalize b.data.toList=ys at *;have b4:=Qa (b3.trans (b5.mono b3.size));have c2:=Qa ((hG.below b3).below b5);have Hbs1:=Qa (a3.below b5);have Hbs2:=Qa a4;clear b3 b5 hG a3 a4 ha hb c4 c3;go_enter Tryz.func56,Tryz.ntmps56;go_wp2_with fail
 go_loopw [5,6,7,8,9,10,23,28] (fun s5 s6 _ _ _ _ _ _ wr=>Fl W2 (aw (bM fJ xs) (bM fJ ys)) s5 s6 wr) (fun v _ _ _ _ _ _ _ _=>match v with | .slice _ n _=>n|_=>0)
 case atStart=>exact⟨xs,ys,_,_,_,_,rfl,rfl,Hbs1.out,Hbs2.out,rfl,Zd _ _⟩
 case round=>
  obtain⟨ps,qs,A,B,c,d,rfl,rfl,hp,hq,he,a9⟩:=hrel;have Hp:=Qa hp;have Hq:=Qa hq;have He:=Qa he;have a0:=Qa a9;obtain⟨-,_,_,e1,hc,b9⟩:=id hp;injection e1 with e1 e2 e3
  subst e1 e3;obtain⟨-,_,_,e1,hd,b8⟩:=id hq;injection e1 with e1 e2 e3
  subst e1 e3;clear hp hq he a9 e2
  by_cases h0:ps = []\/qs = []
  ·have Hz:=Qa (show aw (bM fJ xs) (bM fJ ys)=sg ps.length qs.length from He.out.trans (xY h0));have Hw:=Qa (b4.out.trans (a0.out.mono b4.out.size));clear He b9 b8
   by_cases h1:ps = []
   ·subst h1;clear h0;go_wp2_with fail;(with_reducible refine aY.mono ?_);rintro e w3 ⟨rfl,rfl⟩;go_wp2_with fail;go_ret;rw[Hz.out];exact⟨rfl,Hw.out⟩
   ·obtain rfl:qs = []:=h0.resolve_left h1;have c9:(0:Int)<ps.length:=by cases ps with|nil=>exact absurd rfl h1|cons _ _=>simp
    clear h0 h1;go_wp2_with fail;(with_reducible refine aY.mono ?_);rintro e w3 ⟨rfl,rfl⟩;go_wp2_with fail;go_ret;rw[Hz.out];exact⟨rfl,Hw.out⟩
  ·have a7:ps≠ []:=fun e=>h0 (.inl e)
   have b0:qs≠ []:=fun e=>h0 (.inr e)
   have lp:0<ps.length:=by cases ps with|nil=>exact absurd rfl a7|cons _ _=>simp
   have lq:0<qs.length:=by cases qs with|nil=>exact absurd rfl b0|cons _ _=>simp
   have lpi:(0:Int)<ps.length:=by omega
   have lqi:(0:Int)<qs.length:=by omega
   obtain⟨bp,op,rfl,-⟩:=b9 lp;obtain⟨bq,oq,rfl,-⟩:=b8 lq;have np:=yx a7;have nq:=yx b0;have c7:=Qa (Hp.out.cut np.2);have c6:=Qa (Hq.out.cut nq.2);have c5:=Qa (jG (Hp.out.below a0.out) a7 (c2.out.below a0.out));have c0:=Qa (fun w5 (h:Below wr.heap.size wr w5)=>jG ((Hq.out.below a0.out).below h) b0 ((c2.out.below a0.out).below h));have a6:=He.out;rw[jk a7,jk b0,bi] at a6;clear h0 a7 b0 b9 b8 He;generalize wD ps=cp at *;generalize wD qs=cq at *;generalize oY ps=mp at *;generalize oY qs=mq at *;obtain⟨np1,np2⟩:=np;obtain⟨nq1,nq2⟩:=nq
   by_cases hcc:cp=cq
   ·subst hcc;rw[if_neg (Int.lt_irrefl _),if_neg (Int.lt_irrefl _)] at a6;have He:=Qa a6;clear a6;go_wp2_with fail;(with_reducible refine c5.out.mono ?_);rintro e w3 ⟨rfl,a5⟩;have b1:=Qa a5;have b6:=Qa (c0.out w3 a5);clear a5;go_wp2_with fail;(with_reducible refine b6.out.mono ?_);rintro e w4 ⟨rfl,b2⟩;have b7:=Qa (a0.out.trans ((b1.out.trans (b2.mono b1.out.size)).mono a0.out.size));clear b2;go_wp2_with fail
    by_cases e1:c=mp <;> by_cases e2:d=mq
    all_goals
     go_quiet (fail);go_wp2_with fail;refine⟨⟨ps.drop mp,qs.drop mq,_,_,_,_,by rw[List.length_drop],by rw[List.length_drop],by rw[List.length_drop];first|exact yu Hp.out np2 e1|exact c7.out,by rw[List.length_drop];first|exact yu Hq.out nq2 e2|exact c6.out,He.out,av b7.out _⟩,?_⟩
     show ps.length - mp<ps.length
     omega
   ·have c8:(cp==cq)=false:=by simpa using hcc
    have c1:aw (bM fJ xs) (bM fJ ys)=sg cp cq:=by
     rw[a6];unfold sg
     by_cases h1:cp<cq
     ·rw[if_pos h1,if_pos h1]
     ·rw[if_neg h1,if_pos (by omega),if_neg h1,if_pos (by omega)]
    have He:=Qa c1;clear a6 c1 hcc;go_wp2_with fail;(with_reducible refine c5.out.mono ?_);rintro e w3 ⟨rfl,a5⟩;have b1:=Qa a5;have b6:=Qa (c0.out w3 a5);clear a5;go_wp2_with fail;(with_reducible refine b6.out.mono ?_);rintro e w4 ⟨rfl,b2⟩;have b7:=Qa (b4.out.trans ((a0.out.trans ((b1.out.trans (b2.mono b1.out.size)).mono a0.out.size)).mono b4.out.size));clear b2;go_wp2_with fail;(with_reducible refine aY.mono ?_);rintro e w5 ⟨rfl,rfl⟩;go_wp2_with fail;go_ret;rw[He.out];exact⟨rfl,b7.out⟩
theorem fT:Calls Tryz.prog 54 #[.nilIface] w fun e w'=>e =.returned (.int .i64 0)/\Below w.heap.size w w':=by
 go_enter Tryz.func54,Tryz.ntmps54;go_wp2_with fail;go_ret;exact⟨rfl,Zd _ _⟩
theorem dY (h:VW P w v j):Calls Tryz.prog 54 #[v] w fun e w'=>e =.returned (.int .i64 j.kindOf)/\Below w.heap.size w w':=by
 cases h with
 |null=>
  go_enter Tryz.func54,Tryz.ntmps54;go_wp2_with fail;(with_reducible refine gI.mono ?_);rintro e w1 ⟨rfl,hb⟩;go_wp2_with fail;go_ret;exact⟨rfl,hb⟩
 |bool b=>
  go_enter Tryz.func54,Tryz.ntmps54;go_wp2_with fail;(with_reducible refine gQ.mono ?_);rintro e w1 ⟨rfl,hb⟩;go_wp2_with fail;go_ret;exact⟨rfl,hb⟩
 |num d=>
  go_enter Tryz.func54,Tryz.ntmps54;go_wp2_with fail;(with_reducible refine iZ.mono ?_);rintro e w1 ⟨rfl,hb⟩;go_wp2_with fail;go_ret;exact⟨rfl,hb⟩
 |text s=>
  go_enter Tryz.func54,Tryz.ntmps54;go_wp2_with fail;(with_reducible refine gw.mono ?_);rintro e w1 ⟨rfl,hb⟩;go_wp2_with fail;go_ret;exact⟨rfl,hb⟩
 |hole=>
  go_enter Tryz.func54,Tryz.ntmps54;go_wp2_with fail;(with_reducible refine gv.mono ?_);rintro e w1 ⟨rfl,hb⟩;go_wp2_with fail;go_ret;exact⟨rfl,hb⟩
 |bare=>
  go_enter Tryz.func54,Tryz.ntmps54;go_wp2_with fail;(with_reducible refine em.mono ?_);rintro e w1 ⟨rfl,hb⟩;go_wp2_with fail;go_ret;exact⟨rfl,hb⟩
 |list g A c us ks _ _ _ _ _=>
  go_enter Tryz.func54,Tryz.ntmps54;go_wp2_with fail;(with_reducible refine em.mono ?_);rintro e w1 ⟨rfl,hb⟩;go_wp2_with fail;go_ret;exact⟨rfl,hb⟩
 |obj g A c us ns ks _ _ _ _ _ _=>
  go_enter Tryz.func54,Tryz.ntmps54;go_wp2_with fail;(with_reducible refine gG.mono ?_);rintro e w1 ⟨rfl,hb⟩;go_wp2_with fail;go_ret;exact⟨rfl,hb⟩
def da (P:Nat->Prop)(w:World)(A:Option Addr)(us:List Value)(ks:List JV):Prop:=
 (A=none/\us = []/\ks = [])\/∃g R c,A=some ⟨g,0,none⟩/\w.heap[g]?=some (.cells #[.slice R us.length c] 152 (0,0))/\ce P w 41 1 R us.length c us/\us.length=ks.length
def un (P:Nat->Prop)(w:World)(us:List Value)(ks:List JV):Prop:= ∀ (i:Nat) u k,us[i]?=some u->ks[i]?=some k->VW P w u k
theorem da.len (h:da P w A us ks):us.length=ks.length:=by
 rcases h with ⟨-,rfl,rfl⟩|⟨_,_,_,_,_,_,h⟩
 ·rfl
 ·exact h
theorem da.below (h:da P w A us ks)(hb:Below w.heap.size w w'):da P w' A us ks:=by
 rcases h with h|⟨g,R,c,e,hg,hr,hl⟩
 ·exact .inl h
 ·exact .inr ⟨g,R,c,e,ai hg hb,hr.stay fun g o hp hg _ _=>⟨hp,(hb.block g (ae hg)).trans hg⟩,hl⟩
theorem un.below (h:un P w us ks)(hb:Below w.heap.size w w'):un P w' us ks:=fun i u k h1 h2=>(h i u k h1 h2).later hb
theorem VW.asList {t:Bool}{x:ByteArray}(h:VW P w v (.mk 5 t x d ns ks)):∃A us,v =.iface 52 (.pointer A)/\da P w A us ks/\un P w us ks:=by
 cases h with
 |bare=>exact⟨none, [],rfl,.inl ⟨rfl,rfl,rfl⟩,fun i u k h _=>by simp at h⟩
 |list g A c us ks hp hg hr hl hk=>exact⟨_,us,rfl,.inr ⟨g,A,c,rfl,hg,hr,hl⟩,hk⟩
def eD (P:Nat->Prop)(w:World)(A:Option Addr)(us:List Value)(ns:List ByteArray)(ks:List JV):Prop:=
 ∃g R c,A=some ⟨g,0,none⟩/\w.heap[g]?=some (.cells #[.slice R us.length c] 156 (0,0))/\ce P w 99 2 R us.length c (zS ns us)/\us.length=ks.length/\ns.length=ks.length
theorem eD.below (h:eD P w A us ns ks)(hb:Below w.heap.size w w'):eD P w' A us ns ks:=by
 obtain⟨g,R,c,e,hg,hr,hl⟩:=h;exact⟨g,R,c,e,ai hg hb,hr.stay fun g o hp hg _ _=>⟨hp,(hb.block g (ae hg)).trans hg⟩,hl⟩
theorem VW.asObj {t:Bool}{x:ByteArray}(h:VW P w v (.mk 6 t x d ns ks)):∃A us,v =.iface 124 (.pointer A)/\eD P w A us ns ks/\un P w us ks:=by
 cases h with
 |obj g A c us ns ks hp hg hr hl hn hk=>exact⟨_,us,rfl,⟨g,A,c,rfl,hg,hr,hl,hn⟩,hk⟩
theorem dR (h:da P w A us ks):Calls Tryz.prog 43 #[.pointer A] w fun e w'=>e =.returned (.int .i64 us.length)/\w=w':=by
 rcases h with ⟨rfl,rfl,rfl⟩|⟨g,R,c,rfl,hg,hr,hl⟩
 ·exact ug w
 ·exact lZ hg
theorem et (h:da P w A us ks)(hT:cW w)(i:Nat)(hu:us[i]?=some u):Calls Tryz.prog 44 #[.pointer A,.int .i64 i] w fun e w'=>e =.returned (.tuple #[.string ⟨(Lib.itoa i).toArray⟩,u])/\Below w.heap.size w w':=by
 have hi:=(List.getElem?_eq_some_iff.1 hu).1;rcases h with ⟨rfl,rfl,rfl⟩|⟨g,R,c,rfl,hg,hr,hl⟩
 ·simp at hi
 ·exact p6 hT hg hr i hi hu
theorem eJ (h:eD P w A us ns ks):Calls Tryz.prog 45 #[.pointer A] w fun e w'=>e =.returned (.int .i64 us.length)/\w=w':=by
 obtain⟨g,R,c,rfl,hg,hr,hl⟩:=h;exact nz hg
theorem fj (h:eD P w A us ns ks)(i:Nat){n:ByteArray}(hu:us[i]?=some u)(hn:ns[i]?=some n):Calls Tryz.prog 46 #[.pointer A,.int .i64 i] w fun e w'=>e =.returned (.tuple #[.string n,u])/\Below w.heap.size w w':=by
 have hi:=(List.getElem?_eq_some_iff.1 hu).1;obtain⟨g,R,c,rfl,hg,hr,hl⟩:=h;have hm:=yL ns us i n u hn hu;exact sf hg hr i hi hm.1 hm.2
inductive JB:JV->Prop
 |mk (k:Int) (t:Bool) (x:ByteArray) (d:Dc) (ns:List ByteArray) (ks:List JV):x.size<=9223372036854775807->BJ d->(∀n∈ns,n.size<=9223372036854775807)->(∀u∈ks,JB u)->JB (.mk k t x d ns ks)
def yh (W:World)(o:Bool)(ns ns':List ByteArray)(ks ks':List JV)(s19:Value)(wr:World):Prop:= ∃i:Nat,s19 =.int .i64 i/\i<=ks.length/\i<=ks'.length/\aw (JV.keys o ns ks) (JV.keys o ns' ks')=aw (JV.keys o (ns.drop i) (ks.drop i)) (JV.keys o (ns'.drop i) (ks'.drop i))/\Below W.heap.size W wr
theorem vH {B:Option Addr}(ha:da P w A us ks)(hb:da Q w B us' ks')(hT:cW w)
  (hl:us.length<=maxLen) (c8:us'.length<=maxLen)
  (H:∀ (i:Nat) u u' k k',us[i]?=some u->ks[i]?=some k->us'[i]?=some u'->ks'[i]?=some k'->∀w1,Below w.heap.size w w1->Calls Tryz.prog 32 #[u,u'] w1 fun e w'=>e =.returned (.int .i64 (d8 k k'))/\Below w1.heap.size w1 w') :
  Calls Tryz.prog 57 #[.iface 52 (.pointer A),.iface 52 (.pointer B),.bool false] w fun e w'=>e =.returned (.int .i64 (aw (JV.keys false [] ks) (JV.keys false [] ks')))/\Below w.heap.size w w':=by
 have la:=ha.len;have lb:=hb.len;unfold maxLen at hl c8;have Ha:=Qa ha;have Hb:=Qa hb;have HT:=Qa hT;have HH:=Qa H;clear ha hb hT H;have Hl:=Qa (dR Ha.out);have a5:=Qa (dR Hb.out);have c5:=Qa la;have b9:=Qa lb;generalize hn:us.length=n at *;generalize hn':us'.length=n' at *;have Hn:=Qa hn;have b2:=Qa hn';clear hn hn' la lb;go_enter Tryz.func57,Tryz.ntmps57;go_wp2_with fail;(with_reducible refine Hl.out.mono ?_);rintro e w3 ⟨rfl,rfl⟩;go_wp2_with fail;(with_reducible refine a5.out.mono ?_);rintro e w3 ⟨rfl,rfl⟩;go_wp2_with fail;obtain⟨m,hm,c7⟩:∃m:Nat,(min (n:Int) n')=m/\m=min n n':=⟨min n n',by omega,rfl⟩;rw[hm];have Hm:=Qa c7;have d0:m<=9223372036854775807:=by omega
 clear hm c7 Hl a5
 go_loopw [19] (fun s19 wr=>yh w false [] [] ks ks' s19 wr) (fun s19 _=>m - (intOf s19).toNat)
 case atStart=>exact⟨0,rfl,Zj _,Zj _,rfl,Zd _ _⟩
 case round=>
  obtain⟨i,rfl,b8,c0,he,a0⟩:=hrel;have a1:=Qa a0;have He:=Qa he;have Hi:=Qa (And.intro b8 c0);clear he b8 c0;have c6:=Qa (Ha.out.below a0);have c3:=Qa (Hb.out.below a0);have c4:=Qa (HT.out.below a0);clear a0
  by_cases h:i<m
  ·have c2:i<us.length:=by have:=Hm.out;have:=Hn.out;omega
   have c1:i<us'.length:=by have:=Hm.out;have:=b2.out;omega
   have b0:i<ks.length:=by have:=c5.out;have:=Hn.out;omega
   have a9:i<ks'.length:=by have:=b9.out;have:=b2.out;omega
   obtain⟨u,hu⟩:∃u,us[i]?=some u:=⟨_,Zc c2⟩;obtain⟨u',b4⟩:∃u,us'[i]?=some u:=⟨_,Zc c1⟩;obtain⟨k,hk⟩:∃u,ks[i]?=some u:=⟨_,Zc b0⟩;obtain⟨k',b5⟩:∃u,ks'[i]?=some u:=⟨_,Zc a9⟩;have Hp:=Qa (et c6.out c4.out i hu);have Hq:=Qa (fun w5 (h:Below wr.heap.size wr w5)=>et (c3.out.below h) (c4.out.below h) i b4);have Hc:=Qa (HH.out i u u' k k' hu hk b4 b5);have Hs:=Qa (show aw (JV.keys false [] ks) (JV.keys false [] ks')=if d8 k k'=0 then aw (JV.keys false [] (ks.drop (i+1))) (JV.keys false [] (ks'.drop (i+1))) else d8 k k' by
    rw[He.out,List.drop_eq_getElem_cons b0,List.drop_eq_getElem_cons a9,zi];rw[(List.getElem?_eq_some_iff.1 hk).2,(List.getElem?_eq_some_iff.1 b5).2];simp)
   have Hk:=Qa (And.intro b0 a9);have h':(i:Int)<m:=by omega
   have w1:IntKind.i64.wrap ((i:Int)+1)= (i:Int)+1:=IntWalk.i64_in _ (by omega);clear c2 c1 b0 a9 hu b4 hk b5 He;generalize d8 k k'=cc at *
   by_cases hc0:cc=0
   ·subst hc0;have b6:=Qa (Hs.out.trans (if_pos rfl));clear Hs;go_wp2_with fail;(with_reducible refine Hp.out.mono ?_);rintro e w3 ⟨rfl,a3⟩;have a6:=Qa a3;have b3:=Qa (Hq.out w3 a3);clear a3;go_wp2_with fail;(with_reducible refine b3.out.mono ?_);rintro e w4 ⟨rfl,a7⟩;have a2:=Qa (a1.out.trans ((a6.out.trans (a7.mono a6.out.size)).mono a1.out.size));have b1:=Qa (Hc.out w4 a2.out);clear a7;go_wp2_with fail;(with_reducible refine b1.out.mono ?_);rintro e w5 ⟨rfl,a4⟩;have b7:=Qa (a2.out.trans (a4.mono a2.out.size));clear a4;go_wp2_with fail;refine⟨⟨i+1,rfl,Hk.out.1,Hk.out.2,b6.out,b7.out⟩,?_⟩
    show m - ((i:Int)+1).toNat<m - ((i:Int)).toNat
    omega
   ·have c9:(cc==0)=false:=by simpa using hc0
    have b6:=Qa (Hs.out.trans (if_neg hc0));clear Hs hc0;go_wp2_with fail;(with_reducible refine Hp.out.mono ?_);rintro e w3 ⟨rfl,a3⟩;have a6:=Qa a3;have b3:=Qa (Hq.out w3 a3);clear a3;go_wp2_with fail;(with_reducible refine b3.out.mono ?_);rintro e w4 ⟨rfl,a7⟩;have a2:=Qa (a1.out.trans ((a6.out.trans (a7.mono a6.out.size)).mono a1.out.size));have b1:=Qa (Hc.out w4 a2.out);clear a7;go_wp2_with fail;(with_reducible refine b1.out.mono ?_);rintro e w5 ⟨rfl,a4⟩;have b7:=Qa (a2.out.trans (a4.mono a2.out.size));clear a4;go_wp2_with fail;go_ret;rw[b6.out];exact⟨rfl,b7.out⟩
  ·have h':¬ (i:Int)<m:=by omega
   have Hl:=Qa (dR c6.out);have a5:=Qa (dR c3.out);rw[Hn.out] at Hl;rw[b2.out] at a5;have Hz:=Qa (show aw (JV.keys false [] ks) (JV.keys false [] ks')=sg n n' by
    have h1:=Hm.out;have h2:=c5.out;have h3:=b9.out;have h4:=Hi.out;rw[He.out,t7]
    ·unfold sg;rw[List.length_drop,List.length_drop]
     (repeat' split) <;> first|rfl|omega
    ·rcases(by omega:ks.length<=i\/ks'.length<=i) with h|h
     ·exact .inl (List.drop_eq_nil_of_le h)
     ·exact .inr (List.drop_eq_nil_of_le h))
   clear He;go_wp2_with fail;(with_reducible refine Hl.out.mono ?_);rintro e w3 ⟨rfl,rfl⟩;go_wp2_with fail;(with_reducible refine a5.out.mono ?_);rintro e w3 ⟨rfl,rfl⟩;go_wp2_with fail;(with_reducible refine aY.mono ?_);rintro e w3 ⟨rfl,rfl⟩;go_wp2_with fail;go_ret;rw[Hz.out];exact⟨rfl,a1.out⟩
theorem eD.len (h:eD P w A us ns ks):us.length=ks.length:=by
 obtain⟨_,_,_,_,_,_,h,_⟩:=h;exact h
theorem eD.names (h:eD P w A us ns ks):ns.length=ks.length:=by
 obtain⟨_,_,_,_,_,_,_,h⟩:=h;exact h
theorem yQ {B:Option Addr}(ha:eD P w A us ns ks)(hb:eD Q w B us' ns' ks')(hT:co w aU aE)(hz:∀n∈ns,n.size<=9223372036854775807)(c6:∀n∈ns',n.size<=9223372036854775807)
  (hl:us.length<=maxLen) (d6:us'.length<=maxLen)
  (H:∀ (i:Nat) u u' k k',us[i]?=some u->ks[i]?=some k->us'[i]?=some u'->ks'[i]?=some k'->∀w1,Below w.heap.size w w1->Calls Tryz.prog 32 #[u,u'] w1 fun e w'=>e =.returned (.int .i64 (d8 k k'))/\Below w1.heap.size w1 w') :
  Calls Tryz.prog 57 #[.iface 124 (.pointer A),.iface 124 (.pointer B),.bool true] w fun e w'=>e =.returned (.int .i64 (aw (JV.keys true ns ks) (JV.keys true ns' ks')))/\Below w.heap.size w w':=by
 have la:=ha.len;have lb:=hb.len;have ma:=ha.names;have mb:=hb.names;have Hz:=Qa hz;have d9:=Qa c6;unfold maxLen at hl d6;have Ha:=Qa ha;have Hb:=Qa hb;have HT:=Qa hT;have HH:=Qa H;clear ha hb hT H hz c6;have Hl:=Qa (eJ Ha.out);have b2:=Qa (eJ Hb.out);have d7:=Qa ma;have d5:=Qa mb;have d2:=Qa la;have c7:=Qa lb;generalize hn:us.length=n at *;generalize hn':us'.length=n' at *;have Hn:=Qa hn;have b9:=Qa hn';clear hn hn' la lb ma mb;go_enter Tryz.func57,Tryz.ntmps57;go_wp2_with fail;(with_reducible refine Hl.out.mono ?_);rintro e w3 ⟨rfl,rfl⟩;go_wp2_with fail;(with_reducible refine b2.out.mono ?_);rintro e w3 ⟨rfl,rfl⟩;go_wp2_with fail;obtain⟨m,hm,a9⟩:∃m:Nat,(min (n:Int) n')=m/\m=min n n':=⟨min n n',by omega,rfl⟩;rw[hm];have Hm:=Qa a9;have e2:m<=9223372036854775807:=by omega
 clear hm a9 Hl b2
 go_loopw [19] (fun s19 wr=>yh w true ns ns' ks ks' s19 wr) (fun s19 _=>m - (intOf s19).toNat)
 case atStart=>exact⟨0,rfl,Zj _,Zj _,rfl,Zd _ _⟩
 case round=>
  obtain⟨i,rfl,c5,c8,he,a3⟩:=hrel;have a2:=Qa a3;have He:=Qa he;have Hi:=Qa (And.intro c5 c8);clear he c5 c8;have d3:=Qa (Ha.out.below a3);have d1:=Qa (Hb.out.below a3);have d4:=Qa (HT.out.below a3);clear a3
  by_cases h:i<m
  ·have d0:i<us.length:=by have:=Hm.out;have:=Hn.out;omega
   have c9:i<us'.length:=by have:=Hm.out;have:=b9.out;omega
   have b7:i<ks.length:=by have:=d2.out;have:=Hn.out;omega
   have b5:i<ks'.length:=by have:=c7.out;have:=b9.out;omega
   obtain⟨u,hu⟩:∃u,us[i]?=some u:=⟨_,Zc d0⟩;obtain⟨u',c0⟩:∃u,us'[i]?=some u:=⟨_,Zc c9⟩;obtain⟨k,hk⟩:∃u,ks[i]?=some u:=⟨_,Zc b7⟩;obtain⟨k',c1⟩:∃u,ks'[i]?=some u:=⟨_,Zc b5⟩;have c2:i<ns.length:=by have:=d7.out;omega
   have a9:i<ns'.length:=by have:=d5.out;omega
   obtain⟨s,hs⟩:∃u,ns[i]?=some u:=⟨_,Zc c2⟩;obtain⟨s',b6⟩:∃u,ns'[i]?=some u:=⟨_,Zc a9⟩;have Hp:=Qa (fj d3.out i hu hs);have Hq:=Qa (fun w5 (h:Below wr.heap.size wr w5)=>fj (d1.out.below h) i c0 b6);have c4:=Qa (fun w5 (h:Below wr.heap.size wr w5)=>iM (Hz.out s (Zk hs)) (d9.out s' (Zk b6)) (d4.out.below h));have Hc:=Qa (HH.out i u u' k k' hu hk c0 c1);have Hs:=Qa (show aw (JV.keys true ns ks) (JV.keys true ns' ks')=if aw (nm s) (nm s')=0 then(if d8 k k'=0 then aw (JV.keys true (ns.drop (i+1)) (ks.drop (i+1))) (JV.keys true (ns'.drop (i+1)) (ks'.drop (i+1))) else d8 k k') else aw (nm s) (nm s') by
    rw[He.out,List.drop_eq_getElem_cons b7,List.drop_eq_getElem_cons b5,List.drop_eq_getElem_cons c2,List.drop_eq_getElem_cons a9,AJ];rw[(List.getElem?_eq_some_iff.1 hk).2,(List.getElem?_eq_some_iff.1 c1).2,(List.getElem?_eq_some_iff.1 hs).2,(List.getElem?_eq_some_iff.1 b6).2])
   have Hk:=Qa (And.intro b7 b5);have h':(i:Int)<m:=by omega
   have w1:IntKind.i64.wrap ((i:Int)+1)= (i:Int)+1:=IntWalk.i64_in _ (by omega);clear d0 c9 b7 b5 hu c0 hk c1 hs b6 c2 a9 He;generalize aw (nm s) (nm s')=nc at *;generalize d8 k k'=cc at *
   by_cases hn0:nc=0
   ·subst hn0;rw[if_pos rfl] at Hs
    by_cases hc0:cc=0
    ·subst hc0;have b3:=Qa (Hs.out.trans (if_pos rfl));clear Hs;go_wp2_with fail;(with_reducible refine Hp.out.mono ?_);rintro e w3 ⟨rfl,a4⟩;have a6:=Qa a4;have b1:=Qa (Hq.out w3 a4);clear a4;go_wp2_with fail;(with_reducible refine b1.out.mono ?_);rintro e w4' ⟨rfl,a1⟩;have a0:=Qa (a6.out.trans (a1.mono a6.out.size));have b4:=Qa (c4.out w4' a0.out);clear a1;go_wp2_with fail;(with_reducible refine b4.out.mono ?_);rintro e w4 ⟨rfl,a7⟩;have a5:=Qa (a2.out.trans ((a0.out.trans (a7.mono a0.out.size)).mono a2.out.size));have b8:=Qa (Hc.out w4 a5.out);clear a7;go_wp2_with fail;(with_reducible refine b8.out.mono ?_);rintro e w5 ⟨rfl,b0⟩;have c3:=Qa (a5.out.trans (b0.mono a5.out.size));clear b0;go_wp2_with fail;refine⟨⟨i+1,rfl,Hk.out.1,Hk.out.2,b3.out,c3.out⟩,?_⟩
     show m - ((i:Int)+1).toNat<m - ((i:Int)).toNat
     omega
    ·have e0:(cc==0)=false:=by simpa using hc0
     have b3:=Qa (Hs.out.trans (if_neg hc0));clear Hs hc0;go_wp2_with fail;(with_reducible refine Hp.out.mono ?_);rintro e w3 ⟨rfl,a4⟩;have a6:=Qa a4;have b1:=Qa (Hq.out w3 a4);clear a4;go_wp2_with fail;(with_reducible refine b1.out.mono ?_);rintro e w4' ⟨rfl,a1⟩;have a0:=Qa (a6.out.trans (a1.mono a6.out.size));have b4:=Qa (c4.out w4' a0.out);clear a1;go_wp2_with fail;(with_reducible refine b4.out.mono ?_);rintro e w4 ⟨rfl,a7⟩;have a5:=Qa (a2.out.trans ((a0.out.trans (a7.mono a0.out.size)).mono a2.out.size));have b8:=Qa (Hc.out w4 a5.out);clear a7;go_wp2_with fail;(with_reducible refine b8.out.mono ?_);rintro e w5 ⟨rfl,b0⟩;have c3:=Qa (a5.out.trans (b0.mono a5.out.size));clear b0;go_wp2_with fail;go_ret;rw[b3.out];exact⟨rfl,c3.out⟩
   ·have e1:(nc==0)=false:=by simpa using hn0
    have b3:=Qa (Hs.out.trans (if_neg hn0));clear Hs hn0;go_wp2_with fail;(with_reducible refine Hp.out.mono ?_);rintro e w3 ⟨rfl,a4⟩;have a6:=Qa a4;have b1:=Qa (Hq.out w3 a4);clear a4;go_wp2_with fail;(with_reducible refine b1.out.mono ?_);rintro e w4' ⟨rfl,a1⟩;have a0:=Qa (a6.out.trans (a1.mono a6.out.size));have b4:=Qa (c4.out w4' a0.out);clear a1;go_wp2_with fail;(with_reducible refine b4.out.mono ?_);rintro e w4 ⟨rfl,a7⟩;have a5:=Qa (a2.out.trans ((a0.out.trans (a7.mono a0.out.size)).mono a2.out.size));clear a7;go_wp2_with fail;go_ret;rw[b3.out];exact⟨rfl,a5.out⟩
  ·have h':¬ (i:Int)<m:=by omega
   have Hl:=Qa (eJ d3.out);have b2:=Qa (eJ d1.out);rw[Hn.out] at Hl;rw[b9.out] at b2;have Hz:=Qa (show aw (JV.keys true ns ks) (JV.keys true ns' ks')=sg n n' by
    have h1:=Hm.out;have h2:=d2.out;have h3:=c7.out;have h4:=Hi.out;rw[He.out,t7]
    ·unfold sg;rw[List.length_drop,List.length_drop]
     (repeat' split) <;> first|rfl|omega
    ·rcases(by omega:ks.length<=i\/ks'.length<=i) with h|h
     ·exact .inl (List.drop_eq_nil_of_le h)
     ·exact .inr (List.drop_eq_nil_of_le h))
   clear He;go_wp2_with fail;(with_reducible refine Hl.out.mono ?_);rintro e w3 ⟨rfl,rfl⟩;go_wp2_with fail;(with_reducible refine b2.out.mono ?_);rintro e w3 ⟨rfl,rfl⟩;go_wp2_with fail;(with_reducible refine aY.mono ?_);rintro e w3 ⟨rfl,rfl⟩;go_wp2_with fail;go_ret;rw[Hz.out];exact⟨rfl,a2.out⟩
