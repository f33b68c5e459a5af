import Derived.Test.YtpkdfmjdhmpopaaGreatDoorGZ3bo
set_option linter.unusedVariables false
set_option linter.unusedSimpArgs false
set_option maxHeartbeats 64000000
set_option maxRecDepth 100000
namespace Go.Proofs.YtpkdfmjdhmpopaaGreatDoor
open Go.RowKit Go.Shelf
variable {aE aU : Addr} {d : Dc} {j : JV} {ns ns' : List ByteArray} {ks ks' : List JV} {xs ys zs : List UInt8} {us us' : List Value} {c k n : Nat} {P Q : Nat -> Prop} {A : Option Addr} {t ty : TypeId} {u v v' x : Value} {W w w' : World}
def wH (xs:List UInt8):Int:=if(bE xs).2.2=0 then((bE xs).1:Int) else fN (xs.headD 0)
def oG (xs:List UInt8):Nat:=if(bE xs).2.2=0 then(bE xs).2.1 else 1
theorem jk (h:xs≠ []):bN fN xs=wH xs::bN fN (xs.drop (oG xs)):=by
 unfold wH oG
 by_cases h0: (bE xs).2.2=0
 ·rw [if_pos h0,if_pos h0,fD h h0]
 ·rw [if_neg h0,if_neg h0]
  cases xs with
  | nil=>exact absurd rfl h
  | cons x t=>rw [jp h0];rfl
theorem GD (h: (bE xs).2.2=0): (bE xs).1<2097152:=by
 have:=(jr h).2;unfold dL at this;simp at this;omega
theorem yc (h:xs≠ []):1<=oG xs/\oG xs<=xs.length:=by
 unfold oG
 by_cases h0: (bE xs).2.2=0
 ·rw [if_pos h0];exact⟨eE h0,nX xs⟩
 ·rw [if_neg h0]
  cases xs with
  | nil=>exact absurd rfl h
  | cons x t=>simp
theorem jM (hb:Bs w v xs)(h0:xs≠ [])(hG:cG w aU aE):Calls Tryz.prog 76 #[v] w fun e w'=>e = .returned (.tuple #[.int .i64 (wH xs), .int .i64 (oG xs)])/\Below w.heap.size w w':=by
 obtain⟨x,t,rfl⟩:∃x t,xs=x::t:=by cases xs with | nil=>exact absurd rfl h0 | cons x t=>exact⟨x,t,rfl⟩
 obtain⟨hm,A,c,rfl,hc,a0⟩:=id hb;obtain⟨b,o,rfl,a1⟩:=a0 (by simp);have c0:=a1 0 (by simp);rw [show am (x::t) 0=x.toNat from rfl,Nat.add_zero] at c0;have Hd:=Qa (iu hb hG);have a5:=(mH (x::t)).2;have hC:=Qa (show wH (x::t)=if(bE (x::t)).2.2=0 then((bE (x::t)).1:Int) else fN x from rfl);have hN:=Qa (show oG (x::t)=if(bE (x::t)).2.2=0 then(bE (x::t)).2.1 else 1 from rfl);have hx:=x.toNat_lt;have a6:=(mH (x::t)).1;have hn: (x::t).length= (x::t).length:=rfl;generalize hr:bE (x::t)=r at *;obtain⟨r1,r2,r3⟩:=r
 dsimp only at *
 generalize wH (x::t)=lc at *;generalize oG (x::t)=ln at *;have a2:=Qa hr;clear hr hb hG a0 a1 h0 hm;generalize hl: (x::t).length=n at *;have a4:0<n:=by rw [<- hl];simp
 have Hl:=Qa hl;clear hl hn;have w1:IntKind.i64.wrap (1114112+ (x.toNat:Int))=1114112+ (x.toNat:Int):=IntWalk.i64_in _ (by omega);rcases(by omega:r3=0\/r3=1\/r3=2) with rfl | rfl | rfl
 ·have hD:=Qa (show pU (ce aU) (ce aE) (r1,r2,0) = .tuple #[.int .i32 r1, .int .i64 r2, .nilIface] from rfl)
  have HC:=Qa (show lc= (r1:Int) from hC.out);have HN:=Qa (show ln=r2 from hN.out);have a3:wrap64 (r1:Int)= (r1:Int):=by
   have h:=GD (xs:=x::t) (by rw [a2.out]);rw [a2.out] at h
   dsimp only at h
   exact IntWalk.wrap64_in _ ⟨by omega,by omega⟩
  clear hC hN;go_enter Tryz.func76,Tryz.ntmps76;go_wp2_with fail;(with_reducible refine Hd.out.mono ?_);rintro e w' ⟨rfl,m,rfl⟩;rw [hD.out];go_wp2_with fail;go_ret2;rw [HC.out,HN.out];refine⟨?_,aD (Zd _ _) m⟩
  show Ending.returned (.tuple #[.int .i64 (wrap64 (r1:Int)), .int .i64 r2])=_
  rw [a3]
 ·have hD:=Qa (show pU (ce aU) (ce aE) (r1,r2,1) = .tuple #[.int .i32 r1, .int .i64 r2,ce aE] from rfl)
  have HC:=Qa (show lc=fN x from hC.out);have HN:=Qa (show ln=1 from hN.out);clear hC hN;go_enter Tryz.func76,Tryz.ntmps76;go_wp2_with fail;(with_reducible refine Hd.out.mono ?_);rintro e w' ⟨rfl,m,rfl⟩;rw [hD.out];go_wp2_with fail;go_ret2;rw [HC.out,HN.out];exact⟨rfl,aD (Zd _ _) m⟩
 ·have hD:=Qa (show pU (ce aU) (ce aE) (r1,r2,2) = .tuple #[.int .i32 r1, .int .i64 r2,ce aU] from rfl)
  have HC:=Qa (show lc=fN x from hC.out);have HN:=Qa (show ln=1 from hN.out);clear hC hN;go_enter Tryz.func76,Tryz.ntmps76;go_wp2_with fail;(with_reducible refine Hd.out.mono ?_);rintro e w' ⟨rfl,m,rfl⟩;rw [hD.out];go_wp2_with fail;go_ret2;rw [HC.out,HN.out];exact⟨rfl,aD (Zd _ _) m⟩
theorem xY (h:Bs W (.slice A n c) xs)(hk:k<=xs.length)(e:c=k):Bs W (.slice A (xs.length - k) 0) (xs.drop k):=by
 obtain⟨hm,A',c',e',hc, -⟩:=h;injection e' with e1 e2 e3
 subst e1 e3;have h0: (xs.drop k).length=0:=by rw [List.length_drop];omega
 exact⟨by omega,A,0,by rw [List.length_drop],by omega,fun h=>by omega⟩
def Fs (W:World)(k:Int)(s5 s6:Value)(wr:World):Prop:= ∃ (ys zs:List UInt8) (A B:Option Addr) (c d:Nat),s5 = .slice A ys.length c/\s6 = .slice B zs.length d/\Bs W (.slice A ys.length c) ys/\Bs W (.slice B zs.length d) zs/\k=aG (bN fN ys) (bN fN zs)/\Below W.heap.size W wr
theorem vr (h:ys = []\/zs = []):aG (bN fN ys) (bN fN zs)=sg ys.length zs.length:=by
 cases ys with
 | nil=>
  cases zs with
  | nil=>rfl
  | cons z t=>rw [jk (xs:=z::t) (by simp),ld];simp [aG,sg]
 | cons y s=>
  obtain rfl:zs = []:=by simpa using h
  rw [jk (xs:=y::s) (by simp),ld];simp only [aG,sg,List.length_cons,List.length_nil];rw [if_neg (by omega),if_pos (by omega)]
theorem iE {a b:ByteArray}(ha:a.size<=9223372036854775807)(hb:b.size<=9223372036854775807)(hG:cG w aU aE):Calls Tryz.prog 55 #[.string a, .string b] w fun e w'=>e = .returned (.int .i64 (aG (nm a) (nm b)))/\Below w.heap.size w w':=by
 obtain⟨W1,cap1,a3,b5,a2⟩:=ia w a ha;obtain⟨W2,cap2,a1,b4,a4⟩:=ia W1 b hb;have c5:a.data.toList.length=a.size:=by simp
 have c2:b.data.toList.length=b.size:=by simp
 rw [<- c5] at a3 a2;rw [<- c2] at a1 a4;unfold nm;generalize a.data.toList=xs at *;generalize b.data.toList=ys at *;have b3:=Qa (b5.trans (b4.mono b5.size));have c0:=Qa ((hG.below b5).below b4);have Hbs1:=Qa (a2.below b4);have Hbs2:=Qa a4;clear b5 b4 hG a2 a4 ha hb c5 c2;go_enter Tryz.func55,Tryz.ntmps55;go_wp2_with fail
 go_loopw [5,6,7,8,9,10,23,28] (fun s5 s6 _ _ _ _ _ _ wr=>Fs W2 (aG (bN fN xs) (bN fN ys)) s5 s6 wr) (fun v _ _ _ _ _ _ _ _=>match v with | .slice _ n _=>n | _=>0)
 case atStart=>exact⟨xs,ys,_,_,_,_,rfl,rfl,Hbs1.out,Hbs2.out,rfl,Zd _ _⟩
 case round=>
  obtain⟨ps,qs,A,B,c,d,rfl,rfl,hp,hq,he,a7⟩:=hrel;have Hp:=Qa hp;have Hq:=Qa hq;have He:=Qa he;have a0:=Qa a7;obtain⟨-,_,_,e1,hc,b8⟩:=id hp;injection e1 with e1 e2 e3
  subst e1 e3;obtain⟨-,_,_,e1,hd,b9⟩:=id hq;injection e1 with e1 e2 e3
  subst e1 e3;clear hp hq he a7 e2
  by_cases h0:ps = []\/qs = []
  ·have Hz:=Qa (show aG (bN fN xs) (bN fN ys)=sg ps.length qs.length from He.out.trans (vr h0))
   have Hw:=Qa (b3.out.trans (a0.out.mono b3.out.size));clear He b8 b9
   by_cases h1:ps = []
   ·subst h1
    clear h0;go_wp2_with fail;(with_reducible refine bh.mono ?_);rintro e w3 ⟨rfl,rfl⟩;go_wp2_with fail;go_ret;rw [Hz.out];exact⟨rfl,Hw.out⟩
   ·obtain rfl:qs = []:=h0.resolve_left h1
    have c8: (0:Int)<ps.length:=by cases ps with | nil=>exact absurd rfl h1 | cons _ _=>simp
    clear h0 h1;go_wp2_with fail;(with_reducible refine bh.mono ?_);rintro e w3 ⟨rfl,rfl⟩;go_wp2_with fail;go_ret;rw [Hz.out];exact⟨rfl,Hw.out⟩
  ·have b0:ps≠ []:=fun e=>h0 (.inl e)
   have b2:qs≠ []:=fun e=>h0 (.inr e)
   have lp:0<ps.length:=by cases ps with | nil=>exact absurd rfl b0 | cons _ _=>simp
   have lq:0<qs.length:=by cases qs with | nil=>exact absurd rfl b2 | cons _ _=>simp
   have lpi: (0:Int)<ps.length:=by omega
   have lqi: (0:Int)<qs.length:=by omega
   obtain⟨bp,op,rfl, -⟩:=b8 lp;obtain⟨bq,oq,rfl, -⟩:=b9 lq;have np:=yc b0;have nq:=yc b2;have c6:=Qa (Hp.out.cut np.2);have c7:=Qa (Hq.out.cut nq.2);have c3:=Qa (jM (Hp.out.below a0.out) b0 (c0.out.below a0.out));have c1:=Qa (fun w5 (h:Below wr.heap.size wr w5)=>jM ((Hq.out.below a0.out).below h) b2 ((c0.out.below a0.out).below h));have a6:=He.out;rw [jk b0,jk b2,bk] at a6;clear h0 b0 b2 b8 b9 He;generalize wH ps=cp at *;generalize wH qs=cq at *;generalize oG ps=mp at *;generalize oG qs=mq at *;obtain⟨np1,np2⟩:=np;obtain⟨nq1,nq2⟩:=nq
   by_cases hcc:cp=cq
   ·subst hcc
    rw [if_neg (Int.lt_irrefl _),if_neg (Int.lt_irrefl _)] at a6;have He:=Qa a6;clear a6;go_wp2_with fail;(with_reducible refine c3.out.mono ?_);rintro e w3 ⟨rfl,a5⟩;have b1:=Qa a5;have b7:=Qa (c1.out w3 a5);clear a5;go_wp2_with fail;(with_reducible refine b7.out.mono ?_);rintro e w4 ⟨rfl,a9⟩;have b6:=Qa (a0.out.trans ((b1.out.trans (a9.mono b1.out.size)).mono a0.out.size));clear a9;go_wp2_with fail
    by_cases e1:c=mp <;> by_cases e2:d=mq
    all_goals
     go_quiet (fail);go_wp2_with fail;refine⟨⟨ps.drop mp,qs.drop mq,_,_,_,_,by rw [List.length_drop],by rw [List.length_drop],by rw [List.length_drop];first | exact xY Hp.out np2 e1 | exact c6.out,by rw [List.length_drop];first | exact xY Hq.out nq2 e2 | exact c7.out,He.out,aD b6.out _⟩, ?_⟩
     show ps.length - mp<ps.length
     omega
   ·have c9: (cp==cq)=false:=by simpa using hcc
    have c4:aG (bN fN xs) (bN fN ys)=sg cp cq:=by
     rw [a6];unfold sg
     by_cases h1:cp<cq
     ·rw [if_pos h1,if_pos h1]
     ·rw [if_neg h1,if_pos (by omega),if_neg h1,if_pos (by omega)]
    have He:=Qa c4;clear a6 c4 hcc;go_wp2_with fail;(with_reducible refine c3.out.mono ?_);rintro e w3 ⟨rfl,a5⟩;have b1:=Qa a5;have b7:=Qa (c1.out w3 a5);clear a5;go_wp2_with fail;(with_reducible refine b7.out.mono ?_);rintro e w4 ⟨rfl,a9⟩;have b6:=Qa (b3.out.trans ((a0.out.trans ((b1.out.trans (a9.mono b1.out.size)).mono a0.out.size)).mono b3.out.size));clear a9;go_wp2_with fail;(with_reducible refine bh.mono ?_);rintro e w5 ⟨rfl,rfl⟩;go_wp2_with fail;go_ret;rw [He.out];exact⟨rfl,b6.out⟩
theorem gc:Calls Tryz.prog 53 #[.nilIface] w fun e w'=>e = .returned (.int .i64 0)/\Below w.heap.size w w':=by
 go_enter Tryz.func53,Tryz.ntmps53;go_wp2_with fail;go_ret;exact⟨rfl,Zd _ _⟩
theorem eh (h:VW P w v j):Calls Tryz.prog 53 #[v] w fun e w'=>e = .returned (.int .i64 j.kindOf)/\Below w.heap.size w w':=by
 cases h with
 | null=>
  go_enter Tryz.func53,Tryz.ntmps53;go_wp2_with fail;(with_reducible refine gS.mono ?_);rintro e w1 ⟨rfl,hb⟩;go_wp2_with fail;go_ret;exact⟨rfl,hb⟩
 | bool b=>
  go_enter Tryz.func53,Tryz.ntmps53;go_wp2_with fail;(with_reducible refine gT.mono ?_);rintro e w1 ⟨rfl,hb⟩;go_wp2_with fail;go_ret;exact⟨rfl,hb⟩
 | num d=>
  go_enter Tryz.func53,Tryz.ntmps53;go_wp2_with fail;(with_reducible refine iP.mono ?_);rintro e w1 ⟨rfl,hb⟩;go_wp2_with fail;go_ret;exact⟨rfl,hb⟩
 | text s=>
  go_enter Tryz.func53,Tryz.ntmps53;go_wp2_with fail;(with_reducible refine gK.mono ?_);rintro e w1 ⟨rfl,hb⟩;go_wp2_with fail;go_ret;exact⟨rfl,hb⟩
 | hole=>
  go_enter Tryz.func53,Tryz.ntmps53;go_wp2_with fail;(with_reducible refine gH.mono ?_);rintro e w1 ⟨rfl,hb⟩;go_wp2_with fail;go_ret;exact⟨rfl,hb⟩
 | bare=>
  go_enter Tryz.func53,Tryz.ntmps53;go_wp2_with fail;(with_reducible refine ep.mono ?_);rintro e w1 ⟨rfl,hb⟩;go_wp2_with fail;go_ret;exact⟨rfl,hb⟩
 | list g A c us ks _ _ _ _ _=>
  go_enter Tryz.func53,Tryz.ntmps53;go_wp2_with fail;(with_reducible refine ep.mono ?_);rintro e w1 ⟨rfl,hb⟩;go_wp2_with fail;go_ret;exact⟨rfl,hb⟩
 | obj g A c us ns ks _ _ _ _ _ _=>
  go_enter Tryz.func53,Tryz.ntmps53;go_wp2_with fail;(with_reducible refine gJ.mono ?_);rintro e w1 ⟨rfl,hb⟩;go_wp2_with fail;go_ret;exact⟨rfl,hb⟩
def dk (P:Nat->Prop)(w:World)(A:Option Addr)(us:List Value)(ks:List JV):Prop:=
 (A=none/\us = []/\ks = [])\/∃g R c,A=some ⟨g,0,none⟩/\w.heap[g]?=some (.cells #[.slice R us.length c] 160 (0,0))/\cf P w 32 1 R us.length c us/\us.length=ks.length
def uk (P:Nat->Prop)(w:World)(us:List Value)(ks:List JV):Prop:= ∀ (i:Nat) u k,us[i]?=some u->ks[i]?=some k->VW P w u k
theorem dk.len (h:dk P w A us ks):us.length=ks.length:=by
 rcases h with ⟨-,rfl,rfl⟩ | ⟨_,_,_,_,_,_,h⟩
 ·rfl
 ·exact h
theorem dk.below (h:dk P w A us ks)(hb:Below w.heap.size w w'):dk P w' A us ks:=by
 rcases h with h | ⟨g,R,c,e,hg,hr,hl⟩
 ·exact .inl h
 ·exact .inr ⟨g,R,c,e,ai hg hb,hr.stay fun g o hp hg _ _=>⟨hp,(hb.block g (ae hg)).trans hg⟩,hl⟩
theorem uk.below (h:uk P w us ks)(hb:Below w.heap.size w w'):uk P w' us ks:=fun i u k h1 h2=>(h i u k h1 h2).later hb
theorem VW.asList {t:Bool}{x:ByteArray}(h:VW P w v (.mk 5 t x d ns ks)):∃A us,v = .iface 57 (.pointer A)/\dk P w A us ks/\uk P w us ks:=by
 cases h with
 | bare=>exact⟨none, [],rfl, .inl ⟨rfl,rfl,rfl⟩,fun i u k h _=>by simp at h⟩
 | list g A c us ks hp hg hr hl hk=>exact⟨_,us,rfl, .inr ⟨g,A,c,rfl,hg,hr,hl⟩,hk⟩
def eS (P:Nat->Prop)(w:World)(A:Option Addr)(us:List Value)(ns:List ByteArray)(ks:List JV):Prop:=
 ∃g R c,A=some ⟨g,0,none⟩/\w.heap[g]?=some (.cells #[.slice R us.length c] 165 (0,0))/\cf P w 109 2 R us.length c (zt ns us)/\us.length=ks.length/\ns.length=ks.length
theorem eS.below (h:eS P w A us ns ks)(hb:Below w.heap.size w w'):eS P w' A us ns ks:=by
 obtain⟨g,R,c,e,hg,hr,hl⟩:=h;exact⟨g,R,c,e,ai hg hb,hr.stay fun g o hp hg _ _=>⟨hp,(hb.block g (ae hg)).trans hg⟩,hl⟩
theorem VW.asObj {t:Bool}{x:ByteArray}(h:VW P w v (.mk 6 t x d ns ks)):∃A us,v = .iface 119 (.pointer A)/\eS P w A us ns ks/\uk P w us ks:=by
 cases h with
 | obj g A c us ns ks hp hg hr hl hn hk=>exact⟨_,us,rfl,⟨g,A,c,rfl,hg,hr,hl,hn⟩,hk⟩
theorem dU (h:dk P w A us ks):Calls Tryz.prog 47 #[.pointer A] w fun e w'=>e = .returned (.int .i64 us.length)/\w=w':=by
 rcases h with ⟨rfl,rfl,rfl⟩ | ⟨g,R,c,rfl,hg,hr,hl⟩
 ·exact sC w
 ·exact lP hg
theorem en (h:dk P w A us ks)(hT:dt w)(i:Nat)(hu:us[i]?=some u):Calls Tryz.prog 48 #[.pointer A, .int .i64 i] w fun e w'=>e = .returned (.tuple #[.string ⟨(Lib.itoa i).toArray⟩,u])/\Below w.heap.size w w':=by
 have hi:=(List.getElem?_eq_some_iff.1 hu).1;rcases h with ⟨rfl,rfl,rfl⟩ | ⟨g,R,c,rfl,hg,hr,hl⟩
 ·simp at hi
 ·exact rp hT hg hr i hi hu
theorem eK (h:eS P w A us ns ks):Calls Tryz.prog 49 #[.pointer A] w fun e w'=>e = .returned (.int .i64 us.length)/\w=w':=by
 obtain⟨g,R,c,rfl,hg,hr,hl⟩:=h;exact mN hg
theorem fm (h:eS P w A us ns ks)(i:Nat){n:ByteArray}(hu:us[i]?=some u)(hn:ns[i]?=some n):Calls Tryz.prog 50 #[.pointer A, .int .i64 i] w fun e w'=>e = .returned (.tuple #[.string n,u])/\Below w.heap.size w w':=by
 have hi:=(List.getElem?_eq_some_iff.1 hu).1;obtain⟨g,R,c,rfl,hg,hr,hl⟩:=h;have hm:=xU ns us i n u hn hu;exact tQ hg hr i hi hm.1 hm.2
inductive JB:JV->Prop
 | mk (k:Int) (t:Bool) (x:ByteArray) (d:Dc) (ns:List ByteArray) (ks:List JV):x.size<=9223372036854775807->zX d->(∀n∈ns,n.size<=9223372036854775807)->(∀u∈ks,JB u)->JB (.mk k t x d ns ks)
def xQ (W:World)(o:Bool)(ns ns':List ByteArray)(ks ks':List JV)(s19:Value)(wr:World):Prop:= ∃i:Nat,s19 = .int .i64 i/\i<=ks.length/\i<=ks'.length/\aG (JV.keys o ns ks) (JV.keys o ns' ks')=aG (JV.keys o (ns.drop i) (ks.drop i)) (JV.keys o (ns'.drop i) (ks'.drop i))/\Below W.heap.size W wr
theorem wL {B:Option Addr}(ha:dk P w A us ks)(hb:dk Q w B us' ks')(hT:dt w)
  (hl:us.length<=maxLen) (c8:us'.length<=maxLen)
  (H:∀ (i:Nat) u u' k k',us[i]?=some u->ks[i]?=some k->us'[i]?=some u'->ks'[i]?=some k'->∀w1,Below w.heap.size w w1->Calls Tryz.prog 30 #[u,u'] w1 fun e w'=>e = .returned (.int .i64 (ee k k'))/\Below w1.heap.size w1 w') :
  Calls Tryz.prog 56 #[.iface 57 (.pointer A), .iface 57 (.pointer B), .bool false] w fun e w'=>e = .returned (.int .i64 (aG (JV.keys false [] ks) (JV.keys false [] ks')))/\Below w.heap.size w w':=by
 have la:=ha.len;have lb:=hb.len;unfold maxLen at hl c8;have Ha:=Qa ha;have Hb:=Qa hb;have HT:=Qa hT;have HH:=Qa H;clear ha hb hT H;have Hl:=Qa (dU Ha.out);have a7:=Qa (dU Hb.out);have c2:=Qa la;have c3:=Qa lb;generalize hn:us.length=n at *;generalize hn':us'.length=n' at *;have Hn:=Qa hn;have b5:=Qa hn';clear hn hn' la lb;go_enter Tryz.func56,Tryz.ntmps56;go_wp2_with fail;(with_reducible refine Hl.out.mono ?_);rintro e w3 ⟨rfl,rfl⟩;go_wp2_with fail;(with_reducible refine a7.out.mono ?_);rintro e w3 ⟨rfl,rfl⟩;go_wp2_with fail;obtain⟨m,hm,c0⟩:∃m:Nat,(min (n:Int) n')=m/\m=min n n':=⟨min n n',by omega,rfl⟩;rw [hm];have Hm:=Qa c0;have d0:m<=9223372036854775807:=by omega
 clear hm c0 Hl a7
 go_loopw [19] (fun s19 wr=>xQ w false [] [] ks ks' s19 wr) (fun s19 _=>m - (intOf s19).toNat)
 case atStart=>exact⟨0,rfl,Zj _,Zj _,rfl,Zd _ _⟩
 case round=>
  obtain⟨i,rfl,c7,c6,he,a0⟩:=hrel;have a1:=Qa a0;have He:=Qa he;have Hi:=Qa (And.intro c7 c6);clear he c7 c6;have b9:=Qa (Ha.out.below a0);have c4:=Qa (Hb.out.below a0);have b8:=Qa (HT.out.below a0);clear a0
  by_cases h:i<m
  ·have c5:i<us.length:=by have:=Hm.out;have:=Hn.out;omega
   have c1:i<us'.length:=by have:=Hm.out;have:=b5.out;omega
   have b0:i<ks.length:=by have:=c2.out;have:=Hn.out;omega
   have a9:i<ks'.length:=by have:=c3.out;have:=b5.out;omega
   obtain⟨u,hu⟩:∃u,us[i]?=some u:=⟨_,Zc c5⟩;obtain⟨u',b6⟩:∃u,us'[i]?=some u:=⟨_,Zc c1⟩;obtain⟨k,hk⟩:∃u,ks[i]?=some u:=⟨_,Zc b0⟩;obtain⟨k',b4⟩:∃u,ks'[i]?=some u:=⟨_,Zc a9⟩;have Hp:=Qa (en b9.out b8.out i hu);have Hq:=Qa (fun w5 (h:Below wr.heap.size wr w5)=>en (c4.out.below h) (b8.out.below h) i b6);have Hc:=Qa (HH.out i u u' k k' hu hk b6 b4);have Hs:=Qa (show aG (JV.keys false [] ks) (JV.keys false [] ks')=if ee k k'=0 then aG (JV.keys false [] (ks.drop (i+1))) (JV.keys false [] (ks'.drop (i+1))) else ee k k' by
    rw [He.out,List.drop_eq_getElem_cons b0,List.drop_eq_getElem_cons a9,zB];rw [(List.getElem?_eq_some_iff.1 hk).2,(List.getElem?_eq_some_iff.1 b4).2];simp)
   have Hk:=Qa (And.intro b0 a9);have h': (i:Int)<m:=by omega
   have w1:IntKind.i64.wrap ((i:Int)+1)= (i:Int)+1:=IntWalk.i64_in _ (by omega);clear c5 c1 b0 a9 hu b6 hk b4 He;generalize ee k k'=cc at *
   by_cases hc0:cc=0
   ·subst hc0
    have b3:=Qa (Hs.out.trans (if_pos rfl));clear Hs;go_wp2_with fail;(with_reducible refine Hp.out.mono ?_);rintro e w3 ⟨rfl,a3⟩;have a5:=Qa a3;have b1:=Qa (Hq.out w3 a3);clear a3;go_wp2_with fail;(with_reducible refine b1.out.mono ?_);rintro e w4 ⟨rfl,a4⟩;have a2:=Qa (a1.out.trans ((a5.out.trans (a4.mono a5.out.size)).mono a1.out.size));have b7:=Qa (Hc.out w4 a2.out);clear a4;go_wp2_with fail;(with_reducible refine b7.out.mono ?_);rintro e w5 ⟨rfl,a6⟩;have b2:=Qa (a2.out.trans (a6.mono a2.out.size));clear a6;go_wp2_with fail;refine⟨⟨i+1,rfl,Hk.out.1,Hk.out.2,b3.out,b2.out⟩, ?_⟩
    show m - ((i:Int)+1).toNat<m - ((i:Int)).toNat
    omega
   ·have c9: (cc==0)=false:=by simpa using hc0
    have b3:=Qa (Hs.out.trans (if_neg hc0));clear Hs hc0;go_wp2_with fail;(with_reducible refine Hp.out.mono ?_);rintro e w3 ⟨rfl,a3⟩;have a5:=Qa a3;have b1:=Qa (Hq.out w3 a3);clear a3;go_wp2_with fail;(with_reducible refine b1.out.mono ?_);rintro e w4 ⟨rfl,a4⟩;have a2:=Qa (a1.out.trans ((a5.out.trans (a4.mono a5.out.size)).mono a1.out.size));have b7:=Qa (Hc.out w4 a2.out);clear a4;go_wp2_with fail;(with_reducible refine b7.out.mono ?_);rintro e w5 ⟨rfl,a6⟩;have b2:=Qa (a2.out.trans (a6.mono a2.out.size));clear a6;go_wp2_with fail;go_ret;rw [b3.out];exact⟨rfl,b2.out⟩
  ·have h':¬ (i:Int)<m:=by omega
   have Hl:=Qa (dU b9.out);have a7:=Qa (dU c4.out);rw [Hn.out] at Hl;rw [b5.out] at a7;have Hz:=Qa (show aG (JV.keys false [] ks) (JV.keys false [] ks')=sg n n' by
    have h1:=Hm.out;have h2:=c2.out;have h3:=c3.out;have h4:=Hi.out;rw [He.out,sF]
    ·unfold sg
     rw [List.length_drop,List.length_drop]
     (repeat' split) <;> first | rfl | omega
    ·rcases(by omega:ks.length<=i\/ks'.length<=i) with h | h
     ·exact .inl (List.drop_eq_nil_of_le h)
     ·exact .inr (List.drop_eq_nil_of_le h))
   clear He;go_wp2_with fail;(with_reducible refine Hl.out.mono ?_);rintro e w3 ⟨rfl,rfl⟩;go_wp2_with fail;(with_reducible refine a7.out.mono ?_);rintro e w3 ⟨rfl,rfl⟩;go_wp2_with fail;(with_reducible refine bh.mono ?_);rintro e w3 ⟨rfl,rfl⟩;go_wp2_with fail;go_ret;rw [Hz.out];exact⟨rfl,a1.out⟩
theorem eS.len (h:eS P w A us ns ks):us.length=ks.length:=by
 obtain⟨_,_,_,_,_,_,h,_⟩:=h;exact h
theorem eS.names (h:eS P w A us ns ks):ns.length=ks.length:=by
 obtain⟨_,_,_,_,_,_,_,h⟩:=h;exact h
theorem zk {B:Option Addr}(ha:eS P w A us ns ks)(hb:eS Q w B us' ns' ks')(hT:cG w aU aE)(hz:∀n∈ns,n.size<=9223372036854775807)(c5:∀n∈ns',n.size<=9223372036854775807)
  (hl:us.length<=maxLen) (d9:us'.length<=maxLen)
  (H:∀ (i:Nat) u u' k k',us[i]?=some u->ks[i]?=some k->us'[i]?=some u'->ks'[i]?=some k'->∀w1,Below w.heap.size w w1->Calls Tryz.prog 30 #[u,u'] w1 fun e w'=>e = .returned (.int .i64 (ee k k'))/\Below w1.heap.size w1 w') :
  Calls Tryz.prog 56 #[.iface 119 (.pointer A), .iface 119 (.pointer B), .bool true] w fun e w'=>e = .returned (.int .i64 (aG (JV.keys true ns ks) (JV.keys true ns' ks')))/\Below w.heap.size w w':=by
 have la:=ha.len;have lb:=hb.len;have ma:=ha.names;have mb:=hb.names;have Hz:=Qa hz;have e0:=Qa c5;unfold maxLen at hl d9;have Ha:=Qa ha;have Hb:=Qa hb;have HT:=Qa hT;have HH:=Qa H;clear ha hb hT H hz c5;have Hl:=Qa (eK Ha.out);have b4:=Qa (eK Hb.out);have d6:=Qa ma;have d5:=Qa mb;have c8:=Qa la;have c9:=Qa lb;generalize hn:us.length=n at *;generalize hn':us'.length=n' at *;have Hn:=Qa hn;have c0:=Qa hn';clear hn hn' la lb ma mb;go_enter Tryz.func56,Tryz.ntmps56;go_wp2_with fail;(with_reducible refine Hl.out.mono ?_);rintro e w3 ⟨rfl,rfl⟩;go_wp2_with fail;(with_reducible refine b4.out.mono ?_);rintro e w3 ⟨rfl,rfl⟩;go_wp2_with fail;obtain⟨m,hm,a9⟩:∃m:Nat,(min (n:Int) n')=m/\m=min n n':=⟨min n n',by omega,rfl⟩;rw [hm];have Hm:=Qa a9;have e2:m<=9223372036854775807:=by omega
 clear hm a9 Hl b4
 go_loopw [19] (fun s19 wr=>xQ w true ns ns' ks ks' s19 wr) (fun s19 _=>m - (intOf s19).toNat)
 case atStart=>exact⟨0,rfl,Zj _,Zj _,rfl,Zd _ _⟩
 case round=>
  obtain⟨i,rfl,d3,d2,he,a3⟩:=hrel;have a2:=Qa a3;have He:=Qa he;have Hi:=Qa (And.intro d3 d2);clear he d3 d2;have c6:=Qa (Ha.out.below a3);have d0:=Qa (Hb.out.below a3);have d4:=Qa (HT.out.below a3);clear a3
  by_cases h:i<m
  ·have d1:i<us.length:=by have:=Hm.out;have:=Hn.out;omega
   have c7:i<us'.length:=by have:=Hm.out;have:=c0.out;omega
   have b7:i<ks.length:=by have:=c8.out;have:=Hn.out;omega
   have b5:i<ks'.length:=by have:=c9.out;have:=c0.out;omega
   obtain⟨u,hu⟩:∃u,us[i]?=some u:=⟨_,Zc d1⟩;obtain⟨u',c3⟩:∃u,us'[i]?=some u:=⟨_,Zc c7⟩;obtain⟨k,hk⟩:∃u,ks[i]?=some u:=⟨_,Zc b7⟩;obtain⟨k',b9⟩:∃u,ks'[i]?=some u:=⟨_,Zc b5⟩;have c2:i<ns.length:=by have:=d6.out;omega
   have a9:i<ns'.length:=by have:=d5.out;omega
   obtain⟨s,hs⟩:∃u,ns[i]?=some u:=⟨_,Zc c2⟩;obtain⟨s',b6⟩:∃u,ns'[i]?=some u:=⟨_,Zc a9⟩;have Hp:=Qa (fm c6.out i hu hs);have Hq:=Qa (fun w5 (h:Below wr.heap.size wr w5)=>fm (d0.out.below h) i c3 b6);have c1:=Qa (fun w5 (h:Below wr.heap.size wr w5)=>iE (Hz.out s (Zk hs)) (e0.out s' (Zk b6)) (d4.out.below h));have Hc:=Qa (HH.out i u u' k k' hu hk c3 b9);have Hs:=Qa (show aG (JV.keys true ns ks) (JV.keys true ns' ks')=if aG (nm s) (nm s')=0 then(if ee k k'=0 then aG (JV.keys true (ns.drop (i+1)) (ks.drop (i+1))) (JV.keys true (ns'.drop (i+1)) (ks'.drop (i+1))) else ee k k') else aG (nm s) (nm s') by
    rw [He.out,List.drop_eq_getElem_cons b7,List.drop_eq_getElem_cons b5,List.drop_eq_getElem_cons c2,List.drop_eq_getElem_cons a9,BJ];rw [(List.getElem?_eq_some_iff.1 hk).2,(List.getElem?_eq_some_iff.1 b9).2,(List.getElem?_eq_some_iff.1 hs).2,(List.getElem?_eq_some_iff.1 b6).2])
   have Hk:=Qa (And.intro b7 b5);have h': (i:Int)<m:=by omega
   have w1:IntKind.i64.wrap ((i:Int)+1)= (i:Int)+1:=IntWalk.i64_in _ (by omega);clear d1 c7 b7 b5 hu c3 hk b9 hs b6 c2 a9 He;generalize aG (nm s) (nm s')=nc at *;generalize ee k k'=cc at *
   by_cases hn0:nc=0
   ·subst hn0
    rw [if_pos rfl] at Hs
    by_cases hc0:cc=0
    ·subst hc0
     have b2:=Qa (Hs.out.trans (if_pos rfl));clear Hs;go_wp2_with fail;(with_reducible refine Hp.out.mono ?_);rintro e w3 ⟨rfl,a4⟩;have a7:=Qa a4;have b0:=Qa (Hq.out w3 a4);clear a4;go_wp2_with fail;(with_reducible refine b0.out.mono ?_);rintro e w4' ⟨rfl,a1⟩;have a0:=Qa (a7.out.trans (a1.mono a7.out.size));have b1:=Qa (c1.out w4' a0.out);clear a1;go_wp2_with fail;(with_reducible refine b1.out.mono ?_);rintro e w4 ⟨rfl,a6⟩;have a5:=Qa (a2.out.trans ((a0.out.trans (a6.mono a0.out.size)).mono a2.out.size));have c4:=Qa (Hc.out w4 a5.out);clear a6;go_wp2_with fail;(with_reducible refine c4.out.mono ?_);rintro e w5 ⟨rfl,b3⟩;have b8:=Qa (a5.out.trans (b3.mono a5.out.size));clear b3;go_wp2_with fail;refine⟨⟨i+1,rfl,Hk.out.1,Hk.out.2,b2.out,b8.out⟩, ?_⟩
     show m - ((i:Int)+1).toNat<m - ((i:Int)).toNat
     omega
    ·have e1: (cc==0)=false:=by simpa using hc0
     have b2:=Qa (Hs.out.trans (if_neg hc0));clear Hs hc0;go_wp2_with fail;(with_reducible refine Hp.out.mono ?_);rintro e w3 ⟨rfl,a4⟩;have a7:=Qa a4;have b0:=Qa (Hq.out w3 a4);clear a4;go_wp2_with fail;(with_reducible refine b0.out.mono ?_);rintro e w4' ⟨rfl,a1⟩;have a0:=Qa (a7.out.trans (a1.mono a7.out.size));have b1:=Qa (c1.out w4' a0.out);clear a1;go_wp2_with fail;(with_reducible refine b1.out.mono ?_);rintro e w4 ⟨rfl,a6⟩;have a5:=Qa (a2.out.trans ((a0.out.trans (a6.mono a0.out.size)).mono a2.out.size));have c4:=Qa (Hc.out w4 a5.out);clear a6;go_wp2_with fail;(with_reducible refine c4.out.mono ?_);rintro e w5 ⟨rfl,b3⟩;have b8:=Qa (a5.out.trans (b3.mono a5.out.size));clear b3;go_wp2_with fail;go_ret;rw [b2.out];exact⟨rfl,b8.out⟩
   ·have e3: (nc==0)=false:=by simpa using hn0
    have b2:=Qa (Hs.out.trans (if_neg hn0));clear Hs hn0;go_wp2_with fail;(with_reducible refine Hp.out.mono ?_);rintro e w3 ⟨rfl,a4⟩;have a7:=Qa a4;have b0:=Qa (Hq.out w3 a4);clear a4;go_wp2_with fail;(with_reducible refine b0.out.mono ?_);rintro e w4' ⟨rfl,a1⟩;have a0:=Qa (a7.out.trans (a1.mono a7.out.size));have b1:=Qa (c1.out w4' a0.out);clear a1;go_wp2_with fail;(with_reducible refine b1.out.mono ?_);rintro e w4 ⟨rfl,a6⟩;have a5:=Qa (a2.out.trans ((a0.out.trans (a6.mono a0.out.size)).mono a2.out.size));clear a6;go_wp2_with fail;go_ret;rw [b2.out];exact⟨rfl,a5.out⟩
  ·have h':¬ (i:Int)<m:=by omega
   have Hl:=Qa (eK c6.out);have b4:=Qa (eK d0.out);rw [Hn.out] at Hl;rw [c0.out] at b4;have Hz:=Qa (show aG (JV.keys true ns ks) (JV.keys true ns' ks')=sg n n' by
    have h1:=Hm.out;have h2:=c8.out;have h3:=c9.out;have h4:=Hi.out;rw [He.out,sF]
    ·unfold sg
     rw [List.length_drop,List.length_drop]
     (repeat' split) <;> first | rfl | omega
    ·rcases(by omega:ks.length<=i\/ks'.length<=i) with h | h
     ·exact .inl (List.drop_eq_nil_of_le h)
     ·exact .inr (List.drop_eq_nil_of_le h))
   clear He;go_wp2_with fail;(with_reducible refine Hl.out.mono ?_);rintro e w3 ⟨rfl,rfl⟩;go_wp2_with fail;(with_reducible refine b4.out.mono ?_);rintro e w3 ⟨rfl,rfl⟩;go_wp2_with fail;(with_reducible refine bh.mono ?_);rintro e w3 ⟨rfl,rfl⟩;go_wp2_with fail;go_ret;rw [Hz.out];exact⟨rfl,a2.out⟩
theorem iw {P:Program}{asserted:TypeId}{want:Array (String×TypeId)}(hu:P.underlying asserted=some (.interface want))(h: (P.info? t).map (fun i=>(lacking want i.methods).isEmpty)=some true)(v:Value)(xT:TypeId)(w:World): (Instr.typeAssert (.iface t v) xT asserted false).run P w = .ok (.iface t v) w:=by
 obtain⟨i,hi,hl⟩:=Option.map_eq_some_iff.1 h;simp [Instr.typeAssert,run_underlying hu,typeInfo,hi,missingMethod_none (List.isEmpty_iff.1 hl)]
theorem qN (x:Value)(W:World): (Instr.typeAssert (.iface 58 x) 32 59 true).run Tryz.prog W = .ok (.tuple #[.bool false, .bool false]) W:=by kernel_rfl
theorem rT (x:Value)(W:World): (Instr.typeAssert (.iface 58 x) 32 50 true).run Tryz.prog W = .ok (.tuple #[.agg #[.bool false, .string ⟨#[]⟩, .int .i64 0], .bool false]) W:=by kernel_rfl
theorem ku (x:Value)(W:World): (Instr.typeAssert (.iface 58 x) 32 60 true).run Tryz.prog W = .ok (.tuple #[.string ⟨#[]⟩, .bool false]) W:=by kernel_rfl
theorem iG (x:Value)(W:World): (Instr.typeAssert (.iface 58 x) 32 124 true).run Tryz.prog W = .ok (.tuple #[.nilIface, .bool false]) W:=run_typeAssert_lacksB Tryz.underlying124 (by kernel_rfl) (by kernel_rfl) x _ W
theorem Dl (x:Value)(W:World): (Instr.typeAssert (.iface 59 x) 32 59 true).run Tryz.prog W = .ok (.tuple #[x, .bool true]) W:=by kernel_rfl
theorem Du (x:Value)(W:World): (Instr.typeAssert (.iface 59 x) 32 59 false).run Tryz.prog W = .ok x W:=by kernel_rfl
theorem pW (x:Value)(W:World): (Instr.typeAssert (.iface 59 x) 32 60 true).run Tryz.prog W = .ok (.tuple #[.string ⟨#[]⟩, .bool false]) W:=by kernel_rfl
theorem lK (x:Value)(W:World): (Instr.typeAssert (.iface 59 x) 32 124 true).run Tryz.prog W = .ok (.tuple #[.nilIface, .bool false]) W:=run_typeAssert_lacksB Tryz.underlying124 (by kernel_rfl) (by kernel_rfl) x _ W
theorem t7 (x:Value)(W:World): (Instr.typeAssert (.iface 50 x) 32 59 true).run Tryz.prog W = .ok (.tuple #[.bool false, .bool false]) W:=by kernel_rfl
theorem EK (x:Value)(W:World): (Instr.typeAssert (.iface 50 x) 32 50 true).run Tryz.prog W = .ok (.tuple #[x, .bool true]) W:=by kernel_rfl
theorem Fh (x:Value)(W:World): (Instr.typeAssert (.iface 50 x) 32 50 false).run Tryz.prog W = .ok x W:=by kernel_rfl
theorem tL (x:Value)(W:World): (Instr.typeAssert (.iface 50 x) 32 60 true).run Tryz.prog W = .ok (.tuple #[.string ⟨#[]⟩, .bool false]) W:=by kernel_rfl
theorem nM (x:Value)(W:World): (Instr.typeAssert (.iface 50 x) 32 124 true).run Tryz.prog W = .ok (.tuple #[.nilIface, .bool false]) W:=run_typeAssert_lacksB Tryz.underlying124 (by kernel_rfl) (by kernel_rfl) x _ W
theorem rc (x:Value)(W:World): (Instr.typeAssert (.iface 60 x) 32 59 true).run Tryz.prog W = .ok (.tuple #[.bool false, .bool false]) W:=by kernel_rfl
theorem sP (x:Value)(W:World): (Instr.typeAssert (.iface 60 x) 32 50 true).run Tryz.prog W = .ok (.tuple #[.agg #[.bool false, .string ⟨#[]⟩, .int .i64 0], .bool false]) W:=by kernel_rfl
theorem xw (x:Value)(W:World): (Instr.typeAssert (.iface 60 x) 32 60 true).run Tryz.prog W = .ok (.tuple #[x, .bool true]) W:=by kernel_rfl
theorem Ei (x:Value)(W:World): (Instr.typeAssert (.iface 60 x) 32 60 false).run Tryz.prog W = .ok x W:=by kernel_rfl
theorem lO (x:Value)(W:World): (Instr.typeAssert (.iface 60 x) 32 124 true).run Tryz.prog W = .ok (.tuple #[.nilIface, .bool false]) W:=run_typeAssert_lacksB Tryz.underlying124 (by kernel_rfl) (by kernel_rfl) x _ W
theorem qH (x:Value)(W:World): (Instr.typeAssert (.iface 54 x) 32 59 true).run Tryz.prog W = .ok (.tuple #[.bool false, .bool false]) W:=by kernel_rfl
theorem um (x:Value)(W:World): (Instr.typeAssert (.iface 54 x) 32 50 true).run Tryz.prog W = .ok (.tuple #[.agg #[.bool false, .string ⟨#[]⟩, .int .i64 0], .bool false]) W:=by kernel_rfl
theorem pS (x:Value)(W:World): (Instr.typeAssert (.iface 54 x) 32 60 true).run Tryz.prog W = .ok (.tuple #[.string ⟨#[]⟩, .bool false]) W:=by kernel_rfl
theorem lF (x:Value)(W:World): (Instr.typeAssert (.iface 54 x) 32 124 true).run Tryz.prog W = .ok (.tuple #[.nilIface, .bool false]) W:=run_typeAssert_lacksB Tryz.underlying124 (by kernel_rfl) (by kernel_rfl) x _ W
theorem ru (x:Value)(W:World): (Instr.typeAssert (.iface 57 x) 32 59 true).run Tryz.prog W = .ok (.tuple #[.bool false, .bool false]) W:=by kernel_rfl
theorem sf (x:Value)(W:World): (Instr.typeAssert (.iface 57 x) 32 50 true).run Tryz.prog W = .ok (.tuple #[.agg #[.bool false, .string ⟨#[]⟩, .int .i64 0], .bool false]) W:=by kernel_rfl
theorem kx (x:Value)(W:World): (Instr.typeAssert (.iface 57 x) 32 60 true).run Tryz.prog W = .ok (.tuple #[.string ⟨#[]⟩, .bool false]) W:=by kernel_rfl
theorem iR (x:Value)(W:World): (Instr.typeAssert (.iface 57 x) 32 124 true).run Tryz.prog W = .ok (.tuple #[.iface 57 x, .bool true]) W:=run_typeAssert_hasB Tryz.underlying124 (by kernel_rfl) x _ W
theorem lR (x:Value)(W:World): (Instr.typeAssert (.iface 57 x) 32 124 false).run Tryz.prog W = .ok (.iface 57 x) W:=iw Tryz.underlying124 (by kernel_rfl) x _ W
theorem uE (x:Value)(W:World): (Instr.typeAssert (.iface 119 x) 32 59 true).run Tryz.prog W = .ok (.tuple #[.bool false, .bool false]) W:=by kernel_rfl
theorem xc (x:Value)(W:World): (Instr.typeAssert (.iface 119 x) 32 50 true).run Tryz.prog W = .ok (.tuple #[.agg #[.bool false, .string ⟨#[]⟩, .int .i64 0], .bool false]) W:=by kernel_rfl
theorem lD (x:Value)(W:World): (Instr.typeAssert (.iface 119 x) 32 60 true).run Tryz.prog W = .ok (.tuple #[.string ⟨#[]⟩, .bool false]) W:=by kernel_rfl
theorem jX (x:Value)(W:World): (Instr.typeAssert (.iface 119 x) 32 124 true).run Tryz.prog W = .ok (.tuple #[.iface 119 x, .bool true]) W:=run_typeAssert_hasB Tryz.underlying124 (by kernel_rfl) x _ W
theorem nG (x:Value)(W:World): (Instr.typeAssert (.iface 119 x) 32 124 false).run Tryz.prog W = .ok (.iface 119 x) W:=iw Tryz.underlying124 (by kernel_rfl) x _ W
theorem pl {d:Nat}{op:Op}{pos:String}{af:Array Edge}{gu:Option (Nat×Bool)}{a:Act}{K:Act->World->Prop}{Q':Exit->Act->World->Prop}(h:VW P w v j)(hv:v = .iface t x)(k:∀w',Below w.heap.size w w'->K (a.put (some d) (.int .i64 j.kindOf)) w'):Oper.upon Tryz.prog {dst:=some d,op:=op,type:=ty,pos:=pos,after:=af,guard:=gu} a K Q' ((Sem.run Tryz.prog (method 524 t x "Kind") w).andThen fun a w'=>Sem.run Tryz.prog (callFunc a.fst #[a.snd]) w'):=by
 cases h <;> (injection hv with e1 e2;subst e1 e2)
 all_goals
  go_wp2_with fail;(with_reducible first | refine gS.mono ?_ | refine gT.mono ?_ | refine iP.mono ?_ | refine gK.mono ?_ | refine gH.mono ?_ | refine ep.mono ?_ | refine gJ.mono ?_);rintro e w1 ⟨rfl,a0⟩;exact k w1 a0
theorem fW {a b:JV}(ha:VW P w v a)(hb:VW Q w v' b)(hd:a.kindOf≠b.kindOf):Calls Tryz.prog 29 #[v,v'] w fun e w'=>e = .returned (.bool false)/\Below w.heap.size w w':=by
 obtain⟨t1,x1,rfl⟩:=ha.iface;obtain⟨t2,x2,rfl⟩:=hb.iface;have Ha:=Qa ha;have Hb:=Qa (fun w1 (h:Below w.heap.size w w1)=>hb.later h);have a4: (a.kindOf==b.kindOf)=false:=by simpa using hd
 clear ha hb hd;go_enter Tryz.func29,Tryz.ntmps29;go_wp2_with fail;refine pl Ha.out rfl fun w1 a1=> ?_
 have a0:=Qa a1;clear a1;go_wp2_with fail;refine pl (Hb.out w1 a0.out) rfl fun w2 a2=> ?_
 have a3:=Qa (a0.out.trans (a2.mono a0.out.size));clear a2;go_wp2_with fail;go_ret;exact⟨rfl,a3.out⟩
