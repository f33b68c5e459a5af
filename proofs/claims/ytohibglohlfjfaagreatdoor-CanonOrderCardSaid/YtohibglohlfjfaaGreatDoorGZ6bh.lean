import Derived.Test.YtohibglohlfjfaaGreatDoorGZ6bg
set_option linter.unusedVariables false
set_option linter.unusedSimpArgs false
set_option maxHeartbeats 64000000
set_option maxRecDepth 100000
namespace Go.Proofs.YtohibglohlfjfaaGreatDoor
open Go.RowKit Go.Shelf
variable {aE aU:Addr}{o t':Bool}{x':ByteArray}{d n':Dc}{ns ns':List ByteArray}{ks ks':List JV}{full xs ys:List UInt8}{us us':List Value}{i:Nat}{P Q:Nat->Prop}{A:Option Addr}{u v v':Value}{W w w1:World}
def gI (c:Int)(w:World)(e:Ending)(w':World):Prop:=e =.returned (.int .i64 c)/\Below w.heap.size w w'
theorem eR {a b:JV}(ha:VW P w v a)(hb:VW Q w v' b)(hd:a.kindOf≠b.kindOf):Calls Tryz.prog 24 #[v,v'] w (gI (dX a b) w):=by
 have Hv:=Qa (show dX a b=sg a.kindOf b.kindOf/\sg a.kindOf b.kindOf≠0 by
  obtain⟨k,t,x,n,ns,ks⟩:=a;obtain⟨k',t',x',n',ns',ks'⟩:=b;simp only[JV.kindOf] at hd;rw[zw hd];unfold sg;simp only[JV.kindOf]
  (repeat' split) <;> constructor <;> first|rfl|omega)
 have H1:=Qa (ee ha);have H2:=Qa (fun w1 (h:Below w.heap.size w w1)=>ee (hb.later h));obtain⟨t1,x1,rfl⟩:=ha.iface;obtain⟨t2,x2,rfl⟩:=hb.iface;clear ha hb hd;generalize a.kindOf=ka at *;generalize b.kindOf=kb at *;have hne:(sg ka kb==0)=false:=by simpa using Hv.out.2
 go_enter Tryz.func24,Tryz.ntmps24;go_wp2_with fail;refine Za H1 ?_;rintro e w1 ⟨rfl,a0⟩;have a2:=Qa a0;have H3:=Qa (H2.out w1 a0);clear a0;go_wp2_with fail;refine Za H3 ?_;rintro e w2 ⟨rfl,a1⟩;have a3:=Qa (a2.out.trans (a1.mono a2.out.size));clear a1;go_wp2_with fail;refine a8.mono ?_;rintro e w3 ⟨rfl,rfl⟩;go_wp2_with fail;go_ret;rw[Hv.out.1];exact⟨rfl,a3.out⟩
theorem Fu (w:World):Calls Tryz.prog 45 #[.iface 49 (.agg #[])] w fun e w'=>e =.returned (.int .i64 1)/\Below w.heap.size w w':=ee (P:=fun _=>True) .null
theorem EN (w:World):Calls Tryz.prog 45 #[.iface 45 (.agg #[])] w fun e w'=>e =.returned (.int .i64 7)/\Below w.heap.size w w':=ee (P:=fun _=>True) .hole
theorem yC (b:Bool)(w:World):Calls Tryz.prog 45 #[.iface 50 (.bool b)] w fun e w'=>e =.returned (.int .i64 2)/\Below w.heap.size w w':=ee (P:=fun _=>True) (.bool b)
theorem Eg (d:Dc)(w:World):Calls Tryz.prog 45 #[.iface 113 (.agg #[.bool d.neg,.string d.digits,.int .i64 d.exp])] w fun e w'=>e =.returned (.int .i64 3)/\Below w.heap.size w w':=ee (P:=fun _=>True) (.num d)
theorem yy (s:ByteArray)(w:World):Calls Tryz.prog 45 #[.iface 51 (.string s)] w fun e w'=>e =.returned (.int .i64 4)/\Below w.heap.size w w':=ee (P:=fun _=>True) (.text s)
theorem zf (A:Option Addr)(w:World):Calls Tryz.prog 45 #[.iface 48 (.pointer A)] w fun e w'=>e =.returned (.int .i64 5)/\Below w.heap.size w w':=by
 go_enter Tryz.func45,Tryz.ntmps45;go_wp2_with fail;refine et.mono ?_;rintro e w1 ⟨rfl,hb⟩;go_wp2_with fail;go_ret;exact⟨rfl,hb⟩
theorem CC (A:Option Addr)(w:World):Calls Tryz.prog 45 #[.iface 116 (.pointer A)] w fun e w'=>e =.returned (.int .i64 6)/\Below w.heap.size w w':=by
 go_enter Tryz.func45,Tryz.ntmps45;go_wp2_with fail;refine gE.mono ?_;rintro e w1 ⟨rfl,hb⟩;go_wp2_with fail;go_ret;exact⟨rfl,hb⟩
theorem B9:Calls Tryz.prog 24 #[.iface 49 (.agg #[]),.iface 49 (.agg #[])] w (gI 0 w):=by
 have H1:=Qa Fu;have k1:=rL;have k2:=vr;have k3:=kU;have k4:=iE;go_enter Tryz.func24,Tryz.ntmps24;go_wp2_with fail;refine(H1.out _).mono ?_;rintro e w1 ⟨rfl,a1⟩;have a0:=Qa a1;clear a1;go_wp2_with fail;refine(H1.out _).mono ?_;rintro e w2 ⟨rfl,a2⟩;have a3:=Qa (a0.out.trans (a2.mono a0.out.size));clear a2;go_wp2_with fail;refine a8.mono ?_;rintro e w3 ⟨rfl,rfl⟩;rw[show sg 1 1=0 from rfl];go_wp2_with fail;go_ret;exact⟨rfl,a3.out⟩
theorem Dz:Calls Tryz.prog 24 #[.iface 45 (.agg #[]),.iface 45 (.agg #[])] w (gI 0 w):=by
 have H1:=Qa EN;have k1:=qL;have k2:=tT;have k3:=qR;have k4:=lJ;go_enter Tryz.func24,Tryz.ntmps24;go_wp2_with fail;refine(H1.out _).mono ?_;rintro e w1 ⟨rfl,a1⟩;have a0:=Qa a1;clear a1;go_wp2_with fail;refine(H1.out _).mono ?_;rintro e w2 ⟨rfl,a2⟩;have a3:=Qa (a0.out.trans (a2.mono a0.out.size));clear a2;go_wp2_with fail;refine a8.mono ?_;rintro e w3 ⟨rfl,rfl⟩;rw[show sg 7 7=0 from rfl];go_wp2_with fail;go_ret;exact⟨rfl,a3.out⟩
theorem Ee (a b:Bool):Calls Tryz.prog 24 #[.iface 50 (.bool a),.iface 50 (.bool b)] w fun e w'=>gI (if a=b then 0 else if a then 1 else -1) w e w':=by
 have H1:=Qa (yC a);have H2:=Qa (yC b);have k1:=Ew;have k2:=EF;go_enter Tryz.func24,Tryz.ntmps24;go_wp2_with fail;refine(H1.out _).mono ?_;rintro e w1 ⟨rfl,a1⟩;have a0:=Qa a1;clear a1;go_wp2_with fail;refine(H2.out _).mono ?_;rintro e w2 ⟨rfl,a2⟩;have a3:=Qa (a0.out.trans (a2.mono a0.out.size));clear a2;go_wp2_with fail;refine a8.mono ?_;rintro e w3 ⟨rfl,rfl⟩;rw[show sg 2 2=0 from rfl]
 cases a <;> cases b
 all_goals
  go_wp2_with fail;go_ret;exact⟨rfl,a3.out⟩
theorem BF {a b:ByteArray}(ha:a.size<=9223372036854775807)(hb:b.size<=9223372036854775807)(hG:ce w aU aE):Calls Tryz.prog 24 #[.iface 51 (.string a),.iface 51 (.string b)] w fun e w'=>gI (aw (nm a) (nm b)) w e w':=by
 have H1:=Qa (yy a);have H2:=Qa (yy b);have k1:=rJ;have k2:=uK;have k3:=yV;have k4:=EV;have HL:=Qa (fun w1 (h:Below w.heap.size w w1)=>iZ ha hb (hG.below h));clear hG ha hb;go_enter Tryz.func24,Tryz.ntmps24;go_wp2_with fail;refine(H1.out _).mono ?_;rintro e w1 ⟨rfl,a2⟩;have a1:=Qa a2;clear a2;go_wp2_with fail;refine(H2.out _).mono ?_;rintro e w2 ⟨rfl,a4⟩;have a0:=Qa (a1.out.trans (a4.mono a1.out.size));clear a4;go_wp2_with fail;refine a8.mono ?_;rintro e w3 ⟨rfl,rfl⟩;rw[show sg 4 4=0 from rfl];go_wp2_with fail;refine(HL.out w2 a0.out).mono ?_;rintro e w4 ⟨rfl,a3⟩;have a5:=Qa (a0.out.trans (a3.mono a0.out.size));clear a3;go_wp2_with fail;go_ret;exact⟨rfl,a5.out⟩
theorem Fx {a b:Dc}(ha:CR a)(hb:CR b):Calls Tryz.prog 24 #[.iface 113 (.agg #[.bool a.neg,.string a.digits,.int .i64 a.exp]),.iface 113 (.agg #[.bool b.neg,.string b.digits,.int .i64 b.exp])] w fun e w'=>gI (aw (fH a) (fH b)) w e w':=by
 have H1:=Qa (Eg a);have H2:=Qa (Eg b);have k1:=uS;have k2:=Gq;have k3:=GS;have HN:=Qa (fun w1=>ud (w:=w1) ha hb);clear ha hb;go_enter Tryz.func24,Tryz.ntmps24;go_wp2_with fail;refine(H1.out _).mono ?_;rintro e w1 ⟨rfl,a6⟩;have a5:=Qa a6;clear a6;go_wp2_with fail;refine(H2.out _).mono ?_;rintro e w2 ⟨rfl,a4⟩;have a7:=Qa (a5.out.trans (a4.mono a5.out.size));clear a4;go_wp2_with fail;refine a8.mono ?_;rintro e w3 ⟨rfl,rfl⟩;rw[show sg 3 3=0 from rfl];go_wp2_with fail;have Ha:=Qa (ac w2 (.cells #[.bool a.neg,.string a.digits,.int .i64 a.exp] 113));have h0:=Zf w2 (.cells #[.bool a.neg,.string a.digits,.int .i64 a.exp] 113);have hs:=aa h0 (j:=0) (u:=.bool a.neg) rfl;have ht:=aa h0 (j:=1) (u:=.string a.digits) rfl;have hu:=aa h0 (j:=2) (u:=.int .i64 a.exp) rfl;obtain⟨w4,a3⟩:∃w4:World,w4=w2.alloc (.cells #[.bool a.neg,.string a.digits,.int .i64 a.exp] 113):=⟨_,rfl⟩;have a2:=Qa (a7.out.trans (Ha.out.mono a7.out.size));clear Ha;rw[<-a3] at a2 hs ht hu ⊢;generalize w2.heap.size=g at *;clear h0 a3;refine aA (fun w'=>w'.cell? ⟨g,0,none⟩=some (.bool a.neg)/\w'.cell? ⟨g,1,none⟩=some (.string a.digits)/\w'.cell? ⟨g,2,none⟩=some (.int .i64 a.exp)) (⟨hs,ht,hu⟩) fun a0=>?_
 refine tH 0 a0 ?_;refine tH 1 a0 ?_;refine tH 2 a0 ?_
 try simp only[Act.put,jP,jQ,jR]
 refine rH 3 fun K hK=>?_
 go_simp;refine(HN.out _).mono ?_;rintro e w5 ⟨rfl,a1⟩;refine hK.out _ _ (⟨Zg a1 a0.1,Zg a1 a0.2.1,Zg a1 a0.2.2⟩) (fun a0=>?_);clear hK K
 try simp only[Act.put,jP,jQ,jR]
 refine tH 4 a0 ?_
 try simp only[Act.put,jP,jQ,jR]
 refine wpAnyH_done (by kernel_rfl) (NoPanic.normal ?_) _;have a9:=Qa ((a2.out.drew).trans (a1.mono (show w.heap.size<=w4.drew.heap.size from a2.out.size)));go_wp2_with fail;go_ret;exact⟨rfl,a9.out⟩
theorem DW {B:Option Addr}{c:Int}(HP:∀w1,Below w.heap.size w w1->Calls Tryz.prog 48 #[.iface 48 (.pointer A),.iface 48 (.pointer B),.bool false] w1 fun e w'=>e =.returned (.int .i64 c)/\Below w1.heap.size w1 w'):Calls Tryz.prog 24 #[.iface 48 (.pointer A),.iface 48 (.pointer B)] w (gI c w):=by
 have H1:=Qa (zf A);have H2:=Qa (zf B);have k1:=rE;have k2:=tB;have k3:=kC;have k4:=iL;have k5:=l8;have HL:=Qa HP;clear HP;go_enter Tryz.func24,Tryz.ntmps24;go_wp2_with fail;refine(H1.out _).mono ?_;rintro e w1 ⟨rfl,a2⟩;have a1:=Qa a2;clear a2;go_wp2_with fail;refine(H2.out _).mono ?_;rintro e w2 ⟨rfl,a3⟩;have a6:=Qa (a1.out.trans (a3.mono a1.out.size));clear a3;go_wp2_with fail;refine a8.mono ?_;rintro e w3 ⟨rfl,rfl⟩;rw[show sg 5 5=0 from rfl];go_wp2_with fail;refine aA (fun w'=>Below w.heap.size w w') (a6.out.drew) fun a0=>?_
 refine tH 0 a0 ?_;refine tH 1 a0 ?_;refine tH 2 a0 ?_;refine tH 3 a0 ?_
 try simp only[Act.put,jP,jQ,jR]
 refine rH 4 fun K hK=>?_
 go_simp;refine(H1.out _).mono ?_;rintro e w4 ⟨rfl,a7⟩;refine hK.out _ _ (a0.trans (a7.mono a0.size)) (fun a0=>?_);clear hK K
 try simp only[Act.put,jP,jQ,jR]
 refine tH 5 a0 ?_
 try simp only[Act.put,jP,jQ,jR]
 refine rH 6 fun K hK=>?_
 go_simp;refine(HL.out _ a0).mono ?_;rintro e w5 ⟨rfl,a4⟩;refine hK.out _ _ (a0.trans (a4.mono a0.size)) (fun a0=>?_);clear hK K
 try simp only[Act.put,jP,jQ,jR]
 refine tH 7 a0 ?_
 try simp only[Act.put,jP,jQ,jR]
 refine wpAnyH_done (by kernel_rfl) (NoPanic.normal ?_) _;have a5:=Qa a0;go_wp2_with fail;go_ret;exact⟨rfl,a5.out⟩
theorem Fz {B:Option Addr}{c:Int}(HP:∀w1,Below w.heap.size w w1->Calls Tryz.prog 48 #[.iface 116 (.pointer A),.iface 116 (.pointer B),.bool true] w1 fun e w'=>e =.returned (.int .i64 c)/\Below w1.heap.size w1 w'):Calls Tryz.prog 24 #[.iface 116 (.pointer A),.iface 116 (.pointer B)] w (gI c w):=by
 have H1:=Qa (CC A);have H2:=Qa (CC B);have k1:=uN;have k2:=vF;have k3:=lY;have k4:=kc;have k5:=nz;have HL:=Qa HP;clear HP;go_enter Tryz.func24,Tryz.ntmps24;go_wp2_with fail;refine(H1.out _).mono ?_;rintro e w1 ⟨rfl,a2⟩;have a1:=Qa a2;clear a2;go_wp2_with fail;refine(H2.out _).mono ?_;rintro e w2 ⟨rfl,a3⟩;have a6:=Qa (a1.out.trans (a3.mono a1.out.size));clear a3;go_wp2_with fail;refine a8.mono ?_;rintro e w3 ⟨rfl,rfl⟩;rw[show sg 6 6=0 from rfl];go_wp2_with fail;refine aA (fun w'=>Below w.heap.size w w') (a6.out.drew) fun a0=>?_
 refine tH 0 a0 ?_;refine tH 1 a0 ?_;refine tH 2 a0 ?_;refine tH 3 a0 ?_
 try simp only[Act.put,jP,jQ,jR]
 refine rH 4 fun K hK=>?_
 go_simp;refine(H1.out _).mono ?_;rintro e w4 ⟨rfl,a7⟩;refine hK.out _ _ (a0.trans (a7.mono a0.size)) (fun a0=>?_);clear hK K
 try simp only[Act.put,jP,jQ,jR]
 refine tH 5 a0 ?_
 try simp only[Act.put,jP,jQ,jR]
 refine rH 6 fun K hK=>?_
 go_simp;refine(HL.out _ a0).mono ?_;rintro e w5 ⟨rfl,a4⟩;refine hK.out _ _ (a0.trans (a4.mono a0.size)) (fun a0=>?_);clear hK K
 try simp only[Act.put,jP,jQ,jR]
 refine tH 7 a0 ?_
 try simp only[Act.put,jP,jQ,jR]
 refine wpAnyH_done (by kernel_rfl) (NoPanic.normal ?_) _;have a5:=Qa a0;go_wp2_with fail;go_ret;exact⟨rfl,a5.out⟩
theorem de.bd (h:de P w A us ks):us.length<=maxLen:=by
 rcases h with ⟨-,rfl,rfl⟩|⟨g,R,c,e,hg,hr,hl⟩
 ·exact Zk _
 ·exact Zc hr.2.1 hr.2.2.1
theorem eD.bd (h:eD P w A us ns ks):us.length<=maxLen:=by
 obtain⟨g,R,c,e,hg,hr,hl⟩:=h;exact Zc hr.2.1 hr.2.2.1
theorem p7 {B:Option Addr}{t:Bool}{x:ByteArray}{n:Dc}(ha:de P w A us ks)(hb:de Q w B us' ks')(hT:cG w)(h1:Below w.heap.size w w1)
  (H:∀ (i:Nat) u u' k k',us[i]?=some u->ks[i]?=some k->us'[i]?=some u'->ks'[i]?=some k'->∀w1,Below w.heap.size w w1->Calls Tryz.prog 24 #[u,u'] w1 (gI (dX k k') w1)) :
  Calls Tryz.prog 24 #[.iface 48 (.pointer A),.iface 48 (.pointer B)] w1 fun e w'=>gI (dX (.mk 5 t x n [] ks) (.mk 5 t' x' n' [] ks')) w1 e w':=by
 rw[nj (by decide) (by decide) (by decide)];refine DW fun w2 h2=>?_
 have h3:=h1.trans (h2.mono h1.size);refine xM (ha.below h3) (hb.below h3) (hT.below h3) ha.bd hb.bd fun i u u' k k' e1 e2 e3 e4 w4 h4=>?_
 exact H i u u' k k' e1 e2 e3 e4 w4 (h3.trans (h4.mono h3.size))
theorem Dq {B:Option Addr}{t:Bool}{x:ByteArray}{n:Dc}(ha:eD P w A us ns ks)(hb:eD Q w B us' ns' ks')(hT:ce w aU aE)(hz:∀n∈ns,n.size<=9223372036854775807)(a0:∀n∈ns',n.size<=9223372036854775807)(h1:Below w.heap.size w w1)
  (H:∀ (i:Nat) u u' k k',us[i]?=some u->ks[i]?=some k->us'[i]?=some u'->ks'[i]?=some k'->∀w1,Below w.heap.size w w1->Calls Tryz.prog 24 #[u,u'] w1 (gI (dX k k') w1)) :
  Calls Tryz.prog 24 #[.iface 116 (.pointer A),.iface 116 (.pointer B)] w1 fun e w'=>gI (dX (.mk 6 t x n ns ks) (.mk 6 t' x' n' ns' ks')) w1 e w':=by
 rw[nj (by decide) (by decide) (by decide)];refine Fz fun w2 h2=>?_
 have h3:=h1.trans (h2.mono h1.size);refine zL (ha.below h3) (hb.below h3) (hT.below h3) hz a0 ha.bd hb.bd fun i u u' k k' e1 e2 e3 e4 w4 h4=>?_
 exact H i u u' k k' e1 e2 e3 e4 w4 (h3.trans (h4.mono h3.size))
theorem JB.kids {k:Int}{t:Bool}{x:ByteArray}(h:JB (.mk k t x d ns ks)):x.size<=9223372036854775807/\CR d/\(∀n∈ns,n.size<=9223372036854775807)/\∀u∈ks,JB u:=by
 cases h with
 |mk _ _ _ _ _ _ h1 h2 h3 h4=>exact⟨h1,h2,h3,h4⟩
theorem vj {a:JV}(ha:VW P w v a)(hT:cG w)(hG:ce w aU aE)(ja:JB a):∀ {Q:Nat->Prop} {v':Value} {b:JV},VW Q w v' b->JB b->∀w1,Below w.heap.size w w1->Calls Tryz.prog 24 #[v,v'] w1 (gI (dX a b) w1):=by
 induction ha with
 |null=>
  intro Q v' b hb jb w1 h1
  by_cases hk:b.kindOf=1
  ·cases hb with
   |null=>exact B9
   |bool|num|text|hole|bare|list|obj=>simp[JV.kindOf] at hk
  ·exact eR (P:=P) (Q:=Q) .null (hb.later h1) (fun e=>hk e.symm)
 |hole=>
  intro Q v' b hb jb w1 h1
  by_cases hk:b.kindOf=7
  ·cases hb with
   |hole=>exact Dz
   |bool|num|text|null|bare|list|obj=>simp[JV.kindOf] at hk
  ·exact eR (P:=P) (Q:=Q) .hole (hb.later h1) (fun e=>hk e.symm)
 |bool x=>
  intro Q v' b hb jb w1 h1
  by_cases hk:b.kindOf=2
  ·cases hb with
   |bool y=>rw[Bp];exact Ee x y
   |hole|num|text|null|bare|list|obj=>simp[JV.kindOf] at hk
  ·exact eR (P:=P) (Q:=Q) (.bool x) (hb.later h1) (fun e=>hk e.symm)
 |num d=>
  intro Q v' b hb jb w1 h1
  by_cases hk:b.kindOf=3
  ·cases hb with
   |num y=>rw[Cd];exact Fx ja.kids.2.1 jb.kids.2.1
   |hole|bool|text|null|bare|list|obj=>simp[JV.kindOf] at hk
  ·exact eR (P:=P) (Q:=Q) (.num d) (hb.later h1) (fun e=>hk e.symm)
 |text s=>
  intro Q v' b hb jb w1 h1
  by_cases hk:b.kindOf=4
  ·cases hb with
   |text y=>rw[zo];exact BF ja.kids.1 jb.kids.1 (hG.below h1)
   |hole|bool|num|null|bare|list|obj=>simp[JV.kindOf] at hk
  ·exact eR (P:=P) (Q:=Q) (.text s) (hb.later h1) (fun e=>hk e.symm)
 |bare=>
  intro Q v' b hb jb w1 h1
  by_cases hk:b.kindOf=5
  ·obtain⟨k',t',x',n',ns',ks'⟩:=b;simp only[JV.kindOf] at hk;subst hk;obtain rfl:ns' = []:=by cases hb <;> rfl
   obtain⟨B,us',rfl,hL,hK⟩:=hb.asList;refine p7 (P:=P) (us:= []) (.inl ⟨rfl,rfl,rfl⟩) hL hT h1 fun i u u' k k' e1=>?_
   simp at e1
  ·exact eR (P:=P) (Q:=Q) .bare (hb.later h1) (fun e=>hk e.symm)
 |list g A c us ks hp hg hr hl hks ih=>
  intro Q v' b hb jb w1 h1
  by_cases hk:b.kindOf=5
  ·obtain⟨k',t',x',n',ns',ks'⟩:=b;simp only[JV.kindOf] at hk;subst hk;obtain rfl:ns' = []:=by cases hb <;> rfl
   obtain⟨B,us',rfl,hL,hK⟩:=hb.asList;refine p7 (P:=P) (.inr ⟨g,A,c,rfl,hg,hr,hl⟩) hL hT h1 fun i u u' k k' e1 e2 e3 e4 w2 h2=>?_
   exact ih i u k e1 e2 (ja.kids.2.2.2 k (Zl e2)) (hK i u' k' e3 e4) (jb.kids.2.2.2 k' (Zl e4)) w2 h2
  ·exact eR (P:=P) (Q:=Q) ((VW.list g A c us ks hp hg hr hl hks).later h1) (hb.later h1) (fun e=>hk e.symm)
 |obj g A c us ns ks hp hg hr hl hn hks ih=>
  intro Q v' b hb jb w1 h1
  by_cases hk:b.kindOf=6
  ·obtain⟨k',t',x',n',ns',ks'⟩:=b;simp only[JV.kindOf] at hk;subst hk;obtain⟨B,us',rfl,hL,hK⟩:=hb.asObj;refine Dq (P:=P) ⟨g,A,c,rfl,hg,hr,hl,hn⟩ hL hG ja.kids.2.2.1 jb.kids.2.2.1 h1 fun i u u' k k' e1 e2 e3 e4 w2 h2=>?_
   exact ih i u k e1 e2 (ja.kids.2.2.2 k (Zl e2)) (hK i u' k' e3 e4) (jb.kids.2.2.2 k' (Zl e4)) w2 h2
  ·exact eR (P:=P) (Q:=Q) ((VW.obj g A c us ns ks hp hg hr hl hn hks).later h1) (hb.later h1) (fun e=>hk e.symm)
theorem qZ (x:Value)(W:World):(Instr.typeAssert (.iface 48 x) 32 137 true).run Tryz.prog W =.ok (.tuple #[.nilIface,.bool false]) W:=run_typeAssert_lacksB Tryz.underlying137 (by kernel_rfl) (by kernel_rfl) x _ W
theorem qg (x:Value)(W:World):(Instr.typeAssert (.iface 48 x) 32 48 true).run Tryz.prog W =.ok (.tuple #[x,.bool true]) W:=by kernel_rfl
def d7 (o:Bool)(full:List UInt8)(tail:UInt8)(ns:List ByteArray)(ks:List JV)(i:Nat)(ys:List UInt8):Prop:=ys++ (JV.txts o (decide (i=0)) (ns.drop i) (ks.drop i) ++ [tail])=full
theorem d7.next {tail:UInt8}{k:JV}(h:d7 false full tail [] ks i ys)(hk:ks[i]?=some k):d7 false full tail [] ks (i+1) (ys++ ((if i=0 then [] else [44])++JV.txt k)):=by
 unfold d7 at h ⊢;obtain⟨h1,h2⟩:=List.getElem?_eq_some_iff.1 hk;rw[List.drop_eq_getElem_cons h1,h2] at h;rw[<-h]
 conv=>rhs;unfold JV.txts
 by_cases e:i=0 <;> simp[e]
theorem d7.stop {tail:UInt8}(h:d7 o full tail ns ks ks.length ys):ys ++ [tail]=full:=by
 unfold d7 at h;rw[List.drop_length] at h;unfold JV.txts at h;exact h
theorem d7.le {tail:UInt8}(h:d7 o full tail ns ks i ys):ys.length+1<=full.length:=by
 unfold d7 at h;rw[<-h];simp
def yu (W:World)(o:Bool)(full:List UInt8)(tail:UInt8)(ns:List ByteArray)(ks:List JV)(s0 s38:Value)(wr:World):Prop:= ∃ (i:Nat) (ys:List UInt8),s38 =.int .i64 i/\i<=ks.length/\aq wr W.heap.size s0 ys/\Below W.heap.size W wr/\d7 o full tail ns ks i ys
theorem aq.lit (c:UInt8)(h:aq w W.heap.size u xs)(hb:Below W.heap.size W w):aq (w.alloc (.cells #[.int .u8 c.toNat] 5)) W.heap.size u xs/\Bs (w.alloc (.cells #[.int .u8 c.toNat] 5)) (.slice (some ⟨w.heap.size,0,none⟩) 1 1) [c]/\Below W.heap.size W (w.alloc (.cells #[.int .u8 c.toNat] 5)):=
 ⟨h.below (ac w _) (Zb _),lr w [c] (by simp),hb.trans ((ac w _).mono hb.size)⟩
theorem pK (h:de P W A us ks)(hT:cG W)(hb:Below W.heap.size W w)(ho:aq w W.heap.size u xs)(hx:xs.length+ (91:: (JV.txts false true [] ks ++ [93])).length<=140737488355328)
  (H:∀ (i:Nat) v k,us[i]?=some v->ks[i]?=some k->∀w1 u1 xs1,Below W.heap.size W w1->aq w1 W.heap.size u1 xs1->xs1.length+ (JV.txt k).length<=140737488355328->Calls Tryz.prog 32 #[u1,v] w1 (kR W (xs1++JV.txt k))) :
  Calls Tryz.prog 32 #[u,.iface 48 (.pointer A)] w fun e w'=>kR W (xs++ (91:: (JV.txts false true [] ks ++ [93]))) e w':=by
 have k1:=kC;have k2:=qZ;have k3:=qg;have hl:=h.len;have d5:=h.bd;unfold maxLen at d5;obtain⟨q1,q2,q3⟩:=ho.lit 91 hb;have c1:=Qa q1;have c4:=Qa q2;have b1:=Qa q3;have HH:=Qa H;have Hh:=Qa h;have HT:=Qa hT;obtain⟨A0,q0,rfl,-⟩:=ag ho;have Hx:=Qa hx;have d2:=Qa (show xs.length+ ([91]:List UInt8).length<=140737488355328 by simp at hx ⊢;omega);obtain⟨full,a0⟩:∃full,xs++ (91:: (JV.txts false true [] ks ++ [93]))=full:=⟨_,rfl⟩;have Hf:Hid (d7 false full 93 [] ks 0 (xs ++ [91])):=Qa (by unfold d7;rw[<-a0];simp);have c5:=Qa (show full.length<=140737488355328 by rw[<-a0,List.length_append];exact hx);rw[a0];have a9:=Qa hl;have d4:=Qa (fun w1 (hw:Below W.heap.size W w1)=>dR (h.below hw));clear q1 q2 q3 ho hb h hT H hx a0 hl;generalize hn:us.length=n at *;have Hn:=Qa hn;clear hn;go_enter Tryz.func32,Tryz.ntmps32;go_wp2_with (at_builtin;refine pR c1.out c4.out d2.out b1.out.size ?_;intro v' w3 h1 h2 h3;have HK:=Qa h1;have a5:=Qa h2;clear h1 h2 h3);generalize hz:xs ++ [91]=zs at *;clear hz;have Hb3:=Qa (b1.out.grown a5.out b1.out.size (fun g e=>(aq.blk c1.out e).1));have Ho3:=Qa HK.out;obtain⟨A3,q3,rfl,-⟩:=ag HK.out;have c7:=Qa (d4.out w3 Hb3.out);clear HK a5 c1 c4 b1 Hx d2;go_wp2_with fail;refine Za c7 ?_;rintro e w4 ⟨rfl,rfl⟩;go_wp2_with fail;clear c7
 go_loopw [0,38] (fun s0 s38 wr=>yu W false full 93 [] ks s0 s38 wr) (fun _ s38 _=>n - (intOf s38).toNat)
 case atStart=>exact⟨0,_,rfl,Zk _,Ho3.out,Hb3.out,Hf.out⟩
 case round=>
  clear Hf Ho3 Hb3;obtain⟨i,ys,rfl,hi,ho,hb,hf⟩:=hrel;have Ho:=Qa ho;have Hb:=Qa hb;have Hf:=Qa hf;have Hi:=Qa hi;obtain⟨A4,q4,rfl,-⟩:=ag ho;have c9:ys.length+1<=140737488355328:=by have:=hf.le;have:=c5.out;omega
  have c8:=Qa c9;clear ho hb hf hi c9
  by_cases hin:i<n
  ·have c6:i<us.length:=by have:=Hn.out;omega
   have c3:i<ks.length:=by have:=a9.out;omega
   obtain⟨v,hv⟩:∃u,us[i]?=some u:=⟨_,Zd c6⟩;obtain⟨k,hk⟩:∃u,ks[i]?=some u:=⟨_,Zd c3⟩;have b6:=Hf.out.next hk;have b2:=Qa b6;have hle:=b6.le;have Hp:=Qa (fun w5 (hw:Below W.heap.size W w5)=>ew (Hh.out.below hw) (HT.out.below hw) i hv);have Hc:=Qa (HH.out i v k hv hk);have hkl:(ys++if i=0 then [] else [44]).length+ (JV.txt k).length<=140737488355328:=by
    have h1:=c5.out;rw[List.length_append,List.length_append] at hle;rw[List.length_append];omega
   have b3:=Qa hkl;have d1:=Qa c3;have h':(i:Int)<n:=by omega
   have w1:IntKind.i64.wrap ((i:Int)+1)= (i:Int)+1:=IntWalk.i64_in _ (by omega);clear b6 hle hkl c6 c3 hv hk Hf
   by_cases hi0:i=0
   ·subst hi0;rw[if_pos rfl,List.append_nil] at b3;rw[if_pos rfl,List.nil_append] at b2;go_wp2_with fail;have b4:=Qa (show Calls Tryz.prog 56 #[.pointer A,.int .i64 0] wr (fun e w'=>e =.returned (.tuple #[.string ⟨(Lib.itoa (0:Nat)).toArray⟩,v])/\Below wr.heap.size wr w') from Hp.out wr Hb.out);refine Za b4 ?_;rintro e w6 ⟨rfl,a3⟩;have c2:=Qa (Hb.out.trans (a3.mono Hb.out.size));have b9:=Qa (Hc.out w6 _ _ c2.out (Ho.out.below a3 (Zb _)) b3.out);clear a3;go_wp2_with fail;refine Za b9 ?_;rintro e w7 ⟨v7,rfl,a2,a6⟩;have b8:=Qa a2;have b7:=Qa a6;generalize hr:ys++JV.txt k=rs at *;clear hr;obtain⟨A7,q7,rfl,-⟩:=ag a2;clear a2 a6;go_wp2_with fail;refine⟨⟨1,_,rfl,d1.out,b8.out,b7.out,b2.out⟩,?_⟩
    show n - ((0:Int)+1).toNat<n - ((0:Int)).toNat
    omega
   ·have d3:(0:Int)<i:=by omega
    rw[if_neg hi0] at b3 b2;clear hi0;obtain⟨r1,r2,r3⟩:=Ho.out.lit 44 Hb.out;have b0:=Qa r1;have c0:=Qa r2;have a1:=Qa r3;have a4:=Qa (show ys.length+ ([44]:List UInt8).length<=140737488355328 from c8.out);clear r1 r2 r3;go_wp2_with (at_builtin;refine pR b0.out c0.out a4.out a1.out.size ?_;intro v' w5 h1 h2 h3;have HK:=Qa h1;have a5:=Qa h2;clear h1 h2 h3);generalize hz:ys ++ [44]=zs at *;have Hz:=Qa hz;clear hz;have a7:=Qa (a1.out.grown a5.out a1.out.size (fun g e=>(aq.blk b0.out e).1));have d6:=Qa HK.out;obtain⟨A5,q5,rfl,-⟩:=ag HK.out;have b4:=Qa (Hp.out w5 a7.out);clear HK a5;go_wp2_with fail;refine Za b4 ?_;rintro e w6 ⟨rfl,a3⟩;have c2:=Qa (a7.out.trans (a3.mono a7.out.size));have b9:=Qa (Hc.out w6 _ _ c2.out (d6.out.below a3 (Zb _)) b3.out);clear a3;go_wp2_with fail;refine Za b9 ?_;rintro e w7 ⟨v7,rfl,a2,a6⟩;have b8:=Qa a2;have b7:=Qa a6;generalize hr:zs++JV.txt k=rs at *;have Hr:=Qa hr;clear hr;obtain⟨A7,q7,rfl,-⟩:=ag a2;clear a2 a6;go_wp2_with fail;refine⟨⟨i+1,_,rfl,d1.out,b8.out,b7.out,by rw[<-Hr.out,<-Hz.out,List.append_assoc];exact b2.out⟩,?_⟩
    show n - ((i:Int)+1).toNat<n - ((i:Int)).toNat
    omega
  ·have h':¬ (i:Int)<n:=by omega
   have d0:i=ks.length:=by have:=Hi.out;have:=a9.out;omega
   have b5:=Qa (show ys ++ [93]=full by have:=Hf.out;rw[d0] at this;exact this.stop);clear d0 Hf;obtain⟨r1,r2,r3⟩:=Ho.out.lit 93 Hb.out;have b0:=Qa r1;have c0:=Qa r2;have a1:=Qa r3;have a4:=Qa (show ys.length+ ([93]:List UInt8).length<=140737488355328 from c8.out);clear r1 r2 r3;go_wp2_with (at_builtin;refine pR b0.out c0.out a4.out a1.out.size ?_;intro v' w5 h1 h2 h3;have HK:=Qa h1;have a5:=Qa h2;clear h1 h2 h3);have a7:=Qa (a1.out.grown a5.out a1.out.size (fun g e=>(aq.blk b0.out e).1));rw[b5.out] at HK;obtain⟨A5,q5,rfl,-⟩:=ag HK.out;go_ret;exact⟨_,rfl,HK.out,a7.out⟩
theorem tQ (x:Value)(W:World):(Instr.typeAssert (.iface 116 x) 32 137 true).run Tryz.prog W =.ok (.tuple #[.nilIface,.bool false]) W:=run_typeAssert_lacksB Tryz.underlying137 (by kernel_rfl) (by kernel_rfl) x _ W
theorem su (x:Value)(W:World):(Instr.typeAssert (.iface 116 x) 32 48 true).run Tryz.prog W =.ok (.tuple #[.pointer none,.bool false]) W:=by kernel_rfl
theorem wQ (x:Value)(W:World):(Instr.typeAssert (.iface 116 x) 32 116 true).run Tryz.prog W =.ok (.tuple #[x,.bool true]) W:=by kernel_rfl
theorem d7.nextO {tail:UInt8}{k:JV}{s:ByteArray}(h:d7 true full tail ns ks i ys)(hk:ks[i]?=some k)(hs:ns[i]?=some s):d7 true full tail ns ks (i+1) (ys++ ((if i=0 then [] else [44])++ (ea s++ ([58]++JV.txt k)))):=by
 unfold d7 at h ⊢;obtain⟨h1,h2⟩:=List.getElem?_eq_some_iff.1 hk;obtain⟨h3,h4⟩:=List.getElem?_eq_some_iff.1 hs;rw[List.drop_eq_getElem_cons h1,h2,List.drop_eq_getElem_cons h3,h4] at h;rw[<-h]
 conv=>rhs;unfold JV.txts
 by_cases e:i=0 <;> simp[e]
theorem DT (h:eD P W A us ns ks)(hT:ce W aU aE)(hU:∀s∈ns,du s/\s.size<=1000000000)(hb:Below W.heap.size W w)(ho:aq w W.heap.size u xs)(hx:xs.length+ (123:: (JV.txts true true ns ks ++ [125])).length<=140737488355328)
  (H:∀ (i:Nat) v k,us[i]?=some v->ks[i]?=some k->∀w1 u1 xs1,Below W.heap.size W w1->aq w1 W.heap.size u1 xs1->xs1.length+ (JV.txt k).length<=140737488355328->Calls Tryz.prog 32 #[u1,v] w1 (kR W (xs1++JV.txt k))) :
  Calls Tryz.prog 32 #[u,.iface 116 (.pointer A)] w fun e w'=>kR W (xs++ (123:: (JV.txts true true ns ks ++ [125]))) e w':=by
 have k1:=lY;have k2:=tQ;have k3:=su;have k4:=wQ;have hl:=h.len;have g2:=h.bd;unfold maxLen at g2;obtain⟨q1,q2,q3⟩:=ho.lit 123 hb;have e3:=Qa q1;have e6:=Qa q2;have c3:=Qa q3;have HH:=Qa H;have Hh:=Qa h;have HT:=Qa hT;have HU:=Qa hU;have g6:=Qa h.names;obtain⟨A0,q0,rfl,-⟩:=ag ho;have Hx:=Qa hx;have g1:=Qa (show xs.length+ ([123]:List UInt8).length<=140737488355328 by simp at hx ⊢;omega);obtain⟨full,a1⟩:∃full,xs++ (123:: (JV.txts true true ns ks ++ [125]))=full:=⟨_,rfl⟩;have Hf:Hid (d7 true full 125 ns ks 0 (xs ++ [123])):=Qa (by unfold d7;rw[<-a1];simp);have f0:=Qa (show full.length<=140737488355328 by rw[<-a1,List.length_append];exact hx);rw[a1];have b6:=Qa hl;have g5:=Qa (fun w1 (hw:Below W.heap.size W w1)=>eN (h.below hw));clear q1 q2 q3 ho hb h hT hU H hx a1 hl;generalize hn:us.length=n at *;have Hn:=Qa hn;clear hn;go_enter Tryz.func32,Tryz.ntmps32;go_wp2_with (at_builtin;refine pR e3.out e6.out g1.out c3.out.size ?_;intro v' w3 h1 h2 h3;have HK:=Qa h1;have b2:=Qa h2;clear h1 h2 h3);generalize hz:xs ++ [123]=zs at *;clear hz;have Hb3:=Qa (c3.out.grown b2.out c3.out.size (fun g e=>(aq.blk e3.out e).1));have Ho3:=Qa HK.out;obtain⟨A3,q3,rfl,-⟩:=ag HK.out;have f3:=Qa (g5.out w3 Hb3.out);clear HK b2 e3 e6 c3 Hx g1;go_wp2_with fail;refine Za f3 ?_;rintro e w4 ⟨rfl,rfl⟩;go_wp2_with fail;clear f3
 go_loopw [0,67] (fun s0 s38 wr=>yu W true full 125 ns ks s0 s38 wr) (fun _ s38 _=>n - (intOf s38).toNat)
 case atStart=>exact⟨0,_,rfl,Zk _,Ho3.out,Hb3.out,Hf.out⟩
 case round=>
  clear Hf Ho3 Hb3;obtain⟨i,ys,rfl,hi,ho,hb,hf⟩:=hrel;have Ho:=Qa ho;have Hb:=Qa hb;have Hf:=Qa hf;have Hi:=Qa hi;obtain⟨A4,q4,rfl,-⟩:=ag ho;have f8:ys.length+1<=140737488355328:=by have:=hf.le;have:=f0.out;omega
  have f6:=Qa f8;clear ho hb hf hi f8
  by_cases hin:i<n
  ·have f1:i<us.length:=by have:=Hn.out;omega
   have d1:i<ks.length:=by have:=b6.out;omega
   obtain⟨v,hv⟩:∃u,us[i]?=some u:=⟨_,Zd f1⟩;obtain⟨k,hk⟩:∃u,ks[i]?=some u:=⟨_,Zd d1⟩;have f5:i<ns.length:=by have:=g6.out;omega
   obtain⟨s,hs⟩:∃u,ns[i]?=some u:=⟨_,Zd f5⟩;have e0:=Hf.out.nextO hk hs;obtain⟨e8,f2⟩:=HU.out s (Zl hs);have f4:=Qa (fun w5 (hw:Below W.heap.size W w5)=>nS (w:=w5) e8 (HT.out.below hw) f2);have c4:=Qa e0;have hle:=e0.le;have Hp:=Qa (fun w5 (hw:Below W.heap.size W w5)=>fe (Hh.out.below hw) i hv hs);have Hc:=Qa (HH.out i v k hv hk);generalize ea s=qs at *;have hkl:(ys++if i=0 then [] else [44]).length+qs.length<=140737488355328/\(ys++if i=0 then [] else [44]).length+qs.length+1+ (JV.txt k).length<=140737488355328:=by
    have h1:=f0.out;rw[List.length_append,List.length_append,List.length_append,List.length_append] at hle;simp only[List.length_cons,List.length_nil] at hle;rw[List.length_append];omega
   have a3:=Qa hkl;have g0:=Qa d1;have h':(i:Int)<n:=by omega
   have w1:IntKind.i64.wrap ((i:Int)+1)= (i:Int)+1:=IntWalk.i64_in _ (by omega);clear e0 hle hkl f1 d1 hv hk Hf hs e8 f2 f5
   by_cases hi0:i=0
   ·subst hi0;rw[if_pos rfl,List.append_nil] at a3;rw[if_pos rfl,List.nil_append] at c4;go_wp2_with fail;have d6:=Qa (show Calls Tryz.prog 58 #[.pointer A,.int .i64 0] wr (fun e w'=>e =.returned (.tuple #[.string s,v])/\Below wr.heap.size wr w') from Hp.out wr Hb.out);refine Za d6 ?_;rintro e w6 ⟨rfl,b1⟩;have b0:=Qa (Hb.out.trans (b1.mono Hb.out.size));have e1:=Qa (Ho.out.below b1 (Zb _));have d5:=Qa (f4.out w6 b0.out);clear b1;go_wp2_with fail;refine Za d5 ?_;rintro e wq ⟨vq,rfl,b3,a5⟩;have a4:=Qa (b0.out.trans (a5.mono b0.out.size));have c2:=Qa (e1.out.below a5 (Zb _));have c9:=Qa (aq.bs b3);obtain⟨Aq,qq,rfl,-⟩:=ag b3;clear b3 a5;go_wp2_with (first|(at_builtin;refine pR c2.out c9.out a3.out.1 a4.out.size ?_;intro v' wa h1 h2 h3;have b8:=Qa h1;have d9:=Qa h2;clear h1 h2 h3;have e4:=Qa (a4.out.grown d9.out a4.out.size (fun g e=>(aq.blk c2.out e).1));generalize hza:ys++qs=za at *;have c0:=Qa hza;obtain⟨Aa,qa,rfl,-⟩:=ag b8.out;obtain⟨ra1,ra2,ra3⟩:=b8.out.lit 58 e4.out;have a2:=Qa ra1;have a6:=Qa ra2;have a0:=Qa ra3;have d4:=Qa (show za.length+ ([58]:List UInt8).length<=140737488355328 from by rw[<-hza,List.length_append];have:=a3.out.2;simp only[List.length_cons,List.length_nil];omega);clear ra1 ra2 ra3 hza)|(at_builtin;refine pR a2.out a6.out d4.out a0.out.size ?_;intro v' wb h1 h2 h3;have b5:=Qa h1;have c7:=Qa h2;clear h1 h2 h3;have d3:=Qa (a0.out.grown c7.out a0.out.size (fun g e=>(aq.blk a2.out e).1));generalize hzb:za ++ [58]=zb at *;have d0:=Qa hzb;obtain⟨Ab,qb,rfl,-⟩:=ag b5.out;have d2:=Qa (show zb.length+ (JV.txt k).length<=140737488355328 from by rw[<-hzb,<-c0.out,List.length_append,List.length_append];have:=a3.out.2;simp only[List.length_cons,List.length_nil];omega);have e5:=Qa (Hc.out wb _ _ d3.out b5.out d2.out);clear hzb));refine Za e5 ?_;rintro e w7 ⟨v7,rfl,a9,b9⟩;have e2:=Qa a9;have c6:=Qa b9;generalize hr:zb++JV.txt k=rs at *;have Hr:=Qa hr;clear hr;obtain⟨A7,q7,rfl,-⟩:=ag a9;clear a9 b9;go_wp2_with fail;refine⟨⟨1,_,rfl,g0.out,e2.out,c6.out,by rw[<-Hr.out,<-d0.out,<-c0.out];have:=c4.out;simp only[List.append_assoc] at this ⊢;exact this⟩,?_⟩
    show n - ((0:Int)+1).toNat<n - ((0:Int)).toNat
    omega
   ·have g4:(0:Int)<i:=by omega
    rw[if_neg hi0] at a3 c4;clear hi0;obtain⟨r1,r2,r3⟩:=Ho.out.lit 44 Hb.out;have b7:=Qa r1;have c8:=Qa r2;have a7:=Qa r3;have b4:=Qa (show ys.length+ ([44]:List UInt8).length<=140737488355328 from f6.out);clear r1 r2 r3;go_wp2_with (at_builtin;refine pR b7.out c8.out b4.out a7.out.size ?_;intro v' w5 h1 h2 h3;have HK:=Qa h1;have b2:=Qa h2;clear h1 h2 h3);generalize hz:ys ++ [44]=zs at *;have Hz:=Qa hz;clear hz;have c1:=Qa (a7.out.grown b2.out a7.out.size (fun g e=>(aq.blk b7.out e).1));have g3:=Qa HK.out;obtain⟨A5,q5,rfl,-⟩:=ag HK.out;have d6:=Qa (Hp.out w5 c1.out);clear HK b2;go_wp2_with fail;refine Za d6 ?_;rintro e w6 ⟨rfl,b1⟩;have b0:=Qa (c1.out.trans (b1.mono c1.out.size));have e1:=Qa (g3.out.below b1 (Zb _));have d5:=Qa (f4.out w6 b0.out);clear b1;go_wp2_with fail;refine Za d5 ?_;rintro e wq ⟨vq,rfl,b3,a5⟩;have a4:=Qa (b0.out.trans (a5.mono b0.out.size));have c2:=Qa (e1.out.below a5 (Zb _));have c9:=Qa (aq.bs b3);obtain⟨Aq,qq,rfl,-⟩:=ag b3;clear b3 a5;go_wp2_with (first|(at_builtin;refine pR c2.out c9.out a3.out.1 a4.out.size ?_;intro v' wa h1 h2 h3;have b8:=Qa h1;have d9:=Qa h2;clear h1 h2 h3;have e4:=Qa (a4.out.grown d9.out a4.out.size (fun g e=>(aq.blk c2.out e).1));generalize hza:zs++qs=za at *;have c0:=Qa hza;obtain⟨Aa,qa,rfl,-⟩:=ag b8.out;obtain⟨ra1,ra2,ra3⟩:=b8.out.lit 58 e4.out;have a2:=Qa ra1;have a6:=Qa ra2;have a0:=Qa ra3;have d4:=Qa (show za.length+ ([58]:List UInt8).length<=140737488355328 from by rw[<-hza,List.length_append];have:=a3.out.2;simp only[List.length_cons,List.length_nil];omega);clear ra1 ra2 ra3 hza)|(at_builtin;refine pR a2.out a6.out d4.out a0.out.size ?_;intro v' wb h1 h2 h3;have b5:=Qa h1;have c7:=Qa h2;clear h1 h2 h3;have d3:=Qa (a0.out.grown c7.out a0.out.size (fun g e=>(aq.blk a2.out e).1));generalize hzb:za ++ [58]=zb at *;have d0:=Qa hzb;obtain⟨Ab,qb,rfl,-⟩:=ag b5.out;have d2:=Qa (show zb.length+ (JV.txt k).length<=140737488355328 from by rw[<-hzb,<-c0.out,List.length_append,List.length_append];have:=a3.out.2;simp only[List.length_cons,List.length_nil];omega);have e5:=Qa (Hc.out wb _ _ d3.out b5.out d2.out);clear hzb));refine Za e5 ?_;rintro e w7 ⟨v7,rfl,a9,b9⟩;have e2:=Qa a9;have c6:=Qa b9;generalize hr:zb++JV.txt k=rs at *;have Hr:=Qa hr;clear hr;obtain⟨A7,q7,rfl,-⟩:=ag a9;clear a9 b9;go_wp2_with fail;refine⟨⟨i+1,_,rfl,g0.out,e2.out,c6.out,by rw[<-Hr.out,<-d0.out,<-c0.out,<-Hz.out];have:=c4.out;simp only[List.append_assoc] at this ⊢;exact this⟩,?_⟩
    show n - ((i:Int)+1).toNat<n - ((i:Int)).toNat
    omega
  ·have h':¬ (i:Int)<n:=by omega
   have f9:i=ks.length:=by have:=Hi.out;have:=b6.out;omega
   have c5:=Qa (show ys ++ [125]=full by have:=Hf.out;rw[f9] at this;exact this.stop);clear f9 Hf;obtain⟨r1,r2,r3⟩:=Ho.out.lit 125 Hb.out;have b7:=Qa r1;have c8:=Qa r2;have a7:=Qa r3;have b4:=Qa (show ys.length+ ([125]:List UInt8).length<=140737488355328 from f6.out);clear r1 r2 r3;go_wp2_with (at_builtin;refine pR b7.out c8.out b4.out a7.out.size ?_;intro v' w5 h1 h2 h3;have HK:=Qa h1;have b2:=Qa h2;clear h1 h2 h3);have c1:=Qa (a7.out.grown b2.out a7.out.size (fun g e=>(aq.blk b7.out e).1));rw[c5.out] at HK;obtain⟨A5,q5,rfl,-⟩:=ag HK.out;go_ret;exact⟨_,rfl,HK.out,c1.out⟩
