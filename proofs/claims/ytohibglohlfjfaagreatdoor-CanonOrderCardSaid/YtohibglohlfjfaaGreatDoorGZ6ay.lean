import Derived.Test.YtohibglohlfjfaaGreatDoorGZ6ax
set_option linter.unusedVariables false
set_option linter.unusedSimpArgs false
set_option maxHeartbeats 64000000
set_option maxRecDepth 100000
namespace Go.Proofs.YtohibglohlfjfaaGreatDoor
open Go.RowKit Go.Shelf
variable {xs:List UInt8}{g nd p:Nat}{v:Value}{w w':World}
abbrev bG (a:Addr):Value:=.iface 409 (.pointer (some a))
def br (w:World)(g:Nat):Prop:= ∃a,w.cell? ⟨g,0,none⟩=some (bG a)
theorem br.below (h:br w g)(hb:Below w.heap.size w w'):br w' g:=by
 obtain⟨a,h⟩:=h;exact⟨a,Zg hb h⟩
def GU (w:World)(v:Value):Prop:= ∃ (g:Nat) (p:Int) (a:Addr),v =.iface 226 (.pointer (some ⟨g,0,none⟩))/\w.heap[g]?=some (.cells #[.int .i64 p,bG a] 228 (0,0))
theorem GU.below (h:GU w v)(hb:Below w.heap.size w w'):GU w' v:=by
 obtain⟨g,p,a,e,hg⟩:=h;exact⟨g,p,a,e,ai hg hb⟩
def J6 (d:Dc):Value:=.agg #[.bool d.neg,.string d.digits,.int .i64 d.exp]
def If (r:Option (Dc×Nat))(w:World)(e:Ending)(w':World):Prop:=Below w.heap.size w w'/\match r with
 |some p=>e =.returned (.tuple #[J6 p.1,.int .i64 p.2,.nilIface])
 |none=> ∃u v,e =.returned (.tuple #[u,.int .i64 0,v])/\GU w' v
theorem Dp:∀ (t:NS),t.part<=t.n->t.digs.length<=t.n->t.exps.length<=t.n->(∀c∈t.exps,eG c=true)->t.n+xs.length<=1000000000->
  (az t xs).part<=1000000000/\(az t xs).digs.length<=1000000000/\(az t xs).exps.length<=1000000000/\(az t xs).n<=1000000000/\∀c∈(az t xs).exps,eG c=true:=by
 induction xs with
 |nil=>intro t h1 h2 h3 h4 h5;simp at h5;unfold az;exact⟨by omega,by omega,by omega,by omega,h4⟩
 |cons c xs ih=>
  intro t h1 h2 h3 h4 h5;simp only[List.length_cons] at h5;unfold az
  split
  ·exact⟨by omega,by omega,by omega,by omega,h4⟩
  ·rename_i h9
   refine ih (t.next c) ?_ ?_ ?_ ?_ ?_
   ·simp only[NS.next];split <;> omega
   ·simp only[NS.next];split
    ·simp;omega
    ·omega
   ·simp only[NS.next];split
    ·simp;omega
    ·omega
   ·simp only[NS.next];split
    ·rename_i h8
     intro a ha;rcases List.mem_append.1 ha with ha|ha
     ·exact h4 a ha
     ·rw[List.mem_singleton.1 ha]
      -- state 8 is reached by digits alone
      have key:∀s,s<9->∀k,k<7->ey s k=8->k=2\/k=3:=by decide +kernel
      have h7:ey t.st (bt c)=8->bt c=2\/bt c=3:=by
       intro h
       by_cases hs:t.st<9
       ·exact key _ hs _ (by have:=uX c;omega) h
       ·exfalso
        unfold ey at h
        split at h
        ·rw[List.getD_eq_getElem?_getD,List.getElem?_eq_none (by show nR.length<=_;simp[nR];omega)] at h;simp at h
        ·omega
      have hk:=h7 h8;have:=uM (p:=fun c=> !(bt c==2||bt c==3)||eG c) (by decide +kernel) c;rcases hk with hk|hk <;> simpa [hk] using this
    ·exact h4
   ·simp only[NS.next];omega
def Ka (r:Option Dc)(a:Bool)(b:ByteArray)(c:Int)(ok:Bool):Prop:=match r with|some d=>ok=true/\a=d.neg/\b=d.digits/\c=d.exp|none=>ok=false
theorem JU.form {r:Option Dc}(h:JU r v):∃a b c ok,v =.tuple #[.agg #[.bool a,.string b,.int .i64 c],.bool ok]/\Ka r a b c ok:=by
 cases r with
 |none=>obtain⟨a,b,c,rfl⟩:=h;exact⟨a,b,c,false,rfl,rfl⟩
 |some d=>obtain rfl:=h;exact⟨_,_,_,true,rfl,rfl,rfl,rfl,rfl⟩
def Ke (r:Option Dc)(w3:World)(s6 s7:Value)(wx:World):Prop:= ∃gz a b c ok,s6 =.pointer (some ⟨gz,0,none⟩)/\s7 =.bool ok/\wx.heap[gz]?=some (.cells #[.bool a,.string b,.int .i64 c] 110 (0,0))/\Below w3.heap.size w3 wx/\Ka r a b c ok/\w3.heap.size<=gz
def SP (g:Nat)(t:NS)(Ad:Option Addr)(nd qd:Nat)(Ae:Option Addr)(ne qe:Nat)(w':World):Prop:=w'.cell? ⟨g,0,none⟩=some (.bool t.neg)/\w'.cell? ⟨g,1,none⟩=some (.bool t.down)/\w'.cell? ⟨g,2,none⟩=some (.slice Ad nd qd)/\w'.cell? ⟨g,3,none⟩=some (.int .i64 t.part)/\w'.cell? ⟨g,4,none⟩=some (.slice Ae ne qe)/\w'.cell? ⟨g,5,none⟩=some (.int .i64 t.st)/\w'.cell? ⟨g,6,none⟩=some (.int .i64 t.n)/\
 (convert 22 9 (.slice Ad nd qd)).run Tryz.prog w' =.ok (.string ⟨t.digs.toArray⟩) w'/\Bs w' (.slice Ad nd qd) t.digs
theorem SP.below {t:NS}{Ad:Option Addr}{qd:Nat}{Ae:Option Addr}{ne qe:Nat}(h:SP g t Ad nd qd Ae ne qe w)(hb:Below w.heap.size w w'):SP g t Ad nd qd Ae ne qe w':=by
 obtain⟨h0,h1,h2,h3,h4,h5,h6,-,h8⟩:=h;exact⟨Zg hb h0,Zg hb h1,Zg hb h2,Zg hb h3,Zg hb h4,Zg hb h5,Zg hb h6,aO (h8.below hb),h8.below hb⟩
theorem rr (hb:Bs w v xs)(hl:xs.length<=1000000000)(hG:nB w)(hN:br w 12)(hX:br w 13):Calls Tryz.prog 197 #[v] w (If (nJ xs) w):=by
 have c8:=ac w (.cells #[.bool false,.string es,.int .i64 0] 110);have h0:=Zf w (.cells #[.bool false,.string es,.int .i64 0] 110);have f8:=Qa (uo (hb.below c8) hl (hG.below c8));have h7:12<w.heap.size:=by obtain⟨a,h⟩:=hN;exact World.block_lt_of_cell? w _ h
 have i0:13<w.heap.size:=by obtain⟨a,h⟩:=hX;exact World.block_lt_of_cell? w _ h
 have f9:=hN.below c8;have g0:=hX.below c8;have hnum:nJ xs=if d8 (az ia xs).st then(it (az ia xs).neg (az ia xs).digs (fK (az ia xs)) (-((az ia xs).part:Int))).map fun d=>(d,(az ia xs).n) else none:=rfl
 obtain⟨b1,b2,b3,b4,b5⟩:=Dp (xs:=xs) ia (Zb _) (Zb _) (Zb _) (by simp[ia]) (by show 0+xs.length<=_;omega);rw[hnum];clear hb hG hN hX hnum;generalize az ia xs=t at *;have B5:=Qa b5;have h8:=ER b5;have H0:=Qa h0;have e4:=Qa c8;have HN:=Qa f9;have HX:=Qa g0;clear b5 h0 c8 f9 g0;go_enter Tryz.func197,Tryz.ntmps197;go_wp2_with fail;generalize w.alloc (.cells #[.bool false,.string es,.int .i64 0] 110)=w0 at *;refine Za f8 ?_;rintro e w1 ⟨vd,ve,rfl,b8,hd,he⟩;obtain⟨Ad,nd,qd,rfl⟩:∃A n q,vd =.slice A n q:=by obtain⟨A,c,e,_⟩:=ag hd;exact⟨A,_,c,e⟩
 obtain⟨Ae,ne,qe,rfl⟩:∃A n q,ve =.slice A n q:=by obtain⟨A,c,e,_⟩:=ag he;exact⟨A,_,c,e⟩
 have hz:=Zf w1 GF;have g4:=ah (w1.alloc GF) w1.heap.size #[.bool t.neg,.bool t.down,.slice Ad nd qd,.int .i64 t.part,.slice Ae ne qe,.int .i64 t.st,.int .i64 t.n];have b6:Below w1.heap.size w1 ((w1.alloc GF).setRow w1.heap.size #[.bool t.neg,.bool t.down,.slice Ad nd qd,.int .i64 t.part,.slice Ae ne qe,.int .i64 t.st,.int .i64 t.n]):=(ac w1 GF).grown g4 (by simp) (fun g e=>by cases e;exact Zb _);have ht:=setRow_heap (w1.alloc GF) w1.heap.size _ #[.bool t.neg,.bool t.down,.slice Ad nd qd,.int .i64 t.part,.slice Ae ne qe,.int .i64 t.st,.int .i64 t.n] _ _ hz;have e1:=Qa (e4.out.trans ((b8.trans (b6.mono b8.size)).mono e4.out.size));have e5:=Qa (ai (ai H0.out b8) b6);have f4:=Qa ((HN.out.below b8).below b6);have g2:=Qa ((HX.out.below b8).below b6);have Hd:=Qa (hd.bs.below b6);have He:=Qa (he.bs.below b6);have Ht:=Qa ht;have h5:w.heap.size<w1.heap.size:=Nat.lt_of_lt_of_le (ae H0.out) b8.size;have h6:=b6.size;clear f8 b8 hd he b6 ht e4 H0 HN HX g4;have g1:(w1.alloc (.cells #[.bool false,.bool false,.slice none 0 0,.int .i64 0,.slice none 0 0,.int .i64 0,.int .i64 0] 354)).heap[w1.heap.size]?=some (.cells #[.bool false,.bool false,.slice none 0 0,.int .i64 0,.slice none 0 0,.int .i64 0,.int .i64 0] 354):=hz;clear hz;go_upto_region 2 with (refine bF g1 ?_)
 unfold GF at *;generalize (w1.alloc (.cells #[.bool false,.bool false,.slice none 0 0,.int .i64 0,.slice none 0 0,.int .i64 0,.int .i64 0] 354)).setRow w1.heap.size #[.bool t.neg,.bool t.down,.slice Ad nd qd,.int .i64 t.part,.slice Ae ne qe,.int .i64 t.st,.int .i64 t.n]=w2 at *;clear g1;have c0:=aa Ht.out (j:=0) (u:=.bool t.neg) rfl;have c1:=aa Ht.out (j:=1) (u:=.bool t.down) rfl;have c2:=aa Ht.out (j:=2) (u:=.slice Ad nd qd) rfl;have c3:=aa Ht.out (j:=3) (u:=.int .i64 t.part) rfl;have c4:=aa Ht.out (j:=4) (u:=.slice Ae ne qe) rfl;have c5:=aa Ht.out (j:=5) (u:=.int .i64 t.st) rfl;have c6:=aa Ht.out (j:=6) (u:=.int .i64 t.n) rfl
 by_cases hw:d8 t.st=true
 ·go_wp2_with fail;refine(py t (.slice Ad nd qd) (.slice Ae ne qe) w2).mono ?_;rintro e w3 ⟨rfl,a5⟩;rw[hw];have H3:=Qa (ai Ht.out a5);have c9:=Qa (e1.out.trans (a5.mono e1.out.size));have d9:=Qa (ai e5.out a5);have g3:=Qa (g2.out.below a5);have f1:=Qa (Hd.out.below a5);have f2:=Qa (He.out.below a5);have d0:=aa H3.out (j:=0) (u:=.bool t.neg) rfl;have d1:=aa H3.out (j:=1) (u:=.bool t.down) rfl;have d2:=aa H3.out (j:=2) (u:=.slice Ad nd qd) rfl;have d3:=aa H3.out (j:=3) (u:=.int .i64 t.part) rfl;have d4:=aa H3.out (j:=4) (u:=.slice Ae ne qe) rfl;have d5:=aa H3.out (j:=5) (u:=.int .i64 t.st) rfl;have d6:=aa H3.out (j:=6) (u:=.int .i64 t.n) rfl;have h4:=a5.size;clear a5 c0 c1 c2 c3 c4 c5 c6 Hd He g2 f4 e5 e1 Ht;go_wp2_with fail;have h9:w.heap.size<w3.heap.size:=ae d9.out;have swn:IntKind.i64.wrap (-(t.part:Int)) = -(t.part:Int):=IntWalk.i64_in _ (by omega);go_cut [6,7] (fun s6 s7 wx=>Ke (it t.neg t.digs (fK t) (-(t.part:Int))) w3 s6 s7 wx)
  case first=>
   obtain⟨wq,hwq⟩:∃wq,w3.drew=wq:=⟨_,rfl⟩;have Hq:Hid (Below w3.heap.size w3 wq):=Qa (by rw[<-hwq];exact(Ze _ _).drew);have SP3:Hid (SP w1.heap.size t Ad nd qd Ae ne qe w3):=Qa ⟨d0,d1,d2,d3,d4,d5,d6,aO f1.out,f1.out⟩;refine aA (fun w'=>w'.cell? ⟨w1.heap.size,0,none⟩=some (.bool t.neg)/\w'.cell? ⟨w1.heap.size,1,none⟩=some (.bool t.down)/\w'.cell? ⟨w1.heap.size,2,none⟩=some (.slice Ad nd qd)/\w'.cell? ⟨w1.heap.size,3,none⟩=some (.int .i64 t.part)/\w'.cell? ⟨w1.heap.size,4,none⟩=some (.slice Ae ne qe)/\w'.cell? ⟨w1.heap.size,5,none⟩=some (.int .i64 t.st)/\w'.cell? ⟨w1.heap.size,6,none⟩=some (.int .i64 t.n)/\(convert 22 9 (.slice Ad nd qd)).run Tryz.prog w' =.ok (.string ⟨t.digs.toArray⟩) w'/\Bs w' (.slice Ad nd qd) t.digs) ((by rw[hwq];exact(SP.below SP3.out Hq.out:SP w1.heap.size t Ad nd qd Ae ne qe wq))) fun a0=>?_
   rw[hwq] at a0 ⊢;clear hwq;refine tH 0 a0 ?_;refine tH 1 a0 ?_;refine tH 2 a0 ?_;refine tH 3 a0 ?_;refine tH 4 a0 ?_;refine tH 5 a0 ?_
   try simp only[Act.put,jP,jQ,jR]
   refine tH 7 a0 ?_;refine tH 8 a0 ?_;refine tH 9 a0 ?_
   try simp only[Act.put,jP,jQ,jR]
   refine wpAnyH_ready (rs:= [6,14]) (by kernel_rfl) (by simp) ?_;refine AllReadyH.cons (nu rfl) (fun K hK=>?_) (AllReadyH.cons (nu rfl) (fun K hK=>?_) AllReadyH.nil);go_simp;refine(pH t (.slice Ad nd qd) (.slice Ae ne qe) (f2.out.below Hq.out) B5.out b3).mono ?_;rintro e wn ⟨rfl,hb⟩;have Hq:=Qa (bu Hq.out hb);(try have Hzq:=Qa (ai Hzq.out hb));obtain⟨wq,hwq⟩:∃x,x=wn:=⟨_,rfl⟩;subst hwq;refine hK.out _ _ ((SP.below SP3.out Hq.out:SP w1.heap.size t Ad nd qd Ae ne qe _)) (fun a0=>?_);clear hK K
   try simp only[Act.put,jP,jQ,jR]
   refine wpAnyH_ready (rs:= [10,14]) (by kernel_rfl) (by simp) ?_;refine AllReadyH.cons (nu rfl) (fun K hK=>?_) (AllReadyH.cons (nu rfl) (fun K hK=>?_) AllReadyH.nil);go_simp;(try rw[swn]);refine(iO t.neg t.digs (fK t) (-(t.part:Int)) b2 (by omega) (by omega) wq).mono ?_;rintro e wn ⟨vN,rfl,b0,hb⟩;obtain⟨a,b,c,ok,rfl,b7⟩:=b0.form;have Hvr:=Qa b7;clear b7 b0;have Hq:=Qa (bu Hq.out hb);(try have Hzq:=Qa (ai Hzq.out hb));obtain⟨wq,hwq⟩:∃x,x=wn:=⟨_,rfl⟩;subst hwq;refine hK.out _ _ ((SP.below SP3.out Hq.out:SP w1.heap.size t Ad nd qd Ae ne qe _)) (fun a0=>?_);clear hK K
   try simp only[Act.put,jP,jQ,jR]
   refine tH 11 a0 ?_;refine tH 12 a0 ?_;refine tH 13 a0 ?_
   try simp only[Act.put,jP,jQ,jR]
   refine rH 14 fun K hK=>?_
   go_simp;have hb:=ac wq (.cells #[.bool false,.string es,.int .i64 0] 110);have a7:=Zf wq (.cells #[.bool false,.string es,.int .i64 0] 110);obtain⟨gz,a9⟩:∃g,wq.heap.size=g:=⟨_,rfl⟩;have Hgz:=Qa (show w3.heap.size<=gz by rw[<-a9];exact Hq.out.size);rw[a9] at a7 ⊢;have Hzq:=Qa a7;have Hq:=Qa (bu Hq.out hb);obtain⟨wn,a3⟩:∃x,wq.alloc (.cells #[.bool false,.string es,.int .i64 0] 110)=x:=⟨_,rfl⟩;rw[a3] at Hzq Hq hb ⊢;clear a7;obtain⟨wq,hwq⟩:∃x,x=wn:=⟨_,rfl⟩;subst hwq;refine hK.out _ _ ((SP.below SP3.out Hq.out:SP w1.heap.size t Ad nd qd Ae ne qe _)) (fun a0=>?_);clear hK K
   try simp only[Act.put,jP,jQ,jR]
   rotate_left
   go_simp;have hb:=ac wq (.cells #[.bool false,.string es,.int .i64 0] 110);have a7:=Zf wq (.cells #[.bool false,.string es,.int .i64 0] 110);obtain⟨gz,a9⟩:∃g,wq.heap.size=g:=⟨_,rfl⟩;have Hgz:=Qa (show w3.heap.size<=gz by rw[<-a9];exact Hq.out.size);rw[a9] at a7 ⊢;have Hzq:=Qa a7;have Hq:=Qa (bu Hq.out hb);obtain⟨wn,a3⟩:∃x,wq.alloc (.cells #[.bool false,.string es,.int .i64 0] 110)=x:=⟨_,rfl⟩;rw[a3] at Hzq Hq hb ⊢;clear a7;obtain⟨wq,hwq⟩:∃x,x=wn:=⟨_,rfl⟩;subst hwq;refine hK.out _ _ ((SP.below SP3.out Hq.out:SP w1.heap.size t Ad nd qd Ae ne qe _)) (fun a0=>?_);clear hK K
   try simp only[Act.put,jP,jQ,jR]
   refine rH 10 fun K hK=>?_
   go_simp;(try rw[swn]);refine(iO t.neg t.digs (fK t) (-(t.part:Int)) b2 (by omega) (by omega) wq).mono ?_;rintro e wn ⟨vN,rfl,b0,hb⟩;obtain⟨a,b,c,ok,rfl,b7⟩:=b0.form;have Hvr:=Qa b7;clear b7 b0;have Hq:=Qa (bu Hq.out hb);(try have Hzq:=Qa (ai Hzq.out hb));obtain⟨wq,hwq⟩:∃x,x=wn:=⟨_,rfl⟩;subst hwq;refine hK.out _ _ ((SP.below SP3.out Hq.out:SP w1.heap.size t Ad nd qd Ae ne qe _)) (fun a0=>?_);clear hK K
   try simp only[Act.put,jP,jQ,jR]
   refine tH 11 a0 ?_;refine tH 12 a0 ?_;refine tH 13 a0 ?_
   try simp only[Act.put,jP,jQ,jR]
   rotate_left
   go_simp;have hb:=ac wq (.cells #[.bool false,.string es,.int .i64 0] 110);have a7:=Zf wq (.cells #[.bool false,.string es,.int .i64 0] 110);obtain⟨gz,a9⟩:∃g,wq.heap.size=g:=⟨_,rfl⟩;have Hgz:=Qa (show w3.heap.size<=gz by rw[<-a9];exact Hq.out.size);rw[a9] at a7 ⊢;have Hzq:=Qa a7;have Hq:=Qa (bu Hq.out hb);obtain⟨wn,a3⟩:∃x,wq.alloc (.cells #[.bool false,.string es,.int .i64 0] 110)=x:=⟨_,rfl⟩;rw[a3] at Hzq Hq hb ⊢;clear a7;obtain⟨wq,hwq⟩:∃x,x=wn:=⟨_,rfl⟩;subst hwq;refine hK.out _ _ ((SP.below SP3.out Hq.out:SP w1.heap.size t Ad nd qd Ae ne qe _)) (fun a0=>?_);clear hK K
   try simp only[Act.put,jP,jQ,jR]
   refine rH 6 fun K hK=>?_
   go_simp;refine(pH t (.slice Ad nd qd) (.slice Ae ne qe) (f2.out.below Hq.out) B5.out b3).mono ?_;rintro e wn ⟨rfl,hb⟩;have Hq:=Qa (bu Hq.out hb);(try have Hzq:=Qa (ai Hzq.out hb));obtain⟨wq,hwq⟩:∃x,x=wn:=⟨_,rfl⟩;subst hwq;refine hK.out _ _ ((SP.below SP3.out Hq.out:SP w1.heap.size t Ad nd qd Ae ne qe _)) (fun a0=>?_);clear hK K
   try simp only[Act.put,jP,jQ,jR]
   refine rH 10 fun K hK=>?_
   go_simp;(try rw[swn]);refine(iO t.neg t.digs (fK t) (-(t.part:Int)) b2 (by omega) (by omega) wq).mono ?_;rintro e wn ⟨vN,rfl,b0,hb⟩;obtain⟨a,b,c,ok,rfl,b7⟩:=b0.form;have Hvr:=Qa b7;clear b7 b0;have Hq:=Qa (bu Hq.out hb);(try have Hzq:=Qa (ai Hzq.out hb));obtain⟨wq,hwq⟩:∃x,x=wn:=⟨_,rfl⟩;subst hwq;refine hK.out _ _ ((SP.below SP3.out Hq.out:SP w1.heap.size t Ad nd qd Ae ne qe _)) (fun a0=>?_);clear hK K
   try simp only[Act.put,jP,jQ,jR]
   refine tH 11 a0 ?_;refine tH 12 a0 ?_;refine tH 13 a0 ?_
   try simp only[Act.put,jP,jQ,jR]
   rotate_left
   all_goals
    refine rH 15 fun K hK=>?_
    refine bM Hzq.out ?_;have Hq:=Qa (Hq.out.grown (ah wq gz #[.bool a,.string b,.int .i64 c]) Hq.out.size (fun g e=>by cases e;exact Hgz.out));have Hzq:=Qa (setRow_heap _ _ _ #[.bool a,.string b,.int .i64 c] _ _ Hzq.out);obtain⟨wn,a3⟩:∃x,wq.setRow gz #[.bool a,.string b,.int .i64 c]=x:=⟨_,rfl⟩;rw[a3] at Hzq Hq ⊢;obtain⟨wq,hwq⟩:∃x,x=wn:=⟨_,rfl⟩;subst hwq;refine hK.out _ _ ((SP.below SP3.out Hq.out:SP w1.heap.size t Ad nd qd Ae ne qe _)) (fun a0=>?_);clear hK K
    try simp only[Act.put,jP,jQ,jR]
    refine tH 16 a0 ?_
    try simp only[Act.put,jP,jQ,jR]
    refine wpAnyH_done (by kernel_rfl) (NoPanic.normal ?_) _;go_wp2_with fail;go_meet
    case rel=>exact⟨gz,a,b,c,ok,rfl,rfl,Hzq.out,Hq.out,Hvr.out,Hgz.out⟩
  case rest=>
   obtain⟨gz,a,b,c,ok,rfl,rfl,hz,hq,f5,g5⟩:=hcut;have f6:=Qa f5;have e6:=Zg hq d6;have e2:=Qa (ai d9.out hq);have e3:=Qa (c9.out.trans (hq.mono c9.out.size));have g6:=Qa (g3.out.below hq);have z0:=aa hz (j:=0) (u:=.bool a) rfl;have z1:=aa hz (j:=1) (u:=.string b) rfl;have z2:=aa hz (j:=2) (u:=.int .i64 c) rfl;have e8:w.heap.size<gz:=by omega
   clear hz hq f5 d0 d1 d2 d3 d4 d5 d6 f1 f2 H3 d9 c9 g3;obtain⟨aX,g8⟩:=g6.out
   cases ok with
   |true=>
    have f0:=Qa ((e3.out.drew).grown (ah wc.drew w.heap.size #[.bool a,.string b,.int .i64 c]) e3.out.size (fun g e=>by cases e;exact Zb _));have c7:gz≠w.heap.size:=fun e=>by subst e;exact absurd e8 (Nat.lt_irrefl _)
    go_wp2_with fail;refine aA (fun w'=>w'.cell? ⟨gz,0,none⟩=some (.bool a)/\w'.cell? ⟨gz,1,none⟩=some (.string b)/\w'.cell? ⟨gz,2,none⟩=some (.int .i64 c)/\w'.cell? ⟨w1.heap.size,6,none⟩=some (.int .i64 t.n)) (⟨z0,z1,z2,e6⟩) fun a0=>?_
    refine tH 0 a0 ?_;refine tH 1 a0 ?_;refine tH 2 a0 ?_
    try simp only[Act.put,jP,jQ,jR]
    refine rH 3 fun K hK=>?_
    refine bM e2.out ?_;have hg:=ah wc.drew w.heap.size #[.bool a,.string b,.int .i64 c];refine hK.out _ _ (⟨hg.cell a0.1 (fun e=>by injection e with e;exact c7 e),hg.cell a0.2.1 (fun e=>by injection e with e;exact c7 e),hg.cell a0.2.2.1 (fun e=>by injection e with e;exact c7 e),hg.cell a0.2.2.2 (fun e=>by injection e with e;have e:w1.heap.size=w.heap.size:=e;omega)⟩) (fun a0=>?_);clear hK K
    try simp only[Act.put,jP,jQ,jR]
    refine tH 4 a0 ?_;refine tH 5 a0 ?_
    try simp only[Act.put,jP,jQ,jR]
    refine wpAnyH_done (by kernel_rfl) (NoPanic.normal ?_) _;go_wp2_with fail;have hd:=f6.out;have e0:If ((it t.neg t.digs (fK t) (-(t.part:Int))).map fun d=>(d,t.n)) w (.returned (.tuple #[.agg #[.bool a,.string b,.int .i64 c],.int .i64 t.n,.nilIface])) (wc.drew.setRow w.heap.size #[.bool a,.string b,.int .i64 c]):=by
     refine⟨f0.out,?_⟩
     cases hr:it t.neg t.digs (fK t) (-(t.part:Int)) with
     |none=>rw[hr] at hd;cases hd
     |some d=>rw[hr] at hd;obtain⟨-,rfl,rfl,rfl⟩:=hd;rfl
    exact Zh (iC Tryz.results197 _ _ w.heap.size 110 _ _ _ (0,0) (by simp) (setRow_heap _ _ _ _ _ _ e2.out)) rfl e0
   |false=>
    have f3:∀u v w',Below w.heap.size w w'->GU w' v->If ((it t.neg t.digs (fK t) (-(t.part:Int))).map fun d=>(d,t.n)) w (.returned (.tuple #[u,.int .i64 0,v])) w':=by
     intro u v w' h1 h2;have hd:=f6.out;refine⟨h1,?_⟩
     cases hr:it t.neg t.digs (fK t) (-(t.part:Int)) with
     |some d=>rw[hr] at hd;cases hd.1
     |none=>exact⟨u,v,rfl,h2⟩
    have h3:=Qa f3;clear f3;go_wp2_with fail;obtain⟨wq,hwq⟩:∃wq,wc.drew=wq:=⟨_,rfl⟩;have a2:Hid (wq.heap[w.heap.size]?=some (.cells #[.bool false,.string es,.int .i64 0] 110 (0,0))):=Qa (by rw[<-hwq];exact e2.out);have a1:=Qa (show Below w.heap.size w wq by rw[<-hwq];exact e3.out.drew);clear e2 e3 z0 z1 z2 e6;refine aA (fun w'=>w'.cell? ⟨13,0,none⟩=some (bG aX)) (g8) fun a0=>?_
    rw[hwq] at a0 ⊢;clear hwq;refine tH 0 a0 ?_;refine tH 1 a0 ?_;refine tH 2 a0 ?_
    try simp only[Act.put,jP,jQ,jR]
    refine wpAnyH_ready (rs:= [3,5]) (by kernel_rfl) (by simp) ?_;refine AllReadyH.cons (nu rfl) (fun K hK=>?_) (AllReadyH.cons (nu rfl) (fun K hK=>?_) AllReadyH.nil);go_simp;have hb:=ac wq (.cells #[.int .i64 0,bG aX] 228);have a4:=Qa (Zf wq (.cells #[.int .i64 0,bG aX] 228));obtain⟨gb,a6⟩:∃g,wq.heap.size=g:=⟨_,rfl⟩;have b9:=Qa (show w.heap.size<gb by rw[<-a6];exact ae a2.out);rw[a6] at a4 ⊢;have a2:=Qa (ai a2.out hb);have a1:=Qa (a1.out.trans (hb.mono a1.out.size));obtain⟨wn,a3⟩:∃x,wq.alloc (.cells #[.int .i64 0,bG aX] 228)=x:=⟨_,rfl⟩;rw[a3] at a4 a2 a1 hb ⊢;obtain⟨wq,hwq⟩:∃x,x=wn:=⟨_,rfl⟩;subst hwq;refine hK.out _ _ (Zg hb a0) (fun a0=>?_);clear hK K
    try simp only[Act.put,jP,jQ,jR]
    refine tH 4 a0 ?_
    try simp only[Act.put,jP,jQ,jR]
    refine rH 5 fun K hK=>?_
    refine bM a2.out ?_;have hg:=ah wq w.heap.size #[.bool false,.string es,.int .i64 0];have a1:=Qa (a1.out.grown hg a1.out.size (fun g e=>by cases e;exact Zb _));(try have a4:=Qa (aB a4.out hg (fun e=>by injection e with e;have:=b9.out;omega)));have a2:=Qa (setRow_heap _ _ _ #[.bool false,.string es,.int .i64 0] _ _ a2.out);obtain⟨wn,a3⟩:∃x,wq.setRow w.heap.size #[.bool false,.string es,.int .i64 0]=x:=⟨_,rfl⟩;rw[a3] at a2 a1 hg ⊢;(try rw[a3] at a4);obtain⟨wq,hwq⟩:∃x,x=wn:=⟨_,rfl⟩;subst hwq;refine hK.out _ _ (hg.cell a0 (fun e=>by injection e with e;have e:13=w.heap.size:=e;omega)) (fun a0=>?_);clear hK K
    try simp only[Act.put,jP,jQ,jR]
    refine tH 6 a0 ?_;refine tH 7 a0 ?_
    try simp only[Act.put,jP,jQ,jR]
    rotate_left
    refine bM a2.out ?_;have hg:=ah wq w.heap.size #[.bool false,.string es,.int .i64 0];have a1:=Qa (a1.out.grown hg a1.out.size (fun g e=>by cases e;exact Zb _));(try have a4:=Qa (aB a4.out hg (fun e=>by injection e with e;have:=b9.out;omega)));have a2:=Qa (setRow_heap _ _ _ #[.bool false,.string es,.int .i64 0] _ _ a2.out);obtain⟨wn,a3⟩:∃x,wq.setRow w.heap.size #[.bool false,.string es,.int .i64 0]=x:=⟨_,rfl⟩;rw[a3] at a2 a1 hg ⊢;(try rw[a3] at a4);obtain⟨wq,hwq⟩:∃x,x=wn:=⟨_,rfl⟩;subst hwq;refine hK.out _ _ (hg.cell a0 (fun e=>by injection e with e;have e:13=w.heap.size:=e;omega)) (fun a0=>?_);clear hK K
    try simp only[Act.put,jP,jQ,jR]
    refine tH 6 a0 ?_
    try simp only[Act.put,jP,jQ,jR]
    refine rH 3 fun K hK=>?_
    go_simp;have hb:=ac wq (.cells #[.int .i64 0,bG aX] 228);have a4:=Qa (Zf wq (.cells #[.int .i64 0,bG aX] 228));obtain⟨gb,a6⟩:∃g,wq.heap.size=g:=⟨_,rfl⟩;have b9:=Qa (show w.heap.size<gb by rw[<-a6];exact ae a2.out);rw[a6] at a4 ⊢;have a2:=Qa (ai a2.out hb);have a1:=Qa (a1.out.trans (hb.mono a1.out.size));obtain⟨wn,a3⟩:∃x,wq.alloc (.cells #[.int .i64 0,bG aX] 228)=x:=⟨_,rfl⟩;rw[a3] at a4 a2 a1 hb ⊢;obtain⟨wq,hwq⟩:∃x,x=wn:=⟨_,rfl⟩;subst hwq;refine hK.out _ _ (Zg hb a0) (fun a0=>?_);clear hK K
    try simp only[Act.put,jP,jQ,jR]
    refine tH 4 a0 ?_;refine tH 7 a0 ?_
    try simp only[Act.put,jP,jQ,jR]
    rotate_left
    all_goals
     refine wpAnyH_done (by kernel_rfl) (NoPanic.normal ?_) _;go_wp2_with fail;exact Zh (iC Tryz.results197 _ _ w.heap.size 110 _ _ _ (0,0) (by simp) a2.out) rfl (h3.out _ _ _ a1.out ⟨gb,_,aX,rfl,a4.out⟩)
 ·have g7:d8 t.st=false:=by simpa using hw
  go_wp2_with fail;refine(py t (.slice Ad nd qd) (.slice Ae ne qe) w2).mono ?_;rintro e w3 ⟨rfl,a5⟩;rw[g7];have H3:=Qa (ai Ht.out a5);have c9:=Qa (e1.out.trans (a5.mono e1.out.size));have d9:=Qa (ai e5.out a5);obtain⟨aN,g9⟩:=f4.out.below a5;have d6:=aa H3.out (j:=6) (u:=.int .i64 t.n) rfl;have h4:=a5.size;clear a5 c0 c1 c2 c3 c4 c5 c6;go_wp2_with fail;obtain⟨wq,hwq⟩:∃wq,w3.drew=wq:=⟨_,rfl⟩;have a2:Hid (wq.heap[w.heap.size]?=some (.cells #[.bool false,.string es,.int .i64 0] 110 (0,0))):=Qa (by rw[<-hwq];exact d9.out);have a1:=Qa (show Below w.heap.size w wq by rw[<-hwq];exact c9.out.drew);clear d9 c9;refine aA (fun w'=>w'.cell? ⟨w1.heap.size,6,none⟩=some (.int .i64 t.n)/\w'.cell? ⟨12,0,none⟩=some (bG aN)) (⟨d6,g9⟩) fun a0=>?_
  rw[hwq] at a0 ⊢;clear hwq;refine tH 0 a0 ?_;refine tH 1 a0 ?_;refine tH 2 a0 ?_;refine tH 3 a0 ?_;refine tH 4 a0 ?_
  try simp only[Act.put,jP,jQ,jR]
  refine wpAnyH_ready (rs:= [5,7]) (by kernel_rfl) (by simp) ?_;refine AllReadyH.cons (nu rfl) (fun K hK=>?_) (AllReadyH.cons (nu rfl) (fun K hK=>?_) AllReadyH.nil);go_simp;have hb:=ac wq (.cells #[.int .i64 t.n,bG aN] 228);have a4:=Qa (Zf wq (.cells #[.int .i64 t.n,bG aN] 228));obtain⟨gb,a6⟩:∃g,wq.heap.size=g:=⟨_,rfl⟩;have b9:=Qa (show w.heap.size<gb by rw[<-a6];exact ae a2.out);rw[a6] at a4 ⊢;have a2:=Qa (ai a2.out hb);have a1:=Qa (a1.out.trans (hb.mono a1.out.size));obtain⟨wn,a3⟩:∃x,wq.alloc (.cells #[.int .i64 t.n,bG aN] 228)=x:=⟨_,rfl⟩;rw[a3] at a4 a2 a1 hb ⊢;obtain⟨wq,hwq⟩:∃x,x=wn:=⟨_,rfl⟩;subst hwq;refine hK.out _ _ (⟨Zg hb a0.1,Zg hb a0.2⟩) (fun a0=>?_);clear hK K
  try simp only[Act.put,jP,jQ,jR]
  refine tH 6 a0 ?_
  try simp only[Act.put,jP,jQ,jR]
  refine rH 7 fun K hK=>?_
  refine bM a2.out ?_;have hg:=ah wq w.heap.size #[.bool false,.string es,.int .i64 0];have a1:=Qa (a1.out.grown hg a1.out.size (fun g e=>by cases e;exact Zb _));(try have a4:=Qa (aB a4.out hg (fun e=>by injection e with e;have:=b9.out;omega)));have a2:=Qa (setRow_heap _ _ _ #[.bool false,.string es,.int .i64 0] _ _ a2.out);obtain⟨wn,a3⟩:∃x,wq.setRow w.heap.size #[.bool false,.string es,.int .i64 0]=x:=⟨_,rfl⟩;rw[a3] at a2 a1 hg ⊢;(try rw[a3] at a4);obtain⟨wq,hwq⟩:∃x,x=wn:=⟨_,rfl⟩;subst hwq;refine hK.out _ _ (⟨hg.cell a0.1 (fun e=>by injection e with e;have e:w1.heap.size=w.heap.size:=e;omega),hg.cell a0.2 (fun e=>by injection e with e;have e:12=w.heap.size:=e;omega)⟩) (fun a0=>?_);clear hK K
  try simp only[Act.put,jP,jQ,jR]
  refine tH 8 a0 ?_;refine tH 9 a0 ?_
  try simp only[Act.put,jP,jQ,jR]
  rotate_left
  refine bM a2.out ?_;have hg:=ah wq w.heap.size #[.bool false,.string es,.int .i64 0];have a1:=Qa (a1.out.grown hg a1.out.size (fun g e=>by cases e;exact Zb _));(try have a4:=Qa (aB a4.out hg (fun e=>by injection e with e;have:=b9.out;omega)));have a2:=Qa (setRow_heap _ _ _ #[.bool false,.string es,.int .i64 0] _ _ a2.out);obtain⟨wn,a3⟩:∃x,wq.setRow w.heap.size #[.bool false,.string es,.int .i64 0]=x:=⟨_,rfl⟩;rw[a3] at a2 a1 hg ⊢;(try rw[a3] at a4);obtain⟨wq,hwq⟩:∃x,x=wn:=⟨_,rfl⟩;subst hwq;refine hK.out _ _ (⟨hg.cell a0.1 (fun e=>by injection e with e;have e:w1.heap.size=w.heap.size:=e;omega),hg.cell a0.2 (fun e=>by injection e with e;have e:12=w.heap.size:=e;omega)⟩) (fun a0=>?_);clear hK K
  try simp only[Act.put,jP,jQ,jR]
  refine tH 8 a0 ?_
  try simp only[Act.put,jP,jQ,jR]
  refine rH 5 fun K hK=>?_
  go_simp;have hb:=ac wq (.cells #[.int .i64 t.n,bG aN] 228);have a4:=Qa (Zf wq (.cells #[.int .i64 t.n,bG aN] 228));obtain⟨gb,a6⟩:∃g,wq.heap.size=g:=⟨_,rfl⟩;have b9:=Qa (show w.heap.size<gb by rw[<-a6];exact ae a2.out);rw[a6] at a4 ⊢;have a2:=Qa (ai a2.out hb);have a1:=Qa (a1.out.trans (hb.mono a1.out.size));obtain⟨wn,a3⟩:∃x,wq.alloc (.cells #[.int .i64 t.n,bG aN] 228)=x:=⟨_,rfl⟩;rw[a3] at a4 a2 a1 hb ⊢;obtain⟨wq,hwq⟩:∃x,x=wn:=⟨_,rfl⟩;subst hwq;refine hK.out _ _ (⟨Zg hb a0.1,Zg hb a0.2⟩) (fun a0=>?_);clear hK K
  try simp only[Act.put,jP,jQ,jR]
  refine tH 6 a0 ?_;refine tH 9 a0 ?_
  try simp only[Act.put,jP,jQ,jR]
  rotate_left
  all_goals
   refine wpAnyH_done (by kernel_rfl) (NoPanic.normal ?_) _;go_wp2_with fail;exact Zh (iC Tryz.results197 _ _ w.heap.size 110 _ _ _ (0,0) (by simp) a2.out) rfl ⟨a1.out,⟨_,_,rfl,gb,_,aN,rfl,a4.out⟩⟩
def o0:List (List UInt8):= [[49,45,53,45,45,45,45,45,45,45,45,45,50,52,45,45], [52,52,52,52,52,52,52,52,52,52,50,45,45,45,45,45], [45,51,51,51,51,51,51,51,51,51,51,51,51,51,51,51], [51,51,51,51,51,51,51,51,51,51,51,50,45,50,45,45], [45,51,51,51,51,51,51,51,51,51,51,51,51,51,51,51], [51,51,51,51,51,51,51,51,51,51,51,50,45,50,45,45]]
def li (w:World):Prop:= ∀i,i<6->w.cell? ⟨9,i,none⟩=some (.string ⟨(o0.getD i []).toArray⟩)
theorem li.below (h:li w)(hb:Below w.heap.size w w'):li w':=fun i hi=>Zg hb (h i hi)
theorem CJ (x:UInt8):(x.toNat=9\/x.toNat=10\/x.toNat=13->co x=1)/\(¬ (x.toNat=9\/x.toNat=10\/x.toNat=13)->(x.toNat<32\/127<x.toNat)->co x=0)/\(32<=x.toNat->x.toNat<=127->((co x:Nat):Int)=max ((((o0.getD (x.toNat/16 - 2) []).getD (x.toNat % 16) 0).toNat:Int) - 48) 0):=by
 have:=uM (p:=fun x=>decide ((x.toNat=9\/x.toNat=10\/x.toNat=13->co x=1)/\(¬ (x.toNat=9\/x.toNat=10\/x.toNat=13)->(x.toNat<32\/127<x.toNat)->co x=0)/\(32<=x.toNat->x.toNat<=127->((co x:Nat):Int)=max ((((o0.getD (x.toNat/16 - 2) []).getD (x.toNat % 16) 0).toNat:Int) - 48) 0))) (by decide +kernel) x;exact of_decide_eq_true this
theorem zU (R:List UInt8)(j:Nat)(h:j<R.length):R[j]?=some (R.getD j 0):=by simp[Zd h]
theorem Fq:∀i,i<6->(o0.getD i []).length=16:=by decide
theorem pE {k:IntKind}{s:ByteArray}{x:UInt8}(hg:s.data.toList[p]?=some x)(w':World):(Instr.index 9 (.string s) (.int k (p:Int))).run Tryz.prog w' =.ok (.int .u8 x.toNat) w':=by
 have hlt:p<s.size:=by
  have h2:=(List.getElem?_eq_some_iff.1 hg).1;rw[Array.length_toList] at h2;exact h2
 rw[run_index_string w' 9 s k (p:Int) Tryz.underlying9,dif_pos ⟨Int.natCast_nonneg _,by omega⟩];have h3:s[((p:Nat):Int).toNat]'(by simpa using hlt)=x:=by
  simp only[Int.toNat_natCast];have h4:s.data[p]?=some x:=by rw[<-Array.getElem?_toList];exact hg
  exact(Array.getElem?_eq_some_iff.1 h4).2
 rw[h3]
theorem dM (x:UInt8)(hB:li w):Calls Tryz.prog 170 #[.int .u8 x.toNat] w fun e w'=>e =.returned (.int .i64 (co x:Nat))/\w=w':=by
 obtain⟨k1,k2,k3⟩:=CJ x;have hx:=x.toNat_lt;obtain⟨n,hn⟩:∃n,x.toNat=n:=⟨_,rfl⟩;rw[hn] at k1 k2 k3 hx ⊢;obtain⟨k,hk⟩:∃k,co x=k:=⟨_,rfl⟩;rw[hk] at k1 k2 k3 ⊢;clear hn hk
 by_cases h1:n=9\/n=10\/n=13
 ·obtain rfl:=k1 h1;clear k1 k2 k3;go_enter Tryz.func170,Tryz.ntmps170;rcases h1 with rfl|rfl|rfl
  ·go_wp2;go_ret;exact⟨rfl,rfl⟩
  ·go_wp2;go_ret;exact⟨rfl,rfl⟩
  ·go_wp2;go_ret;exact⟨rfl,rfl⟩
 ·have e1:((n:Int)==9)=false:=by simp;omega
  have e2:((n:Int)==10)=false:=by simp;omega
  have e3:((n:Int)==13)=false:=by simp;omega
  by_cases h2:n<32\/127<n
  ·obtain rfl:=k2 h1 h2;clear k1 k2 k3 h1;go_enter Tryz.func170,Tryz.ntmps170;rcases h2 with h2|h2
   ·have a2:(n:Int)<32:=by omega
    go_wp2;go_ret;exact⟨rfl,rfl⟩
   ·have a2:¬ (n:Int)<32:=by omega
    have a3:(127:Int)<n:=by omega
    go_wp2;go_ret;exact⟨rfl,rfl⟩
  ·have k3:=k3 (by omega) (by omega);have hc:=hB (n/16 - 2) (by omega);have hl:=Fq (n/16 - 2) (by omega);obtain⟨v,hv⟩:∃v:UInt8,(o0.getD (n/16 - 2) []).getD (n % 16) 0=v:=⟨_,rfl⟩;have a0:=fun w'=>pE (k:=.u8) (s:=⟨(o0.getD (n/16 - 2) []).toArray⟩) (p:=n % 16) (x:=v) (by
    show(o0.getD (n/16 - 2) [])[n % 16]?=some v
    rw[<-hv];exact zU _ _ (by rw[hl];omega)) w'
   rw[hv] at k3;have a1:=v.toNat_lt;obtain⟨z,hz⟩:∃z:Int,(v.toNat:Int)=z:=⟨_,rfl⟩;rw[hz] at k3 a0;have a4:0<=z:=by omega
   have a5:z<256:=by omega
   generalize (⟨(o0.getD (n/16 - 2) []).toArray⟩:ByteArray)=row at *;obtain⟨q,hq⟩:∃q,n/16=q:=⟨_,rfl⟩;obtain⟨r,hr⟩:∃r,n % 16=r:=⟨_,rfl⟩;have d1:(n:Int)/16=q:=by omega
   have d2:(n:Int) % 16=r:=by omega
   have d1':Int.tdiv (n:Int) 16=q:=by rw[Int.tdiv_eq_ediv_of_nonneg (by omega)];exact d1
   have d2':Int.tmod (n:Int) 16=r:=by rw[Int.tmod_eq_emod_of_nonneg (by omega)];exact d2
   have d3:IntKind.u8.wrap ((q:Int) - 2)= ((q - 2:Nat):Int):=by simp[IntKind.wrap,IntKind.bits,IntKind.signed];omega
   have d4:((q:Int) - 2).toNat=q - 2:=by omega
   rw[hq] at hc;rw[hr] at a0;have n1:¬ (n:Int)<32:=by omega
   have n2:¬ (127:Int)<n:=by omega
   have n3:2<=(q:Int):=by omega
   have n4:(q:Int)<8:=by omega
   rw[k3];clear k1 k2 k3 h1 h2 hl hv hz hq hr hB a1;go_enter Tryz.func170,Tryz.ntmps170;go_wp2;go_ret;exact⟨rfl,rfl⟩
theorem kP (x:UInt8)(w:World):Calls Tryz.prog 193 #[.int .u8 x.toNat] w fun e w'=>e =.returned (.bool (dP x))/\w=w':=by
 have key:dP x= (decide (97<=bits .or .u8 (x.toNat:Int) 32)&&decide (bits .or .u8 (x.toNat:Int) 32<=122)):=by
  have h:∀n:Nat,n<256->dP (UInt8.ofNat n)= (decide (97<=bits .or .u8 (n:Int) 32)&&decide (bits .or .u8 (n:Int) 32<=122)):=by decide +kernel
  have:=h x.toNat x.toNat_lt
  rwa[UInt8.ofNat_toNat] at this
 rw[key];clear key;obtain⟨y,hy⟩:∃y:Int,bits .or .u8 (x.toNat:Int) 32=y:=⟨_,rfl⟩;rw[hy]
 by_cases h1:97<=y
 ·by_cases h2:y<=122
  ·rw[decide_eq_true h1,decide_eq_true h2];go_enter Tryz.func193,Tryz.ntmps193;go_wp2;go_ret;exact⟨rfl,rfl⟩
  ·rw[decide_eq_true h1,decide_eq_false h2];go_enter Tryz.func193,Tryz.ntmps193;go_wp2;go_ret;exact⟨rfl,rfl⟩
 ·rw[decide_eq_false h1];go_enter Tryz.func193,Tryz.ntmps193;go_wp2;go_ret;exact⟨rfl,rfl⟩
def Ih (l:List UInt8):Bool:=l == [110,117,108,108]||l == [116,114,117,101]||l == [102,97,108,115,101]
theorem l7 (l:List UInt8)(w:World):Calls Tryz.prog 194 #[.string ⟨l.toArray⟩] w fun e w'=>e =.returned (.bool (Ih l))/\w=w':=by
 have hl:(⟨l.toArray⟩:ByteArray).toList=l:=by rw[ByteArray.toList_eq]
 obtain⟨s,hs⟩:∃s:ByteArray,⟨l.toArray⟩=s:=⟨_,rfl⟩;rw[hs] at hl ⊢;unfold Ih;obtain⟨b1,h1⟩:∃b,(s.toList == [110,117,108,108])=b:=⟨_,rfl⟩;obtain⟨b2,h2⟩:∃b,(s.toList == [116,114,117,101])=b:=⟨_,rfl⟩;obtain⟨b3,h3⟩:∃b,(s.toList == [102,97,108,115,101])=b:=⟨_,rfl⟩;rw[<-hl,h1,h2,h3];clear hs hl;go_enter Tryz.func194,Tryz.ntmps194
 cases b1 <;> cases b2 <;> cases b3
 all_goals go_wp2
 all_goals (go_ret;exact⟨rfl,rfl⟩)
def iY (w:World)(e:Ending)(w':World):Prop:= ∃v,e =.panicked [{v:=v,recovered:=false}]/\GU w' v/\Below w.heap.size w w'
theorem qM (hb:Below w.drew.heap.size w.drew w'):Below w.heap.size w w':=⟨hb.os,hb.tape,hb.output,hb.size,hb.block⟩
theorem bm (p:Int)(a:Addr)(w:World):Calls Tryz.prog 224 #[.int .i64 p,bG a] w (iY w):=by
 go_enter Tryz.func224,Tryz.ntmps224;go_wp2_with fail;exact⟨rfl,_,rfl,⟨_,_,a,rfl,Zf _ _⟩,ac _ _⟩
theorem Dn (x:UInt8):ib x=if 48<=(x.toNat:Int)/\(x.toNat:Int)<=57 then some (x.toNat - 48) else if 97<=(x.toNat:Int)/\(x.toNat:Int)<=102 then some (x.toNat - 87) else if 65<=(x.toNat:Int)/\(x.toNat:Int)<=70 then some (x.toNat - 55) else none:=by
 unfold ib
 congr 1
 ·simp only[eq_iff_iff];omega
 ·congr 1
  ·simp only[eq_iff_iff];omega
  ·congr 1
   simp only[eq_iff_iff];omega
def kX (r:Option Nat):Value:=match r with|some d=>.tuple #[.int .i64 d,.bool true]|none=>.tuple #[.int .i64 0,.bool false]
theorem dm (x:UInt8)(w:World):Calls Tryz.prog 253 #[.int .u8 x.toNat] w fun e w'=>e =.returned (kX (ib x))/\w=w':=by
 have hx:=x.toNat_lt;rw[Dn];obtain⟨n,hn⟩:∃n,x.toNat=n:=⟨_,rfl⟩;rw[hn] at hx ⊢;clear hn
 by_cases h1:48<=(n:Int)/\(n:Int)<=57
 ·rw[if_pos h1];obtain⟨h1,h2⟩:=h1;have e1:((n - 48:Nat):Int)= (n:Int) - 48:=by omega
  have e2:IntKind.u8.wrap ((n:Int) - 48)= (n:Int) - 48:=by simp[IntKind.wrap,IntKind.bits,IntKind.signed];omega
  unfold kX
  dsimp only
  rw[e1];clear e1;go_enter Tryz.func253,Tryz.ntmps253;go_wp2;go_ret2;exact⟨rfl,rfl⟩
 rw[if_neg h1];have g1:(decide (48<=(n:Int))&&decide ((n:Int)<=57))=false:=by simpa using h1
 by_cases h2:97<=(n:Int)/\(n:Int)<=102
 ·rw[if_pos h2];obtain⟨h2,h3⟩:=h2;have n1:(48:Int)<=n:=by omega
  have n2:¬ (n:Int)<=57:=by omega
  have e1:((n - 87:Nat):Int)= (n:Int) - 97+10:=by omega
  have e2:IntKind.u8.wrap ((n:Int) - 97)= (n:Int) - 97:=by simp[IntKind.wrap,IntKind.bits,IntKind.signed];omega
  unfold kX
  dsimp only
  rw[e1];clear e1 h1 g1;go_enter Tryz.func253,Tryz.ntmps253;go_wp2;go_ret2;exact⟨rfl,rfl⟩
 rw[if_neg h2]
 by_cases h3:65<=(n:Int)/\(n:Int)<=70
 ·rw[if_pos h3];obtain⟨h3,h4⟩:=h3;have n1:(48:Int)<=n:=by omega
  have n2:¬ (n:Int)<=57:=by omega
  have n3:¬ (97:Int)<=n:=by omega
  have e1:((n - 55:Nat):Int)= (n:Int) - 65+10:=by omega
  have e2:IntKind.u8.wrap ((n:Int) - 65)= (n:Int) - 65:=by simp[IntKind.wrap,IntKind.bits,IntKind.signed];omega
  unfold kX
  dsimp only
  rw[e1];clear e1 h1 g1 h2;go_enter Tryz.func253,Tryz.ntmps253;go_wp2;go_ret2;exact⟨rfl,rfl⟩
 rw[if_neg h3];unfold kX
 dsimp only
 clear g1;go_enter Tryz.func253,Tryz.ntmps253;go_wp2
 all_goals first|(exfalso;simp_all;done)|(exfalso;omega)|(go_ret2;exact⟨rfl,rfl⟩)
def sF (w:World)(g:Nat)(v:Value)(xs:List UInt8)(k:Nat):Prop:=w.heap[g]?=some (.cells #[v,.int .i64 k] 367 (0,0))/\Bs w v xs
theorem sF.below {k:Nat}(h:sF w g v xs k)(hb:Below w.heap.size w w'):sF w' g v xs k:=⟨ai h.1 hb,h.2.below hb⟩
def Jf (xs:List UInt8)(i:Nat)(w:World)(e:Ending)(w':World):Prop:=(i<xs.length/\e =.returned (.int .u8 (am xs i))/\w=w')\/(xs.length<=i/\iY w e w')
theorem jV {k:Nat}(h:sF w g v xs k)(hE:br w 4)(i:Nat):Calls Tryz.prog 231 #[.pointer (some ⟨g,0,none⟩),.int .i64 i] w (Jf xs i w):=by
 obtain⟨hg,hb⟩:=h;obtain⟨hm,A,cap,rfl,a3,a0⟩:=id hb;obtain⟨aE,a4⟩:=hE;have c0:=aa hg (j:=0) (u:=.slice A xs.length cap) rfl
 by_cases hi:i<xs.length
 ·obtain⟨b,o,rfl,a2⟩:=a0 (by omega);have c1:=a2 i hi;have a5:(i:Int)<xs.length:=by omega
  clear hg hb a0 a2;go_enter Tryz.func231,Tryz.ntmps231;go_wp2_with fail;go_ret;exact .inl ⟨hi,rfl,rfl⟩
 ·have a5:¬ (i:Int)<xs.length:=by omega
  have Hi:=Qa (show xs.length<=i by omega);clear hg hb a0 hi;go_enter Tryz.func231,Tryz.ntmps231;go_wp2_with fail;refine wp_region_held_drew (S:=fun w'=>w'.cell? ⟨g,0,none⟩=some (.slice A xs.length cap)/\w'.cell? ⟨4,0,none⟩=some (bG aE)) (by kernel_rfl) (⟨c0,a4⟩) (fun a1=>?_);refine tH 0 a1 ?_;refine tH 1 a1 ?_;refine tH 2 a1 ?_;refine tH 3 a1 ?_;refine tH 4 a1 ?_;refine tH 5 a1 ?_
  try simp only[Act.put,jP,jQ,jR]
  refine rH 6 fun K hK=>?_
  go_simp;refine(bm _ aE _).mono ?_;rintro e w' ⟨v,rfl,hv,hb⟩;exact⟨rfl,.inr ⟨Hi.out,v,rfl,hv,qM hb⟩⟩
