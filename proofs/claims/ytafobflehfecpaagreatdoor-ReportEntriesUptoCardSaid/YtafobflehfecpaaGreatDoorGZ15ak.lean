import Derived.Test.YtafobflehfecpaaGreatDoorGZ15aj
set_option linter.unusedVariables false
set_option linter.unusedSimpArgs false
set_option maxHeartbeats 64000000
set_option maxRecDepth 100000
namespace Go.Proofs.YtafobflehfecpaaGreatDoor
open Go.RowKit Go.Shelf
variable {xs:List UInt8}{g nd:Nat}{v:Value}{w w':World}
abbrev bt (a:Addr):Value:=.iface 408 (.pointer (some a))
def a6 (w:World)(g:Nat):Prop:= ∃a,w.cell? ⟨g,0,none⟩=some (bt a)
theorem a6.below (h:a6 w g)(hb:Below w.heap.size w w'):a6 w' g:=by
 obtain⟨a,h⟩:=h;exact⟨a,Zg hb h⟩
def EG (w:World)(v:Value):Prop:= ∃ (g:Nat) (p:Int) (a:Addr),v =.iface 138 (.pointer (some ⟨g,0,none⟩))/\w.heap[g]?=some (.cells #[.int .i64 p,bt a] 140 (0,0))
theorem EG.below (h:EG w v)(hb:Below w.heap.size w w'):EG w' v:=by
 obtain⟨g,p,a,e,hg⟩:=h;exact⟨g,p,a,e,ah hg hb⟩
def GU (d:Dc):Value:=.agg #[.bool d.neg,.string d.digits,.int .i64 d.exp]
def Eb (r:Option (Dc×Nat))(w:World)(e:Ending)(w':World):Prop:=Below w.heap.size w w'/\match r with
 |some p=>e =.returned (.tuple #[GU p.1,.int .i64 p.2,.nilIface])
 |none=> ∃v,e =.returned (.tuple #[.agg #[.bool false,.string es,.int .i64 0],.int .i64 0,v])/\EG w' v
theorem AJ:∀ (t:NS),t.part<=t.n->t.digs.length<=t.n->t.exps.length<=t.n->(∀c∈t.exps,dN c=true)->t.n+xs.length<=1000000000->
  (aw t xs).part<=1000000000/\(aw t xs).digs.length<=1000000000/\(aw t xs).exps.length<=1000000000/\(aw t xs).n<=1000000000/\∀c∈(aw t xs).exps,dN c=true:=by
 induction xs with
 |nil=>intro t h1 h2 h3 h4 h5;simp at h5;unfold aw;exact⟨by omega,by omega,by omega,by omega,h4⟩
 |cons c xs ih=>
  intro t h1 h2 h3 h4 h5;simp only[List.length_cons] at h5;unfold aw
  split
  ·exact⟨by omega,by omega,by omega,by omega,h4⟩
  ·rename_i h9
   refine ih (t.next c) ?_ ?_ ?_ ?_ ?_
   ·simp only[NS.next];split <;> omega
   ·simp only[NS.next];split
    ·simp;omega
    ·omega
   ·simp only[NS.next];split
    ·simp;omega
    ·omega
   ·simp only[NS.next];split
    ·rename_i h8
     intro a ha;rcases List.mem_append.1 ha with ha|ha
     ·exact h4 a ha
     ·rw[List.mem_singleton.1 ha]
      -- state 8 is reached by digits alone
      have key:∀s,s<9->∀k,k<7->dn s k=8->k=2\/k=3:=by decide +kernel
      have h7:dn t.st (aZ c)=8->aZ c=2\/aZ c=3:=by
       intro h
       by_cases hs:t.st<9
       ·exact key _ hs _ (by have:=qp c;omega) h
       ·exfalso
        unfold dn at h
        split at h
        ·rw[List.getD_eq_getElem?_getD,List.getElem?_eq_none (by show la.length<=_;simp[la];omega)] at h;simp at h
        ·omega
      have hk:=h7 h8;have:=qP (p:=fun c=> !(aZ c==2||aZ c==3)||dN c) (by decide +kernel) c;rcases hk with hk|hk <;> simpa [hk] using this
    ·exact h4
   ·simp only[NS.next];omega
def GT (r:Option Dc)(a:Bool)(b:ByteArray)(c:Int)(ok:Bool):Prop:=match r with|some d=>ok=true/\a=d.neg/\b=d.digits/\c=d.exp|none=>ok=false
theorem Gu.form {r:Option Dc}(h:Gu r v):∃a b c ok,v =.tuple #[.agg #[.bool a,.string b,.int .i64 c],.bool ok]/\GT r a b c ok:=by
 cases r with
 |none=>obtain⟨a,b,c,rfl⟩:=h;exact⟨a,b,c,false,rfl,rfl⟩
 |some d=>obtain rfl:=h;exact⟨_,_,_,true,rfl,rfl,rfl,rfl,rfl⟩
def GX (r:Option Dc)(w3:World)(s6 s7:Value)(wx:World):Prop:= ∃gz a b c ok,s6 =.pointer (some ⟨gz,0,none⟩)/\s7 =.bool ok/\wx.heap[gz]?=some (.cells #[.bool a,.string b,.int .i64 c] 308 (0,0))/\Below w3.heap.size w3 wx/\GT r a b c ok/\w3.heap.size<=gz
def SP (g:Nat)(t:NS)(Ad:Option Addr)(nd qd:Nat)(Ae:Option Addr)(ne qe:Nat)(w':World):Prop:=w'.cell? ⟨g,0,none⟩=some (.bool t.neg)/\w'.cell? ⟨g,1,none⟩=some (.bool t.down)/\w'.cell? ⟨g,2,none⟩=some (.slice Ad nd qd)/\w'.cell? ⟨g,3,none⟩=some (.int .i64 t.part)/\w'.cell? ⟨g,4,none⟩=some (.slice Ae ne qe)/\w'.cell? ⟨g,5,none⟩=some (.int .i64 t.st)/\w'.cell? ⟨g,6,none⟩=some (.int .i64 t.n)/\
 (convert 28 9 (.slice Ad nd qd)).run Tryz.prog w' =.ok (.string ⟨t.digs.toArray⟩) w'/\Bs w' (.slice Ad nd qd) t.digs
theorem SP.below {t:NS}{Ad:Option Addr}{qd:Nat}{Ae:Option Addr}{ne qe:Nat}(h:SP g t Ad nd qd Ae ne qe w)(hb:Below w.heap.size w w'):SP g t Ad nd qd Ae ne qe w':=by
 obtain⟨h0,h1,h2,h3,h4,h5,h6,-,h8⟩:=h;exact⟨Zg hb h0,Zg hb h1,Zg hb h2,Zg hb h3,Zg hb h4,Zg hb h5,Zg hb h6,aG (h8.below hb),h8.below hb⟩
theorem pd (hb:Bs w v xs)(hl:xs.length<=1000000000)(hG:lm w)(hN:a6 w 19)(hX:a6 w 20):Calls Tryz.prog 202 #[v] w (Eb (mc xs) w):=by
 have e4:=ac w (.cells #[.bool false,.string es,.int .i64 0] 308);have h0:=Zf w (.cells #[.bool false,.string es,.int .i64 0] 308);have g7:=Qa (sF (hb.below e4) hl (hG.below e4));have i5:19<w.heap.size:=by obtain⟨a,h⟩:=hN;exact World.block_lt_of_cell? w _ h
 have i8:20<w.heap.size:=by obtain⟨a,h⟩:=hX;exact World.block_lt_of_cell? w _ h
 have g6:=hN.below e4;have g5:=hX.below e4;have f0:mc xs=if da (aw e9 xs).st then(fu (aw e9 xs).neg (aw e9 xs).digs (eh (aw e9 xs)) (-((aw e9 xs).part:Int))).map fun d=>(d,(aw e9 xs).n) else none:=rfl
 obtain⟨b1,b2,b3,b4,b5⟩:=AJ (xs:=xs) e9 (Zb _) (Zb _) (Zb _) (by simp[e9]) (by show 0+xs.length<=_;omega);rw[f0];clear hb hG hN hX f0;generalize aw e9 xs=t at *;have B5:=Qa b5;have i3:=Dr b5;have H0:=Qa h0;have f8:=Qa e4;have HN:=Qa g6;have HX:=Qa g5;clear b5 h0 e4 g6 g5;go_enter Tryz.func202,Tryz.ntmps202;go_wp2_with fail;generalize w.alloc (.cells #[.bool false,.string es,.int .i64 0] 308)=w0 at *;refine Za g7 ?_;rintro e w1 ⟨vd,ve,rfl,e0,hd,he⟩;obtain⟨Ad,nd,qd,rfl⟩:∃A n q,vd =.slice A n q:=by obtain⟨A,c,e,_⟩:=af hd;exact⟨A,_,c,e⟩
 obtain⟨Ae,ne,qe,rfl⟩:∃A n q,ve =.slice A n q:=by obtain⟨A,c,e,_⟩:=af he;exact⟨A,_,c,e⟩
 have hz:=Zf w1 Em;have g8:=aB (w1.alloc Em) w1.heap.size #[.bool t.neg,.bool t.down,.slice Ad nd qd,.int .i64 t.part,.slice Ae ne qe,.int .i64 t.st,.int .i64 t.n];have b9:Below w1.heap.size w1 ((w1.alloc Em).setRow w1.heap.size #[.bool t.neg,.bool t.down,.slice Ad nd qd,.int .i64 t.part,.slice Ae ne qe,.int .i64 t.st,.int .i64 t.n]):=(ac w1 Em).grown g8 (by simp) (fun g e=>by cases e;exact Zb _);have ht:=setRow_heap (w1.alloc Em) w1.heap.size _ #[.bool t.neg,.bool t.down,.slice Ad nd qd,.int .i64 t.part,.slice Ae ne qe,.int .i64 t.st,.int .i64 t.n] _ _ hz;have f1:=Qa (f8.out.trans ((e0.trans (b9.mono e0.size)).mono f8.out.size));have f5:=Qa (ah (ah H0.out e0) b9);have g2:=Qa ((HN.out.below e0).below b9);have h4:=Qa ((HX.out.below e0).below b9);have Hd:=Qa (hd.bs.below b9);have He:=Qa (he.bs.below b9);have Ht:=Qa ht;have i4:w.heap.size<w1.heap.size:=Nat.lt_of_lt_of_le (ag H0.out) e0.size;have i9:=b9.size;clear g7 e0 hd he b9 ht f8 H0 HN HX g8;have h3:(w1.alloc (.cells #[.bool false,.bool false,.slice none 0 0,.int .i64 0,.slice none 0 0,.int .i64 0,.int .i64 0] 353)).heap[w1.heap.size]?=some (.cells #[.bool false,.bool false,.slice none 0 0,.int .i64 0,.slice none 0 0,.int .i64 0,.int .i64 0] 353):=hz;clear hz;go_upto_region 2 with (refine eE h3 ?_)
 unfold Em at *;generalize (w1.alloc (.cells #[.bool false,.bool false,.slice none 0 0,.int .i64 0,.slice none 0 0,.int .i64 0,.int .i64 0] 353)).setRow w1.heap.size #[.bool t.neg,.bool t.down,.slice Ad nd qd,.int .i64 t.part,.slice Ae ne qe,.int .i64 t.st,.int .i64 t.n]=w2 at *;clear h3;have c0:=aa Ht.out (j:=0) (u:=.bool t.neg) rfl;have c1:=aa Ht.out (j:=1) (u:=.bool t.down) rfl;have c2:=aa Ht.out (j:=2) (u:=.slice Ad nd qd) rfl;have c3:=aa Ht.out (j:=3) (u:=.int .i64 t.part) rfl;have c4:=aa Ht.out (j:=4) (u:=.slice Ae ne qe) rfl;have c5:=aa Ht.out (j:=5) (u:=.int .i64 t.st) rfl;have c6:=aa Ht.out (j:=6) (u:=.int .i64 t.n) rfl
 by_cases hw:da t.st=true
 ·go_wp2_with fail;refine(m8 t (.slice Ad nd qd) (.slice Ae ne qe) w2).mono ?_;rintro e w3 ⟨rfl,a9⟩;rw[hw];have H3:=Qa (ah Ht.out a9);have e3:=Qa (f1.out.trans (a9.mono f1.out.size));have e2:=Qa (ah f5.out a9);have g4:=Qa (h4.out.below a9);have f7:=Qa (Hd.out.below a9);have f6:=Qa (He.out.below a9);have d0:=aa H3.out (j:=0) (u:=.bool t.neg) rfl;have d1:=aa H3.out (j:=1) (u:=.bool t.down) rfl;have d2:=aa H3.out (j:=2) (u:=.slice Ad nd qd) rfl;have d3:=aa H3.out (j:=3) (u:=.int .i64 t.part) rfl;have d4:=aa H3.out (j:=4) (u:=.slice Ae ne qe) rfl;have d5:=aa H3.out (j:=5) (u:=.int .i64 t.st) rfl;have d6:=aa H3.out (j:=6) (u:=.int .i64 t.n) rfl;have i0:=a9.size;clear a9 c0 c1 c2 c3 c4 c5 c6 Hd He h4 g2 f5 f1 Ht;go_wp2_with fail;have j0:w.heap.size<w3.heap.size:=ag e2.out;have swn:IntKind.i64.wrap (-(t.part:Int)) = -(t.part:Int):=IntWalk.i64_in _ (by omega);go_cut [6,7] (fun s6 s7 wx=>GX (fu t.neg t.digs (eh t) (-(t.part:Int))) w3 s6 s7 wx)
  case first=>
   obtain⟨wq,a1⟩:∃wq,w3.drew=wq:=⟨_,rfl⟩;have Hq:Hid (Below w3.heap.size w3 wq):=Qa (by rw[<-a1];exact(Ze _ _).drew);have SP3:Hid (SP w1.heap.size t Ad nd qd Ae ne qe w3):=Qa ⟨d0,d1,d2,d3,d4,d5,d6,aG f7.out,f7.out⟩;refine bm (fun w'=>w'.cell? ⟨w1.heap.size,0,none⟩=some (.bool t.neg)/\w'.cell? ⟨w1.heap.size,1,none⟩=some (.bool t.down)/\w'.cell? ⟨w1.heap.size,2,none⟩=some (.slice Ad nd qd)/\w'.cell? ⟨w1.heap.size,3,none⟩=some (.int .i64 t.part)/\w'.cell? ⟨w1.heap.size,4,none⟩=some (.slice Ae ne qe)/\w'.cell? ⟨w1.heap.size,5,none⟩=some (.int .i64 t.st)/\w'.cell? ⟨w1.heap.size,6,none⟩=some (.int .i64 t.n)/\(convert 28 9 (.slice Ad nd qd)).run Tryz.prog w' =.ok (.string ⟨t.digs.toArray⟩) w'/\Bs w' (.slice Ad nd qd) t.digs) ((by rw[a1];exact(SP.below SP3.out Hq.out:SP w1.heap.size t Ad nd qd Ae ne qe wq))) fun a0=>?_
   rw[a1] at a0 ⊢;clear a1;refine tH 0 a0 ?_;refine tH 1 a0 ?_;refine tH 2 a0 ?_;refine tH 3 a0 ?_;refine tH 4 a0 ?_;refine tH 5 a0 ?_
   try simp only[Act.put,jP,jQ,jR]
   refine tH 7 a0 ?_;refine tH 8 a0 ?_;refine tH 9 a0 ?_
   try simp only[Act.put,jP,jQ,jR]
   refine wpAnyH_ready (rs:= [6,14]) (by kernel_rfl) (by simp) ?_;refine AllReadyH.cons (vV rfl) (fun K hK=>?_) (AllReadyH.cons (vV rfl) (fun K hK=>?_) AllReadyH.nil);go_simp;refine(nN t (.slice Ad nd qd) (.slice Ae ne qe) (f6.out.below Hq.out) B5.out b3).mono ?_;rintro e wn ⟨rfl,hb⟩;have Hq:=Qa (ak Hq.out hb);(try have Hzq:=Qa (ah Hzq.out hb));obtain⟨wq,a1⟩:∃x,x=wn:=⟨_,rfl⟩;subst a1;refine hK.out _ _ ((SP.below SP3.out Hq.out:SP w1.heap.size t Ad nd qd Ae ne qe _)) (fun a0=>?_);clear hK K
   try simp only[Act.put,jP,jQ,jR]
   refine wpAnyH_ready (rs:= [10,14]) (by kernel_rfl) (by simp) ?_;refine AllReadyH.cons (vV rfl) (fun K hK=>?_) (AllReadyH.cons (vV rfl) (fun K hK=>?_) AllReadyH.nil);go_simp;(try rw[swn]);refine(fN t.neg t.digs (eh t) (-(t.part:Int)) b2 (by omega) (by omega) wq).mono ?_;rintro e wn ⟨vN,rfl,c9,hb⟩;obtain⟨a,b,c,ok,rfl,c7⟩:=c9.form;have Hvr:=Qa c7;clear c7 c9;have Hq:=Qa (ak Hq.out hb);(try have Hzq:=Qa (ah Hzq.out hb));obtain⟨wq,a1⟩:∃x,x=wn:=⟨_,rfl⟩;subst a1;refine hK.out _ _ ((SP.below SP3.out Hq.out:SP w1.heap.size t Ad nd qd Ae ne qe _)) (fun a0=>?_);clear hK K
   try simp only[Act.put,jP,jQ,jR]
   refine tH 11 a0 ?_;refine tH 12 a0 ?_;refine tH 13 a0 ?_
   try simp only[Act.put,jP,jQ,jR]
   refine rH 14 fun K hK=>?_
   go_simp;have hb:=ac wq (.cells #[.bool false,.string es,.int .i64 0] 308);have b0:=Zf wq (.cells #[.bool false,.string es,.int .i64 0] 308);obtain⟨gz,c8⟩:∃g,wq.heap.size=g:=⟨_,rfl⟩;have Hgz:=Qa (show w3.heap.size<=gz by rw[<-c8];exact Hq.out.size);rw[c8] at b0 ⊢;have Hzq:=Qa b0;have Hq:=Qa (ak Hq.out hb);obtain⟨wn,a4⟩:∃x,wq.alloc (.cells #[.bool false,.string es,.int .i64 0] 308)=x:=⟨_,rfl⟩;rw[a4] at Hzq Hq hb ⊢;clear b0;obtain⟨wq,a1⟩:∃x,x=wn:=⟨_,rfl⟩;subst a1;refine hK.out _ _ ((SP.below SP3.out Hq.out:SP w1.heap.size t Ad nd qd Ae ne qe _)) (fun a0=>?_);clear hK K
   try simp only[Act.put,jP,jQ,jR]
   rotate_left
   go_simp;have hb:=ac wq (.cells #[.bool false,.string es,.int .i64 0] 308);have b0:=Zf wq (.cells #[.bool false,.string es,.int .i64 0] 308);obtain⟨gz,c8⟩:∃g,wq.heap.size=g:=⟨_,rfl⟩;have Hgz:=Qa (show w3.heap.size<=gz by rw[<-c8];exact Hq.out.size);rw[c8] at b0 ⊢;have Hzq:=Qa b0;have Hq:=Qa (ak Hq.out hb);obtain⟨wn,a4⟩:∃x,wq.alloc (.cells #[.bool false,.string es,.int .i64 0] 308)=x:=⟨_,rfl⟩;rw[a4] at Hzq Hq hb ⊢;clear b0;obtain⟨wq,a1⟩:∃x,x=wn:=⟨_,rfl⟩;subst a1;refine hK.out _ _ ((SP.below SP3.out Hq.out:SP w1.heap.size t Ad nd qd Ae ne qe _)) (fun a0=>?_);clear hK K
   try simp only[Act.put,jP,jQ,jR]
   refine rH 10 fun K hK=>?_
   go_simp;(try rw[swn]);refine(fN t.neg t.digs (eh t) (-(t.part:Int)) b2 (by omega) (by omega) wq).mono ?_;rintro e wn ⟨vN,rfl,c9,hb⟩;obtain⟨a,b,c,ok,rfl,c7⟩:=c9.form;have Hvr:=Qa c7;clear c7 c9;have Hq:=Qa (ak Hq.out hb);(try have Hzq:=Qa (ah Hzq.out hb));obtain⟨wq,a1⟩:∃x,x=wn:=⟨_,rfl⟩;subst a1;refine hK.out _ _ ((SP.below SP3.out Hq.out:SP w1.heap.size t Ad nd qd Ae ne qe _)) (fun a0=>?_);clear hK K
   try simp only[Act.put,jP,jQ,jR]
   refine tH 11 a0 ?_;refine tH 12 a0 ?_;refine tH 13 a0 ?_
   try simp only[Act.put,jP,jQ,jR]
   rotate_left
   go_simp;have hb:=ac wq (.cells #[.bool false,.string es,.int .i64 0] 308);have b0:=Zf wq (.cells #[.bool false,.string es,.int .i64 0] 308);obtain⟨gz,c8⟩:∃g,wq.heap.size=g:=⟨_,rfl⟩;have Hgz:=Qa (show w3.heap.size<=gz by rw[<-c8];exact Hq.out.size);rw[c8] at b0 ⊢;have Hzq:=Qa b0;have Hq:=Qa (ak Hq.out hb);obtain⟨wn,a4⟩:∃x,wq.alloc (.cells #[.bool false,.string es,.int .i64 0] 308)=x:=⟨_,rfl⟩;rw[a4] at Hzq Hq hb ⊢;clear b0;obtain⟨wq,a1⟩:∃x,x=wn:=⟨_,rfl⟩;subst a1;refine hK.out _ _ ((SP.below SP3.out Hq.out:SP w1.heap.size t Ad nd qd Ae ne qe _)) (fun a0=>?_);clear hK K
   try simp only[Act.put,jP,jQ,jR]
   refine rH 6 fun K hK=>?_
   go_simp;refine(nN t (.slice Ad nd qd) (.slice Ae ne qe) (f6.out.below Hq.out) B5.out b3).mono ?_;rintro e wn ⟨rfl,hb⟩;have Hq:=Qa (ak Hq.out hb);(try have Hzq:=Qa (ah Hzq.out hb));obtain⟨wq,a1⟩:∃x,x=wn:=⟨_,rfl⟩;subst a1;refine hK.out _ _ ((SP.below SP3.out Hq.out:SP w1.heap.size t Ad nd qd Ae ne qe _)) (fun a0=>?_);clear hK K
   try simp only[Act.put,jP,jQ,jR]
   refine rH 10 fun K hK=>?_
   go_simp;(try rw[swn]);refine(fN t.neg t.digs (eh t) (-(t.part:Int)) b2 (by omega) (by omega) wq).mono ?_;rintro e wn ⟨vN,rfl,c9,hb⟩;obtain⟨a,b,c,ok,rfl,c7⟩:=c9.form;have Hvr:=Qa c7;clear c7 c9;have Hq:=Qa (ak Hq.out hb);(try have Hzq:=Qa (ah Hzq.out hb));obtain⟨wq,a1⟩:∃x,x=wn:=⟨_,rfl⟩;subst a1;refine hK.out _ _ ((SP.below SP3.out Hq.out:SP w1.heap.size t Ad nd qd Ae ne qe _)) (fun a0=>?_);clear hK K
   try simp only[Act.put,jP,jQ,jR]
   refine tH 11 a0 ?_;refine tH 12 a0 ?_;refine tH 13 a0 ?_
   try simp only[Act.put,jP,jQ,jR]
   rotate_left
   all_goals
    refine rH 15 fun K hK=>?_
    refine kW Hzq.out ?_;have Hq:=Qa (Hq.out.grown (aB wq gz #[.bool a,.string b,.int .i64 c]) Hq.out.size (fun g e=>by cases e;exact Hgz.out));have Hzq:=Qa (setRow_heap _ _ _ #[.bool a,.string b,.int .i64 c] _ _ Hzq.out);obtain⟨wn,a4⟩:∃x,wq.setRow gz #[.bool a,.string b,.int .i64 c]=x:=⟨_,rfl⟩;rw[a4] at Hzq Hq ⊢;obtain⟨wq,a1⟩:∃x,x=wn:=⟨_,rfl⟩;subst a1;refine hK.out _ _ ((SP.below SP3.out Hq.out:SP w1.heap.size t Ad nd qd Ae ne qe _)) (fun a0=>?_);clear hK K
    try simp only[Act.put,jP,jQ,jR]
    refine tH 16 a0 ?_
    try simp only[Act.put,jP,jQ,jR]
    refine wpAnyH_done (by kernel_rfl) (NoPanic.normal ?_) _;go_wp2_with fail;go_meet
    case rel=>exact⟨gz,a,b,c,ok,rfl,rfl,Hzq.out,Hq.out,Hvr.out,Hgz.out⟩
  case rest=>
   obtain⟨gz,a,b,c,ok,rfl,rfl,hz,hq,g0,h8⟩:=hcut;have g3:=Qa g0;have e6:=Zg hq d6;have f3:=Qa (ah e2.out hq);have f2:=Qa (e3.out.trans (hq.mono e3.out.size));have h7:=Qa (g4.out.below hq);have z0:=aa hz (j:=0) (u:=.bool a) rfl;have z1:=aa hz (j:=1) (u:=.string b) rfl;have z2:=aa hz (j:=2) (u:=.int .i64 c) rfl;have f4:w.heap.size<gz:=by omega
   clear hz hq g0 d0 d1 d2 d3 d4 d5 d6 f7 f6 H3 e2 e3 g4;obtain⟨aX,h9⟩:=h7.out
   cases ok with
   |true=>
    have f9:=Qa ((f2.out.drew).grown (aB wc.drew w.heap.size #[.bool a,.string b,.int .i64 c]) f2.out.size (fun g e=>by cases e;exact Zb _));have e1:gz≠w.heap.size:=fun e=>by subst e;exact absurd f4 (Nat.lt_irrefl _)
    go_wp2_with fail;refine bm (fun w'=>w'.cell? ⟨gz,0,none⟩=some (.bool a)/\w'.cell? ⟨gz,1,none⟩=some (.string b)/\w'.cell? ⟨gz,2,none⟩=some (.int .i64 c)/\w'.cell? ⟨w1.heap.size,6,none⟩=some (.int .i64 t.n)) (⟨z0,z1,z2,e6⟩) fun a0=>?_
    refine tH 0 a0 ?_;refine tH 1 a0 ?_;refine tH 2 a0 ?_
    try simp only[Act.put,jP,jQ,jR]
    refine rH 3 fun K hK=>?_
    refine kW f3.out ?_;have hg:=aB wc.drew w.heap.size #[.bool a,.string b,.int .i64 c];refine hK.out _ _ (⟨hg.cell a0.1 (fun e=>by injection e with e;exact e1 e),hg.cell a0.2.1 (fun e=>by injection e with e;exact e1 e),hg.cell a0.2.2.1 (fun e=>by injection e with e;exact e1 e),hg.cell a0.2.2.2 (fun e=>by injection e with e;have e:w1.heap.size=w.heap.size:=e;omega)⟩) (fun a0=>?_);clear hK K
    try simp only[Act.put,jP,jQ,jR]
    refine tH 4 a0 ?_;refine tH 5 a0 ?_
    try simp only[Act.put,jP,jQ,jR]
    refine wpAnyH_done (by kernel_rfl) (NoPanic.normal ?_) _;go_wp2_with fail;have hd:=g3.out;have e5:Eb ((fu t.neg t.digs (eh t) (-(t.part:Int))).map fun d=>(d,t.n)) w (.returned (.tuple #[.agg #[.bool a,.string b,.int .i64 c],.int .i64 t.n,.nilIface])) (wc.drew.setRow w.heap.size #[.bool a,.string b,.int .i64 c]):=by
     refine⟨f9.out,?_⟩
     cases hr:fu t.neg t.digs (eh t) (-(t.part:Int)) with
     |none=>rw[hr] at hd;cases hd
     |some d=>rw[hr] at hd;obtain⟨-,rfl,rfl,rfl⟩:=hd;rfl
    exact Zh (fK Tryz.results202 _ _ w.heap.size 308 _ _ _ (0,0) (by simp) (setRow_heap _ _ _ _ _ _ f3.out)) rfl e5
   |false=>
    have g1:∀v w',Below w.heap.size w w'->EG w' v->Eb ((fu t.neg t.digs (eh t) (-(t.part:Int))).map fun d=>(d,t.n)) w (.returned (.tuple #[.agg #[.bool false,.string es,.int .i64 0],.int .i64 0,v])) w':=by
     intro v w' h1 h2;have hd:=g3.out;refine⟨h1,?_⟩
     cases hr:fu t.neg t.digs (eh t) (-(t.part:Int)) with
     |some d=>rw[hr] at hd;cases hd.1
     |none=>exact⟨v,rfl,h2⟩
    have h6:=Qa g1;clear g1;go_wp2_with fail;obtain⟨wq,a1⟩:∃wq,wc.drew=wq:=⟨_,rfl⟩;have a3:Hid (wq.heap[w.heap.size]?=some (.cells #[.bool false,.string es,.int .i64 0] 308 (0,0))):=Qa (by rw[<-a1];exact f3.out);have a2:=Qa (show Below w.heap.size w wq by rw[<-a1];exact f2.out.drew);clear f3 f2 z0 z1 z2 e6;refine bm (fun w'=>w'.cell? ⟨20,0,none⟩=some (bt aX)) (h9) fun a0=>?_
    rw[a1] at a0 ⊢;clear a1;refine tH 0 a0 ?_;refine tH 1 a0 ?_;refine tH 2 a0 ?_
    try simp only[Act.put,jP,jQ,jR]
    refine wpAnyH_ready (rs:= [3,5]) (by kernel_rfl) (by simp) ?_;refine AllReadyH.cons (vV rfl) (fun K hK=>?_) (AllReadyH.cons (vV rfl) (fun K hK=>?_) AllReadyH.nil);go_simp;have hb:=ac wq (.cells #[.int .i64 0,bt aX] 140);have a5:=Qa (Zf wq (.cells #[.int .i64 0,bt aX] 140));obtain⟨gb,b8⟩:∃g,wq.heap.size=g:=⟨_,rfl⟩;have d9:=Qa (show w.heap.size<gb by rw[<-b8];exact ag a3.out);rw[b8] at a5 ⊢;have a3:=Qa (ah a3.out hb);have a2:=Qa (a2.out.trans (hb.mono a2.out.size));obtain⟨wn,a4⟩:∃x,wq.alloc (.cells #[.int .i64 0,bt aX] 140)=x:=⟨_,rfl⟩;rw[a4] at a5 a3 a2 hb ⊢;obtain⟨wq,a1⟩:∃x,x=wn:=⟨_,rfl⟩;subst a1;refine hK.out _ _ (Zg hb a0) (fun a0=>?_);clear hK K
    try simp only[Act.put,jP,jQ,jR]
    refine tH 4 a0 ?_
    try simp only[Act.put,jP,jQ,jR]
    refine rH 5 fun K hK=>?_
    refine kW a3.out ?_;have hg:=aB wq w.heap.size #[.bool false,.string es,.int .i64 0];have a2:=Qa (a2.out.grown hg a2.out.size (fun g e=>by cases e;exact Zb _));(try have a5:=Qa (ay a5.out hg (fun e=>by injection e with e;have:=d9.out;omega)));have a3:=Qa (setRow_heap _ _ _ #[.bool false,.string es,.int .i64 0] _ _ a3.out);obtain⟨wn,a4⟩:∃x,wq.setRow w.heap.size #[.bool false,.string es,.int .i64 0]=x:=⟨_,rfl⟩;rw[a4] at a3 a2 hg ⊢;(try rw[a4] at a5);obtain⟨wq,a1⟩:∃x,x=wn:=⟨_,rfl⟩;subst a1;refine hK.out _ _ (hg.cell a0 (fun e=>by injection e with e;have e:20=w.heap.size:=e;omega)) (fun a0=>?_);clear hK K
    try simp only[Act.put,jP,jQ,jR]
    refine tH 6 a0 ?_;refine tH 7 a0 ?_
    try simp only[Act.put,jP,jQ,jR]
    rotate_left
    refine kW a3.out ?_;have hg:=aB wq w.heap.size #[.bool false,.string es,.int .i64 0];have a2:=Qa (a2.out.grown hg a2.out.size (fun g e=>by cases e;exact Zb _));(try have a5:=Qa (ay a5.out hg (fun e=>by injection e with e;have:=d9.out;omega)));have a3:=Qa (setRow_heap _ _ _ #[.bool false,.string es,.int .i64 0] _ _ a3.out);obtain⟨wn,a4⟩:∃x,wq.setRow w.heap.size #[.bool false,.string es,.int .i64 0]=x:=⟨_,rfl⟩;rw[a4] at a3 a2 hg ⊢;(try rw[a4] at a5);obtain⟨wq,a1⟩:∃x,x=wn:=⟨_,rfl⟩;subst a1;refine hK.out _ _ (hg.cell a0 (fun e=>by injection e with e;have e:20=w.heap.size:=e;omega)) (fun a0=>?_);clear hK K
    try simp only[Act.put,jP,jQ,jR]
    refine tH 6 a0 ?_
    try simp only[Act.put,jP,jQ,jR]
    refine rH 3 fun K hK=>?_
    go_simp;have hb:=ac wq (.cells #[.int .i64 0,bt aX] 140);have a5:=Qa (Zf wq (.cells #[.int .i64 0,bt aX] 140));obtain⟨gb,b8⟩:∃g,wq.heap.size=g:=⟨_,rfl⟩;have d9:=Qa (show w.heap.size<gb by rw[<-b8];exact ag a3.out);rw[b8] at a5 ⊢;have a3:=Qa (ah a3.out hb);have a2:=Qa (a2.out.trans (hb.mono a2.out.size));obtain⟨wn,a4⟩:∃x,wq.alloc (.cells #[.int .i64 0,bt aX] 140)=x:=⟨_,rfl⟩;rw[a4] at a5 a3 a2 hb ⊢;obtain⟨wq,a1⟩:∃x,x=wn:=⟨_,rfl⟩;subst a1;refine hK.out _ _ (Zg hb a0) (fun a0=>?_);clear hK K
    try simp only[Act.put,jP,jQ,jR]
    refine tH 4 a0 ?_;refine tH 7 a0 ?_
    try simp only[Act.put,jP,jQ,jR]
    rotate_left
    all_goals
     refine wpAnyH_done (by kernel_rfl) (NoPanic.normal ?_) _;go_wp2_with fail;exact Zh (fK Tryz.results202 _ _ w.heap.size 308 _ _ _ (0,0) (by simp) a3.out) rfl (h6.out _ _ a2.out ⟨gb,_,aX,rfl,a5.out⟩)
 ·have h5:da t.st=false:=by simpa using hw
  go_wp2_with fail;refine(m8 t (.slice Ad nd qd) (.slice Ae ne qe) w2).mono ?_;rintro e w3 ⟨rfl,a9⟩;rw[h5];have H3:=Qa (ah Ht.out a9);have e3:=Qa (f1.out.trans (a9.mono f1.out.size));have e2:=Qa (ah f5.out a9);obtain⟨aN,i2⟩:=g2.out.below a9;have d6:=aa H3.out (j:=6) (u:=.int .i64 t.n) rfl;have i0:=a9.size;clear a9 c0 c1 c2 c3 c4 c5 c6;go_wp2_with fail;obtain⟨wq,a1⟩:∃wq,w3.drew=wq:=⟨_,rfl⟩;have a3:Hid (wq.heap[w.heap.size]?=some (.cells #[.bool false,.string es,.int .i64 0] 308 (0,0))):=Qa (by rw[<-a1];exact e2.out);have a2:=Qa (show Below w.heap.size w wq by rw[<-a1];exact e3.out.drew);clear e2 e3;refine bm (fun w'=>w'.cell? ⟨w1.heap.size,6,none⟩=some (.int .i64 t.n)/\w'.cell? ⟨19,0,none⟩=some (bt aN)) (⟨d6,i2⟩) fun a0=>?_
  rw[a1] at a0 ⊢;clear a1;refine tH 0 a0 ?_;refine tH 1 a0 ?_;refine tH 2 a0 ?_;refine tH 3 a0 ?_;refine tH 4 a0 ?_
  try simp only[Act.put,jP,jQ,jR]
  refine wpAnyH_ready (rs:= [5,7]) (by kernel_rfl) (by simp) ?_;refine AllReadyH.cons (vV rfl) (fun K hK=>?_) (AllReadyH.cons (vV rfl) (fun K hK=>?_) AllReadyH.nil);go_simp;have hb:=ac wq (.cells #[.int .i64 t.n,bt aN] 140);have a5:=Qa (Zf wq (.cells #[.int .i64 t.n,bt aN] 140));obtain⟨gb,b8⟩:∃g,wq.heap.size=g:=⟨_,rfl⟩;have d9:=Qa (show w.heap.size<gb by rw[<-b8];exact ag a3.out);rw[b8] at a5 ⊢;have a3:=Qa (ah a3.out hb);have a2:=Qa (a2.out.trans (hb.mono a2.out.size));obtain⟨wn,a4⟩:∃x,wq.alloc (.cells #[.int .i64 t.n,bt aN] 140)=x:=⟨_,rfl⟩;rw[a4] at a5 a3 a2 hb ⊢;obtain⟨wq,a1⟩:∃x,x=wn:=⟨_,rfl⟩;subst a1;refine hK.out _ _ (⟨Zg hb a0.1,Zg hb a0.2⟩) (fun a0=>?_);clear hK K
  try simp only[Act.put,jP,jQ,jR]
  refine tH 6 a0 ?_
  try simp only[Act.put,jP,jQ,jR]
  refine rH 7 fun K hK=>?_
  refine kW a3.out ?_;have hg:=aB wq w.heap.size #[.bool false,.string es,.int .i64 0];have a2:=Qa (a2.out.grown hg a2.out.size (fun g e=>by cases e;exact Zb _));(try have a5:=Qa (ay a5.out hg (fun e=>by injection e with e;have:=d9.out;omega)));have a3:=Qa (setRow_heap _ _ _ #[.bool false,.string es,.int .i64 0] _ _ a3.out);obtain⟨wn,a4⟩:∃x,wq.setRow w.heap.size #[.bool false,.string es,.int .i64 0]=x:=⟨_,rfl⟩;rw[a4] at a3 a2 hg ⊢;(try rw[a4] at a5);obtain⟨wq,a1⟩:∃x,x=wn:=⟨_,rfl⟩;subst a1;refine hK.out _ _ (⟨hg.cell a0.1 (fun e=>by injection e with e;have e:w1.heap.size=w.heap.size:=e;omega),hg.cell a0.2 (fun e=>by injection e with e;have e:19=w.heap.size:=e;omega)⟩) (fun a0=>?_);clear hK K
  try simp only[Act.put,jP,jQ,jR]
  refine tH 8 a0 ?_;refine tH 9 a0 ?_
  try simp only[Act.put,jP,jQ,jR]
  rotate_left
  refine kW a3.out ?_;have hg:=aB wq w.heap.size #[.bool false,.string es,.int .i64 0];have a2:=Qa (a2.out.grown hg a2.out.size (fun g e=>by cases e;exact Zb _));(try have a5:=Qa (ay a5.out hg (fun e=>by injection e with e;have:=d9.out;omega)));have a3:=Qa (setRow_heap _ _ _ #[.bool false,.string es,.int .i64 0] _ _ a3.out);obtain⟨wn,a4⟩:∃x,wq.setRow w.heap.size #[.bool false,.string es,.int .i64 0]=x:=⟨_,rfl⟩;rw[a4] at a3 a2 hg ⊢;(try rw[a4] at a5);obtain⟨wq,a1⟩:∃x,x=wn:=⟨_,rfl⟩;subst a1;refine hK.out _ _ (⟨hg.cell a0.1 (fun e=>by injection e with e;have e:w1.heap.size=w.heap.size:=e;omega),hg.cell a0.2 (fun e=>by injection e with e;have e:19=w.heap.size:=e;omega)⟩) (fun a0=>?_);clear hK K
  try simp only[Act.put,jP,jQ,jR]
  refine tH 8 a0 ?_
  try simp only[Act.put,jP,jQ,jR]
  refine rH 5 fun K hK=>?_
  go_simp;have hb:=ac wq (.cells #[.int .i64 t.n,bt aN] 140);have a5:=Qa (Zf wq (.cells #[.int .i64 t.n,bt aN] 140));obtain⟨gb,b8⟩:∃g,wq.heap.size=g:=⟨_,rfl⟩;have d9:=Qa (show w.heap.size<gb by rw[<-b8];exact ag a3.out);rw[b8] at a5 ⊢;have a3:=Qa (ah a3.out hb);have a2:=Qa (a2.out.trans (hb.mono a2.out.size));obtain⟨wn,a4⟩:∃x,wq.alloc (.cells #[.int .i64 t.n,bt aN] 140)=x:=⟨_,rfl⟩;rw[a4] at a5 a3 a2 hb ⊢;obtain⟨wq,a1⟩:∃x,x=wn:=⟨_,rfl⟩;subst a1;refine hK.out _ _ (⟨Zg hb a0.1,Zg hb a0.2⟩) (fun a0=>?_);clear hK K
  try simp only[Act.put,jP,jQ,jR]
  refine tH 6 a0 ?_;refine tH 9 a0 ?_
  try simp only[Act.put,jP,jQ,jR]
  rotate_left
  all_goals
   refine wpAnyH_done (by kernel_rfl) (NoPanic.normal ?_) _;go_wp2_with fail;exact Zh (fK Tryz.results202 _ _ w.heap.size 308 _ _ _ (0,0) (by simp) a3.out) rfl ⟨a2.out,⟨_,rfl,gb,_,aN,rfl,a5.out⟩⟩
def mw:List (List UInt8):= [[49,45,53,45,45,45,45,45,45,45,45,45,50,52,45,45], [52,52,52,52,52,52,52,52,52,52,50,45,45,45,45,45], [45,51,51,51,51,51,51,51,51,51,51,51,51,51,51,51], [51,51,51,51,51,51,51,51,51,51,51,50,45,50,45,45], [45,51,51,51,51,51,51,51,51,51,51,51,51,51,51,51], [51,51,51,51,51,51,51,51,51,51,51,50,45,50,45,45]]
def jn (w:World):Prop:= ∀i,i<6->w.cell? ⟨14,i,none⟩=some (.string ⟨(mw.getD i []).toArray⟩)
theorem jn.below (h:jn w)(hb:Below w.heap.size w w'):jn w':=fun i hi=>Zg hb (h i hi)
theorem zm (x:UInt8):(x.toNat=9\/x.toNat=10\/x.toNat=13->bJ x=1)/\(¬ (x.toNat=9\/x.toNat=10\/x.toNat=13)->(x.toNat<32\/127<x.toNat)->bJ x=0)/\(32<=x.toNat->x.toNat<=127->((bJ x:Nat):Int)=max ((((mw.getD (x.toNat/16 - 2) []).getD (x.toNat % 16) 0).toNat:Int) - 48) 0):=by
 have:=qP (p:=fun x=>decide ((x.toNat=9\/x.toNat=10\/x.toNat=13->bJ x=1)/\(¬ (x.toNat=9\/x.toNat=10\/x.toNat=13)->(x.toNat<32\/127<x.toNat)->bJ x=0)/\(32<=x.toNat->x.toNat<=127->((bJ x:Nat):Int)=max ((((mw.getD (x.toNat/16 - 2) []).getD (x.toNat % 16) 0).toNat:Int) - 48) 0))) (by decide +kernel) x;exact of_decide_eq_true this
theorem yu (R:List UInt8)(j:Nat)(h:j<R.length):R[j]?=some (R.getD j 0):=by simp[Zd h]
theorem Ch:∀i,i<6->(mw.getD i []).length=16:=by decide
theorem gB {k:IntKind}{s:ByteArray}{p:Nat}{x:UInt8}(hg:s.data.toList[p]?=some x)(w':World):(Instr.index 9 (.string s) (.int k (p:Int))).run Tryz.prog w' =.ok (.int .u8 x.toNat) w':=by
 have hlt:p<s.size:=by
  have h2:=(List.getElem?_eq_some_iff.1 hg).1;rw[Array.length_toList] at h2;exact h2
 rw[run_index_string w' 9 s k (p:Int) Tryz.underlying9,dif_pos ⟨Int.natCast_nonneg _,by omega⟩];have h3:s[((p:Nat):Int).toNat]'(by simpa using hlt)=x:=by
  simp only[Int.toNat_natCast];have h4:s.data[p]?=some x:=by rw[<-Array.getElem?_toList];exact hg
  exact(Array.getElem?_eq_some_iff.1 h4).2
 rw[h3]
theorem cK (x:UInt8)(hB:jn w):Calls Tryz.prog 177 #[.int .u8 x.toNat] w fun e w'=>e =.returned (.int .i64 (bJ x:Nat))/\w=w':=by
 obtain⟨k1,k2,k3⟩:=zm x;have hx:=x.toNat_lt;obtain⟨n,hn⟩:∃n,x.toNat=n:=⟨_,rfl⟩;rw[hn] at k1 k2 k3 hx ⊢;obtain⟨k,hk⟩:∃k,bJ x=k:=⟨_,rfl⟩;rw[hk] at k1 k2 k3 ⊢;clear hn hk
 by_cases h1:n=9\/n=10\/n=13
 ·obtain rfl:=k1 h1;clear k1 k2 k3;go_enter Tryz.func177,Tryz.ntmps177;rcases h1 with rfl|rfl|rfl
  ·go_wp2;go_ret;exact⟨rfl,rfl⟩
  ·go_wp2;go_ret;exact⟨rfl,rfl⟩
  ·go_wp2;go_ret;exact⟨rfl,rfl⟩
 ·have e1:((n:Int)==9)=false:=by simp;omega
  have e2:((n:Int)==10)=false:=by simp;omega
  have e3:((n:Int)==13)=false:=by simp;omega
  by_cases h2:n<32\/127<n
  ·obtain rfl:=k2 h1 h2;clear k1 k2 k3 h1;go_enter Tryz.func177,Tryz.ntmps177;rcases h2 with h2|h2
   ·have a1:(n:Int)<32:=by omega
    go_wp2;go_ret;exact⟨rfl,rfl⟩
   ·have a1:¬ (n:Int)<32:=by omega
    have a5:(127:Int)<n:=by omega
    go_wp2;go_ret;exact⟨rfl,rfl⟩
  ·have k3:=k3 (by omega) (by omega);have hc:=hB (n/16 - 2) (by omega);have hl:=Ch (n/16 - 2) (by omega);obtain⟨v,hv⟩:∃v:UInt8,(mw.getD (n/16 - 2) []).getD (n % 16) 0=v:=⟨_,rfl⟩;have a0:=fun w'=>gB (k:=.u8) (s:=⟨(mw.getD (n/16 - 2) []).toArray⟩) (p:=n % 16) (x:=v) (by
    show(mw.getD (n/16 - 2) [])[n % 16]?=some v
    rw[<-hv];exact yu _ _ (by rw[hl];omega)) w'
   rw[hv] at k3;have a2:=v.toNat_lt;obtain⟨z,hz⟩:∃z:Int,(v.toNat:Int)=z:=⟨_,rfl⟩;rw[hz] at k3 a0;have a3:0<=z:=by omega
   have a4:z<256:=by omega
   generalize (⟨(mw.getD (n/16 - 2) []).toArray⟩:ByteArray)=row at *;obtain⟨q,hq⟩:∃q,n/16=q:=⟨_,rfl⟩;obtain⟨r,hr⟩:∃r,n % 16=r:=⟨_,rfl⟩;have d1:(n:Int)/16=q:=by omega
   have d2:(n:Int) % 16=r:=by omega
   have d1':Int.tdiv (n:Int) 16=q:=by rw[Int.tdiv_eq_ediv_of_nonneg (by omega)];exact d1
   have d2':Int.tmod (n:Int) 16=r:=by rw[Int.tmod_eq_emod_of_nonneg (by omega)];exact d2
   have d3:IntKind.u8.wrap ((q:Int) - 2)= ((q - 2:Nat):Int):=by simp[IntKind.wrap,IntKind.bits,IntKind.signed];omega
   have d4:((q:Int) - 2).toNat=q - 2:=by omega
   rw[hq] at hc;rw[hr] at a0;have n1:¬ (n:Int)<32:=by omega
   have n2:¬ (127:Int)<n:=by omega
   have n3:2<=(q:Int):=by omega
   have n4:(q:Int)<8:=by omega
   rw[k3];clear k1 k2 k3 h1 h2 hl hv hz hq hr hB a2;go_enter Tryz.func177,Tryz.ntmps177;go_wp2;go_ret;exact⟨rfl,rfl⟩
theorem iP (x:UInt8)(w:World):Calls Tryz.prog 198 #[.int .u8 x.toNat] w fun e w'=>e =.returned (.bool (cL x))/\w=w':=by
 have key:cL x= (decide (97<=bits .or .u8 (x.toNat:Int) 32)&&decide (bits .or .u8 (x.toNat:Int) 32<=122)):=by
  have h:∀n:Nat,n<256->cL (UInt8.ofNat n)= (decide (97<=bits .or .u8 (n:Int) 32)&&decide (bits .or .u8 (n:Int) 32<=122)):=by decide +kernel
  have:=h x.toNat x.toNat_lt
  rwa[UInt8.ofNat_toNat] at this
 rw[key];clear key;obtain⟨y,hy⟩:∃y:Int,bits .or .u8 (x.toNat:Int) 32=y:=⟨_,rfl⟩;rw[hy]
 by_cases h1:97<=y
 ·by_cases h2:y<=122
  ·rw[decide_eq_true h1,decide_eq_true h2];go_enter Tryz.func198,Tryz.ntmps198;go_wp2;go_ret;exact⟨rfl,rfl⟩
  ·rw[decide_eq_true h1,decide_eq_false h2];go_enter Tryz.func198,Tryz.ntmps198;go_wp2;go_ret;exact⟨rfl,rfl⟩
 ·rw[decide_eq_false h1];go_enter Tryz.func198,Tryz.ntmps198;go_wp2;go_ret;exact⟨rfl,rfl⟩
def EL (l:List UInt8):Bool:=l == [110,117,108,108]||l == [116,114,117,101]||l == [102,97,108,115,101]
theorem kh (l:List UInt8)(w:World):Calls Tryz.prog 199 #[.string ⟨l.toArray⟩] w fun e w'=>e =.returned (.bool (EL l))/\w=w':=by
 have hl:(⟨l.toArray⟩:ByteArray).toList=l:=by rw[ByteArray.toList_eq]
 obtain⟨s,hs⟩:∃s:ByteArray,⟨l.toArray⟩=s:=⟨_,rfl⟩;rw[hs] at hl ⊢;unfold EL;obtain⟨b1,h1⟩:∃b,(s.toList == [110,117,108,108])=b:=⟨_,rfl⟩;obtain⟨b2,h2⟩:∃b,(s.toList == [116,114,117,101])=b:=⟨_,rfl⟩;obtain⟨b3,h3⟩:∃b,(s.toList == [102,97,108,115,101])=b:=⟨_,rfl⟩;rw[<-hl,h1,h2,h3];clear hs hl;go_enter Tryz.func199,Tryz.ntmps199
 cases b1 <;> cases b2 <;> cases b3
 all_goals go_wp2
 all_goals (go_ret;exact⟨rfl,rfl⟩)
def fQ (w:World)(e:Ending)(w':World):Prop:= ∃v,e =.panicked [{v:=v,recovered:=false}]/\EG w' v/\Below w.heap.size w w'
theorem nR (hb:Below w.drew.heap.size w.drew w'):Below w.heap.size w w':=⟨hb.os,hb.tape,hb.output,hb.size,hb.block⟩
theorem aW (p:Int)(a:Addr)(w:World):Calls Tryz.prog 236 #[.int .i64 p,bt a] w (fQ w):=by
 go_enter Tryz.func236,Tryz.ntmps236;go_wp2_with fail;exact⟨rfl,_,rfl,⟨_,_,a,rfl,Zf _ _⟩,ac _ _⟩
theorem zD (x:UInt8):fi x=if 48<=(x.toNat:Int)/\(x.toNat:Int)<=57 then some (x.toNat - 48) else if 97<=(x.toNat:Int)/\(x.toNat:Int)<=102 then some (x.toNat - 87) else if 65<=(x.toNat:Int)/\(x.toNat:Int)<=70 then some (x.toNat - 55) else none:=by
 unfold fi
 congr 1
 ·simp only[eq_iff_iff];omega
 ·congr 1
  ·simp only[eq_iff_iff];omega
  ·congr 1
   simp only[eq_iff_iff];omega
def jA (r:Option Nat):Value:=match r with|some d=>.tuple #[.int .i64 d,.bool true]|none=>.tuple #[.int .i64 0,.bool false]
theorem cr (x:UInt8)(w:World):Calls Tryz.prog 269 #[.int .u8 x.toNat] w fun e w'=>e =.returned (jA (fi x))/\w=w':=by
 have hx:=x.toNat_lt;rw[zD];obtain⟨n,hn⟩:∃n,x.toNat=n:=⟨_,rfl⟩;rw[hn] at hx ⊢;clear hn
 by_cases h1:48<=(n:Int)/\(n:Int)<=57
 ·rw[if_pos h1];obtain⟨h1,h2⟩:=h1;have e1:((n - 48:Nat):Int)= (n:Int) - 48:=by omega
  have e2:IntKind.u8.wrap ((n:Int) - 48)= (n:Int) - 48:=by simp[IntKind.wrap,IntKind.bits,IntKind.signed];omega
  unfold jA
  dsimp only
  rw[e1];clear e1;go_enter Tryz.func269,Tryz.ntmps269;go_wp2;go_ret2;exact⟨rfl,rfl⟩
 rw[if_neg h1];have g1:(decide (48<=(n:Int))&&decide ((n:Int)<=57))=false:=by simpa using h1
 by_cases h2:97<=(n:Int)/\(n:Int)<=102
 ·rw[if_pos h2];obtain⟨h2,h3⟩:=h2;have n1:(48:Int)<=n:=by omega
  have n2:¬ (n:Int)<=57:=by omega
  have e1:((n - 87:Nat):Int)= (n:Int) - 97+10:=by omega
  have e2:IntKind.u8.wrap ((n:Int) - 97)= (n:Int) - 97:=by simp[IntKind.wrap,IntKind.bits,IntKind.signed];omega
  unfold jA
  dsimp only
  rw[e1];clear e1 h1 g1;go_enter Tryz.func269,Tryz.ntmps269;go_wp2;go_ret2;exact⟨rfl,rfl⟩
 rw[if_neg h2]
 by_cases h3:65<=(n:Int)/\(n:Int)<=70
 ·rw[if_pos h3];obtain⟨h3,h4⟩:=h3;have n1:(48:Int)<=n:=by omega
  have n2:¬ (n:Int)<=57:=by omega
  have n3:¬ (97:Int)<=n:=by omega
  have e1:((n - 55:Nat):Int)= (n:Int) - 65+10:=by omega
  have e2:IntKind.u8.wrap ((n:Int) - 65)= (n:Int) - 65:=by simp[IntKind.wrap,IntKind.bits,IntKind.signed];omega
  unfold jA
  dsimp only
  rw[e1];clear e1 h1 g1 h2;go_enter Tryz.func269,Tryz.ntmps269;go_wp2;go_ret2;exact⟨rfl,rfl⟩
 rw[if_neg h3];unfold jA
 dsimp only
 clear g1;go_enter Tryz.func269,Tryz.ntmps269;go_wp2
 all_goals first|(exfalso;simp_all;done)|(exfalso;omega)|(go_ret2;exact⟨rfl,rfl⟩)
def pA (w:World)(g:Nat)(v:Value)(xs:List UInt8)(k:Nat):Prop:=w.heap[g]?=some (.cells #[v,.int .i64 k] 371 (0,0))/\Bs w v xs
theorem pA.below {k:Nat}(h:pA w g v xs k)(hb:Below w.heap.size w w'):pA w' g v xs k:=⟨ah h.1 hb,h.2.below hb⟩
def FR (xs:List UInt8)(i:Nat)(w:World)(e:Ending)(w':World):Prop:=(i<xs.length/\e =.returned (.int .u8 (am xs i))/\w=w')\/(xs.length<=i/\fQ w e w')
theorem ik {k:Nat}(h:pA w g v xs k)(hE:a6 w 9)(i:Nat):Calls Tryz.prog 247 #[.pointer (some ⟨g,0,none⟩),.int .i64 i] w (FR xs i w):=by
 obtain⟨hg,hb⟩:=h;obtain⟨hm,A,cap,rfl,a5,a0⟩:=id hb;obtain⟨aE,a3⟩:=hE;have c0:=aa hg (j:=0) (u:=.slice A xs.length cap) rfl
 by_cases hi:i<xs.length
 ·obtain⟨b,o,rfl,a2⟩:=a0 (by omega);have c1:=a2 i hi;have a4:(i:Int)<xs.length:=by omega
  clear hg hb a0 a2;go_enter Tryz.func247,Tryz.ntmps247;go_wp2_with fail;go_ret;exact .inl ⟨hi,rfl,rfl⟩
 ·have a4:¬ (i:Int)<xs.length:=by omega
  have Hi:=Qa (show xs.length<=i by omega);clear hg hb a0 hi;go_enter Tryz.func247,Tryz.ntmps247;go_wp2_with fail;refine wp_region_held_drew (S:=fun w'=>w'.cell? ⟨g,0,none⟩=some (.slice A xs.length cap)/\w'.cell? ⟨9,0,none⟩=some (bt aE)) (by kernel_rfl) (⟨c0,a3⟩) (fun a1=>?_);refine tH 0 a1 ?_;refine tH 1 a1 ?_;refine tH 2 a1 ?_;refine tH 3 a1 ?_;refine tH 4 a1 ?_;refine tH 5 a1 ?_
  try simp only[Act.put,jP,jQ,jR]
  refine rH 6 fun K hK=>?_
  go_simp;refine(aW _ aE _).mono ?_;rintro e w' ⟨v,rfl,hv,hb⟩;exact⟨rfl,.inr ⟨Hi.out,v,rfl,hv,nR hb⟩⟩
