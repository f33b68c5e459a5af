import Derived.Test.YthknekoamnnhhaaGreatDoorGZ5al
set_option linter.unusedVariables false
set_option linter.unusedSimpArgs false
set_option maxHeartbeats 64000000
set_option maxRecDepth 100000
namespace Go.Proofs.YthknekoamnnhhaaGreatDoor
open Go.RowKit Go.Shelf
variable {xs:List UInt8}{g i k0 m nd p:Nat}{v:Value}{w w' w1:World}
abbrev bL (a:Addr):Value:=.iface 427 (.pointer (some a))
def bC (w:World)(g:Nat):Prop:= ∃a,w.cell? ⟨g,0,none⟩=some (bL a)
theorem bC.below (h:bC w g)(hb:Below w.heap.size w w'):bC w' g:=by
 obtain⟨a,h⟩:=h;exact⟨a,Zf hb h⟩
def Gm (w:World)(v:Value):Prop:= ∃ (g:Nat) (p:Int) (a:Addr),v =.iface 251 (.pointer (some ⟨g,0,none⟩))/\w.heap[g]?=some (.cells #[.int .i64 p,bL a] 253 (0,0))
theorem Gm.below (h:Gm w v)(hb:Below w.heap.size w w'):Gm w' v:=by
 obtain⟨g,p,a,e,hg⟩:=h;exact⟨g,p,a,e,aj hg hb⟩
def JU (d:Dc):Value:=.agg #[.bool d.neg,.string d.digits,.int .i64 d.exp]
def G9 (r:Option (Dc×Nat))(w:World)(e:Ending)(w':World):Prop:=Below w.heap.size w w'/\match r with
 |some p=>e =.returned (.tuple #[JU p.1,.int .i64 p.2,.nilIface])
 |none=> ∃u v,e =.returned (.tuple #[u,.int .i64 0,v])/\Gm w' v
theorem DS:∀ (t:NS),t.part<=t.n->t.digs.length<=t.n->t.exps.length<=t.n->(∀c∈t.exps,eI c=true)->t.n+xs.length<=1000000000->
  (aD t xs).part<=1000000000/\(aD t xs).digs.length<=1000000000/\(aD t xs).exps.length<=1000000000/\(aD t xs).n<=1000000000/\∀c∈(aD t xs).exps,eI c=true:=by
 induction xs with
 |nil=>intro t h1 h2 h3 h4 h5;simp at h5;unfold aD;exact⟨by omega,by omega,by omega,by omega,h4⟩
 |cons c xs ih=>
  intro t h1 h2 h3 h4 h5;simp only[List.length_cons] at h5;unfold aD
  split
  ·exact⟨by omega,by omega,by omega,by omega,h4⟩
  ·rename_i h9
   refine ih (t.next c) ?_ ?_ ?_ ?_ ?_
   ·simp only[NS.next];split <;> omega
   ·simp only[NS.next];split
    ·simp;omega
    ·omega
   ·simp only[NS.next];split
    ·simp;omega
    ·omega
   ·simp only[NS.next];split
    ·rename_i h8
     intro a ha;rcases List.mem_append.1 ha with ha|ha
     ·exact h4 a ha
     ·rw[List.mem_singleton.1 ha]
      -- state 8 is reached by digits alone
      have key:∀s,s<9->∀k,k<7->eQ s k=8->k=2\/k=3:=by decide +kernel
      have h7:eQ t.st (bD c)=8->bD c=2\/bD c=3:=by
       intro h
       by_cases hs:t.st<9
       ·exact key _ hs _ (by have:=wI c;omega) h
       ·exfalso
        unfold eQ at h
        split at h
        ·rw[List.getD_eq_getElem?_getD,List.getElem?_eq_none (by show oO.length<=_;simp[oO];omega)] at h;simp at h
        ·omega
      have hk:=h7 h8;have:=uK (p:=fun c=> !(bD c==2||bD c==3)||eI c) (by decide +kernel) c;rcases hk with hk|hk <;> simpa [hk] using this
    ·exact h4
   ·simp only[NS.next];omega
def JW (r:Option Dc)(a:Bool)(b:ByteArray)(c:Int)(ok:Bool):Prop:=match r with|some d=>ok=true/\a=d.neg/\b=d.digits/\c=d.exp|none=>ok=false
theorem Jq.form {r:Option Dc}(h:Jq r v):∃a b c ok,v =.tuple #[.agg #[.bool a,.string b,.int .i64 c],.bool ok]/\JW r a b c ok:=by
 cases r with
 |none=>obtain⟨a,b,c,rfl⟩:=h;exact⟨a,b,c,false,rfl,rfl⟩
 |some d=>obtain rfl:=h;exact⟨_,_,_,true,rfl,rfl,rfl,rfl,rfl⟩
def J5 (r:Option Dc)(w3:World)(s6 s7:Value)(wx:World):Prop:= ∃gz a b c ok,s6 =.pointer (some ⟨gz,0,none⟩)/\s7 =.bool ok/\wx.heap[gz]?=some (.cells #[.bool a,.string b,.int .i64 c] 124 (0,0))/\Below w3.heap.size w3 wx/\JW r a b c ok/\w3.heap.size<=gz
def SP (g:Nat)(t:NS)(Ad:Option Addr)(nd qd:Nat)(Ae:Option Addr)(ne qe:Nat)(w':World):Prop:=w'.cell? ⟨g,0,none⟩=some (.bool t.neg)/\w'.cell? ⟨g,1,none⟩=some (.bool t.down)/\w'.cell? ⟨g,2,none⟩=some (.slice Ad nd qd)/\w'.cell? ⟨g,3,none⟩=some (.int .i64 t.part)/\w'.cell? ⟨g,4,none⟩=some (.slice Ae ne qe)/\w'.cell? ⟨g,5,none⟩=some (.int .i64 t.st)/\w'.cell? ⟨g,6,none⟩=some (.int .i64 t.n)/\
 (convert 22 9 (.slice Ad nd qd)).run Tryz.prog w' =.ok (.string ⟨t.digs.toArray⟩) w'/\Bs w' (.slice Ad nd qd) t.digs
theorem SP.below {t:NS}{Ad:Option Addr}{qd:Nat}{Ae:Option Addr}{ne qe:Nat}(h:SP g t Ad nd qd Ae ne qe w)(hb:Below w.heap.size w w'):SP g t Ad nd qd Ae ne qe w':=by
 obtain⟨h0,h1,h2,h3,h4,h5,h6,-,h8⟩:=h;exact⟨Zf hb h0,Zf hb h1,Zf hb h2,Zf hb h3,Zf hb h4,Zf hb h5,Zf hb h6,aW (h8.below hb),h8.below hb⟩
theorem qR (hb:Bs w v xs)(hl:xs.length<=1000000000)(hG:oA w)(hN:bC w 12)(hX:bC w 13):Calls Tryz.prog 232 #[v] w (G9 (o5 xs) w):=by
 have c8:=ac w (.cells #[.bool false,.string es,.int .i64 0] 124);have h0:=Ze w (.cells #[.bool false,.string es,.int .i64 0] 124);have f6:=Qa (tP (hb.below c8) hl (hG.below c8));have h6:12<w.heap.size:=by obtain⟨a,h⟩:=hN;exact World.block_lt_of_cell? w _ h
 have h5:13<w.heap.size:=by obtain⟨a,h⟩:=hX;exact World.block_lt_of_cell? w _ h
 have f9:=hN.below c8;have f2:=hX.below c8;have hnum:o5 xs=if ep (aD iE xs).st then(iT (aD iE xs).neg (aD iE xs).digs (f7 (aD iE xs)) (-((aD iE xs).part:Int))).map fun d=>(d,(aD iE xs).n) else none:=rfl
 obtain⟨b1,b2,b3,b4,b5⟩:=DS (xs:=xs) iE (Za _) (Za _) (Za _) (by simp[iE]) (by show 0+xs.length<=_;omega);rw[hnum];clear hb hG hN hX hnum;generalize aD iE xs=t at *;have B5:=Qa b5;have h9:=EJ b5;have H0:=Qa h0;have f1:=Qa c8;have HN:=Qa f9;have HX:=Qa f2;clear b5 h0 c8 f9 f2;go_enter Tryz.func232,Tryz.ntmps232;go_wp2_with fail;generalize w.alloc (.cells #[.bool false,.string es,.int .i64 0] 124)=w0 at *;(with_reducible refine f6.out.mono ?_);rintro e w1 ⟨vd,ve,rfl,b9,hd,he⟩;obtain⟨Ad,nd,qd,rfl⟩:∃A n q,vd =.slice A n q:=by obtain⟨A,c,e,_⟩:=ah hd;exact⟨A,_,c,e⟩
 obtain⟨Ae,ne,qe,rfl⟩:∃A n q,ve =.slice A n q:=by obtain⟨A,c,e,_⟩:=ah he;exact⟨A,_,c,e⟩
 have hz:=Ze w1 Gp;have g0:=ai (w1.alloc Gp) w1.heap.size #[.bool t.neg,.bool t.down,.slice Ad nd qd,.int .i64 t.part,.slice Ae ne qe,.int .i64 t.st,.int .i64 t.n];have b6:Below w1.heap.size w1 ((w1.alloc Gp).setRow w1.heap.size #[.bool t.neg,.bool t.down,.slice Ad nd qd,.int .i64 t.part,.slice Ae ne qe,.int .i64 t.st,.int .i64 t.n]):=(ac w1 Gp).grown g0 (by simp) (fun g e=>by cases e;exact Za _);have ht:=setRow_heap (w1.alloc Gp) w1.heap.size _ #[.bool t.neg,.bool t.down,.slice Ad nd qd,.int .i64 t.part,.slice Ae ne qe,.int .i64 t.st,.int .i64 t.n] _ _ hz;have e1:=Qa (f1.out.trans ((b9.trans (b6.mono b9.size)).mono f1.out.size));have f0:=Qa (aj (aj H0.out b9) b6);have f8:=Qa ((HN.out.below b9).below b6);have f5:=Qa ((HX.out.below b9).below b6);have Hd:=Qa (hd.bs.below b6);have He:=Qa (he.bs.below b6);have Ht:=Qa ht;have h8:w.heap.size<w1.heap.size:=Nat.lt_of_lt_of_le (ae H0.out) b9.size;have h7:=b6.size;clear f6 b9 hd he b6 ht f1 H0 HN HX g0;have f3:(w1.alloc (.cells #[.bool false,.bool false,.slice none 0 0,.int .i64 0,.slice none 0 0,.int .i64 0,.int .i64 0] 374)).heap[w1.heap.size]?=some (.cells #[.bool false,.bool false,.slice none 0 0,.int .i64 0,.slice none 0 0,.int .i64 0,.int .i64 0] 374):=hz;clear hz;go_upto_region 2 with (refine bM f3 ?_)
 unfold Gp at *;generalize (w1.alloc (.cells #[.bool false,.bool false,.slice none 0 0,.int .i64 0,.slice none 0 0,.int .i64 0,.int .i64 0] 374)).setRow w1.heap.size #[.bool t.neg,.bool t.down,.slice Ad nd qd,.int .i64 t.part,.slice Ae ne qe,.int .i64 t.st,.int .i64 t.n]=w2 at *;clear f3;have c0:=aa Ht.out (j:=0) (u:=.bool t.neg) rfl;have c1:=aa Ht.out (j:=1) (u:=.bool t.down) rfl;have c2:=aa Ht.out (j:=2) (u:=.slice Ad nd qd) rfl;have c3:=aa Ht.out (j:=3) (u:=.int .i64 t.part) rfl;have c4:=aa Ht.out (j:=4) (u:=.slice Ae ne qe) rfl;have c5:=aa Ht.out (j:=5) (u:=.int .i64 t.st) rfl;have c6:=aa Ht.out (j:=6) (u:=.int .i64 t.n) rfl
 by_cases hw:ep t.st=true
 ·go_wp2_with fail;refine(pP t (.slice Ad nd qd) (.slice Ae ne qe) w2).mono ?_;rintro e w3 ⟨rfl,a5⟩;rw[hw];have H3:=Qa (aj Ht.out a5);have d9:=Qa (e1.out.trans (a5.mono e1.out.size));have c9:=Qa (aj f0.out a5);have f4:=Qa (f5.out.below a5);have e7:=Qa (Hd.out.below a5);have e4:=Qa (He.out.below a5);have d0:=aa H3.out (j:=0) (u:=.bool t.neg) rfl;have d1:=aa H3.out (j:=1) (u:=.bool t.down) rfl;have d2:=aa H3.out (j:=2) (u:=.slice Ad nd qd) rfl;have d3:=aa H3.out (j:=3) (u:=.int .i64 t.part) rfl;have d4:=aa H3.out (j:=4) (u:=.slice Ae ne qe) rfl;have d5:=aa H3.out (j:=5) (u:=.int .i64 t.st) rfl;have d6:=aa H3.out (j:=6) (u:=.int .i64 t.n) rfl;have h3:=a5.size;clear a5 c0 c1 c2 c3 c4 c5 c6 Hd He f5 f8 f0 e1 Ht;go_wp2_with fail;have h4:w.heap.size<w3.heap.size:=ae c9.out;have swn:IntKind.i64.wrap (-(t.part:Int)) = -(t.part:Int):=IntWalk.i64_in _ (by omega);go_cut [6,7] (fun s6 s7 wx=>J5 (iT t.neg t.digs (f7 t) (-(t.part:Int))) w3 s6 s7 wx)
  case first=>
   obtain⟨wq,hwq⟩:∃wq,w3.drew=wq:=⟨_,rfl⟩;have Hq:Hid (Below w3.heap.size w3 wq):=Qa (by rw[<-hwq];exact(Zd _ _).drew);have SP3:Hid (SP w1.heap.size t Ad nd qd Ae ne qe w3):=Qa ⟨d0,d1,d2,d3,d4,d5,d6,aW e7.out,e7.out⟩;refine aR (fun w'=>w'.cell? ⟨w1.heap.size,0,none⟩=some (.bool t.neg)/\w'.cell? ⟨w1.heap.size,1,none⟩=some (.bool t.down)/\w'.cell? ⟨w1.heap.size,2,none⟩=some (.slice Ad nd qd)/\w'.cell? ⟨w1.heap.size,3,none⟩=some (.int .i64 t.part)/\w'.cell? ⟨w1.heap.size,4,none⟩=some (.slice Ae ne qe)/\w'.cell? ⟨w1.heap.size,5,none⟩=some (.int .i64 t.st)/\w'.cell? ⟨w1.heap.size,6,none⟩=some (.int .i64 t.n)/\(convert 22 9 (.slice Ad nd qd)).run Tryz.prog w' =.ok (.string ⟨t.digs.toArray⟩) w'/\Bs w' (.slice Ad nd qd) t.digs) ((by rw[hwq];exact(SP.below SP3.out Hq.out:SP w1.heap.size t Ad nd qd Ae ne qe wq))) fun a0=>?_
   rw[hwq] at a0 ⊢;clear hwq;refine tH 0 a0 ?_;refine tH 1 a0 ?_;refine tH 2 a0 ?_;refine tH 3 a0 ?_;refine tH 4 a0 ?_;refine tH 5 a0 ?_
   try simp only[Act.put,jP,jQ,jR]
   refine tH 7 a0 ?_;refine tH 8 a0 ?_;refine tH 9 a0 ?_
   try simp only[Act.put,jP,jQ,jR]
   refine wpAnyH_ready (rs:= [6,14]) (by kernel_rfl) (by simp) ?_;refine AllReadyH.cons (o6 rfl) (fun K hK=>?_) (AllReadyH.cons (o6 rfl) (fun K hK=>?_) AllReadyH.nil);go_simp;refine(qk t (.slice Ad nd qd) (.slice Ae ne qe) (e4.out.below Hq.out) B5.out b3).mono ?_;rintro e wn ⟨rfl,hb⟩;have Hq:=Qa (bE Hq.out hb);(try have Hzq:=Qa (aj Hzq.out hb));obtain⟨wq,hwq⟩:∃x,x=wn:=⟨_,rfl⟩;subst hwq;refine hK.out _ _ ((SP.below SP3.out Hq.out:SP w1.heap.size t Ad nd qd Ae ne qe _)) (fun a0=>?_);clear hK K
   try simp only[Act.put,jP,jQ,jR]
   refine wpAnyH_ready (rs:= [10,14]) (by kernel_rfl) (by simp) ?_;refine AllReadyH.cons (o6 rfl) (fun K hK=>?_) (AllReadyH.cons (o6 rfl) (fun K hK=>?_) AllReadyH.nil);go_simp;(try rw[swn]);(with_reducible refine(jx t.neg t.digs (f7 t) (-(t.part:Int)) b2 (by omega) (by omega) wq).mono ?_);rintro e wn ⟨vN,rfl,a9,hb⟩;obtain⟨a,b,c,ok,rfl,b0⟩:=a9.form;have Hvr:=Qa b0;clear b0 a9;have Hq:=Qa (bE Hq.out hb);(try have Hzq:=Qa (aj Hzq.out hb));obtain⟨wq,hwq⟩:∃x,x=wn:=⟨_,rfl⟩;subst hwq;refine hK.out _ _ ((SP.below SP3.out Hq.out:SP w1.heap.size t Ad nd qd Ae ne qe _)) (fun a0=>?_);clear hK K
   try simp only[Act.put,jP,jQ,jR]
   refine tH 11 a0 ?_;refine tH 12 a0 ?_;refine tH 13 a0 ?_
   try simp only[Act.put,jP,jQ,jR]
   refine rH 14 fun K hK=>?_
   go_simp;have hb:=ac wq (.cells #[.bool false,.string es,.int .i64 0] 124);have a7:=Ze wq (.cells #[.bool false,.string es,.int .i64 0] 124);obtain⟨gz,b7⟩:∃g,wq.heap.size=g:=⟨_,rfl⟩;have Hgz:=Qa (show w3.heap.size<=gz by rw[<-b7];exact Hq.out.size);rw[b7] at a7 ⊢;have Hzq:=Qa a7;have Hq:=Qa (bE Hq.out hb);obtain⟨wn,a3⟩:∃x,wq.alloc (.cells #[.bool false,.string es,.int .i64 0] 124)=x:=⟨_,rfl⟩;rw[a3] at Hzq Hq hb ⊢;clear a7;obtain⟨wq,hwq⟩:∃x,x=wn:=⟨_,rfl⟩;subst hwq;refine hK.out _ _ ((SP.below SP3.out Hq.out:SP w1.heap.size t Ad nd qd Ae ne qe _)) (fun a0=>?_);clear hK K
   try simp only[Act.put,jP,jQ,jR]
   rotate_left
   go_simp;have hb:=ac wq (.cells #[.bool false,.string es,.int .i64 0] 124);have a7:=Ze wq (.cells #[.bool false,.string es,.int .i64 0] 124);obtain⟨gz,b7⟩:∃g,wq.heap.size=g:=⟨_,rfl⟩;have Hgz:=Qa (show w3.heap.size<=gz by rw[<-b7];exact Hq.out.size);rw[b7] at a7 ⊢;have Hzq:=Qa a7;have Hq:=Qa (bE Hq.out hb);obtain⟨wn,a3⟩:∃x,wq.alloc (.cells #[.bool false,.string es,.int .i64 0] 124)=x:=⟨_,rfl⟩;rw[a3] at Hzq Hq hb ⊢;clear a7;obtain⟨wq,hwq⟩:∃x,x=wn:=⟨_,rfl⟩;subst hwq;refine hK.out _ _ ((SP.below SP3.out Hq.out:SP w1.heap.size t Ad nd qd Ae ne qe _)) (fun a0=>?_);clear hK K
   try simp only[Act.put,jP,jQ,jR]
   refine rH 10 fun K hK=>?_
   go_simp;(try rw[swn]);(with_reducible refine(jx t.neg t.digs (f7 t) (-(t.part:Int)) b2 (by omega) (by omega) wq).mono ?_);rintro e wn ⟨vN,rfl,a9,hb⟩;obtain⟨a,b,c,ok,rfl,b0⟩:=a9.form;have Hvr:=Qa b0;clear b0 a9;have Hq:=Qa (bE Hq.out hb);(try have Hzq:=Qa (aj Hzq.out hb));obtain⟨wq,hwq⟩:∃x,x=wn:=⟨_,rfl⟩;subst hwq;refine hK.out _ _ ((SP.below SP3.out Hq.out:SP w1.heap.size t Ad nd qd Ae ne qe _)) (fun a0=>?_);clear hK K
   try simp only[Act.put,jP,jQ,jR]
   refine tH 11 a0 ?_;refine tH 12 a0 ?_;refine tH 13 a0 ?_
   try simp only[Act.put,jP,jQ,jR]
   rotate_left
   go_simp;have hb:=ac wq (.cells #[.bool false,.string es,.int .i64 0] 124);have a7:=Ze wq (.cells #[.bool false,.string es,.int .i64 0] 124);obtain⟨gz,b7⟩:∃g,wq.heap.size=g:=⟨_,rfl⟩;have Hgz:=Qa (show w3.heap.size<=gz by rw[<-b7];exact Hq.out.size);rw[b7] at a7 ⊢;have Hzq:=Qa a7;have Hq:=Qa (bE Hq.out hb);obtain⟨wn,a3⟩:∃x,wq.alloc (.cells #[.bool false,.string es,.int .i64 0] 124)=x:=⟨_,rfl⟩;rw[a3] at Hzq Hq hb ⊢;clear a7;obtain⟨wq,hwq⟩:∃x,x=wn:=⟨_,rfl⟩;subst hwq;refine hK.out _ _ ((SP.below SP3.out Hq.out:SP w1.heap.size t Ad nd qd Ae ne qe _)) (fun a0=>?_);clear hK K
   try simp only[Act.put,jP,jQ,jR]
   refine rH 6 fun K hK=>?_
   go_simp;refine(qk t (.slice Ad nd qd) (.slice Ae ne qe) (e4.out.below Hq.out) B5.out b3).mono ?_;rintro e wn ⟨rfl,hb⟩;have Hq:=Qa (bE Hq.out hb);(try have Hzq:=Qa (aj Hzq.out hb));obtain⟨wq,hwq⟩:∃x,x=wn:=⟨_,rfl⟩;subst hwq;refine hK.out _ _ ((SP.below SP3.out Hq.out:SP w1.heap.size t Ad nd qd Ae ne qe _)) (fun a0=>?_);clear hK K
   try simp only[Act.put,jP,jQ,jR]
   refine rH 10 fun K hK=>?_
   go_simp;(try rw[swn]);(with_reducible refine(jx t.neg t.digs (f7 t) (-(t.part:Int)) b2 (by omega) (by omega) wq).mono ?_);rintro e wn ⟨vN,rfl,a9,hb⟩;obtain⟨a,b,c,ok,rfl,b0⟩:=a9.form;have Hvr:=Qa b0;clear b0 a9;have Hq:=Qa (bE Hq.out hb);(try have Hzq:=Qa (aj Hzq.out hb));obtain⟨wq,hwq⟩:∃x,x=wn:=⟨_,rfl⟩;subst hwq;refine hK.out _ _ ((SP.below SP3.out Hq.out:SP w1.heap.size t Ad nd qd Ae ne qe _)) (fun a0=>?_);clear hK K
   try simp only[Act.put,jP,jQ,jR]
   refine tH 11 a0 ?_;refine tH 12 a0 ?_;refine tH 13 a0 ?_
   try simp only[Act.put,jP,jQ,jR]
   rotate_left
   all_goals
    refine rH 15 fun K hK=>?_
    refine bT Hzq.out ?_;have Hq:=Qa (Hq.out.grown (ai wq gz #[.bool a,.string b,.int .i64 c]) Hq.out.size (fun g e=>by cases e;exact Hgz.out));have Hzq:=Qa (setRow_heap _ _ _ #[.bool a,.string b,.int .i64 c] _ _ Hzq.out);obtain⟨wn,a3⟩:∃x,wq.setRow gz #[.bool a,.string b,.int .i64 c]=x:=⟨_,rfl⟩;rw[a3] at Hzq Hq ⊢;obtain⟨wq,hwq⟩:∃x,x=wn:=⟨_,rfl⟩;subst hwq;refine hK.out _ _ ((SP.below SP3.out Hq.out:SP w1.heap.size t Ad nd qd Ae ne qe _)) (fun a0=>?_);clear hK K
    try simp only[Act.put,jP,jQ,jR]
    refine tH 16 a0 ?_
    try simp only[Act.put,jP,jQ,jR]
    refine wpAnyH_done (by kernel_rfl) (NoPanic.normal ?_) _;go_wp2_with fail;go_meet
    case rel=>exact⟨gz,a,b,c,ok,rfl,rfl,Hzq.out,Hq.out,Hvr.out,Hgz.out⟩
  case rest=>
   obtain⟨gz,a,b,c,ok,rfl,rfl,hz,hq,g2,g7⟩:=hcut;have g3:=Qa g2;have e6:=Zf hq d6;have e2:=Qa (aj c9.out hq);have e3:=Qa (d9.out.trans (hq.mono d9.out.size));have g8:=Qa (f4.out.below hq);have z0:=aa hz (j:=0) (u:=.bool a) rfl;have z1:=aa hz (j:=1) (u:=.string b) rfl;have z2:=aa hz (j:=2) (u:=.int .i64 c) rfl;have e5:w.heap.size<gz:=by omega
   clear hz hq g2 d0 d1 d2 d3 d4 d5 d6 e7 e4 H3 c9 d9 f4;obtain⟨aX,g6⟩:=g8.out
   cases ok with
   |true=>
    have e8:=Qa ((e3.out.drew).grown (ai wc.drew w.heap.size #[.bool a,.string b,.int .i64 c]) e3.out.size (fun g e=>by cases e;exact Za _));have c7:gz≠w.heap.size:=fun e=>by subst e;exact absurd e5 (Nat.lt_irrefl _)
    go_wp2_with fail;refine aR (fun w'=>w'.cell? ⟨gz,0,none⟩=some (.bool a)/\w'.cell? ⟨gz,1,none⟩=some (.string b)/\w'.cell? ⟨gz,2,none⟩=some (.int .i64 c)/\w'.cell? ⟨w1.heap.size,6,none⟩=some (.int .i64 t.n)) (⟨z0,z1,z2,e6⟩) fun a0=>?_
    refine tH 0 a0 ?_;refine tH 1 a0 ?_;refine tH 2 a0 ?_
    try simp only[Act.put,jP,jQ,jR]
    refine rH 3 fun K hK=>?_
    refine bT e2.out ?_;have hg:=ai wc.drew w.heap.size #[.bool a,.string b,.int .i64 c];refine hK.out _ _ (⟨hg.cell a0.1 (fun e=>by injection e with e;exact c7 e),hg.cell a0.2.1 (fun e=>by injection e with e;exact c7 e),hg.cell a0.2.2.1 (fun e=>by injection e with e;exact c7 e),hg.cell a0.2.2.2 (fun e=>by injection e with e;have e:w1.heap.size=w.heap.size:=e;omega)⟩) (fun a0=>?_);clear hK K
    try simp only[Act.put,jP,jQ,jR]
    refine tH 4 a0 ?_;refine tH 5 a0 ?_
    try simp only[Act.put,jP,jQ,jR]
    refine wpAnyH_done (by kernel_rfl) (NoPanic.normal ?_) _;go_wp2_with fail;have hd:=g3.out;have e0:G9 ((iT t.neg t.digs (f7 t) (-(t.part:Int))).map fun d=>(d,t.n)) w (.returned (.tuple #[.agg #[.bool a,.string b,.int .i64 c],.int .i64 t.n,.nilIface])) (wc.drew.setRow w.heap.size #[.bool a,.string b,.int .i64 c]):=by
     refine⟨e8.out,?_⟩
     cases hr:iT t.neg t.digs (f7 t) (-(t.part:Int)) with
     |none=>rw[hr] at hd;cases hd
     |some d=>rw[hr] at hd;obtain⟨-,rfl,rfl,rfl⟩:=hd;rfl
    exact Zg (jk Tryz.results232 _ _ w.heap.size 124 _ _ _ (0,0) (by simp) (setRow_heap _ _ _ _ _ _ e2.out)) rfl e0
   |false=>
    have g1:∀u v w',Below w.heap.size w w'->Gm w' v->G9 ((iT t.neg t.digs (f7 t) (-(t.part:Int))).map fun d=>(d,t.n)) w (.returned (.tuple #[u,.int .i64 0,v])) w':=by
     intro u v w' h1 h2;have hd:=g3.out;refine⟨h1,?_⟩
     cases hr:iT t.neg t.digs (f7 t) (-(t.part:Int)) with
     |some d=>rw[hr] at hd;cases hd.1
     |none=>exact⟨u,v,rfl,h2⟩
    have g9:=Qa g1;clear g1;go_wp2_with fail;obtain⟨wq,hwq⟩:∃wq,wc.drew=wq:=⟨_,rfl⟩;have a2:Hid (wq.heap[w.heap.size]?=some (.cells #[.bool false,.string es,.int .i64 0] 124 (0,0))):=Qa (by rw[<-hwq];exact e2.out);have a1:=Qa (show Below w.heap.size w wq by rw[<-hwq];exact e3.out.drew);clear e2 e3 z0 z1 z2 e6;refine aR (fun w'=>w'.cell? ⟨13,0,none⟩=some (bL aX)) (g6) fun a0=>?_
    rw[hwq] at a0 ⊢;clear hwq;refine tH 0 a0 ?_;refine tH 1 a0 ?_;refine tH 2 a0 ?_
    try simp only[Act.put,jP,jQ,jR]
    refine wpAnyH_ready (rs:= [3,5]) (by kernel_rfl) (by simp) ?_;refine AllReadyH.cons (o6 rfl) (fun K hK=>?_) (AllReadyH.cons (o6 rfl) (fun K hK=>?_) AllReadyH.nil);go_simp;have hb:=ac wq (.cells #[.int .i64 0,bL aX] 253);have a4:=Qa (Ze wq (.cells #[.int .i64 0,bL aX] 253));obtain⟨gb,a6⟩:∃g,wq.heap.size=g:=⟨_,rfl⟩;have b8:=Qa (show w.heap.size<gb by rw[<-a6];exact ae a2.out);rw[a6] at a4 ⊢;have a2:=Qa (aj a2.out hb);have a1:=Qa (a1.out.trans (hb.mono a1.out.size));obtain⟨wn,a3⟩:∃x,wq.alloc (.cells #[.int .i64 0,bL aX] 253)=x:=⟨_,rfl⟩;rw[a3] at a4 a2 a1 hb ⊢;obtain⟨wq,hwq⟩:∃x,x=wn:=⟨_,rfl⟩;subst hwq;refine hK.out _ _ (Zf hb a0) (fun a0=>?_);clear hK K
    try simp only[Act.put,jP,jQ,jR]
    refine tH 4 a0 ?_
    try simp only[Act.put,jP,jQ,jR]
    refine rH 5 fun K hK=>?_
    refine bT a2.out ?_;have hg:=ai wq w.heap.size #[.bool false,.string es,.int .i64 0];have a1:=Qa (a1.out.grown hg a1.out.size (fun g e=>by cases e;exact Za _));(try have a4:=Qa (aF a4.out hg (fun e=>by injection e with e;have:=b8.out;omega)));have a2:=Qa (setRow_heap _ _ _ #[.bool false,.string es,.int .i64 0] _ _ a2.out);obtain⟨wn,a3⟩:∃x,wq.setRow w.heap.size #[.bool false,.string es,.int .i64 0]=x:=⟨_,rfl⟩;rw[a3] at a2 a1 hg ⊢;(try rw[a3] at a4);obtain⟨wq,hwq⟩:∃x,x=wn:=⟨_,rfl⟩;subst hwq;refine hK.out _ _ (hg.cell a0 (fun e=>by injection e with e;have e:13=w.heap.size:=e;omega)) (fun a0=>?_);clear hK K
    try simp only[Act.put,jP,jQ,jR]
    refine tH 6 a0 ?_;refine tH 7 a0 ?_
    try simp only[Act.put,jP,jQ,jR]
    rotate_left
    refine bT a2.out ?_;have hg:=ai wq w.heap.size #[.bool false,.string es,.int .i64 0];have a1:=Qa (a1.out.grown hg a1.out.size (fun g e=>by cases e;exact Za _));(try have a4:=Qa (aF a4.out hg (fun e=>by injection e with e;have:=b8.out;omega)));have a2:=Qa (setRow_heap _ _ _ #[.bool false,.string es,.int .i64 0] _ _ a2.out);obtain⟨wn,a3⟩:∃x,wq.setRow w.heap.size #[.bool false,.string es,.int .i64 0]=x:=⟨_,rfl⟩;rw[a3] at a2 a1 hg ⊢;(try rw[a3] at a4);obtain⟨wq,hwq⟩:∃x,x=wn:=⟨_,rfl⟩;subst hwq;refine hK.out _ _ (hg.cell a0 (fun e=>by injection e with e;have e:13=w.heap.size:=e;omega)) (fun a0=>?_);clear hK K
    try simp only[Act.put,jP,jQ,jR]
    refine tH 6 a0 ?_
    try simp only[Act.put,jP,jQ,jR]
    refine rH 3 fun K hK=>?_
    go_simp;have hb:=ac wq (.cells #[.int .i64 0,bL aX] 253);have a4:=Qa (Ze wq (.cells #[.int .i64 0,bL aX] 253));obtain⟨gb,a6⟩:∃g,wq.heap.size=g:=⟨_,rfl⟩;have b8:=Qa (show w.heap.size<gb by rw[<-a6];exact ae a2.out);rw[a6] at a4 ⊢;have a2:=Qa (aj a2.out hb);have a1:=Qa (a1.out.trans (hb.mono a1.out.size));obtain⟨wn,a3⟩:∃x,wq.alloc (.cells #[.int .i64 0,bL aX] 253)=x:=⟨_,rfl⟩;rw[a3] at a4 a2 a1 hb ⊢;obtain⟨wq,hwq⟩:∃x,x=wn:=⟨_,rfl⟩;subst hwq;refine hK.out _ _ (Zf hb a0) (fun a0=>?_);clear hK K
    try simp only[Act.put,jP,jQ,jR]
    refine tH 4 a0 ?_;refine tH 7 a0 ?_
    try simp only[Act.put,jP,jQ,jR]
    rotate_left
    all_goals
     refine wpAnyH_done (by kernel_rfl) (NoPanic.normal ?_) _;go_wp2_with fail;exact Zg (jk Tryz.results232 _ _ w.heap.size 124 _ _ _ (0,0) (by simp) a2.out) rfl (g9.out _ _ _ a1.out ⟨gb,_,aX,rfl,a4.out⟩)
 ·have g5:ep t.st=false:=by simpa using hw
  go_wp2_with fail;refine(pP t (.slice Ad nd qd) (.slice Ae ne qe) w2).mono ?_;rintro e w3 ⟨rfl,a5⟩;rw[g5];have H3:=Qa (aj Ht.out a5);have d9:=Qa (e1.out.trans (a5.mono e1.out.size));have c9:=Qa (aj f0.out a5);obtain⟨aN,g4⟩:=f8.out.below a5;have d6:=aa H3.out (j:=6) (u:=.int .i64 t.n) rfl;have h3:=a5.size;clear a5 c0 c1 c2 c3 c4 c5 c6;go_wp2_with fail;obtain⟨wq,hwq⟩:∃wq,w3.drew=wq:=⟨_,rfl⟩;have a2:Hid (wq.heap[w.heap.size]?=some (.cells #[.bool false,.string es,.int .i64 0] 124 (0,0))):=Qa (by rw[<-hwq];exact c9.out);have a1:=Qa (show Below w.heap.size w wq by rw[<-hwq];exact d9.out.drew);clear c9 d9;refine aR (fun w'=>w'.cell? ⟨w1.heap.size,6,none⟩=some (.int .i64 t.n)/\w'.cell? ⟨12,0,none⟩=some (bL aN)) (⟨d6,g4⟩) fun a0=>?_
  rw[hwq] at a0 ⊢;clear hwq;refine tH 0 a0 ?_;refine tH 1 a0 ?_;refine tH 2 a0 ?_;refine tH 3 a0 ?_;refine tH 4 a0 ?_
  try simp only[Act.put,jP,jQ,jR]
  refine wpAnyH_ready (rs:= [5,7]) (by kernel_rfl) (by simp) ?_;refine AllReadyH.cons (o6 rfl) (fun K hK=>?_) (AllReadyH.cons (o6 rfl) (fun K hK=>?_) AllReadyH.nil);go_simp;have hb:=ac wq (.cells #[.int .i64 t.n,bL aN] 253);have a4:=Qa (Ze wq (.cells #[.int .i64 t.n,bL aN] 253));obtain⟨gb,a6⟩:∃g,wq.heap.size=g:=⟨_,rfl⟩;have b8:=Qa (show w.heap.size<gb by rw[<-a6];exact ae a2.out);rw[a6] at a4 ⊢;have a2:=Qa (aj a2.out hb);have a1:=Qa (a1.out.trans (hb.mono a1.out.size));obtain⟨wn,a3⟩:∃x,wq.alloc (.cells #[.int .i64 t.n,bL aN] 253)=x:=⟨_,rfl⟩;rw[a3] at a4 a2 a1 hb ⊢;obtain⟨wq,hwq⟩:∃x,x=wn:=⟨_,rfl⟩;subst hwq;refine hK.out _ _ (⟨Zf hb a0.1,Zf hb a0.2⟩) (fun a0=>?_);clear hK K
  try simp only[Act.put,jP,jQ,jR]
  refine tH 6 a0 ?_
  try simp only[Act.put,jP,jQ,jR]
  refine rH 7 fun K hK=>?_
  refine bT a2.out ?_;have hg:=ai wq w.heap.size #[.bool false,.string es,.int .i64 0];have a1:=Qa (a1.out.grown hg a1.out.size (fun g e=>by cases e;exact Za _));(try have a4:=Qa (aF a4.out hg (fun e=>by injection e with e;have:=b8.out;omega)));have a2:=Qa (setRow_heap _ _ _ #[.bool false,.string es,.int .i64 0] _ _ a2.out);obtain⟨wn,a3⟩:∃x,wq.setRow w.heap.size #[.bool false,.string es,.int .i64 0]=x:=⟨_,rfl⟩;rw[a3] at a2 a1 hg ⊢;(try rw[a3] at a4);obtain⟨wq,hwq⟩:∃x,x=wn:=⟨_,rfl⟩;subst hwq;refine hK.out _ _ (⟨hg.cell a0.1 (fun e=>by injection e with e;have e:w1.heap.size=w.heap.size:=e;omega),hg.cell a0.2 (fun e=>by injection e with e;have e:12=w.heap.size:=e;omega)⟩) (fun a0=>?_);clear hK K
  try simp only[Act.put,jP,jQ,jR]
  refine tH 8 a0 ?_;refine tH 9 a0 ?_
  try simp only[Act.put,jP,jQ,jR]
  rotate_left
  refine bT a2.out ?_;have hg:=ai wq w.heap.size #[.bool false,.string es,.int .i64 0];have a1:=Qa (a1.out.grown hg a1.out.size (fun g e=>by cases e;exact Za _));(try have a4:=Qa (aF a4.out hg (fun e=>by injection e with e;have:=b8.out;omega)));have a2:=Qa (setRow_heap _ _ _ #[.bool false,.string es,.int .i64 0] _ _ a2.out);obtain⟨wn,a3⟩:∃x,wq.setRow w.heap.size #[.bool false,.string es,.int .i64 0]=x:=⟨_,rfl⟩;rw[a3] at a2 a1 hg ⊢;(try rw[a3] at a4);obtain⟨wq,hwq⟩:∃x,x=wn:=⟨_,rfl⟩;subst hwq;refine hK.out _ _ (⟨hg.cell a0.1 (fun e=>by injection e with e;have e:w1.heap.size=w.heap.size:=e;omega),hg.cell a0.2 (fun e=>by injection e with e;have e:12=w.heap.size:=e;omega)⟩) (fun a0=>?_);clear hK K
  try simp only[Act.put,jP,jQ,jR]
  refine tH 8 a0 ?_
  try simp only[Act.put,jP,jQ,jR]
  refine rH 5 fun K hK=>?_
  go_simp;have hb:=ac wq (.cells #[.int .i64 t.n,bL aN] 253);have a4:=Qa (Ze wq (.cells #[.int .i64 t.n,bL aN] 253));obtain⟨gb,a6⟩:∃g,wq.heap.size=g:=⟨_,rfl⟩;have b8:=Qa (show w.heap.size<gb by rw[<-a6];exact ae a2.out);rw[a6] at a4 ⊢;have a2:=Qa (aj a2.out hb);have a1:=Qa (a1.out.trans (hb.mono a1.out.size));obtain⟨wn,a3⟩:∃x,wq.alloc (.cells #[.int .i64 t.n,bL aN] 253)=x:=⟨_,rfl⟩;rw[a3] at a4 a2 a1 hb ⊢;obtain⟨wq,hwq⟩:∃x,x=wn:=⟨_,rfl⟩;subst hwq;refine hK.out _ _ (⟨Zf hb a0.1,Zf hb a0.2⟩) (fun a0=>?_);clear hK K
  try simp only[Act.put,jP,jQ,jR]
  refine tH 6 a0 ?_;refine tH 9 a0 ?_
  try simp only[Act.put,jP,jQ,jR]
  rotate_left
  all_goals
   refine wpAnyH_done (by kernel_rfl) (NoPanic.normal ?_) _;go_wp2_with fail;exact Zg (jk Tryz.results232 _ _ w.heap.size 124 _ _ _ (0,0) (by simp) a2.out) rfl ⟨a1.out,⟨_,_,rfl,gb,_,aN,rfl,a4.out⟩⟩
def py:List (List UInt8):= [[49,45,53,45,45,45,45,45,45,45,45,45,50,52,45,45], [52,52,52,52,52,52,52,52,52,52,50,45,45,45,45,45], [45,51,51,51,51,51,51,51,51,51,51,51,51,51,51,51], [51,51,51,51,51,51,51,51,51,51,51,50,45,50,45,45], [45,51,51,51,51,51,51,51,51,51,51,51,51,51,51,51], [51,51,51,51,51,51,51,51,51,51,51,50,45,50,45,45]]
def lV (w:World):Prop:= ∀i,i<6->w.cell? ⟨9,i,none⟩=some (.string ⟨(py.getD i []).toArray⟩)
theorem lV.below (h:lV w)(hb:Below w.heap.size w w'):lV w':=fun i hi=>Zf hb (h i hi)
theorem DF (x:UInt8):(x.toNat=9\/x.toNat=10\/x.toNat=13->cD x=1)/\(¬ (x.toNat=9\/x.toNat=10\/x.toNat=13)->(x.toNat<32\/127<x.toNat)->cD x=0)/\(32<=x.toNat->x.toNat<=127->((cD x:Nat):Int)=max ((((py.getD (x.toNat/16 - 2) []).getD (x.toNat % 16) 0).toNat:Int) - 48) 0):=by
 have:=uK (p:=fun x=>decide ((x.toNat=9\/x.toNat=10\/x.toNat=13->cD x=1)/\(¬ (x.toNat=9\/x.toNat=10\/x.toNat=13)->(x.toNat<32\/127<x.toNat)->cD x=0)/\(32<=x.toNat->x.toNat<=127->((cD x:Nat):Int)=max ((((py.getD (x.toNat/16 - 2) []).getD (x.toNat % 16) 0).toNat:Int) - 48) 0))) (by decide +kernel) x;exact of_decide_eq_true this
theorem Bb (R:List UInt8)(j:Nat)(h:j<R.length):R[j]?=some (R.getD j 0):=by simp[Zc h]
theorem E4:∀i,i<6->(py.getD i []).length=16:=by decide
theorem jE {k:IntKind}{s:ByteArray}{x:UInt8}(hg:s.data.toList[p]?=some x)(w':World):(Instr.index 9 (.string s) (.int k (p:Int))).run Tryz.prog w' =.ok (.int .u8 x.toNat) w':=by
 have hlt:p<s.size:=by
  have h2:=(List.getElem?_eq_some_iff.1 hg).1;rw[Array.length_toList] at h2;exact h2
 rw[run_index_string w' 9 s k (p:Int) Tryz.underlying9,dif_pos ⟨Int.natCast_nonneg _,by omega⟩];have h3:s[((p:Nat):Int).toNat]'(by simpa using hlt)=x:=by
  simp only[Int.toNat_natCast];have h4:s.data[p]?=some x:=by rw[<-Array.getElem?_toList];exact hg
  exact(Array.getElem?_eq_some_iff.1 h4).2
 rw[h3]
theorem dW (x:UInt8)(hB:lV w):Calls Tryz.prog 207 #[.int .u8 x.toNat] w fun e w'=>e =.returned (.int .i64 (cD x:Nat))/\w=w':=by
 obtain⟨k1,k2,k3⟩:=DF x;have hx:=x.toNat_lt;obtain⟨n,hn⟩:∃n,x.toNat=n:=⟨_,rfl⟩;rw[hn] at k1 k2 k3 hx ⊢;obtain⟨k,hk⟩:∃k,cD x=k:=⟨_,rfl⟩;rw[hk] at k1 k2 k3 ⊢;clear hn hk
 by_cases h1:n=9\/n=10\/n=13
 ·obtain rfl:=k1 h1;clear k1 k2 k3;go_enter Tryz.func207,Tryz.ntmps207;rcases h1 with rfl|rfl|rfl
  ·go_wp2;go_ret;exact⟨rfl,rfl⟩
  ·go_wp2;go_ret;exact⟨rfl,rfl⟩
  ·go_wp2;go_ret;exact⟨rfl,rfl⟩
 ·have e1:((n:Int)==9)=false:=by simp;omega
  have e2:((n:Int)==10)=false:=by simp;omega
  have e3:((n:Int)==13)=false:=by simp;omega
  by_cases h2:n<32\/127<n
  ·obtain rfl:=k2 h1 h2;clear k1 k2 k3 h1;go_enter Tryz.func207,Tryz.ntmps207;rcases h2 with h2|h2
   ·have a2:(n:Int)<32:=by omega
    go_wp2;go_ret;exact⟨rfl,rfl⟩
   ·have a2:¬ (n:Int)<32:=by omega
    have a5:(127:Int)<n:=by omega
    go_wp2;go_ret;exact⟨rfl,rfl⟩
  ·have k3:=k3 (by omega) (by omega);have hc:=hB (n/16 - 2) (by omega);have hl:=E4 (n/16 - 2) (by omega);obtain⟨v,hv⟩:∃v:UInt8,(py.getD (n/16 - 2) []).getD (n % 16) 0=v:=⟨_,rfl⟩;have a0:=fun w'=>jE (k:=.u8) (s:=⟨(py.getD (n/16 - 2) []).toArray⟩) (p:=n % 16) (x:=v) (by
    show(py.getD (n/16 - 2) [])[n % 16]?=some v
    rw[<-hv];exact Bb _ _ (by rw[hl];omega)) w'
   rw[hv] at k3;have a1:=v.toNat_lt;obtain⟨z,hz⟩:∃z:Int,(v.toNat:Int)=z:=⟨_,rfl⟩;rw[hz] at k3 a0;have a4:0<=z:=by omega
   have a3:z<256:=by omega
   generalize (⟨(py.getD (n/16 - 2) []).toArray⟩:ByteArray)=row at *;obtain⟨q,hq⟩:∃q,n/16=q:=⟨_,rfl⟩;obtain⟨r,hr⟩:∃r,n % 16=r:=⟨_,rfl⟩;have d1:(n:Int)/16=q:=by omega
   have d2:(n:Int) % 16=r:=by omega
   have d1':Int.tdiv (n:Int) 16=q:=by rw[Int.tdiv_eq_ediv_of_nonneg (by omega)];exact d1
   have d2':Int.tmod (n:Int) 16=r:=by rw[Int.tmod_eq_emod_of_nonneg (by omega)];exact d2
   have d3:IntKind.u8.wrap ((q:Int) - 2)= ((q - 2:Nat):Int):=by simp[IntKind.wrap,IntKind.bits,IntKind.signed];omega
   have d4:((q:Int) - 2).toNat=q - 2:=by omega
   rw[hq] at hc;rw[hr] at a0;have n1:¬ (n:Int)<32:=by omega
   have n2:¬ (127:Int)<n:=by omega
   have n3:2<=(q:Int):=by omega
   have n4:(q:Int)<8:=by omega
   rw[k3];clear k1 k2 k3 h1 h2 hl hv hz hq hr hB a1;go_enter Tryz.func207,Tryz.ntmps207;go_wp2;go_ret;exact⟨rfl,rfl⟩
theorem kU (x:UInt8)(w:World):Calls Tryz.prog 228 #[.int .u8 x.toNat] w fun e w'=>e =.returned (.bool (dX x))/\w=w':=by
 have key:dX x= (decide (97<=bits .or .u8 (x.toNat:Int) 32)&&decide (bits .or .u8 (x.toNat:Int) 32<=122)):=by
  have h:∀n:Nat,n<256->dX (UInt8.ofNat n)= (decide (97<=bits .or .u8 (n:Int) 32)&&decide (bits .or .u8 (n:Int) 32<=122)):=by decide +kernel
  have:=h x.toNat x.toNat_lt
  rwa[UInt8.ofNat_toNat] at this
 rw[key];clear key;obtain⟨y,hy⟩:∃y:Int,bits .or .u8 (x.toNat:Int) 32=y:=⟨_,rfl⟩;rw[hy]
 by_cases h1:97<=y
 ·by_cases h2:y<=122
  ·rw[decide_eq_true h1,decide_eq_true h2];go_enter Tryz.func228,Tryz.ntmps228;go_wp2;go_ret;exact⟨rfl,rfl⟩
  ·rw[decide_eq_true h1,decide_eq_false h2];go_enter Tryz.func228,Tryz.ntmps228;go_wp2;go_ret;exact⟨rfl,rfl⟩
 ·rw[decide_eq_false h1];go_enter Tryz.func228,Tryz.ntmps228;go_wp2;go_ret;exact⟨rfl,rfl⟩
def Gi (l:List UInt8):Bool:=l == [110,117,108,108]||l == [116,114,117,101]||l == [102,97,108,115,101]
theorem mG (l:List UInt8)(w:World):Calls Tryz.prog 229 #[.string ⟨l.toArray⟩] w fun e w'=>e =.returned (.bool (Gi l))/\w=w':=by
 have hl:(⟨l.toArray⟩:ByteArray).toList=l:=by rw[ByteArray.toList_eq]
 obtain⟨s,hs⟩:∃s:ByteArray,⟨l.toArray⟩=s:=⟨_,rfl⟩;rw[hs] at hl ⊢;unfold Gi;obtain⟨b1,h1⟩:∃b,(s.toList == [110,117,108,108])=b:=⟨_,rfl⟩;obtain⟨b2,h2⟩:∃b,(s.toList == [116,114,117,101])=b:=⟨_,rfl⟩;obtain⟨b3,h3⟩:∃b,(s.toList == [102,97,108,115,101])=b:=⟨_,rfl⟩;rw[<-hl,h1,h2,h3];clear hs hl;go_enter Tryz.func229,Tryz.ntmps229
 cases b1 <;> cases b2 <;> cases b3
 all_goals go_wp2
 all_goals (go_ret;exact⟨rfl,rfl⟩)
def jp (w:World)(e:Ending)(w':World):Prop:= ∃v,e =.panicked [{v:=v,recovered:=false}]/\Gm w' v/\Below w.heap.size w w'
theorem rR (hb:Below w.drew.heap.size w.drew w'):Below w.heap.size w w':=⟨hb.os,hb.tape,hb.output,hb.size,hb.block⟩
theorem bz (p:Int)(a:Addr)(w:World):Calls Tryz.prog 251 #[.int .i64 p,bL a] w (jp w):=by
 go_enter Tryz.func251,Tryz.ntmps251;go_wp2_with fail;exact⟨rfl,_,rfl,⟨_,_,a,rfl,Ze _ _⟩,ac _ _⟩
theorem DE (x:UInt8):iJ x=if 48<=(x.toNat:Int)/\(x.toNat:Int)<=57 then some (x.toNat - 48) else if 97<=(x.toNat:Int)/\(x.toNat:Int)<=102 then some (x.toNat - 87) else if 65<=(x.toNat:Int)/\(x.toNat:Int)<=70 then some (x.toNat - 55) else none:=by
 unfold iJ
 congr 1
 ·simp only[eq_iff_iff];omega
 ·congr 1
  ·simp only[eq_iff_iff];omega
  ·congr 1
   simp only[eq_iff_iff];omega
def lI (r:Option Nat):Value:=match r with|some d=>.tuple #[.int .i64 d,.bool true]|none=>.tuple #[.int .i64 0,.bool false]
theorem dF (x:UInt8)(w:World):Calls Tryz.prog 280 #[.int .u8 x.toNat] w fun e w'=>e =.returned (lI (iJ x))/\w=w':=by
 have hx:=x.toNat_lt;rw[DE];obtain⟨n,hn⟩:∃n,x.toNat=n:=⟨_,rfl⟩;rw[hn] at hx ⊢;clear hn
 by_cases h1:48<=(n:Int)/\(n:Int)<=57
 ·rw[if_pos h1];obtain⟨h1,h2⟩:=h1;have e1:((n - 48:Nat):Int)= (n:Int) - 48:=by omega
  have e2:IntKind.u8.wrap ((n:Int) - 48)= (n:Int) - 48:=by simp[IntKind.wrap,IntKind.bits,IntKind.signed];omega
  unfold lI
  dsimp only
  rw[e1];clear e1;go_enter Tryz.func280,Tryz.ntmps280;go_wp2;go_ret2;exact⟨rfl,rfl⟩
 rw[if_neg h1];have g1:(decide (48<=(n:Int))&&decide ((n:Int)<=57))=false:=by simpa using h1
 by_cases h2:97<=(n:Int)/\(n:Int)<=102
 ·rw[if_pos h2];obtain⟨h2,h3⟩:=h2;have n1:(48:Int)<=n:=by omega
  have n2:¬ (n:Int)<=57:=by omega
  have e1:((n - 87:Nat):Int)= (n:Int) - 97+10:=by omega
  have e2:IntKind.u8.wrap ((n:Int) - 97)= (n:Int) - 97:=by simp[IntKind.wrap,IntKind.bits,IntKind.signed];omega
  unfold lI
  dsimp only
  rw[e1];clear e1 h1 g1;go_enter Tryz.func280,Tryz.ntmps280;go_wp2;go_ret2;exact⟨rfl,rfl⟩
 rw[if_neg h2]
 by_cases h3:65<=(n:Int)/\(n:Int)<=70
 ·rw[if_pos h3];obtain⟨h3,h4⟩:=h3;have n1:(48:Int)<=n:=by omega
  have n2:¬ (n:Int)<=57:=by omega
  have n3:¬ (97:Int)<=n:=by omega
  have e1:((n - 55:Nat):Int)= (n:Int) - 65+10:=by omega
  have e2:IntKind.u8.wrap ((n:Int) - 65)= (n:Int) - 65:=by simp[IntKind.wrap,IntKind.bits,IntKind.signed];omega
  unfold lI
  dsimp only
  rw[e1];clear e1 h1 g1 h2;go_enter Tryz.func280,Tryz.ntmps280;go_wp2;go_ret2;exact⟨rfl,rfl⟩
 rw[if_neg h3];unfold lI
 dsimp only
 clear g1;go_enter Tryz.func280,Tryz.ntmps280;go_wp2
 all_goals first|(exfalso;simp_all;done)|(exfalso;omega)|(go_ret2;exact⟨rfl,rfl⟩)
def vg (w:World)(g:Nat)(v:Value)(xs:List UInt8)(k:Nat):Prop:=w.heap[g]?=some (.cells #[v,.int .i64 k] 385 (0,0))/\Bs w v xs
theorem vg.below {k:Nat}(h:vg w g v xs k)(hb:Below w.heap.size w w'):vg w' g v xs k:=⟨aj h.1 hb,h.2.below hb⟩
def IB (xs:List UInt8)(i:Nat)(w:World)(e:Ending)(w':World):Prop:=(i<xs.length/\e =.returned (.int .u8 (ap xs i))/\w=w')\/(xs.length<=i/\jp w e w')
theorem kw {k:Nat}(h:vg w g v xs k)(hE:bC w 4)(i:Nat):Calls Tryz.prog 258 #[.pointer (some ⟨g,0,none⟩),.int .i64 i] w (IB xs i w):=by
 obtain⟨hg,hb⟩:=h;obtain⟨hm,A,cap,rfl,a5,a0⟩:=id hb;obtain⟨aE,a4⟩:=hE;have c0:=aa hg (j:=0) (u:=.slice A xs.length cap) rfl
 by_cases hi:i<xs.length
 ·obtain⟨b,o,rfl,a2⟩:=a0 (by omega);have c1:=a2 i hi;have a3:(i:Int)<xs.length:=by omega
  clear hg hb a0 a2;go_enter Tryz.func258,Tryz.ntmps258;go_wp2_with fail;go_ret;exact .inl ⟨hi,rfl,rfl⟩
 ·have a3:¬ (i:Int)<xs.length:=by omega
  have Hi:=Qa (show xs.length<=i by omega);clear hg hb a0 hi;go_enter Tryz.func258,Tryz.ntmps258;go_wp2_with fail;refine wp_region_held_drew (S:=fun w'=>w'.cell? ⟨g,0,none⟩=some (.slice A xs.length cap)/\w'.cell? ⟨4,0,none⟩=some (bL aE)) (by kernel_rfl) (⟨c0,a4⟩) (fun a1=>?_);refine tH 0 a1 ?_;refine tH 1 a1 ?_;refine tH 2 a1 ?_;refine tH 3 a1 ?_;refine tH 4 a1 ?_;refine tH 5 a1 ?_
  try simp only[Act.put,jP,jQ,jR]
  refine rH 6 fun K hK=>?_
  go_simp;refine(bz _ aE _).mono ?_;rintro e w' ⟨v,rfl,hv,hb⟩;exact⟨rfl,.inr ⟨Hi.out,v,rfl,hv,rR hb⟩⟩
theorem qP (a d:Nat)(ha:a<1000000000)(hd:d<16):bits .or .i64 (((a*16:Nat)):Int) (d:Int)= ((a*16+d:Nat):Int):=by
 have h1:a*16 |||d=a*16+d:=by
  have:=Nat.shiftLeft_add_eq_or_of_lt (i:=4) (b:=d) (by omega) a;rw[Nat.shiftLeft_eq] at this;exact this.symm
 have e:bits .or .i64 (((a*16:Nat)):Int) (d:Int)=IntKind.i64.wrap (((BitVec.ofInt 64 ((a*16:Nat):Int) |||BitVec.ofInt 64 (d:Int)).toNat:Nat):Int):=rfl;rw[e,BitVec.toNat_or,BitVec.ofInt_natCast,BitVec.ofInt_natCast,BitVec.toNat_ofNat,BitVec.toNat_ofNat,Nat.mod_eq_of_lt (by omega),Nat.mod_eq_of_lt (by omega),h1];exact IntWalk.i64_in _ (by omega)
def bw (xs:List UInt8)(i:Nat):Nat->Option Nat
 |0=>some 0
 |k+1=>match bw xs i k,xs[i+k]? with
  |some a,some c=>(iJ c).map fun d=>a*16+d
  |_,_=>none
theorem nt {c:UInt8}{d:Nat}(h:iJ c=some d):d<16:=by
 unfold iJ at h
 split at h
 ·injection h with h;omega
 ·split at h
  ·injection h with h;omega
  ·split at h
   ·injection h with h;omega
   ·cases h
theorem jt:∀ {k x:Nat},bw xs i k=some x->x<16 ^ k
 |0,x,h=>by simp[bw] at h;subst h;decide
 |k+1,x,h=>by
  unfold bw at h
  cases ha:bw xs i k with
  |none=>rw[ha] at h;cases h
  |some a=>
   cases hc:xs[i+k]? with
   |none=>rw[ha,hc] at h;cases h
   |some c=>
    rw[ha,hc] at h;simp only[Option.map_eq_some_iff] at h;obtain⟨d,hd,rfl⟩:=h;have:=jt ha;have:=nt hd;rw[Nat.pow_succ];omega
theorem iH {k:Nat}(h:bw xs i k=none):∀m,bw xs i (k+m)=none
 |0=>h
 |m+1=>by
  have:=iH h m
  show bw xs i (k+m+1)=none
  unfold bw;rw[this]
theorem iN (xs:List UInt8)(i:Nat):cS (xs.drop i)=bw xs i 4:=by
 have g:∀j,xs[i+j]?= (xs.drop i)[j]?:=fun j=>by rw[List.getElem?_drop]
 simp only[bw,g];generalize xs.drop i=ys;rcases ys with _|⟨a,_|⟨b,_|⟨c,_|⟨d,t⟩⟩⟩⟩
 ·rfl
 ·simp[cS]
 ·simp[cS]
 ·simp[cS]
 ·simp only[cS,bind,pure,Option.bind];rcases ha:iJ a with _|a1 <;> rcases hb:iJ b with _|b1 <;> rcases hc:iJ c with _|c1 <;> rcases hd:iJ d with _|d1 <;> simp[ha,hb,hc,hd]
def JF (r:Option Nat)(w:World)(e:Ending)(w':World):Prop:=(∃x,r=some x/\e =.returned (.int .i64 x)/\w=w')\/(r=none/\jp w e w')
def Gc (xs:List UInt8)(i:Nat)(w:World)(s7 s11:Value)(wr:World):Prop:= ∃k x:Nat,k<=4/\s11 =.int .i64 k/\s7 =.int .i64 x/\bw xs i k=some x/\w=wr
theorem pZ (h:vg w g v xs k0)(hE:bC w 4)(hS:bC w 19)(i:Nat)(hi:i<=2000000000)(b:Int):Calls Tryz.prog 279 #[.pointer (some ⟨g,0,none⟩),.int .i64 i,.int .i64 b] w fun e w'=>JF (cS (xs.drop i)) w e w':=by
 rw[iN];have H:=Qa h;have HE:=Qa hE;obtain⟨aS,a5⟩:=hS;clear h hE;go_enter Tryz.func279,Tryz.ntmps279;go_wp2_with fail
 go_loopw [7,8,9,10,11] (fun s7 _ _ _ s11 wr=>Gc xs i w s7 s11 wr) (fun _ _ _ _ s11 _=>4 - (intOf s11).toNat)
 case atStart=>exact⟨0,0,by omega,rfl,rfl,rfl,rfl⟩
 case round=>
  obtain⟨k,x,hk,rfl,rfl,hf,rfl⟩:=hrel;have a0:=jt hf;have Hf:=Qa hf
  by_cases h4:k<4
  ·have a3:(k:Int)<4:=by omega
   have a4:x<65536:=Nat.lt_of_lt_of_le a0 (Zb (Nat.pow_le_pow_right (by decide) hk) (by decide));clear hf a0;go_wp2_with fail;rw[show(i:Int)+k= ((i+k:Nat):Int) from by omega];(with_reducible refine(kw H.out HE.out (i+k)).mono ?_);rintro e w' (⟨hlt,rfl,rfl⟩|⟨a2,vP,rfl,hv,hb⟩)
   ·obtain⟨c,hc⟩:∃c,xs[i+k]?=some c:=⟨_,Zc hlt⟩;have a1:ap xs (i+k)=c.toNat:=by unfold ap;rw[List.getD_eq_getElem?_getD,hc];rfl
    rw[a1];have Hc:=Qa hc;clear hc a1 hlt;go_wp2_with fail;refine(dF c w).mono ?_;rintro e w' ⟨rfl,rfl⟩;rcases hh:iJ c with _|d
    ·have Hn:=Qa (show bw xs i 4=none from by
      have h1:bw xs i (k+1)=none:=by unfold bw;rw[Hf.out,Hc.out];simp[hh]
      obtain⟨m,hm⟩:∃m,4=k+1+m:=⟨3 - k,by omega⟩;rw[hm];exact iH h1 m)
     unfold lI;clear hh;go_wp2_with fail;refine(bz b aS w).mono ?_;rintro e w' ⟨vP,rfl,hv,hb⟩;have Hv:=Qa hv;have Hb:=Qa hb;clear hv hb;go_wp2_with fail;exact⟨rfl,.inr ⟨Hn.out,vP,rfl,Hv.out,Hb.out⟩⟩
    ·have hd:=nt hh;have Hs:=Qa (show bw xs i (k+1)=some (x*16+d) from by unfold bw;rw[Hf.out,Hc.out];simp[hh]);have or1:=qP x d (by omega) hd;have sh1:((x*16:Nat):Int)= (x:Int)*16:=by omega
     rw[sh1] at or1;unfold lI;clear hh sh1;go_wp2_with fail;exact⟨⟨k+1,x*16+d,by omega,by go_num,by go_num,Hs.out,rfl⟩,by simp[intOf];omega⟩
   ·have hn:bw xs i (k+1)=none:=by unfold bw;rw[Hf.out,List.getElem?_eq_none a2]
    have Hn:=Qa (show bw xs i 4=none from by
     obtain⟨m,hm⟩:∃m,4=k+1+m:=⟨3 - k,by omega⟩;rw[hm];exact iH hn m)
    have Hv:=Qa hv;have Hb:=Qa hb;clear hv hb hn a2;go_wp2_with fail;exact⟨rfl,.inr ⟨Hn.out,vP,rfl,Hv.out,Hb.out⟩⟩
  ·obtain rfl:k=4:=by omega
   go_wp2_with fail;go_ret;exact .inl ⟨x,Hf.out,rfl,rfl⟩
theorem lN {k y:Nat}(h:bw xs i (k+1)=some y):bw xs i k=some (y/16):=by
 unfold bw at h
 cases ha:bw xs i k with
 |none=>rw[ha] at h;cases h
 |some a=>
  cases hc:xs[i+k]? with
  |none=>rw[ha,hc] at h;cases h
  |some c=>
   rw[ha,hc] at h;simp only[Option.map_eq_some_iff] at h;obtain⟨d,hd,rfl⟩:=h;have:=nt hd
   congr 1;omega
def iQ (m y:Nat):Prop:=(m=0/\y=0)\/(m=1/\y=13)\/(m=2/\220<=y/\y<=223)\/(m=3/\3520<=y/\y<=3583)\/(m=4/\56320<=y/\y<=57343)
theorem uR {y:Nat}(hm:m<=4)(h:bw xs i m=some y)(hn:¬iQ m y):∀z,bw xs i 4=some z->z<56320\/57343<z:=by
 intro z hz;have h3:=lN hz;have h2:=lN h3;have h1:=lN h2;unfold iQ at hn;rcases(by omega:m=0\/m=1\/m=2\/m=3\/m=4) with rfl|rfl|rfl|rfl|rfl
 ·simp[bw] at h;omega
 ·rw[h] at h1;injection h1 with h1;omega
 ·rw[h] at h2;injection h2 with h2;omega
 ·rw[h] at h3;injection h3 with h3;omega
 ·rw[h] at hz;injection hz with hz;omega
theorem oc (h:bw xs i m=none)(hm:m<=4):bw xs i 4=none:=by
 obtain⟨j,hj⟩:∃j,4=m+j:=⟨4 - m,by omega⟩;rw[hj];exact iH h j
theorem Fk {k x:Nat}(hx:cS (xs.drop (k+2))=some x):kB (xs.drop (k+2))=if x<55296\/57343<x then some (x,6) else if x>56319\/xs[k+6]?≠some 92\/xs[k+7]?≠some 117 then none else
  match bw xs (k+8) 4 with|none=>none|some y=>if y<56320\/57343<y then none else some (65536+ (x - 55296)*1024+ (y - 56320),12):=by
 have g6:xs[k+6]?= (xs.drop (k+2))[4]?:=by rw[List.getElem?_drop]
 have g7:xs[k+7]?= (xs.drop (k+2))[5]?:=by rw[List.getElem?_drop]
 have g8:bw xs (k+8) 4=cS ((xs.drop (k+2)).drop 6):=by rw[<-iN,List.drop_drop]
 rw[g6,g7,g8];generalize xs.drop (k+2)=ys at *;unfold kB;simp only[hx,bind,pure,Option.bind]
 split
 ·rfl
 ·rcases ys with _|⟨a,_|⟨b,_|⟨c,_|⟨d,t⟩⟩⟩⟩
  ·cases hx
  ·simp[cS] at hx
  ·simp[cS] at hx
  ·simp[cS] at hx
  ·rcases t with _|⟨e,_|⟨f,t⟩⟩
   ·simp
   ·simp
   ·simp only[List.drop_succ_cons,List.drop_zero,List.getElem?_cons_succ,List.getElem?_cons_zero,ne_eq,Option.some.injEq]
    split
    ·rfl
    ·cases cS t <;> rfl
def Cd (r:Option (Nat×Nat))(w:World)(e:Ending)(w':World):Prop:=(∃p,r=some p/\e =.returned (.tuple #[.int .i32 p.1,.int .i64 p.2])/\Below w.heap.size w w')\/(r=none/\jp w e w')
theorem zV {k:Nat}(hx:cS (xs.drop (k+2))=none):kB (xs.drop (k+2))=none:=by
 unfold kB;simp only[hx,bind,Option.bind]
theorem z7 (h:vg w g v xs k0)(hE:bC w 4)(hS:bC w 19)(i:Nat)(hi:i<=2000000000)(b:Int){x:Nat}(hx:cS (xs.drop i)=some x):Calls Tryz.prog 279 #[.pointer (some ⟨g,0,none⟩),.int .i64 i,.int .i64 b] w fun e w'=>e =.returned (.int .i64 x)/\w=w':=
 (pZ h hE hS i hi b).mono fun e w' hq=>by
  rcases hq with ⟨y,hy,he,hw⟩|⟨hn,-⟩
  ·rw[hx] at hy;injection hy with hy;subst hy;exact⟨he,hw⟩
  ·rw[hx] at hn;cases hn
theorem Dr (h:vg w g v xs k0)(hE:bC w 4)(hS:bC w 19)(i:Nat)(hi:i<=2000000000)(b:Int)(hx:cS (xs.drop i)=none):Calls Tryz.prog 279 #[.pointer (some ⟨g,0,none⟩),.int .i64 i,.int .i64 b] w (jp w):=
 (pZ h hE hS i hi b).mono fun e w' hq=>by
  rcases hq with ⟨y,hy,-⟩|⟨-,hf⟩
  ·rw[hx] at hy;cases hy
  ·exact hf
theorem aY {k:Nat}(h:vg w g v xs k)(hE:bC w 4)(i:Nat){c:UInt8}(hc:xs[i]?=some c):Calls Tryz.prog 258 #[.pointer (some ⟨g,0,none⟩),.int .i64 i] w fun e w'=>e =.returned (.int .u8 c.toNat)/\w=w':=
 (kw h hE i).mono fun e w' hq=>by
  have hi:=(List.getElem?_eq_some_iff.1 hc).1;rcases hq with ⟨-,he,hw⟩|⟨hn,-⟩
  ·refine⟨?_,hw⟩;rw[he];have:ap xs i=c.toNat:=by unfold ap;rw[List.getD_eq_getElem?_getD,hc];rfl
   rw[this]
  ·omega
theorem jn {k:Nat}(h:vg w g v xs k)(hE:bC w 4)(i:Nat)(hc:xs[i]?=none):Calls Tryz.prog 258 #[.pointer (some ⟨g,0,none⟩),.int .i64 i] w (jp w):=
 (kw h hE i).mono fun e w' hq=>by
  have hi:=List.getElem?_eq_none_iff.1 hc;rcases hq with ⟨hn,-⟩|⟨-,hf⟩
  ·omega
  ·exact hf
theorem jp.low {e:Ending}(h:jp w1 e w')(hb:Below w.heap.size w w1):jp w e w':=by
 obtain⟨v,he,hv,a0⟩:=h;exact⟨v,he,hv,bE hb a0⟩
def GV (xs:List UInt8)(k:Nat)(w:World)(s5 s56:Value)(wr:World):Prop:= ∃m y:Nat,m<=4/\s56 =.int .i64 m/\s5 =.int .i64 y/\bw xs (k+8) m=some y/\iQ m y/\w=wr
theorem vH {k:Nat}(h:vg w g v xs k)(hE:bC w 4)(hS:bC w 19)(hU:bC w 20)(hk:k<=1000000000):Calls Tryz.prog 269 #[.pointer (some ⟨g,0,none⟩)] w fun e w'=>Cd (kB (xs.drop (k+2))) w e w':=by
 obtain⟨A,n,q,rfl⟩:∃A n q,v =.slice A n q:=by obtain⟨-,-,A,c,e,-⟩:=h;exact⟨A,_,c,e⟩
 have c1:=aa h.1 (j:=1) (u:=.int .i64 k) rfl;have H:=Qa (show vg w.drew g (.slice A n q) xs k from h);have HE:=Qa (show bC w.drew 4 from hE);have HS:=Qa (show bC w.drew 19 from hS);have HU:=Qa (show bC w.drew 20 from hU);have Hb:=Qa (show Below w.heap.size w w.drew from(Zd _ _).drew);clear h hE hS hU;have e2:((k+2:Nat):Int)= (k:Int)+2:=by omega
 have s1:IntKind.i64.wrap ((k:Int)+2)= (k:Int)+2:=IntWalk.i64_in _ (by omega);rcases hx:cS (xs.drop (k+2)) with _|x
 ·have Hn:=Qa (zV hx);have Hx:=Qa hx;clear hx;go_enter Tryz.func269,Tryz.ntmps269;go_wp2_with fail;refine wp_region_held_drew (S:=fun w'=>w'.cell? ⟨g,1,none⟩=some (.int .i64 k)) (by kernel_rfl) (c1) (fun a0=>?_);refine tH 0 a0 ?_;refine tH 1 a0 ?_;refine tH 2 a0 ?_;refine tH 3 a0 ?_;refine tH 4 a0 ?_;refine tH 5 a0 ?_
  try simp only[Act.put,jP,jQ,jR]
  refine tH 6 a0 ?_;refine tH 7 a0 ?_;refine tH 8 a0 ?_;refine tH 9 a0 ?_
  try simp only[Act.put,jP,jQ,jR]
  refine rH 10 fun K hK=>?_
  go_simp;(try rw[s1]);rw[<-e2];(with_reducible refine(Dr H.out HE.out HS.out (k+2) (by omega) _ Hx.out).mono ?_);rintro e w' hf;obtain⟨vP,rfl,hv,hb⟩:=hf.low Hb.out;exact⟨rfl,.inr ⟨Hn.out,vP,rfl,hv,hb⟩⟩
 ·have Hq:=Qa (Fk hx);have Hx:=Qa hx;have b6:=jt (show bw xs (k+2) 4=some x by rw[<-iN];exact hx);have b9:x<65536:=b6;clear hx b6;go_enter Tryz.func269,Tryz.ntmps269;go_wp2_with fail;refine aR (fun w'=>w'.cell? ⟨g,1,none⟩=some (.int .i64 k)) (c1) fun a0=>?_
  refine tH 0 a0 ?_;refine tH 1 a0 ?_;refine tH 2 a0 ?_;refine tH 3 a0 ?_;refine tH 4 a0 ?_;refine tH 5 a0 ?_
  try simp only[Act.put,jP,jQ,jR]
  refine tH 6 a0 ?_;refine tH 7 a0 ?_;refine tH 8 a0 ?_;refine tH 9 a0 ?_
  try simp only[Act.put,jP,jQ,jR]
  refine rH 10 fun K hK=>?_
  go_simp;(try rw[s1]);rw[<-e2];(with_reducible refine(z7 H.out HE.out HS.out (k+2) (by omega) _ Hx.out).mono ?_);rintro e w' ⟨rfl,rfl⟩;refine hK.out _ _ (a0) (fun a0=>?_);clear hK K
  try simp only[Act.put,jP,jQ,jR]
  refine tH 11 a0 ?_
  try simp only[Act.put,jP,jQ,jR]
  refine wpAnyH_done (by kernel_rfl) (NoPanic.normal ?_) _;have c1':w.drew.cell? ⟨g,1,none⟩=some (.int .i64 k):=c1;generalize w.drew=w1 at *;clear c1;obtain⟨aU,a5⟩:=HU.out;have sw:IntKind.i32.wrap (x:Int)=x:=by simp[IntKind.wrap,IntKind.bits,IntKind.signed];omega
  by_cases hA:x<55296
  ·have b5:(x:Int)<55296:=by omega
   have Hr:=Qa (Hq.out.trans (if_pos (.inl hA)));go_wp2_with fail;go_ret2;exact .inl ⟨_,Hr.out,rfl,Hb.out⟩
  by_cases hB:57343<x
  ·have b5:¬ (x:Int)<55296:=by omega
   have c0:(57343:Int)<x:=by omega
   have Hr:=Qa (Hq.out.trans (if_pos (.inr hB)));go_wp2_with fail;go_ret2;exact .inl ⟨_,Hr.out,rfl,Hb.out⟩
  have a3:=Qa (Hq.out.trans (if_neg (by omega)));have b5:¬ (x:Int)<55296:=by omega
  have c0:¬ (57343:Int)<x:=by omega
  by_cases hC:56319<x
  ·have b8:(56319:Int)<x:=by omega
   have Hn:=Qa (a3.out.trans (if_pos (.inl hC)));go_wp2_with fail;refine wp_region_held_drew (S:=fun w'=>w'.cell? ⟨g,1,none⟩=some (.int .i64 k)/\w'.cell? ⟨20,0,none⟩=some (bL aU)) (by kernel_rfl) (⟨c1',a5⟩) (fun a0=>?_);refine tH 0 a0 ?_;refine tH 1 a0 ?_;refine tH 2 a0 ?_;refine tH 3 a0 ?_;refine tH 4 a0 ?_
   try simp only[Act.put,jP,jQ,jR]
   refine rH 5 fun K hK=>?_
   go_simp;refine(bz _ aU _).mono ?_;rintro e w' hf;obtain⟨vP,rfl,hv,hb⟩:=hf.low (show Below w.heap.size w w1.drew from Hb.out.drew);exact⟨rfl,.inr ⟨Hn.out,vP,rfl,hv,hb⟩⟩
  have b8:¬ (56319:Int)<x:=by omega
  rcases h6:xs[k+6]? with _|c6
  ·have Hn:=Qa (a3.out.trans (if_pos (.inr (.inl (by rw[h6];simp)))));have H6:=Qa h6;clear h6;go_wp2_with fail;rw[show(k:Int)+6= ((k+6:Nat):Int) from by omega];(with_reducible refine(jn H.out HE.out (k+6) H6.out).mono ?_);rintro e w' hf;obtain⟨vP,rfl,hv,hb⟩:=hf.low Hb.out;have Hv:=Qa hv;have a9:=Qa hb;clear hv hb hf;go_wp2_with fail;exact⟨rfl,.inr ⟨Hn.out,vP,rfl,Hv.out,a9.out⟩⟩
  have H6:=Qa h6
  by_cases h92:c6.toNat=92
  case neg=>
   have b2:((c6.toNat:Int)==92)=false:=by simp;omega
   have b0:((c6.toNat:Int) !=92)=true:=by simp;omega
   have Hn:=Qa (a3.out.trans (if_pos (.inr (.inl (by rw[h6];intro e;injection e with e;subst e;exact h92 rfl)))));clear h6 h92;go_wp2_with fail;rw[show(k:Int)+6= ((k+6:Nat):Int) from by omega];(with_reducible refine(aY H.out HE.out (k+6) H6.out).mono ?_);rintro e w' ⟨rfl,rfl⟩;go_wp2_with fail;refine wp_region_held_drew (S:=fun w'=>w'.cell? ⟨g,1,none⟩=some (.int .i64 k)/\w'.cell? ⟨20,0,none⟩=some (bL aU)) (by kernel_rfl) (⟨c1',a5⟩) (fun a0=>?_);refine tH 0 a0 ?_;refine tH 1 a0 ?_;refine tH 2 a0 ?_;refine tH 3 a0 ?_;refine tH 4 a0 ?_
   try simp only[Act.put,jP,jQ,jR]
   refine rH 5 fun K hK=>?_
   go_simp;refine(bz _ aU _).mono ?_;rintro e w' hf;obtain⟨vP,rfl,hv,hb⟩:=hf.low (show Below w.heap.size w w1.drew from Hb.out.drew);exact⟨rfl,.inr ⟨Hn.out,vP,rfl,hv,hb⟩⟩
  have b2:((c6.toNat:Int)==92)=true:=by simp;omega
  have b0:((c6.toNat:Int) !=92)=false:=by simp;omega
  obtain rfl:c6=92:=UInt8.toNat_inj.1 (by rw[h92];rfl);rcases h7:xs[k+7]? with _|c7
  ·have Hn:=Qa (a3.out.trans (if_pos (.inr (.inr (by rw[h7];simp)))));have H7:=Qa h7;clear h6 h7 h92;go_wp2_with fail;rw[show(k:Int)+6= ((k+6:Nat):Int) from by omega];(with_reducible refine(aY H.out HE.out (k+6) H6.out).mono ?_);rintro e w' ⟨rfl,rfl⟩;go_wp2_with fail;rw[show(k:Int)+7= ((k+7:Nat):Int) from by omega];(with_reducible refine(jn H.out HE.out (k+7) H7.out).mono ?_);rintro e w' hf;obtain⟨vP,rfl,hv,hb⟩:=hf.low Hb.out;have Hv:=Qa hv;have a9:=Qa hb;clear hv hb hf;go_wp2_with fail;exact⟨rfl,.inr ⟨Hn.out,vP,rfl,Hv.out,a9.out⟩⟩
  have H7:=Qa h7
  by_cases h117:c7.toNat=117
  case neg=>
   have a7:((c7.toNat:Int) !=117)=true:=by simp;omega
   have Hn:=Qa (a3.out.trans (if_pos (.inr (.inr (by rw[h7];intro e;injection e with e;subst e;exact h117 rfl)))));clear h6 h7 h92 h117;go_wp2_with fail;rw[show(k:Int)+6= ((k+6:Nat):Int) from by omega];(with_reducible refine(aY H.out HE.out (k+6) H6.out).mono ?_);rintro e w' ⟨rfl,rfl⟩;go_wp2_with fail;rw[show(k:Int)+7= ((k+7:Nat):Int) from by omega];(with_reducible refine(aY H.out HE.out (k+7) H7.out).mono ?_);rintro e w' ⟨rfl,rfl⟩;go_wp2_with fail;refine wp_region_held_drew (S:=fun w'=>w'.cell? ⟨g,1,none⟩=some (.int .i64 k)/\w'.cell? ⟨20,0,none⟩=some (bL aU)) (by kernel_rfl) (⟨c1',a5⟩) (fun a0=>?_);refine tH 0 a0 ?_;refine tH 1 a0 ?_;refine tH 2 a0 ?_;refine tH 3 a0 ?_;refine tH 4 a0 ?_
   try simp only[Act.put,jP,jQ,jR]
   refine rH 5 fun K hK=>?_
   go_simp;refine(bz _ aU _).mono ?_;rintro e w' hf;obtain⟨vP,rfl,hv,hb⟩:=hf.low (show Below w.heap.size w w1.drew from Hb.out.drew);exact⟨rfl,.inr ⟨Hn.out,vP,rfl,hv,hb⟩⟩
  have a7:((c7.toNat:Int) !=117)=false:=by simp;omega
  obtain rfl:c7=117:=UInt8.toNat_inj.1 (by rw[h117];rfl);have a6:=Qa (a3.out.trans (if_neg (by rw[h6,h7];simp;omega)));clear h6 h7 h92 h117;go_wp2_with fail;rw[show(k:Int)+6= ((k+6:Nat):Int) from by omega];(with_reducible refine(aY H.out HE.out (k+6) H6.out).mono ?_);rintro e w' ⟨rfl,rfl⟩;go_wp2_with fail;rw[show(k:Int)+7= ((k+7:Nat):Int) from by omega];(with_reducible refine(aY H.out HE.out (k+7) H7.out).mono ?_);rintro e w' ⟨rfl,rfl⟩;go_wp2_with fail
  go_loopw [5,6,7,8,56] (fun s5 _ _ _ s56 wr=>GV xs k w1 s5 s56 wr) (fun _ _ _ _ s56 _=>4 - (intOf s56).toNat)
  case atStart=>exact⟨0,0,by omega,rfl,rfl,rfl,.inl ⟨rfl,rfl⟩,rfl⟩
  case round=>
   obtain⟨m,y,hm,rfl,rfl,hf,b7,rfl⟩:=hrel;have Hf:=Qa hf;have a4:=Qa b7;have c3:y<65536:=Nat.lt_of_lt_of_le (jt hf) (Zb (Nat.pow_le_pow_right (by decide) hm) (by decide));clear hf b7
   by_cases h4:m<4
   ·have c5:(m:Int)<4:=by omega
    rcases hc:xs[k+8+m]? with _|c
    ·have Hn:=Qa (show kB (xs.drop (k+2))=none from by
      have h1:bw xs (k+8) (m+1)=none:=by unfold bw;rw[Hf.out,hc]
      rw[a6.out,oc h1 (by omega)])
     have Hc:=Qa hc;clear hc;go_wp2_with fail
     (first|rw[show(k:Int)+8+m= ((k+8+m:Nat):Int) from by omega]|rw[show(k:Int)+8+1= ((k+8+m:Nat):Int) from by omega]|rw[show(k:Int)+9= ((k+8+m:Nat):Int) from by omega]|rw[show(k:Int)+8= ((k+8+m:Nat):Int) from by omega])
     (with_reducible refine(jn H.out HE.out (k+8+m) Hc.out).mono ?_);rintro e w' hf;obtain⟨vP,rfl,hv,hb⟩:=hf.low Hb.out;have Hv:=Qa hv;have a9:=Qa hb;clear hv hb hf;go_wp2_with fail;exact⟨rfl,.inr ⟨Hn.out,vP,rfl,Hv.out,a9.out⟩⟩
    have Hc:=Qa hc;clear hc;rcases hh:iJ c with _|d
    ·have HH:=Qa hh;have Hn:=Qa (show kB (xs.drop (k+2))=none from by
      have h1:bw xs (k+8) (m+1)=none:=by unfold bw;rw[Hf.out,Hc.out];simp[hh]
      rw[a6.out,oc h1 (by omega)])
     clear hh;go_wp2_with fail
     (first|rw[show(k:Int)+8+m= ((k+8+m:Nat):Int) from by omega]|rw[show(k:Int)+8+1= ((k+8+m:Nat):Int) from by omega]|rw[show(k:Int)+9= ((k+8+m:Nat):Int) from by omega]|rw[show(k:Int)+8= ((k+8+m:Nat):Int) from by omega])
     (with_reducible refine(aY H.out HE.out (k+8+m) Hc.out).mono ?_);rintro e w' ⟨rfl,rfl⟩;go_wp2_with fail;refine(dF c w1).mono ?_;rintro e w' ⟨rfl,rfl⟩;rw[HH.out];unfold lI;go_wp2_with fail;refine wp_region_held_drew (S:=fun w'=>w'.cell? ⟨g,1,none⟩=some (.int .i64 k)/\w'.cell? ⟨20,0,none⟩=some (bL aU)) (by kernel_rfl) (⟨c1',a5⟩) (fun a0=>?_);refine tH 0 a0 ?_;refine tH 1 a0 ?_;refine tH 2 a0 ?_;refine tH 3 a0 ?_;refine tH 4 a0 ?_
     try simp only[Act.put,jP,jQ,jR]
     refine rH 5 fun K hK=>?_
     go_simp;refine(bz _ aU _).mono ?_;rintro e w' hf;obtain⟨vP,rfl,hv,hb⟩:=hf.low (show Below w.heap.size w w1.drew from Hb.out.drew);exact⟨rfl,.inr ⟨Hn.out,vP,rfl,hv,hb⟩⟩
    have HH:=Qa hh;have a2:=nt hh;clear hh
    by_cases h0:m=0
    ·have c2:((m:Int)==0)=true:=by simp;omega
     have b4:((m:Int)==1)=false:=by simp;omega
     by_cases h13:d=13
     ·have b3:((d:Int) !=13)=false:=by simp;omega
      have Hs:=Qa (show bw xs (k+8) (m+1)=some (y*16+d) from by unfold bw;rw[Hf.out,Hc.out];simp[HH.out]);have a1:=Qa (show iQ (m+1) (y*16+d) from by have:=a4.out;unfold iQ at this ⊢;omega);(try clear h13);(try clear h0);(try clear h1);(try clear h12);have or1:=qP y d (by omega) a2;have sh1:((y*16:Nat):Int)= (y:Int)*16:=by omega
      rw[sh1] at or1;clear sh1;go_wp2_with fail
      (first|rw[show(k:Int)+8+m= ((k+8+m:Nat):Int) from by omega]|rw[show(k:Int)+8+1= ((k+8+m:Nat):Int) from by omega]|rw[show(k:Int)+9= ((k+8+m:Nat):Int) from by omega]|rw[show(k:Int)+8= ((k+8+m:Nat):Int) from by omega])
      (with_reducible refine(aY H.out HE.out (k+8+m) Hc.out).mono ?_);rintro e w' ⟨rfl,rfl⟩;go_wp2_with fail;refine(dF c w1).mono ?_;rintro e w' ⟨rfl,rfl⟩;rw[HH.out];unfold lI;go_wp2_with fail;exact⟨⟨m+1,y*16+d,by omega,by go_num,by go_num,Hs.out,a1.out,rfl⟩,by simp[intOf];omega⟩
     ·have b3:((d:Int) !=13)=true:=by simp;omega
      have Hn:=Qa (show kB (xs.drop (k+2))=none from by
       have h1:bw xs (k+8) (m+1)=some (y*16+d):=by unfold bw;rw[Hf.out,Hc.out];simp[HH.out]
       have h2:=uR (by omega) h1 (by have:=a4.out;unfold iQ at this ⊢;omega);rw[a6.out]
       cases h4:bw xs (k+8) 4 with
       |none=>rfl
       |some z=>exact if_pos (h2 z h4))
      go_wp2_with fail
      (first|rw[show(k:Int)+8+m= ((k+8+m:Nat):Int) from by omega]|rw[show(k:Int)+8+1= ((k+8+m:Nat):Int) from by omega]|rw[show(k:Int)+9= ((k+8+m:Nat):Int) from by omega]|rw[show(k:Int)+8= ((k+8+m:Nat):Int) from by omega])
      (with_reducible refine(aY H.out HE.out (k+8+m) Hc.out).mono ?_);rintro e w' ⟨rfl,rfl⟩;go_wp2_with fail;refine(dF c w1).mono ?_;rintro e w' ⟨rfl,rfl⟩;rw[HH.out];unfold lI;go_wp2_with fail;refine wp_region_held_drew (S:=fun w'=>w'.cell? ⟨g,1,none⟩=some (.int .i64 k)/\w'.cell? ⟨20,0,none⟩=some (bL aU)) (by kernel_rfl) (⟨c1',a5⟩) (fun a0=>?_);refine tH 0 a0 ?_;refine tH 1 a0 ?_;refine tH 2 a0 ?_;refine tH 3 a0 ?_;refine tH 4 a0 ?_
      try simp only[Act.put,jP,jQ,jR]
      refine rH 5 fun K hK=>?_
      go_simp;refine(bz _ aU _).mono ?_;rintro e w' hf;obtain⟨vP,rfl,hv,hb⟩:=hf.low (show Below w.heap.size w w1.drew from Hb.out.drew);exact⟨rfl,.inr ⟨Hn.out,vP,rfl,hv,hb⟩⟩
    ·have c2:((m:Int)==0)=false:=by simp;omega
     by_cases h1:m=1
     ·have b4:((m:Int)==1)=true:=by simp;omega
      by_cases h12:d<12
      ·have b1:(d:Int)<12:=by omega
       have Hn:=Qa (show kB (xs.drop (k+2))=none from by
        have h1:bw xs (k+8) (m+1)=some (y*16+d):=by unfold bw;rw[Hf.out,Hc.out];simp[HH.out]
        have h2:=uR (by omega) h1 (by have:=a4.out;unfold iQ at this ⊢;omega);rw[a6.out]
        cases h4:bw xs (k+8) 4 with
        |none=>rfl
        |some z=>exact if_pos (h2 z h4))
       go_wp2_with fail
       (first|rw[show(k:Int)+8+m= ((k+8+m:Nat):Int) from by omega]|rw[show(k:Int)+8+1= ((k+8+m:Nat):Int) from by omega]|rw[show(k:Int)+9= ((k+8+m:Nat):Int) from by omega]|rw[show(k:Int)+8= ((k+8+m:Nat):Int) from by omega])
       (with_reducible refine(aY H.out HE.out (k+8+m) Hc.out).mono ?_);rintro e w' ⟨rfl,rfl⟩;go_wp2_with fail;refine(dF c w1).mono ?_;rintro e w' ⟨rfl,rfl⟩;rw[HH.out];unfold lI;go_wp2_with fail;refine wp_region_held_drew (S:=fun w'=>w'.cell? ⟨g,1,none⟩=some (.int .i64 k)/\w'.cell? ⟨20,0,none⟩=some (bL aU)) (by kernel_rfl) (⟨c1',a5⟩) (fun a0=>?_);refine tH 0 a0 ?_;refine tH 1 a0 ?_;refine tH 2 a0 ?_;refine tH 3 a0 ?_;refine tH 4 a0 ?_
       try simp only[Act.put,jP,jQ,jR]
       refine rH 5 fun K hK=>?_
       go_simp;refine(bz _ aU _).mono ?_;rintro e w' hf;obtain⟨vP,rfl,hv,hb⟩:=hf.low (show Below w.heap.size w w1.drew from Hb.out.drew);exact⟨rfl,.inr ⟨Hn.out,vP,rfl,hv,hb⟩⟩
      ·have b1:¬ (d:Int)<12:=by omega
       have Hs:=Qa (show bw xs (k+8) (m+1)=some (y*16+d) from by unfold bw;rw[Hf.out,Hc.out];simp[HH.out]);have a1:=Qa (show iQ (m+1) (y*16+d) from by have:=a4.out;unfold iQ at this ⊢;omega);(try clear h13);(try clear h0);(try clear h1);(try clear h12);have or1:=qP y d (by omega) a2;have sh1:((y*16:Nat):Int)= (y:Int)*16:=by omega
       rw[sh1] at or1;clear sh1;go_wp2_with fail
       (first|rw[show(k:Int)+8+m= ((k+8+m:Nat):Int) from by omega]|rw[show(k:Int)+8+1= ((k+8+m:Nat):Int) from by omega]|rw[show(k:Int)+9= ((k+8+m:Nat):Int) from by omega]|rw[show(k:Int)+8= ((k+8+m:Nat):Int) from by omega])
       (with_reducible refine(aY H.out HE.out (k+8+m) Hc.out).mono ?_);rintro e w' ⟨rfl,rfl⟩;go_wp2_with fail;refine(dF c w1).mono ?_;rintro e w' ⟨rfl,rfl⟩;rw[HH.out];unfold lI;go_wp2_with fail;exact⟨⟨m+1,y*16+d,by omega,by go_num,by go_num,Hs.out,a1.out,rfl⟩,by simp[intOf];omega⟩
     ·have b4:((m:Int)==1)=false:=by simp;omega
      have Hs:=Qa (show bw xs (k+8) (m+1)=some (y*16+d) from by unfold bw;rw[Hf.out,Hc.out];simp[HH.out]);have a1:=Qa (show iQ (m+1) (y*16+d) from by have:=a4.out;unfold iQ at this ⊢;omega);(try clear h13);(try clear h0);(try clear h1);(try clear h12);have or1:=qP y d (by omega) a2;have sh1:((y*16:Nat):Int)= (y:Int)*16:=by omega
      rw[sh1] at or1;clear sh1;go_wp2_with fail
      (first|rw[show(k:Int)+8+m= ((k+8+m:Nat):Int) from by omega]|rw[show(k:Int)+8+1= ((k+8+m:Nat):Int) from by omega]|rw[show(k:Int)+9= ((k+8+m:Nat):Int) from by omega]|rw[show(k:Int)+8= ((k+8+m:Nat):Int) from by omega])
      (with_reducible refine(aY H.out HE.out (k+8+m) Hc.out).mono ?_);rintro e w' ⟨rfl,rfl⟩;go_wp2_with fail;refine(dF c w1).mono ?_;rintro e w' ⟨rfl,rfl⟩;rw[HH.out];unfold lI;go_wp2_with fail;exact⟨⟨m+1,y*16+d,by omega,by go_num,by go_num,Hs.out,a1.out,rfl⟩,by simp[intOf];omega⟩
   ·obtain rfl:m=4:=by omega
    have c4:56320<=y/\y<=57343:=by have:=a4.out;unfold iQ at this;omega
    have Hr:=Qa (show kB (xs.drop (k+2))=some (65536+ (x - 55296)*1024+ (y - 56320),12) from by
     rw[a6.out,Hf.out];exact if_neg (by omega))
    obtain⟨z,hz⟩:∃z:Nat,65536+ (x - 55296)*1024+ (y - 56320)=z:=⟨_,rfl⟩;have hzb:z<1114112:=by omega
    have sz:IntKind.i32.wrap (z:Int)=z:=by simp[IntKind.wrap,IntKind.bits,IntKind.signed];omega
    have ez:65536+ ((x:Int) - 55296)*1024+y - 56320=z:=by omega
    rw[hz] at Hr;clear hz;go_wp2_with fail;go_ret2;exact .inl ⟨_,Hr.out,rfl,Hb.out⟩
