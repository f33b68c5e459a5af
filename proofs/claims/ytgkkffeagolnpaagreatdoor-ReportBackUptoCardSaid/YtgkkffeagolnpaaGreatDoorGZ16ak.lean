import Derived.Test.YtgkkffeagolnpaaGreatDoorGZ16aj
set_option linter.unusedVariables false
set_option linter.unusedSimpArgs false
set_option maxHeartbeats 64000000
set_option maxRecDepth 100000
namespace Go.Proofs.YtgkkffeagolnpaaGreatDoor
open Go.RowKit Go.Shelf
variable {xs:List UInt8}{g nd p:Nat}{v:Value}{w w':World}
abbrev bp (a:Addr):Value:=.iface 408 (.pointer (some a))
def aO (w:World)(g:Nat):Prop:= ∃a,w.cell? ⟨g,0,none⟩=some (bp a)
theorem aO.below (h:aO w g)(hb:Below w.heap.size w w'):aO w' g:=by
 obtain⟨a,h⟩:=h;exact⟨a,Zg hb h⟩
def EU (w:World)(v:Value):Prop:= ∃ (g:Nat) (p:Int) (a:Addr),v =.iface 122 (.pointer (some ⟨g,0,none⟩))/\w.heap[g]?=some (.cells #[.int .i64 p,bp a] 124 (0,0))
theorem EU.below (h:EU w v)(hb:Below w.heap.size w w'):EU w' v:=by
 obtain⟨g,p,a,e,hg⟩:=h;exact⟨g,p,a,e,ah hg hb⟩
def Ka (d:Dc):Value:=.agg #[.bool d.neg,.string d.digits,.int .i64 d.exp]
def Ih (r:Option (Dc×Nat))(w:World)(e:Ending)(w':World):Prop:=Below w.heap.size w w'/\match r with
 |some p=>e =.returned (.tuple #[Ka p.1,.int .i64 p.2,.nilIface])
 |none=> ∃v,e =.returned (.tuple #[.agg #[.bool false,.string es,.int .i64 0],.int .i64 0,v])/\EU w' v
theorem DD:∀ (t:NS),t.part<=t.n->t.digs.length<=t.n->t.exps.length<=t.n->(∀c∈t.exps,ef c=true)->t.n+xs.length<=1000000000->
  (aA t xs).part<=1000000000/\(aA t xs).digs.length<=1000000000/\(aA t xs).exps.length<=1000000000/\(aA t xs).n<=1000000000/\∀c∈(aA t xs).exps,ef c=true:=by
 induction xs with
 |nil=>intro t h1 h2 h3 h4 h5;simp at h5;unfold aA;exact⟨by omega,by omega,by omega,by omega,h4⟩
 |cons c xs ih=>
  intro t h1 h2 h3 h4 h5;simp only[List.length_cons] at h5;unfold aA
  split
  ·exact⟨by omega,by omega,by omega,by omega,h4⟩
  ·rename_i h9
   refine ih (t.next c) ?_ ?_ ?_ ?_ ?_
   ·simp only[NS.next];split <;> omega
   ·simp only[NS.next];split
    ·simp;omega
    ·omega
   ·simp only[NS.next];split
    ·simp;omega
    ·omega
   ·simp only[NS.next];split
    ·rename_i h8
     intro a ha;rcases List.mem_append.1 ha with ha|ha
     ·exact h4 a ha
     ·rw[List.mem_singleton.1 ha]
      -- state 8 is reached by digits alone
      have key:∀s,s<9->∀k,k<7->dK s k=8->k=2\/k=3:=by decide +kernel
      have h7:dK t.st (bf c)=8->bf c=2\/bf c=3:=by
       intro h
       by_cases hs:t.st<9
       ·exact key _ hs _ (by have:=tB c;omega) h
       ·exfalso
        unfold dK at h
        split at h
        ·rw[List.getD_eq_getElem?_getD,List.getElem?_eq_none (by show mA.length<=_;simp[mA];omega)] at h;simp at h
        ·omega
      have hk:=h7 h8;have:=sN (p:=fun c=> !(bf c==2||bf c==3)||ef c) (by decide +kernel) c;rcases hk with hk|hk <;> simpa [hk] using this
    ·exact h4
   ·simp only[NS.next];omega
def J6 (r:Option Dc)(a:Bool)(b:ByteArray)(c:Int)(ok:Bool):Prop:=match r with|some d=>ok=true/\a=d.neg/\b=d.digits/\c=d.exp|none=>ok=false
theorem JM.form {r:Option Dc}(h:JM r v):∃a b c ok,v =.tuple #[.agg #[.bool a,.string b,.int .i64 c],.bool ok]/\J6 r a b c ok:=by
 cases r with
 |none=>obtain⟨a,b,c,rfl⟩:=h;exact⟨a,b,c,false,rfl,rfl⟩
 |some d=>obtain rfl:=h;exact⟨_,_,_,true,rfl,rfl,rfl,rfl,rfl⟩
def Ke (r:Option Dc)(w3:World)(s6 s7:Value)(wx:World):Prop:= ∃gz a b c ok,s6 =.pointer (some ⟨gz,0,none⟩)/\s7 =.bool ok/\wx.heap[gz]?=some (.cells #[.bool a,.string b,.int .i64 c] 311 (0,0))/\Below w3.heap.size w3 wx/\J6 r a b c ok/\w3.heap.size<=gz
def SP (g:Nat)(t:NS)(Ad:Option Addr)(nd qd:Nat)(Ae:Option Addr)(ne qe:Nat)(w':World):Prop:=w'.cell? ⟨g,0,none⟩=some (.bool t.neg)/\w'.cell? ⟨g,1,none⟩=some (.bool t.down)/\w'.cell? ⟨g,2,none⟩=some (.slice Ad nd qd)/\w'.cell? ⟨g,3,none⟩=some (.int .i64 t.part)/\w'.cell? ⟨g,4,none⟩=some (.slice Ae ne qe)/\w'.cell? ⟨g,5,none⟩=some (.int .i64 t.st)/\w'.cell? ⟨g,6,none⟩=some (.int .i64 t.n)/\
 (convert 28 9 (.slice Ad nd qd)).run Tryz.prog w' =.ok (.string ⟨t.digs.toArray⟩) w'/\Bs w' (.slice Ad nd qd) t.digs
theorem SP.below {t:NS}{Ad:Option Addr}{qd:Nat}{Ae:Option Addr}{ne qe:Nat}(h:SP g t Ad nd qd Ae ne qe w)(hb:Below w.heap.size w w'):SP g t Ad nd qd Ae ne qe w':=by
 obtain⟨h0,h1,h2,h3,h4,h5,h6,-,h8⟩:=h;exact⟨Zg hb h0,Zg hb h1,Zg hb h2,Zg hb h3,Zg hb h4,Zg hb h5,Zg hb h6,aI (h8.below hb),h8.below hb⟩
theorem jz (hb:Bs w v xs)(hl:xs.length<=1000000000)(hG:ma w)(hN:aO w 19)(hX:aO w 20):Calls Tryz.prog 206 #[v] w (Ih (lD xs) w):=by
 have e4:=aa w (.cells #[.bool false,.string es,.int .i64 0] 311);have h0:=Zf w (.cells #[.bool false,.string es,.int .i64 0] 311);have g7:=Qa (rh (hb.below e4) hl (hG.below e4));have i4:19<w.heap.size:=by obtain⟨a,h⟩:=hN;exact World.block_lt_of_cell? w _ h
 have i9:20<w.heap.size:=by obtain⟨a,h⟩:=hX;exact World.block_lt_of_cell? w _ h
 have g0:=hN.below e4;have g8:=hX.below e4;have f0:lD xs=if du (aA fX xs).st then(gd (aA fX xs).neg (aA fX xs).digs (eL (aA fX xs)) (-((aA fX xs).part:Int))).map fun d=>(d,(aA fX xs).n) else none:=rfl
 obtain⟨b1,b2,b3,b4,b5⟩:=DD (xs:=xs) fX (Zb _) (Zb _) (Zb _) (by simp[fX]) (by show 0+xs.length<=_;omega);rw[f0];clear hb hG hN hX f0;generalize aA fX xs=t at *;have B5:=Qa b5;have i3:=Fe b5;have H0:=Qa h0;have f6:=Qa e4;have HN:=Qa g0;have HX:=Qa g8;clear b5 h0 e4 g0 g8;go_enter Tryz.func206,Tryz.ntmps206;go_wp2_with fail;generalize w.alloc (.cells #[.bool false,.string es,.int .i64 0] 311)=w0 at *;refine Za g7 ?_;rintro e w1 ⟨vd,ve,rfl,e0,hd,he⟩;obtain⟨Ad,nd,qd,rfl⟩:∃A n q,vd =.slice A n q:=by obtain⟨A,c,e,_⟩:=ag hd;exact⟨A,_,c,e⟩
 obtain⟨Ae,ne,qe,rfl⟩:∃A n q,ve =.slice A n q:=by obtain⟨A,c,e,_⟩:=ag he;exact⟨A,_,c,e⟩
 have hz:=Zf w1 GR;have g5:=aD (w1.alloc GR) w1.heap.size #[.bool t.neg,.bool t.down,.slice Ad nd qd,.int .i64 t.part,.slice Ae ne qe,.int .i64 t.st,.int .i64 t.n];have b9:Below w1.heap.size w1 ((w1.alloc GR).setRow w1.heap.size #[.bool t.neg,.bool t.down,.slice Ad nd qd,.int .i64 t.part,.slice Ae ne qe,.int .i64 t.st,.int .i64 t.n]):=(aa w1 GR).grown g5 (by simp) (fun g e=>by cases e;exact Zb _);have ht:=setRow_heap (w1.alloc GR) w1.heap.size _ #[.bool t.neg,.bool t.down,.slice Ad nd qd,.int .i64 t.part,.slice Ae ne qe,.int .i64 t.st,.int .i64 t.n] _ _ hz;have f1:=Qa (f6.out.trans ((e0.trans (b9.mono e0.size)).mono f6.out.size));have f5:=Qa (ah (ah H0.out e0) b9);have g1:=Qa ((HN.out.below e0).below b9);have g3:=Qa ((HX.out.below e0).below b9);have Hd:=Qa (hd.bs.below b9);have He:=Qa (he.bs.below b9);have Ht:=Qa ht;have i8:w.heap.size<w1.heap.size:=Nat.lt_of_lt_of_le (ak H0.out) e0.size;have i5:=b9.size;clear g7 e0 hd he b9 ht f6 H0 HN HX g5;have g6:(w1.alloc (.cells #[.bool false,.bool false,.slice none 0 0,.int .i64 0,.slice none 0 0,.int .i64 0,.int .i64 0] 355)).heap[w1.heap.size]?=some (.cells #[.bool false,.bool false,.slice none 0 0,.int .i64 0,.slice none 0 0,.int .i64 0,.int .i64 0] 355):=hz;clear hz;go_upto_region 2 with (refine eX g6 ?_)
 unfold GR at *;generalize (w1.alloc (.cells #[.bool false,.bool false,.slice none 0 0,.int .i64 0,.slice none 0 0,.int .i64 0,.int .i64 0] 355)).setRow w1.heap.size #[.bool t.neg,.bool t.down,.slice Ad nd qd,.int .i64 t.part,.slice Ae ne qe,.int .i64 t.st,.int .i64 t.n]=w2 at *;clear g6;have c0:=ac Ht.out (j:=0) (u:=.bool t.neg) rfl;have c1:=ac Ht.out (j:=1) (u:=.bool t.down) rfl;have c2:=ac Ht.out (j:=2) (u:=.slice Ad nd qd) rfl;have c3:=ac Ht.out (j:=3) (u:=.int .i64 t.part) rfl;have c4:=ac Ht.out (j:=4) (u:=.slice Ae ne qe) rfl;have c5:=ac Ht.out (j:=5) (u:=.int .i64 t.st) rfl;have c6:=ac Ht.out (j:=6) (u:=.int .i64 t.n) rfl
 by_cases hw:du t.st=true
 ·go_wp2_with fail;refine(oG t (.slice Ad nd qd) (.slice Ae ne qe) w2).mono ?_;rintro e w3 ⟨rfl,a9⟩;rw[hw];have H3:=Qa (ah Ht.out a9);have e2:=Qa (f1.out.trans (a9.mono f1.out.size));have e3:=Qa (ah f5.out a9);have h4:=Qa (g3.out.below a9);have f7:=Qa (Hd.out.below a9);have f9:=Qa (He.out.below a9);have d0:=ac H3.out (j:=0) (u:=.bool t.neg) rfl;have d1:=ac H3.out (j:=1) (u:=.bool t.down) rfl;have d2:=ac H3.out (j:=2) (u:=.slice Ad nd qd) rfl;have d3:=ac H3.out (j:=3) (u:=.int .i64 t.part) rfl;have d4:=ac H3.out (j:=4) (u:=.slice Ae ne qe) rfl;have d5:=ac H3.out (j:=5) (u:=.int .i64 t.st) rfl;have d6:=ac H3.out (j:=6) (u:=.int .i64 t.n) rfl;have h6:=a9.size;clear a9 c0 c1 c2 c3 c4 c5 c6 Hd He g3 g1 f5 f1 Ht;go_wp2_with fail;have j0:w.heap.size<w3.heap.size:=ak e3.out;have swn:IntKind.i64.wrap (-(t.part:Int)) = -(t.part:Int):=IntWalk.i64_in _ (by omega);go_cut [6,7] (fun s6 s7 wx=>Ke (gd t.neg t.digs (eL t) (-(t.part:Int))) w3 s6 s7 wx)
  case first=>
   obtain⟨wq,a1⟩:∃wq,w3.drew=wq:=⟨_,rfl⟩;have Hq:Hid (Below w3.heap.size w3 wq):=Qa (by rw[<-a1];exact(Ze _ _).drew);have SP3:Hid (SP w1.heap.size t Ad nd qd Ae ne qe w3):=Qa ⟨d0,d1,d2,d3,d4,d5,d6,aI f7.out,f7.out⟩;refine bF (fun w'=>w'.cell? ⟨w1.heap.size,0,none⟩=some (.bool t.neg)/\w'.cell? ⟨w1.heap.size,1,none⟩=some (.bool t.down)/\w'.cell? ⟨w1.heap.size,2,none⟩=some (.slice Ad nd qd)/\w'.cell? ⟨w1.heap.size,3,none⟩=some (.int .i64 t.part)/\w'.cell? ⟨w1.heap.size,4,none⟩=some (.slice Ae ne qe)/\w'.cell? ⟨w1.heap.size,5,none⟩=some (.int .i64 t.st)/\w'.cell? ⟨w1.heap.size,6,none⟩=some (.int .i64 t.n)/\(convert 28 9 (.slice Ad nd qd)).run Tryz.prog w' =.ok (.string ⟨t.digs.toArray⟩) w'/\Bs w' (.slice Ad nd qd) t.digs) ((by rw[a1];exact(SP.below SP3.out Hq.out:SP w1.heap.size t Ad nd qd Ae ne qe wq))) fun a0=>?_
   rw[a1] at a0 ⊢;clear a1;refine tH 0 a0 ?_;refine tH 1 a0 ?_;refine tH 2 a0 ?_;refine tH 3 a0 ?_;refine tH 4 a0 ?_;refine tH 5 a0 ?_
   try simp only[Act.put,jP,jQ,jR]
   refine tH 7 a0 ?_;refine tH 8 a0 ?_;refine tH 9 a0 ?_
   try simp only[Act.put,jP,jQ,jR]
   refine wpAnyH_ready (rs:= [6,14]) (by kernel_rfl) (by simp) ?_;refine AllReadyH.cons (xj rfl) (fun K hK=>?_) (AllReadyH.cons (xj rfl) (fun K hK=>?_) AllReadyH.nil);go_simp;refine(oa t (.slice Ad nd qd) (.slice Ae ne qe) (f9.out.below Hq.out) B5.out b3).mono ?_;rintro e wn ⟨rfl,hb⟩;have Hq:=Qa (aj Hq.out hb);(try have Hzq:=Qa (ah Hzq.out hb));obtain⟨wq,a1⟩:∃x,x=wn:=⟨_,rfl⟩;subst a1;refine hK.out _ _ ((SP.below SP3.out Hq.out:SP w1.heap.size t Ad nd qd Ae ne qe _)) (fun a0=>?_);clear hK K
   try simp only[Act.put,jP,jQ,jR]
   refine wpAnyH_ready (rs:= [10,14]) (by kernel_rfl) (by simp) ?_;refine AllReadyH.cons (xj rfl) (fun K hK=>?_) (AllReadyH.cons (xj rfl) (fun K hK=>?_) AllReadyH.nil);go_simp;(try rw[swn]);refine(g9 t.neg t.digs (eL t) (-(t.part:Int)) b2 (by omega) (by omega) wq).mono ?_;rintro e wn ⟨vN,rfl,c7,hb⟩;obtain⟨a,b,c,ok,rfl,c9⟩:=c7.form;have Hvr:=Qa c9;clear c9 c7;have Hq:=Qa (aj Hq.out hb);(try have Hzq:=Qa (ah Hzq.out hb));obtain⟨wq,a1⟩:∃x,x=wn:=⟨_,rfl⟩;subst a1;refine hK.out _ _ ((SP.below SP3.out Hq.out:SP w1.heap.size t Ad nd qd Ae ne qe _)) (fun a0=>?_);clear hK K
   try simp only[Act.put,jP,jQ,jR]
   refine tH 11 a0 ?_;refine tH 12 a0 ?_;refine tH 13 a0 ?_
   try simp only[Act.put,jP,jQ,jR]
   refine rH 14 fun K hK=>?_
   go_simp;have hb:=aa wq (.cells #[.bool false,.string es,.int .i64 0] 311);have b8:=Zf wq (.cells #[.bool false,.string es,.int .i64 0] 311);obtain⟨gz,c8⟩:∃g,wq.heap.size=g:=⟨_,rfl⟩;have Hgz:=Qa (show w3.heap.size<=gz by rw[<-c8];exact Hq.out.size);rw[c8] at b8 ⊢;have Hzq:=Qa b8;have Hq:=Qa (aj Hq.out hb);obtain⟨wn,a4⟩:∃x,wq.alloc (.cells #[.bool false,.string es,.int .i64 0] 311)=x:=⟨_,rfl⟩;rw[a4] at Hzq Hq hb ⊢;clear b8;obtain⟨wq,a1⟩:∃x,x=wn:=⟨_,rfl⟩;subst a1;refine hK.out _ _ ((SP.below SP3.out Hq.out:SP w1.heap.size t Ad nd qd Ae ne qe _)) (fun a0=>?_);clear hK K
   try simp only[Act.put,jP,jQ,jR]
   rotate_left
   go_simp;have hb:=aa wq (.cells #[.bool false,.string es,.int .i64 0] 311);have b8:=Zf wq (.cells #[.bool false,.string es,.int .i64 0] 311);obtain⟨gz,c8⟩:∃g,wq.heap.size=g:=⟨_,rfl⟩;have Hgz:=Qa (show w3.heap.size<=gz by rw[<-c8];exact Hq.out.size);rw[c8] at b8 ⊢;have Hzq:=Qa b8;have Hq:=Qa (aj Hq.out hb);obtain⟨wn,a4⟩:∃x,wq.alloc (.cells #[.bool false,.string es,.int .i64 0] 311)=x:=⟨_,rfl⟩;rw[a4] at Hzq Hq hb ⊢;clear b8;obtain⟨wq,a1⟩:∃x,x=wn:=⟨_,rfl⟩;subst a1;refine hK.out _ _ ((SP.below SP3.out Hq.out:SP w1.heap.size t Ad nd qd Ae ne qe _)) (fun a0=>?_);clear hK K
   try simp only[Act.put,jP,jQ,jR]
   refine rH 10 fun K hK=>?_
   go_simp;(try rw[swn]);refine(g9 t.neg t.digs (eL t) (-(t.part:Int)) b2 (by omega) (by omega) wq).mono ?_;rintro e wn ⟨vN,rfl,c7,hb⟩;obtain⟨a,b,c,ok,rfl,c9⟩:=c7.form;have Hvr:=Qa c9;clear c9 c7;have Hq:=Qa (aj Hq.out hb);(try have Hzq:=Qa (ah Hzq.out hb));obtain⟨wq,a1⟩:∃x,x=wn:=⟨_,rfl⟩;subst a1;refine hK.out _ _ ((SP.below SP3.out Hq.out:SP w1.heap.size t Ad nd qd Ae ne qe _)) (fun a0=>?_);clear hK K
   try simp only[Act.put,jP,jQ,jR]
   refine tH 11 a0 ?_;refine tH 12 a0 ?_;refine tH 13 a0 ?_
   try simp only[Act.put,jP,jQ,jR]
   rotate_left
   go_simp;have hb:=aa wq (.cells #[.bool false,.string es,.int .i64 0] 311);have b8:=Zf wq (.cells #[.bool false,.string es,.int .i64 0] 311);obtain⟨gz,c8⟩:∃g,wq.heap.size=g:=⟨_,rfl⟩;have Hgz:=Qa (show w3.heap.size<=gz by rw[<-c8];exact Hq.out.size);rw[c8] at b8 ⊢;have Hzq:=Qa b8;have Hq:=Qa (aj Hq.out hb);obtain⟨wn,a4⟩:∃x,wq.alloc (.cells #[.bool false,.string es,.int .i64 0] 311)=x:=⟨_,rfl⟩;rw[a4] at Hzq Hq hb ⊢;clear b8;obtain⟨wq,a1⟩:∃x,x=wn:=⟨_,rfl⟩;subst a1;refine hK.out _ _ ((SP.below SP3.out Hq.out:SP w1.heap.size t Ad nd qd Ae ne qe _)) (fun a0=>?_);clear hK K
   try simp only[Act.put,jP,jQ,jR]
   refine rH 6 fun K hK=>?_
   go_simp;refine(oa t (.slice Ad nd qd) (.slice Ae ne qe) (f9.out.below Hq.out) B5.out b3).mono ?_;rintro e wn ⟨rfl,hb⟩;have Hq:=Qa (aj Hq.out hb);(try have Hzq:=Qa (ah Hzq.out hb));obtain⟨wq,a1⟩:∃x,x=wn:=⟨_,rfl⟩;subst a1;refine hK.out _ _ ((SP.below SP3.out Hq.out:SP w1.heap.size t Ad nd qd Ae ne qe _)) (fun a0=>?_);clear hK K
   try simp only[Act.put,jP,jQ,jR]
   refine rH 10 fun K hK=>?_
   go_simp;(try rw[swn]);refine(g9 t.neg t.digs (eL t) (-(t.part:Int)) b2 (by omega) (by omega) wq).mono ?_;rintro e wn ⟨vN,rfl,c7,hb⟩;obtain⟨a,b,c,ok,rfl,c9⟩:=c7.form;have Hvr:=Qa c9;clear c9 c7;have Hq:=Qa (aj Hq.out hb);(try have Hzq:=Qa (ah Hzq.out hb));obtain⟨wq,a1⟩:∃x,x=wn:=⟨_,rfl⟩;subst a1;refine hK.out _ _ ((SP.below SP3.out Hq.out:SP w1.heap.size t Ad nd qd Ae ne qe _)) (fun a0=>?_);clear hK K
   try simp only[Act.put,jP,jQ,jR]
   refine tH 11 a0 ?_;refine tH 12 a0 ?_;refine tH 13 a0 ?_
   try simp only[Act.put,jP,jQ,jR]
   rotate_left
   all_goals
    refine rH 15 fun K hK=>?_
    refine kP Hzq.out ?_;have Hq:=Qa (Hq.out.grown (aD wq gz #[.bool a,.string b,.int .i64 c]) Hq.out.size (fun g e=>by cases e;exact Hgz.out));have Hzq:=Qa (setRow_heap _ _ _ #[.bool a,.string b,.int .i64 c] _ _ Hzq.out);obtain⟨wn,a4⟩:∃x,wq.setRow gz #[.bool a,.string b,.int .i64 c]=x:=⟨_,rfl⟩;rw[a4] at Hzq Hq ⊢;obtain⟨wq,a1⟩:∃x,x=wn:=⟨_,rfl⟩;subst a1;refine hK.out _ _ ((SP.below SP3.out Hq.out:SP w1.heap.size t Ad nd qd Ae ne qe _)) (fun a0=>?_);clear hK K
    try simp only[Act.put,jP,jQ,jR]
    refine tH 16 a0 ?_
    try simp only[Act.put,jP,jQ,jR]
    refine wpAnyH_done (by kernel_rfl) (NoPanic.normal ?_) _;go_wp2_with fail;go_meet
    case rel=>exact⟨gz,a,b,c,ok,rfl,rfl,Hzq.out,Hq.out,Hvr.out,Hgz.out⟩
  case rest=>
   obtain⟨gz,a,b,c,ok,rfl,rfl,hz,hq,g2,i2⟩:=hcut;have h3:=Qa g2;have e6:=Zg hq d6;have f3:=Qa (ah e3.out hq);have f2:=Qa (e2.out.trans (hq.mono e2.out.size));have i0:=Qa (h4.out.below hq);have z0:=ac hz (j:=0) (u:=.bool a) rfl;have z1:=ac hz (j:=1) (u:=.string b) rfl;have z2:=ac hz (j:=2) (u:=.int .i64 c) rfl;have f8:w.heap.size<gz:=by omega
   clear hz hq g2 d0 d1 d2 d3 d4 d5 d6 f7 f9 H3 e3 e2 h4;obtain⟨aX,h5⟩:=i0.out
   cases ok with
   |true=>
    have f4:=Qa ((f2.out.drew).grown (aD wc.drew w.heap.size #[.bool a,.string b,.int .i64 c]) f2.out.size (fun g e=>by cases e;exact Zb _));have d9:gz≠w.heap.size:=fun e=>by subst e;exact absurd f8 (Nat.lt_irrefl _)
    go_wp2_with fail;refine bF (fun w'=>w'.cell? ⟨gz,0,none⟩=some (.bool a)/\w'.cell? ⟨gz,1,none⟩=some (.string b)/\w'.cell? ⟨gz,2,none⟩=some (.int .i64 c)/\w'.cell? ⟨w1.heap.size,6,none⟩=some (.int .i64 t.n)) (⟨z0,z1,z2,e6⟩) fun a0=>?_
    refine tH 0 a0 ?_;refine tH 1 a0 ?_;refine tH 2 a0 ?_
    try simp only[Act.put,jP,jQ,jR]
    refine rH 3 fun K hK=>?_
    refine kP f3.out ?_;have hg:=aD wc.drew w.heap.size #[.bool a,.string b,.int .i64 c];refine hK.out _ _ (⟨hg.cell a0.1 (fun e=>by injection e with e;exact d9 e),hg.cell a0.2.1 (fun e=>by injection e with e;exact d9 e),hg.cell a0.2.2.1 (fun e=>by injection e with e;exact d9 e),hg.cell a0.2.2.2 (fun e=>by injection e with e;have e:w1.heap.size=w.heap.size:=e;omega)⟩) (fun a0=>?_);clear hK K
    try simp only[Act.put,jP,jQ,jR]
    refine tH 4 a0 ?_;refine tH 5 a0 ?_
    try simp only[Act.put,jP,jQ,jR]
    refine wpAnyH_done (by kernel_rfl) (NoPanic.normal ?_) _;go_wp2_with fail;have hd:=h3.out;have e5:Ih ((gd t.neg t.digs (eL t) (-(t.part:Int))).map fun d=>(d,t.n)) w (.returned (.tuple #[.agg #[.bool a,.string b,.int .i64 c],.int .i64 t.n,.nilIface])) (wc.drew.setRow w.heap.size #[.bool a,.string b,.int .i64 c]):=by
     refine⟨f4.out,?_⟩
     cases hr:gd t.neg t.digs (eL t) (-(t.part:Int)) with
     |none=>rw[hr] at hd;cases hd
     |some d=>rw[hr] at hd;obtain⟨-,rfl,rfl,rfl⟩:=hd;rfl
    exact Zh (gS Tryz.results206 _ _ w.heap.size 311 _ _ _ (0,0) (by simp) (setRow_heap _ _ _ _ _ _ f3.out)) rfl e5
   |false=>
    have g4:∀v w',Below w.heap.size w w'->EU w' v->Ih ((gd t.neg t.digs (eL t) (-(t.part:Int))).map fun d=>(d,t.n)) w (.returned (.tuple #[.agg #[.bool false,.string es,.int .i64 0],.int .i64 0,v])) w':=by
     intro v w' h1 h2;have hd:=h3.out;refine⟨h1,?_⟩
     cases hr:gd t.neg t.digs (eL t) (-(t.part:Int)) with
     |some d=>rw[hr] at hd;cases hd.1
     |none=>exact⟨v,rfl,h2⟩
    have h7:=Qa g4;clear g4;go_wp2_with fail;obtain⟨wq,a1⟩:∃wq,wc.drew=wq:=⟨_,rfl⟩;have a2:Hid (wq.heap[w.heap.size]?=some (.cells #[.bool false,.string es,.int .i64 0] 311 (0,0))):=Qa (by rw[<-a1];exact f3.out);have a3:=Qa (show Below w.heap.size w wq by rw[<-a1];exact f2.out.drew);clear f3 f2 z0 z1 z2 e6;refine bF (fun w'=>w'.cell? ⟨20,0,none⟩=some (bp aX)) (h5) fun a0=>?_
    rw[a1] at a0 ⊢;clear a1;refine tH 0 a0 ?_;refine tH 1 a0 ?_;refine tH 2 a0 ?_
    try simp only[Act.put,jP,jQ,jR]
    refine wpAnyH_ready (rs:= [3,5]) (by kernel_rfl) (by simp) ?_;refine AllReadyH.cons (xj rfl) (fun K hK=>?_) (AllReadyH.cons (xj rfl) (fun K hK=>?_) AllReadyH.nil);go_simp;have hb:=aa wq (.cells #[.int .i64 0,bp aX] 124);have a5:=Qa (Zf wq (.cells #[.int .i64 0,bp aX] 124));obtain⟨gb,b0⟩:∃g,wq.heap.size=g:=⟨_,rfl⟩;have e1:=Qa (show w.heap.size<gb by rw[<-b0];exact ak a2.out);rw[b0] at a5 ⊢;have a2:=Qa (ah a2.out hb);have a3:=Qa (a3.out.trans (hb.mono a3.out.size));obtain⟨wn,a4⟩:∃x,wq.alloc (.cells #[.int .i64 0,bp aX] 124)=x:=⟨_,rfl⟩;rw[a4] at a5 a2 a3 hb ⊢;obtain⟨wq,a1⟩:∃x,x=wn:=⟨_,rfl⟩;subst a1;refine hK.out _ _ (Zg hb a0) (fun a0=>?_);clear hK K
    try simp only[Act.put,jP,jQ,jR]
    refine tH 4 a0 ?_
    try simp only[Act.put,jP,jQ,jR]
    refine rH 5 fun K hK=>?_
    refine kP a2.out ?_;have hg:=aD wq w.heap.size #[.bool false,.string es,.int .i64 0];have a3:=Qa (a3.out.grown hg a3.out.size (fun g e=>by cases e;exact Zb _));(try have a5:=Qa (ay a5.out hg (fun e=>by injection e with e;have:=e1.out;omega)));have a2:=Qa (setRow_heap _ _ _ #[.bool false,.string es,.int .i64 0] _ _ a2.out);obtain⟨wn,a4⟩:∃x,wq.setRow w.heap.size #[.bool false,.string es,.int .i64 0]=x:=⟨_,rfl⟩;rw[a4] at a2 a3 hg ⊢;(try rw[a4] at a5);obtain⟨wq,a1⟩:∃x,x=wn:=⟨_,rfl⟩;subst a1;refine hK.out _ _ (hg.cell a0 (fun e=>by injection e with e;have e:20=w.heap.size:=e;omega)) (fun a0=>?_);clear hK K
    try simp only[Act.put,jP,jQ,jR]
    refine tH 6 a0 ?_;refine tH 7 a0 ?_
    try simp only[Act.put,jP,jQ,jR]
    rotate_left
    refine kP a2.out ?_;have hg:=aD wq w.heap.size #[.bool false,.string es,.int .i64 0];have a3:=Qa (a3.out.grown hg a3.out.size (fun g e=>by cases e;exact Zb _));(try have a5:=Qa (ay a5.out hg (fun e=>by injection e with e;have:=e1.out;omega)));have a2:=Qa (setRow_heap _ _ _ #[.bool false,.string es,.int .i64 0] _ _ a2.out);obtain⟨wn,a4⟩:∃x,wq.setRow w.heap.size #[.bool false,.string es,.int .i64 0]=x:=⟨_,rfl⟩;rw[a4] at a2 a3 hg ⊢;(try rw[a4] at a5);obtain⟨wq,a1⟩:∃x,x=wn:=⟨_,rfl⟩;subst a1;refine hK.out _ _ (hg.cell a0 (fun e=>by injection e with e;have e:20=w.heap.size:=e;omega)) (fun a0=>?_);clear hK K
    try simp only[Act.put,jP,jQ,jR]
    refine tH 6 a0 ?_
    try simp only[Act.put,jP,jQ,jR]
    refine rH 3 fun K hK=>?_
    go_simp;have hb:=aa wq (.cells #[.int .i64 0,bp aX] 124);have a5:=Qa (Zf wq (.cells #[.int .i64 0,bp aX] 124));obtain⟨gb,b0⟩:∃g,wq.heap.size=g:=⟨_,rfl⟩;have e1:=Qa (show w.heap.size<gb by rw[<-b0];exact ak a2.out);rw[b0] at a5 ⊢;have a2:=Qa (ah a2.out hb);have a3:=Qa (a3.out.trans (hb.mono a3.out.size));obtain⟨wn,a4⟩:∃x,wq.alloc (.cells #[.int .i64 0,bp aX] 124)=x:=⟨_,rfl⟩;rw[a4] at a5 a2 a3 hb ⊢;obtain⟨wq,a1⟩:∃x,x=wn:=⟨_,rfl⟩;subst a1;refine hK.out _ _ (Zg hb a0) (fun a0=>?_);clear hK K
    try simp only[Act.put,jP,jQ,jR]
    refine tH 4 a0 ?_;refine tH 7 a0 ?_
    try simp only[Act.put,jP,jQ,jR]
    rotate_left
    all_goals
     refine wpAnyH_done (by kernel_rfl) (NoPanic.normal ?_) _;go_wp2_with fail;exact Zh (gS Tryz.results206 _ _ w.heap.size 311 _ _ _ (0,0) (by simp) a2.out) rfl (h7.out _ _ a3.out ⟨gb,_,aX,rfl,a5.out⟩)
 ·have h9:du t.st=false:=by simpa using hw
  go_wp2_with fail;refine(oG t (.slice Ad nd qd) (.slice Ae ne qe) w2).mono ?_;rintro e w3 ⟨rfl,a9⟩;rw[h9];have H3:=Qa (ah Ht.out a9);have e2:=Qa (f1.out.trans (a9.mono f1.out.size));have e3:=Qa (ah f5.out a9);obtain⟨aN,h8⟩:=g1.out.below a9;have d6:=ac H3.out (j:=6) (u:=.int .i64 t.n) rfl;have h6:=a9.size;clear a9 c0 c1 c2 c3 c4 c5 c6;go_wp2_with fail;obtain⟨wq,a1⟩:∃wq,w3.drew=wq:=⟨_,rfl⟩;have a2:Hid (wq.heap[w.heap.size]?=some (.cells #[.bool false,.string es,.int .i64 0] 311 (0,0))):=Qa (by rw[<-a1];exact e3.out);have a3:=Qa (show Below w.heap.size w wq by rw[<-a1];exact e2.out.drew);clear e3 e2;refine bF (fun w'=>w'.cell? ⟨w1.heap.size,6,none⟩=some (.int .i64 t.n)/\w'.cell? ⟨19,0,none⟩=some (bp aN)) (⟨d6,h8⟩) fun a0=>?_
  rw[a1] at a0 ⊢;clear a1;refine tH 0 a0 ?_;refine tH 1 a0 ?_;refine tH 2 a0 ?_;refine tH 3 a0 ?_;refine tH 4 a0 ?_
  try simp only[Act.put,jP,jQ,jR]
  refine wpAnyH_ready (rs:= [5,7]) (by kernel_rfl) (by simp) ?_;refine AllReadyH.cons (xj rfl) (fun K hK=>?_) (AllReadyH.cons (xj rfl) (fun K hK=>?_) AllReadyH.nil);go_simp;have hb:=aa wq (.cells #[.int .i64 t.n,bp aN] 124);have a5:=Qa (Zf wq (.cells #[.int .i64 t.n,bp aN] 124));obtain⟨gb,b0⟩:∃g,wq.heap.size=g:=⟨_,rfl⟩;have e1:=Qa (show w.heap.size<gb by rw[<-b0];exact ak a2.out);rw[b0] at a5 ⊢;have a2:=Qa (ah a2.out hb);have a3:=Qa (a3.out.trans (hb.mono a3.out.size));obtain⟨wn,a4⟩:∃x,wq.alloc (.cells #[.int .i64 t.n,bp aN] 124)=x:=⟨_,rfl⟩;rw[a4] at a5 a2 a3 hb ⊢;obtain⟨wq,a1⟩:∃x,x=wn:=⟨_,rfl⟩;subst a1;refine hK.out _ _ (⟨Zg hb a0.1,Zg hb a0.2⟩) (fun a0=>?_);clear hK K
  try simp only[Act.put,jP,jQ,jR]
  refine tH 6 a0 ?_
  try simp only[Act.put,jP,jQ,jR]
  refine rH 7 fun K hK=>?_
  refine kP a2.out ?_;have hg:=aD wq w.heap.size #[.bool false,.string es,.int .i64 0];have a3:=Qa (a3.out.grown hg a3.out.size (fun g e=>by cases e;exact Zb _));(try have a5:=Qa (ay a5.out hg (fun e=>by injection e with e;have:=e1.out;omega)));have a2:=Qa (setRow_heap _ _ _ #[.bool false,.string es,.int .i64 0] _ _ a2.out);obtain⟨wn,a4⟩:∃x,wq.setRow w.heap.size #[.bool false,.string es,.int .i64 0]=x:=⟨_,rfl⟩;rw[a4] at a2 a3 hg ⊢;(try rw[a4] at a5);obtain⟨wq,a1⟩:∃x,x=wn:=⟨_,rfl⟩;subst a1;refine hK.out _ _ (⟨hg.cell a0.1 (fun e=>by injection e with e;have e:w1.heap.size=w.heap.size:=e;omega),hg.cell a0.2 (fun e=>by injection e with e;have e:19=w.heap.size:=e;omega)⟩) (fun a0=>?_);clear hK K
  try simp only[Act.put,jP,jQ,jR]
  refine tH 8 a0 ?_;refine tH 9 a0 ?_
  try simp only[Act.put,jP,jQ,jR]
  rotate_left
  refine kP a2.out ?_;have hg:=aD wq w.heap.size #[.bool false,.string es,.int .i64 0];have a3:=Qa (a3.out.grown hg a3.out.size (fun g e=>by cases e;exact Zb _));(try have a5:=Qa (ay a5.out hg (fun e=>by injection e with e;have:=e1.out;omega)));have a2:=Qa (setRow_heap _ _ _ #[.bool false,.string es,.int .i64 0] _ _ a2.out);obtain⟨wn,a4⟩:∃x,wq.setRow w.heap.size #[.bool false,.string es,.int .i64 0]=x:=⟨_,rfl⟩;rw[a4] at a2 a3 hg ⊢;(try rw[a4] at a5);obtain⟨wq,a1⟩:∃x,x=wn:=⟨_,rfl⟩;subst a1;refine hK.out _ _ (⟨hg.cell a0.1 (fun e=>by injection e with e;have e:w1.heap.size=w.heap.size:=e;omega),hg.cell a0.2 (fun e=>by injection e with e;have e:19=w.heap.size:=e;omega)⟩) (fun a0=>?_);clear hK K
  try simp only[Act.put,jP,jQ,jR]
  refine tH 8 a0 ?_
  try simp only[Act.put,jP,jQ,jR]
  refine rH 5 fun K hK=>?_
  go_simp;have hb:=aa wq (.cells #[.int .i64 t.n,bp aN] 124);have a5:=Qa (Zf wq (.cells #[.int .i64 t.n,bp aN] 124));obtain⟨gb,b0⟩:∃g,wq.heap.size=g:=⟨_,rfl⟩;have e1:=Qa (show w.heap.size<gb by rw[<-b0];exact ak a2.out);rw[b0] at a5 ⊢;have a2:=Qa (ah a2.out hb);have a3:=Qa (a3.out.trans (hb.mono a3.out.size));obtain⟨wn,a4⟩:∃x,wq.alloc (.cells #[.int .i64 t.n,bp aN] 124)=x:=⟨_,rfl⟩;rw[a4] at a5 a2 a3 hb ⊢;obtain⟨wq,a1⟩:∃x,x=wn:=⟨_,rfl⟩;subst a1;refine hK.out _ _ (⟨Zg hb a0.1,Zg hb a0.2⟩) (fun a0=>?_);clear hK K
  try simp only[Act.put,jP,jQ,jR]
  refine tH 6 a0 ?_;refine tH 9 a0 ?_
  try simp only[Act.put,jP,jQ,jR]
  rotate_left
  all_goals
   refine wpAnyH_done (by kernel_rfl) (NoPanic.normal ?_) _;go_wp2_with fail;exact Zh (gS Tryz.results206 _ _ w.heap.size 311 _ _ _ (0,0) (by simp) a2.out) rfl ⟨a3.out,⟨_,rfl,gb,_,aN,rfl,a5.out⟩⟩
def nC:List (List UInt8):= [[49,45,53,45,45,45,45,45,45,45,45,45,50,52,45,45], [52,52,52,52,52,52,52,52,52,52,50,45,45,45,45,45], [45,51,51,51,51,51,51,51,51,51,51,51,51,51,51,51], [51,51,51,51,51,51,51,51,51,51,51,50,45,50,45,45], [45,51,51,51,51,51,51,51,51,51,51,51,51,51,51,51], [51,51,51,51,51,51,51,51,51,51,51,50,45,50,45,45]]
def km (w:World):Prop:= ∀i,i<6->w.cell? ⟨17,i,none⟩=some (.string ⟨(nC.getD i []).toArray⟩)
theorem km.below (h:km w)(hb:Below w.heap.size w w'):km w':=fun i hi=>Zg hb (h i hi)
theorem Ak (x:UInt8):(x.toNat=9\/x.toNat=10\/x.toNat=13->bo x=1)/\(¬ (x.toNat=9\/x.toNat=10\/x.toNat=13)->(x.toNat<32\/127<x.toNat)->bo x=0)/\(32<=x.toNat->x.toNat<=127->((bo x:Nat):Int)=max ((((nC.getD (x.toNat/16 - 2) []).getD (x.toNat % 16) 0).toNat:Int) - 48) 0):=by
 have:=sN (p:=fun x=>decide ((x.toNat=9\/x.toNat=10\/x.toNat=13->bo x=1)/\(¬ (x.toNat=9\/x.toNat=10\/x.toNat=13)->(x.toNat<32\/127<x.toNat)->bo x=0)/\(32<=x.toNat->x.toNat<=127->((bo x:Nat):Int)=max ((((nC.getD (x.toNat/16 - 2) []).getD (x.toNat % 16) 0).toNat:Int) - 48) 0))) (by decide +kernel) x;exact of_decide_eq_true this
theorem xE (R:List UInt8)(j:Nat)(h:j<R.length):R[j]?=some (R.getD j 0):=by simp[Zd h]
theorem Fd:∀i,i<6->(nC.getD i []).length=16:=by decide
theorem ff {k:IntKind}{s:ByteArray}{x:UInt8}(hg:s.data.toList[p]?=some x)(w':World):(Instr.index 9 (.string s) (.int k (p:Int))).run Tryz.prog w' =.ok (.int .u8 x.toNat) w':=by
 have hlt:p<s.size:=by
  have h2:=(List.getElem?_eq_some_iff.1 hg).1;rw[Array.length_toList] at h2;exact h2
 rw[run_index_string w' 9 s k (p:Int) Tryz.underlying9,dif_pos ⟨Int.natCast_nonneg _,by omega⟩];have h3:s[((p:Nat):Int).toNat]'(by simpa using hlt)=x:=by
  simp only[Int.toNat_natCast];have h4:s.data[p]?=some x:=by rw[<-Array.getElem?_toList];exact hg
  exact(Array.getElem?_eq_some_iff.1 h4).2
 rw[h3]
theorem bt (x:UInt8)(hB:km w):Calls Tryz.prog 182 #[.int .u8 x.toNat] w fun e w'=>e =.returned (.int .i64 (bo x:Nat))/\w=w':=by
 obtain⟨k1,k2,k3⟩:=Ak x;have hx:=x.toNat_lt;obtain⟨n,hn⟩:∃n,x.toNat=n:=⟨_,rfl⟩;rw[hn] at k1 k2 k3 hx ⊢;obtain⟨k,hk⟩:∃k,bo x=k:=⟨_,rfl⟩;rw[hk] at k1 k2 k3 ⊢;clear hn hk
 by_cases h1:n=9\/n=10\/n=13
 ·obtain rfl:=k1 h1;clear k1 k2 k3;go_enter Tryz.func182,Tryz.ntmps182;rcases h1 with rfl|rfl|rfl
  ·go_wp2;go_ret;exact⟨rfl,rfl⟩
  ·go_wp2;go_ret;exact⟨rfl,rfl⟩
  ·go_wp2;go_ret;exact⟨rfl,rfl⟩
 ·have e1:((n:Int)==9)=false:=by simp;omega
  have e2:((n:Int)==10)=false:=by simp;omega
  have e3:((n:Int)==13)=false:=by simp;omega
  by_cases h2:n<32\/127<n
  ·obtain rfl:=k2 h1 h2;clear k1 k2 k3 h1;go_enter Tryz.func182,Tryz.ntmps182;rcases h2 with h2|h2
   ·have a1:(n:Int)<32:=by omega
    go_wp2;go_ret;exact⟨rfl,rfl⟩
   ·have a1:¬ (n:Int)<32:=by omega
    have a3:(127:Int)<n:=by omega
    go_wp2;go_ret;exact⟨rfl,rfl⟩
  ·have k3:=k3 (by omega) (by omega);have hc:=hB (n/16 - 2) (by omega);have hl:=Fd (n/16 - 2) (by omega);obtain⟨v,hv⟩:∃v:UInt8,(nC.getD (n/16 - 2) []).getD (n % 16) 0=v:=⟨_,rfl⟩;have a0:=fun w'=>ff (k:=.u8) (s:=⟨(nC.getD (n/16 - 2) []).toArray⟩) (p:=n % 16) (x:=v) (by
    show(nC.getD (n/16 - 2) [])[n % 16]?=some v
    rw[<-hv];exact xE _ _ (by rw[hl];omega)) w'
   rw[hv] at k3;have a2:=v.toNat_lt;obtain⟨z,hz⟩:∃z:Int,(v.toNat:Int)=z:=⟨_,rfl⟩;rw[hz] at k3 a0;have a4:0<=z:=by omega
   have a5:z<256:=by omega
   generalize (⟨(nC.getD (n/16 - 2) []).toArray⟩:ByteArray)=row at *;obtain⟨q,hq⟩:∃q,n/16=q:=⟨_,rfl⟩;obtain⟨r,hr⟩:∃r,n % 16=r:=⟨_,rfl⟩;have d1:(n:Int)/16=q:=by omega
   have d2:(n:Int) % 16=r:=by omega
   have d1':Int.tdiv (n:Int) 16=q:=by rw[Int.tdiv_eq_ediv_of_nonneg (by omega)];exact d1
   have d2':Int.tmod (n:Int) 16=r:=by rw[Int.tmod_eq_emod_of_nonneg (by omega)];exact d2
   have d3:IntKind.u8.wrap ((q:Int) - 2)= ((q - 2:Nat):Int):=by simp[IntKind.wrap,IntKind.bits,IntKind.signed];omega
   have d4:((q:Int) - 2).toNat=q - 2:=by omega
   rw[hq] at hc;rw[hr] at a0;have n1:¬ (n:Int)<32:=by omega
   have n2:¬ (127:Int)<n:=by omega
   have n3:2<=(q:Int):=by omega
   have n4:(q:Int)<8:=by omega
   rw[k3];clear k1 k2 k3 h1 h2 hl hv hz hq hr hB a2;go_enter Tryz.func182,Tryz.ntmps182;go_wp2;go_ret;exact⟨rfl,rfl⟩
theorem ec (x:UInt8)(w:World):Calls Tryz.prog 202 #[.int .u8 x.toNat] w fun e w'=>e =.returned (.bool (cv x))/\w=w':=by
 have key:cv x= (decide (97<=bits .or .u8 (x.toNat:Int) 32)&&decide (bits .or .u8 (x.toNat:Int) 32<=122)):=by
  have h:∀n:Nat,n<256->cv (UInt8.ofNat n)= (decide (97<=bits .or .u8 (n:Int) 32)&&decide (bits .or .u8 (n:Int) 32<=122)):=by decide +kernel
  have:=h x.toNat x.toNat_lt
  rwa[UInt8.ofNat_toNat] at this
 rw[key];clear key;obtain⟨y,hy⟩:∃y:Int,bits .or .u8 (x.toNat:Int) 32=y:=⟨_,rfl⟩;rw[hy]
 by_cases h1:97<=y
 ·by_cases h2:y<=122
  ·rw[decide_eq_true h1,decide_eq_true h2];go_enter Tryz.func202,Tryz.ntmps202;go_wp2;go_ret;exact⟨rfl,rfl⟩
  ·rw[decide_eq_true h1,decide_eq_false h2];go_enter Tryz.func202,Tryz.ntmps202;go_wp2;go_ret;exact⟨rfl,rfl⟩
 ·rw[decide_eq_false h1];go_enter Tryz.func202,Tryz.ntmps202;go_wp2;go_ret;exact⟨rfl,rfl⟩
def CG (l:List UInt8):Bool:=l == [110,117,108,108]||l == [116,114,117,101]||l == [102,97,108,115,101]
theorem eQ (l:List UInt8)(w:World):Calls Tryz.prog 203 #[.string ⟨l.toArray⟩] w fun e w'=>e =.returned (.bool (CG l))/\w=w':=by
 have hl:(⟨l.toArray⟩:ByteArray).toList=l:=by rw[ByteArray.toList_eq]
 obtain⟨s,hs⟩:∃s:ByteArray,⟨l.toArray⟩=s:=⟨_,rfl⟩;rw[hs] at hl ⊢;unfold CG;obtain⟨b1,h1⟩:∃b,(s.toList == [110,117,108,108])=b:=⟨_,rfl⟩;obtain⟨b2,h2⟩:∃b,(s.toList == [116,114,117,101])=b:=⟨_,rfl⟩;obtain⟨b3,h3⟩:∃b,(s.toList == [102,97,108,115,101])=b:=⟨_,rfl⟩;rw[<-hl,h1,h2,h3];clear hs hl;go_enter Tryz.func203,Tryz.ntmps203
 cases b1 <;> cases b2 <;> cases b3
 all_goals go_wp2
 all_goals (go_ret;exact⟨rfl,rfl⟩)
theorem xK (a:Addr)(W:World):(Instr.typeAssert (.iface 122 (.pointer (some a))) 30 122 true).run Tryz.prog W =.ok (.tuple #[.pointer (some a),.bool true]) W:=by kernel_rfl
theorem oW (a:Addr)(W:World):(Instr.typeAssert (bp a) 30 122 true).run Tryz.prog W =.ok (.tuple #[.pointer none,.bool false]) W:=by kernel_rfl
def J9 (w:World)(e:Ending)(w':World):Prop:= ∃v,e =.returned v/\EU w' v/\Below w.heap.size w w'
theorem i1 (a:Addr)(p:Int)(w:World):Calls Tryz.prog 205 #[bp a,.int .i64 p] w (J9 w):=by
 have q:=fun W=>oW a W
 go_enter Tryz.func205,Tryz.ntmps205;go_wp2_with fail;go_ret;exact⟨_,rfl,⟨_,_,a,rfl,Zf _ _⟩,aa _ _⟩
