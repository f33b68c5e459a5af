import Derived.Test.YtehpfidnpfcniaaGreatDoorGZ14aj
set_option linter.unusedVariables false
set_option linter.unusedSimpArgs false
set_option maxHeartbeats 64000000
set_option maxRecDepth 100000
namespace Go.Proofs.YtehpfidnpfcniaaGreatDoor
open Go.RowKit Go.Shelf
variable {xs:List UInt8}{g nd:Nat}{v:Value}{w w':World}
abbrev br (a:Addr):Value:=.iface 407 (.pointer (some a))
def a7 (w:World)(g:Nat):Prop:= ∃a,w.cell? ⟨g,0,none⟩=some (br a)
theorem a7.below (h:a7 w g)(hb:Below w.heap.size w w'):a7 w' g:=by
 obtain⟨a,h⟩:=h;exact⟨a,Zg hb h⟩
def EN (w:World)(v:Value):Prop:= ∃ (g:Nat) (p:Int) (a:Addr),v =.iface 63 (.pointer (some ⟨g,0,none⟩))/\w.heap[g]?=some (.cells #[.int .i64 p,br a] 65 (0,0))
theorem EN.below (h:EN w v)(hb:Below w.heap.size w w'):EN w' v:=by
 obtain⟨g,p,a,e,hg⟩:=h;exact⟨g,p,a,e,ai hg hb⟩
def GE (d:Dc):Value:=.agg #[.bool d.neg,.string d.digits,.int .i64 d.exp]
def DV (r:Option (Dc×Nat))(w:World)(e:Ending)(w':World):Prop:=Below w.heap.size w w'/\match r with
 |some p=>e =.returned (.tuple #[GE p.1,.int .i64 p.2,.nilIface])
 |none=> ∃v,e =.returned (.tuple #[.agg #[.bool false,.string es,.int .i64 0],.int .i64 0,v])/\EN w' v
theorem BO:∀ (t:NS),t.part<=t.n->t.digs.length<=t.n->t.exps.length<=t.n->(∀c∈t.exps,dK c=true)->t.n+xs.length<=1000000000->
  (aw t xs).part<=1000000000/\(aw t xs).digs.length<=1000000000/\(aw t xs).exps.length<=1000000000/\(aw t xs).n<=1000000000/\∀c∈(aw t xs).exps,dK c=true:=by
 induction xs with
 |nil=>intro t h1 h2 h3 h4 h5;simp at h5;unfold aw;exact⟨by omega,by omega,by omega,by omega,h4⟩
 |cons c xs ih=>
  intro t h1 h2 h3 h4 h5;simp only[List.length_cons] at h5;unfold aw
  split
  ·exact⟨by omega,by omega,by omega,by omega,h4⟩
  ·rename_i h9
   refine ih (t.next c) ?_ ?_ ?_ ?_ ?_
   ·simp only[NS.next];split <;> omega
   ·simp only[NS.next];split
    ·simp;omega
    ·omega
   ·simp only[NS.next];split
    ·simp;omega
    ·omega
   ·simp only[NS.next];split
    ·rename_i h8
     intro a ha;rcases List.mem_append.1 ha with ha|ha
     ·exact h4 a ha
     ·rw[List.mem_singleton.1 ha]
      -- state 8 is reached by digits alone
      have key:∀s,s<9->∀k,k<7->dn s k=8->k=2\/k=3:=by decide +kernel
      have h7:dn t.st (a6 c)=8->a6 c=2\/a6 c=3:=by
       intro h
       by_cases hs:t.st<9
       ·exact key _ hs _ (by have:=rL c;omega) h
       ·exfalso
        unfold dn at h
        split at h
        ·rw[List.getD_eq_getElem?_getD,List.getElem?_eq_none (by show lT.length<=_;simp[lT];omega)] at h;simp at h
        ·omega
      have hk:=h7 h8;have:=qn (p:=fun c=> !(a6 c==2||a6 c==3)||dK c) (by decide +kernel) c;rcases hk with hk|hk <;> simpa [hk] using this
    ·exact h4
   ·simp only[NS.next];omega
def GF (r:Option Dc)(a:Bool)(b:ByteArray)(c:Int)(ok:Bool):Prop:=match r with|some d=>ok=true/\a=d.neg/\b=d.digits/\c=d.exp|none=>ok=false
theorem GC.form {r:Option Dc}(h:GC r v):∃a b c ok,v =.tuple #[.agg #[.bool a,.string b,.int .i64 c],.bool ok]/\GF r a b c ok:=by
 cases r with
 |none=>obtain⟨a,b,c,rfl⟩:=h;exact⟨a,b,c,false,rfl,rfl⟩
 |some d=>obtain rfl:=h;exact⟨_,_,_,true,rfl,rfl,rfl,rfl,rfl⟩
def GT (r:Option Dc)(w3:World)(s6 s7:Value)(wx:World):Prop:= ∃gz a b c ok,s6 =.pointer (some ⟨gz,0,none⟩)/\s7 =.bool ok/\wx.heap[gz]?=some (.cells #[.bool a,.string b,.int .i64 c] 320 (0,0))/\Below w3.heap.size w3 wx/\GF r a b c ok/\w3.heap.size<=gz
def SP (g:Nat)(t:NS)(Ad:Option Addr)(nd qd:Nat)(Ae:Option Addr)(ne qe:Nat)(w':World):Prop:=w'.cell? ⟨g,0,none⟩=some (.bool t.neg)/\w'.cell? ⟨g,1,none⟩=some (.bool t.down)/\w'.cell? ⟨g,2,none⟩=some (.slice Ad nd qd)/\w'.cell? ⟨g,3,none⟩=some (.int .i64 t.part)/\w'.cell? ⟨g,4,none⟩=some (.slice Ae ne qe)/\w'.cell? ⟨g,5,none⟩=some (.int .i64 t.st)/\w'.cell? ⟨g,6,none⟩=some (.int .i64 t.n)/\
 (convert 28 9 (.slice Ad nd qd)).run Tryz.prog w' =.ok (.string ⟨t.digs.toArray⟩) w'/\Bs w' (.slice Ad nd qd) t.digs
theorem SP.below {t:NS}{Ad:Option Addr}{qd:Nat}{Ae:Option Addr}{ne qe:Nat}(h:SP g t Ad nd qd Ae ne qe w)(hb:Below w.heap.size w w'):SP g t Ad nd qd Ae ne qe w':=by
 obtain⟨h0,h1,h2,h3,h4,h5,h6,-,h8⟩:=h;exact⟨Zg hb h0,Zg hb h1,Zg hb h2,Zg hb h3,Zg hb h4,Zg hb h5,Zg hb h6,aH (h8.below hb),h8.below hb⟩
theorem nT (hb:Bs w v xs)(hl:xs.length<=1000000000)(hG:kV w)(hN:a7 w 19)(hX:a7 w 20):Calls Tryz.prog 205 #[v] w (DV (kU xs) w):=by
 have e2:=ac w (.cells #[.bool false,.string es,.int .i64 0] 320);have h0:=Zf w (.cells #[.bool false,.string es,.int .i64 0] 320);have g4:=H8 (rc (hb.below e2) hl (hG.below e2));have i9:19<w.heap.size:=by obtain⟨a,h⟩:=hN;exact World.block_lt_of_cell? w _ h
 have j0:20<w.heap.size:=by obtain⟨a,h⟩:=hX;exact World.block_lt_of_cell? w _ h
 have g7:=hN.below e2;have g8:=hX.below e2;have f0:kU xs=if db (aw eY xs).st then(fo (aw eY xs).neg (aw eY xs).digs (ee (aw eY xs)) (-((aw eY xs).part:Int))).map fun d=>(d,(aw eY xs).n) else none:=rfl
 obtain⟨b1,b2,b3,b4,b5⟩:=BO (xs:=xs) eY (Zb _) (Zb _) (Zb _) (by simp[eY]) (by show 0+xs.length<=_;omega);rw[f0];clear hb hG hN hX f0;generalize aw eY xs=t at *;have B5:=H8 b5;have i4:=Cn b5;have H0:=H8 h0;have f4:=H8 e2;have HN:=H8 g7;have HX:=H8 g8;clear b5 h0 e2 g7 g8;go_enter Tryz.func205,Tryz.ntmps205;go_wp2_with fail;generalize w.alloc (.cells #[.bool false,.string es,.int .i64 0] 320)=w0 at *;refine Za g4 ?_;rintro e w1 ⟨vd,ve,rfl,e0,hd,he⟩;obtain⟨Ad,nd,qd,rfl⟩:∃A n q,vd =.slice A n q:=by obtain⟨A,c,e,_⟩:=af hd;exact⟨A,_,c,e⟩
 obtain⟨Ae,ne,qe,rfl⟩:∃A n q,ve =.slice A n q:=by obtain⟨A,c,e,_⟩:=af he;exact⟨A,_,c,e⟩
 have hz:=Zf w1 DU;have g5:=aD (w1.alloc DU) w1.heap.size #[.bool t.neg,.bool t.down,.slice Ad nd qd,.int .i64 t.part,.slice Ae ne qe,.int .i64 t.st,.int .i64 t.n];have c9:Below w1.heap.size w1 ((w1.alloc DU).setRow w1.heap.size #[.bool t.neg,.bool t.down,.slice Ad nd qd,.int .i64 t.part,.slice Ae ne qe,.int .i64 t.st,.int .i64 t.n]):=(ac w1 DU).grown g5 (by simp) (fun g e=>by cases e;exact Zb _);have ht:=setRow_heap (w1.alloc DU) w1.heap.size _ #[.bool t.neg,.bool t.down,.slice Ad nd qd,.int .i64 t.part,.slice Ae ne qe,.int .i64 t.st,.int .i64 t.n] _ _ hz;have e5:=H8 (f4.out.trans ((e0.trans (c9.mono e0.size)).mono f4.out.size));have f6:=H8 (ai (ai H0.out e0) c9);have g6:=H8 ((HN.out.below e0).below c9);have h3:=H8 ((HX.out.below e0).below c9);have Hd:=H8 (hd.bs.below c9);have He:=H8 (he.bs.below c9);have Ht:=H8 ht;have i5:w.heap.size<w1.heap.size:=Nat.lt_of_lt_of_le (ah H0.out) e0.size;have i8:=c9.size;clear g4 e0 hd he c9 ht f4 H0 HN HX g5;have h4:(w1.alloc (.cells #[.bool false,.bool false,.slice none 0 0,.int .i64 0,.slice none 0 0,.int .i64 0,.int .i64 0] 354)).heap[w1.heap.size]?=some (.cells #[.bool false,.bool false,.slice none 0 0,.int .i64 0,.slice none 0 0,.int .i64 0,.int .i64 0] 354):=hz;clear hz;go_upto_region 2 with (refine eN h4 ?_)
 unfold DU at *;generalize (w1.alloc (.cells #[.bool false,.bool false,.slice none 0 0,.int .i64 0,.slice none 0 0,.int .i64 0,.int .i64 0] 354)).setRow w1.heap.size #[.bool t.neg,.bool t.down,.slice Ad nd qd,.int .i64 t.part,.slice Ae ne qe,.int .i64 t.st,.int .i64 t.n]=w2 at *;clear h4;have c0:=aa Ht.out (j:=0) (u:=.bool t.neg) rfl;have c1:=aa Ht.out (j:=1) (u:=.bool t.down) rfl;have c2:=aa Ht.out (j:=2) (u:=.slice Ad nd qd) rfl;have c3:=aa Ht.out (j:=3) (u:=.int .i64 t.part) rfl;have c4:=aa Ht.out (j:=4) (u:=.slice Ae ne qe) rfl;have c5:=aa Ht.out (j:=5) (u:=.int .i64 t.st) rfl;have c6:=aa Ht.out (j:=6) (u:=.int .i64 t.n) rfl
 by_cases hw:db t.st=true
 ·go_wp2_with fail;refine(nc t (.slice Ad nd qd) (.slice Ae ne qe) w2).mono ?_;rintro e w3 ⟨rfl,a9⟩;rw[hw];have H3:=H8 (ai Ht.out a9);have e4:=H8 (e5.out.trans (a9.mono e5.out.size));have e3:=H8 (ai f6.out a9);have g0:=H8 (h3.out.below a9);have f9:=H8 (Hd.out.below a9);have f8:=H8 (He.out.below a9);have d0:=aa H3.out (j:=0) (u:=.bool t.neg) rfl;have d1:=aa H3.out (j:=1) (u:=.bool t.down) rfl;have d2:=aa H3.out (j:=2) (u:=.slice Ad nd qd) rfl;have d3:=aa H3.out (j:=3) (u:=.int .i64 t.part) rfl;have d4:=aa H3.out (j:=4) (u:=.slice Ae ne qe) rfl;have d5:=aa H3.out (j:=5) (u:=.int .i64 t.st) rfl;have d6:=aa H3.out (j:=6) (u:=.int .i64 t.n) rfl;have h5:=a9.size;clear a9 c0 c1 c2 c3 c4 c5 c6 Hd He h3 g6 f6 e5 Ht;go_wp2_with fail;have i3:w.heap.size<w3.heap.size:=ah e3.out;have swn:IntKind.i64.wrap (-(t.part:Int)) = -(t.part:Int):=IntWalk.i64_in _ (by omega);go_cut [6,7] (fun s6 s7 wx=>GT (fo t.neg t.digs (ee t) (-(t.part:Int))) w3 s6 s7 wx)
  case first=>
   obtain⟨wq,a1⟩:∃wq,w3.drew=wq:=⟨_,rfl⟩;have Hq:Hid (Below w3.heap.size w3 wq):=H8 (by rw[<-a1];exact(Ze _ _).drew);have SP3:Hid (SP w1.heap.size t Ad nd qd Ae ne qe w3):=H8 ⟨d0,d1,d2,d3,d4,d5,d6,aH f9.out,f9.out⟩;refine bp (fun w'=>w'.cell? ⟨w1.heap.size,0,none⟩=some (.bool t.neg)/\w'.cell? ⟨w1.heap.size,1,none⟩=some (.bool t.down)/\w'.cell? ⟨w1.heap.size,2,none⟩=some (.slice Ad nd qd)/\w'.cell? ⟨w1.heap.size,3,none⟩=some (.int .i64 t.part)/\w'.cell? ⟨w1.heap.size,4,none⟩=some (.slice Ae ne qe)/\w'.cell? ⟨w1.heap.size,5,none⟩=some (.int .i64 t.st)/\w'.cell? ⟨w1.heap.size,6,none⟩=some (.int .i64 t.n)/\(convert 28 9 (.slice Ad nd qd)).run Tryz.prog w' =.ok (.string ⟨t.digs.toArray⟩) w'/\Bs w' (.slice Ad nd qd) t.digs) ((by rw[a1];exact(SP.below SP3.out Hq.out:SP w1.heap.size t Ad nd qd Ae ne qe wq))) fun a0=>?_
   rw[a1] at a0 ⊢;clear a1;refine tH 0 a0 ?_;refine tH 1 a0 ?_;refine tH 2 a0 ?_;refine tH 3 a0 ?_;refine tH 4 a0 ?_;refine tH 5 a0 ?_
   try simp only[Act.put,jP,jQ,jR]
   refine tH 7 a0 ?_;refine tH 8 a0 ?_;refine tH 9 a0 ?_
   try simp only[Act.put,jP,jQ,jR]
   refine wpAnyH_ready (rs:= [6,14]) (by kernel_rfl) (by simp) ?_;refine AllReadyH.cons (vk rfl) (fun K hK=>?_) (AllReadyH.cons (vk rfl) (fun K hK=>?_) AllReadyH.nil);go_simp;refine(mL t (.slice Ad nd qd) (.slice Ae ne qe) (f8.out.below Hq.out) B5.out b3).mono ?_;rintro e wn ⟨rfl,hb⟩;have Hq:=H8 (ak Hq.out hb);(try have Hzq:=H8 (ai Hzq.out hb));obtain⟨wq,a1⟩:∃x,x=wn:=⟨_,rfl⟩;subst a1;refine hK.out _ _ ((SP.below SP3.out Hq.out:SP w1.heap.size t Ad nd qd Ae ne qe _)) (fun a0=>?_);clear hK K
   try simp only[Act.put,jP,jQ,jR]
   refine wpAnyH_ready (rs:= [10,14]) (by kernel_rfl) (by simp) ?_;refine AllReadyH.cons (vk rfl) (fun K hK=>?_) (AllReadyH.cons (vk rfl) (fun K hK=>?_) AllReadyH.nil);go_simp;(try rw[swn]);refine(fW t.neg t.digs (ee t) (-(t.part:Int)) b2 (by omega) (by omega) wq).mono ?_;rintro e wn ⟨vN,rfl,c8,hb⟩;obtain⟨a,b,c,ok,rfl,b9⟩:=c8.form;have Hvr:=H8 b9;clear b9 c8;have Hq:=H8 (ak Hq.out hb);(try have Hzq:=H8 (ai Hzq.out hb));obtain⟨wq,a1⟩:∃x,x=wn:=⟨_,rfl⟩;subst a1;refine hK.out _ _ ((SP.below SP3.out Hq.out:SP w1.heap.size t Ad nd qd Ae ne qe _)) (fun a0=>?_);clear hK K
   try simp only[Act.put,jP,jQ,jR]
   refine tH 11 a0 ?_;refine tH 12 a0 ?_;refine tH 13 a0 ?_
   try simp only[Act.put,jP,jQ,jR]
   refine rH 14 fun K hK=>?_
   go_simp;have hb:=ac wq (.cells #[.bool false,.string es,.int .i64 0] 320);have b8:=Zf wq (.cells #[.bool false,.string es,.int .i64 0] 320);obtain⟨gz,c7⟩:∃g,wq.heap.size=g:=⟨_,rfl⟩;have Hgz:=H8 (show w3.heap.size<=gz by rw[<-c7];exact Hq.out.size);rw[c7] at b8 ⊢;have Hzq:=H8 b8;have Hq:=H8 (ak Hq.out hb);obtain⟨wn,a4⟩:∃x,wq.alloc (.cells #[.bool false,.string es,.int .i64 0] 320)=x:=⟨_,rfl⟩;rw[a4] at Hzq Hq hb ⊢;clear b8;obtain⟨wq,a1⟩:∃x,x=wn:=⟨_,rfl⟩;subst a1;refine hK.out _ _ ((SP.below SP3.out Hq.out:SP w1.heap.size t Ad nd qd Ae ne qe _)) (fun a0=>?_);clear hK K
   try simp only[Act.put,jP,jQ,jR]
   rotate_left
   go_simp;have hb:=ac wq (.cells #[.bool false,.string es,.int .i64 0] 320);have b8:=Zf wq (.cells #[.bool false,.string es,.int .i64 0] 320);obtain⟨gz,c7⟩:∃g,wq.heap.size=g:=⟨_,rfl⟩;have Hgz:=H8 (show w3.heap.size<=gz by rw[<-c7];exact Hq.out.size);rw[c7] at b8 ⊢;have Hzq:=H8 b8;have Hq:=H8 (ak Hq.out hb);obtain⟨wn,a4⟩:∃x,wq.alloc (.cells #[.bool false,.string es,.int .i64 0] 320)=x:=⟨_,rfl⟩;rw[a4] at Hzq Hq hb ⊢;clear b8;obtain⟨wq,a1⟩:∃x,x=wn:=⟨_,rfl⟩;subst a1;refine hK.out _ _ ((SP.below SP3.out Hq.out:SP w1.heap.size t Ad nd qd Ae ne qe _)) (fun a0=>?_);clear hK K
   try simp only[Act.put,jP,jQ,jR]
   refine rH 10 fun K hK=>?_
   go_simp;(try rw[swn]);refine(fW t.neg t.digs (ee t) (-(t.part:Int)) b2 (by omega) (by omega) wq).mono ?_;rintro e wn ⟨vN,rfl,c8,hb⟩;obtain⟨a,b,c,ok,rfl,b9⟩:=c8.form;have Hvr:=H8 b9;clear b9 c8;have Hq:=H8 (ak Hq.out hb);(try have Hzq:=H8 (ai Hzq.out hb));obtain⟨wq,a1⟩:∃x,x=wn:=⟨_,rfl⟩;subst a1;refine hK.out _ _ ((SP.below SP3.out Hq.out:SP w1.heap.size t Ad nd qd Ae ne qe _)) (fun a0=>?_);clear hK K
   try simp only[Act.put,jP,jQ,jR]
   refine tH 11 a0 ?_;refine tH 12 a0 ?_;refine tH 13 a0 ?_
   try simp only[Act.put,jP,jQ,jR]
   rotate_left
   go_simp;have hb:=ac wq (.cells #[.bool false,.string es,.int .i64 0] 320);have b8:=Zf wq (.cells #[.bool false,.string es,.int .i64 0] 320);obtain⟨gz,c7⟩:∃g,wq.heap.size=g:=⟨_,rfl⟩;have Hgz:=H8 (show w3.heap.size<=gz by rw[<-c7];exact Hq.out.size);rw[c7] at b8 ⊢;have Hzq:=H8 b8;have Hq:=H8 (ak Hq.out hb);obtain⟨wn,a4⟩:∃x,wq.alloc (.cells #[.bool false,.string es,.int .i64 0] 320)=x:=⟨_,rfl⟩;rw[a4] at Hzq Hq hb ⊢;clear b8;obtain⟨wq,a1⟩:∃x,x=wn:=⟨_,rfl⟩;subst a1;refine hK.out _ _ ((SP.below SP3.out Hq.out:SP w1.heap.size t Ad nd qd Ae ne qe _)) (fun a0=>?_);clear hK K
   try simp only[Act.put,jP,jQ,jR]
   refine rH 6 fun K hK=>?_
   go_simp;refine(mL t (.slice Ad nd qd) (.slice Ae ne qe) (f8.out.below Hq.out) B5.out b3).mono ?_;rintro e wn ⟨rfl,hb⟩;have Hq:=H8 (ak Hq.out hb);(try have Hzq:=H8 (ai Hzq.out hb));obtain⟨wq,a1⟩:∃x,x=wn:=⟨_,rfl⟩;subst a1;refine hK.out _ _ ((SP.below SP3.out Hq.out:SP w1.heap.size t Ad nd qd Ae ne qe _)) (fun a0=>?_);clear hK K
   try simp only[Act.put,jP,jQ,jR]
   refine rH 10 fun K hK=>?_
   go_simp;(try rw[swn]);refine(fW t.neg t.digs (ee t) (-(t.part:Int)) b2 (by omega) (by omega) wq).mono ?_;rintro e wn ⟨vN,rfl,c8,hb⟩;obtain⟨a,b,c,ok,rfl,b9⟩:=c8.form;have Hvr:=H8 b9;clear b9 c8;have Hq:=H8 (ak Hq.out hb);(try have Hzq:=H8 (ai Hzq.out hb));obtain⟨wq,a1⟩:∃x,x=wn:=⟨_,rfl⟩;subst a1;refine hK.out _ _ ((SP.below SP3.out Hq.out:SP w1.heap.size t Ad nd qd Ae ne qe _)) (fun a0=>?_);clear hK K
   try simp only[Act.put,jP,jQ,jR]
   refine tH 11 a0 ?_;refine tH 12 a0 ?_;refine tH 13 a0 ?_
   try simp only[Act.put,jP,jQ,jR]
   rotate_left
   all_goals
    refine rH 15 fun K hK=>?_
    refine lH Hzq.out ?_;have Hq:=H8 (Hq.out.grown (aD wq gz #[.bool a,.string b,.int .i64 c]) Hq.out.size (fun g e=>by cases e;exact Hgz.out));have Hzq:=H8 (setRow_heap _ _ _ #[.bool a,.string b,.int .i64 c] _ _ Hzq.out);obtain⟨wn,a4⟩:∃x,wq.setRow gz #[.bool a,.string b,.int .i64 c]=x:=⟨_,rfl⟩;rw[a4] at Hzq Hq ⊢;obtain⟨wq,a1⟩:∃x,x=wn:=⟨_,rfl⟩;subst a1;refine hK.out _ _ ((SP.below SP3.out Hq.out:SP w1.heap.size t Ad nd qd Ae ne qe _)) (fun a0=>?_);clear hK K
    try simp only[Act.put,jP,jQ,jR]
    refine tH 16 a0 ?_
    try simp only[Act.put,jP,jQ,jR]
    refine wpAnyH_done (by kernel_rfl) (NoPanic.normal ?_) _;go_wp2_with fail;go_meet
    case rel=>exact⟨gz,a,b,c,ok,rfl,rfl,Hzq.out,Hq.out,Hvr.out,Hgz.out⟩
  case rest=>
   obtain⟨gz,a,b,c,ok,rfl,rfl,hz,hq,g2,i0⟩:=hcut;have g1:=H8 g2;have e6:=Zg hq d6;have f2:=H8 (ai e3.out hq);have f3:=H8 (e4.out.trans (hq.mono e4.out.size));have h8:=H8 (g0.out.below hq);have z0:=aa hz (j:=0) (u:=.bool a) rfl;have z1:=aa hz (j:=1) (u:=.string b) rfl;have z2:=aa hz (j:=2) (u:=.int .i64 c) rfl;have f5:w.heap.size<gz:=by omega
   clear hz hq g2 d0 d1 d2 d3 d4 d5 d6 f9 f8 H3 e3 e4 g0;obtain⟨aX,h7⟩:=h8.out
   cases ok with
   |true=>
    have f7:=H8 ((f3.out.drew).grown (aD wc.drew w.heap.size #[.bool a,.string b,.int .i64 c]) f3.out.size (fun g e=>by cases e;exact Zb _));have d9:gz≠w.heap.size:=fun e=>by subst e;exact absurd f5 (Nat.lt_irrefl _)
    go_wp2_with fail;refine bp (fun w'=>w'.cell? ⟨gz,0,none⟩=some (.bool a)/\w'.cell? ⟨gz,1,none⟩=some (.string b)/\w'.cell? ⟨gz,2,none⟩=some (.int .i64 c)/\w'.cell? ⟨w1.heap.size,6,none⟩=some (.int .i64 t.n)) (⟨z0,z1,z2,e6⟩) fun a0=>?_
    refine tH 0 a0 ?_;refine tH 1 a0 ?_;refine tH 2 a0 ?_
    try simp only[Act.put,jP,jQ,jR]
    refine rH 3 fun K hK=>?_
    refine lH f2.out ?_;have hg:=aD wc.drew w.heap.size #[.bool a,.string b,.int .i64 c];refine hK.out _ _ (⟨hg.cell a0.1 (fun e=>by injection e with e;exact d9 e),hg.cell a0.2.1 (fun e=>by injection e with e;exact d9 e),hg.cell a0.2.2.1 (fun e=>by injection e with e;exact d9 e),hg.cell a0.2.2.2 (fun e=>by injection e with e;have e:w1.heap.size=w.heap.size:=e;omega)⟩) (fun a0=>?_);clear hK K
    try simp only[Act.put,jP,jQ,jR]
    refine tH 4 a0 ?_;refine tH 5 a0 ?_
    try simp only[Act.put,jP,jQ,jR]
    refine wpAnyH_done (by kernel_rfl) (NoPanic.normal ?_) _;go_wp2_with fail;have hd:=g1.out;have f1:DV ((fo t.neg t.digs (ee t) (-(t.part:Int))).map fun d=>(d,t.n)) w (.returned (.tuple #[.agg #[.bool a,.string b,.int .i64 c],.int .i64 t.n,.nilIface])) (wc.drew.setRow w.heap.size #[.bool a,.string b,.int .i64 c]):=by
     refine⟨f7.out,?_⟩
     cases hr:fo t.neg t.digs (ee t) (-(t.part:Int)) with
     |none=>rw[hr] at hd;cases hd
     |some d=>rw[hr] at hd;obtain⟨-,rfl,rfl,rfl⟩:=hd;rfl
    exact Zh (fB Tryz.results205 _ _ w.heap.size 320 _ _ _ (0,0) (by simp) (setRow_heap _ _ _ _ _ _ f2.out)) rfl f1
   |false=>
    have g3:∀v w',Below w.heap.size w w'->EN w' v->DV ((fo t.neg t.digs (ee t) (-(t.part:Int))).map fun d=>(d,t.n)) w (.returned (.tuple #[.agg #[.bool false,.string es,.int .i64 0],.int .i64 0,v])) w':=by
     intro v w' h1 h2;have hd:=g1.out;refine⟨h1,?_⟩
     cases hr:fo t.neg t.digs (ee t) (-(t.part:Int)) with
     |some d=>rw[hr] at hd;cases hd.1
     |none=>exact⟨v,rfl,h2⟩
    have h9:=H8 g3;clear g3;go_wp2_with fail;obtain⟨wq,a1⟩:∃wq,wc.drew=wq:=⟨_,rfl⟩;have a3:Hid (wq.heap[w.heap.size]?=some (.cells #[.bool false,.string es,.int .i64 0] 320 (0,0))):=H8 (by rw[<-a1];exact f2.out);have a2:=H8 (show Below w.heap.size w wq by rw[<-a1];exact f3.out.drew);clear f2 f3 z0 z1 z2 e6;refine bp (fun w'=>w'.cell? ⟨20,0,none⟩=some (br aX)) (h7) fun a0=>?_
    rw[a1] at a0 ⊢;clear a1;refine tH 0 a0 ?_;refine tH 1 a0 ?_;refine tH 2 a0 ?_
    try simp only[Act.put,jP,jQ,jR]
    refine wpAnyH_ready (rs:= [3,5]) (by kernel_rfl) (by simp) ?_;refine AllReadyH.cons (vk rfl) (fun K hK=>?_) (AllReadyH.cons (vk rfl) (fun K hK=>?_) AllReadyH.nil);go_simp;have hb:=ac wq (.cells #[.int .i64 0,br aX] 65);have a5:=H8 (Zf wq (.cells #[.int .i64 0,br aX] 65));obtain⟨gb,b0⟩:∃g,wq.heap.size=g:=⟨_,rfl⟩;have e1:=H8 (show w.heap.size<gb by rw[<-b0];exact ah a3.out);rw[b0] at a5 ⊢;have a3:=H8 (ai a3.out hb);have a2:=H8 (a2.out.trans (hb.mono a2.out.size));obtain⟨wn,a4⟩:∃x,wq.alloc (.cells #[.int .i64 0,br aX] 65)=x:=⟨_,rfl⟩;rw[a4] at a5 a3 a2 hb ⊢;obtain⟨wq,a1⟩:∃x,x=wn:=⟨_,rfl⟩;subst a1;refine hK.out _ _ (Zg hb a0) (fun a0=>?_);clear hK K
    try simp only[Act.put,jP,jQ,jR]
    refine tH 4 a0 ?_
    try simp only[Act.put,jP,jQ,jR]
    refine rH 5 fun K hK=>?_
    refine lH a3.out ?_;have hg:=aD wq w.heap.size #[.bool false,.string es,.int .i64 0];have a2:=H8 (a2.out.grown hg a2.out.size (fun g e=>by cases e;exact Zb _));(try have a5:=H8 (ay a5.out hg (fun e=>by injection e with e;have:=e1.out;omega)));have a3:=H8 (setRow_heap _ _ _ #[.bool false,.string es,.int .i64 0] _ _ a3.out);obtain⟨wn,a4⟩:∃x,wq.setRow w.heap.size #[.bool false,.string es,.int .i64 0]=x:=⟨_,rfl⟩;rw[a4] at a3 a2 hg ⊢;(try rw[a4] at a5);obtain⟨wq,a1⟩:∃x,x=wn:=⟨_,rfl⟩;subst a1;refine hK.out _ _ (hg.cell a0 (fun e=>by injection e with e;have e:20=w.heap.size:=e;omega)) (fun a0=>?_);clear hK K
    try simp only[Act.put,jP,jQ,jR]
    refine tH 6 a0 ?_;refine tH 7 a0 ?_
    try simp only[Act.put,jP,jQ,jR]
    rotate_left
    refine lH a3.out ?_;have hg:=aD wq w.heap.size #[.bool false,.string es,.int .i64 0];have a2:=H8 (a2.out.grown hg a2.out.size (fun g e=>by cases e;exact Zb _));(try have a5:=H8 (ay a5.out hg (fun e=>by injection e with e;have:=e1.out;omega)));have a3:=H8 (setRow_heap _ _ _ #[.bool false,.string es,.int .i64 0] _ _ a3.out);obtain⟨wn,a4⟩:∃x,wq.setRow w.heap.size #[.bool false,.string es,.int .i64 0]=x:=⟨_,rfl⟩;rw[a4] at a3 a2 hg ⊢;(try rw[a4] at a5);obtain⟨wq,a1⟩:∃x,x=wn:=⟨_,rfl⟩;subst a1;refine hK.out _ _ (hg.cell a0 (fun e=>by injection e with e;have e:20=w.heap.size:=e;omega)) (fun a0=>?_);clear hK K
    try simp only[Act.put,jP,jQ,jR]
    refine tH 6 a0 ?_
    try simp only[Act.put,jP,jQ,jR]
    refine rH 3 fun K hK=>?_
    go_simp;have hb:=ac wq (.cells #[.int .i64 0,br aX] 65);have a5:=H8 (Zf wq (.cells #[.int .i64 0,br aX] 65));obtain⟨gb,b0⟩:∃g,wq.heap.size=g:=⟨_,rfl⟩;have e1:=H8 (show w.heap.size<gb by rw[<-b0];exact ah a3.out);rw[b0] at a5 ⊢;have a3:=H8 (ai a3.out hb);have a2:=H8 (a2.out.trans (hb.mono a2.out.size));obtain⟨wn,a4⟩:∃x,wq.alloc (.cells #[.int .i64 0,br aX] 65)=x:=⟨_,rfl⟩;rw[a4] at a5 a3 a2 hb ⊢;obtain⟨wq,a1⟩:∃x,x=wn:=⟨_,rfl⟩;subst a1;refine hK.out _ _ (Zg hb a0) (fun a0=>?_);clear hK K
    try simp only[Act.put,jP,jQ,jR]
    refine tH 4 a0 ?_;refine tH 7 a0 ?_
    try simp only[Act.put,jP,jQ,jR]
    rotate_left
    all_goals
     refine wpAnyH_done (by kernel_rfl) (NoPanic.normal ?_) _;go_wp2_with fail;exact Zh (fB Tryz.results205 _ _ w.heap.size 320 _ _ _ (0,0) (by simp) a3.out) rfl (h9.out _ _ a2.out ⟨gb,_,aX,rfl,a5.out⟩)
 ·have h6:db t.st=false:=by simpa using hw
  go_wp2_with fail;refine(nc t (.slice Ad nd qd) (.slice Ae ne qe) w2).mono ?_;rintro e w3 ⟨rfl,a9⟩;rw[h6];have H3:=H8 (ai Ht.out a9);have e4:=H8 (e5.out.trans (a9.mono e5.out.size));have e3:=H8 (ai f6.out a9);obtain⟨aN,i2⟩:=g6.out.below a9;have d6:=aa H3.out (j:=6) (u:=.int .i64 t.n) rfl;have h5:=a9.size;clear a9 c0 c1 c2 c3 c4 c5 c6;go_wp2_with fail;obtain⟨wq,a1⟩:∃wq,w3.drew=wq:=⟨_,rfl⟩;have a3:Hid (wq.heap[w.heap.size]?=some (.cells #[.bool false,.string es,.int .i64 0] 320 (0,0))):=H8 (by rw[<-a1];exact e3.out);have a2:=H8 (show Below w.heap.size w wq by rw[<-a1];exact e4.out.drew);clear e3 e4;refine bp (fun w'=>w'.cell? ⟨w1.heap.size,6,none⟩=some (.int .i64 t.n)/\w'.cell? ⟨19,0,none⟩=some (br aN)) (⟨d6,i2⟩) fun a0=>?_
  rw[a1] at a0 ⊢;clear a1;refine tH 0 a0 ?_;refine tH 1 a0 ?_;refine tH 2 a0 ?_;refine tH 3 a0 ?_;refine tH 4 a0 ?_
  try simp only[Act.put,jP,jQ,jR]
  refine wpAnyH_ready (rs:= [5,7]) (by kernel_rfl) (by simp) ?_;refine AllReadyH.cons (vk rfl) (fun K hK=>?_) (AllReadyH.cons (vk rfl) (fun K hK=>?_) AllReadyH.nil);go_simp;have hb:=ac wq (.cells #[.int .i64 t.n,br aN] 65);have a5:=H8 (Zf wq (.cells #[.int .i64 t.n,br aN] 65));obtain⟨gb,b0⟩:∃g,wq.heap.size=g:=⟨_,rfl⟩;have e1:=H8 (show w.heap.size<gb by rw[<-b0];exact ah a3.out);rw[b0] at a5 ⊢;have a3:=H8 (ai a3.out hb);have a2:=H8 (a2.out.trans (hb.mono a2.out.size));obtain⟨wn,a4⟩:∃x,wq.alloc (.cells #[.int .i64 t.n,br aN] 65)=x:=⟨_,rfl⟩;rw[a4] at a5 a3 a2 hb ⊢;obtain⟨wq,a1⟩:∃x,x=wn:=⟨_,rfl⟩;subst a1;refine hK.out _ _ (⟨Zg hb a0.1,Zg hb a0.2⟩) (fun a0=>?_);clear hK K
  try simp only[Act.put,jP,jQ,jR]
  refine tH 6 a0 ?_
  try simp only[Act.put,jP,jQ,jR]
  refine rH 7 fun K hK=>?_
  refine lH a3.out ?_;have hg:=aD wq w.heap.size #[.bool false,.string es,.int .i64 0];have a2:=H8 (a2.out.grown hg a2.out.size (fun g e=>by cases e;exact Zb _));(try have a5:=H8 (ay a5.out hg (fun e=>by injection e with e;have:=e1.out;omega)));have a3:=H8 (setRow_heap _ _ _ #[.bool false,.string es,.int .i64 0] _ _ a3.out);obtain⟨wn,a4⟩:∃x,wq.setRow w.heap.size #[.bool false,.string es,.int .i64 0]=x:=⟨_,rfl⟩;rw[a4] at a3 a2 hg ⊢;(try rw[a4] at a5);obtain⟨wq,a1⟩:∃x,x=wn:=⟨_,rfl⟩;subst a1;refine hK.out _ _ (⟨hg.cell a0.1 (fun e=>by injection e with e;have e:w1.heap.size=w.heap.size:=e;omega),hg.cell a0.2 (fun e=>by injection e with e;have e:19=w.heap.size:=e;omega)⟩) (fun a0=>?_);clear hK K
  try simp only[Act.put,jP,jQ,jR]
  refine tH 8 a0 ?_;refine tH 9 a0 ?_
  try simp only[Act.put,jP,jQ,jR]
  rotate_left
  refine lH a3.out ?_;have hg:=aD wq w.heap.size #[.bool false,.string es,.int .i64 0];have a2:=H8 (a2.out.grown hg a2.out.size (fun g e=>by cases e;exact Zb _));(try have a5:=H8 (ay a5.out hg (fun e=>by injection e with e;have:=e1.out;omega)));have a3:=H8 (setRow_heap _ _ _ #[.bool false,.string es,.int .i64 0] _ _ a3.out);obtain⟨wn,a4⟩:∃x,wq.setRow w.heap.size #[.bool false,.string es,.int .i64 0]=x:=⟨_,rfl⟩;rw[a4] at a3 a2 hg ⊢;(try rw[a4] at a5);obtain⟨wq,a1⟩:∃x,x=wn:=⟨_,rfl⟩;subst a1;refine hK.out _ _ (⟨hg.cell a0.1 (fun e=>by injection e with e;have e:w1.heap.size=w.heap.size:=e;omega),hg.cell a0.2 (fun e=>by injection e with e;have e:19=w.heap.size:=e;omega)⟩) (fun a0=>?_);clear hK K
  try simp only[Act.put,jP,jQ,jR]
  refine tH 8 a0 ?_
  try simp only[Act.put,jP,jQ,jR]
  refine rH 5 fun K hK=>?_
  go_simp;have hb:=ac wq (.cells #[.int .i64 t.n,br aN] 65);have a5:=H8 (Zf wq (.cells #[.int .i64 t.n,br aN] 65));obtain⟨gb,b0⟩:∃g,wq.heap.size=g:=⟨_,rfl⟩;have e1:=H8 (show w.heap.size<gb by rw[<-b0];exact ah a3.out);rw[b0] at a5 ⊢;have a3:=H8 (ai a3.out hb);have a2:=H8 (a2.out.trans (hb.mono a2.out.size));obtain⟨wn,a4⟩:∃x,wq.alloc (.cells #[.int .i64 t.n,br aN] 65)=x:=⟨_,rfl⟩;rw[a4] at a5 a3 a2 hb ⊢;obtain⟨wq,a1⟩:∃x,x=wn:=⟨_,rfl⟩;subst a1;refine hK.out _ _ (⟨Zg hb a0.1,Zg hb a0.2⟩) (fun a0=>?_);clear hK K
  try simp only[Act.put,jP,jQ,jR]
  refine tH 6 a0 ?_;refine tH 9 a0 ?_
  try simp only[Act.put,jP,jQ,jR]
  rotate_left
  all_goals
   refine wpAnyH_done (by kernel_rfl) (NoPanic.normal ?_) _;go_wp2_with fail;exact Zh (fB Tryz.results205 _ _ w.heap.size 320 _ _ _ (0,0) (by simp) a3.out) rfl ⟨a2.out,⟨_,rfl,gb,_,aN,rfl,a5.out⟩⟩
def my:List (List UInt8):= [[49,45,53,45,45,45,45,45,45,45,45,45,50,52,45,45], [52,52,52,52,52,52,52,52,52,52,50,45,45,45,45,45], [45,51,51,51,51,51,51,51,51,51,51,51,51,51,51,51], [51,51,51,51,51,51,51,51,51,51,51,50,45,50,45,45], [45,51,51,51,51,51,51,51,51,51,51,51,51,51,51,51], [51,51,51,51,51,51,51,51,51,51,51,50,45,50,45,45]]
def jS (w:World):Prop:= ∀i,i<6->w.cell? ⟨17,i,none⟩=some (.string ⟨(my.getD i []).toArray⟩)
theorem jS.below (h:jS w)(hb:Below w.heap.size w w'):jS w':=fun i hi=>Zg hb (h i hi)
theorem Bk (x:UInt8):(x.toNat=9\/x.toNat=10\/x.toNat=13->bL x=1)/\(¬ (x.toNat=9\/x.toNat=10\/x.toNat=13)->(x.toNat<32\/127<x.toNat)->bL x=0)/\(32<=x.toNat->x.toNat<=127->((bL x:Nat):Int)=max ((((my.getD (x.toNat/16 - 2) []).getD (x.toNat % 16) 0).toNat:Int) - 48) 0):=by
 have:=qn (p:=fun x=>decide ((x.toNat=9\/x.toNat=10\/x.toNat=13->bL x=1)/\(¬ (x.toNat=9\/x.toNat=10\/x.toNat=13)->(x.toNat<32\/127<x.toNat)->bL x=0)/\(32<=x.toNat->x.toNat<=127->((bL x:Nat):Int)=max ((((my.getD (x.toNat/16 - 2) []).getD (x.toNat % 16) 0).toNat:Int) - 48) 0))) (by decide +kernel) x;exact of_decide_eq_true this
theorem wL (R:List UInt8)(j:Nat)(h:j<R.length):R[j]?=some (R.getD j 0):=by simp[Zd h]
theorem C7:∀i,i<6->(my.getD i []).length=16:=by decide
theorem gi {k:IntKind}{s:ByteArray}{p:Nat}{x:UInt8}(hg:s.data.toList[p]?=some x)(w':World):(Instr.index 9 (.string s) (.int k (p:Int))).run Tryz.prog w' =.ok (.int .u8 x.toNat) w':=by
 have hlt:p<s.size:=by
  have h2:=(List.getElem?_eq_some_iff.1 hg).1;rw[Array.length_toList] at h2;exact h2
 rw[run_index_string w' 9 s k (p:Int) Tryz.underlying9,dif_pos ⟨Int.natCast_nonneg _,by omega⟩];have h3:s[((p:Nat):Int).toNat]'(by simpa using hlt)=x:=by
  simp only[Int.toNat_natCast];have h4:s.data[p]?=some x:=by rw[<-Array.getElem?_toList];exact hg
  exact(Array.getElem?_eq_some_iff.1 h4).2
 rw[h3]
theorem cN (x:UInt8)(hB:jS w):Calls Tryz.prog 187 #[.int .u8 x.toNat] w fun e w'=>e =.returned (.int .i64 (bL x:Nat))/\w=w':=by
 obtain⟨k1,k2,k3⟩:=Bk x;have hx:=x.toNat_lt;obtain⟨n,hn⟩:∃n,x.toNat=n:=⟨_,rfl⟩;rw[hn] at k1 k2 k3 hx ⊢;obtain⟨k,hk⟩:∃k,bL x=k:=⟨_,rfl⟩;rw[hk] at k1 k2 k3 ⊢;clear hn hk
 by_cases h1:n=9\/n=10\/n=13
 ·obtain rfl:=k1 h1;clear k1 k2 k3;go_enter Tryz.func187,Tryz.ntmps187;rcases h1 with rfl|rfl|rfl
  ·go_wp2;go_ret;exact⟨rfl,rfl⟩
  ·go_wp2;go_ret;exact⟨rfl,rfl⟩
  ·go_wp2;go_ret;exact⟨rfl,rfl⟩
 ·have e1:((n:Int)==9)=false:=by simp;omega
  have e2:((n:Int)==10)=false:=by simp;omega
  have e3:((n:Int)==13)=false:=by simp;omega
  by_cases h2:n<32\/127<n
  ·obtain rfl:=k2 h1 h2;clear k1 k2 k3 h1;go_enter Tryz.func187,Tryz.ntmps187;rcases h2 with h2|h2
   ·have a2:(n:Int)<32:=by omega
    go_wp2;go_ret;exact⟨rfl,rfl⟩
   ·have a2:¬ (n:Int)<32:=by omega
    have a3:(127:Int)<n:=by omega
    go_wp2;go_ret;exact⟨rfl,rfl⟩
  ·have k3:=k3 (by omega) (by omega);have hc:=hB (n/16 - 2) (by omega);have hl:=C7 (n/16 - 2) (by omega);obtain⟨v,hv⟩:∃v:UInt8,(my.getD (n/16 - 2) []).getD (n % 16) 0=v:=⟨_,rfl⟩;have a0:=fun w'=>gi (k:=.u8) (s:=⟨(my.getD (n/16 - 2) []).toArray⟩) (p:=n % 16) (x:=v) (by
    show(my.getD (n/16 - 2) [])[n % 16]?=some v
    rw[<-hv];exact wL _ _ (by rw[hl];omega)) w'
   rw[hv] at k3;have a1:=v.toNat_lt;obtain⟨z,hz⟩:∃z:Int,(v.toNat:Int)=z:=⟨_,rfl⟩;rw[hz] at k3 a0;have a5:0<=z:=by omega
   have a4:z<256:=by omega
   generalize (⟨(my.getD (n/16 - 2) []).toArray⟩:ByteArray)=row at *;obtain⟨q,hq⟩:∃q,n/16=q:=⟨_,rfl⟩;obtain⟨r,hr⟩:∃r,n % 16=r:=⟨_,rfl⟩;have d1:(n:Int)/16=q:=by omega
   have d2:(n:Int) % 16=r:=by omega
   have d1':Int.tdiv (n:Int) 16=q:=by rw[Int.tdiv_eq_ediv_of_nonneg (by omega)];exact d1
   have d2':Int.tmod (n:Int) 16=r:=by rw[Int.tmod_eq_emod_of_nonneg (by omega)];exact d2
   have d3:IntKind.u8.wrap ((q:Int) - 2)= ((q - 2:Nat):Int):=by simp[IntKind.wrap,IntKind.bits,IntKind.signed];omega
   have d4:((q:Int) - 2).toNat=q - 2:=by omega
   rw[hq] at hc;rw[hr] at a0;have n1:¬ (n:Int)<32:=by omega
   have n2:¬ (127:Int)<n:=by omega
   have n3:2<=(q:Int):=by omega
   have n4:(q:Int)<8:=by omega
   rw[k3];clear k1 k2 k3 h1 h2 hl hv hz hq hr hB a1;go_enter Tryz.func187,Tryz.ntmps187;go_wp2;go_ret;exact⟨rfl,rfl⟩
theorem iC (x:UInt8)(w:World):Calls Tryz.prog 201 #[.int .u8 x.toNat] w fun e w'=>e =.returned (.bool (cL x))/\w=w':=by
 have key:cL x= (decide (97<=bits .or .u8 (x.toNat:Int) 32)&&decide (bits .or .u8 (x.toNat:Int) 32<=122)):=by
  have h:∀n:Nat,n<256->cL (UInt8.ofNat n)= (decide (97<=bits .or .u8 (n:Int) 32)&&decide (bits .or .u8 (n:Int) 32<=122)):=by decide +kernel
  have:=h x.toNat x.toNat_lt
  rwa[UInt8.ofNat_toNat] at this
 rw[key];clear key;obtain⟨y,hy⟩:∃y:Int,bits .or .u8 (x.toNat:Int) 32=y:=⟨_,rfl⟩;rw[hy]
 by_cases h1:97<=y
 ·by_cases h2:y<=122
  ·rw[decide_eq_true h1,decide_eq_true h2];go_enter Tryz.func201,Tryz.ntmps201;go_wp2;go_ret;exact⟨rfl,rfl⟩
  ·rw[decide_eq_true h1,decide_eq_false h2];go_enter Tryz.func201,Tryz.ntmps201;go_wp2;go_ret;exact⟨rfl,rfl⟩
 ·rw[decide_eq_false h1];go_enter Tryz.func201,Tryz.ntmps201;go_wp2;go_ret;exact⟨rfl,rfl⟩
def Eo (l:List UInt8):Bool:=l == [110,117,108,108]||l == [116,114,117,101]||l == [102,97,108,115,101]
theorem j1 (l:List UInt8)(w:World):Calls Tryz.prog 202 #[.string ⟨l.toArray⟩] w fun e w'=>e =.returned (.bool (Eo l))/\w=w':=by
 have hl:(⟨l.toArray⟩:ByteArray).toList=l:=by rw[ByteArray.toList_eq]
 obtain⟨s,hs⟩:∃s:ByteArray,⟨l.toArray⟩=s:=⟨_,rfl⟩;rw[hs] at hl ⊢;unfold Eo;obtain⟨b1,h1⟩:∃b,(s.toList == [110,117,108,108])=b:=⟨_,rfl⟩;obtain⟨b2,h2⟩:∃b,(s.toList == [116,114,117,101])=b:=⟨_,rfl⟩;obtain⟨b3,h3⟩:∃b,(s.toList == [102,97,108,115,101])=b:=⟨_,rfl⟩;rw[<-hl,h1,h2,h3];clear hs hl;go_enter Tryz.func202,Tryz.ntmps202
 cases b1 <;> cases b2 <;> cases b3
 all_goals go_wp2
 all_goals (go_ret;exact⟨rfl,rfl⟩)
def fO (w:World)(e:Ending)(w':World):Prop:= ∃v,e =.panicked [{v:=v,recovered:=false}]/\EN w' v/\Below w.heap.size w w'
theorem oB (hb:Below w.drew.heap.size w.drew w'):Below w.heap.size w w':=⟨hb.os,hb.tape,hb.output,hb.size,hb.block⟩
theorem aW (p:Int)(a:Addr)(w:World):Calls Tryz.prog 231 #[.int .i64 p,br a] w (fO w):=by
 go_enter Tryz.func231,Tryz.ntmps231;go_wp2_with fail;exact⟨rfl,_,rfl,⟨_,_,a,rfl,Zf _ _⟩,ac _ _⟩
theorem AV (x:UInt8):e8 x=if 48<=(x.toNat:Int)/\(x.toNat:Int)<=57 then some (x.toNat - 48) else if 97<=(x.toNat:Int)/\(x.toNat:Int)<=102 then some (x.toNat - 87) else if 65<=(x.toNat:Int)/\(x.toNat:Int)<=70 then some (x.toNat - 55) else none:=by
 unfold e8
 congr 1
 ·simp only[eq_iff_iff];omega
 ·congr 1
  ·simp only[eq_iff_iff];omega
  ·congr 1
   simp only[eq_iff_iff];omega
def jx (r:Option Nat):Value:=match r with|some d=>.tuple #[.int .i64 d,.bool true]|none=>.tuple #[.int .i64 0,.bool false]
theorem cv (x:UInt8)(w:World):Calls Tryz.prog 264 #[.int .u8 x.toNat] w fun e w'=>e =.returned (jx (e8 x))/\w=w':=by
 have hx:=x.toNat_lt;rw[AV];obtain⟨n,hn⟩:∃n,x.toNat=n:=⟨_,rfl⟩;rw[hn] at hx ⊢;clear hn
 by_cases h1:48<=(n:Int)/\(n:Int)<=57
 ·rw[if_pos h1];obtain⟨h1,h2⟩:=h1;have e1:((n - 48:Nat):Int)= (n:Int) - 48:=by omega
  have e2:IntKind.u8.wrap ((n:Int) - 48)= (n:Int) - 48:=by simp[IntKind.wrap,IntKind.bits,IntKind.signed];omega
  unfold jx
  dsimp only
  rw[e1];clear e1;go_enter Tryz.func264,Tryz.ntmps264;go_wp2;go_ret2;exact⟨rfl,rfl⟩
 rw[if_neg h1];have g1:(decide (48<=(n:Int))&&decide ((n:Int)<=57))=false:=by simpa using h1
 by_cases h2:97<=(n:Int)/\(n:Int)<=102
 ·rw[if_pos h2];obtain⟨h2,h3⟩:=h2;have n1:(48:Int)<=n:=by omega
  have n2:¬ (n:Int)<=57:=by omega
  have e1:((n - 87:Nat):Int)= (n:Int) - 97+10:=by omega
  have e2:IntKind.u8.wrap ((n:Int) - 97)= (n:Int) - 97:=by simp[IntKind.wrap,IntKind.bits,IntKind.signed];omega
  unfold jx
  dsimp only
  rw[e1];clear e1 h1 g1;go_enter Tryz.func264,Tryz.ntmps264;go_wp2;go_ret2;exact⟨rfl,rfl⟩
 rw[if_neg h2]
 by_cases h3:65<=(n:Int)/\(n:Int)<=70
 ·rw[if_pos h3];obtain⟨h3,h4⟩:=h3;have n1:(48:Int)<=n:=by omega
  have n2:¬ (n:Int)<=57:=by omega
  have n3:¬ (97:Int)<=n:=by omega
  have e1:((n - 55:Nat):Int)= (n:Int) - 65+10:=by omega
  have e2:IntKind.u8.wrap ((n:Int) - 65)= (n:Int) - 65:=by simp[IntKind.wrap,IntKind.bits,IntKind.signed];omega
  unfold jx
  dsimp only
  rw[e1];clear e1 h1 g1 h2;go_enter Tryz.func264,Tryz.ntmps264;go_wp2;go_ret2;exact⟨rfl,rfl⟩
 rw[if_neg h3];unfold jx
 dsimp only
 clear g1;go_enter Tryz.func264,Tryz.ntmps264;go_wp2
 all_goals first|(exfalso;simp_all;done)|(exfalso;omega)|(go_ret2;exact⟨rfl,rfl⟩)
def ql (w:World)(g:Nat)(v:Value)(xs:List UInt8)(k:Nat):Prop:=w.heap[g]?=some (.cells #[v,.int .i64 k] 370 (0,0))/\Bs w v xs
theorem ql.below {k:Nat}(h:ql w g v xs k)(hb:Below w.heap.size w w'):ql w' g v xs k:=⟨ai h.1 hb,h.2.below hb⟩
def Fv (xs:List UInt8)(i:Nat)(w:World)(e:Ending)(w':World):Prop:=(i<xs.length/\e =.returned (.int .u8 (am xs i))/\w=w')\/(xs.length<=i/\fO w e w')
theorem ij {k:Nat}(h:ql w g v xs k)(hE:a7 w 8)(i:Nat):Calls Tryz.prog 242 #[.pointer (some ⟨g,0,none⟩),.int .i64 i] w (Fv xs i w):=by
 obtain⟨hg,hb⟩:=h;obtain⟨hm,A,cap,rfl,a4,a0⟩:=id hb;obtain⟨aE,a3⟩:=hE;have c0:=aa hg (j:=0) (u:=.slice A xs.length cap) rfl
 by_cases hi:i<xs.length
 ·obtain⟨b,o,rfl,a2⟩:=a0 (by omega);have c1:=a2 i hi;have a5:(i:Int)<xs.length:=by omega
  clear hg hb a0 a2;go_enter Tryz.func242,Tryz.ntmps242;go_wp2_with fail;go_ret;exact .inl ⟨hi,rfl,rfl⟩
 ·have a5:¬ (i:Int)<xs.length:=by omega
  have Hi:=H8 (show xs.length<=i by omega);clear hg hb a0 hi;go_enter Tryz.func242,Tryz.ntmps242;go_wp2_with fail;refine wp_region_held_drew (S:=fun w'=>w'.cell? ⟨g,0,none⟩=some (.slice A xs.length cap)/\w'.cell? ⟨8,0,none⟩=some (br aE)) (by kernel_rfl) (⟨c0,a3⟩) (fun a1=>?_);refine tH 0 a1 ?_;refine tH 1 a1 ?_;refine tH 2 a1 ?_;refine tH 3 a1 ?_;refine tH 4 a1 ?_;refine tH 5 a1 ?_
  try simp only[Act.put,jP,jQ,jR]
  refine rH 6 fun K hK=>?_
  go_simp;refine(aW _ aE _).mono ?_;rintro e w' ⟨v,rfl,hv,hb⟩;exact⟨rfl,.inr ⟨Hi.out,v,rfl,hv,oB hb⟩⟩
