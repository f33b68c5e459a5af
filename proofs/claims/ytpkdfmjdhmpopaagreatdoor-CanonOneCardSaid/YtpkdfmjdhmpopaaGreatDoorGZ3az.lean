import Derived.Test.YtpkdfmjdhmpopaaGreatDoorGZ3ay
set_option linter.unusedVariables false
set_option linter.unusedSimpArgs false
set_option maxHeartbeats 64000000
set_option maxRecDepth 100000
namespace Go.Proofs.YtpkdfmjdhmpopaaGreatDoor
open Go.RowKit Go.Shelf
variable {s : ByteArray} {xs : List UInt8} {g nd p : Nat} {v : Value} {w w' : World}
abbrev bH (a:Addr):Value:= .iface 406 (.pointer (some a))
def bu (w:World)(g:Nat):Prop:= ∃a,w.cell? ⟨g,0,none⟩=some (bH a)
theorem bu.below (h:bu w g)(hb:Below w.heap.size w w'):bu w' g:=by
 obtain⟨a,h⟩:=h;exact⟨a,Zf hb h⟩
def EQ (w:World)(v:Value):Prop:= ∃ (g:Nat) (p:Int) (a:Addr),v = .iface 235 (.pointer (some ⟨g,0,none⟩))/\w.heap[g]?=some (.cells #[.int .i64 p,bH a] 237 (0,0))
theorem EQ.below (h:EQ w v)(hb:Below w.heap.size w w'):EQ w' v:=by
 obtain⟨g,p,a,e,hg⟩:=h;exact⟨g,p,a,e,ai hg hb⟩
def Iw (d:Dc):Value:= .agg #[.bool d.neg, .string d.digits, .int .i64 d.exp]
def Fk (r:Option (Dc×Nat))(w:World)(e:Ending)(w':World):Prop:=Below w.heap.size w w'/\match r with
 | some p=>e = .returned (.tuple #[Iw p.1, .int .i64 p.2, .nilIface])
 | none=> ∃u v,e = .returned (.tuple #[u, .int .i64 0,v])/\EQ w' v
theorem BA:∀ (t:NS),t.part<=t.n->t.digs.length<=t.n->t.exps.length<=t.n->(∀c∈t.exps,eN c=true)->t.n+xs.length<=1000000000->
  (aI t xs).part<=1000000000/\(aI t xs).digs.length<=1000000000/\(aI t xs).exps.length<=1000000000/\(aI t xs).n<=1000000000/\∀c∈(aI t xs).exps,eN c=true:=by
 induction xs with
 | nil=>intro t h1 h2 h3 h4 h5;simp at h5;unfold aI;exact⟨by omega,by omega,by omega,by omega,h4⟩
 | cons c xs ih=>
  intro t h1 h2 h3 h4 h5;simp only [List.length_cons] at h5;unfold aI
  split
  ·exact⟨by omega,by omega,by omega,by omega,h4⟩
  ·rename_i h9
   refine ih (t.next c) ?_ ?_ ?_ ?_ ?_
   ·simp only [NS.next];split <;> omega
   ·simp only [NS.next];split
    ·simp;omega
    ·omega
   ·simp only [NS.next];split
    ·simp;omega
    ·omega
   ·simp only [NS.next];split
    ·rename_i h8
     intro a ha;rcases List.mem_append.1 ha with ha | ha
     ·exact h4 a ha
     ·rw [List.mem_singleton.1 ha]
      -- state 8 is reached by digits alone
      have key:∀s,s<9->∀k,k<7->eG s k=8->k=2\/k=3:=by decide +kernel
      have h7:eG t.st (bw c)=8->bw c=2\/bw c=3:=by
       intro h
       by_cases hs:t.st<9
       ·exact key _ hs _ (by have:=tA c;omega) h
       ·exfalso
        unfold eG at h
        split at h
        ·rw [List.getD_eq_getElem?_getD,List.getElem?_eq_none (by show nB.length<=_;simp [nB];omega)] at h
         simp at h
        ·omega
      have hk:=h7 h8;have:=rG (p:=fun c=> !(bw c==2||bw c==3)||eN c) (by decide +kernel) c;rcases hk with hk | hk <;> simpa [hk] using this
    ·exact h4
   ·simp only [NS.next];omega
def Ix (r:Option Dc)(a:Bool)(b:ByteArray)(c:Int)(ok:Bool):Prop:=match r with | some d=>ok=true/\a=d.neg/\b=d.digits/\c=d.exp | none=>ok=false
theorem GW.form {r:Option Dc}(h:GW r v):∃a b c ok,v = .tuple #[.agg #[.bool a, .string b, .int .i64 c], .bool ok]/\Ix r a b c ok:=by
 cases r with
 | none=>obtain⟨a,b,c,rfl⟩:=h;exact⟨a,b,c,false,rfl,rfl⟩
 | some d=>obtain rfl:=h;exact⟨_,_,_,true,rfl,rfl,rfl,rfl,rfl⟩
def IM (r:Option Dc)(w3:World)(s6 s7:Value)(wx:World):Prop:= ∃gz a b c ok,s6 = .pointer (some ⟨gz,0,none⟩)/\s7 = .bool ok/\wx.heap[gz]?=some (.cells #[.bool a, .string b, .int .i64 c] 48 (0,0))/\Below w3.heap.size w3 wx/\Ix r a b c ok/\w3.heap.size<=gz
def SP (g:Nat)(t:NS)(Ad:Option Addr)(nd qd:Nat)(Ae:Option Addr)(ne qe:Nat)(w':World):Prop:=w'.cell? ⟨g,0,none⟩=some (.bool t.neg)/\w'.cell? ⟨g,1,none⟩=some (.bool t.down)/\w'.cell? ⟨g,2,none⟩=some (.slice Ad nd qd)/\w'.cell? ⟨g,3,none⟩=some (.int .i64 t.part)/\w'.cell? ⟨g,4,none⟩=some (.slice Ae ne qe)/\w'.cell? ⟨g,5,none⟩=some (.int .i64 t.st)/\w'.cell? ⟨g,6,none⟩=some (.int .i64 t.n)/\
 (convert 22 9 (.slice Ad nd qd)).run Tryz.prog w' = .ok (.string ⟨t.digs.toArray⟩) w'/\Bs w' (.slice Ad nd qd) t.digs
theorem SP.below {t:NS}{Ad:Option Addr}{qd:Nat}{Ae:Option Addr}{ne qe:Nat}(h:SP g t Ad nd qd Ae ne qe w)(hb:Below w.heap.size w w'):SP g t Ad nd qd Ae ne qe w':=by
 obtain⟨h0,h1,h2,h3,h4,h5,h6, -,h8⟩:=h;exact⟨Zf hb h0,Zf hb h1,Zf hb h2,Zf hb h3,Zf hb h4,Zf hb h5,Zf hb h6,aF (h8.below hb),h8.below hb⟩
theorem qz (hb:Bs w v xs)(hl:xs.length<=1000000000)(hG:ow w)(hN:bu w 12)(hX:bu w 13):Calls Tryz.prog 182 #[v] w (Fk (m8 xs) w):=by
 have d9:=ac w (.cells #[.bool false, .string es, .int .i64 0] 48);have h0:=Ze w (.cells #[.bool false, .string es, .int .i64 0] 48);have f8:=Qa (td (hb.below d9) hl (hG.below d9));have i0:12<w.heap.size:=by obtain⟨a,h⟩:=hN;exact World.block_lt_of_cell? w _ h
 have h6:13<w.heap.size:=by obtain⟨a,h⟩:=hX;exact World.block_lt_of_cell? w _ h
 have g0:=hN.below d9;have f3:=hX.below d9;have hnum:m8 xs=if d7 (aI iq xs).st then(ix (aI iq xs).neg (aI iq xs).digs (fR (aI iq xs)) (-((aI iq xs).part:Int))).map fun d=>(d,(aI iq xs).n) else none:=rfl
 obtain⟨b1,b2,b3,b4,b5⟩:=BA (xs:=xs) iq (Za _) (Za _) (Za _) (by simp [iq]) (by show 0+xs.length<=_;omega);rw [hnum];clear hb hG hN hX hnum;generalize aI iq xs=t at *;have B5:=Qa b5;have h7:=DB b5;have H0:=Qa h0;have f0:=Qa d9;have HN:=Qa g0;have HX:=Qa f3;clear b5 h0 d9 g0 f3;go_enter Tryz.func182,Tryz.ntmps182;go_wp2_with fail;generalize w.alloc (.cells #[.bool false, .string es, .int .i64 0] 48)=w0 at *;(with_reducible refine f8.out.mono ?_);rintro e w1 ⟨vd,ve,rfl,b8,hd,he⟩;obtain⟨Ad,nd,qd,rfl⟩:∃A n q,vd = .slice A n q:=by obtain⟨A,c,e,_⟩:=ag hd;exact⟨A,_,c,e⟩
 obtain⟨Ae,ne,qe,rfl⟩:∃A n q,ve = .slice A n q:=by obtain⟨A,c,e,_⟩:=ag he;exact⟨A,_,c,e⟩
 have hz:=Ze w1 E3;have g1:=ah (w1.alloc E3) w1.heap.size #[.bool t.neg, .bool t.down, .slice Ad nd qd, .int .i64 t.part, .slice Ae ne qe, .int .i64 t.st, .int .i64 t.n];have a9:Below w1.heap.size w1 ((w1.alloc E3).setRow w1.heap.size #[.bool t.neg, .bool t.down, .slice Ad nd qd, .int .i64 t.part, .slice Ae ne qe, .int .i64 t.st, .int .i64 t.n]):=(ac w1 E3).grown g1 (by simp) (fun g e=>by cases e;exact Za _);have ht:=setRow_heap (w1.alloc E3) w1.heap.size _ #[.bool t.neg, .bool t.down, .slice Ad nd qd, .int .i64 t.part, .slice Ae ne qe, .int .i64 t.st, .int .i64 t.n] _ _ hz;have e1:=Qa (f0.out.trans ((b8.trans (a9.mono b8.size)).mono f0.out.size));have f2:=Qa (ai (ai H0.out b8) a9);have f9:=Qa ((HN.out.below b8).below a9);have f4:=Qa ((HX.out.below b8).below a9);have Hd:=Qa (hd.bs.below a9);have He:=Qa (he.bs.below a9);have Ht:=Qa ht;have h9:w.heap.size<w1.heap.size:=Nat.lt_of_lt_of_le (ae H0.out) b8.size;have h8:=a9.size;clear f8 b8 hd he a9 ht f0 H0 HN HX g1;have f6: (w1.alloc (.cells #[.bool false, .bool false, .slice none 0 0, .int .i64 0, .slice none 0 0, .int .i64 0, .int .i64 0] 346)).heap[w1.heap.size]?=some (.cells #[.bool false, .bool false, .slice none 0 0, .int .i64 0, .slice none 0 0, .int .i64 0, .int .i64 0] 346):=hz;clear hz;go_upto_region 2 with (refine wpList_store_rowTo rfl 346 (.tmp 5) (.tmp 9) rfl rfl w1.heap.size #[.bool t.neg, .bool t.down, .slice Ad nd qd, .int .i64 t.part, .slice Ae ne qe, .int .i64 t.st, .int .i64 t.n] (by simp [Act.eval]) (by simp [Act.eval]) 346 _ f6 ke rfl (p5 _ _ _ _ _ _ _ _ _ _ _) ?_)
 unfold E3 at *;generalize (w1.alloc (.cells #[.bool false, .bool false, .slice none 0 0, .int .i64 0, .slice none 0 0, .int .i64 0, .int .i64 0] 346)).setRow w1.heap.size #[.bool t.neg, .bool t.down, .slice Ad nd qd, .int .i64 t.part, .slice Ae ne qe, .int .i64 t.st, .int .i64 t.n]=w2 at *;clear f6;have c0:=aa Ht.out (j:=0) (u:= .bool t.neg) rfl;have c1:=aa Ht.out (j:=1) (u:= .bool t.down) rfl;have c2:=aa Ht.out (j:=2) (u:= .slice Ad nd qd) rfl;have c3:=aa Ht.out (j:=3) (u:= .int .i64 t.part) rfl;have c4:=aa Ht.out (j:=4) (u:= .slice Ae ne qe) rfl;have c5:=aa Ht.out (j:=5) (u:= .int .i64 t.st) rfl;have c6:=aa Ht.out (j:=6) (u:= .int .i64 t.n) rfl
 by_cases hw:d7 t.st=true
 ·go_wp2_with fail
  refine(pL t (.slice Ad nd qd) (.slice Ae ne qe) w2).mono ?_;rintro e w3 ⟨rfl,a5⟩;rw [hw];have H3:=Qa (ai Ht.out a5);have c8:=Qa (e1.out.trans (a5.mono e1.out.size));have c9:=Qa (ai f2.out a5);have g4:=Qa (f4.out.below a5);have e5:=Qa (Hd.out.below a5);have f1:=Qa (He.out.below a5);have d0:=aa H3.out (j:=0) (u:= .bool t.neg) rfl;have d1:=aa H3.out (j:=1) (u:= .bool t.down) rfl;have d2:=aa H3.out (j:=2) (u:= .slice Ad nd qd) rfl;have d3:=aa H3.out (j:=3) (u:= .int .i64 t.part) rfl;have d4:=aa H3.out (j:=4) (u:= .slice Ae ne qe) rfl;have d5:=aa H3.out (j:=5) (u:= .int .i64 t.st) rfl;have d6:=aa H3.out (j:=6) (u:= .int .i64 t.n) rfl;have h3:=a5.size;clear a5 c0 c1 c2 c3 c4 c5 c6 Hd He f4 f9 f2 e1 Ht;go_wp2_with fail;have h5:w.heap.size<w3.heap.size:=ae c9.out;have swn:IntKind.i64.wrap (-(t.part:Int)) = -(t.part:Int):=IntWalk.i64_in _ (by omega);go_cut [6,7] (fun s6 s7 wx=>IM (ix t.neg t.digs (fR t) (-(t.part:Int))) w3 s6 s7 wx)
  case first=>
   obtain⟨wq,hwq⟩:∃wq,w3.drew=wq:=⟨_,rfl⟩;have Hq:Hid (Below w3.heap.size w3 wq):=Qa (by rw [<- hwq];exact(Zd _ _).drew);have SP3:Hid (SP w1.heap.size t Ad nd qd Ae ne qe w3):=Qa ⟨d0,d1,d2,d3,d4,d5,d6,aF e5.out,e5.out⟩;refine aW (fun w'=>w'.cell? ⟨w1.heap.size,0,none⟩=some (.bool t.neg)/\w'.cell? ⟨w1.heap.size,1,none⟩=some (.bool t.down)/\w'.cell? ⟨w1.heap.size,2,none⟩=some (.slice Ad nd qd)/\w'.cell? ⟨w1.heap.size,3,none⟩=some (.int .i64 t.part)/\w'.cell? ⟨w1.heap.size,4,none⟩=some (.slice Ae ne qe)/\w'.cell? ⟨w1.heap.size,5,none⟩=some (.int .i64 t.st)/\w'.cell? ⟨w1.heap.size,6,none⟩=some (.int .i64 t.n)/\(convert 22 9 (.slice Ad nd qd)).run Tryz.prog w' = .ok (.string ⟨t.digs.toArray⟩) w'/\Bs w' (.slice Ad nd qd) t.digs) ((by rw [hwq];exact(SP.below SP3.out Hq.out:SP w1.heap.size t Ad nd qd Ae ne qe wq))) fun a0=> ?_
   rw [hwq] at a0 ⊢;clear hwq;refine tH 0 a0 ?_;refine tH 1 a0 ?_;refine tH 2 a0 ?_;refine tH 3 a0 ?_;refine tH 4 a0 ?_;refine tH 5 a0 ?_
   try simp only [Act.put,jP,jQ,jR]
   refine tH 7 a0 ?_;refine tH 8 a0 ?_;refine tH 9 a0 ?_
   try simp only [Act.put,jP,jQ,jR]
   refine wpAnyH_ready (rs:= [6,14]) (by kernel_rfl) (by simp) ?_;refine AllReadyH.cons (ou rfl) (fun K hK=> ?_) (AllReadyH.cons (ou rfl) (fun K hK=> ?_) AllReadyH.nil);go_simp;refine(pi t (.slice Ad nd qd) (.slice Ae ne qe) (f1.out.below Hq.out) B5.out b3).mono ?_;rintro e wn ⟨rfl,hb⟩;have Hq:=Qa (bo Hq.out hb);(try have Hzq:=Qa (ai Hzq.out hb));obtain⟨wq,hwq⟩:∃x,x=wn:=⟨_,rfl⟩;subst hwq;refine hK.out _ _ ((SP.below SP3.out Hq.out:SP w1.heap.size t Ad nd qd Ae ne qe _)) (fun a0=> ?_);clear hK K
   try simp only [Act.put,jP,jQ,jR]
   refine wpAnyH_ready (rs:= [10,14]) (by kernel_rfl) (by simp) ?_;refine AllReadyH.cons (ou rfl) (fun K hK=> ?_) (AllReadyH.cons (ou rfl) (fun K hK=> ?_) AllReadyH.nil);go_simp;(try rw [swn]);(with_reducible refine(i1 t.neg t.digs (fR t) (-(t.part:Int)) b2 (by omega) (by omega) wq).mono ?_);rintro e wn ⟨vN,rfl,b7,hb⟩;obtain⟨a,b,c,ok,rfl,b6⟩:=b7.form;have Hvr:=Qa b6;clear b6 b7;have Hq:=Qa (bo Hq.out hb);(try have Hzq:=Qa (ai Hzq.out hb));obtain⟨wq,hwq⟩:∃x,x=wn:=⟨_,rfl⟩;subst hwq;refine hK.out _ _ ((SP.below SP3.out Hq.out:SP w1.heap.size t Ad nd qd Ae ne qe _)) (fun a0=> ?_);clear hK K
   try simp only [Act.put,jP,jQ,jR]
   refine tH 11 a0 ?_;refine tH 12 a0 ?_;refine tH 13 a0 ?_
   try simp only [Act.put,jP,jQ,jR]
   refine rH 14 fun K hK=> ?_
   go_simp;have hb:=ac wq (.cells #[.bool false, .string es, .int .i64 0] 48);have a6:=Ze wq (.cells #[.bool false, .string es, .int .i64 0] 48);obtain⟨gz,b0⟩:∃g,wq.heap.size=g:=⟨_,rfl⟩;have Hgz:=Qa (show w3.heap.size<=gz by rw [<- b0];exact Hq.out.size);rw [b0] at a6 ⊢;have Hzq:=Qa a6;have Hq:=Qa (bo Hq.out hb);obtain⟨wn,a3⟩:∃x,wq.alloc (.cells #[.bool false, .string es, .int .i64 0] 48)=x:=⟨_,rfl⟩;rw [a3] at Hzq Hq hb ⊢;clear a6;obtain⟨wq,hwq⟩:∃x,x=wn:=⟨_,rfl⟩;subst hwq;refine hK.out _ _ ((SP.below SP3.out Hq.out:SP w1.heap.size t Ad nd qd Ae ne qe _)) (fun a0=> ?_);clear hK K
   try simp only [Act.put,jP,jQ,jR]
   rotate_left
   go_simp;have hb:=ac wq (.cells #[.bool false, .string es, .int .i64 0] 48);have a6:=Ze wq (.cells #[.bool false, .string es, .int .i64 0] 48);obtain⟨gz,b0⟩:∃g,wq.heap.size=g:=⟨_,rfl⟩;have Hgz:=Qa (show w3.heap.size<=gz by rw [<- b0];exact Hq.out.size);rw [b0] at a6 ⊢;have Hzq:=Qa a6;have Hq:=Qa (bo Hq.out hb);obtain⟨wn,a3⟩:∃x,wq.alloc (.cells #[.bool false, .string es, .int .i64 0] 48)=x:=⟨_,rfl⟩;rw [a3] at Hzq Hq hb ⊢;clear a6;obtain⟨wq,hwq⟩:∃x,x=wn:=⟨_,rfl⟩;subst hwq;refine hK.out _ _ ((SP.below SP3.out Hq.out:SP w1.heap.size t Ad nd qd Ae ne qe _)) (fun a0=> ?_);clear hK K
   try simp only [Act.put,jP,jQ,jR]
   refine rH 10 fun K hK=> ?_
   go_simp;(try rw [swn]);(with_reducible refine(i1 t.neg t.digs (fR t) (-(t.part:Int)) b2 (by omega) (by omega) wq).mono ?_);rintro e wn ⟨vN,rfl,b7,hb⟩;obtain⟨a,b,c,ok,rfl,b6⟩:=b7.form;have Hvr:=Qa b6;clear b6 b7;have Hq:=Qa (bo Hq.out hb);(try have Hzq:=Qa (ai Hzq.out hb));obtain⟨wq,hwq⟩:∃x,x=wn:=⟨_,rfl⟩;subst hwq;refine hK.out _ _ ((SP.below SP3.out Hq.out:SP w1.heap.size t Ad nd qd Ae ne qe _)) (fun a0=> ?_);clear hK K
   try simp only [Act.put,jP,jQ,jR]
   refine tH 11 a0 ?_;refine tH 12 a0 ?_;refine tH 13 a0 ?_
   try simp only [Act.put,jP,jQ,jR]
   rotate_left
   go_simp;have hb:=ac wq (.cells #[.bool false, .string es, .int .i64 0] 48);have a6:=Ze wq (.cells #[.bool false, .string es, .int .i64 0] 48);obtain⟨gz,b0⟩:∃g,wq.heap.size=g:=⟨_,rfl⟩;have Hgz:=Qa (show w3.heap.size<=gz by rw [<- b0];exact Hq.out.size);rw [b0] at a6 ⊢;have Hzq:=Qa a6;have Hq:=Qa (bo Hq.out hb);obtain⟨wn,a3⟩:∃x,wq.alloc (.cells #[.bool false, .string es, .int .i64 0] 48)=x:=⟨_,rfl⟩;rw [a3] at Hzq Hq hb ⊢;clear a6;obtain⟨wq,hwq⟩:∃x,x=wn:=⟨_,rfl⟩;subst hwq;refine hK.out _ _ ((SP.below SP3.out Hq.out:SP w1.heap.size t Ad nd qd Ae ne qe _)) (fun a0=> ?_);clear hK K
   try simp only [Act.put,jP,jQ,jR]
   refine rH 6 fun K hK=> ?_
   go_simp;refine(pi t (.slice Ad nd qd) (.slice Ae ne qe) (f1.out.below Hq.out) B5.out b3).mono ?_;rintro e wn ⟨rfl,hb⟩;have Hq:=Qa (bo Hq.out hb);(try have Hzq:=Qa (ai Hzq.out hb));obtain⟨wq,hwq⟩:∃x,x=wn:=⟨_,rfl⟩;subst hwq;refine hK.out _ _ ((SP.below SP3.out Hq.out:SP w1.heap.size t Ad nd qd Ae ne qe _)) (fun a0=> ?_);clear hK K
   try simp only [Act.put,jP,jQ,jR]
   refine rH 10 fun K hK=> ?_
   go_simp;(try rw [swn]);(with_reducible refine(i1 t.neg t.digs (fR t) (-(t.part:Int)) b2 (by omega) (by omega) wq).mono ?_);rintro e wn ⟨vN,rfl,b7,hb⟩;obtain⟨a,b,c,ok,rfl,b6⟩:=b7.form;have Hvr:=Qa b6;clear b6 b7;have Hq:=Qa (bo Hq.out hb);(try have Hzq:=Qa (ai Hzq.out hb));obtain⟨wq,hwq⟩:∃x,x=wn:=⟨_,rfl⟩;subst hwq;refine hK.out _ _ ((SP.below SP3.out Hq.out:SP w1.heap.size t Ad nd qd Ae ne qe _)) (fun a0=> ?_);clear hK K
   try simp only [Act.put,jP,jQ,jR]
   refine tH 11 a0 ?_;refine tH 12 a0 ?_;refine tH 13 a0 ?_
   try simp only [Act.put,jP,jQ,jR]
   rotate_left
   all_goals
    refine rH 15 fun K hK=> ?_
    refine aq rfl 48 (.tmp 6) (.tmp 32) rfl gz #[.bool a, .string b, .int .i64 c] (by simp [Act.eval]) (by simp [Act.eval]) 48 _ Hzq.out eX rfl (gp _ _ _) ?_;have Hq:=Qa (Hq.out.grown (ah wq gz #[.bool a, .string b, .int .i64 c]) Hq.out.size (fun g e=>by cases e;exact Hgz.out));have Hzq:=Qa (setRow_heap _ _ _ #[.bool a, .string b, .int .i64 c] _ _ Hzq.out);obtain⟨wn,a3⟩:∃x,wq.setRow gz #[.bool a, .string b, .int .i64 c]=x:=⟨_,rfl⟩;rw [a3] at Hzq Hq ⊢;obtain⟨wq,hwq⟩:∃x,x=wn:=⟨_,rfl⟩;subst hwq;refine hK.out _ _ ((SP.below SP3.out Hq.out:SP w1.heap.size t Ad nd qd Ae ne qe _)) (fun a0=> ?_);clear hK K
    try simp only [Act.put,jP,jQ,jR]
    refine tH 16 a0 ?_
    try simp only [Act.put,jP,jQ,jR]
    refine wpAnyH_done (by kernel_rfl) (NoPanic.normal ?_) _;go_wp2_with fail;go_meet
    case rel=>exact⟨gz,a,b,c,ok,rfl,rfl,Hzq.out,Hq.out,Hvr.out,Hgz.out⟩
  case rest=>
   obtain⟨gz,a,b,c,ok,rfl,rfl,hz,hq,g2,g6⟩:=hcut;have g3:=Qa g2;have e6:=Zf hq d6;have e3:=Qa (ai c9.out hq);have e2:=Qa (c8.out.trans (hq.mono c8.out.size));have g9:=Qa (g4.out.below hq);have z0:=aa hz (j:=0) (u:= .bool a) rfl;have z1:=aa hz (j:=1) (u:= .string b) rfl;have z2:=aa hz (j:=2) (u:= .int .i64 c) rfl;have e4:w.heap.size<gz:=by omega
   clear hz hq g2 d0 d1 d2 d3 d4 d5 d6 e5 f1 H3 c9 c8 g4;obtain⟨aX,g7⟩:=g9.out
   cases ok with
   | true=>
    have e8:=Qa ((e2.out.drew).grown (ah wc.drew w.heap.size #[.bool a, .string b, .int .i64 c]) e2.out.size (fun g e=>by cases e;exact Za _));have c7:gz≠w.heap.size:=fun e=>by subst e;exact absurd e4 (Nat.lt_irrefl _)
    go_wp2_with fail;refine aW (fun w'=>w'.cell? ⟨gz,0,none⟩=some (.bool a)/\w'.cell? ⟨gz,1,none⟩=some (.string b)/\w'.cell? ⟨gz,2,none⟩=some (.int .i64 c)/\w'.cell? ⟨w1.heap.size,6,none⟩=some (.int .i64 t.n)) (⟨z0,z1,z2,e6⟩) fun a0=> ?_
    refine tH 0 a0 ?_;refine tH 1 a0 ?_;refine tH 2 a0 ?_
    try simp only [Act.put,jP,jQ,jR]
    refine rH 3 fun K hK=> ?_
    refine aq rfl 48 (.tmp 2) (.tmp 41) rfl w.heap.size #[.bool a, .string b, .int .i64 c] (by simp [Act.eval]) (by simp [Act.eval]) 48 _ e3.out eX rfl (gp _ _ _) ?_;have hg:=ah wc.drew w.heap.size #[.bool a, .string b, .int .i64 c];refine hK.out _ _ (⟨hg.cell a0.1 (fun e=>by injection e with e;exact c7 e),hg.cell a0.2.1 (fun e=>by injection e with e;exact c7 e),hg.cell a0.2.2.1 (fun e=>by injection e with e;exact c7 e),hg.cell a0.2.2.2 (fun e=>by injection e with e;have e:w1.heap.size=w.heap.size:=e;omega)⟩) (fun a0=> ?_);clear hK K
    try simp only [Act.put,jP,jQ,jR]
    refine tH 4 a0 ?_;refine tH 5 a0 ?_
    try simp only [Act.put,jP,jQ,jR]
    refine wpAnyH_done (by kernel_rfl) (NoPanic.normal ?_) _;go_wp2_with fail;have hd:=g3.out;have e0:Fk ((ix t.neg t.digs (fR t) (-(t.part:Int))).map fun d=>(d,t.n)) w (.returned (.tuple #[.agg #[.bool a, .string b, .int .i64 c], .int .i64 t.n, .nilIface])) (wc.drew.setRow w.heap.size #[.bool a, .string b, .int .i64 c]):=by
     refine⟨e8.out, ?_⟩
     cases hr:ix t.neg t.digs (fR t) (-(t.part:Int)) with
     | none=>rw [hr] at hd;cases hd
     | some d=>rw [hr] at hd;obtain⟨-,rfl,rfl,rfl⟩:=hd;rfl
    exact Zg (iO Tryz.results182 _ _ w.heap.size 48 _ _ _ (0,0) (by simp) (setRow_heap _ _ _ _ _ _ e3.out)) rfl e0
   | false=>
    have f5:∀u v w',Below w.heap.size w w'->EQ w' v->Fk ((ix t.neg t.digs (fR t) (-(t.part:Int))).map fun d=>(d,t.n)) w (.returned (.tuple #[u, .int .i64 0,v])) w':=by
     intro u v w' h1 h2;have hd:=g3.out;refine⟨h1, ?_⟩
     cases hr:ix t.neg t.digs (fR t) (-(t.part:Int)) with
     | some d=>rw [hr] at hd;cases hd.1
     | none=>exact⟨u,v,rfl,h2⟩
    have h4:=Qa f5;clear f5;go_wp2_with fail;obtain⟨wq,hwq⟩:∃wq,wc.drew=wq:=⟨_,rfl⟩;have a1:Hid (wq.heap[w.heap.size]?=some (.cells #[.bool false, .string es, .int .i64 0] 48 (0,0))):=Qa (by rw [<- hwq];exact e3.out);have a2:=Qa (show Below w.heap.size w wq by rw [<- hwq];exact e2.out.drew);clear e3 e2 z0 z1 z2 e6;refine aW (fun w'=>w'.cell? ⟨13,0,none⟩=some (bH aX)) (g7) fun a0=> ?_
    rw [hwq] at a0 ⊢;clear hwq;refine tH 0 a0 ?_;refine tH 1 a0 ?_;refine tH 2 a0 ?_
    try simp only [Act.put,jP,jQ,jR]
    refine wpAnyH_ready (rs:= [3,5]) (by kernel_rfl) (by simp) ?_;refine AllReadyH.cons (ou rfl) (fun K hK=> ?_) (AllReadyH.cons (ou rfl) (fun K hK=> ?_) AllReadyH.nil);go_simp;have hb:=ac wq (.cells #[.int .i64 0,bH aX] 237);have a4:=Qa (Ze wq (.cells #[.int .i64 0,bH aX] 237));obtain⟨gb,a7⟩:∃g,wq.heap.size=g:=⟨_,rfl⟩;have b9:=Qa (show w.heap.size<gb by rw [<- a7];exact ae a1.out);rw [a7] at a4 ⊢;have a1:=Qa (ai a1.out hb);have a2:=Qa (a2.out.trans (hb.mono a2.out.size));obtain⟨wn,a3⟩:∃x,wq.alloc (.cells #[.int .i64 0,bH aX] 237)=x:=⟨_,rfl⟩;rw [a3] at a4 a1 a2 hb ⊢;obtain⟨wq,hwq⟩:∃x,x=wn:=⟨_,rfl⟩;subst hwq;refine hK.out _ _ (Zf hb a0) (fun a0=> ?_);clear hK K
    try simp only [Act.put,jP,jQ,jR]
    refine tH 4 a0 ?_
    try simp only [Act.put,jP,jQ,jR]
    refine rH 5 fun K hK=> ?_
    refine aq rfl 48 (.tmp 2) (.tmp 36) rfl w.heap.size #[.bool false, .string es, .int .i64 0] (by simp [Act.eval]) (by simp [Act.eval]) 48 _ a1.out eX rfl (gp _ _ _) ?_;have hg:=ah wq w.heap.size #[.bool false, .string es, .int .i64 0];have a2:=Qa (a2.out.grown hg a2.out.size (fun g e=>by cases e;exact Za _));(try have a4:=Qa (aJ a4.out hg (fun e=>by injection e with e;have:=b9.out;omega)));have a1:=Qa (setRow_heap _ _ _ #[.bool false, .string es, .int .i64 0] _ _ a1.out);obtain⟨wn,a3⟩:∃x,wq.setRow w.heap.size #[.bool false, .string es, .int .i64 0]=x:=⟨_,rfl⟩;rw [a3] at a1 a2 hg ⊢;(try rw [a3] at a4);obtain⟨wq,hwq⟩:∃x,x=wn:=⟨_,rfl⟩;subst hwq;refine hK.out _ _ (hg.cell a0 (fun e=>by injection e with e;have e:13=w.heap.size:=e;omega)) (fun a0=> ?_);clear hK K
    try simp only [Act.put,jP,jQ,jR]
    refine tH 6 a0 ?_;refine tH 7 a0 ?_
    try simp only [Act.put,jP,jQ,jR]
    rotate_left
    refine aq rfl 48 (.tmp 2) (.tmp 36) rfl w.heap.size #[.bool false, .string es, .int .i64 0] (by simp [Act.eval]) (by simp [Act.eval]) 48 _ a1.out eX rfl (gp _ _ _) ?_;have hg:=ah wq w.heap.size #[.bool false, .string es, .int .i64 0];have a2:=Qa (a2.out.grown hg a2.out.size (fun g e=>by cases e;exact Za _));(try have a4:=Qa (aJ a4.out hg (fun e=>by injection e with e;have:=b9.out;omega)));have a1:=Qa (setRow_heap _ _ _ #[.bool false, .string es, .int .i64 0] _ _ a1.out);obtain⟨wn,a3⟩:∃x,wq.setRow w.heap.size #[.bool false, .string es, .int .i64 0]=x:=⟨_,rfl⟩;rw [a3] at a1 a2 hg ⊢;(try rw [a3] at a4);obtain⟨wq,hwq⟩:∃x,x=wn:=⟨_,rfl⟩;subst hwq;refine hK.out _ _ (hg.cell a0 (fun e=>by injection e with e;have e:13=w.heap.size:=e;omega)) (fun a0=> ?_);clear hK K
    try simp only [Act.put,jP,jQ,jR]
    refine tH 6 a0 ?_
    try simp only [Act.put,jP,jQ,jR]
    refine rH 3 fun K hK=> ?_
    go_simp;have hb:=ac wq (.cells #[.int .i64 0,bH aX] 237);have a4:=Qa (Ze wq (.cells #[.int .i64 0,bH aX] 237));obtain⟨gb,a7⟩:∃g,wq.heap.size=g:=⟨_,rfl⟩;have b9:=Qa (show w.heap.size<gb by rw [<- a7];exact ae a1.out);rw [a7] at a4 ⊢;have a1:=Qa (ai a1.out hb);have a2:=Qa (a2.out.trans (hb.mono a2.out.size));obtain⟨wn,a3⟩:∃x,wq.alloc (.cells #[.int .i64 0,bH aX] 237)=x:=⟨_,rfl⟩;rw [a3] at a4 a1 a2 hb ⊢;obtain⟨wq,hwq⟩:∃x,x=wn:=⟨_,rfl⟩;subst hwq;refine hK.out _ _ (Zf hb a0) (fun a0=> ?_);clear hK K
    try simp only [Act.put,jP,jQ,jR]
    refine tH 4 a0 ?_;refine tH 7 a0 ?_
    try simp only [Act.put,jP,jQ,jR]
    rotate_left
    all_goals
     refine wpAnyH_done (by kernel_rfl) (NoPanic.normal ?_) _;go_wp2_with fail;exact Zg (iO Tryz.results182 _ _ w.heap.size 48 _ _ _ (0,0) (by simp) a1.out) rfl (h4.out _ _ _ a2.out ⟨gb,_,aX,rfl,a4.out⟩)
 ·have g5:d7 t.st=false:=by simpa using hw
  go_wp2_with fail;refine(pL t (.slice Ad nd qd) (.slice Ae ne qe) w2).mono ?_;rintro e w3 ⟨rfl,a5⟩;rw [g5];have H3:=Qa (ai Ht.out a5);have c8:=Qa (e1.out.trans (a5.mono e1.out.size));have c9:=Qa (ai f2.out a5);obtain⟨aN,g8⟩:=f9.out.below a5;have d6:=aa H3.out (j:=6) (u:= .int .i64 t.n) rfl;have h3:=a5.size;clear a5 c0 c1 c2 c3 c4 c5 c6;go_wp2_with fail;obtain⟨wq,hwq⟩:∃wq,w3.drew=wq:=⟨_,rfl⟩;have a1:Hid (wq.heap[w.heap.size]?=some (.cells #[.bool false, .string es, .int .i64 0] 48 (0,0))):=Qa (by rw [<- hwq];exact c9.out);have a2:=Qa (show Below w.heap.size w wq by rw [<- hwq];exact c8.out.drew);clear c9 c8;refine aW (fun w'=>w'.cell? ⟨w1.heap.size,6,none⟩=some (.int .i64 t.n)/\w'.cell? ⟨12,0,none⟩=some (bH aN)) (⟨d6,g8⟩) fun a0=> ?_
  rw [hwq] at a0 ⊢;clear hwq;refine tH 0 a0 ?_;refine tH 1 a0 ?_;refine tH 2 a0 ?_;refine tH 3 a0 ?_;refine tH 4 a0 ?_
  try simp only [Act.put,jP,jQ,jR]
  refine wpAnyH_ready (rs:= [5,7]) (by kernel_rfl) (by simp) ?_;refine AllReadyH.cons (ou rfl) (fun K hK=> ?_) (AllReadyH.cons (ou rfl) (fun K hK=> ?_) AllReadyH.nil);go_simp;have hb:=ac wq (.cells #[.int .i64 t.n,bH aN] 237);have a4:=Qa (Ze wq (.cells #[.int .i64 t.n,bH aN] 237));obtain⟨gb,a7⟩:∃g,wq.heap.size=g:=⟨_,rfl⟩;have b9:=Qa (show w.heap.size<gb by rw [<- a7];exact ae a1.out);rw [a7] at a4 ⊢;have a1:=Qa (ai a1.out hb);have a2:=Qa (a2.out.trans (hb.mono a2.out.size));obtain⟨wn,a3⟩:∃x,wq.alloc (.cells #[.int .i64 t.n,bH aN] 237)=x:=⟨_,rfl⟩;rw [a3] at a4 a1 a2 hb ⊢;obtain⟨wq,hwq⟩:∃x,x=wn:=⟨_,rfl⟩;subst hwq;refine hK.out _ _ (⟨Zf hb a0.1,Zf hb a0.2⟩) (fun a0=> ?_);clear hK K
  try simp only [Act.put,jP,jQ,jR]
  refine tH 6 a0 ?_
  try simp only [Act.put,jP,jQ,jR]
  refine rH 7 fun K hK=> ?_
  refine aq rfl 48 (.tmp 2) (.tmp 13) rfl w.heap.size #[.bool false, .string es, .int .i64 0] (by simp [Act.eval]) (by simp [Act.eval]) 48 _ a1.out eX rfl (gp _ _ _) ?_;have hg:=ah wq w.heap.size #[.bool false, .string es, .int .i64 0];have a2:=Qa (a2.out.grown hg a2.out.size (fun g e=>by cases e;exact Za _));(try have a4:=Qa (aJ a4.out hg (fun e=>by injection e with e;have:=b9.out;omega)));have a1:=Qa (setRow_heap _ _ _ #[.bool false, .string es, .int .i64 0] _ _ a1.out);obtain⟨wn,a3⟩:∃x,wq.setRow w.heap.size #[.bool false, .string es, .int .i64 0]=x:=⟨_,rfl⟩;rw [a3] at a1 a2 hg ⊢;(try rw [a3] at a4);obtain⟨wq,hwq⟩:∃x,x=wn:=⟨_,rfl⟩;subst hwq;refine hK.out _ _ (⟨hg.cell a0.1 (fun e=>by injection e with e;have e:w1.heap.size=w.heap.size:=e;omega),hg.cell a0.2 (fun e=>by injection e with e;have e:12=w.heap.size:=e;omega)⟩) (fun a0=> ?_);clear hK K
  try simp only [Act.put,jP,jQ,jR]
  refine tH 8 a0 ?_;refine tH 9 a0 ?_
  try simp only [Act.put,jP,jQ,jR]
  rotate_left
  refine aq rfl 48 (.tmp 2) (.tmp 13) rfl w.heap.size #[.bool false, .string es, .int .i64 0] (by simp [Act.eval]) (by simp [Act.eval]) 48 _ a1.out eX rfl (gp _ _ _) ?_;have hg:=ah wq w.heap.size #[.bool false, .string es, .int .i64 0];have a2:=Qa (a2.out.grown hg a2.out.size (fun g e=>by cases e;exact Za _));(try have a4:=Qa (aJ a4.out hg (fun e=>by injection e with e;have:=b9.out;omega)));have a1:=Qa (setRow_heap _ _ _ #[.bool false, .string es, .int .i64 0] _ _ a1.out);obtain⟨wn,a3⟩:∃x,wq.setRow w.heap.size #[.bool false, .string es, .int .i64 0]=x:=⟨_,rfl⟩;rw [a3] at a1 a2 hg ⊢;(try rw [a3] at a4);obtain⟨wq,hwq⟩:∃x,x=wn:=⟨_,rfl⟩;subst hwq;refine hK.out _ _ (⟨hg.cell a0.1 (fun e=>by injection e with e;have e:w1.heap.size=w.heap.size:=e;omega),hg.cell a0.2 (fun e=>by injection e with e;have e:12=w.heap.size:=e;omega)⟩) (fun a0=> ?_);clear hK K
  try simp only [Act.put,jP,jQ,jR]
  refine tH 8 a0 ?_
  try simp only [Act.put,jP,jQ,jR]
  refine rH 5 fun K hK=> ?_
  go_simp;have hb:=ac wq (.cells #[.int .i64 t.n,bH aN] 237);have a4:=Qa (Ze wq (.cells #[.int .i64 t.n,bH aN] 237));obtain⟨gb,a7⟩:∃g,wq.heap.size=g:=⟨_,rfl⟩;have b9:=Qa (show w.heap.size<gb by rw [<- a7];exact ae a1.out);rw [a7] at a4 ⊢;have a1:=Qa (ai a1.out hb);have a2:=Qa (a2.out.trans (hb.mono a2.out.size));obtain⟨wn,a3⟩:∃x,wq.alloc (.cells #[.int .i64 t.n,bH aN] 237)=x:=⟨_,rfl⟩;rw [a3] at a4 a1 a2 hb ⊢;obtain⟨wq,hwq⟩:∃x,x=wn:=⟨_,rfl⟩;subst hwq;refine hK.out _ _ (⟨Zf hb a0.1,Zf hb a0.2⟩) (fun a0=> ?_);clear hK K
  try simp only [Act.put,jP,jQ,jR]
  refine tH 6 a0 ?_;refine tH 9 a0 ?_
  try simp only [Act.put,jP,jQ,jR]
  rotate_left
  all_goals
   refine wpAnyH_done (by kernel_rfl) (NoPanic.normal ?_) _;go_wp2_with fail;exact Zg (iO Tryz.results182 _ _ w.heap.size 48 _ _ _ (0,0) (by simp) a1.out) rfl ⟨a2.out,⟨_,_,rfl,gb,_,aN,rfl,a4.out⟩⟩
def o0:List (List UInt8):= [[49,45,53,45,45,45,45,45,45,45,45,45,50,52,45,45], [52,52,52,52,52,52,52,52,52,52,50,45,45,45,45,45], [45,51,51,51,51,51,51,51,51,51,51,51,51,51,51,51], [51,51,51,51,51,51,51,51,51,51,51,50,45,50,45,45], [45,51,51,51,51,51,51,51,51,51,51,51,51,51,51,51], [51,51,51,51,51,51,51,51,51,51,51,50,45,50,45,45]]
def lu (w:World):Prop:= ∀i,i<6->w.cell? ⟨9,i,none⟩=some (.string ⟨(o0.getD i []).toArray⟩)
theorem lu.below (h:lu w)(hb:Below w.heap.size w w'):lu w':=fun i hi=>Zf hb (h i hi)
theorem By (x:UInt8): (x.toNat=9\/x.toNat=10\/x.toNat=13->bY x=1)/\(¬ (x.toNat=9\/x.toNat=10\/x.toNat=13)->(x.toNat<32\/127<x.toNat)->bY x=0)/\(32<=x.toNat->x.toNat<=127->((bY x:Nat):Int)=max ((((o0.getD (x.toNat/16 - 2) []).getD (x.toNat % 16) 0).toNat:Int) - 48) 0):=by
 have:=rG (p:=fun x=>decide ((x.toNat=9\/x.toNat=10\/x.toNat=13->bY x=1)/\(¬ (x.toNat=9\/x.toNat=10\/x.toNat=13)->(x.toNat<32\/127<x.toNat)->bY x=0)/\(32<=x.toNat->x.toNat<=127->((bY x:Nat):Int)=max ((((o0.getD (x.toNat/16 - 2) []).getD (x.toNat % 16) 0).toNat:Int) - 48) 0))) (by decide +kernel) x;exact of_decide_eq_true this
theorem zA (R:List UInt8)(j:Nat)(h:j<R.length):R[j]?=some (R.getD j 0):=by simp [Zc h]
theorem Ee:∀i,i<6->(o0.getD i []).length=16:=by decide
theorem py {k:IntKind}{x:UInt8}(hg:s.data.toList[p]?=some x)(w':World): (Instr.index 9 (.string s) (.int k (p:Int))).run Tryz.prog w' = .ok (.int .u8 x.toNat) w':=by
 have hlt:p<s.size:=by
  have h2:=(List.getElem?_eq_some_iff.1 hg).1;rw [Array.length_toList] at h2;exact h2
 rw [run_index_string w' 9 s k (p:Int) Tryz.underlying9,dif_pos ⟨Int.natCast_nonneg _,by omega⟩];have h3:s[((p:Nat):Int).toNat]'(by simpa using hlt)=x:=by
  simp only [Int.toNat_natCast];have h4:s.data[p]?=some x:=by rw [<- Array.getElem?_toList];exact hg
  exact(Array.getElem?_eq_some_iff.1 h4).2
 rw [h3]
theorem dP (x:UInt8)(hB:lu w):Calls Tryz.prog 143 #[.int .u8 x.toNat] w fun e w'=>e = .returned (.int .i64 (bY x:Nat))/\w=w':=by
 obtain⟨k1,k2,k3⟩:=By x;have hx:=x.toNat_lt;obtain⟨n,hn⟩:∃n,x.toNat=n:=⟨_,rfl⟩;rw [hn] at k1 k2 k3 hx ⊢;obtain⟨k,hk⟩:∃k,bY x=k:=⟨_,rfl⟩;rw [hk] at k1 k2 k3 ⊢;clear hn hk
 by_cases h1:n=9\/n=10\/n=13
 ·obtain rfl:=k1 h1
  clear k1 k2 k3;go_enter Tryz.func143,Tryz.ntmps143;rcases h1 with rfl | rfl | rfl
  ·go_wp2
   go_ret;exact⟨rfl,rfl⟩
  ·go_wp2
   go_ret;exact⟨rfl,rfl⟩
  ·go_wp2
   go_ret;exact⟨rfl,rfl⟩
 ·have e1: ((n:Int)==9)=false:=by simp;omega
  have e2: ((n:Int)==10)=false:=by simp;omega
  have e3: ((n:Int)==13)=false:=by simp;omega
  by_cases h2:n<32\/127<n
  ·obtain rfl:=k2 h1 h2
   clear k1 k2 k3 h1;go_enter Tryz.func143,Tryz.ntmps143;rcases h2 with h2 | h2
   ·have a2: (n:Int)<32:=by omega
    go_wp2;go_ret;exact⟨rfl,rfl⟩
   ·have a2:¬ (n:Int)<32:=by omega
    have a3: (127:Int)<n:=by omega
    go_wp2;go_ret;exact⟨rfl,rfl⟩
  ·have k3:=k3 (by omega) (by omega)
   have hc:=hB (n/16 - 2) (by omega);have hl:=Ee (n/16 - 2) (by omega);obtain⟨v,hv⟩:∃v:UInt8,(o0.getD (n/16 - 2) []).getD (n % 16) 0=v:=⟨_,rfl⟩;have a0:=fun w'=>py (k:= .u8) (s:=⟨(o0.getD (n/16 - 2) []).toArray⟩) (p:=n % 16) (x:=v) (by
    show(o0.getD (n/16 - 2) [])[n % 16]?=some v
    rw [<- hv];exact zA _ _ (by rw [hl];omega)) w'
   rw [hv] at k3;have a1:=v.toNat_lt;obtain⟨z,hz⟩:∃z:Int,(v.toNat:Int)=z:=⟨_,rfl⟩;rw [hz] at k3 a0;have a5:0<=z:=by omega
   have a4:z<256:=by omega
   generalize (⟨(o0.getD (n/16 - 2) []).toArray⟩:ByteArray)=row at *;obtain⟨q,hq⟩:∃q,n/16=q:=⟨_,rfl⟩;obtain⟨r,hr⟩:∃r,n % 16=r:=⟨_,rfl⟩;have d1: (n:Int)/16=q:=by omega
   have d2: (n:Int) % 16=r:=by omega
   have d1':Int.tdiv (n:Int) 16=q:=by rw [Int.tdiv_eq_ediv_of_nonneg (by omega)];exact d1
   have d2':Int.tmod (n:Int) 16=r:=by rw [Int.tmod_eq_emod_of_nonneg (by omega)];exact d2
   have d3:IntKind.u8.wrap ((q:Int) - 2)= ((q - 2:Nat):Int):=by simp [IntKind.wrap,IntKind.bits,IntKind.signed];omega
   have d4: ((q:Int) - 2).toNat=q - 2:=by omega
   rw [hq] at hc;rw [hr] at a0;have n1:¬ (n:Int)<32:=by omega
   have n2:¬ (127:Int)<n:=by omega
   have n3:2<=(q:Int):=by omega
   have n4: (q:Int)<8:=by omega
   rw [k3];clear k1 k2 k3 h1 h2 hl hv hz hq hr hB a1;go_enter Tryz.func143,Tryz.ntmps143;go_wp2;go_ret;exact⟨rfl,rfl⟩
theorem kt (x:UInt8)(w:World):Calls Tryz.prog 178 #[.int .u8 x.toNat] w fun e w'=>e = .returned (.bool (dQ x))/\w=w':=by
 have key:dQ x= (decide (97<=bits .or .u8 (x.toNat:Int) 32)&&decide (bits .or .u8 (x.toNat:Int) 32<=122)):=by
  have h:∀n:Nat,n<256->dQ (UInt8.ofNat n)= (decide (97<=bits .or .u8 (n:Int) 32)&&decide (bits .or .u8 (n:Int) 32<=122)):=by decide +kernel
  have:=h x.toNat x.toNat_lt
  rwa [UInt8.ofNat_toNat] at this
 rw [key];clear key;obtain⟨y,hy⟩:∃y:Int,bits .or .u8 (x.toNat:Int) 32=y:=⟨_,rfl⟩;rw [hy]
 by_cases h1:97<=y
 ·by_cases h2:y<=122
  ·rw [decide_eq_true h1,decide_eq_true h2]
   go_enter Tryz.func178,Tryz.ntmps178;go_wp2;go_ret;exact⟨rfl,rfl⟩
  ·rw [decide_eq_true h1,decide_eq_false h2]
   go_enter Tryz.func178,Tryz.ntmps178;go_wp2;go_ret;exact⟨rfl,rfl⟩
 ·rw [decide_eq_false h1]
  go_enter Tryz.func178,Tryz.ntmps178;go_wp2;go_ret;exact⟨rfl,rfl⟩
def EY (l:List UInt8):Bool:=l == [110,117,108,108]||l == [116,114,117,101]||l == [102,97,108,115,101]
theorem lJ (l:List UInt8)(w:World):Calls Tryz.prog 179 #[.string ⟨l.toArray⟩] w fun e w'=>e = .returned (.bool (EY l))/\w=w':=by
 have hl: (⟨l.toArray⟩:ByteArray).toList=l:=by rw [ByteArray.toList_eq]
 obtain⟨s,hs⟩:∃s:ByteArray,⟨l.toArray⟩=s:=⟨_,rfl⟩;rw [hs] at hl ⊢;unfold EY;obtain⟨b1,h1⟩:∃b,(s.toList == [110,117,108,108])=b:=⟨_,rfl⟩;obtain⟨b2,h2⟩:∃b,(s.toList == [116,114,117,101])=b:=⟨_,rfl⟩;obtain⟨b3,h3⟩:∃b,(s.toList == [102,97,108,115,101])=b:=⟨_,rfl⟩;rw [<- hl,h1,h2,h3];clear hs hl;go_enter Tryz.func179,Tryz.ntmps179
 cases b1 <;> cases b2 <;> cases b3
 all_goals go_wp2
 all_goals (go_ret;exact⟨rfl,rfl⟩)
