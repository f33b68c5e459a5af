import Derived.Test.YtohibglohlfjfaaGreatDoorGZ6bv
set_option linter.unusedVariables false
set_option linter.unusedSimpArgs false
set_option maxHeartbeats 64000000
set_option maxRecDepth 100000
namespace Go.Proofs.YtohibglohlfjfaaGreatDoor
open Go.RowKit Go.Shelf
variable {aE aU:Addr}{us:List Value}{B c g i n:Nat}{P:Nat->Prop}{A:Option Addr}{v:Value}{w w' w0 wr:World}
abbrev Vj:=Value×Option JV
def Ij (B:Nat)(w:World)(L:List Vj):Prop:= ∀p∈L,OV (· < B) w p.1 p.2/\IG p.2
theorem OV.lowB {o:Option JV}(h:OV (· < B) w v o)(hb:Below B w w'):OV (· < B) w' v o:=by
 cases o with
 |none=>exact h
 |some j=>exact VW.stay h fun g o hp hg _=>⟨hp,(hb.block g hp).trans hg⟩
theorem Ij.lowB {L:List Vj}(h:Ij B w L)(hb:Below B w w'):Ij B w' L:=fun p hp=>⟨(h p hp).1.lowB hb,(h p hp).2⟩
theorem OV.one {o:Option JV}(h:OV P w v o):v.oneCell'=true:=by
 cases o with
 |none=>rw[show v =.nilIface from h];rfl
 |some j=>obtain⟨t,x,rfl⟩:=VW.iface h;rfl
theorem OV.two {o:Option JV}(h:OV P w v o):v =.nilIface\/∃t x,v =.iface t x:=by
 cases o with
 |none=>exact .inl h
 |some j=>exact .inr (VW.iface h)
def gB (B g c:Nat)(w:World)(L:List Vj):Prop:=w.ownsRow B 32 1 (.slice (some ⟨g,0,none⟩) L.length c) L.length (L.map Prod.fst)
theorem gB.cell {L:List Vj}(h:gB B g c w L){j:Nat}{p:Vj}(hp:L[j]?=some p):w.cell? ⟨g,j,none⟩=some p.1/\w.frozen? ⟨g,j,none⟩=false:=by
 have hj:=(List.getElem?_eq_some_iff.1 hp).1;refine⟨?_,World.ownsRow.frozenAt h j⟩;rw[World.ownsRow.cellAt h j (by omega),List.getElem?_map,hp];rfl
theorem gB.set {L:List Vj}(h:gB B g c w L)(j:Nat)(p:Vj):gB B g c (w.setCell ⟨g,j,none⟩ p.1) (L.set j p):=by
 have:=(World.ownsRow.stored h j p.1).1;unfold gB;rw[List.length_set,List.map_set];exact this
theorem gB.below {L:List Vj}(h:gB B g c w L)(hb:Below w.heap.size w w'):gB B g c w' L:=ao h hb (Zb _)
theorem gB.lt {L:List Vj}(h:gB B g c w L):B<=g/\g<w.heap.size:=World.ownsRow.lt h g rfl
def rX (S:List Vj):Prop:=S.Pairwise fun p q=>bY p.2 q.2<=0
theorem yG {a b c:Option JV}(h1:bY a b<=0)(h2:bY b c<=0):bY a c<=0:=pe h1 h2
theorem rX.ins {S1 S2:List Vj}{x:Vj}(h:rX (S1++S2))(h1:∀y,S1.getLast?=some y->bY y.2 x.2<=0)(h2:∀y∈S2,bY x.2 y.2<=0):rX (S1++x::S2):=by
 have ⟨a1,a2,a3⟩:=List.pairwise_append.1 h;refine List.pairwise_append.2 ⟨a1,List.pairwise_cons.2 ⟨h2,a2⟩,fun y hy z hz=>?_⟩;rcases List.mem_cons.1 hz with rfl|hz
 ·rcases List.eq_nil_or_concat S1 with rfl|⟨T,l,a0⟩
  ·cases hy
  rw[List.concat_eq_append] at a0;subst a0
  ·have hl:=h1 l (by simp);rcases List.mem_append.1 (by simpa using hy:y∈T ++ [l]) with hy|hy
   ·exact yG ((List.pairwise_append.1 (by simpa using a1:(T ++ [l]).Pairwise _)).2.2 y hy l (by simp)) hl
   ·rw[List.mem_singleton.1 hy];exact hl
 ·exact a3 y hy z hz
def Af (B g c a b:Nat)(L:List Vj)(w:World)(e:Ending)(w':World):Prop:=e =.returned (.tuple #[])/\aZ (· = g) w w'/\∃S,S.Perm ((L.take b).drop a)/\rX S/\gB B g c w' (L.take a++S++L.drop b)
def Cr (B g c a b:Nat)(L:List Vj)(w:World)(s8:Value)(wr:World):Prop:= ∃ (i:Nat) (S:List Vj),s8 =.int .i64 i/\a+1<=i/\i<=b+1/\(i<=b\/i=a+1)/\S.Perm ((L.take (min i b)).drop a)/\rX S/\gB B g c wr (L.take a++S++L.drop (min i b))/\aZ (· = g) w wr
def JW (B g c a:Nat)(P S R:List Vj)(x:Vj)(w:World)(s9:Value)(wr:World):Prop:= ∃S1 S2:List Vj,S=S1++S2/\(∀y∈S2,bY x.2 y.2<=0)/\s9 =.int .i64 ((a+S1.length:Nat):Int)/\gB B g c wr (P++ (S1++x::S2)++R)/\aZ (· = g) w wr
theorem Cr.next {a b:Nat}{L S S1 S2:List Vj}{x:Vj}(hp:S.Perm ((L.take i).drop a))(hs:rX S)(hx:L[i]?=some x)(he:S=S1++S2)(h1:∀y,S1.getLast?=some y->bY y.2 x.2<=0)(h2:∀y∈S2,bY x.2 y.2<=0)(a1:gB B g c wr (L.take a++ (S1++x::S2)++L.drop (i+1)))(a2:aZ (· = g) w wr)(ha:a+1<=i)(a3:i<b):Cr B g c a b L w (.int .i64 ((i:Int)+1)) wr:=by
 subst he;have a0:min (i+1) b=i+1:=Nat.min_eq_left (by omega);refine⟨i+1,S1++x::S2,by go_num,by omega,by omega,.inl (by omega),?_,hs.ins h1 h2,by rw[a0];exact a1,a2⟩;rw[a0,dY (by omega) hx];exact(List.perm_middle.trans (List.Perm.cons x hp)).trans (List.perm_append_singleton _ _).symm
theorem xu {a b c:World}(h:aZ (· = g) a b)(k:aZ (· = g) b c):aZ (· = g) a c:=h.trans k fun i hi=>.inl hi
theorem yA {P S1 S2 R:List Vj}{x:Vj}{a:Nat}(hP:P.length=a):(P++ (S1++x::S2)++R)[a+S1.length]?=some x:=by
 rw[List.append_assoc,List.getElem?_append_right (by omega),List.append_assoc,List.getElem?_append_right (by omega)];simp[hP]
theorem Cg {P T S2 R:List Vj}{x y:Vj}{a:Nat}(hP:P.length=a):(P++ ((T ++ [y])++x::S2)++R)[a+T.length]?=some y:=by
 have:=yA (P:=P) (S1:=T) (S2:=x::S2) (R:=R) (x:=y) hP;simpa using this
theorem Ck {P T S2 R:List Vj}{x y:Vj}{a:Nat}(hP:P.length=a):((P++ ((T ++ [y])++x::S2)++R).set (a+T.length+1) y).set (a+T.length) x=P++ (T++x:: (y::S2))++R:=by
 subst hP;rw[List.append_assoc,List.set_append_right _ _ (by omega),List.set_append_right _ _ (by omega),List.append_assoc,List.append_assoc,List.set_append_right _ _ (by omega),List.set_append_right _ _ (by omega)];rw[show P.length+T.length+1 - P.length - T.length=1 by omega,show P.length+T.length - P.length - T.length=0 by omega];simp
theorem we {a b:Nat}{L:List Vj}(hr:gB B g c w L)(hv:Ij B w L)(h0:Below w0.heap.size w0 w)(d9:w0.heap.size<=B)(hB:B<=w.heap.size)(hlen:L.length<=1000)(hab:a<=b)(hb:b<=L.length)(hT:cG w0)(hG:ce w0 aU aE) :
  Calls Tryz.prog 72 #[.slice (some ⟨g,0,none⟩) L.length c,.int .i64 (a:Int),.int .i64 (b:Int),.func (.func 24) #[] #[]] w (Af B g c a b L w):=by
 have c4:=hr.lt;have Hr:=Qa hr;have Hv:=Qa hv;have H0:=Qa (And.intro h0 (And.intro d9 (And.intro hB (And.intro hT hG))));have e8:=c4.1;have f9:=Qa c4;clear hr hv h0 d9 hB hT hG c4;obtain⟨n,hn⟩:∃n,L.length=n:=⟨_,rfl⟩;have Hn:=Qa hn;rw[hn] at hlen hb ⊢;clear hn;go_enter Tryz.func72,Tryz.ntmps72;go_wp2_with fail
 go_loopw [8,9] (fun s8 _ wr=>Cr B g c a b L w s8 wr) (fun v _ _=>b+1 - (intOf v).toNat)
 case atStart=>
  refine⟨a+1,(L.take (min (a+1) b)).drop a,by go_num,Zb _,by omega,.inr rfl,.refl _,?_,?_,aZ.refl _ _⟩
  ·have hl:((L.take (min (a+1) b)).drop a).length<=1:=by rw[List.length_drop,List.length_take];omega
   generalize (L.take (min (a+1) b)).drop a=S at hl
   match S,hl with
   | [],_=>exact List.Pairwise.nil
   | [x],_=>exact List.pairwise_singleton _ _
  ·have e:L.take a++ (L.take (min (a+1) b)).drop a++L.drop (min (a+1) b)=L:=by
    have h1:L.take a= (L.take (min (a+1) b)).take a:=by rw[List.take_take,Nat.min_eq_left (by omega)]
    rw[h1,List.take_append_drop,List.take_append_drop]
   rw[e];exact Hr.out
 case round=>
  obtain⟨i,S,rfl,d0,f5,g2,hp,hs,b2,e5⟩:=hrel;have Hp:=Qa hp;have Hs:=Qa hs;have Hrow:=Qa b2;have Hch:=Qa e5;clear hp hs b2 e5
  by_cases hlt:i<b
  ·have a5:min i b=i:=Nat.min_eq_left (by omega);rw[a5] at Hp Hrow;have d4:i<L.length:=by have:=Hn.out;omega
   obtain⟨x,hx⟩:∃x,L[i]?=some x:=⟨_,Zd d4⟩;have e3:S.length=i - a:=by have:=Hp.out.length_eq;rw[this,List.length_drop,List.length_take];omega
   have d5:L.drop i=x::L.drop (i+1):=by rw[List.drop_eq_getElem_cons d4];congr 1;exact(List.getElem?_eq_some_iff.1 hx).2
   rw[d5] at Hrow;have Hx:=Qa hx;have HSl:=Qa e3;have c5:(i:Int)<b:=by omega
   clear hx e3 d5 a5;go_wp2_with fail
   go_loopw [9] (fun s9 wx=>JW B g c a (L.take a) S (L.drop (i+1)) x w s9 wx) (fun v _=>(intOf v).toNat)
   case atStart=>exact⟨S, [],by simp,by simp,by rw[HSl.out,show a+ (i - a)=i by omega],by have:=Hrow.out;simpa using this,Hch.out⟩
   case round=>
    obtain⟨S1,S2,he,h2,rfl,a7,b0⟩:=hrel;have c1:(L.take a).length=a:=by rw[List.length_take];have:=Hn.out;omega
    have b7:Below B w wr:=b0.below H0.out.2.2.1 fun k hk=>by subst hk;exact e8
    have b1:=Qa (Hv.out.lowB b7);have b5:=Qa (H0.out.1.trans (b7.mono H0.out.2.1));have b4:=b7.size;have He:=Qa he;have H2:=Qa h2;have a1:=Qa a7;have a9:=Qa b0;have a3:x∈L:=Zl Hx.out;clear he h2 a7 b0 b7;rcases List.eq_nil_or_concat S1 with rfl|⟨T,y,e1⟩
    ·have hja:((a+ ([]:List Vj).length:Nat):Int)=a:=by simp
     have f4:¬ (a:Int)<a:=by omega
     rw[hja];clear hja;go_wp2_with fail;refine aA (fun _=>True) (trivial) fun a0=>?_
     refine tH 0 a0 ?_;refine tH 1 a0 ?_;refine tH 2 a0 ?_;refine tH 3 a0 ?_;refine uH 4 a0 ?_;refine uH 5 a0 ?_
     try simp only[Act.put,jP,jQ,jR]
     refine uH 6 a0 ?_;refine uH 7 a0 ?_;refine uH 8 a0 ?_;refine uH 9 a0 ?_;refine uH 10 a0 ?_;refine uH 11 a0 ?_
     try simp only[Act.put,jP,jQ,jR]
     refine uH 12 a0 ?_;refine uH 13 a0 ?_
     try simp only[Act.put,jP,jQ,jR]
     refine rH 14 fun K hK=>?_
     go_simp;refine hK.out _ _ (trivial) (fun a0=>?_);clear hK K
     try simp only[Act.put,jP,jQ,jR]
     refine uH 15 a0 ?_;refine tH 16 a0 ?_
     try simp only[Act.put,jP,jQ,jR]
     refine wpAnyH_done (by kernel_rfl) (NoPanic.normal ?_) _;go_wp2_with fail;refine⟨Cr.next Hp.out Hs.out Hx.out He.out (fun y e=>by simp at e) H2.out (gB.below a1.out (Ze _ _).drew) (xu a9.out (aZ.of_below (Ze _ _).drew)) d0 hlt,by simp[intOf];omega⟩
    ·rw[List.concat_eq_append] at e1;subst e1;obtain⟨k,hk⟩:∃k,a+T.length=k:=⟨_,rfl⟩;have b3:=yA (S1:=T ++ [y]) (S2:=S2) (R:=L.drop (i+1)) (x:=x) c1;have b8:=Cg (T:=T) (S2:=S2) (R:=L.drop (i+1)) (x:=x) (y:=y) c1;rw[List.length_append,List.length_singleton,<-Nat.add_assoc,hk] at b3;rw[hk] at b8;obtain⟨cx,-⟩:=a1.out.cell b3;obtain⟨cy,-⟩:=a1.out.cell b8;have hjk:((a+ (T ++ [y]).length:Nat):Int)= (k:Int)+1:=by rw[List.length_append,List.length_singleton,<-Nat.add_assoc,hk];omega
     rw[hjk];have g0:k+1<n:=by
      have h1:=(List.getElem?_eq_some_iff.1 b3).1;have h3:=HSl.out;rw[He.out] at h3;simp only[List.length_append,List.length_cons,List.length_singleton,List.length_take,List.length_drop] at h1 h3;have:=Hn.out;omega
     have c2:=Ck (T:=T) (S2:=S2) (R:=L.drop (i+1)) (x:=x) (y:=y) c1;rw[hk] at c2;have c9:=Qa c2;have Hm:=Qa (And.intro b3 b8);have a4:y∈L:=by
      have h1:y∈S:=by rw[He.out];simp
      have h2:=Hp.out.mem_iff.1 h1;exact List.mem_of_mem_take (List.mem_of_mem_drop h2)
     have HC:=Qa (fun (w1:World) (b9:Below wr.heap.size wr w1)=>kz (((b1.out x a3).1.lowB (b9.mono (Zc H0.out.2.2.1 b4)))) (((b1.out y a4).1.lowB (b9.mono (Zc H0.out.2.2.1 b4)))) ((H0.out.2.2.2.1.below b5.out).below b9) ((H0.out.2.2.2.2.below b5.out).below b9) (fun j e=>((b1.out x a3).2 j e).1) (fun j e=>((b1.out y a4).2 j e).1));have ox:=(b1.out x a3).1.two;have oy:=(b1.out y a4).1.two;have a2:=lj x.2 y.2;obtain⟨xv,xo⟩:=x;obtain⟨yv,yo⟩:=y;simp only at cx cy HC ox oy a2;obtain⟨z,hz⟩:∃z,bY xo yo=z:=⟨_,rfl⟩;rw[hz] at HC a2;have Hz:=Qa hz;have a6:=Qa a2;have f8:(a:Int)< (k:Int)+1:=by omega
     have f0:IntKind.i64.wrap (k:Int)=k:=IntWalk.i64_in _ (by omega);have e6:IntKind.i64.wrap ((k:Int)+1 - 1)=k:=by rw[IntWalk.i64_in _ (by omega)];omega
     have g1:(k:Int)+1<n:=by omega
     have f6:(k:Int)<n:=by omega
     have g3:(0:Int)<=(k:Int)+1:=by omega
     clear b3 b8 c2 hz a2 hjk;go_wp2_with fail;refine aA (fun w'=>w'.cell? ⟨g,k+1,none⟩=some xv/\w'.cell? ⟨g,k,none⟩=some yv) (⟨cx,cy⟩) fun a0=>?_
     refine tH 0 a0 ?_;refine tH 1 a0 ?_;refine tH 2 a0 ?_;refine tH 3 a0 ?_;refine tH 4 a0 ?_;refine tH 5 a0 ?_
     try simp only[Act.put,jP,jQ,jR]
     refine tH 6 a0 ?_;refine tH 7 a0 ?_;refine tH 8 a0 ?_;refine tH 9 a0 ?_;refine tH 10 a0 ?_;refine tH 11 a0 ?_
     try simp only[Act.put,jP,jQ,jR]
     refine tH 12 a0 ?_;refine tH 13 a0 ?_
     try simp only[Act.put,jP,jQ,jR]
     refine rH 14 fun K hK=>?_
     go_simp;refine(HC.out _ (Ze _ _).drew).mono ?_;rintro e wz ⟨rfl,hz⟩;have c0:=Qa ((Ze _ _).drew.trans hz);refine hK.out _ _ (⟨Zg hz a0.1,Zg hz a0.2⟩) (fun a0=>?_);clear hK K
     try simp only[Act.put,jP,jQ,jR]
     refine tH 15 a0 ?_;refine tH 16 a0 ?_
     try simp only[Act.put,jP,jQ,jR]
     refine wpAnyH_done (by kernel_rfl) (NoPanic.normal ?_) _;have e4:Below wr.heap.size wr wz:=c0.out
     by_cases c6:z<0
     ·have d6:=Qa (a1.out.below e4);have d1:=a0.1;have d2:=a0.2;have b6:=d6.out;have f1:=(b6.cell Hm.out.1).2;have f2:=(b6.cell Hm.out.2).2;have c7:=b6.set (k+1) (yv,yo);have e2:=c7.cell (j:=k) (p:=(yv,yo)) (by rw[List.getElem?_set_ne (by omega)];exact Hm.out.2);obtain⟨d3,f3⟩:=e2;have c3:=c7.set k (xv,xo);rw[c9.out] at c3;have e0:=Qa c3;simp only at d3 f3;have c8:=Qa (And.intro e0.out (And.intro c6 Hz.out));clear e0 Hm c9 a6 HC d6 Hz;clear c7 c3 b6 e4 a0;rcases ox with rfl|⟨tx,qx,rfl⟩ <;> rcases oy with rfl|⟨ty,qy,rfl⟩
      all_goals
       go_wp2_with fail;refine cP (fun w'=>w'.cell? ⟨g,k,none⟩=_) 17 (d2) fun a0=>?_
       refine tZ 0 a0 ?_;refine tZ 1 a0 ?_;refine tZ 2 a0 ?_;refine tZ 3 a0 ?_;refine tZ 4 a0 ?_;refine tZ 5 a0 ?_
       try simp only[Act.put,jP,jQ,jR]
       refine tZ 6 a0 ?_;refine tZ 7 a0 ?_;refine tZ 8 a0 ?_;refine tZ 9 a0 ?_;refine tZ 10 a0 ?_;refine tZ 11 a0 ?_
       try simp only[Act.put,jP,jQ,jR]
       refine tZ 12 a0 ?_
       try simp only[Act.put,jP,jQ,jR]
       refine rZ 13 fun K hK=>?_
       go_simp;refine hK.out _ _ (fun _=>a0) (fun a0=>?_);clear hK K;have a0:=a0 (by decide)
       try simp only[Act.put,jP,jQ,jR]
       refine tZ 14 a0 ?_
       try simp only[Act.put,jP,jQ,jR]
       refine rZ 15 fun K hK=>?_
       go_simp;refine hK.out _ _ (fun _=>d3) (fun a0=>?_);clear hK K;have a0:=a0 (by decide)
       try simp only[Act.put,jP,jQ,jR]
       refine tZ 16 a0 ?_
       try simp only[Act.put,jP,jQ,jR]
       refine rZ 17 fun K hK=>?_
       go_simp;refine hK.out _ _ (fun h=>absurd rfl h) (fun _=>?_);clear hK K
       try simp only[Act.put,jP,jQ,jR]
       refine aW (by kernel_rfl) (NoPanic.normal ?_) _;go_wp2_with fail;refine⟨⟨T,(_,yo)::S2,by rw[He.out,List.append_assoc];rfl,fun z hz=>?_,by rw[hk],gB.below c8.out.1 (Ze _ _).drew,?_⟩,by simp[intOf]⟩
       ·rcases List.mem_cons.1 hz with rfl|hz
        ·exact Int.le_of_lt (c8.out.2.2.symm▸c8.out.2.1)
        ·exact H2.out z hz
       ·exact xu a9.out (((aZ.of_below c0.out).trans ((aZ.set g (k+1) _).trans (aZ.set g k _) fun i hi=>.inl hi) fun i hi=>.inl hi).trans (aZ.of_below (Ze _ _).drew) fun i hi=>.inl hi)
     ·go_wp2_with fail;refine⟨Cr.next Hp.out Hs.out Hx.out He.out (fun y e=>by
       rw[List.getLast?_append] at e;simp at e;subst e
       show bY yo xo<=0
       rw[a6.out];omega) H2.out (a1.out.below c0.out) (xu a9.out (aZ.of_below c0.out)) d0 hlt,by simp[intOf];omega⟩
  ·have a5:min i b=b:=Nat.min_eq_right (by omega);rw[a5] at Hp Hrow;have c5:¬ (i:Int)<b:=by omega
   go_wp2_with fail;go_end0;exact⟨rfl,Hch.out,S,Hp.out,Hs.out,Hrow.out⟩
theorem yn {L:List Vj}(hr:gB B g c w L)(hv:Ij B w L)(h0:Below w0.heap.size w0 w)(a0:w0.heap.size<=B)(hB:B<=w.heap.size)(hlen:L.length<=19)(hT:cG w0)(hG:ce w0 aU aE) :
  Calls Tryz.prog 50 #[.slice (some ⟨g,0,none⟩) L.length c,.int .i64 (L.length:Int),.func (.func 24) #[] #[]] w (Af B g c 0 L.length L w):=by
 have HI:=Qa (show Calls Tryz.prog 72 #[.slice (some ⟨g,0,none⟩) L.length c,.int .i64 0,.int .i64 (L.length:Int),.func (.func 24) #[] #[]] w (fun e w'=>Af B g c 0 L.length L w e w') from we (a:=0) hr hv h0 a0 hB (by omega) (Zk _) (Zb _) hT hG);clear hr hv h0 a0 hB hT hG;unfold Af at *;generalize L.length=n at *;have h1:¬ (20:Int)<=n:=by omega
 have h2:¬ (20:Int)<n:=by omega
 go_enter Tryz.func50,Tryz.ntmps50;go_wp2_with fail
 go_loopw [7,8] (fun s7 s8 wr=>s7 =.int .i64 0/\s8 =.int .i64 20/\w=wr) (fun _ _ _=>0)
 case atStart=>exact⟨rfl,rfl,rfl⟩
 case round=>
  obtain⟨rfl,rfl,rfl⟩:=hrel;go_wp2_with fail;refine Za HI ?_;rintro e w1 ⟨rfl,a1,hS⟩;have Hr:=Qa (And.intro a1 hS);clear a1 hS HI;go_wp2_with fail
  go_loopw [6,7,8,9] (fun s6 _ _ _ wr=>s6 =.int .i64 20/\w1=wr) (fun _ _ _ _ _=>0)
  case atStart=>exact⟨rfl,rfl⟩
  case round=>
   obtain⟨rfl,rfl⟩:=hrel;go_wp2_with fail;go_end0;exact⟨rfl,Hr.out.1,Hr.out.2⟩
theorem nx {L:List Vj}(hr:gB B g c w L)(hv:Ij B w L)(h0:Below w0.heap.size w0 w)(a0:w0.heap.size<=B)(hB:B<=w.heap.size)(hlen:L.length<=19)(hT:cG w0)(hG:ce w0 aU aE) :
  Calls Tryz.prog 27 #[.slice (some ⟨g,0,none⟩) L.length c,.func (.func 24) #[] #[]] w (Af B g c 0 L.length L w):=by
 have HI:=Qa (yn hr hv h0 a0 hB hlen hT hG);clear hr hv h0 a0 hB hT hG;unfold Af at *;generalize L.length=n at *;go_enter Tryz.func27,Tryz.ntmps27;go_wp2_with fail;refine Za HI ?_;rintro e w1 ⟨rfl,a1,hS⟩;have Hr:=Qa (And.intro a1 hS);clear a1 hS HI;go_wp2_with fail;go_end0;exact⟨rfl,Hr.out.1,Hr.out.2⟩
theorem zv (h:n<=c):Calls Tryz.prog 28 #[.slice (some ⟨g,0,none⟩) n c] w fun e w'=>e =.returned (.slice (some ⟨g,0,none⟩) n n)/\w=w':=by
 have h1:(n:Int)<=c:=by omega
 go_enter Tryz.func28,Tryz.ntmps28;go_wp2_with fail;go_ret;exact⟨rfl,rfl⟩
def tJ (L:List Vj)(w:World)(e:Ending)(w':World):Prop:= ∃ (A:Option Addr) (S:List Vj),e =.returned (.slice A L.length L.length)/\Below w.heap.size w w'/\S.Perm L/\rX S/\Sl w' (.slice A L.length L.length) (S.map Prod.fst)
theorem uC {L:List Vj}(hs:Sl w v (L.map Prod.fst))(hv:∀p∈L,OV P w p.1 p.2/\IG p.2)(hl:0<L.length)(hlen:L.length<=19)(hT:cG w)(hG:ce w aU aE):Calls Tryz.prog 9 #[v] w (tJ L w):=by
 have a9:Ij w.heap.size w L:=fun p hp=>⟨by
  have h:=(hv p hp).1;obtain⟨pv,po⟩:=p
  cases po with
  |none=>exact h
  |some j=>exact VW.stay h fun g o _ hg _=>⟨ae hg,hg⟩,(hv p hp).2⟩
 have HC:=Qa (jI (w:=w) (v:=v) (n:=L.length) (us:=L.map Prod.fst) (by have:=hs.k;rwa[List.length_map] at this) (fun u hu=>by
  obtain⟨p,hp,rfl⟩:=List.mem_map.1 hu;exact(hv p hp).1.one) (by omega))
 have HS:=Qa (fun (w1:World) (g c:Nat) (hb:Below w.heap.size w w1) (ho:w1.ownsRow w.heap.size 32 1 (.slice (some ⟨g,0,none⟩) L.length c) L.length (L.map Prod.fst))=>nx (w0:=w) ho (a9.lowB hb) hb (Zb _) hb.size hlen hT hG);obtain⟨-,A0,c0,rfl,-⟩:=hs;rw[List.length_map] at HC ⊢;clear hv a9 hT hG;go_enter Tryz.func9,Tryz.ntmps9;go_wp2_with fail;refine Za HC ?_;rintro e w1 ⟨A,c,rfl,hb,ho⟩;obtain⟨g,rfl⟩:=kt ho hl;obtain⟨_,_,he,a3,-,-⟩:=ag ho;obtain⟨-,-,he⟩:=Value.slice.inj he;subst he;have a6:=Qa (HS.out w1 g c hb ho);have Hb:=Qa hb;clear HC HS hb ho;go_wp2_with fail;refine Za a6 ?_;rintro e w2 ⟨rfl,b0,S,hp,a4,a0⟩;rw[List.drop_zero,List.take_length] at hp;rw[List.take_zero,List.nil_append,List.drop_length,List.append_nil] at a0;have hg:=a0.lt.1;have a5:=b0.below Hb.out.size fun k hk=>by subst hk;exact hg
 have a1:S.length=L.length:=hp.length_eq;have a2:=Sl.of_own a0;rw[a1] at a2;have a7:Sl w2 (.slice (some ⟨g,0,none⟩) L.length L.length) (S.map Prod.fst):=by
  obtain⟨z1,A',c',z2,-,z4⟩:=a2;obtain⟨rfl,-,-⟩:=Value.slice.inj z2;refine⟨z1,_,_,by rw[List.length_map,a1],by rw[List.length_map,a1];exact Zb _,z4⟩
 have Hr:=Qa (And.intro (Hb.out.trans a5) (And.intro hp (And.intro a4 a7)));clear b0 hp a4 a0 hg a5 a1 a2 a7 a6;go_wp2_with fail;refine(zv a3).mono ?_;rintro e w3 ⟨rfl,rfl⟩;go_wp2_with fail;go_ret;exact⟨_,S,rfl,Hr.out⟩
theorem BH {S T:List Vj}(hs:rX S)(ht:rX T)(hp:S.Perm T)(hv:∀p∈T,IG p.2):S.map Prod.snd=T.map Prod.snd:=by
 refine List.Perm.eq_of_pairwise (le:=fun a b=>bY a b<=0) (fun a b ha hb h1 h2=>?_) (List.pairwise_map.2 hs) (List.pairwise_map.2 ht) (hp.map _);obtain⟨p,a0,rfl⟩:=List.mem_map.1 ha;obtain⟨q,a1,rfl⟩:=List.mem_map.1 hb;have:=lj p.2 q.2;exact(pO (fun u e=>(hv p (hp.mem_iff.1 a0) u e).2) (fun u e=>(hv q a1 u e).2)).1 (by omega)
def I6 (_:Nat):Prop:=True
theorem OV.any {o:Option JV}(h:OV P w v o):OV I6 w v o:=by
 cases o with
 |none=>exact h
 |some j=>exact VW.imp h fun _ _ _=>trivial
def m8 (w:World)(L:List Vj):Prop:= ∀p∈L,OV I6 w p.1 p.2/\IG p.2
theorem m8.below {L:List Vj}(h:m8 w L)(hb:Below w.heap.size w w'):m8 w' L:=fun p hp=>⟨(h p hp).1.later hb,(h p hp).2⟩
theorem m8.cmp {L:List Vj}(h:m8 w L)(hP:cG w)(hG:ce w aU aE){p q:Vj}(hp:p∈L)(hq:q∈L):Calls Tryz.prog 7 #[p.1,q.1] w (gI (bY p.2 q.2) w):=
 fP (h p hp).1 (h q hq).1 hP hG (fun j e=>((h p hp).2 j e).1) (fun j e=>((h q hq).2 j e).1)
noncomputable def Iw:Option JV->Option JV->Bool
 |some a,some b=>sW a b
 |_,_=>false
theorem m8.eq {L:List Vj}(h:m8 w L)(hP:cG w){p q:Vj}(hp:p∈L)(hq:q∈L):Calls Tryz.prog 8 #[p.1,q.1] w fun e w'=>e =.returned (.bool (Iw p.2 q.2))/\Below w.heap.size w w':=by
 have h1:=(h p hp).1;have h2:=(h q hq).1;obtain⟨pv,po⟩:=p;obtain⟨qv,qo⟩:=q
 cases po with
 |none=>exact nr h1 h2 (.inl rfl)
 |some a=>cases qo with
  |none=>exact nr h1 h2 (.inr rfl)
  |some b=>exact pl h1 h2 hP
theorem m8.ways {L:List Vj}(h:m8 w L){p q:Vj}(hp:p∈L)(hq:q∈L):(Iw p.2 q.2=true/\bY p.2 q.2=0)\/(Iw p.2 q.2=false/\(∃t x,p.1 =.iface t x)/\bY p.2 q.2≠0)\/(Iw p.2 q.2=false/\p.1 =.nilIface/\q.1 =.nilIface/\bY p.2 q.2=0)\/(Iw p.2 q.2=false/\p.1 =.nilIface/\(∃t x,q.1 =.iface t x)/\bY p.2 q.2≠0):=by
 have h1:=(h p hp).1;have h2:=(h q hq).1;have hz:=pO (a:=p.2) (b:=q.2) (fun u e=>((h p hp).2 u e).2) (fun u e=>((h q hq).2 u e).2);obtain⟨pv,po⟩:=p;obtain⟨qv,qo⟩:=q;simp only at h1 h2 hz ⊢
 cases po with
 |none=>
  cases qo with
  |none=>exact .inr (.inr (.inl ⟨rfl,h1,h2,hz.2 rfl⟩))
  |some b=>exact .inr (.inr (.inr ⟨rfl,h1,VW.iface h2,fun e=>by cases hz.1 e⟩))
 |some a=>cases qo with
  |none=>exact .inr (.inl ⟨rfl,VW.iface h1,fun e=>by cases hz.1 e⟩)
  |some b=>
   by_cases e:a=b
   ·exact .inl ⟨cX.2 e,hz.2 (by rw[e])⟩
   ·exact .inr (.inl ⟨jt.2 e,VW.iface h1,fun h=>e (Zi (hz.1 h))⟩)
theorem AD (w:World)(a b c:Obj):Hid ((((w.alloc a).alloc b).alloc c).heap[w.heap.size]?=some a)/\Hid ((((w.alloc a).alloc b).alloc c).heap[w.heap.size+1]?=some b)/\Hid ((((w.alloc a).alloc b).alloc c).heap[w.heap.size+2]?=some c)/\Hid (Below w.heap.size w (((w.alloc a).alloc b).alloc c)):=by
 obtain⟨h1,h2,h3,-⟩:=Ez w a b;have h4:=Zf ((w.alloc a).alloc b) c;rw[World.size_alloc,World.size_alloc] at h4;exact⟨ai h1.out (ac _ c),ai h2.out (ac _ c),h4,h3.out.trans ((ac _ c).mono h3.out.size)⟩
theorem GE {a b c:Value}(ha:a =.nilIface\/∃t x,a =.iface t x)(hb:b =.nilIface\/∃t x,b =.iface t x)(hc:c =.nilIface\/∃t x,c =.iface t x)(w:World):(Instr.buildSlice 34 3 #[(0,a),(1,b),(2,c)]).run Tryz.prog w =.ok (.slice (some ⟨w.heap.size,0,none⟩) 3 3) (w.alloc (.cells #[a,b,c] 32)):=by
 rcases ha with rfl|⟨ta,xa,rfl⟩ <;> rcases hb with rfl|⟨tb,xb,rfl⟩ <;> rcases hc with rfl|⟨tc,xc,rfl⟩ <;> kernel_rfl
theorem Km {ops:Array Oper}{rest:List Oper}{o:Oper}{a:Act}{Q:Exit->Act->World->Prop}{x y z:Operand}{v1 v2 v3:Value}(hr:(Instr.buildSlice 34 3 #[(0,v1),(1,v2),(2,v3)]).run Tryz.prog w =.ok (.slice (some ⟨w.heap.size,0,none⟩) 3 3) (w.alloc (.cells #[v1,v2,v3] 32)))
  (h:wpList Tryz.prog ops Q rest (a.put o.dst (.slice (some ⟨w.heap.size,0,none⟩) 3 3)) (w.alloc (.cells #[v1,v2,v3] 32))) (ho:o.op =.buildSlice 34 3 #[(0,x),(1,y),(2,z)]:=by exact rfl) (hg:o.guard=none:=by exact rfl)
  (h1:a.eval x=v1:=by exact rfl) (h2:a.eval y=v2:=by exact rfl) (h3:a.eval z=v3:=by exact rfl):wpList Tryz.prog ops Q (o::rest) a w:=
 wpList_plain hg fun K hK=>by
  unfold Oper.wp execOp;simp only[ho,Sem.run_bind,List.map_toArray,List.map_cons,List.map_nil,h1,h2,h3,hr,Result.andThen_ok];exact hK _ _ h
theorem Sl.lies (h:Sl w (.slice A n c) us)(h0:0<us.length):∃g o,A=some ⟨g,o,none⟩/\∀ (i:Nat) (u:Value),us[i]?=some u->w.cell? ⟨g,o+i,none⟩=some u:=by
 obtain⟨-,A',c',e,-,hA⟩:=h;obtain⟨rfl,-,-⟩:=Value.slice.inj e;exact hA h0
def ll (x:Option JV)(l:List Vj):Nat:=l.countP fun q=>decide (bY x q.2=0)
theorem pu {x:Option JV}{l:List Vj}{q:Vj}(h:l[i]?=some q):ll x (l.take (i+1))=ll x (l.take i)+if bY x q.2=0 then 1 else 0:=by
 unfold ll;rw[bQ h,List.countP_append,List.countP_singleton]
 congr 1
 by_cases h:bY x q.2=0 <;> simp[h]
