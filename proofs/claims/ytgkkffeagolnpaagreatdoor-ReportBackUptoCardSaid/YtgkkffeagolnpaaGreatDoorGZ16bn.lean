import Derived.Test.YtgkkffeagolnpaaGreatDoorGZ16bm
set_option linter.unusedVariables false
set_option linter.unusedSimpArgs false
set_option maxHeartbeats 64000000
set_option maxRecDepth 100000
namespace Go.Proofs.YtgkkffeagolnpaaGreatDoor
variable {aE aU:Addr}{f:Fr}{j:JV}{l ns ts:List ByteArray}{frs:List Fr}{ks:List JV}{xs ys:List UInt8}{us:List Value}{L base g n:Nat}{P:Nat->Prop}{A:Option Addr}{ty:TypeId}{nv v v' x:Value}{w w' w1:World}
inductive Sm (L:Nat):JV->Prop
 |mk (k:Int) (t:Bool) (s:ByteArray) (d:Dc) (ns:List ByteArray) (ks:List JV):s.size<=L->ks.length<=L->(∀u∈ks,Sm L u)->ns.Pairwise iC->(∀n∈ns,dd n)->Sm L (.mk k t s d ns ks)
def Fm (L:Nat)(f:Fr):Prop:=(∀u∈f.items,Sm L u)/\∀m∈f.mems,Sm L m.2
def Ee (L:Nat)(c:bR):Prop:=(∀f∈c.frs,Fm L f)/\∀j,c.done=some j->Sm L j
section
variable {L:Nat}
theorem qy (h:∀f∈frs,Fm L f)(hj:Sm L j):Ee L (bD frs j):=by
 cases frs with
 |nil=>exact⟨by simp[bD],fun i e=>by simp[bD] at e;rw[<-e];exact hj⟩
 |cons f fs=>
  obtain⟨h1,h2⟩:=h f (by simp)
  cases ho:f.obj with
  |true=>
   rw[eK ho];refine⟨fun g hg=>?_,fun i e=>by cases e⟩;rcases List.mem_cons.1 hg with rfl|hg
   ·refine⟨h1,fun m hm=>?_⟩;rcases List.mem_append.1 hm with hm|hm
    ·exact h2 m hm
    ·rw[List.mem_singleton.1 hm];exact hj
   ·exact h g (Zl _ hg)
  |false=>
   rw[dI ho];refine⟨fun g hg=>?_,fun i e=>by cases e⟩;rcases List.mem_cons.1 hg with rfl|hg
   ·refine⟨fun u hu=>?_,h2⟩;rcases List.mem_append.1 hu with hu|hu
    ·exact h1 u hu
    ·rw[List.mem_singleton.1 hu];exact hj
   ·exact h g (Zl _ hg)
theorem zr (h:Fm L f)(hk:f.ok dd)(h1:f.items.length<=L)(h2:f.mems.length<=L):Sm L (cK f):=by
 unfold cK
 split
 ·refine .mk _ _ _ _ _ _ (Zj _) ?_ (fun u hu=>?_) (jc hk.nodup) (fun n hn=>?_)
  ·rw[List.length_map,(dC f.mems).length_eq];exact h2
  ·obtain⟨m,hm,rfl⟩:=List.mem_map.1 hu;exact h.2 m ((dC f.mems).mem_iff.1 hm)
  ·obtain⟨m,hm,rfl⟩:=List.mem_map.1 hn;exact hk.names m ((dC f.mems).mem_iff.1 hm)
 ·exact .mk _ _ _ _ _ _ (Zj _) h1 h.1 .nil (by simp)
def Jd (L:Nat):lx->Prop
 | .str s=>s.size<=L
 | .leaf j=>Sm L j
 | .mark _=>True
theorem CO {s:ByteArray}(h:s.size<=L):Sm L (aZ s):=.mk _ _ _ _ _ _ h (Zj _) (by simp) .nil (by simp)
theorem Fx {c c':bR}{t:lx}(h:Ee L c)(hk:∀f∈c.frs,f.ok dd)(ht:Jd L t)(hc:cQ c.frs<=L)(hs:bH c t=some c'):Ee L c':=by
 obtain⟨frs,want,done⟩:=c;obtain⟨h1,h2⟩:=h;simp only at h1 h2 hc hk
 cases t with
 |leaf j=>
  simp only[bH] at hs
  split at hs
  ·obtain rfl:=Zi hs;exact qy h1 ht
  ·cases hs
 |str s=>
  simp only[bH] at hs
  split at hs
  ·cases frs with
   |nil=>cases hs
   |cons f fs=>
    try simp only at hs
    split at hs
    ·cases hs
    ·obtain rfl:=Zi hs;refine⟨fun g hg=>?_,fun i e=>by cases e⟩;rcases List.mem_cons.1 hg with rfl|hg
     ·exact h1 f (by simp)
     ·exact h1 g (Zl _ hg)
  ·split at hs
   ·obtain rfl:=Zi hs;exact qy h1 (CO ht)
   ·cases hs
 |mark x=>
  simp only[bH] at hs
  split at hs
  case isFalse=>cases hs
  try simp only at hs
  have a0:∀o,Fm L ⟨o, [], [],none⟩:=fun o=>⟨by simp,by simp⟩
  split at hs
  ·obtain rfl:=Zi hs;exact⟨fun g hg=>(List.mem_cons.1 hg).elim (fun e=>e▸a0 false) (h1 g),fun i e=>by cases e⟩
  ·split at hs
   ·obtain rfl:=Zi hs;exact⟨fun g hg=>(List.mem_cons.1 hg).elim (fun e=>e▸a0 true) (h1 g),fun i e=>by cases e⟩
   ·cases frs with
    |nil=>cases hs
    |cons f fs=>
     try simp only at hs
     have a1:=iA f fs
     split at hs
     ·obtain rfl:=Zi hs;exact qy (fun g hg=>h1 g (Zl _ hg)) (zr (h1 f (by simp)) (hk f (by simp)) (by omega) (by omega))
     ·split at hs
      ·obtain rfl:=Zi hs;exact⟨h1,fun i e=>by cases e⟩
      ·obtain rfl:=Zi hs;exact⟨h1,fun i e=>by cases e⟩
theorem Fo {t:lx}(hl:4*xs.length<=L)(h:bK xs=some (t,n)):Jd L t:=by
 cases t with
 |mark c=>trivial
 |leaf j=>
  have hj:=kl h
  cases hj with
  |null=>exact .mk _ _ _ _ _ _ (Zj _) (Zj _) (by simp) .nil (by simp)
  |bool b=>exact .mk _ _ _ _ _ _ (Zj _) (Zj _) (by simp) .nil (by simp)
  |num d hd=>exact .mk _ _ _ _ _ _ (Zj _) (Zj _) (by simp) .nil (by simp)
 |str s=>
  show s.size<=L
  cases xs with
  |nil=>cases h
  |cons x xs=>
   simp only[bK] at h
   split at h
   ·injection h with h;injection h with h _;cases h
   ·rw[Option.map_eq_some_iff] at h;obtain⟨j,-,h⟩:=h;injection h with h _;cases h
   ·rw[Option.map_eq_some_iff] at h;obtain⟨j,-,h⟩:=h;injection h with h _;cases h
   ·rw[Option.map_eq_some_iff] at h;obtain⟨p,hp,h⟩:=h;injection h with h _
    injection h with h
    subst h;unfold jI at hp
    split at hp
    ·rename_i ys e
     injection e with e1 e2
     subst e2;obtain⟨-,h2⟩:=nh _ _ _ _ _ iK.nil (Zj _) hp;have h3:=lL _ _ _ _ _ hp;rw[List.length_cons] at hl
     show(p.1.toArray).size<=_
     rw[List.size_toArray];omega
    ·cases hp
   ·cases h
theorem EG (hx:xs.length<=1000000000)(hl:4*xs.length<=L):∀ (f:Nat) (c:bR) (k:Nat),gi f c (xs.drop k)=some j->Ee L c->c.ok dd->cQ c.frs<=k->k<=xs.length->Sm L j:=by
 intro f
 induction f with
 |zero=>intro c k h;cases h
 |succ f ih=>
  intro c k a0 hc a2 a4 hk;unfold gi at a0
  cases hdw:(xs.drop k).dropWhile bA with
  |nil=>
   rw[hdw] at a0;simp only at a0
   split at a0
   ·exact hc.2 j a0
   ·cases a0
  |cons y ys=>
   rw[hdw] at a0;simp only at a0
   cases hlx:bK (y::ys) with
   |none=>rw[hlx] at a0;cases a0
   |some tn=>
    obtain⟨t,n⟩:=tn;rw[hlx] at a0;simp only at a0
    cases hsb:bH c t with
    |none=>rw[hsb] at a0;cases a0
    |some c'=>
     rw[hsb] at a0;simp only at a0;have a3:=gU hlx;have hin:(y::ys).length<=xs.length - k:=by
      have h1:=bV (xs.drop k);rw[hdw,List.length_drop] at h1;exact h1
     have h2:=Fo (L:=L) (by omega) hlx;rw[List.length_cons] at a3 hin;have a1:xs.drop (xs.length - (ys.length+1))=y::ys:=by
      have h1:=io (xs.drop k);rw[hdw,List.drop_drop] at h1;have h2:=congrArg List.length h1;rw[List.length_drop,List.length_cons] at h2;rw[<-h1]
      congr 1
      omega
     have h3:=mb hsb;exact ih c' (xs.length - (ys.length+1)+n) (by rw[<-List.drop_drop,a1];exact a0) (Fx hc a2.frs h2 (by omega) hsb) (pA a2 (pM (by rw[List.length_cons];omega) hlx) hsb) (by omega) (by omega)
theorem yt (hx:xs.length<=1000000000)(hl:4*xs.length<=L)(h:dB xs=some j):Sm L j:=
 EG hx hl (xs.length+1) ⟨[],0,none⟩ 0 h ⟨by simp,fun i e=>by cases e⟩ (bR.ok.start dd) (Zb _) (Zj _)
end
open Go.RowKit Go.Shelf
def Jp (L n:Nat)(w:World)(e:Ending)(w':World):Prop:=(∃u l,e =.returned (.tuple #[u,.bool true])/\aV w' w.heap.size u l/\l.length=n/\(∀s∈l,s.size<=L)/\Below w.heap.size w w')\/(e =.returned (.tuple #[.slice none 0 0,.bool false])/\Below w.heap.size w w')
theorem Sm.str (h:Sm L j){s:ByteArray}(e:j=aZ s):s.size<=L:=by
 subst e
 cases h with
 |mk k t s d ns ks h1=>exact h1
theorem VW.asText4 (h:VW P w v j)(hk:j.kindOf=4):∃s,j=aZ s/\v =.iface 78 (.string s):=by
 cases h with
 |text s=>exact⟨s,rfl,rfl⟩
 |_=>cases hk
theorem jL.iface (h:jL P w us ks)(hl:us.length=ks.length):∀u∈us,∃T x,u =.iface T x:=fun u hu=>by
 obtain⟨i,hi⟩:=List.getElem?_of_mem hu;have:=(List.getElem?_eq_some_iff.1 hi).1;exact(h i u ks[i] hi (Zd (by omega))).iface
theorem aV.push {s:ByteArray}(hn:l.length=n)(h:w.ownsRow base 9 1 v' (n+1) (l.map cn ++ [cn s])):aV w base v' (l ++ [s]):=by
 unfold aV;rw[List.map_append,List.length_append,hn];exact h
theorem Bo (h:VW P w v j)(hk:j.kindOf≠6)(hn:kh w nv ts):Calls Tryz.prog 56 #[v,nv] w (Jp L ts.length w):=by
 have a2:=Qa (xd (.inr ⟨P,j,h⟩) (xz h hk));obtain⟨T,y,rfl⟩:=h.iface;obtain⟨hm,A2,c,rfl,-,hc⟩:=hn;clear h hc hk;go_enter Tryz.func56,Tryz.ntmps56;go_wp2_with fail;refine Za a2 ?_;rintro e w1 ⟨t,x,rfl,a0⟩;have a1:=Qa a0;clear a0;go_wp2_with fail;go_ret2;exact .inr ⟨rfl,a1.out⟩
theorem yT (h:eJ P w A us ns ks)(b1:jL P w us ks)(c4:∀u∈ks,Sm L u)(c2:ns.Pairwise iC)(c0:∀n∈ns,dd n)(d1:us.length<=1000000)(hn:kh w nv ts)(b9:∀t∈ts,dd t)(hl:us.length=ts.length) :
  Calls Tryz.prog 56 #[.iface 95 (.pointer A),nv] w (Jp L ts.length w):=by
 have c5:us.length=ks.length:=by obtain⟨g,R,c,-,-,-,h1,-⟩:=id h;exact h1
 obtain⟨hm,A2,c,rfl,-,hc⟩:=hn;have c6:=Qa (fun W=>CK (.pointer A) W);have d2:=Qa (fun W (hb:Below w.heap.size w W)=>eF (h.below hb));have b4:=Qa (fun W (hb:Below w.heap.size w W) t (ht:t∈ts)=>xa (h.below hb) (b1.iface c5) c2 c0 (b9 t ht) d1);have a5:=Qa (fun W (hb:Below w.heap.size w W) (i:Nat) u (hu:us[i]?=some u)=>show ∃k,VW P W u k/\Sm L k from by
  have hi:=(List.getElem?_eq_some_iff.1 hu).1;exact⟨ks[i],(b1 i u _ hu (Zd (by omega))).later hb,c4 _ (List.getElem_mem _)⟩)
 have Hc:=Qa hc;have hne:((us.length:Int) !=ts.length)=false:=by rw[hl];simp
 clear h b1 c4 c2 c0 hc hl b9 c5;go_enter Tryz.func56,Tryz.ntmps56;go_wp2_with fail;refine(c6.out _).mono ?_;rintro e w1 ⟨rfl,c3⟩;have Hb1:=Qa c3;clear c3;go_wp2_with fail;refine(d2.out _ Hb1.out).mono ?_;rintro e w' ⟨rfl,rfl⟩;go_wp2_with fail
 go_loopg [8,31] ts.length (fun m s8 s31 wr=> ∃ (i:Nat) (l:List ByteArray),m+i=ts.length/\s31 =.int .i64 i/\Hid (aV wr w.heap.size s8 l/\l.length=i/\∀s∈l,s.size<=L)/\Hid (Below w.heap.size w wr))
 case atStart=>exact⟨0, [],rfl,rfl,Qa ⟨aV.nil _ _,rfl,by simp⟩,Hb1⟩
 case round=>
  clear Hb1;obtain⟨i,l,hi,rfl,HS,Hb⟩:=hrel;have Hi:=Qa hi
  by_cases hlt:i<ts.length
  ·have b8:(i:Int)<ts.length:=by omega
   obtain⟨t,ht⟩:∃t,ts[i]?=some t:=⟨_,Zd hlt⟩;obtain⟨g,o,rfl,k1⟩:=Hc.out i t ht;have c1:=Zg Hb.out k1;have Hg:=Qa (b4.out wr Hb.out t (Zk ht));clear ht k1 hi;go_wp2_with fail;refine Za Hg ?_;rintro e w2 (⟨i2,u,-,hu,rfl,a1⟩|⟨rfl,-,a1⟩)
   rotate_left
   ·have a3:=Qa (aj Hb.out a1);clear a1 c1;go_wp2_with fail;go_ret2;exact .inr ⟨rfl,a3.out⟩
   have a3:=Qa (aj Hb.out a1);have c7:=Qa (show aV w2 w.heap.size u8 l from ai HS.out.1 a1 (Zb _));obtain⟨k,a2,b3⟩:=a5.out w2 a3.out i2 u hu;clear a1 c1 hu
   by_cases hk4:k.kindOf=4
   ·obtain⟨s,hks,rfl⟩:=a2.asText4 hk4;have Hs:=Qa (b3.str hks);clear a2 b3 hks hk4;go_wp2_with fail;refine(FB (.string s) w2).mono ?_;rintro e w3 ⟨rfl,a0⟩;have b0:=Qa (aj a3.out a0);have c8:=Qa (show aV w3 w.heap.size u8 l from ai c7.out a0 (Zb _));clear a0;have a4:=Qa (show aV (w3.alloc (.cells #[.string s] 9)) w.heap.size u8 l from ai c8.out (aa _ _) (Zb _));have b2:=Qa (aj b0.out (aa w3 (.cells #[.string s] 9)));have a9:=Qa HS.out.2.1;unfold aV at a4;rw[a9.out] at a4;go_wp2_with (at_builtin;refine j3 jx a4.out (av w3 [cn s] 9) b2.out.size ?_ (h1:=(by simp[cn,Value.oneCell'])) (hlen:=by have:=Hi.out;unfold maxLen;omega) (hby:=by have:=Hi.out;omega);intro v' w5 p1 p2 p3;have d0:=Qa p1;have c9:=Qa (aF b2.out a4.out b2.out.size p2);clear p1 p2 p3);go_roundg (ts.length - (i+1))
    case measure=>have:=Hi.out;omega
    case rel=>
     refine⟨i+1,l ++ [s],by have:=Hi.out;omega,by go_num,Qa ⟨aV.push a9.out d0.out,by rw[List.length_append,a9.out];rfl,fun a ha=>?_⟩,c9⟩;rcases List.mem_append.1 ha with ha|ha
     ·exact HS.out.2.2 a ha
     ·rw[List.mem_singleton.1 ha];exact Hs.out
   ·have b5:=Qa (pm (.inr ⟨P,k,a2⟩) (wF a2 hk4));obtain⟨T,y,rfl⟩:=a2.iface;clear a2 b3 hk4;go_wp2_with fail;refine Za b5 ?_;rintro e w3 ⟨t3,x3,rfl,a0⟩;have b0:=Qa (aj a3.out a0);clear a0;go_wp2_with fail;go_ret2;exact .inr ⟨rfl,b0.out⟩
  ·have b8:¬ (i:Int)<ts.length:=by omega
   obtain rfl:i=ts.length:=by omega
   obtain⟨A3,q,rfl,-⟩:=ag HS.out.1;clear hi;go_wp2_with fail;go_ret2;exact .inl ⟨_,l,rfl,HS.out.1,HS.out.2.1,HS.out.2.2,Hb.out⟩
theorem yc (h:eJ P w A us ns ks)(hn:kh w nv ts)(hl:us.length≠ts.length) :
  Calls Tryz.prog 56 #[.iface 95 (.pointer A),nv] w (Jp L ts.length w):=by
 obtain⟨hm,A2,c,rfl,-,hc⟩:=hn;have a3:=Qa (fun W=>CK (.pointer A) W);have a4:=Qa (fun W (hb:Below w.heap.size w W)=>eF (h.below hb));have hne:((us.length:Int)==ts.length)=false:=by rw[beq_eq_false_iff_ne];omega
 have a2:((us.length:Int) !=ts.length)=true:=by simp[bne,hne]
 clear h hc hl;go_enter Tryz.func56,Tryz.ntmps56;go_wp2_with fail;refine(a3.out _).mono ?_;rintro e w1 ⟨rfl,a0⟩;have a1:=Qa a0;clear a0;go_wp2_with fail;refine(a4.out _ a1.out).mono ?_;rintro e w' ⟨rfl,rfl⟩;go_wp2_with fail;go_ret2;exact .inr ⟨rfl,a1.out⟩
theorem yE (h:VW P w v j)(hs:Sm L j)(hL:L<=1000000)(hn:kh w nv ts)(a0:∀t∈ts,dd t):Calls Tryz.prog 56 #[v,nv] w (Jp L ts.length w):=by
 by_cases hk:j.kindOf=6
 ·obtain⟨k,t,s,d,ns,ks⟩:=j;obtain rfl:k=6:=hk
  cases hs with
  |mk _ _ _ _ _ _ h1 h2 h3 h4 h5=>
  obtain⟨A,us,rfl,ho,a1⟩:=h.asObj;have a2:us.length=ks.length:=by obtain⟨g,R,c,-,-,-,h1,-⟩:=id ho;exact h1
  by_cases hl:us.length=ts.length
  ·exact yT ho a1 h3 h4 h5 (by omega) hn a0 hl
  ·exact yc ho hn hl
 ·exact Bo h hk hn
theorem qT (h:EU w v)(p:Int):Calls Tryz.prog 205 #[v,.int .i64 p] w (J9 w):=by
 obtain⟨g,q,a,rfl,hg⟩:=h;have qa:=fun W=>xK ⟨g,0,none⟩ W
 have c0:=ac hg (j:=0) (u:=.int .i64 q) rfl;have c1:=ac hg (j:=1) (u:=bp a) rfl;have HS:=Qa (And.intro c0 c1);clear hg;go_enter Tryz.func205,Tryz.ntmps205;go_wp2_with fail;refine bF (fun w'=>w'.cell? ⟨g,0,none⟩=some (.int .i64 q)/\w'.cell? ⟨g,1,none⟩=some (bp a)) (HS.out) fun a0=>?_
 refine tH 0 a0 ?_;refine tH 1 a0 ?_;refine tH 2 a0 ?_;refine tH 3 a0 ?_;refine tH 4 a0 ?_;refine tH 5 a0 ?_
 try simp only[Act.put,jP,jQ,jR]
 refine tH 6 a0 ?_;refine tH 7 a0 ?_;refine tH 8 a0 ?_;refine tH 9 a0 ?_;refine tH 10 a0 ?_
 try simp only[Act.put,jP,jQ,jR]
 refine rH 11 fun K hK=>?_
 go_simp;refine hK.out _ _ (And.intro (Zg (aa _ _).drew HS.out.1) (Zg (aa _ _).drew HS.out.2)) (fun a0=>?_);clear hK K
 try simp only[Act.put,jP,jQ,jR]
 refine tH 12 a0 ?_;refine tH 13 a0 ?_
 try simp only[Act.put,jP,jQ,jR]
 refine wpAnyH_done (by kernel_rfl) (NoPanic.normal ?_) _;go_wp2_with fail;go_ret;exact⟨_,rfl,⟨_,_,a,rfl,Zf _ _⟩,(aa _ _).drew⟩
def rT (w:World)(e:Ending)(w':World):Prop:= ∃t x,e =.returned (.tuple #[.nilIface,.int .i64 0,.iface t x])/\Below w.heap.size w w'
section
variable {w:World}{g k k0:Nat}{v:Value}{xs:List UInt8}{aU aE:Addr}
theorem qf (hE:lg w aU aE)(hT:aO w 18)(h:kE w g v xs k0)(hl:xs.length<=1000000000){x:UInt8}(hx:xs[k]?=some x)(hk:bo x=0\/bo x=1):Calls Tryz.prog 183 #[.pointer (some ⟨g,0,none⟩),.int .i64 k] w (rT w):=by
 obtain⟨hg,hb⟩:=h;obtain⟨hm,A,cap,rfl,b0,a0⟩:=id hb;have c0:=ac hg (j:=0) (u:=.slice A xs.length cap) rfl;obtain⟨hlt,a5⟩:=List.getElem?_eq_some_iff.1 hx;obtain⟨b,o,rfl,a2⟩:=a0 (by omega);have a4:am xs k=x.toNat:=by unfold am;rw[List.getD_eq_getElem?_getD,hx];rfl
 have ck:=a2 k hlt;rw[a4] at ck;have a9:=Qa (bt x hE.begins);have b5:(k:Int)<=xs.length:=by omega
 have b3:(0:Int)< (xs.length - k:Nat):=by omega
 have b1:0<xs.length - k:=by omega
 have b4:¬cap=k:=by omega
 obtain⟨aT,hT⟩:=hT;clear hg hb a0 a2 hx a5 a4 hE;rcases hk with hk|hk
 all_goals
  go_enter Tryz.func183,Tryz.ntmps183;go_wp2_with fail;refine Za a9 ?_;rintro e w' ⟨rfl,rfl⟩;rw[hk];go_wp2_with fail;refine(i1 aT k w).mono ?_;rintro e w1 ⟨v1,rfl,⟨g1,p1,a1,rfl,-⟩,a3⟩;have b2:=Qa a3;clear a3;go_wp2_with fail;go_ret3;exact⟨_,_,rfl,b2.out⟩
theorem ui (hE:lg w aU aE)(h:kE w g v xs k0)(hl:xs.length<=1000000000){x:UInt8}(hx:xs[k]?=some x)(hk:bo x=5)(hp:jI (xs.drop k)=none):Calls Tryz.prog 183 #[.pointer (some ⟨g,0,none⟩),.int .i64 k] w (rT w):=by
 obtain⟨hg,hb⟩:=h;obtain⟨hm,A,cap,rfl,b3,a0⟩:=id hb;have c0:=ac hg (j:=0) (u:=.slice A xs.length cap) rfl;obtain⟨hlt,b2⟩:=List.getElem?_eq_some_iff.1 hx;obtain⟨b,o,rfl,a4⟩:=a0 (by omega);have b1:am xs k=x.toNat:=by unfold am;rw[List.getD_eq_getElem?_getD,hx];rfl
 have ck:=a4 k hlt;rw[b1] at ck;have a3:=Qa (bt x hE.begins);have c3:(k:Int)<=xs.length:=by omega
 have c1:(0:Int)< (xs.length - k:Nat):=by omega
 have b8:0<xs.length - k:=by omega
 have c2:¬cap=k:=by omega
 have b0:=Qa (jS (show Bs w (.slice (some ⟨b,o+k,none⟩) (xs.length - k) (cap - k)) (xs.drop k) from hb.cut (Nat.le_of_lt hlt)) hE.glob hE.quote hE.escape hE.surrogate hE.control (by rw[List.length_drop];omega));rw[hp] at b0;clear hg hb a0 a4 hx b2 b1 hE hp;go_enter Tryz.func183,Tryz.ntmps183;go_wp2_with fail;refine Za a3 ?_;rintro e w' ⟨rfl,rfl⟩;rw[hk];clear hk a3;go_wp2_with fail;refine Za b0 ?_;rintro e w1 (⟨q,hq,-⟩|⟨-,v1,rfl,hv,a5⟩)
 ·cases hq
 have b4:=Qa (qT hv k);have b9:=Qa a5;obtain⟨g1,p1,a1,rfl,-⟩:=hv;clear a5;go_wp2_with fail;refine Za b4 ?_;rintro e w2 ⟨v2,rfl,⟨g2,p2,a2,rfl,-⟩,a9⟩;have b5:=Qa (aj b9.out a9);clear a9;go_wp2_with fail;go_ret3;exact⟨_,_,rfl,b5.out⟩
theorem vS (hE:lg w aU aE)(h:kE w g v xs k0)(hl:xs.length<=1000000000){x:UInt8}(hx:xs[k]?=some x)(hk:bo x=4)(hp:lD (xs.drop k)=none):Calls Tryz.prog 183 #[.pointer (some ⟨g,0,none⟩),.int .i64 k] w (rT w):=by
 obtain⟨hg,hb⟩:=h;obtain⟨hm,A,cap,rfl,b4,a0⟩:=id hb;have c0:=ac hg (j:=0) (u:=.slice A xs.length cap) rfl;obtain⟨hlt,b3⟩:=List.getElem?_eq_some_iff.1 hx;obtain⟨b,o,rfl,a5⟩:=a0 (by omega);have b2:am xs k=x.toNat:=by unfold am;rw[List.getD_eq_getElem?_getD,hx];rfl
 have ck:=a5 k hlt;rw[b2] at ck;have a4:=Qa (bt x hE.begins);have c4:(k:Int)<=xs.length:=by omega
 have c2:(0:Int)< (xs.length - k:Nat):=by omega
 have b9:0<xs.length - k:=by omega
 have c3:¬cap=k:=by omega
 have b1:=Qa (jz (show Bs w (.slice (some ⟨b,o+k,none⟩) (xs.length - k) (cap - k)) (xs.drop k) from hb.cut (Nat.le_of_lt hlt)) (by rw[List.length_drop];omega) hE.goes hE.number hE.exponent);rw[hp] at b1;clear hg hb a0 a5 hx b3 b2 hE hp;go_enter Tryz.func183,Tryz.ntmps183;go_wp2_with fail;refine Za a4 ?_;rintro e w' ⟨rfl,rfl⟩;rw[hk];clear hk a4;go_wp2_with fail;refine Za b1 ?_;rintro e w1 ⟨a9,v1,rfl,hv⟩;have a3:=aa w1 (.cells #[.bool false,.string ⟨#[]⟩,.int .i64 0] 311);have b5:=Qa (qT (hv.below a3) k);have c1:=Qa (aj a9 a3);obtain⟨g1,p1,a1,rfl,-⟩:=hv;clear a9 a3;go_wp2_with fail;refine Za b5 ?_;rintro e w2 ⟨v2,rfl,⟨g2,p2,a2,rfl,-⟩,b0⟩;have b8:=Qa (aj c1.out b0);clear b0;go_wp2_with fail;go_ret3;exact⟨_,_,rfl,b8.out⟩
theorem tY {l:List UInt8}(h:kW l=none):CG l=false:=by
 unfold kW at h;unfold CG
 by_cases h1:l = [110,117,108,108]
 ·rw[if_pos h1] at h;cases h
 ·rw[if_neg h1] at h
  by_cases h2:l = [116,114,117,101]
  ·rw[if_pos h2] at h;cases h
  ·rw[if_neg h2] at h
   by_cases h3:l = [102,97,108,115,101]
   ·rw[if_pos h3] at h;cases h
   ·simp[h1,h2,h3]
theorem qZ (hE:lg w aU aE)(hT:aO w 18)(h:kE w g v xs k0)(hl:xs.length<=1000000000){x:UInt8}(hx:xs[k]?=some x)(hk:bo x=3)(hp:kW (x:: (xs.drop (k+1)).takeWhile cv)=none):Calls Tryz.prog 183 #[.pointer (some ⟨g,0,none⟩),.int .i64 k] w (rT w):=by
 obtain⟨aT,hT⟩:=hT;obtain⟨hg,hb⟩:=h;obtain⟨hm,A,cap,rfl,d4,a0⟩:=id hb;have c0:=ac hg (j:=0) (u:=.slice A xs.length cap) rfl;obtain⟨hlt,b9⟩:=List.getElem?_eq_some_iff.1 hx;obtain⟨b,o,rfl,b3⟩:=a0 (by omega);have d0:am xs k=x.toNat:=by unfold am;rw[List.getD_eq_getElem?_getD,hx];rfl
 have ck:=b3 k hlt;rw[d0] at ck;have c6:=Qa (bt x hE.begins);have e2:(k:Int)<=xs.length:=by omega
 have d9:(0:Int)< (xs.length - k:Nat):=by omega
 have d6:0<xs.length - k:=by omega
 have e1:¬cap=k:=by omega
 have hd:xs.drop k=x::xs.drop (k+1):=by rw[List.drop_eq_getElem_cons hlt,b9]
 have hcut:Bs w (.slice (some ⟨b,o+k,none⟩) (xs.length - k) (cap - k)) (xs.drop k):=hb.cut (Nat.le_of_lt hlt);have c7:=tY hp;obtain⟨tw,a5⟩:∃tw,tw= ((xs.drop (k+1)).takeWhile cv).length:=⟨_,rfl⟩;have hin:∀i,i<tw->∃c,xs[k+ (i+1)]?=some c/\cv c=true:=fun i hi=>by
  rw[a5] at hi;obtain⟨c,h1,h2⟩:=F1 hi;rw[List.getElem?_drop] at h1;exact⟨c,by rw[<-h1];congr 1;omega,h2⟩
 have a9:∀c,xs[k+ (tw+1)]?=some c->cv c=false:=fun c hc=>by
  refine Bg (l:=xs.drop (k+1)) ?_;rw[<-a5,List.getElem?_drop,<-hc];congr 1;omega
 have d3:tw+1<=xs.length - k:=by
  have:=(List.takeWhile_prefix cv (l:=xs.drop (k+1))).length_le;rw[<-a5,List.length_drop] at this;omega
 have c5:(xs.drop k).take (tw+1)=x:: (xs.drop (k+1)).takeWhile cv:=by rw[hd,List.take_succ_cons,a5,xA]
 have b0:(convert 28 9 (.slice (some ⟨b,o+k,none⟩) (tw+1) (cap - k))).run Tryz.prog w =.ok (.string ⟨(x:: (xs.drop (k+1)).takeWhile cv).toArray⟩) w:=by
  rw[<-c5];exact aI (hcut.upto (by rw[List.length_drop];omega))
 have c2:∀i c,i<xs.length - k->xs[k+i]?=some c->w.cell? ⟨b,o+k+i,none⟩=some (.int .u8 c.toNat):=fun i c hi hc=>by
  have h1:=b3 (k+i) (by omega);have h2:am xs (k+i)=c.toNat:=by unfold am;rw[List.getD_eq_getElem?_getD,hc];rfl
  rw[h2,<-Nat.add_assoc] at h1;exact h1
 have c1:=Qa c2;have d2:=Qa hin;have b5:=Qa a9;have c9:=Qa c7;have b4:=Qa b0;clear hp hd c5;generalize (x:: (xs.drop (k+1)).takeWhile cv)=wl at *;have e3:tw+1<=cap - k:=by omega
 clear hcut c7 hin a9 b0 c2 a5;clear hg hb a0 b3 hx b9 d0 hE;go_enter Tryz.func183,Tryz.ntmps183;go_wp2_with fail;refine Za c6 ?_;rintro e w' ⟨rfl,rfl⟩;rw[hk];clear hk c6;go_wp2_with fail
 go_loopg [8] tw (fun m s8 wr=> ∃n:Nat,m+n=tw/\s8 =.int .i64 (n+1:Nat)/\wr=w)
 case atStart=>exact⟨0,rfl,rfl,rfl⟩
 case round=>
  obtain⟨n,b1,rfl,rfl⟩:=hrel;have a2:((n+1:Nat):Int)= (n:Int)+1:=by omega
  obtain⟨z,hz⟩:∃z:Int,((n+1:Nat):Int)=z:=⟨_,rfl⟩
  by_cases hlt2:n<tw
  ·obtain⟨c,a3,c8⟩:=d2.out n hlt2;have a0:=c1.out (n+1) c (by omega) a3;have c3:((n+1:Nat):Int)< (xs.length - k:Nat):=by omega
   have c4:n+1<xs.length - k:=by omega
   have s1:IntKind.i64.wrap ((n:Int)+1+1)= (n:Int)+1+1:=IntWalk.i64_in _ (by omega);have b2:=Qa c8;have Hmn:=Qa b1;clear b1 a3 c8 a2 hz;go_wp2_with fail;refine(ec c _).mono ?_;rintro e w' ⟨rfl,rfl⟩;rw[b2.out];go_wp2_with fail;go_roundg (tw - (n+1))
   case measure=>have:=Hmn.out;omega
   case rel=>exact⟨n+1,by have:=Hmn.out;omega,by go_num,rfl⟩
  ·obtain rfl:n=tw:=by omega
   have Hmn:=Qa b1;have d1:n+1<=xs.length - k:=d3;have q1:(0:Int)<=(n:Int)+1:=by omega
   have q2:(n:Int)+1<=(cap - k:Nat):=by omega
   have e0:=b4.out;have e4:((n:Int)+1).toNat=n+1:=by omega
   have d5:¬ (cap - k=0):=by omega
   clear b1 a2 hz hlt2
   by_cases hend:n+1=xs.length - k
   ·have c3:¬ (n:Int)+1< (xs.length - k:Nat):=by omega
    have c4:¬n+1<xs.length - k:=by omega
    clear hend;go_wp2_with fail;refine(eQ wl _).mono ?_;rintro e w' ⟨rfl,rfl⟩;rw[c9.out];go_wp2_with fail;refine(i1 aT k _).mono ?_;rintro e w1 ⟨v1,rfl,⟨g1,p1,a1,rfl,-⟩,a4⟩;have b8:=Qa a4;clear a4;go_wp2_with fail;go_ret3;exact⟨_,_,rfl,b8.out⟩
   ·obtain⟨c,a3⟩:∃c,xs[k+ (n+1)]?=some c:=⟨_,Zd (by omega)⟩;have a0:=c1.out (n+1) c (by omega) a3;have c3:(n:Int)+1< (xs.length - k:Nat):=by omega
    have c4:n+1<xs.length - k:=by omega
    have b2:=Qa (b5.out c a3);clear hend a3;go_wp2_with fail;refine(ec c _).mono ?_;rintro e w' ⟨rfl,rfl⟩;rw[b2.out];go_wp2_with fail;refine(eQ wl _).mono ?_;rintro e w' ⟨rfl,rfl⟩;rw[c9.out];go_wp2_with fail;refine(i1 aT k _).mono ?_;rintro e w1 ⟨v1,rfl,⟨g1,p1,a1,rfl,-⟩,a4⟩;have b8:=Qa a4;clear a4;go_wp2_with fail;go_ret3;exact⟨_,_,rfl,b8.out⟩
theorem pL (hE:lg w aU aE)(hT:aO w 18)(h:kE w g v xs k0)(hl:xs.length<=1000000000)(hk:k<xs.length)(hx:bK (xs.drop k)=none):Calls Tryz.prog 183 #[.pointer (some ⟨g,0,none⟩),.int .i64 k] w (rT w):=by
 obtain⟨x,a1⟩:∃x,xs[k]?=some x:=⟨_,Zd hk⟩;obtain⟨hlt,a2⟩:=List.getElem?_eq_some_iff.1 a1;have hd:xs.drop k=x::xs.drop (k+1):=by rw[List.drop_eq_getElem_cons hlt,a2]
 have a0:=hx;rw[hd] at a0;simp only[bK] at a0
 split at a0
 ·cases a0
 ·rename_i hk
  rw[Option.map_eq_none_iff] at a0;exact qZ hE hT h hl a1 hk a0
 ·rename_i hk
  rw[Option.map_eq_none_iff,<-hd] at a0;exact vS hE h hl a1 hk a0
 ·rename_i hk
  rw[Option.map_eq_none_iff,<-hd] at a0;exact ui hE h hl a1 hk a0
 ·rename_i h2 h3 h4 h5
  refine qf hE hT h hl a1 ?_;have:bo x<=5:=by unfold bo;(repeat' split) <;> omega
  generalize bo x=n at *
  match n,this,h2,h3,h4,h5 with
  |0,_,_,_,_,_=>exact .inl rfl
  |1,_,_,_,_,_=>exact .inr rfl
  |2,_,h,_,_,_=>exact(h rfl).elim
  |3,_,_,h,_,_=>exact(h rfl).elim
  |4,_,_,_,h,_=>exact(h rfl).elim
  |5,_,_,_,_,h=>exact(h rfl).elim
end
def JN (w:World)(e:Ending)(w':World):Prop:= ∃t x,e =.returned (.tuple #[.nilIface,.iface t x])/\Below w.heap.size w w'
theorem qc {k:Nat}(hE:lg w aU aE)(hT:aO w 18)(h:kE w g v xs k)(hk:k<=xs.length)(hl:xs.length<=1000000000){y:UInt8}(hd:(xs.drop k).dropWhile bA=y::ys)(hx:bK (y::ys)=none):Calls Tryz.prog 166 #[.pointer (some ⟨g,0,none⟩)] w (JN w):=by
 obtain⟨hg,hb⟩:=id h;obtain⟨hm,A,cap,rfl,d1,a0⟩:=id hb;obtain⟨tw,a4⟩:∃tw,tw= ((xs.drop k).takeWhile bA).length:=⟨_,rfl⟩;have a5:=io (xs.drop k);rw[hd,<-a4,List.drop_drop] at a5;have b8:=congrArg List.length a5;rw[List.length_drop,List.length_cons] at b8;have d5:tw+k<=xs.length:=by
  have:=(List.takeWhile_prefix bA (l:=xs.drop k)).length_le;rw[<-a4,List.length_drop] at this;omega
 have hin:∀i,i<tw->∃c,xs[k+i]?=some c/\(((bo c:Nat):Int)==1)=true:=fun i hi=>by
  rw[a4] at hi;obtain⟨c,h1,h2⟩:=z8 hi;rw[List.getElem?_drop] at h1;exact⟨c,h1,by rw[gB];exact h2⟩
 have c0:=ac hg (j:=0) (u:=.slice A xs.length cap) rfl;have c1:=ac hg (j:=1) (u:=.int .i64 k) rfl;have f1:=al hg 1;have d2:xs.length - (ys.length+1)=k+tw:=by omega
 have c8:k+tw<xs.length:=by omega
 have a9:xs[k+tw]?=some y:=by
  have:=congrArg (·[0]?) a5;simpa [List.getElem?_drop] using this
 have b3:bA y=false:=by
  refine C6 (l:=xs.drop k) ?_;rw[<-a4,List.getElem?_drop];exact a9
 rw[<-a5] at hx;have c9:=Qa (pL hE hT h hl c8 hx);have b4:(((bo y:Nat):Int)==1)=false:=by rw[gB];exact b3
 have d3:=Qa b4;have c5:=Qa a9;clear a9 b3 hx b4 d2;have d0:=Qa hin;have a1:=Qa a0;have HB:=Qa hE.begins;clear hd a5 hin b8 hg hb a0 h hE hT a4;go_enter Tryz.func166,Tryz.ntmps166;go_wp2_with fail
 go_loopg [4] tw (fun m s4 wr=> ∃n0:Nat,m+n0=tw/\s4 =.int .i64 (k+n0:Nat)/\wr=w)
 case atStart=>exact⟨0,rfl,rfl,rfl⟩
 case round=>
  obtain⟨n0,b2,rfl,rfl⟩:=hrel;have a2:((k+n0:Nat):Int)= (k:Int)+n0:=by omega
  by_cases hlt2:n0<tw
  ·obtain⟨c,c2,b9⟩:=d0.out n0 hlt2;obtain⟨b,o,rfl,a3⟩:=a1.out (by omega);have b1:=a3 (k+n0) (by omega);have h2:am xs (k+n0)=c.toNat:=by unfold am;rw[List.getD_eq_getElem?_getD,c2];rfl
   rw[h2] at b1;have c6:(k:Int)+n0<xs.length:=by omega
   have c7:k+n0<xs.length:=by omega
   have s1:IntKind.i64.wrap (((k+n0:Nat):Int)+1)= ((k+ (n0+1):Nat):Int):=by rw[IntWalk.i64_in _ (by omega)];omega
   have c3:=Qa b9;have Hmn:=Qa b2;have b0:=Qa (bt c HB.out);clear b2 c2 b9 a2 a3 h2;go_wp2_with fail;refine Za b0 ?_;rintro e w' ⟨rfl,rfl⟩;have c4:=c3.out;go_wp2_with fail;go_roundg (tw - (n0+1))
   case measure=>have:=Hmn.out;omega
   case rel=>exact⟨n0+1,by have:=Hmn.out;omega,rfl,rfl⟩
  ·obtain rfl:n0=tw:=by omega
   obtain⟨b,o,rfl,a3⟩:=a1.out (by omega);have b1:=a3 (k+n0) (by omega);have h2:am xs (k+n0)=y.toNat:=by unfold am;rw[List.getD_eq_getElem?_getD,c5.out];rfl
   rw[h2] at b1;have c6:(k:Int)+n0<xs.length:=by omega
   have c7:k+n0<xs.length:=by omega
   have hne:(((k+n0:Nat):Int)== (xs.length:Int))=false:=by simp only[beq_eq_false_iff_ne];omega
   have b0:=Qa (bt y HB.out);clear b2 a2 hlt2 a3 h2 d5;go_wp2_with fail;refine Za b0 ?_;rintro e w' ⟨rfl,rfl⟩;have c4:=d3.out;go_wp2_with fail;(try rw[show(k:Int)+n0= ((k+n0:Nat):Int) from by omega]);refine Za c9 ?_;rintro e w1 ⟨t,x,rfl,b5⟩;have d4:=Qa b5;clear b5;go_wp2_with fail;go_ret2;exact⟨_,_,rfl,d4.out⟩
def tq (w:World)(e:Ending)(w':World):Prop:= ∃t x,e =.panicked [{v:=.iface 231 (.agg #[.iface t x]),recovered:=false}]/\Below w.heap.size w w'
theorem tq.low {e:Ending}(h:tq w1 e w')(hb:Below w.heap.size w w1):tq w e w':=by
 obtain⟨t,x,h1,h2⟩:=h;exact⟨t,x,h1,aj hb h2⟩
theorem ir (t:TypeId)(x:Value)(w:World):Calls Tryz.prog 167 #[.iface t x] w (tq w):=by
 go_enter Tryz.func167,Tryz.ntmps167;go_wp2_with fail;exact⟨rfl,_,_,rfl,Ze _ _⟩
theorem zE (k:Int){c:Int}(w:World):Calls Tryz.prog 316 #[.agg #[.int .i64 k,.int .u8 c]] w fun e w'=>e =.returned (.int .i64 k)/\Below w.heap.size w w':=by
 have a0:=aa w (.cells #[.int .i64 k,.int .u8 c] 293);go_enter Tryz.func316,Tryz.ntmps316;go_wp2_with fail;go_ret;exact⟨rfl,a0⟩
theorem Cc (k:Int){s:ByteArray}(w:World):Calls Tryz.prog 318 #[.agg #[.int .i64 k,.string s]] w fun e w'=>e =.returned (.int .i64 k)/\Below w.heap.size w w':=by
 have a0:=aa w (.cells #[.int .i64 k,.string s] 296);go_enter Tryz.func318,Tryz.ntmps318;go_wp2_with fail;go_ret;exact⟨rfl,a0⟩
theorem CJ (k:Int){b:Bool}{s:ByteArray}{x:Int}(w:World):Calls Tryz.prog 324 #[.agg #[.int .i64 k,.bool b,.string s,.int .i64 x]] w fun e w'=>e =.returned (.int .i64 k)/\Below w.heap.size w w':=by
 have a0:=aa w (.cells #[.int .i64 k,.bool b,.string s,.int .i64 x] 338);go_enter Tryz.func324,Tryz.ntmps324;go_wp2_with fail;go_ret;exact⟨rfl,a0⟩
theorem CP {t:TypeId}{k:Nat}{T:lx}{d:Nat}{op:Op}{pos:String}{af:Array Edge}{gu:Option (Nat×Bool)}{a:Act}{K:Act->World->Prop}{Q':Exit->Act->World->Prop}(hv:eV k T =.iface t x)(kk:∀w',Below w.heap.size w w'->K (a.put (some d) (.int .i64 k)) w'):Oper.upon Tryz.prog {dst:=some d,op:=op,type:=ty,pos:=pos,after:=af,guard:=gu} a K Q' ((Sem.run Tryz.prog (method 525 t x "Pos") w).andThen fun a w'=>Sem.run Tryz.prog (callFunc a.fst #[a.snd]) w'):=by
 obtain⟨h1,h2⟩|h3:(∃j,T =.leaf j/\j.kindOf≠3)\/¬∃j,T =.leaf j/\j.kindOf≠3:=Classical.em _
 ·obtain⟨rfl,h2⟩:=h2;rw[eV,if_neg h2] at hv;injection hv with e1 e2
  subst e1 e2;go_wp2_with fail;refine(j4 _ _).mono ?_;rintro e w1 ⟨rfl,a0⟩;exact kk w1 a0
 ·cases T with
  |mark c=>
   injection hv with e1 e2
   subst e1 e2;go_wp2_with fail;refine(zE _ _).mono ?_;rintro e w1 ⟨rfl,a0⟩;exact kk w1 a0
  |str s=>
   injection hv with e1 e2
   subst e1 e2;go_wp2_with fail;refine(Cc _ _).mono ?_;rintro e w1 ⟨rfl,a0⟩;exact kk w1 a0
  |leaf j=>
   have h4:j.kindOf=3:=Classical.byContradiction fun h=>h3 ⟨j,rfl,h⟩
   rw[eV,if_pos h4] at hv;injection hv with e1 e2
   subst e1 e2;go_wp2_with fail;refine(CJ _ _).mono ?_;rintro e w1 ⟨rfl,a0⟩;exact kk w1 a0
theorem oJ {k:Nat}{T:lx}{t:TypeId}(hv:eV k T =.iface t x)(hS:aO w 5):Calls Tryz.prog 184 #[.iface t x] w (tq w):=by
 obtain⟨a,hS⟩:=hS;have Hv:=Qa hv;clear hv;go_enter Tryz.func184,Tryz.ntmps184;refine wp_region_held_drew (S:=fun w'=>w'.cell? ⟨5,0,none⟩=some (bp a)) (by kernel_rfl) (hS) (fun a0=>?_);refine tH 0 a0 ?_;refine tH 2 a0 ?_
 try simp only[Act.put,jP,jQ,jR]
 refine rH 1 fun K hK=>?_
 go_simp;refine CP Hv.out fun w1 a2=>?_;have a1:=Qa (show Below w.heap.size w w1 from aj (Ze _ _).drew a2);clear a2;go_wp2_with fail
 refine hK.out _ _ (Zg a1.out hS) (fun a0=>?_);clear hK K
 try simp only[Act.put,jP,jQ,jR]
 refine tH 3 a0 ?_
 try simp only[Act.put,jP,jQ,jR]
 refine rH 4 fun K hK=>?_
 go_simp;refine hK.out _ _ (Zg (aj a1.out (aa _ _)) hS) (fun a0=>?_);clear hK K
 try simp only[Act.put,jP,jQ,jR]
 refine tH 5 a0 ?_
 try simp only[Act.put,jP,jQ,jR]
 refine rH 6 fun K hK=>?_
 go_simp;refine(ir _ _ _).mono ?_;rintro e w' hf;obtain⟨t,x,rfl,hb⟩:=hf.low (aj a1.out (aa _ _));exact⟨rfl,_,_,rfl,hb⟩
