import Derived.Test.YtohibglohlfjfaaGreatDoorGZ6ay
set_option linter.unusedVariables false
set_option linter.unusedSimpArgs false
set_option maxHeartbeats 64000000
set_option maxRecDepth 100000
namespace Go.Proofs.YtohibglohlfjfaaGreatDoor
open Go.RowKit Go.Shelf
variable {xs:List UInt8}{g i k0 m:Nat}{v:Value}{w w' w1:World}
theorem qW (a d:Nat)(ha:a<1000000000)(hd:d<16):bits .or .i64 (((a*16:Nat)):Int) (d:Int)= ((a*16+d:Nat):Int):=by
 have h1:a*16 |||d=a*16+d:=by
  have:=Nat.shiftLeft_add_eq_or_of_lt (i:=4) (b:=d) (by omega) a;rw[Nat.shiftLeft_eq] at this;exact this.symm
 have e:bits .or .i64 (((a*16:Nat)):Int) (d:Int)=IntKind.i64.wrap (((BitVec.ofInt 64 ((a*16:Nat):Int) |||BitVec.ofInt 64 (d:Int)).toNat:Nat):Int):=rfl;rw[e,BitVec.toNat_or,BitVec.ofInt_natCast,BitVec.ofInt_natCast,BitVec.toNat_ofNat,BitVec.toNat_ofNat,Nat.mod_eq_of_lt (by omega),Nat.mod_eq_of_lt (by omega),h1];exact IntWalk.i64_in _ (by omega)
def bl (xs:List UInt8)(i:Nat):Nat->Option Nat
 |0=>some 0
 |k+1=>match bl xs i k,xs[i+k]? with
  |some a,some c=>(ib c).map fun d=>a*16+d
  |_,_=>none
theorem mG {c:UInt8}{d:Nat}(h:ib c=some d):d<16:=by
 unfold ib at h
 split at h
 ·injection h with h;omega
 ·split at h
  ·injection h with h;omega
  ·split at h
   ·injection h with h;omega
   ·cases h
theorem iB:∀ {k x:Nat},bl xs i k=some x->x<16 ^ k
 |0,x,h=>by simp[bl] at h;subst h;decide
 |k+1,x,h=>by
  unfold bl at h
  cases ha:bl xs i k with
  |none=>rw[ha] at h;cases h
  |some a=>
   cases hc:xs[i+k]? with
   |none=>rw[ha,hc] at h;cases h
   |some c=>
    rw[ha,hc] at h;simp only[Option.map_eq_some_iff] at h;obtain⟨d,hd,rfl⟩:=h;have:=iB ha;have:=mG hd;rw[Nat.pow_succ];omega
theorem gW {k:Nat}(h:bl xs i k=none):∀m,bl xs i (k+m)=none
 |0=>h
 |m+1=>by
  have:=gW h m
  show bl xs i (k+m+1)=none
  unfold bl;rw[this]
theorem io (xs:List UInt8)(i:Nat):cM (xs.drop i)=bl xs i 4:=by
 have g:∀j,xs[i+j]?= (xs.drop i)[j]?:=fun j=>by rw[List.getElem?_drop]
 simp only[bl,g];generalize xs.drop i=ys;rcases ys with _|⟨a,_|⟨b,_|⟨c,_|⟨d,t⟩⟩⟩⟩
 ·rfl
 ·simp[cM]
 ·simp[cM]
 ·simp[cM]
 ·simp only[cM,bind,pure,Option.bind];rcases ha:ib a with _|a1 <;> rcases hb:ib b with _|b1 <;> rcases hc:ib c with _|c1 <;> rcases hd:ib d with _|d1 <;> simp[ha,hb,hc,hd]
def Jw (r:Option Nat)(w:World)(e:Ending)(w':World):Prop:=(∃x,r=some x/\e =.returned (.int .i64 x)/\w=w')\/(r=none/\iY w e w')
def Ig (xs:List UInt8)(i:Nat)(w:World)(s7 s11:Value)(wr:World):Prop:= ∃k x:Nat,k<=4/\s11 =.int .i64 k/\s7 =.int .i64 x/\bl xs i k=some x/\w=wr
theorem pn (h:sF w g v xs k0)(hE:br w 4)(hS:br w 19)(i:Nat)(hi:i<=2000000000)(b:Int):Calls Tryz.prog 252 #[.pointer (some ⟨g,0,none⟩),.int .i64 i,.int .i64 b] w fun e w'=>Jw (cM (xs.drop i)) w e w':=by
 rw[io];have H:=Qa h;have HE:=Qa hE;obtain⟨aS,a3⟩:=hS;clear h hE;go_enter Tryz.func252,Tryz.ntmps252;go_wp2_with fail
 go_loopw [7,8,9,10,11] (fun s7 _ _ _ s11 wr=>Ig xs i w s7 s11 wr) (fun _ _ _ _ s11 _=>4 - (intOf s11).toNat)
 case atStart=>exact⟨0,0,by omega,rfl,rfl,rfl,rfl⟩
 case round=>
  obtain⟨k,x,hk,rfl,rfl,hf,rfl⟩:=hrel;have a0:=iB hf;have Hf:=Qa hf
  by_cases h4:k<4
  ·have a5:(k:Int)<4:=by omega
   have a4:x<65536:=Nat.lt_of_lt_of_le a0 (Zc (Nat.pow_le_pow_right (by decide) hk) (by decide));clear hf a0;go_wp2_with fail;rw[show(i:Int)+k= ((i+k:Nat):Int) from by omega];refine(jV H.out HE.out (i+k)).mono ?_;rintro e w' (⟨hlt,rfl,rfl⟩|⟨a2,vP,rfl,hv,hb⟩)
   ·obtain⟨c,hc⟩:∃c,xs[i+k]?=some c:=⟨_,Zd hlt⟩;have a1:am xs (i+k)=c.toNat:=by unfold am;rw[List.getD_eq_getElem?_getD,hc];rfl
    rw[a1];have Hc:=Qa hc;clear hc a1 hlt;go_wp2_with fail;refine(dm c w).mono ?_;rintro e w' ⟨rfl,rfl⟩;rcases hh:ib c with _|d
    ·have Hn:=Qa (show bl xs i 4=none from by
      have h1:bl xs i (k+1)=none:=by unfold bl;rw[Hf.out,Hc.out];simp[hh]
      obtain⟨m,hm⟩:∃m,4=k+1+m:=⟨3 - k,by omega⟩;rw[hm];exact gW h1 m)
     unfold kX;clear hh;go_wp2_with fail;refine(bm b aS w).mono ?_;rintro e w' ⟨vP,rfl,hv,hb⟩;have Hv:=Qa hv;have Hb:=Qa hb;clear hv hb;go_wp2_with fail;exact⟨rfl,.inr ⟨Hn.out,vP,rfl,Hv.out,Hb.out⟩⟩
    ·have hd:=mG hh;have Hs:=Qa (show bl xs i (k+1)=some (x*16+d) from by unfold bl;rw[Hf.out,Hc.out];simp[hh]);have or1:=qW x d (by omega) hd;have sh1:((x*16:Nat):Int)= (x:Int)*16:=by omega
     rw[sh1] at or1;unfold kX;clear hh sh1;go_wp2_with fail;exact⟨⟨k+1,x*16+d,by omega,by go_num,by go_num,Hs.out,rfl⟩,by simp[intOf];omega⟩
   ·have hn:bl xs i (k+1)=none:=by unfold bl;rw[Hf.out,List.getElem?_eq_none a2]
    have Hn:=Qa (show bl xs i 4=none from by
     obtain⟨m,hm⟩:∃m,4=k+1+m:=⟨3 - k,by omega⟩;rw[hm];exact gW hn m)
    have Hv:=Qa hv;have Hb:=Qa hb;clear hv hb hn a2;go_wp2_with fail;exact⟨rfl,.inr ⟨Hn.out,vP,rfl,Hv.out,Hb.out⟩⟩
  ·obtain rfl:k=4:=by omega
   go_wp2_with fail;go_ret;exact .inl ⟨x,Hf.out,rfl,rfl⟩
theorem lB {k y:Nat}(h:bl xs i (k+1)=some y):bl xs i k=some (y/16):=by
 unfold bl at h
 cases ha:bl xs i k with
 |none=>rw[ha] at h;cases h
 |some a=>
  cases hc:xs[i+k]? with
  |none=>rw[ha,hc] at h;cases h
  |some c=>
   rw[ha,hc] at h;simp only[Option.map_eq_some_iff] at h;obtain⟨d,hd,rfl⟩:=h;have:=mG hd
   congr 1;omega
def iw (m y:Nat):Prop:=(m=0/\y=0)\/(m=1/\y=13)\/(m=2/\220<=y/\y<=223)\/(m=3/\3520<=y/\y<=3583)\/(m=4/\56320<=y/\y<=57343)
theorem uk {y:Nat}(hm:m<=4)(h:bl xs i m=some y)(hn:¬iw m y):∀z,bl xs i 4=some z->z<56320\/57343<z:=by
 intro z hz;have h3:=lB hz;have h2:=lB h3;have h1:=lB h2;unfold iw at hn;rcases(by omega:m=0\/m=1\/m=2\/m=3\/m=4) with rfl|rfl|rfl|rfl|rfl
 ·simp[bl] at h;omega
 ·rw[h] at h1;injection h1 with h1;omega
 ·rw[h] at h2;injection h2 with h2;omega
 ·rw[h] at h3;injection h3 with h3;omega
 ·rw[h] at hz;injection hz with hz;omega
theorem nC (h:bl xs i m=none)(hm:m<=4):bl xs i 4=none:=by
 obtain⟨j,hj⟩:∃j,4=m+j:=⟨4 - m,by omega⟩;rw[hj];exact gW h j
theorem FP {k x:Nat}(hx:cM (xs.drop (k+2))=some x):kg (xs.drop (k+2))=if x<55296\/57343<x then some (x,6) else if x>56319\/xs[k+6]?≠some 92\/xs[k+7]?≠some 117 then none else
  match bl xs (k+8) 4 with|none=>none|some y=>if y<56320\/57343<y then none else some (65536+ (x - 55296)*1024+ (y - 56320),12):=by
 have g6:xs[k+6]?= (xs.drop (k+2))[4]?:=by rw[List.getElem?_drop]
 have g7:xs[k+7]?= (xs.drop (k+2))[5]?:=by rw[List.getElem?_drop]
 have g8:bl xs (k+8) 4=cM ((xs.drop (k+2)).drop 6):=by rw[<-io,List.drop_drop]
 rw[g6,g7,g8];generalize xs.drop (k+2)=ys at *;unfold kg;simp only[hx,bind,pure,Option.bind]
 split
 ·rfl
 ·rcases ys with _|⟨a,_|⟨b,_|⟨c,_|⟨d,t⟩⟩⟩⟩
  ·cases hx
  ·simp[cM] at hx
  ·simp[cM] at hx
  ·simp[cM] at hx
  ·rcases t with _|⟨e,_|⟨f,t⟩⟩
   ·simp
   ·simp
   ·simp only[List.drop_succ_cons,List.drop_zero,List.getElem?_cons_succ,List.getElem?_cons_zero,ne_eq,Option.some.injEq]
    split
    ·rfl
    ·cases cM t <;> rfl
def C5 (r:Option (Nat×Nat))(w:World)(e:Ending)(w':World):Prop:=(∃p,r=some p/\e =.returned (.tuple #[.int .i32 p.1,.int .i64 p.2])/\Below w.heap.size w w')\/(r=none/\iY w e w')
theorem Ay {k:Nat}(hx:cM (xs.drop (k+2))=none):kg (xs.drop (k+2))=none:=by
 unfold kg;simp only[hx,bind,Option.bind]
theorem Bc (h:sF w g v xs k0)(hE:br w 4)(hS:br w 19)(i:Nat)(hi:i<=2000000000)(b:Int){x:Nat}(hx:cM (xs.drop i)=some x):Calls Tryz.prog 252 #[.pointer (some ⟨g,0,none⟩),.int .i64 i,.int .i64 b] w fun e w'=>e =.returned (.int .i64 x)/\w=w':=
 (pn h hE hS i hi b).mono fun e w' hq=>by
  rcases hq with ⟨y,hy,he,hw⟩|⟨hn,-⟩
  ·rw[hx] at hy;injection hy with hy;subst hy;exact⟨he,hw⟩
  ·rw[hx] at hn;cases hn
theorem Ca (h:sF w g v xs k0)(hE:br w 4)(hS:br w 19)(i:Nat)(hi:i<=2000000000)(b:Int)(hx:cM (xs.drop i)=none):Calls Tryz.prog 252 #[.pointer (some ⟨g,0,none⟩),.int .i64 i,.int .i64 b] w (iY w):=
 (pn h hE hS i hi b).mono fun e w' hq=>by
  rcases hq with ⟨y,hy,-⟩|⟨-,hf⟩
  ·rw[hx] at hy;cases hy
  ·exact hf
theorem aP {k:Nat}(h:sF w g v xs k)(hE:br w 4)(i:Nat){c:UInt8}(hc:xs[i]?=some c):Calls Tryz.prog 231 #[.pointer (some ⟨g,0,none⟩),.int .i64 i] w fun e w'=>e =.returned (.int .u8 c.toNat)/\w=w':=
 (jV h hE i).mono fun e w' hq=>by
  have hi:=(List.getElem?_eq_some_iff.1 hc).1;rcases hq with ⟨-,he,hw⟩|⟨hn,-⟩
  ·refine⟨?_,hw⟩;rw[he];have:am xs i=c.toNat:=by unfold am;rw[List.getD_eq_getElem?_getD,hc];rfl
   rw[this]
  ·omega
theorem iF {k:Nat}(h:sF w g v xs k)(hE:br w 4)(i:Nat)(hc:xs[i]?=none):Calls Tryz.prog 231 #[.pointer (some ⟨g,0,none⟩),.int .i64 i] w (iY w):=
 (jV h hE i).mono fun e w' hq=>by
  have hi:=List.getElem?_eq_none_iff.1 hc;rcases hq with ⟨hn,-⟩|⟨-,hf⟩
  ·omega
  ·exact hf
theorem iY.low {e:Ending}(h:iY w1 e w')(hb:Below w.heap.size w w1):iY w e w':=by
 obtain⟨v,he,hv,a0⟩:=h;exact⟨v,he,hv,bu hb a0⟩
def GY (xs:List UInt8)(k:Nat)(w:World)(s5 s56:Value)(wr:World):Prop:= ∃m y:Nat,m<=4/\s56 =.int .i64 m/\s5 =.int .i64 y/\bl xs (k+8) m=some y/\iw m y/\w=wr
theorem tO {k:Nat}(h:sF w g v xs k)(hE:br w 4)(hS:br w 19)(hU:br w 20)(hk:k<=1000000000):Calls Tryz.prog 242 #[.pointer (some ⟨g,0,none⟩)] w fun e w'=>C5 (kg (xs.drop (k+2))) w e w':=by
 obtain⟨A,n,q,rfl⟩:∃A n q,v =.slice A n q:=by obtain⟨-,-,A,c,e,-⟩:=h;exact⟨A,_,c,e⟩
 have c1:=aa h.1 (j:=1) (u:=.int .i64 k) rfl;have H:=Qa (show sF w.drew g (.slice A n q) xs k from h);have HE:=Qa (show br w.drew 4 from hE);have HS:=Qa (show br w.drew 19 from hS);have HU:=Qa (show br w.drew 20 from hU);have Hb:=Qa (show Below w.heap.size w w.drew from(Ze _ _).drew);clear h hE hS hU;have e2:((k+2:Nat):Int)= (k:Int)+2:=by omega
 have s1:IntKind.i64.wrap ((k:Int)+2)= (k:Int)+2:=IntWalk.i64_in _ (by omega);rcases hx:cM (xs.drop (k+2)) with _|x
 ·have Hn:=Qa (Ay hx);have Hx:=Qa hx;clear hx;go_enter Tryz.func242,Tryz.ntmps242;go_wp2_with fail;refine wp_region_held_drew (S:=fun w'=>w'.cell? ⟨g,1,none⟩=some (.int .i64 k)) (by kernel_rfl) (c1) (fun a0=>?_);refine tH 0 a0 ?_;refine tH 1 a0 ?_;refine tH 2 a0 ?_;refine tH 3 a0 ?_;refine tH 4 a0 ?_;refine tH 5 a0 ?_
  try simp only[Act.put,jP,jQ,jR]
  refine tH 6 a0 ?_;refine tH 7 a0 ?_;refine tH 8 a0 ?_;refine tH 9 a0 ?_
  try simp only[Act.put,jP,jQ,jR]
  refine rH 10 fun K hK=>?_
  go_simp;(try rw[s1]);rw[<-e2];refine(Ca H.out HE.out HS.out (k+2) (by omega) _ Hx.out).mono ?_;rintro e w' hf;obtain⟨vP,rfl,hv,hb⟩:=hf.low Hb.out;exact⟨rfl,.inr ⟨Hn.out,vP,rfl,hv,hb⟩⟩
 ·have Hq:=Qa (FP hx);have Hx:=Qa hx;have b4:=iB (show bl xs (k+2) 4=some x by rw[<-io];exact hx);have c0:x<65536:=b4;clear hx b4;go_enter Tryz.func242,Tryz.ntmps242;go_wp2_with fail;refine aA (fun w'=>w'.cell? ⟨g,1,none⟩=some (.int .i64 k)) (c1) fun a0=>?_
  refine tH 0 a0 ?_;refine tH 1 a0 ?_;refine tH 2 a0 ?_;refine tH 3 a0 ?_;refine tH 4 a0 ?_;refine tH 5 a0 ?_
  try simp only[Act.put,jP,jQ,jR]
  refine tH 6 a0 ?_;refine tH 7 a0 ?_;refine tH 8 a0 ?_;refine tH 9 a0 ?_
  try simp only[Act.put,jP,jQ,jR]
  refine rH 10 fun K hK=>?_
  go_simp;(try rw[s1]);rw[<-e2];refine(Bc H.out HE.out HS.out (k+2) (by omega) _ Hx.out).mono ?_;rintro e w' ⟨rfl,rfl⟩;refine hK.out _ _ (a0) (fun a0=>?_);clear hK K
  try simp only[Act.put,jP,jQ,jR]
  refine tH 11 a0 ?_
  try simp only[Act.put,jP,jQ,jR]
  refine wpAnyH_done (by kernel_rfl) (NoPanic.normal ?_) _;have c1':w.drew.cell? ⟨g,1,none⟩=some (.int .i64 k):=c1;generalize w.drew=w1 at *;clear c1;obtain⟨aU,a4⟩:=HU.out;have sw:IntKind.i32.wrap (x:Int)=x:=by simp[IntKind.wrap,IntKind.bits,IntKind.signed];omega
  by_cases hA:x<55296
  ·have b5:(x:Int)<55296:=by omega
   have Hr:=Qa (Hq.out.trans (if_pos (.inl hA)));go_wp2_with fail;go_ret2;exact .inl ⟨_,Hr.out,rfl,Hb.out⟩
  by_cases hB:57343<x
  ·have b5:¬ (x:Int)<55296:=by omega
   have b8:(57343:Int)<x:=by omega
   have Hr:=Qa (Hq.out.trans (if_pos (.inr hB)));go_wp2_with fail;go_ret2;exact .inl ⟨_,Hr.out,rfl,Hb.out⟩
  have a3:=Qa (Hq.out.trans (if_neg (by omega)));have b5:¬ (x:Int)<55296:=by omega
  have b8:¬ (57343:Int)<x:=by omega
  by_cases hC:56319<x
  ·have c2:(56319:Int)<x:=by omega
   have Hn:=Qa (a3.out.trans (if_pos (.inl hC)));go_wp2_with fail;refine wp_region_held_drew (S:=fun w'=>w'.cell? ⟨g,1,none⟩=some (.int .i64 k)/\w'.cell? ⟨20,0,none⟩=some (bG aU)) (by kernel_rfl) (⟨c1',a4⟩) (fun a0=>?_);refine tH 0 a0 ?_;refine tH 1 a0 ?_;refine tH 2 a0 ?_;refine tH 3 a0 ?_;refine tH 4 a0 ?_
   try simp only[Act.put,jP,jQ,jR]
   refine rH 5 fun K hK=>?_
   go_simp;refine(bm _ aU _).mono ?_;rintro e w' hf;obtain⟨vP,rfl,hv,hb⟩:=hf.low (show Below w.heap.size w w1.drew from Hb.out.drew);exact⟨rfl,.inr ⟨Hn.out,vP,rfl,hv,hb⟩⟩
  have c2:¬ (56319:Int)<x:=by omega
  rcases h6:xs[k+6]? with _|c6
  ·have Hn:=Qa (a3.out.trans (if_pos (.inr (.inl (by rw[h6];simp)))));have H6:=Qa h6;clear h6;go_wp2_with fail;rw[show(k:Int)+6= ((k+6:Nat):Int) from by omega];refine(iF H.out HE.out (k+6) H6.out).mono ?_;rintro e w' hf;obtain⟨vP,rfl,hv,hb⟩:=hf.low Hb.out;have Hv:=Qa hv;have a9:=Qa hb;clear hv hb hf;go_wp2_with fail;exact⟨rfl,.inr ⟨Hn.out,vP,rfl,Hv.out,a9.out⟩⟩
  have H6:=Qa h6
  by_cases h92:c6.toNat=92
  case neg=>
   have b0:((c6.toNat:Int)==92)=false:=by simp;omega
   have b1:((c6.toNat:Int) !=92)=true:=by simp;omega
   have Hn:=Qa (a3.out.trans (if_pos (.inr (.inl (by rw[h6];intro e;injection e with e;subst e;exact h92 rfl)))));clear h6 h92;go_wp2_with fail;rw[show(k:Int)+6= ((k+6:Nat):Int) from by omega];refine(aP H.out HE.out (k+6) H6.out).mono ?_;rintro e w' ⟨rfl,rfl⟩;go_wp2_with fail;refine wp_region_held_drew (S:=fun w'=>w'.cell? ⟨g,1,none⟩=some (.int .i64 k)/\w'.cell? ⟨20,0,none⟩=some (bG aU)) (by kernel_rfl) (⟨c1',a4⟩) (fun a0=>?_);refine tH 0 a0 ?_;refine tH 1 a0 ?_;refine tH 2 a0 ?_;refine tH 3 a0 ?_;refine tH 4 a0 ?_
   try simp only[Act.put,jP,jQ,jR]
   refine rH 5 fun K hK=>?_
   go_simp;refine(bm _ aU _).mono ?_;rintro e w' hf;obtain⟨vP,rfl,hv,hb⟩:=hf.low (show Below w.heap.size w w1.drew from Hb.out.drew);exact⟨rfl,.inr ⟨Hn.out,vP,rfl,hv,hb⟩⟩
  have b0:((c6.toNat:Int)==92)=true:=by simp;omega
  have b1:((c6.toNat:Int) !=92)=false:=by simp;omega
  obtain rfl:c6=92:=UInt8.toNat_inj.1 (by rw[h92];rfl);rcases h7:xs[k+7]? with _|c7
  ·have Hn:=Qa (a3.out.trans (if_pos (.inr (.inr (by rw[h7];simp)))));have H7:=Qa h7;clear h6 h7 h92;go_wp2_with fail;rw[show(k:Int)+6= ((k+6:Nat):Int) from by omega];refine(aP H.out HE.out (k+6) H6.out).mono ?_;rintro e w' ⟨rfl,rfl⟩;go_wp2_with fail;rw[show(k:Int)+7= ((k+7:Nat):Int) from by omega];refine(iF H.out HE.out (k+7) H7.out).mono ?_;rintro e w' hf;obtain⟨vP,rfl,hv,hb⟩:=hf.low Hb.out;have Hv:=Qa hv;have a9:=Qa hb;clear hv hb hf;go_wp2_with fail;exact⟨rfl,.inr ⟨Hn.out,vP,rfl,Hv.out,a9.out⟩⟩
  have H7:=Qa h7
  by_cases h117:c7.toNat=117
  case neg=>
   have a7:((c7.toNat:Int) !=117)=true:=by simp;omega
   have Hn:=Qa (a3.out.trans (if_pos (.inr (.inr (by rw[h7];intro e;injection e with e;subst e;exact h117 rfl)))));clear h6 h7 h92 h117;go_wp2_with fail;rw[show(k:Int)+6= ((k+6:Nat):Int) from by omega];refine(aP H.out HE.out (k+6) H6.out).mono ?_;rintro e w' ⟨rfl,rfl⟩;go_wp2_with fail;rw[show(k:Int)+7= ((k+7:Nat):Int) from by omega];refine(aP H.out HE.out (k+7) H7.out).mono ?_;rintro e w' ⟨rfl,rfl⟩;go_wp2_with fail;refine wp_region_held_drew (S:=fun w'=>w'.cell? ⟨g,1,none⟩=some (.int .i64 k)/\w'.cell? ⟨20,0,none⟩=some (bG aU)) (by kernel_rfl) (⟨c1',a4⟩) (fun a0=>?_);refine tH 0 a0 ?_;refine tH 1 a0 ?_;refine tH 2 a0 ?_;refine tH 3 a0 ?_;refine tH 4 a0 ?_
   try simp only[Act.put,jP,jQ,jR]
   refine rH 5 fun K hK=>?_
   go_simp;refine(bm _ aU _).mono ?_;rintro e w' hf;obtain⟨vP,rfl,hv,hb⟩:=hf.low (show Below w.heap.size w w1.drew from Hb.out.drew);exact⟨rfl,.inr ⟨Hn.out,vP,rfl,hv,hb⟩⟩
  have a7:((c7.toNat:Int) !=117)=false:=by simp;omega
  obtain rfl:c7=117:=UInt8.toNat_inj.1 (by rw[h117];rfl);have a6:=Qa (a3.out.trans (if_neg (by rw[h6,h7];simp;omega)));clear h6 h7 h92 h117;go_wp2_with fail;rw[show(k:Int)+6= ((k+6:Nat):Int) from by omega];refine(aP H.out HE.out (k+6) H6.out).mono ?_;rintro e w' ⟨rfl,rfl⟩;go_wp2_with fail;rw[show(k:Int)+7= ((k+7:Nat):Int) from by omega];refine(aP H.out HE.out (k+7) H7.out).mono ?_;rintro e w' ⟨rfl,rfl⟩;go_wp2_with fail
  go_loopw [5,6,7,8,56] (fun s5 _ _ _ s56 wr=>GY xs k w1 s5 s56 wr) (fun _ _ _ _ s56 _=>4 - (intOf s56).toNat)
  case atStart=>exact⟨0,0,by omega,rfl,rfl,rfl,.inl ⟨rfl,rfl⟩,rfl⟩
  case round=>
   obtain⟨m,y,hm,rfl,rfl,hf,b7,rfl⟩:=hrel;have Hf:=Qa hf;have a5:=Qa b7;have c4:y<65536:=Nat.lt_of_lt_of_le (iB hf) (Zc (Nat.pow_le_pow_right (by decide) hm) (by decide));clear hf b7
   by_cases h4:m<4
   ·have c5:(m:Int)<4:=by omega
    rcases hc:xs[k+8+m]? with _|c
    ·have Hn:=Qa (show kg (xs.drop (k+2))=none from by
      have h1:bl xs (k+8) (m+1)=none:=by unfold bl;rw[Hf.out,hc]
      rw[a6.out,nC h1 (by omega)])
     have Hc:=Qa hc;clear hc;go_wp2_with fail
     (first|rw[show(k:Int)+8+m= ((k+8+m:Nat):Int) from by omega]|rw[show(k:Int)+8+1= ((k+8+m:Nat):Int) from by omega]|rw[show(k:Int)+9= ((k+8+m:Nat):Int) from by omega]|rw[show(k:Int)+8= ((k+8+m:Nat):Int) from by omega])
     refine(iF H.out HE.out (k+8+m) Hc.out).mono ?_;rintro e w' hf;obtain⟨vP,rfl,hv,hb⟩:=hf.low Hb.out;have Hv:=Qa hv;have a9:=Qa hb;clear hv hb hf;go_wp2_with fail;exact⟨rfl,.inr ⟨Hn.out,vP,rfl,Hv.out,a9.out⟩⟩
    have Hc:=Qa hc;clear hc;rcases hh:ib c with _|d
    ·have HH:=Qa hh;have Hn:=Qa (show kg (xs.drop (k+2))=none from by
      have h1:bl xs (k+8) (m+1)=none:=by unfold bl;rw[Hf.out,Hc.out];simp[hh]
      rw[a6.out,nC h1 (by omega)])
     clear hh;go_wp2_with fail
     (first|rw[show(k:Int)+8+m= ((k+8+m:Nat):Int) from by omega]|rw[show(k:Int)+8+1= ((k+8+m:Nat):Int) from by omega]|rw[show(k:Int)+9= ((k+8+m:Nat):Int) from by omega]|rw[show(k:Int)+8= ((k+8+m:Nat):Int) from by omega])
     refine(aP H.out HE.out (k+8+m) Hc.out).mono ?_;rintro e w' ⟨rfl,rfl⟩;go_wp2_with fail;refine(dm c w1).mono ?_;rintro e w' ⟨rfl,rfl⟩;rw[HH.out];unfold kX;go_wp2_with fail;refine wp_region_held_drew (S:=fun w'=>w'.cell? ⟨g,1,none⟩=some (.int .i64 k)/\w'.cell? ⟨20,0,none⟩=some (bG aU)) (by kernel_rfl) (⟨c1',a4⟩) (fun a0=>?_);refine tH 0 a0 ?_;refine tH 1 a0 ?_;refine tH 2 a0 ?_;refine tH 3 a0 ?_;refine tH 4 a0 ?_
     try simp only[Act.put,jP,jQ,jR]
     refine rH 5 fun K hK=>?_
     go_simp;refine(bm _ aU _).mono ?_;rintro e w' hf;obtain⟨vP,rfl,hv,hb⟩:=hf.low (show Below w.heap.size w w1.drew from Hb.out.drew);exact⟨rfl,.inr ⟨Hn.out,vP,rfl,hv,hb⟩⟩
    have HH:=Qa hh;have a2:=mG hh;clear hh
    by_cases h0:m=0
    ·have b9:((m:Int)==0)=true:=by simp;omega
     have b6:((m:Int)==1)=false:=by simp;omega
     by_cases h13:d=13
     ·have b2:((d:Int) !=13)=false:=by simp;omega
      have Hs:=Qa (show bl xs (k+8) (m+1)=some (y*16+d) from by unfold bl;rw[Hf.out,Hc.out];simp[HH.out]);have a1:=Qa (show iw (m+1) (y*16+d) from by have:=a5.out;unfold iw at this ⊢;omega);(try clear h13);(try clear h0);(try clear h1);(try clear h12);have or1:=qW y d (by omega) a2;have sh1:((y*16:Nat):Int)= (y:Int)*16:=by omega
      rw[sh1] at or1;clear sh1;go_wp2_with fail
      (first|rw[show(k:Int)+8+m= ((k+8+m:Nat):Int) from by omega]|rw[show(k:Int)+8+1= ((k+8+m:Nat):Int) from by omega]|rw[show(k:Int)+9= ((k+8+m:Nat):Int) from by omega]|rw[show(k:Int)+8= ((k+8+m:Nat):Int) from by omega])
      refine(aP H.out HE.out (k+8+m) Hc.out).mono ?_;rintro e w' ⟨rfl,rfl⟩;go_wp2_with fail;refine(dm c w1).mono ?_;rintro e w' ⟨rfl,rfl⟩;rw[HH.out];unfold kX;go_wp2_with fail;exact⟨⟨m+1,y*16+d,by omega,by go_num,by go_num,Hs.out,a1.out,rfl⟩,by simp[intOf];omega⟩
     ·have b2:((d:Int) !=13)=true:=by simp;omega
      have Hn:=Qa (show kg (xs.drop (k+2))=none from by
       have h1:bl xs (k+8) (m+1)=some (y*16+d):=by unfold bl;rw[Hf.out,Hc.out];simp[HH.out]
       have h2:=uk (by omega) h1 (by have:=a5.out;unfold iw at this ⊢;omega);rw[a6.out]
       cases h4:bl xs (k+8) 4 with
       |none=>rfl
       |some z=>exact if_pos (h2 z h4))
      go_wp2_with fail
      (first|rw[show(k:Int)+8+m= ((k+8+m:Nat):Int) from by omega]|rw[show(k:Int)+8+1= ((k+8+m:Nat):Int) from by omega]|rw[show(k:Int)+9= ((k+8+m:Nat):Int) from by omega]|rw[show(k:Int)+8= ((k+8+m:Nat):Int) from by omega])
      refine(aP H.out HE.out (k+8+m) Hc.out).mono ?_;rintro e w' ⟨rfl,rfl⟩;go_wp2_with fail;refine(dm c w1).mono ?_;rintro e w' ⟨rfl,rfl⟩;rw[HH.out];unfold kX;go_wp2_with fail;refine wp_region_held_drew (S:=fun w'=>w'.cell? ⟨g,1,none⟩=some (.int .i64 k)/\w'.cell? ⟨20,0,none⟩=some (bG aU)) (by kernel_rfl) (⟨c1',a4⟩) (fun a0=>?_);refine tH 0 a0 ?_;refine tH 1 a0 ?_;refine tH 2 a0 ?_;refine tH 3 a0 ?_;refine tH 4 a0 ?_
      try simp only[Act.put,jP,jQ,jR]
      refine rH 5 fun K hK=>?_
      go_simp;refine(bm _ aU _).mono ?_;rintro e w' hf;obtain⟨vP,rfl,hv,hb⟩:=hf.low (show Below w.heap.size w w1.drew from Hb.out.drew);exact⟨rfl,.inr ⟨Hn.out,vP,rfl,hv,hb⟩⟩
    ·have b9:((m:Int)==0)=false:=by simp;omega
     by_cases h1:m=1
     ·have b6:((m:Int)==1)=true:=by simp;omega
      by_cases h12:d<12
      ·have b3:(d:Int)<12:=by omega
       have Hn:=Qa (show kg (xs.drop (k+2))=none from by
        have h1:bl xs (k+8) (m+1)=some (y*16+d):=by unfold bl;rw[Hf.out,Hc.out];simp[HH.out]
        have h2:=uk (by omega) h1 (by have:=a5.out;unfold iw at this ⊢;omega);rw[a6.out]
        cases h4:bl xs (k+8) 4 with
        |none=>rfl
        |some z=>exact if_pos (h2 z h4))
       go_wp2_with fail
       (first|rw[show(k:Int)+8+m= ((k+8+m:Nat):Int) from by omega]|rw[show(k:Int)+8+1= ((k+8+m:Nat):Int) from by omega]|rw[show(k:Int)+9= ((k+8+m:Nat):Int) from by omega]|rw[show(k:Int)+8= ((k+8+m:Nat):Int) from by omega])
       refine(aP H.out HE.out (k+8+m) Hc.out).mono ?_;rintro e w' ⟨rfl,rfl⟩;go_wp2_with fail;refine(dm c w1).mono ?_;rintro e w' ⟨rfl,rfl⟩;rw[HH.out];unfold kX;go_wp2_with fail;refine wp_region_held_drew (S:=fun w'=>w'.cell? ⟨g,1,none⟩=some (.int .i64 k)/\w'.cell? ⟨20,0,none⟩=some (bG aU)) (by kernel_rfl) (⟨c1',a4⟩) (fun a0=>?_);refine tH 0 a0 ?_;refine tH 1 a0 ?_;refine tH 2 a0 ?_;refine tH 3 a0 ?_;refine tH 4 a0 ?_
       try simp only[Act.put,jP,jQ,jR]
       refine rH 5 fun K hK=>?_
       go_simp;refine(bm _ aU _).mono ?_;rintro e w' hf;obtain⟨vP,rfl,hv,hb⟩:=hf.low (show Below w.heap.size w w1.drew from Hb.out.drew);exact⟨rfl,.inr ⟨Hn.out,vP,rfl,hv,hb⟩⟩
      ·have b3:¬ (d:Int)<12:=by omega
       have Hs:=Qa (show bl xs (k+8) (m+1)=some (y*16+d) from by unfold bl;rw[Hf.out,Hc.out];simp[HH.out]);have a1:=Qa (show iw (m+1) (y*16+d) from by have:=a5.out;unfold iw at this ⊢;omega);(try clear h13);(try clear h0);(try clear h1);(try clear h12);have or1:=qW y d (by omega) a2;have sh1:((y*16:Nat):Int)= (y:Int)*16:=by omega
       rw[sh1] at or1;clear sh1;go_wp2_with fail
       (first|rw[show(k:Int)+8+m= ((k+8+m:Nat):Int) from by omega]|rw[show(k:Int)+8+1= ((k+8+m:Nat):Int) from by omega]|rw[show(k:Int)+9= ((k+8+m:Nat):Int) from by omega]|rw[show(k:Int)+8= ((k+8+m:Nat):Int) from by omega])
       refine(aP H.out HE.out (k+8+m) Hc.out).mono ?_;rintro e w' ⟨rfl,rfl⟩;go_wp2_with fail;refine(dm c w1).mono ?_;rintro e w' ⟨rfl,rfl⟩;rw[HH.out];unfold kX;go_wp2_with fail;exact⟨⟨m+1,y*16+d,by omega,by go_num,by go_num,Hs.out,a1.out,rfl⟩,by simp[intOf];omega⟩
     ·have b6:((m:Int)==1)=false:=by simp;omega
      have Hs:=Qa (show bl xs (k+8) (m+1)=some (y*16+d) from by unfold bl;rw[Hf.out,Hc.out];simp[HH.out]);have a1:=Qa (show iw (m+1) (y*16+d) from by have:=a5.out;unfold iw at this ⊢;omega);(try clear h13);(try clear h0);(try clear h1);(try clear h12);have or1:=qW y d (by omega) a2;have sh1:((y*16:Nat):Int)= (y:Int)*16:=by omega
      rw[sh1] at or1;clear sh1;go_wp2_with fail
      (first|rw[show(k:Int)+8+m= ((k+8+m:Nat):Int) from by omega]|rw[show(k:Int)+8+1= ((k+8+m:Nat):Int) from by omega]|rw[show(k:Int)+9= ((k+8+m:Nat):Int) from by omega]|rw[show(k:Int)+8= ((k+8+m:Nat):Int) from by omega])
      refine(aP H.out HE.out (k+8+m) Hc.out).mono ?_;rintro e w' ⟨rfl,rfl⟩;go_wp2_with fail;refine(dm c w1).mono ?_;rintro e w' ⟨rfl,rfl⟩;rw[HH.out];unfold kX;go_wp2_with fail;exact⟨⟨m+1,y*16+d,by omega,by go_num,by go_num,Hs.out,a1.out,rfl⟩,by simp[intOf];omega⟩
   ·obtain rfl:m=4:=by omega
    have c3:56320<=y/\y<=57343:=by have:=a5.out;unfold iw at this;omega
    have Hr:=Qa (show kg (xs.drop (k+2))=some (65536+ (x - 55296)*1024+ (y - 56320),12) from by
     rw[a6.out,Hf.out];exact if_neg (by omega))
    obtain⟨z,hz⟩:∃z:Nat,65536+ (x - 55296)*1024+ (y - 56320)=z:=⟨_,rfl⟩;have hzb:z<1114112:=by omega
    have sz:IntKind.i32.wrap (z:Int)=z:=by simp[IntKind.wrap,IntKind.bits,IntKind.signed];omega
    have ez:65536+ ((x:Int) - 55296)*1024+y - 56320=z:=by omega
    rw[hz] at Hr;clear hz;go_wp2_with fail;go_ret2;exact .inl ⟨_,Hr.out,rfl,Hb.out⟩
theorem C5.low {r:Option (Nat×Nat)}{e:Ending}(h:C5 r w1 e w')(hb:Below w.heap.size w w1):C5 r w e w':=by
 rcases h with ⟨p,h1,h2,h3⟩|⟨h1,h2⟩
 ·exact .inl ⟨p,h1,h2,bu hb h3⟩
 ·exact .inr ⟨h1,h2.low hb⟩
theorem xw {c:UInt8}{t:List UInt8}(h:¬ (c=98\/c=116\/c=110\/c=102\/c=114\/c=34\/c=92\/c=47\/c=117)):tL (c::t)=none:=by
 unfold tL
 split <;> first|rfl|(rename_i e;injection e with e _;subst e;simp at h)
theorem sv {k:Nat}(h:sF w g v xs k)(hE:br w 4)(hS:br w 19)(hU:br w 20)(hk:k<=1000000000):Calls Tryz.prog 232 #[.pointer (some ⟨g,0,none⟩)] w fun e w'=>C5 (tL (xs.drop (k+1))) w e w':=by
 have c1:=aa h.1 (j:=1) (u:=.int .i64 k) rfl;have H:=Qa h;have HE:=Qa hE;have a3:=Qa (tO h hE hS hU hk);obtain⟨aS,a2⟩:=hS;clear h hE hU;rcases hc:xs[k+1]? with _|c
 ·have Hn:=Qa (show tL (xs.drop (k+1))=none by rw[List.drop_of_length_le (List.getElem?_eq_none_iff.1 hc)];rfl);have Hc:=Qa hc;clear hc;go_enter Tryz.func232,Tryz.ntmps232;go_wp2_with fail;rw[show(k:Int)+1= ((k+1:Nat):Int) from by omega];refine(iF H.out HE.out (k+1) Hc.out).mono ?_;rintro e w' ⟨vP,rfl,hv,hb⟩;have Hv:=Qa hv;have a1:=Qa hb;clear hv hb;go_wp2_with fail;exact⟨rfl,.inr ⟨Hn.out,vP,rfl,Hv.out,a1.out⟩⟩
 have hd:xs.drop (k+1)=c::xs.drop (k+2):=by
  obtain⟨hlt,he⟩:=List.getElem?_eq_some_iff.1 hc;rw[List.drop_eq_getElem_cons hlt,he]
 rw[hd];have Hc:=Qa hc;clear hc hd
 by_cases h98:c=98
 ·subst h98;go_enter Tryz.func232,Tryz.ntmps232;go_wp2_with fail;rw[show(k:Int)+1= ((k+1:Nat):Int) from by omega];refine(aP H.out HE.out (k+1) Hc.out).mono ?_;rintro e w' ⟨rfl,rfl⟩;rw[show(98:UInt8).toNat=98 from rfl];go_wp2_with fail;go_ret2;exact .inl ⟨(8,2),rfl,rfl,Ze _ _⟩
 by_cases h116:c=116
 ·subst h116;go_enter Tryz.func232,Tryz.ntmps232;go_wp2_with fail;rw[show(k:Int)+1= ((k+1:Nat):Int) from by omega];refine(aP H.out HE.out (k+1) Hc.out).mono ?_;rintro e w' ⟨rfl,rfl⟩;rw[show(116:UInt8).toNat=116 from rfl];go_wp2_with fail;go_ret2;exact .inl ⟨(9,2),rfl,rfl,Ze _ _⟩
 by_cases h110:c=110
 ·subst h110;go_enter Tryz.func232,Tryz.ntmps232;go_wp2_with fail;rw[show(k:Int)+1= ((k+1:Nat):Int) from by omega];refine(aP H.out HE.out (k+1) Hc.out).mono ?_;rintro e w' ⟨rfl,rfl⟩;rw[show(110:UInt8).toNat=110 from rfl];go_wp2_with fail;go_ret2;exact .inl ⟨(10,2),rfl,rfl,Ze _ _⟩
 by_cases h102:c=102
 ·subst h102;go_enter Tryz.func232,Tryz.ntmps232;go_wp2_with fail;rw[show(k:Int)+1= ((k+1:Nat):Int) from by omega];refine(aP H.out HE.out (k+1) Hc.out).mono ?_;rintro e w' ⟨rfl,rfl⟩;rw[show(102:UInt8).toNat=102 from rfl];go_wp2_with fail;go_ret2;exact .inl ⟨(12,2),rfl,rfl,Ze _ _⟩
 by_cases h114:c=114
 ·subst h114;go_enter Tryz.func232,Tryz.ntmps232;go_wp2_with fail;rw[show(k:Int)+1= ((k+1:Nat):Int) from by omega];refine(aP H.out HE.out (k+1) Hc.out).mono ?_;rintro e w' ⟨rfl,rfl⟩;rw[show(114:UInt8).toNat=114 from rfl];go_wp2_with fail;go_ret2;exact .inl ⟨(13,2),rfl,rfl,Ze _ _⟩
 by_cases h34:c=34
 ·subst h34;go_enter Tryz.func232,Tryz.ntmps232;go_wp2_with fail;rw[show(k:Int)+1= ((k+1:Nat):Int) from by omega];refine(aP H.out HE.out (k+1) Hc.out).mono ?_;rintro e w' ⟨rfl,rfl⟩;rw[show(34:UInt8).toNat=34 from rfl];go_wp2_with fail;go_ret2;exact .inl ⟨(34,2),rfl,rfl,Ze _ _⟩
 by_cases h92:c=92
 ·subst h92;go_enter Tryz.func232,Tryz.ntmps232;go_wp2_with fail;rw[show(k:Int)+1= ((k+1:Nat):Int) from by omega];refine(aP H.out HE.out (k+1) Hc.out).mono ?_;rintro e w' ⟨rfl,rfl⟩;rw[show(92:UInt8).toNat=92 from rfl];go_wp2_with fail;go_ret2;exact .inl ⟨(92,2),rfl,rfl,Ze _ _⟩
 by_cases h47:c=47
 ·subst h47;go_enter Tryz.func232,Tryz.ntmps232;go_wp2_with fail;rw[show(k:Int)+1= ((k+1:Nat):Int) from by omega];refine(aP H.out HE.out (k+1) Hc.out).mono ?_;rintro e w' ⟨rfl,rfl⟩;rw[show(47:UInt8).toNat=47 from rfl];go_wp2_with fail;go_ret2;exact .inl ⟨(47,2),rfl,rfl,Ze _ _⟩
 by_cases h117:c=117
 ·subst h117;go_enter Tryz.func232,Tryz.ntmps232;go_wp2_with fail;rw[show(k:Int)+1= ((k+1:Nat):Int) from by omega];refine(aP H.out HE.out (k+1) Hc.out).mono ?_;rintro e w' ⟨rfl,rfl⟩;rw[show(117:UInt8).toNat=117 from rfl];go_wp2_with fail;refine Za a3 ?_;rintro e w' (⟨p,hp,rfl,hb⟩|⟨hn,vP,rfl,hv,hb⟩)
  ·have Hp:=Qa hp;have Hb:=Qa hb;obtain⟨p1,p2⟩:=p;clear hp hb
   dsimp only
   go_wp2_with fail;go_ret2;exact .inl ⟨(p1,p2),Hp.out,rfl,Hb.out⟩
  ·have Hn:=Qa hn;have Hv:=Qa hv;have a1:=Qa hb;clear hn hv hb;go_wp2_with fail;exact⟨rfl,.inr ⟨Hn.out,vP,rfl,Hv.out,a1.out⟩⟩
 have Hn:=Qa (xw (c:=c) (t:=xs.drop (k+2)) (by rintro(e|e|e|e|e|e|e|e|e) <;> contradiction));have n98:((c.toNat:Int)==98)=false:=by simp only[beq_eq_false_iff_ne];intro e;exact h98 (UInt8.toNat_inj.1 (by show c.toNat=98;omega))
 have n116:((c.toNat:Int)==116)=false:=by simp only[beq_eq_false_iff_ne];intro e;exact h116 (UInt8.toNat_inj.1 (by show c.toNat=116;omega))
 have n110:((c.toNat:Int)==110)=false:=by simp only[beq_eq_false_iff_ne];intro e;exact h110 (UInt8.toNat_inj.1 (by show c.toNat=110;omega))
 have n102:((c.toNat:Int)==102)=false:=by simp only[beq_eq_false_iff_ne];intro e;exact h102 (UInt8.toNat_inj.1 (by show c.toNat=102;omega))
 have n114:((c.toNat:Int)==114)=false:=by simp only[beq_eq_false_iff_ne];intro e;exact h114 (UInt8.toNat_inj.1 (by show c.toNat=114;omega))
 have n34:((c.toNat:Int)==34)=false:=by simp only[beq_eq_false_iff_ne];intro e;exact h34 (UInt8.toNat_inj.1 (by show c.toNat=34;omega))
 have n92:((c.toNat:Int)==92)=false:=by simp only[beq_eq_false_iff_ne];intro e;exact h92 (UInt8.toNat_inj.1 (by show c.toNat=92;omega))
 have n47:((c.toNat:Int)==47)=false:=by simp only[beq_eq_false_iff_ne];intro e;exact h47 (UInt8.toNat_inj.1 (by show c.toNat=47;omega))
 have n117:((c.toNat:Int)==117)=false:=by simp only[beq_eq_false_iff_ne];intro e;exact h117 (UInt8.toNat_inj.1 (by show c.toNat=117;omega))
 clear h98 h116 h110 h102 h114 h34 h92 h47 h117;go_enter Tryz.func232,Tryz.ntmps232;go_wp2_with fail;rw[show(k:Int)+1= ((k+1:Nat):Int) from by omega];refine(aP H.out HE.out (k+1) Hc.out).mono ?_;rintro e w' ⟨rfl,rfl⟩;go_wp2_with fail;refine wp_region_held_drew (S:=fun w'=>w'.cell? ⟨g,1,none⟩=some (.int .i64 k)/\w'.cell? ⟨19,0,none⟩=some (bG aS)) (by kernel_rfl) (⟨c1,a2⟩) (fun a0=>?_);refine tH 0 a0 ?_;refine tH 1 a0 ?_;refine tH 2 a0 ?_;refine tH 3 a0 ?_;refine tH 4 a0 ?_
 try simp only[Act.put,jP,jQ,jR]
 refine rH 5 fun K hK=>?_
 go_simp;refine(bm _ aS _).mono ?_;rintro e w' hf;obtain⟨vP,rfl,hv,hb⟩:=hf.low (show Below w.heap.size w w.drew from(Ze _ _).drew);exact⟨rfl,.inr ⟨Hn.out,vP,rfl,hv,hb⟩⟩
