import Derived.Test.YtafobflehfecpaaGreatDoorGZ15ak
set_option linter.unusedVariables false
set_option linter.unusedSimpArgs false
set_option maxHeartbeats 64000000
set_option maxRecDepth 100000
namespace Go.Proofs.YtafobflehfecpaaGreatDoor
open Go.RowKit Go.Shelf
variable {xs:List UInt8}{g i k0:Nat}{v:Value}{w w' w1:World}
theorem oN (a d:Nat)(ha:a<1000000000)(hd:d<16):bits .or .i64 (((a*16:Nat)):Int) (d:Int)= ((a*16+d:Nat):Int):=by
 have h1:a*16 |||d=a*16+d:=by
  have:=Nat.shiftLeft_add_eq_or_of_lt (i:=4) (b:=d) (by omega) a;rw[Nat.shiftLeft_eq] at this;exact this.symm
 have e:bits .or .i64 (((a*16:Nat)):Int) (d:Int)=IntKind.i64.wrap (((BitVec.ofInt 64 ((a*16:Nat):Int) |||BitVec.ofInt 64 (d:Int)).toNat:Nat):Int):=rfl;rw[e,BitVec.toNat_or,BitVec.ofInt_natCast,BitVec.ofInt_natCast,BitVec.toNat_ofNat,BitVec.toNat_ofNat,Nat.mod_eq_of_lt (by omega),Nat.mod_eq_of_lt (by omega),h1];exact IntWalk.i64_in _ (by omega)
def aV (xs:List UInt8)(i:Nat):Nat->Option Nat
 |0=>some 0
 |k+1=>match aV xs i k,xs[i+k]? with
  |some a,some c=>(fi c).map fun d=>a*16+d
  |_,_=>none
theorem kM {c:UInt8}{d:Nat}(h:fi c=some d):d<16:=by
 unfold fi at h
 split at h
 ·injection h with h;omega
 ·split at h
  ·injection h with h;omega
  ·split at h
   ·injection h with h;omega
   ·cases h
theorem fF:∀ {k x:Nat},aV xs i k=some x->x<16 ^ k
 |0,x,h=>by simp[aV] at h;subst h;decide
 |k+1,x,h=>by
  unfold aV at h
  cases ha:aV xs i k with
  |none=>rw[ha] at h;cases h
  |some a=>
   cases hc:xs[i+k]? with
   |none=>rw[ha,hc] at h;cases h
   |some c=>
    rw[ha,hc] at h;simp only[Option.map_eq_some_iff] at h;obtain⟨d,hd,rfl⟩:=h;have:=fF ha;have:=kM hd;rw[Nat.pow_succ];omega
theorem fl {k:Nat}(h:aV xs i k=none):∀m,aV xs i (k+m)=none
 |0=>h
 |m+1=>by
  have:=fl h m
  show aV xs i (k+m+1)=none
  unfold aV;rw[this]
theorem fa (xs:List UInt8)(i:Nat):bW (xs.drop i)=aV xs i 4:=by
 have g:∀j,xs[i+j]?= (xs.drop i)[j]?:=fun j=>by rw[List.getElem?_drop]
 simp only[aV,g];generalize xs.drop i=ys;rcases ys with _|⟨a,_|⟨b,_|⟨c,_|⟨d,t⟩⟩⟩⟩
 ·rfl
 ·simp[bW]
 ·simp[bW]
 ·simp[bW]
 ·simp only[bW,bind,pure,Option.bind];rcases ha:fi a with _|a1 <;> rcases hb:fi b with _|b1 <;> rcases hc:fi c with _|c1 <;> rcases hd:fi d with _|d1 <;> simp[ha,hb,hc,hd]
def GH (r:Option Nat)(w:World)(e:Ending)(w':World):Prop:=(∃x,r=some x/\e =.returned (.int .i64 x)/\w=w')\/(r=none/\fQ w e w')
def Es (xs:List UInt8)(i:Nat)(w:World)(s7 s11:Value)(wr:World):Prop:= ∃k x:Nat,k<=4/\s11 =.int .i64 k/\s7 =.int .i64 x/\aV xs i k=some x/\w=wr
theorem nL (h:pA w g v xs k0)(hE:a6 w 9)(hS:a6 w 27)(i:Nat)(hi:i<=2000000000)(b:Int):Calls Tryz.prog 268 #[.pointer (some ⟨g,0,none⟩),.int .i64 i,.int .i64 b] w fun e w'=>GH (bW (xs.drop i)) w e w':=by
 rw[fa];have H:=Qa h;have HE:=Qa hE;obtain⟨aS,a4⟩:=hS;clear h hE;go_enter Tryz.func268,Tryz.ntmps268;go_wp2_with fail
 go_loopw [7,8,9,10,11] (fun s7 _ _ _ s11 wr=>Es xs i w s7 s11 wr) (fun _ _ _ _ s11 _=>4 - (intOf s11).toNat)
 case atStart=>exact⟨0,0,by omega,rfl,rfl,rfl,rfl⟩
 case round=>
  obtain⟨k,x,hk,rfl,rfl,hf,rfl⟩:=hrel;have a2:=fF hf;have Hf:=Qa hf
  by_cases h4:k<4
  ·have a3:(k:Int)<4:=by omega
   have a5:x<65536:=Nat.lt_of_lt_of_le a2 (Zc (Nat.pow_le_pow_right (by decide) hk) (by decide));clear hf a2;go_wp2_with fail;rw[show(i:Int)+k= ((i+k:Nat):Int) from by omega];refine(ik H.out HE.out (i+k)).mono ?_;rintro e w' (⟨hlt,rfl,rfl⟩|⟨a1,vP,rfl,hv,hb⟩)
   ·obtain⟨c,hc⟩:∃c,xs[i+k]?=some c:=⟨_,Zd hlt⟩;have a0:am xs (i+k)=c.toNat:=by unfold am;rw[List.getD_eq_getElem?_getD,hc];rfl
    rw[a0];have Hc:=Qa hc;clear hc a0 hlt;go_wp2_with fail;refine(cr c w).mono ?_;rintro e w' ⟨rfl,rfl⟩;rcases hh:fi c with _|d
    ·have Hn:=Qa (show aV xs i 4=none from by
      have h1:aV xs i (k+1)=none:=by unfold aV;rw[Hf.out,Hc.out];simp[hh]
      obtain⟨m,hm⟩:∃m,4=k+1+m:=⟨3 - k,by omega⟩;rw[hm];exact fl h1 m)
     unfold jA;clear hh;go_wp2_with fail;refine(aW b aS w).mono ?_;rintro e w' ⟨vP,rfl,hv,hb⟩;have Hv:=Qa hv;have Hb:=Qa hb;clear hv hb;go_wp2_with fail;exact⟨rfl,.inr ⟨Hn.out,vP,rfl,Hv.out,Hb.out⟩⟩
    ·have hd:=kM hh;have Hs:=Qa (show aV xs i (k+1)=some (x*16+d) from by unfold aV;rw[Hf.out,Hc.out];simp[hh]);have or1:=oN x d (by omega) hd;have sh1:((x*16:Nat):Int)= (x:Int)*16:=by omega
     rw[sh1] at or1;unfold jA;clear hh sh1;go_wp2_with fail;exact⟨⟨k+1,x*16+d,by omega,by go_num,by go_num,Hs.out,rfl⟩,by simp[intOf];omega⟩
   ·have hn:aV xs i (k+1)=none:=by unfold aV;rw[Hf.out,List.getElem?_eq_none a1]
    have Hn:=Qa (show aV xs i 4=none from by
     obtain⟨m,hm⟩:∃m,4=k+1+m:=⟨3 - k,by omega⟩;rw[hm];exact fl hn m)
    have Hv:=Qa hv;have Hb:=Qa hb;clear hv hb hn a1;go_wp2_with fail;exact⟨rfl,.inr ⟨Hn.out,vP,rfl,Hv.out,Hb.out⟩⟩
  ·obtain rfl:k=4:=by omega
   go_wp2_with fail;go_ret;exact .inl ⟨x,Hf.out,rfl,rfl⟩
theorem jN {k y:Nat}(h:aV xs i (k+1)=some y):aV xs i k=some (y/16):=by
 unfold aV at h
 cases ha:aV xs i k with
 |none=>rw[ha] at h;cases h
 |some a=>
  cases hc:xs[i+k]? with
  |none=>rw[ha,hc] at h;cases h
  |some c=>
   rw[ha,hc] at h;simp only[Option.map_eq_some_iff] at h;obtain⟨d,hd,rfl⟩:=h;have:=kM hd
   congr 1;omega
def fv (m y:Nat):Prop:=(m=0/\y=0)\/(m=1/\y=13)\/(m=2/\220<=y/\y<=223)\/(m=3/\3520<=y/\y<=3583)\/(m=4/\56320<=y/\y<=57343)
theorem pM {m y:Nat}(hm:m<=4)(h:aV xs i m=some y)(hn:¬fv m y):∀z,aV xs i 4=some z->z<56320\/57343<z:=by
 intro z hz;have h3:=jN hz;have h2:=jN h3;have h1:=jN h2;unfold fv at hn;rcases(by omega:m=0\/m=1\/m=2\/m=3\/m=4) with rfl|rfl|rfl|rfl|rfl
 ·simp[aV] at h;omega
 ·rw[h] at h1;injection h1 with h1;omega
 ·rw[h] at h2;injection h2 with h2;omega
 ·rw[h] at h3;injection h3 with h3;omega
 ·rw[h] at hz;injection hz with hz;omega
theorem lk {m:Nat}(h:aV xs i m=none)(hm:m<=4):aV xs i 4=none:=by
 obtain⟨j,hj⟩:∃j,4=m+j:=⟨4 - m,by omega⟩;rw[hj];exact fl h j
theorem CA {k x:Nat}(hx:bW (xs.drop (k+2))=some x):io (xs.drop (k+2))=if x<55296\/57343<x then some (x,6) else if x>56319\/xs[k+6]?≠some 92\/xs[k+7]?≠some 117 then none else
  match aV xs (k+8) 4 with|none=>none|some y=>if y<56320\/57343<y then none else some (65536+ (x - 55296)*1024+ (y - 56320),12):=by
 have g6:xs[k+6]?= (xs.drop (k+2))[4]?:=by rw[List.getElem?_drop]
 have g7:xs[k+7]?= (xs.drop (k+2))[5]?:=by rw[List.getElem?_drop]
 have g8:aV xs (k+8) 4=bW ((xs.drop (k+2)).drop 6):=by rw[<-fa,List.drop_drop]
 rw[g6,g7,g8];generalize xs.drop (k+2)=ys at *;unfold io;simp only[hx,bind,pure,Option.bind]
 split
 ·rfl
 ·rcases ys with _|⟨a,_|⟨b,_|⟨c,_|⟨d,t⟩⟩⟩⟩
  ·cases hx
  ·simp[bW] at hx
  ·simp[bW] at hx
  ·simp[bW] at hx
  ·rcases t with _|⟨e,_|⟨f,t⟩⟩
   ·simp
   ·simp
   ·simp only[List.drop_succ_cons,List.drop_zero,List.getElem?_cons_succ,List.getElem?_cons_zero,ne_eq,Option.some.injEq]
    split
    ·rfl
    ·cases bW t <;> rfl
def Ag (r:Option (Nat×Nat))(w:World)(e:Ending)(w':World):Prop:=(∃p,r=some p/\e =.returned (.tuple #[.int .i32 p.1,.int .i64 p.2])/\Below w.heap.size w w')\/(r=none/\fQ w e w')
theorem xT {k:Nat}(hx:bW (xs.drop (k+2))=none):io (xs.drop (k+2))=none:=by
 unfold io;simp only[hx,bind,Option.bind]
theorem ya (h:pA w g v xs k0)(hE:a6 w 9)(hS:a6 w 27)(i:Nat)(hi:i<=2000000000)(b:Int){x:Nat}(hx:bW (xs.drop i)=some x):Calls Tryz.prog 268 #[.pointer (some ⟨g,0,none⟩),.int .i64 i,.int .i64 b] w fun e w'=>e =.returned (.int .i64 x)/\w=w':=
 (nL h hE hS i hi b).mono fun e w' hq=>by
  rcases hq with ⟨y,hy,he,hw⟩|⟨hn,-⟩
  ·rw[hx] at hy;injection hy with hy;subst hy;exact⟨he,hw⟩
  ·rw[hx] at hn;cases hn
theorem zA (h:pA w g v xs k0)(hE:a6 w 9)(hS:a6 w 27)(i:Nat)(hi:i<=2000000000)(b:Int)(hx:bW (xs.drop i)=none):Calls Tryz.prog 268 #[.pointer (some ⟨g,0,none⟩),.int .i64 i,.int .i64 b] w (fQ w):=
 (nL h hE hS i hi b).mono fun e w' hq=>by
  rcases hq with ⟨y,hy,-⟩|⟨-,hf⟩
  ·rw[hx] at hy;cases hy
  ·exact hf
theorem aF {k:Nat}(h:pA w g v xs k)(hE:a6 w 9)(i:Nat){c:UInt8}(hc:xs[i]?=some c):Calls Tryz.prog 247 #[.pointer (some ⟨g,0,none⟩),.int .i64 i] w fun e w'=>e =.returned (.int .u8 c.toNat)/\w=w':=
 (ik h hE i).mono fun e w' hq=>by
  have hi:=(List.getElem?_eq_some_iff.1 hc).1;rcases hq with ⟨-,he,hw⟩|⟨hn,-⟩
  ·refine⟨?_,hw⟩;rw[he];have:am xs i=c.toNat:=by unfold am;rw[List.getD_eq_getElem?_getD,hc];rfl
   rw[this]
  ·omega
theorem fI {k:Nat}(h:pA w g v xs k)(hE:a6 w 9)(i:Nat)(hc:xs[i]?=none):Calls Tryz.prog 247 #[.pointer (some ⟨g,0,none⟩),.int .i64 i] w (fQ w):=
 (ik h hE i).mono fun e w' hq=>by
  have hi:=List.getElem?_eq_none_iff.1 hc;rcases hq with ⟨hn,-⟩|⟨-,hf⟩
  ·omega
  ·exact hf
theorem fQ.low {e:Ending}(h:fQ w1 e w')(hb:Below w.heap.size w w1):fQ w e w':=by
 obtain⟨v,he,hv,a0⟩:=h;exact⟨v,he,hv,ak hb a0⟩
def EX (xs:List UInt8)(k:Nat)(w:World)(s5 s56:Value)(wr:World):Prop:= ∃m y:Nat,m<=4/\s56 =.int .i64 m/\s5 =.int .i64 y/\aV xs (k+8) m=some y/\fv m y/\w=wr
theorem pT {k:Nat}(h:pA w g v xs k)(hE:a6 w 9)(hS:a6 w 27)(hU:a6 w 28)(hk:k<=1000000000):Calls Tryz.prog 259 #[.pointer (some ⟨g,0,none⟩)] w fun e w'=>Ag (io (xs.drop (k+2))) w e w':=by
 obtain⟨A,n,q,rfl⟩:∃A n q,v =.slice A n q:=by obtain⟨-,-,A,c,e,-⟩:=h;exact⟨A,_,c,e⟩
 have c1:=aa h.1 (j:=1) (u:=.int .i64 k) rfl;have H:=Qa (show pA w.drew g (.slice A n q) xs k from h);have HE:=Qa (show a6 w.drew 9 from hE);have HS:=Qa (show a6 w.drew 27 from hS);have HU:=Qa (show a6 w.drew 28 from hU);have Hb:=Qa (show Below w.heap.size w w.drew from(Ze _ _).drew);clear h hE hS hU;have e2:((k+2:Nat):Int)= (k:Int)+2:=by omega
 have s1:IntKind.i64.wrap ((k:Int)+2)= (k:Int)+2:=IntWalk.i64_in _ (by omega);rcases hx:bW (xs.drop (k+2)) with _|x
 ·have Hn:=Qa (xT hx);have Hx:=Qa hx;clear hx;go_enter Tryz.func259,Tryz.ntmps259;go_wp2_with fail;refine wp_region_held_drew (S:=fun w'=>w'.cell? ⟨g,1,none⟩=some (.int .i64 k)) (by kernel_rfl) (c1) (fun a0=>?_);refine tH 0 a0 ?_;refine tH 1 a0 ?_;refine tH 2 a0 ?_;refine tH 3 a0 ?_;refine tH 4 a0 ?_;refine tH 5 a0 ?_
  try simp only[Act.put,jP,jQ,jR]
  refine tH 6 a0 ?_;refine tH 7 a0 ?_;refine tH 8 a0 ?_;refine tH 9 a0 ?_
  try simp only[Act.put,jP,jQ,jR]
  refine rH 10 fun K hK=>?_
  go_simp;(try rw[s1]);rw[<-e2];refine(zA H.out HE.out HS.out (k+2) (by omega) _ Hx.out).mono ?_;rintro e w' hf;obtain⟨vP,rfl,hv,hb⟩:=hf.low Hb.out;exact⟨rfl,.inr ⟨Hn.out,vP,rfl,hv,hb⟩⟩
 ·have Hq:=Qa (CA hx);have Hx:=Qa hx;have c0:=fF (show aV xs (k+2) 4=some x by rw[<-fa];exact hx);have c4:x<65536:=c0;clear hx c0;go_enter Tryz.func259,Tryz.ntmps259;go_wp2_with fail;refine bm (fun w'=>w'.cell? ⟨g,1,none⟩=some (.int .i64 k)) (c1) fun a0=>?_
  refine tH 0 a0 ?_;refine tH 1 a0 ?_;refine tH 2 a0 ?_;refine tH 3 a0 ?_;refine tH 4 a0 ?_;refine tH 5 a0 ?_
  try simp only[Act.put,jP,jQ,jR]
  refine tH 6 a0 ?_;refine tH 7 a0 ?_;refine tH 8 a0 ?_;refine tH 9 a0 ?_
  try simp only[Act.put,jP,jQ,jR]
  refine rH 10 fun K hK=>?_
  go_simp;(try rw[s1]);rw[<-e2];refine(ya H.out HE.out HS.out (k+2) (by omega) _ Hx.out).mono ?_;rintro e w' ⟨rfl,rfl⟩;refine hK.out _ _ (a0) (fun a0=>?_);clear hK K
  try simp only[Act.put,jP,jQ,jR]
  refine tH 11 a0 ?_
  try simp only[Act.put,jP,jQ,jR]
  refine wpAnyH_done (by kernel_rfl) (NoPanic.normal ?_) _;have c1':w.drew.cell? ⟨g,1,none⟩=some (.int .i64 k):=c1;generalize w.drew=w1 at *;clear c1;obtain⟨aU,a3⟩:=HU.out;have sw:IntKind.i32.wrap (x:Int)=x:=by simp[IntKind.wrap,IntKind.bits,IntKind.signed];omega
  by_cases hA:x<55296
  ·have c2:(x:Int)<55296:=by omega
   have Hr:=Qa (Hq.out.trans (if_pos (.inl hA)));go_wp2_with fail;go_ret2;exact .inl ⟨_,Hr.out,rfl,Hb.out⟩
  by_cases hB:57343<x
  ·have c2:¬ (x:Int)<55296:=by omega
   have c3:(57343:Int)<x:=by omega
   have Hr:=Qa (Hq.out.trans (if_pos (.inr hB)));go_wp2_with fail;go_ret2;exact .inl ⟨_,Hr.out,rfl,Hb.out⟩
  have a4:=Qa (Hq.out.trans (if_neg (by omega)));have c2:¬ (x:Int)<55296:=by omega
  have c3:¬ (57343:Int)<x:=by omega
  by_cases hC:56319<x
  ·have c8:(56319:Int)<x:=by omega
   have Hn:=Qa (a4.out.trans (if_pos (.inl hC)));go_wp2_with fail;refine wp_region_held_drew (S:=fun w'=>w'.cell? ⟨g,1,none⟩=some (.int .i64 k)/\w'.cell? ⟨28,0,none⟩=some (bt aU)) (by kernel_rfl) (⟨c1',a3⟩) (fun a0=>?_);refine tH 0 a0 ?_;refine tH 1 a0 ?_;refine tH 2 a0 ?_;refine tH 3 a0 ?_;refine tH 4 a0 ?_
   try simp only[Act.put,jP,jQ,jR]
   refine rH 5 fun K hK=>?_
   go_simp;refine(aW _ aU _).mono ?_;rintro e w' hf;obtain⟨vP,rfl,hv,hb⟩:=hf.low (show Below w.heap.size w w1.drew from Hb.out.drew);exact⟨rfl,.inr ⟨Hn.out,vP,rfl,hv,hb⟩⟩
  have c8:¬ (56319:Int)<x:=by omega
  rcases h6:xs[k+6]? with _|c6
  ·have Hn:=Qa (a4.out.trans (if_pos (.inr (.inl (by rw[h6];simp)))));have H6:=Qa h6;clear h6;go_wp2_with fail;rw[show(k:Int)+6= ((k+6:Nat):Int) from by omega];refine(fI H.out HE.out (k+6) H6.out).mono ?_;rintro e w' hf;obtain⟨vP,rfl,hv,hb⟩:=hf.low Hb.out;have Hv:=Qa hv;have b1:=Qa hb;clear hv hb hf;go_wp2_with fail;exact⟨rfl,.inr ⟨Hn.out,vP,rfl,Hv.out,b1.out⟩⟩
  have H6:=Qa h6
  by_cases h92:c6.toNat=92
  case neg=>
   have b4:((c6.toNat:Int)==92)=false:=by simp;omega
   have b2:((c6.toNat:Int) !=92)=true:=by simp;omega
   have Hn:=Qa (a4.out.trans (if_pos (.inr (.inl (by rw[h6];intro e;injection e with e;subst e;exact h92 rfl)))));clear h6 h92;go_wp2_with fail;rw[show(k:Int)+6= ((k+6:Nat):Int) from by omega];refine(aF H.out HE.out (k+6) H6.out).mono ?_;rintro e w' ⟨rfl,rfl⟩;go_wp2_with fail;refine wp_region_held_drew (S:=fun w'=>w'.cell? ⟨g,1,none⟩=some (.int .i64 k)/\w'.cell? ⟨28,0,none⟩=some (bt aU)) (by kernel_rfl) (⟨c1',a3⟩) (fun a0=>?_);refine tH 0 a0 ?_;refine tH 1 a0 ?_;refine tH 2 a0 ?_;refine tH 3 a0 ?_;refine tH 4 a0 ?_
   try simp only[Act.put,jP,jQ,jR]
   refine rH 5 fun K hK=>?_
   go_simp;refine(aW _ aU _).mono ?_;rintro e w' hf;obtain⟨vP,rfl,hv,hb⟩:=hf.low (show Below w.heap.size w w1.drew from Hb.out.drew);exact⟨rfl,.inr ⟨Hn.out,vP,rfl,hv,hb⟩⟩
  have b4:((c6.toNat:Int)==92)=true:=by simp;omega
  have b2:((c6.toNat:Int) !=92)=false:=by simp;omega
  obtain rfl:c6=92:=UInt8.toNat_inj.1 (by rw[h92];rfl);rcases h7:xs[k+7]? with _|c7
  ·have Hn:=Qa (a4.out.trans (if_pos (.inr (.inr (by rw[h7];simp)))));have H7:=Qa h7;clear h6 h7 h92;go_wp2_with fail;rw[show(k:Int)+6= ((k+6:Nat):Int) from by omega];refine(aF H.out HE.out (k+6) H6.out).mono ?_;rintro e w' ⟨rfl,rfl⟩;go_wp2_with fail;rw[show(k:Int)+7= ((k+7:Nat):Int) from by omega];refine(fI H.out HE.out (k+7) H7.out).mono ?_;rintro e w' hf;obtain⟨vP,rfl,hv,hb⟩:=hf.low Hb.out;have Hv:=Qa hv;have b1:=Qa hb;clear hv hb hf;go_wp2_with fail;exact⟨rfl,.inr ⟨Hn.out,vP,rfl,Hv.out,b1.out⟩⟩
  have H7:=Qa h7
  by_cases h117:c7.toNat=117
  case neg=>
   have a9:((c7.toNat:Int) !=117)=true:=by simp;omega
   have Hn:=Qa (a4.out.trans (if_pos (.inr (.inr (by rw[h7];intro e;injection e with e;subst e;exact h117 rfl)))));clear h6 h7 h92 h117;go_wp2_with fail;rw[show(k:Int)+6= ((k+6:Nat):Int) from by omega];refine(aF H.out HE.out (k+6) H6.out).mono ?_;rintro e w' ⟨rfl,rfl⟩;go_wp2_with fail;rw[show(k:Int)+7= ((k+7:Nat):Int) from by omega];refine(aF H.out HE.out (k+7) H7.out).mono ?_;rintro e w' ⟨rfl,rfl⟩;go_wp2_with fail;refine wp_region_held_drew (S:=fun w'=>w'.cell? ⟨g,1,none⟩=some (.int .i64 k)/\w'.cell? ⟨28,0,none⟩=some (bt aU)) (by kernel_rfl) (⟨c1',a3⟩) (fun a0=>?_);refine tH 0 a0 ?_;refine tH 1 a0 ?_;refine tH 2 a0 ?_;refine tH 3 a0 ?_;refine tH 4 a0 ?_
   try simp only[Act.put,jP,jQ,jR]
   refine rH 5 fun K hK=>?_
   go_simp;refine(aW _ aU _).mono ?_;rintro e w' hf;obtain⟨vP,rfl,hv,hb⟩:=hf.low (show Below w.heap.size w w1.drew from Hb.out.drew);exact⟨rfl,.inr ⟨Hn.out,vP,rfl,hv,hb⟩⟩
  have a9:((c7.toNat:Int) !=117)=false:=by simp;omega
  obtain rfl:c7=117:=UInt8.toNat_inj.1 (by rw[h117];rfl);have b0:=Qa (a4.out.trans (if_neg (by rw[h6,h7];simp;omega)));clear h6 h7 h92 h117;go_wp2_with fail;rw[show(k:Int)+6= ((k+6:Nat):Int) from by omega];refine(aF H.out HE.out (k+6) H6.out).mono ?_;rintro e w' ⟨rfl,rfl⟩;go_wp2_with fail;rw[show(k:Int)+7= ((k+7:Nat):Int) from by omega];refine(aF H.out HE.out (k+7) H7.out).mono ?_;rintro e w' ⟨rfl,rfl⟩;go_wp2_with fail
  go_loopw [5,6,7,8,56] (fun s5 _ _ _ s56 wr=>EX xs k w1 s5 s56 wr) (fun _ _ _ _ s56 _=>4 - (intOf s56).toNat)
  case atStart=>exact⟨0,0,by omega,rfl,rfl,rfl,.inl ⟨rfl,rfl⟩,rfl⟩
  case round=>
   obtain⟨m,y,hm,rfl,rfl,hf,b8,rfl⟩:=hrel;have Hf:=Qa hf;have a5:=Qa b8;have d0:y<65536:=Nat.lt_of_lt_of_le (fF hf) (Zc (Nat.pow_le_pow_right (by decide) hm) (by decide));clear hf b8
   by_cases h4:m<4
   ·have c9:(m:Int)<4:=by omega
    rcases hc:xs[k+8+m]? with _|c
    ·have Hn:=Qa (show io (xs.drop (k+2))=none from by
      have h1:aV xs (k+8) (m+1)=none:=by unfold aV;rw[Hf.out,hc]
      rw[b0.out,lk h1 (by omega)])
     have Hc:=Qa hc;clear hc;go_wp2_with fail
     (first|rw[show(k:Int)+8+m= ((k+8+m:Nat):Int) from by omega]|rw[show(k:Int)+8+1= ((k+8+m:Nat):Int) from by omega]|rw[show(k:Int)+9= ((k+8+m:Nat):Int) from by omega]|rw[show(k:Int)+8= ((k+8+m:Nat):Int) from by omega])
     refine(fI H.out HE.out (k+8+m) Hc.out).mono ?_;rintro e w' hf;obtain⟨vP,rfl,hv,hb⟩:=hf.low Hb.out;have Hv:=Qa hv;have b1:=Qa hb;clear hv hb hf;go_wp2_with fail;exact⟨rfl,.inr ⟨Hn.out,vP,rfl,Hv.out,b1.out⟩⟩
    have Hc:=Qa hc;clear hc;rcases hh:fi c with _|d
    ·have HH:=Qa hh;have Hn:=Qa (show io (xs.drop (k+2))=none from by
      have h1:aV xs (k+8) (m+1)=none:=by unfold aV;rw[Hf.out,Hc.out];simp[hh]
      rw[b0.out,lk h1 (by omega)])
     clear hh;go_wp2_with fail
     (first|rw[show(k:Int)+8+m= ((k+8+m:Nat):Int) from by omega]|rw[show(k:Int)+8+1= ((k+8+m:Nat):Int) from by omega]|rw[show(k:Int)+9= ((k+8+m:Nat):Int) from by omega]|rw[show(k:Int)+8= ((k+8+m:Nat):Int) from by omega])
     refine(aF H.out HE.out (k+8+m) Hc.out).mono ?_;rintro e w' ⟨rfl,rfl⟩;go_wp2_with fail;refine(cr c w1).mono ?_;rintro e w' ⟨rfl,rfl⟩;rw[HH.out];unfold jA;go_wp2_with fail;refine wp_region_held_drew (S:=fun w'=>w'.cell? ⟨g,1,none⟩=some (.int .i64 k)/\w'.cell? ⟨28,0,none⟩=some (bt aU)) (by kernel_rfl) (⟨c1',a3⟩) (fun a0=>?_);refine tH 0 a0 ?_;refine tH 1 a0 ?_;refine tH 2 a0 ?_;refine tH 3 a0 ?_;refine tH 4 a0 ?_
     try simp only[Act.put,jP,jQ,jR]
     refine rH 5 fun K hK=>?_
     go_simp;refine(aW _ aU _).mono ?_;rintro e w' hf;obtain⟨vP,rfl,hv,hb⟩:=hf.low (show Below w.heap.size w w1.drew from Hb.out.drew);exact⟨rfl,.inr ⟨Hn.out,vP,rfl,hv,hb⟩⟩
    have HH:=Qa hh;have a2:=kM hh;clear hh
    by_cases h0:m=0
    ·have c5:((m:Int)==0)=true:=by simp;omega
     have b9:((m:Int)==1)=false:=by simp;omega
     by_cases h13:d=13
     ·have b3:((d:Int) !=13)=false:=by simp;omega
      have Hs:=Qa (show aV xs (k+8) (m+1)=some (y*16+d) from by unfold aV;rw[Hf.out,Hc.out];simp[HH.out]);have a1:=Qa (show fv (m+1) (y*16+d) from by have:=a5.out;unfold fv at this ⊢;omega);(try clear h13);(try clear h0);(try clear h1);(try clear h12);have or1:=oN y d (by omega) a2;have sh1:((y*16:Nat):Int)= (y:Int)*16:=by omega
      rw[sh1] at or1;clear sh1;go_wp2_with fail
      (first|rw[show(k:Int)+8+m= ((k+8+m:Nat):Int) from by omega]|rw[show(k:Int)+8+1= ((k+8+m:Nat):Int) from by omega]|rw[show(k:Int)+9= ((k+8+m:Nat):Int) from by omega]|rw[show(k:Int)+8= ((k+8+m:Nat):Int) from by omega])
      refine(aF H.out HE.out (k+8+m) Hc.out).mono ?_;rintro e w' ⟨rfl,rfl⟩;go_wp2_with fail;refine(cr c w1).mono ?_;rintro e w' ⟨rfl,rfl⟩;rw[HH.out];unfold jA;go_wp2_with fail;exact⟨⟨m+1,y*16+d,by omega,by go_num,by go_num,Hs.out,a1.out,rfl⟩,by simp[intOf];omega⟩
     ·have b3:((d:Int) !=13)=true:=by simp;omega
      have Hn:=Qa (show io (xs.drop (k+2))=none from by
       have h1:aV xs (k+8) (m+1)=some (y*16+d):=by unfold aV;rw[Hf.out,Hc.out];simp[HH.out]
       have h2:=pM (by omega) h1 (by have:=a5.out;unfold fv at this ⊢;omega);rw[b0.out]
       cases h4:aV xs (k+8) 4 with
       |none=>rfl
       |some z=>exact if_pos (h2 z h4))
      go_wp2_with fail
      (first|rw[show(k:Int)+8+m= ((k+8+m:Nat):Int) from by omega]|rw[show(k:Int)+8+1= ((k+8+m:Nat):Int) from by omega]|rw[show(k:Int)+9= ((k+8+m:Nat):Int) from by omega]|rw[show(k:Int)+8= ((k+8+m:Nat):Int) from by omega])
      refine(aF H.out HE.out (k+8+m) Hc.out).mono ?_;rintro e w' ⟨rfl,rfl⟩;go_wp2_with fail;refine(cr c w1).mono ?_;rintro e w' ⟨rfl,rfl⟩;rw[HH.out];unfold jA;go_wp2_with fail;refine wp_region_held_drew (S:=fun w'=>w'.cell? ⟨g,1,none⟩=some (.int .i64 k)/\w'.cell? ⟨28,0,none⟩=some (bt aU)) (by kernel_rfl) (⟨c1',a3⟩) (fun a0=>?_);refine tH 0 a0 ?_;refine tH 1 a0 ?_;refine tH 2 a0 ?_;refine tH 3 a0 ?_;refine tH 4 a0 ?_
      try simp only[Act.put,jP,jQ,jR]
      refine rH 5 fun K hK=>?_
      go_simp;refine(aW _ aU _).mono ?_;rintro e w' hf;obtain⟨vP,rfl,hv,hb⟩:=hf.low (show Below w.heap.size w w1.drew from Hb.out.drew);exact⟨rfl,.inr ⟨Hn.out,vP,rfl,hv,hb⟩⟩
    ·have c5:((m:Int)==0)=false:=by simp;omega
     by_cases h1:m=1
     ·have b9:((m:Int)==1)=true:=by simp;omega
      by_cases h12:d<12
      ·have b5:(d:Int)<12:=by omega
       have Hn:=Qa (show io (xs.drop (k+2))=none from by
        have h1:aV xs (k+8) (m+1)=some (y*16+d):=by unfold aV;rw[Hf.out,Hc.out];simp[HH.out]
        have h2:=pM (by omega) h1 (by have:=a5.out;unfold fv at this ⊢;omega);rw[b0.out]
        cases h4:aV xs (k+8) 4 with
        |none=>rfl
        |some z=>exact if_pos (h2 z h4))
       go_wp2_with fail
       (first|rw[show(k:Int)+8+m= ((k+8+m:Nat):Int) from by omega]|rw[show(k:Int)+8+1= ((k+8+m:Nat):Int) from by omega]|rw[show(k:Int)+9= ((k+8+m:Nat):Int) from by omega]|rw[show(k:Int)+8= ((k+8+m:Nat):Int) from by omega])
       refine(aF H.out HE.out (k+8+m) Hc.out).mono ?_;rintro e w' ⟨rfl,rfl⟩;go_wp2_with fail;refine(cr c w1).mono ?_;rintro e w' ⟨rfl,rfl⟩;rw[HH.out];unfold jA;go_wp2_with fail;refine wp_region_held_drew (S:=fun w'=>w'.cell? ⟨g,1,none⟩=some (.int .i64 k)/\w'.cell? ⟨28,0,none⟩=some (bt aU)) (by kernel_rfl) (⟨c1',a3⟩) (fun a0=>?_);refine tH 0 a0 ?_;refine tH 1 a0 ?_;refine tH 2 a0 ?_;refine tH 3 a0 ?_;refine tH 4 a0 ?_
       try simp only[Act.put,jP,jQ,jR]
       refine rH 5 fun K hK=>?_
       go_simp;refine(aW _ aU _).mono ?_;rintro e w' hf;obtain⟨vP,rfl,hv,hb⟩:=hf.low (show Below w.heap.size w w1.drew from Hb.out.drew);exact⟨rfl,.inr ⟨Hn.out,vP,rfl,hv,hb⟩⟩
      ·have b5:¬ (d:Int)<12:=by omega
       have Hs:=Qa (show aV xs (k+8) (m+1)=some (y*16+d) from by unfold aV;rw[Hf.out,Hc.out];simp[HH.out]);have a1:=Qa (show fv (m+1) (y*16+d) from by have:=a5.out;unfold fv at this ⊢;omega);(try clear h13);(try clear h0);(try clear h1);(try clear h12);have or1:=oN y d (by omega) a2;have sh1:((y*16:Nat):Int)= (y:Int)*16:=by omega
       rw[sh1] at or1;clear sh1;go_wp2_with fail
       (first|rw[show(k:Int)+8+m= ((k+8+m:Nat):Int) from by omega]|rw[show(k:Int)+8+1= ((k+8+m:Nat):Int) from by omega]|rw[show(k:Int)+9= ((k+8+m:Nat):Int) from by omega]|rw[show(k:Int)+8= ((k+8+m:Nat):Int) from by omega])
       refine(aF H.out HE.out (k+8+m) Hc.out).mono ?_;rintro e w' ⟨rfl,rfl⟩;go_wp2_with fail;refine(cr c w1).mono ?_;rintro e w' ⟨rfl,rfl⟩;rw[HH.out];unfold jA;go_wp2_with fail;exact⟨⟨m+1,y*16+d,by omega,by go_num,by go_num,Hs.out,a1.out,rfl⟩,by simp[intOf];omega⟩
     ·have b9:((m:Int)==1)=false:=by simp;omega
      have Hs:=Qa (show aV xs (k+8) (m+1)=some (y*16+d) from by unfold aV;rw[Hf.out,Hc.out];simp[HH.out]);have a1:=Qa (show fv (m+1) (y*16+d) from by have:=a5.out;unfold fv at this ⊢;omega);(try clear h13);(try clear h0);(try clear h1);(try clear h12);have or1:=oN y d (by omega) a2;have sh1:((y*16:Nat):Int)= (y:Int)*16:=by omega
      rw[sh1] at or1;clear sh1;go_wp2_with fail
      (first|rw[show(k:Int)+8+m= ((k+8+m:Nat):Int) from by omega]|rw[show(k:Int)+8+1= ((k+8+m:Nat):Int) from by omega]|rw[show(k:Int)+9= ((k+8+m:Nat):Int) from by omega]|rw[show(k:Int)+8= ((k+8+m:Nat):Int) from by omega])
      refine(aF H.out HE.out (k+8+m) Hc.out).mono ?_;rintro e w' ⟨rfl,rfl⟩;go_wp2_with fail;refine(cr c w1).mono ?_;rintro e w' ⟨rfl,rfl⟩;rw[HH.out];unfold jA;go_wp2_with fail;exact⟨⟨m+1,y*16+d,by omega,by go_num,by go_num,Hs.out,a1.out,rfl⟩,by simp[intOf];omega⟩
   ·obtain rfl:m=4:=by omega
    have d1:56320<=y/\y<=57343:=by have:=a5.out;unfold fv at this;omega
    have Hr:=Qa (show io (xs.drop (k+2))=some (65536+ (x - 55296)*1024+ (y - 56320),12) from by
     rw[b0.out,Hf.out];exact if_neg (by omega))
    obtain⟨z,hz⟩:∃z:Nat,65536+ (x - 55296)*1024+ (y - 56320)=z:=⟨_,rfl⟩;have hzb:z<1114112:=by omega
    have sz:IntKind.i32.wrap (z:Int)=z:=by simp[IntKind.wrap,IntKind.bits,IntKind.signed];omega
    have ez:65536+ ((x:Int) - 55296)*1024+y - 56320=z:=by omega
    rw[hz] at Hr;clear hz;go_wp2_with fail;go_ret2;exact .inl ⟨_,Hr.out,rfl,Hb.out⟩
theorem Ag.low {r:Option (Nat×Nat)}{e:Ending}(h:Ag r w1 e w')(hb:Below w.heap.size w w1):Ag r w e w':=by
 rcases h with ⟨p,h1,h2,h3⟩|⟨h1,h2⟩
 ·exact .inl ⟨p,h1,h2,ak hb h3⟩
 ·exact .inr ⟨h1,h2.low hb⟩
theorem tz {c:UInt8}{t:List UInt8}(h:¬ (c=98\/c=116\/c=110\/c=102\/c=114\/c=34\/c=92\/c=47\/c=117)):sA (c::t)=none:=by
 unfold sA
 split <;> first|rfl|(rename_i e;injection e with e _;subst e;simp at h)
theorem rz {k:Nat}(h:pA w g v xs k)(hE:a6 w 9)(hS:a6 w 27)(hU:a6 w 28)(hk:k<=1000000000):Calls Tryz.prog 248 #[.pointer (some ⟨g,0,none⟩)] w fun e w'=>Ag (sA (xs.drop (k+1))) w e w':=by
 have c1:=aa h.1 (j:=1) (u:=.int .i64 k) rfl;have H:=Qa h;have HE:=Qa hE;have a3:=Qa (pT h hE hS hU hk);obtain⟨aS,a2⟩:=hS;clear h hE hU;rcases hc:xs[k+1]? with _|c
 ·have Hn:=Qa (show sA (xs.drop (k+1))=none by rw[List.drop_of_length_le (List.getElem?_eq_none_iff.1 hc)];rfl);have Hc:=Qa hc;clear hc;go_enter Tryz.func248,Tryz.ntmps248;go_wp2_with fail;rw[show(k:Int)+1= ((k+1:Nat):Int) from by omega];refine(fI H.out HE.out (k+1) Hc.out).mono ?_;rintro e w' ⟨vP,rfl,hv,hb⟩;have Hv:=Qa hv;have a1:=Qa hb;clear hv hb;go_wp2_with fail;exact⟨rfl,.inr ⟨Hn.out,vP,rfl,Hv.out,a1.out⟩⟩
 have hd:xs.drop (k+1)=c::xs.drop (k+2):=by
  obtain⟨hlt,he⟩:=List.getElem?_eq_some_iff.1 hc;rw[List.drop_eq_getElem_cons hlt,he]
 rw[hd];have Hc:=Qa hc;clear hc hd
 by_cases h98:c=98
 ·subst h98;go_enter Tryz.func248,Tryz.ntmps248;go_wp2_with fail;rw[show(k:Int)+1= ((k+1:Nat):Int) from by omega];refine(aF H.out HE.out (k+1) Hc.out).mono ?_;rintro e w' ⟨rfl,rfl⟩;rw[show(98:UInt8).toNat=98 from rfl];go_wp2_with fail;go_ret2;exact .inl ⟨(8,2),rfl,rfl,Ze _ _⟩
 by_cases h116:c=116
 ·subst h116;go_enter Tryz.func248,Tryz.ntmps248;go_wp2_with fail;rw[show(k:Int)+1= ((k+1:Nat):Int) from by omega];refine(aF H.out HE.out (k+1) Hc.out).mono ?_;rintro e w' ⟨rfl,rfl⟩;rw[show(116:UInt8).toNat=116 from rfl];go_wp2_with fail;go_ret2;exact .inl ⟨(9,2),rfl,rfl,Ze _ _⟩
 by_cases h110:c=110
 ·subst h110;go_enter Tryz.func248,Tryz.ntmps248;go_wp2_with fail;rw[show(k:Int)+1= ((k+1:Nat):Int) from by omega];refine(aF H.out HE.out (k+1) Hc.out).mono ?_;rintro e w' ⟨rfl,rfl⟩;rw[show(110:UInt8).toNat=110 from rfl];go_wp2_with fail;go_ret2;exact .inl ⟨(10,2),rfl,rfl,Ze _ _⟩
 by_cases h102:c=102
 ·subst h102;go_enter Tryz.func248,Tryz.ntmps248;go_wp2_with fail;rw[show(k:Int)+1= ((k+1:Nat):Int) from by omega];refine(aF H.out HE.out (k+1) Hc.out).mono ?_;rintro e w' ⟨rfl,rfl⟩;rw[show(102:UInt8).toNat=102 from rfl];go_wp2_with fail;go_ret2;exact .inl ⟨(12,2),rfl,rfl,Ze _ _⟩
 by_cases h114:c=114
 ·subst h114;go_enter Tryz.func248,Tryz.ntmps248;go_wp2_with fail;rw[show(k:Int)+1= ((k+1:Nat):Int) from by omega];refine(aF H.out HE.out (k+1) Hc.out).mono ?_;rintro e w' ⟨rfl,rfl⟩;rw[show(114:UInt8).toNat=114 from rfl];go_wp2_with fail;go_ret2;exact .inl ⟨(13,2),rfl,rfl,Ze _ _⟩
 by_cases h34:c=34
 ·subst h34;go_enter Tryz.func248,Tryz.ntmps248;go_wp2_with fail;rw[show(k:Int)+1= ((k+1:Nat):Int) from by omega];refine(aF H.out HE.out (k+1) Hc.out).mono ?_;rintro e w' ⟨rfl,rfl⟩;rw[show(34:UInt8).toNat=34 from rfl];go_wp2_with fail;go_ret2;exact .inl ⟨(34,2),rfl,rfl,Ze _ _⟩
 by_cases h92:c=92
 ·subst h92;go_enter Tryz.func248,Tryz.ntmps248;go_wp2_with fail;rw[show(k:Int)+1= ((k+1:Nat):Int) from by omega];refine(aF H.out HE.out (k+1) Hc.out).mono ?_;rintro e w' ⟨rfl,rfl⟩;rw[show(92:UInt8).toNat=92 from rfl];go_wp2_with fail;go_ret2;exact .inl ⟨(92,2),rfl,rfl,Ze _ _⟩
 by_cases h47:c=47
 ·subst h47;go_enter Tryz.func248,Tryz.ntmps248;go_wp2_with fail;rw[show(k:Int)+1= ((k+1:Nat):Int) from by omega];refine(aF H.out HE.out (k+1) Hc.out).mono ?_;rintro e w' ⟨rfl,rfl⟩;rw[show(47:UInt8).toNat=47 from rfl];go_wp2_with fail;go_ret2;exact .inl ⟨(47,2),rfl,rfl,Ze _ _⟩
 by_cases h117:c=117
 ·subst h117;go_enter Tryz.func248,Tryz.ntmps248;go_wp2_with fail;rw[show(k:Int)+1= ((k+1:Nat):Int) from by omega];refine(aF H.out HE.out (k+1) Hc.out).mono ?_;rintro e w' ⟨rfl,rfl⟩;rw[show(117:UInt8).toNat=117 from rfl];go_wp2_with fail;refine Za a3 ?_;rintro e w' (⟨p,hp,rfl,hb⟩|⟨hn,vP,rfl,hv,hb⟩)
  ·have Hp:=Qa hp;have Hb:=Qa hb;obtain⟨p1,p2⟩:=p;clear hp hb
   dsimp only
   go_wp2_with fail;go_ret2;exact .inl ⟨(p1,p2),Hp.out,rfl,Hb.out⟩
  ·have Hn:=Qa hn;have Hv:=Qa hv;have a1:=Qa hb;clear hn hv hb;go_wp2_with fail;exact⟨rfl,.inr ⟨Hn.out,vP,rfl,Hv.out,a1.out⟩⟩
 have Hn:=Qa (tz (c:=c) (t:=xs.drop (k+2)) (by rintro(e|e|e|e|e|e|e|e|e) <;> contradiction));have n98:((c.toNat:Int)==98)=false:=by simp only[beq_eq_false_iff_ne];intro e;exact h98 (UInt8.toNat_inj.1 (by show c.toNat=98;omega))
 have n116:((c.toNat:Int)==116)=false:=by simp only[beq_eq_false_iff_ne];intro e;exact h116 (UInt8.toNat_inj.1 (by show c.toNat=116;omega))
 have n110:((c.toNat:Int)==110)=false:=by simp only[beq_eq_false_iff_ne];intro e;exact h110 (UInt8.toNat_inj.1 (by show c.toNat=110;omega))
 have n102:((c.toNat:Int)==102)=false:=by simp only[beq_eq_false_iff_ne];intro e;exact h102 (UInt8.toNat_inj.1 (by show c.toNat=102;omega))
 have n114:((c.toNat:Int)==114)=false:=by simp only[beq_eq_false_iff_ne];intro e;exact h114 (UInt8.toNat_inj.1 (by show c.toNat=114;omega))
 have n34:((c.toNat:Int)==34)=false:=by simp only[beq_eq_false_iff_ne];intro e;exact h34 (UInt8.toNat_inj.1 (by show c.toNat=34;omega))
 have n92:((c.toNat:Int)==92)=false:=by simp only[beq_eq_false_iff_ne];intro e;exact h92 (UInt8.toNat_inj.1 (by show c.toNat=92;omega))
 have n47:((c.toNat:Int)==47)=false:=by simp only[beq_eq_false_iff_ne];intro e;exact h47 (UInt8.toNat_inj.1 (by show c.toNat=47;omega))
 have n117:((c.toNat:Int)==117)=false:=by simp only[beq_eq_false_iff_ne];intro e;exact h117 (UInt8.toNat_inj.1 (by show c.toNat=117;omega))
 clear h98 h116 h110 h102 h114 h34 h92 h47 h117;go_enter Tryz.func248,Tryz.ntmps248;go_wp2_with fail;rw[show(k:Int)+1= ((k+1:Nat):Int) from by omega];refine(aF H.out HE.out (k+1) Hc.out).mono ?_;rintro e w' ⟨rfl,rfl⟩;go_wp2_with fail;refine wp_region_held_drew (S:=fun w'=>w'.cell? ⟨g,1,none⟩=some (.int .i64 k)/\w'.cell? ⟨27,0,none⟩=some (bt aS)) (by kernel_rfl) (⟨c1,a2⟩) (fun a0=>?_);refine tH 0 a0 ?_;refine tH 1 a0 ?_;refine tH 2 a0 ?_;refine tH 3 a0 ?_;refine tH 4 a0 ?_
 try simp only[Act.put,jP,jQ,jR]
 refine rH 5 fun K hK=>?_
 go_simp;refine(aW _ aS _).mono ?_;rintro e w' hf;obtain⟨vP,rfl,hv,hb⟩:=hf.low (show Below w.heap.size w w.drew from(Ze _ _).drew);exact⟨rfl,.inr ⟨Hn.out,vP,rfl,hv,hb⟩⟩
