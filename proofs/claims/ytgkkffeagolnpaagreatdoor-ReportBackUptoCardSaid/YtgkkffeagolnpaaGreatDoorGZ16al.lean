import Derived.Test.YtgkkffeagolnpaaGreatDoorGZ16ak
set_option linter.unusedVariables false
set_option linter.unusedSimpArgs false
set_option maxHeartbeats 64000000
set_option maxRecDepth 100000
namespace Go.Proofs.YtgkkffeagolnpaaGreatDoor
open Go.RowKit Go.Shelf
variable {xs:List UInt8}{g i k0:Nat}{v:Value}{w w' w1:World}
def gv (w:World)(e:Ending)(w':World):Prop:= ∃v,e =.panicked [{v:=v,recovered:=false}]/\EU w' v/\Below w.heap.size w w'
theorem pp (hb:Below w.drew.heap.size w.drew w'):Below w.heap.size w w':=⟨hb.os,hb.tape,hb.output,hb.size,hb.block⟩
theorem a8 (p:Int)(a:Addr)(w:World):Calls Tryz.prog 234 #[.int .i64 p,bp a] w (gv w):=by
 go_enter Tryz.func234,Tryz.ntmps234;go_wp2_with fail;exact⟨rfl,_,rfl,⟨_,_,a,rfl,Zf _ _⟩,aa _ _⟩
theorem zM (x:UInt8):fQ x=if 48<=(x.toNat:Int)/\(x.toNat:Int)<=57 then some (x.toNat - 48) else if 97<=(x.toNat:Int)/\(x.toNat:Int)<=102 then some (x.toNat - 87) else if 65<=(x.toNat:Int)/\(x.toNat:Int)<=70 then some (x.toNat - 55) else none:=by
 unfold fQ
 congr 1
 ·simp only[eq_iff_iff];omega
 ·congr 1
  ·simp only[eq_iff_iff];omega
  ·congr 1
   simp only[eq_iff_iff];omega
def j7 (r:Option Nat):Value:=match r with|some d=>.tuple #[.int .i64 d,.bool true]|none=>.tuple #[.int .i64 0,.bool false]
theorem cN (x:UInt8)(w:World):Calls Tryz.prog 267 #[.int .u8 x.toNat] w fun e w'=>e =.returned (j7 (fQ x))/\w=w':=by
 have hx:=x.toNat_lt;rw[zM];obtain⟨n,hn⟩:∃n,x.toNat=n:=⟨_,rfl⟩;rw[hn] at hx ⊢;clear hn
 by_cases h1:48<=(n:Int)/\(n:Int)<=57
 ·rw[if_pos h1];obtain⟨h1,h2⟩:=h1;have e1:((n - 48:Nat):Int)= (n:Int) - 48:=by omega
  have e2:IntKind.u8.wrap ((n:Int) - 48)= (n:Int) - 48:=by simp[IntKind.wrap,IntKind.bits,IntKind.signed];omega
  unfold j7
  dsimp only
  rw[e1];clear e1;go_enter Tryz.func267,Tryz.ntmps267;go_wp2;go_ret2;exact⟨rfl,rfl⟩
 rw[if_neg h1];have g1:(decide (48<=(n:Int))&&decide ((n:Int)<=57))=false:=by simpa using h1
 by_cases h2:97<=(n:Int)/\(n:Int)<=102
 ·rw[if_pos h2];obtain⟨h2,h3⟩:=h2;have n1:(48:Int)<=n:=by omega
  have n2:¬ (n:Int)<=57:=by omega
  have e1:((n - 87:Nat):Int)= (n:Int) - 97+10:=by omega
  have e2:IntKind.u8.wrap ((n:Int) - 97)= (n:Int) - 97:=by simp[IntKind.wrap,IntKind.bits,IntKind.signed];omega
  unfold j7
  dsimp only
  rw[e1];clear e1 h1 g1;go_enter Tryz.func267,Tryz.ntmps267;go_wp2;go_ret2;exact⟨rfl,rfl⟩
 rw[if_neg h2]
 by_cases h3:65<=(n:Int)/\(n:Int)<=70
 ·rw[if_pos h3];obtain⟨h3,h4⟩:=h3;have n1:(48:Int)<=n:=by omega
  have n2:¬ (n:Int)<=57:=by omega
  have n3:¬ (97:Int)<=n:=by omega
  have e1:((n - 55:Nat):Int)= (n:Int) - 65+10:=by omega
  have e2:IntKind.u8.wrap ((n:Int) - 65)= (n:Int) - 65:=by simp[IntKind.wrap,IntKind.bits,IntKind.signed];omega
  unfold j7
  dsimp only
  rw[e1];clear e1 h1 g1 h2;go_enter Tryz.func267,Tryz.ntmps267;go_wp2;go_ret2;exact⟨rfl,rfl⟩
 rw[if_neg h3];unfold j7
 dsimp only
 clear g1;go_enter Tryz.func267,Tryz.ntmps267;go_wp2
 all_goals first|(exfalso;simp_all;done)|(exfalso;omega)|(go_ret2;exact⟨rfl,rfl⟩)
def rD (w:World)(g:Nat)(v:Value)(xs:List UInt8)(k:Nat):Prop:=w.heap[g]?=some (.cells #[v,.int .i64 k] 371 (0,0))/\Bs w v xs
theorem rD.below {k:Nat}(h:rD w g v xs k)(hb:Below w.heap.size w w'):rD w' g v xs k:=⟨ah h.1 hb,h.2.below hb⟩
def IY (xs:List UInt8)(i:Nat)(w:World)(e:Ending)(w':World):Prop:=(i<xs.length/\e =.returned (.int .u8 (am xs i))/\w=w')\/(xs.length<=i/\gv w e w')
theorem jh {k:Nat}(h:rD w g v xs k)(hE:aO w 9)(i:Nat):Calls Tryz.prog 245 #[.pointer (some ⟨g,0,none⟩),.int .i64 i] w (IY xs i w):=by
 obtain⟨hg,hb⟩:=h;obtain⟨hm,A,cap,rfl,a4,a0⟩:=id hb;obtain⟨aE,a3⟩:=hE;have c0:=ac hg (j:=0) (u:=.slice A xs.length cap) rfl
 by_cases hi:i<xs.length
 ·obtain⟨b,o,rfl,a2⟩:=a0 (by omega);have c1:=a2 i hi;have a5:(i:Int)<xs.length:=by omega
  clear hg hb a0 a2;go_enter Tryz.func245,Tryz.ntmps245;go_wp2_with fail;go_ret;exact .inl ⟨hi,rfl,rfl⟩
 ·have a5:¬ (i:Int)<xs.length:=by omega
  have Hi:=Qa (show xs.length<=i by omega);clear hg hb a0 hi;go_enter Tryz.func245,Tryz.ntmps245;go_wp2_with fail;refine wp_region_held_drew (S:=fun w'=>w'.cell? ⟨g,0,none⟩=some (.slice A xs.length cap)/\w'.cell? ⟨9,0,none⟩=some (bp aE)) (by kernel_rfl) (⟨c0,a3⟩) (fun a1=>?_);refine tH 0 a1 ?_;refine tH 1 a1 ?_;refine tH 2 a1 ?_;refine tH 3 a1 ?_;refine tH 4 a1 ?_;refine tH 5 a1 ?_
  try simp only[Act.put,jP,jQ,jR]
  refine rH 6 fun K hK=>?_
  go_simp;refine(a8 _ aE _).mono ?_;rintro e w' ⟨v,rfl,hv,hb⟩;exact⟨rfl,.inr ⟨Hi.out,v,rfl,hv,pp hb⟩⟩
theorem oV (a d:Nat)(ha:a<1000000000)(hd:d<16):bits .or .i64 (((a*16:Nat)):Int) (d:Int)= ((a*16+d:Nat):Int):=by
 have h1:a*16 |||d=a*16+d:=by
  have:=Nat.shiftLeft_add_eq_or_of_lt (i:=4) (b:=d) (by omega) a;rw[Nat.shiftLeft_eq] at this;exact this.symm
 have e:bits .or .i64 (((a*16:Nat)):Int) (d:Int)=IntKind.i64.wrap (((BitVec.ofInt 64 ((a*16:Nat):Int) |||BitVec.ofInt 64 (d:Int)).toNat:Nat):Int):=rfl;rw[e,BitVec.toNat_or,BitVec.ofInt_natCast,BitVec.ofInt_natCast,BitVec.toNat_ofNat,BitVec.toNat_ofNat,Nat.mod_eq_of_lt (by omega),Nat.mod_eq_of_lt (by omega),h1];exact IntWalk.i64_in _ (by omega)
def be (xs:List UInt8)(i:Nat):Nat->Option Nat
 |0=>some 0
 |k+1=>match be xs i k,xs[i+k]? with
  |some a,some c=>(fQ c).map fun d=>a*16+d
  |_,_=>none
theorem lM {c:UInt8}{d:Nat}(h:fQ c=some d):d<16:=by
 unfold fQ at h
 split at h
 ·injection h with h;omega
 ·split at h
  ·injection h with h;omega
  ·split at h
   ·injection h with h;omega
   ·cases h
theorem gZ:∀ {k x:Nat},be xs i k=some x->x<16 ^ k
 |0,x,h=>by simp[be] at h;subst h;decide
 |k+1,x,h=>by
  unfold be at h
  cases ha:be xs i k with
  |none=>rw[ha] at h;cases h
  |some a=>
   cases hc:xs[i+k]? with
   |none=>rw[ha,hc] at h;cases h
   |some c=>
    rw[ha,hc] at h;simp only[Option.map_eq_some_iff] at h;obtain⟨d,hd,rfl⟩:=h;have:=gZ ha;have:=lM hd;rw[Nat.pow_succ];omega
theorem fO {k:Nat}(h:be xs i k=none):∀m,be xs i (k+m)=none
 |0=>h
 |m+1=>by
  have:=fO h m
  show be xs i (k+m+1)=none
  unfold be;rw[this]
theorem fZ (xs:List UInt8)(i:Nat):cm (xs.drop i)=be xs i 4:=by
 have g:∀j,xs[i+j]?= (xs.drop i)[j]?:=fun j=>by rw[List.getElem?_drop]
 simp only[be,g];generalize xs.drop i=ys;rcases ys with _|⟨a,_|⟨b,_|⟨c,_|⟨d,t⟩⟩⟩⟩
 ·rfl
 ·simp[cm]
 ·simp[cm]
 ·simp[cm]
 ·simp only[cm,bind,pure,Option.bind];rcases ha:fQ a with _|a1 <;> rcases hb:fQ b with _|b1 <;> rcases hc:fQ c with _|c1 <;> rcases hd:fQ d with _|d1 <;> simp[ha,hb,hc,hd]
def JD (r:Option Nat)(w:World)(e:Ending)(w':World):Prop:=(∃x,r=some x/\e =.returned (.int .i64 x)/\w=w')\/(r=none/\gv w e w')
def Ic (xs:List UInt8)(i:Nat)(w:World)(s7 s11:Value)(wr:World):Prop:= ∃k x:Nat,k<=4/\s11 =.int .i64 k/\s7 =.int .i64 x/\be xs i k=some x/\w=wr
theorem oA (h:rD w g v xs k0)(hE:aO w 9)(hS:aO w 27)(i:Nat)(hi:i<=2000000000)(b:Int):Calls Tryz.prog 266 #[.pointer (some ⟨g,0,none⟩),.int .i64 i,.int .i64 b] w fun e w'=>JD (cm (xs.drop i)) w e w':=by
 rw[fZ];have H:=Qa h;have HE:=Qa hE;obtain⟨aS,a3⟩:=hS;clear h hE;go_enter Tryz.func266,Tryz.ntmps266;go_wp2_with fail
 go_loopw [7,8,9,10,11] (fun s7 _ _ _ s11 wr=>Ic xs i w s7 s11 wr) (fun _ _ _ _ s11 _=>4 - (intOf s11).toNat)
 case atStart=>exact⟨0,0,by omega,rfl,rfl,rfl,rfl⟩
 case round=>
  obtain⟨k,x,hk,rfl,rfl,hf,rfl⟩:=hrel;have a0:=gZ hf;have Hf:=Qa hf
  by_cases h4:k<4
  ·have a5:(k:Int)<4:=by omega
   have a4:x<65536:=Nat.lt_of_lt_of_le a0 (Zc (Nat.pow_le_pow_right (by decide) hk) (by decide));clear hf a0;go_wp2_with fail;rw[show(i:Int)+k= ((i+k:Nat):Int) from by omega];refine(jh H.out HE.out (i+k)).mono ?_;rintro e w' (⟨hlt,rfl,rfl⟩|⟨a2,vP,rfl,hv,hb⟩)
   ·obtain⟨c,hc⟩:∃c,xs[i+k]?=some c:=⟨_,Zd hlt⟩;have a1:am xs (i+k)=c.toNat:=by unfold am;rw[List.getD_eq_getElem?_getD,hc];rfl
    rw[a1];have Hc:=Qa hc;clear hc a1 hlt;go_wp2_with fail;refine(cN c w).mono ?_;rintro e w' ⟨rfl,rfl⟩;rcases hh:fQ c with _|d
    ·have Hn:=Qa (show be xs i 4=none from by
      have h1:be xs i (k+1)=none:=by unfold be;rw[Hf.out,Hc.out];simp[hh]
      obtain⟨m,hm⟩:∃m,4=k+1+m:=⟨3 - k,by omega⟩;rw[hm];exact fO h1 m)
     unfold j7;clear hh;go_wp2_with fail;refine(a8 b aS w).mono ?_;rintro e w' ⟨vP,rfl,hv,hb⟩;have Hv:=Qa hv;have Hb:=Qa hb;clear hv hb;go_wp2_with fail;exact⟨rfl,.inr ⟨Hn.out,vP,rfl,Hv.out,Hb.out⟩⟩
    ·have hd:=lM hh;have Hs:=Qa (show be xs i (k+1)=some (x*16+d) from by unfold be;rw[Hf.out,Hc.out];simp[hh]);have or1:=oV x d (by omega) hd;have sh1:((x*16:Nat):Int)= (x:Int)*16:=by omega
     rw[sh1] at or1;unfold j7;clear hh sh1;go_wp2_with fail;exact⟨⟨k+1,x*16+d,by omega,by go_num,by go_num,Hs.out,rfl⟩,by simp[intOf];omega⟩
   ·have hn:be xs i (k+1)=none:=by unfold be;rw[Hf.out,List.getElem?_eq_none a2]
    have Hn:=Qa (show be xs i 4=none from by
     obtain⟨m,hm⟩:∃m,4=k+1+m:=⟨3 - k,by omega⟩;rw[hm];exact fO hn m)
    have Hv:=Qa hv;have Hb:=Qa hb;clear hv hb hn a2;go_wp2_with fail;exact⟨rfl,.inr ⟨Hn.out,vP,rfl,Hv.out,Hb.out⟩⟩
  ·obtain rfl:k=4:=by omega
   go_wp2_with fail;go_ret;exact .inl ⟨x,Hf.out,rfl,rfl⟩
theorem kq {k y:Nat}(h:be xs i (k+1)=some y):be xs i k=some (y/16):=by
 unfold be at h
 cases ha:be xs i k with
 |none=>rw[ha] at h;cases h
 |some a=>
  cases hc:xs[i+k]? with
  |none=>rw[ha,hc] at h;cases h
  |some c=>
   rw[ha,hc] at h;simp only[Option.map_eq_some_iff] at h;obtain⟨d,hd,rfl⟩:=h;have:=lM hd
   congr 1;omega
def ga (m y:Nat):Prop:=(m=0/\y=0)\/(m=1/\y=13)\/(m=2/\220<=y/\y<=223)\/(m=3/\3520<=y/\y<=3583)\/(m=4/\56320<=y/\y<=57343)
theorem qX {m y:Nat}(hm:m<=4)(h:be xs i m=some y)(hn:¬ga m y):∀z,be xs i 4=some z->z<56320\/57343<z:=by
 intro z hz;have h3:=kq hz;have h2:=kq h3;have h1:=kq h2;unfold ga at hn;rcases(by omega:m=0\/m=1\/m=2\/m=3\/m=4) with rfl|rfl|rfl|rfl|rfl
 ·simp[be] at h;omega
 ·rw[h] at h1;injection h1 with h1;omega
 ·rw[h] at h2;injection h2 with h2;omega
 ·rw[h] at h3;injection h3 with h3;omega
 ·rw[h] at hz;injection hz with hz;omega
theorem mQ {m:Nat}(h:be xs i m=none)(hm:m<=4):be xs i 4=none:=by
 obtain⟨j,hj⟩:∃j,4=m+j:=⟨4 - m,by omega⟩;rw[hj];exact fO h j
theorem ED {k x:Nat}(hx:cm (xs.drop (k+2))=some x):jn (xs.drop (k+2))=if x<55296\/57343<x then some (x,6) else if x>56319\/xs[k+6]?≠some 92\/xs[k+7]?≠some 117 then none else
  match be xs (k+8) 4 with|none=>none|some y=>if y<56320\/57343<y then none else some (65536+ (x - 55296)*1024+ (y - 56320),12):=by
 have g6:xs[k+6]?= (xs.drop (k+2))[4]?:=by rw[List.getElem?_drop]
 have g7:xs[k+7]?= (xs.drop (k+2))[5]?:=by rw[List.getElem?_drop]
 have g8:be xs (k+8) 4=cm ((xs.drop (k+2)).drop 6):=by rw[<-fZ,List.drop_drop]
 rw[g6,g7,g8];generalize xs.drop (k+2)=ys at *;unfold jn;simp only[hx,bind,pure,Option.bind]
 split
 ·rfl
 ·rcases ys with _|⟨a,_|⟨b,_|⟨c,_|⟨d,t⟩⟩⟩⟩
  ·cases hx
  ·simp[cm] at hx
  ·simp[cm] at hx
  ·simp[cm] at hx
  ·rcases t with _|⟨e,_|⟨f,t⟩⟩
   ·simp
   ·simp
   ·simp only[List.drop_succ_cons,List.drop_zero,List.getElem?_cons_succ,List.getElem?_cons_zero,ne_eq,Option.some.injEq]
    split
    ·rfl
    ·cases cm t <;> rfl
def BP (r:Option (Nat×Nat))(w:World)(e:Ending)(w':World):Prop:=(∃p,r=some p/\e =.returned (.tuple #[.int .i32 p.1,.int .i64 p.2])/\Below w.heap.size w w')\/(r=none/\gv w e w')
theorem xO {k:Nat}(hx:cm (xs.drop (k+2))=none):jn (xs.drop (k+2))=none:=by
 unfold jn;simp only[hx,bind,Option.bind]
theorem xQ (h:rD w g v xs k0)(hE:aO w 9)(hS:aO w 27)(i:Nat)(hi:i<=2000000000)(b:Int){x:Nat}(hx:cm (xs.drop i)=some x):Calls Tryz.prog 266 #[.pointer (some ⟨g,0,none⟩),.int .i64 i,.int .i64 b] w fun e w'=>e =.returned (.int .i64 x)/\w=w':=
 (oA h hE hS i hi b).mono fun e w' hq=>by
  rcases hq with ⟨y,hy,he,hw⟩|⟨hn,-⟩
  ·rw[hx] at hy;injection hy with hy;subst hy;exact⟨he,hw⟩
  ·rw[hx] at hn;cases hn
theorem CY (h:rD w g v xs k0)(hE:aO w 9)(hS:aO w 27)(i:Nat)(hi:i<=2000000000)(b:Int)(hx:cm (xs.drop i)=none):Calls Tryz.prog 266 #[.pointer (some ⟨g,0,none⟩),.int .i64 i,.int .i64 b] w (gv w):=
 (oA h hE hS i hi b).mono fun e w' hq=>by
  rcases hq with ⟨y,hy,-⟩|⟨-,hf⟩
  ·rw[hx] at hy;cases hy
  ·exact hf
theorem aM {k:Nat}(h:rD w g v xs k)(hE:aO w 9)(i:Nat){c:UInt8}(hc:xs[i]?=some c):Calls Tryz.prog 245 #[.pointer (some ⟨g,0,none⟩),.int .i64 i] w fun e w'=>e =.returned (.int .u8 c.toNat)/\w=w':=
 (jh h hE i).mono fun e w' hq=>by
  have hi:=(List.getElem?_eq_some_iff.1 hc).1;rcases hq with ⟨-,he,hw⟩|⟨hn,-⟩
  ·refine⟨?_,hw⟩;rw[he];have:am xs i=c.toNat:=by unfold am;rw[List.getD_eq_getElem?_getD,hc];rfl
   rw[this]
  ·omega
theorem gH {k:Nat}(h:rD w g v xs k)(hE:aO w 9)(i:Nat)(hc:xs[i]?=none):Calls Tryz.prog 245 #[.pointer (some ⟨g,0,none⟩),.int .i64 i] w (gv w):=
 (jh h hE i).mono fun e w' hq=>by
  have hi:=List.getElem?_eq_none_iff.1 hc;rcases hq with ⟨hn,-⟩|⟨-,hf⟩
  ·omega
  ·exact hf
theorem gv.low {e:Ending}(h:gv w1 e w')(hb:Below w.heap.size w w1):gv w e w':=by
 obtain⟨v,he,hv,a0⟩:=h;exact⟨v,he,hv,aj hb a0⟩
def Il (xs:List UInt8)(k:Nat)(w:World)(s5 s56:Value)(wr:World):Prop:= ∃m y:Nat,m<=4/\s56 =.int .i64 m/\s5 =.int .i64 y/\be xs (k+8) m=some y/\ga m y/\w=wr
theorem sJ {k:Nat}(h:rD w g v xs k)(hE:aO w 9)(hS:aO w 27)(hU:aO w 28)(hk:k<=1000000000):Calls Tryz.prog 257 #[.pointer (some ⟨g,0,none⟩)] w fun e w'=>BP (jn (xs.drop (k+2))) w e w':=by
 obtain⟨A,n,q,rfl⟩:∃A n q,v =.slice A n q:=by obtain⟨-,-,A,c,e,-⟩:=h;exact⟨A,_,c,e⟩
 have c1:=ac h.1 (j:=1) (u:=.int .i64 k) rfl;have H:=Qa (show rD w.drew g (.slice A n q) xs k from h);have HE:=Qa (show aO w.drew 9 from hE);have HS:=Qa (show aO w.drew 27 from hS);have HU:=Qa (show aO w.drew 28 from hU);have Hb:=Qa (show Below w.heap.size w w.drew from(Ze _ _).drew);clear h hE hS hU;have e2:((k+2:Nat):Int)= (k:Int)+2:=by omega
 have s1:IntKind.i64.wrap ((k:Int)+2)= (k:Int)+2:=IntWalk.i64_in _ (by omega);rcases hx:cm (xs.drop (k+2)) with _|x
 ·have Hn:=Qa (xO hx);have Hx:=Qa hx;clear hx;go_enter Tryz.func257,Tryz.ntmps257;go_wp2_with fail;refine wp_region_held_drew (S:=fun w'=>w'.cell? ⟨g,1,none⟩=some (.int .i64 k)) (by kernel_rfl) (c1) (fun a0=>?_);refine tH 0 a0 ?_;refine tH 1 a0 ?_;refine tH 2 a0 ?_;refine tH 3 a0 ?_;refine tH 4 a0 ?_;refine tH 5 a0 ?_
  try simp only[Act.put,jP,jQ,jR]
  refine tH 6 a0 ?_;refine tH 7 a0 ?_;refine tH 8 a0 ?_;refine tH 9 a0 ?_
  try simp only[Act.put,jP,jQ,jR]
  refine rH 10 fun K hK=>?_
  go_simp;(try rw[s1]);rw[<-e2];refine(CY H.out HE.out HS.out (k+2) (by omega) _ Hx.out).mono ?_;rintro e w' hf;obtain⟨vP,rfl,hv,hb⟩:=hf.low Hb.out;exact⟨rfl,.inr ⟨Hn.out,vP,rfl,hv,hb⟩⟩
 ·have Hq:=Qa (ED hx);have Hx:=Qa hx;have c2:=gZ (show be xs (k+2) 4=some x by rw[<-fZ];exact hx);have c4:x<65536:=c2;clear hx c2;go_enter Tryz.func257,Tryz.ntmps257;go_wp2_with fail;refine bF (fun w'=>w'.cell? ⟨g,1,none⟩=some (.int .i64 k)) (c1) fun a0=>?_
  refine tH 0 a0 ?_;refine tH 1 a0 ?_;refine tH 2 a0 ?_;refine tH 3 a0 ?_;refine tH 4 a0 ?_;refine tH 5 a0 ?_
  try simp only[Act.put,jP,jQ,jR]
  refine tH 6 a0 ?_;refine tH 7 a0 ?_;refine tH 8 a0 ?_;refine tH 9 a0 ?_
  try simp only[Act.put,jP,jQ,jR]
  refine rH 10 fun K hK=>?_
  go_simp;(try rw[s1]);rw[<-e2];refine(xQ H.out HE.out HS.out (k+2) (by omega) _ Hx.out).mono ?_;rintro e w' ⟨rfl,rfl⟩;refine hK.out _ _ (a0) (fun a0=>?_);clear hK K
  try simp only[Act.put,jP,jQ,jR]
  refine tH 11 a0 ?_
  try simp only[Act.put,jP,jQ,jR]
  refine wpAnyH_done (by kernel_rfl) (NoPanic.normal ?_) _;have c1':w.drew.cell? ⟨g,1,none⟩=some (.int .i64 k):=c1;generalize w.drew=w1 at *;clear c1;obtain⟨aU,a4⟩:=HU.out;have sw:IntKind.i32.wrap (x:Int)=x:=by simp[IntKind.wrap,IntKind.bits,IntKind.signed];omega
  by_cases hA:x<55296
  ·have b9:(x:Int)<55296:=by omega
   have Hr:=Qa (Hq.out.trans (if_pos (.inl hA)));go_wp2_with fail;go_ret2;exact .inl ⟨_,Hr.out,rfl,Hb.out⟩
  by_cases hB:57343<x
  ·have b9:¬ (x:Int)<55296:=by omega
   have c8:(57343:Int)<x:=by omega
   have Hr:=Qa (Hq.out.trans (if_pos (.inr hB)));go_wp2_with fail;go_ret2;exact .inl ⟨_,Hr.out,rfl,Hb.out⟩
  have a3:=Qa (Hq.out.trans (if_neg (by omega)));have b9:¬ (x:Int)<55296:=by omega
  have c8:¬ (57343:Int)<x:=by omega
  by_cases hC:56319<x
  ·have c5:(56319:Int)<x:=by omega
   have Hn:=Qa (a3.out.trans (if_pos (.inl hC)));go_wp2_with fail;refine wp_region_held_drew (S:=fun w'=>w'.cell? ⟨g,1,none⟩=some (.int .i64 k)/\w'.cell? ⟨28,0,none⟩=some (bp aU)) (by kernel_rfl) (⟨c1',a4⟩) (fun a0=>?_);refine tH 0 a0 ?_;refine tH 1 a0 ?_;refine tH 2 a0 ?_;refine tH 3 a0 ?_;refine tH 4 a0 ?_
   try simp only[Act.put,jP,jQ,jR]
   refine rH 5 fun K hK=>?_
   go_simp;refine(a8 _ aU _).mono ?_;rintro e w' hf;obtain⟨vP,rfl,hv,hb⟩:=hf.low (show Below w.heap.size w w1.drew from Hb.out.drew);exact⟨rfl,.inr ⟨Hn.out,vP,rfl,hv,hb⟩⟩
  have c5:¬ (56319:Int)<x:=by omega
  rcases h6:xs[k+6]? with _|c6
  ·have Hn:=Qa (a3.out.trans (if_pos (.inr (.inl (by rw[h6];simp)))));have H6:=Qa h6;clear h6;go_wp2_with fail;rw[show(k:Int)+6= ((k+6:Nat):Int) from by omega];refine(gH H.out HE.out (k+6) H6.out).mono ?_;rintro e w' hf;obtain⟨vP,rfl,hv,hb⟩:=hf.low Hb.out;have Hv:=Qa hv;have b0:=Qa hb;clear hv hb hf;go_wp2_with fail;exact⟨rfl,.inr ⟨Hn.out,vP,rfl,Hv.out,b0.out⟩⟩
  have H6:=Qa h6
  by_cases h92:c6.toNat=92
  case neg=>
   have b4:((c6.toNat:Int)==92)=false:=by simp;omega
   have b5:((c6.toNat:Int) !=92)=true:=by simp;omega
   have Hn:=Qa (a3.out.trans (if_pos (.inr (.inl (by rw[h6];intro e;injection e with e;subst e;exact h92 rfl)))));clear h6 h92;go_wp2_with fail;rw[show(k:Int)+6= ((k+6:Nat):Int) from by omega];refine(aM H.out HE.out (k+6) H6.out).mono ?_;rintro e w' ⟨rfl,rfl⟩;go_wp2_with fail;refine wp_region_held_drew (S:=fun w'=>w'.cell? ⟨g,1,none⟩=some (.int .i64 k)/\w'.cell? ⟨28,0,none⟩=some (bp aU)) (by kernel_rfl) (⟨c1',a4⟩) (fun a0=>?_);refine tH 0 a0 ?_;refine tH 1 a0 ?_;refine tH 2 a0 ?_;refine tH 3 a0 ?_;refine tH 4 a0 ?_
   try simp only[Act.put,jP,jQ,jR]
   refine rH 5 fun K hK=>?_
   go_simp;refine(a8 _ aU _).mono ?_;rintro e w' hf;obtain⟨vP,rfl,hv,hb⟩:=hf.low (show Below w.heap.size w w1.drew from Hb.out.drew);exact⟨rfl,.inr ⟨Hn.out,vP,rfl,hv,hb⟩⟩
  have b4:((c6.toNat:Int)==92)=true:=by simp;omega
  have b5:((c6.toNat:Int) !=92)=false:=by simp;omega
  obtain rfl:c6=92:=UInt8.toNat_inj.1 (by rw[h92];rfl);rcases h7:xs[k+7]? with _|c7
  ·have Hn:=Qa (a3.out.trans (if_pos (.inr (.inr (by rw[h7];simp)))));have H7:=Qa h7;clear h6 h7 h92;go_wp2_with fail;rw[show(k:Int)+6= ((k+6:Nat):Int) from by omega];refine(aM H.out HE.out (k+6) H6.out).mono ?_;rintro e w' ⟨rfl,rfl⟩;go_wp2_with fail;rw[show(k:Int)+7= ((k+7:Nat):Int) from by omega];refine(gH H.out HE.out (k+7) H7.out).mono ?_;rintro e w' hf;obtain⟨vP,rfl,hv,hb⟩:=hf.low Hb.out;have Hv:=Qa hv;have b0:=Qa hb;clear hv hb hf;go_wp2_with fail;exact⟨rfl,.inr ⟨Hn.out,vP,rfl,Hv.out,b0.out⟩⟩
  have H7:=Qa h7
  by_cases h117:c7.toNat=117
  case neg=>
   have a9:((c7.toNat:Int) !=117)=true:=by simp;omega
   have Hn:=Qa (a3.out.trans (if_pos (.inr (.inr (by rw[h7];intro e;injection e with e;subst e;exact h117 rfl)))));clear h6 h7 h92 h117;go_wp2_with fail;rw[show(k:Int)+6= ((k+6:Nat):Int) from by omega];refine(aM H.out HE.out (k+6) H6.out).mono ?_;rintro e w' ⟨rfl,rfl⟩;go_wp2_with fail;rw[show(k:Int)+7= ((k+7:Nat):Int) from by omega];refine(aM H.out HE.out (k+7) H7.out).mono ?_;rintro e w' ⟨rfl,rfl⟩;go_wp2_with fail;refine wp_region_held_drew (S:=fun w'=>w'.cell? ⟨g,1,none⟩=some (.int .i64 k)/\w'.cell? ⟨28,0,none⟩=some (bp aU)) (by kernel_rfl) (⟨c1',a4⟩) (fun a0=>?_);refine tH 0 a0 ?_;refine tH 1 a0 ?_;refine tH 2 a0 ?_;refine tH 3 a0 ?_;refine tH 4 a0 ?_
   try simp only[Act.put,jP,jQ,jR]
   refine rH 5 fun K hK=>?_
   go_simp;refine(a8 _ aU _).mono ?_;rintro e w' hf;obtain⟨vP,rfl,hv,hb⟩:=hf.low (show Below w.heap.size w w1.drew from Hb.out.drew);exact⟨rfl,.inr ⟨Hn.out,vP,rfl,hv,hb⟩⟩
  have a9:((c7.toNat:Int) !=117)=false:=by simp;omega
  obtain rfl:c7=117:=UInt8.toNat_inj.1 (by rw[h117];rfl);have b1:=Qa (a3.out.trans (if_neg (by rw[h6,h7];simp;omega)));clear h6 h7 h92 h117;go_wp2_with fail;rw[show(k:Int)+6= ((k+6:Nat):Int) from by omega];refine(aM H.out HE.out (k+6) H6.out).mono ?_;rintro e w' ⟨rfl,rfl⟩;go_wp2_with fail;rw[show(k:Int)+7= ((k+7:Nat):Int) from by omega];refine(aM H.out HE.out (k+7) H7.out).mono ?_;rintro e w' ⟨rfl,rfl⟩;go_wp2_with fail
  go_loopw [5,6,7,8,56] (fun s5 _ _ _ s56 wr=>Il xs k w1 s5 s56 wr) (fun _ _ _ _ s56 _=>4 - (intOf s56).toNat)
  case atStart=>exact⟨0,0,by omega,rfl,rfl,rfl,.inl ⟨rfl,rfl⟩,rfl⟩
  case round=>
   obtain⟨m,y,hm,rfl,rfl,hf,b8,rfl⟩:=hrel;have Hf:=Qa hf;have a5:=Qa b8;have c9:y<65536:=Nat.lt_of_lt_of_le (gZ hf) (Zc (Nat.pow_le_pow_right (by decide) hm) (by decide));clear hf b8
   by_cases h4:m<4
   ·have d1:(m:Int)<4:=by omega
    rcases hc:xs[k+8+m]? with _|c
    ·have Hn:=Qa (show jn (xs.drop (k+2))=none from by
      have h1:be xs (k+8) (m+1)=none:=by unfold be;rw[Hf.out,hc]
      rw[b1.out,mQ h1 (by omega)])
     have Hc:=Qa hc;clear hc;go_wp2_with fail
     (first|rw[show(k:Int)+8+m= ((k+8+m:Nat):Int) from by omega]|rw[show(k:Int)+8+1= ((k+8+m:Nat):Int) from by omega]|rw[show(k:Int)+9= ((k+8+m:Nat):Int) from by omega]|rw[show(k:Int)+8= ((k+8+m:Nat):Int) from by omega])
     refine(gH H.out HE.out (k+8+m) Hc.out).mono ?_;rintro e w' hf;obtain⟨vP,rfl,hv,hb⟩:=hf.low Hb.out;have Hv:=Qa hv;have b0:=Qa hb;clear hv hb hf;go_wp2_with fail;exact⟨rfl,.inr ⟨Hn.out,vP,rfl,Hv.out,b0.out⟩⟩
    have Hc:=Qa hc;clear hc;rcases hh:fQ c with _|d
    ·have HH:=Qa hh;have Hn:=Qa (show jn (xs.drop (k+2))=none from by
      have h1:be xs (k+8) (m+1)=none:=by unfold be;rw[Hf.out,Hc.out];simp[hh]
      rw[b1.out,mQ h1 (by omega)])
     clear hh;go_wp2_with fail
     (first|rw[show(k:Int)+8+m= ((k+8+m:Nat):Int) from by omega]|rw[show(k:Int)+8+1= ((k+8+m:Nat):Int) from by omega]|rw[show(k:Int)+9= ((k+8+m:Nat):Int) from by omega]|rw[show(k:Int)+8= ((k+8+m:Nat):Int) from by omega])
     refine(aM H.out HE.out (k+8+m) Hc.out).mono ?_;rintro e w' ⟨rfl,rfl⟩;go_wp2_with fail;refine(cN c w1).mono ?_;rintro e w' ⟨rfl,rfl⟩;rw[HH.out];unfold j7;go_wp2_with fail;refine wp_region_held_drew (S:=fun w'=>w'.cell? ⟨g,1,none⟩=some (.int .i64 k)/\w'.cell? ⟨28,0,none⟩=some (bp aU)) (by kernel_rfl) (⟨c1',a4⟩) (fun a0=>?_);refine tH 0 a0 ?_;refine tH 1 a0 ?_;refine tH 2 a0 ?_;refine tH 3 a0 ?_;refine tH 4 a0 ?_
     try simp only[Act.put,jP,jQ,jR]
     refine rH 5 fun K hK=>?_
     go_simp;refine(a8 _ aU _).mono ?_;rintro e w' hf;obtain⟨vP,rfl,hv,hb⟩:=hf.low (show Below w.heap.size w w1.drew from Hb.out.drew);exact⟨rfl,.inr ⟨Hn.out,vP,rfl,hv,hb⟩⟩
    have HH:=Qa hh;have a2:=lM hh;clear hh
    by_cases h0:m=0
    ·have c3:((m:Int)==0)=true:=by simp;omega
     have c0:((m:Int)==1)=false:=by simp;omega
     by_cases h13:d=13
     ·have b2:((d:Int) !=13)=false:=by simp;omega
      have Hs:=Qa (show be xs (k+8) (m+1)=some (y*16+d) from by unfold be;rw[Hf.out,Hc.out];simp[HH.out]);have a1:=Qa (show ga (m+1) (y*16+d) from by have:=a5.out;unfold ga at this ⊢;omega);(try clear h13);(try clear h0);(try clear h1);(try clear h12);have or1:=oV y d (by omega) a2;have sh1:((y*16:Nat):Int)= (y:Int)*16:=by omega
      rw[sh1] at or1;clear sh1;go_wp2_with fail
      (first|rw[show(k:Int)+8+m= ((k+8+m:Nat):Int) from by omega]|rw[show(k:Int)+8+1= ((k+8+m:Nat):Int) from by omega]|rw[show(k:Int)+9= ((k+8+m:Nat):Int) from by omega]|rw[show(k:Int)+8= ((k+8+m:Nat):Int) from by omega])
      refine(aM H.out HE.out (k+8+m) Hc.out).mono ?_;rintro e w' ⟨rfl,rfl⟩;go_wp2_with fail;refine(cN c w1).mono ?_;rintro e w' ⟨rfl,rfl⟩;rw[HH.out];unfold j7;go_wp2_with fail;exact⟨⟨m+1,y*16+d,by omega,by go_num,by go_num,Hs.out,a1.out,rfl⟩,by simp[intOf];omega⟩
     ·have b2:((d:Int) !=13)=true:=by simp;omega
      have Hn:=Qa (show jn (xs.drop (k+2))=none from by
       have h1:be xs (k+8) (m+1)=some (y*16+d):=by unfold be;rw[Hf.out,Hc.out];simp[HH.out]
       have h2:=qX (by omega) h1 (by have:=a5.out;unfold ga at this ⊢;omega);rw[b1.out]
       cases h4:be xs (k+8) 4 with
       |none=>rfl
       |some z=>exact if_pos (h2 z h4))
      go_wp2_with fail
      (first|rw[show(k:Int)+8+m= ((k+8+m:Nat):Int) from by omega]|rw[show(k:Int)+8+1= ((k+8+m:Nat):Int) from by omega]|rw[show(k:Int)+9= ((k+8+m:Nat):Int) from by omega]|rw[show(k:Int)+8= ((k+8+m:Nat):Int) from by omega])
      refine(aM H.out HE.out (k+8+m) Hc.out).mono ?_;rintro e w' ⟨rfl,rfl⟩;go_wp2_with fail;refine(cN c w1).mono ?_;rintro e w' ⟨rfl,rfl⟩;rw[HH.out];unfold j7;go_wp2_with fail;refine wp_region_held_drew (S:=fun w'=>w'.cell? ⟨g,1,none⟩=some (.int .i64 k)/\w'.cell? ⟨28,0,none⟩=some (bp aU)) (by kernel_rfl) (⟨c1',a4⟩) (fun a0=>?_);refine tH 0 a0 ?_;refine tH 1 a0 ?_;refine tH 2 a0 ?_;refine tH 3 a0 ?_;refine tH 4 a0 ?_
      try simp only[Act.put,jP,jQ,jR]
      refine rH 5 fun K hK=>?_
      go_simp;refine(a8 _ aU _).mono ?_;rintro e w' hf;obtain⟨vP,rfl,hv,hb⟩:=hf.low (show Below w.heap.size w w1.drew from Hb.out.drew);exact⟨rfl,.inr ⟨Hn.out,vP,rfl,hv,hb⟩⟩
    ·have c3:((m:Int)==0)=false:=by simp;omega
     by_cases h1:m=1
     ·have c0:((m:Int)==1)=true:=by simp;omega
      by_cases h12:d<12
      ·have b3:(d:Int)<12:=by omega
       have Hn:=Qa (show jn (xs.drop (k+2))=none from by
        have h1:be xs (k+8) (m+1)=some (y*16+d):=by unfold be;rw[Hf.out,Hc.out];simp[HH.out]
        have h2:=qX (by omega) h1 (by have:=a5.out;unfold ga at this ⊢;omega);rw[b1.out]
        cases h4:be xs (k+8) 4 with
        |none=>rfl
        |some z=>exact if_pos (h2 z h4))
       go_wp2_with fail
       (first|rw[show(k:Int)+8+m= ((k+8+m:Nat):Int) from by omega]|rw[show(k:Int)+8+1= ((k+8+m:Nat):Int) from by omega]|rw[show(k:Int)+9= ((k+8+m:Nat):Int) from by omega]|rw[show(k:Int)+8= ((k+8+m:Nat):Int) from by omega])
       refine(aM H.out HE.out (k+8+m) Hc.out).mono ?_;rintro e w' ⟨rfl,rfl⟩;go_wp2_with fail;refine(cN c w1).mono ?_;rintro e w' ⟨rfl,rfl⟩;rw[HH.out];unfold j7;go_wp2_with fail;refine wp_region_held_drew (S:=fun w'=>w'.cell? ⟨g,1,none⟩=some (.int .i64 k)/\w'.cell? ⟨28,0,none⟩=some (bp aU)) (by kernel_rfl) (⟨c1',a4⟩) (fun a0=>?_);refine tH 0 a0 ?_;refine tH 1 a0 ?_;refine tH 2 a0 ?_;refine tH 3 a0 ?_;refine tH 4 a0 ?_
       try simp only[Act.put,jP,jQ,jR]
       refine rH 5 fun K hK=>?_
       go_simp;refine(a8 _ aU _).mono ?_;rintro e w' hf;obtain⟨vP,rfl,hv,hb⟩:=hf.low (show Below w.heap.size w w1.drew from Hb.out.drew);exact⟨rfl,.inr ⟨Hn.out,vP,rfl,hv,hb⟩⟩
      ·have b3:¬ (d:Int)<12:=by omega
       have Hs:=Qa (show be xs (k+8) (m+1)=some (y*16+d) from by unfold be;rw[Hf.out,Hc.out];simp[HH.out]);have a1:=Qa (show ga (m+1) (y*16+d) from by have:=a5.out;unfold ga at this ⊢;omega);(try clear h13);(try clear h0);(try clear h1);(try clear h12);have or1:=oV y d (by omega) a2;have sh1:((y*16:Nat):Int)= (y:Int)*16:=by omega
       rw[sh1] at or1;clear sh1;go_wp2_with fail
       (first|rw[show(k:Int)+8+m= ((k+8+m:Nat):Int) from by omega]|rw[show(k:Int)+8+1= ((k+8+m:Nat):Int) from by omega]|rw[show(k:Int)+9= ((k+8+m:Nat):Int) from by omega]|rw[show(k:Int)+8= ((k+8+m:Nat):Int) from by omega])
       refine(aM H.out HE.out (k+8+m) Hc.out).mono ?_;rintro e w' ⟨rfl,rfl⟩;go_wp2_with fail;refine(cN c w1).mono ?_;rintro e w' ⟨rfl,rfl⟩;rw[HH.out];unfold j7;go_wp2_with fail;exact⟨⟨m+1,y*16+d,by omega,by go_num,by go_num,Hs.out,a1.out,rfl⟩,by simp[intOf];omega⟩
     ·have c0:((m:Int)==1)=false:=by simp;omega
      have Hs:=Qa (show be xs (k+8) (m+1)=some (y*16+d) from by unfold be;rw[Hf.out,Hc.out];simp[HH.out]);have a1:=Qa (show ga (m+1) (y*16+d) from by have:=a5.out;unfold ga at this ⊢;omega);(try clear h13);(try clear h0);(try clear h1);(try clear h12);have or1:=oV y d (by omega) a2;have sh1:((y*16:Nat):Int)= (y:Int)*16:=by omega
      rw[sh1] at or1;clear sh1;go_wp2_with fail
      (first|rw[show(k:Int)+8+m= ((k+8+m:Nat):Int) from by omega]|rw[show(k:Int)+8+1= ((k+8+m:Nat):Int) from by omega]|rw[show(k:Int)+9= ((k+8+m:Nat):Int) from by omega]|rw[show(k:Int)+8= ((k+8+m:Nat):Int) from by omega])
      refine(aM H.out HE.out (k+8+m) Hc.out).mono ?_;rintro e w' ⟨rfl,rfl⟩;go_wp2_with fail;refine(cN c w1).mono ?_;rintro e w' ⟨rfl,rfl⟩;rw[HH.out];unfold j7;go_wp2_with fail;exact⟨⟨m+1,y*16+d,by omega,by go_num,by go_num,Hs.out,a1.out,rfl⟩,by simp[intOf];omega⟩
   ·obtain rfl:m=4:=by omega
    have d0:56320<=y/\y<=57343:=by have:=a5.out;unfold ga at this;omega
    have Hr:=Qa (show jn (xs.drop (k+2))=some (65536+ (x - 55296)*1024+ (y - 56320),12) from by
     rw[b1.out,Hf.out];exact if_neg (by omega))
    obtain⟨z,hz⟩:∃z:Nat,65536+ (x - 55296)*1024+ (y - 56320)=z:=⟨_,rfl⟩;have hzb:z<1114112:=by omega
    have sz:IntKind.i32.wrap (z:Int)=z:=by simp[IntKind.wrap,IntKind.bits,IntKind.signed];omega
    have ez:65536+ ((x:Int) - 55296)*1024+y - 56320=z:=by omega
    rw[hz] at Hr;clear hz;go_wp2_with fail;go_ret2;exact .inl ⟨_,Hr.out,rfl,Hb.out⟩
