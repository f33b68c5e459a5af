import Derived.Test.YtafobflehfecpaaGreatDoorGZ15ac
set_option linter.unusedVariables false
set_option linter.unusedSimpArgs false
set_option maxHeartbeats 64000000
namespace Go.Proofs.YtafobflehfecpaaGreatDoor
open Go.RowKit
variable {aE aU:Addr}{xs:List UInt8}{n q:Nat}{v:Value}{w w':World}
theorem eP (x:Int)(w:World) :
  Calls Tryz.prog 108 #[.int .u8 x] w fun e w'=>e =.returned (.bool (cR x))/\w=w':=by
 go_enter Tryz.func108,Tryz.ntmps108;go_wp2;go_ret;exact⟨rfl,rfl⟩
theorem dm (x y:Int)(h':0<=y/\y<=255)(w:World) :
  Calls Tryz.prog 107 #[.int .u8 x,.int .u8 y] w fun e w'=>e =.returned (.bool (cw x y))/\w=w':=by
 go_enter Tryz.func107,Tryz.ntmps107;go_wp2_with (go_at_call 108;refine(eP _ _).mono ?_;rintro e w' ⟨rfl,rfl⟩)
 all_goals go_ret
 all_goals refine⟨qJ ?_,rfl⟩
 all_goals (simp_all [cw] <;> omega)
def vn (w:World):Prop:= ∀i,i<16->w.cell? ⟨11,i,none⟩=some (.int .i8 (dD.getD i 0))
theorem eF (x:Int)(h:0<=x/\x<=255)(w:World)(hL:vn w) :
  Calls Tryz.prog 106 #[.int .u8 x] w fun e w'=>e =.returned (.int .i64 (aL x))/\w=w':=by
 by_cases h1:x=192\/x=193\/244<x
 ·have hc:aL x = -1:=by simp[aL,h1]
  rw[hc];clear hc;go_enter Tryz.func106,Tryz.ntmps106;rcases h1 with rfl|rfl|h1
  ·go_wp2;go_ret;exact⟨rfl,rfl⟩
  ·go_wp2;go_ret;exact⟨rfl,rfl⟩
  ·have e1:(x==192)=false:=by simp;omega
   have e2:(x==193)=false:=by simp;omega
   go_wp2;go_ret;exact⟨rfl,rfl⟩
 ·have hc:aL x=dD.getD (x/16).toNat 0:=by simp[aL,h1]
  rw[hc];clear hc;have hc:=hL (x/16).toNat (by omega);clear hL;have hb:∃q:Int,-1<=q/\q<=4/\dD.getD (x/16).toNat 0=q:=⟨_,(nB _).1,(nB _).2,rfl⟩;obtain⟨q,q1,q2,hq⟩:=hb;rw[hq] at hc ⊢;clear hq;have e1:(x==192)=false:=by simp;omega
  have e2:(x==193)=false:=by simp;omega
  have e3:¬244<x:=by omega
  clear h1;go_enter Tryz.func106,Tryz.ntmps106;go_wp2;go_ret;exact⟨rfl,rfl⟩
def gM (U E:Value)(c:Nat):Value:=if c=0 then .nilIface else if c=1 then E else U
def rD (U E:Value)(r:Nat×Nat×Nat):Value:=.tuple #[.int .i32 r.1,.int .i64 r.2.1,gM U E r.2.2]
theorem oP (n:Nat)(xs:List UInt8)(hn:2<=n)(a2:n<=4):∀k,k<=n->dh n xs k<2097152/\(k<n->dh n xs k<32768):=by
 have b0:=aP xs 0;have b1:=aP xs 1;have b2:=aP xs 2;have b3:=aP xs 3;intro k hk;have a1:k=0\/k=1\/k=2\/k=3\/k=4:=by omega
 have a0:n=2\/n=3\/n=4:=by omega
 rcases a0 with rfl|rfl|rfl <;> rcases a1 with rfl|rfl|rfl|rfl|rfl <;> simp[dh,bO] <;> omega
def em (U E:Value)(w:World)(R:Nat×Nat×Nat)(e:Ending)(w':World):Prop:=e =.returned (rD U E R)/\∃m,w'=w.drewN m
def e7 (xs:List UInt8)(n:Nat)(R:Nat×Nat×Nat)(w:World)(cc i:Value)(wr:World):Prop:=
 ∃f k:Nat,k+f=n/\1<=k/\k<=xs.length/\i =.int .i64 k/\cc =.int .i32 (dh n xs k)/\az xs n f k=R/\∃m,wr=w.drewN m
theorem Fv:∀x:Nat,x<256->bits .and .i32 (x:Int) 31= ((x % 32:Nat):Int):=by decide +kernel
theorem DU:∀x:Nat,x<256->bits .and .i32 (x:Int) 15= ((x % 16:Nat):Int):=by decide +kernel
theorem GB:∀x:Nat,x<256->bits .and .i32 (x:Int) 7= ((x % 8:Nat):Int):=by decide +kernel
theorem uE (x:Nat)(h:x<256):((bO 2 x:Nat):Int)=bits .and .i32 (x:Int) 31:=by rw[Fv x h];rfl
theorem sV (x:Nat)(h:x<256):((bO 3 x:Nat):Int)=bits .and .i32 (x:Int) 15:=by rw[DU x h];rfl
theorem tS (x:Nat)(h:x<256):((bO 4 x:Nat):Int)=bits .and .i32 (x:Int) 7:=by rw[GB x h];rfl
theorem eU {f k y m:Nat}{R:Nat×Nat×Nat}{v:Int}(hq:dh n xs k=q)(hy:am xs k=y)(hk:1<=k)(hf:k+ (f+1)=n)
  (hlt:k<xs.length) (hR:az xs n (f+1) k=R) (a0:ml xs k=true) (hv:v= (k:Int)+1) :
  e7 xs n R w (.int .i32 ((q:Int)*64+ (y:Int) % 64)) (.int .i64 v) (w.drewN m):=by
 refine⟨f,k+1,by omega,by omega,by omega,by rw[hv];rfl,?_,?_,m,rfl⟩
 ·obtain⟨j,rfl⟩:∃j,k=j+1:=⟨k - 1,by omega⟩;rw[dh,hq,hy];congr 1
 ·rw[<-hR,az,if_neg (by omega),if_pos a0]
theorem dx {f k:Nat}{R:Nat×Nat×Nat}(hlt:k<xs.length)(hR:az xs n (f+1) k=R)(a0:ml xs k=false):(0,0,2)=R:=by
 rw[<-hR,az,if_neg (by omega),a0];rfl
theorem BN (b o c len:Nat)(xs:List UInt8)(w:World)(hlen:xs.length=len)(h2:1<=len)(hm:len<=9223372036854775807)
  (hc:∀i,i<len->w.cell? ⟨b,o+i,none⟩=some (.int .u8 (am xs i))) (U E:Value) (hU:w.cell? ⟨10,0,none⟩=some U) (hE:w.cell? ⟨9,0,none⟩=some E) (hL:vn w) (hn:aL (am xs 0)=2) :
  Calls Tryz.prog 69 #[.slice (some ⟨b,o,none⟩) len c] w (em U E w (az xs 2 1 1)):=by
 have a9:=oP 2 xs (by omega) (by omega);have h0:=hc 0 (by omega);rw[Nat.add_zero] at h0;have hx:=aP xs 0;have a3:dh 2 xs 1=bO 2 (am xs 0):=rfl;have a0:e7 xs 2 (az xs 2 1 1) w (.int .i32 (dh 2 xs 1)) (.int .i64 1) w:=
  ⟨1,1,by omega,by omega,by omega,rfl,rfl,rfl,0,rfl⟩
 rw[a3] at a0;generalize az xs 2 1 1=R at *;generalize hx0:am xs 0=x0 at *;have Hc:=Qa hc;have Hn:=Qa hn;have b2:=Qa a9;have Hs:=Qa a0;have a1:=Qa hlen;have b4:=Qa hx0;clear hc hn hlen a9 a3 a0 hx0;have HL:=Qa hL;clear hL;have b8:((len:Int)==0)=false:=by simp;omega
 go_enter Tryz.func69,Tryz.ntmps69;go_wp2_with (go_at_call 106;refine(eF _ (by omega) _ HL.out).mono ?_;rintro e w' ⟨rfl,rfl⟩;rw[Hn.out])
 go_loopw [6,7] (e7 xs 2 R w) (fun _ i _=>2 - (intOf i).toNat)
 case atStart=>exact uE x0 hx▸Hs.out
 case round=>
  obtain⟨f,k,hf,a5,b5,rfl,rfl,hR,m,rfl⟩:=hrel
  cases f with
  |zero=>
   obtain rfl:k=2:=by omega
   generalize hq:dh 2 xs 2=q at *;have HR:=Qa (show(q,2,0)=R by rw[<-hR,<-hq];rfl);clear hR hq;go_wp2;go_ret3;exact⟨by rw[<-HR.out];rfl,m,rfl⟩
  |succ f=>
   have b9:k<2:=by omega
   by_cases hkl:k=len
   ·have HR:=Qa (show(0,0,1)=R by rw[<-hR,az,if_pos (by rw[a1.out];exact hkl)]);clear hR;generalize dh 2 xs k=q at *;subst hkl;go_wp2;go_quiet (fail)
    all_goals (go_wp2;go_ret3)
    exact⟨by rw[<-HR.out];rfl,_,World.drewN_drewN _ _ _⟩
   ·have a2:k<len:=by have:=a1.out;omega
    have b3:((k:Int)==len)=false:=by simp;omega
    have hq:=(b2.out k (by omega)).2 (by omega);have b0:=Hc.out k a2;have c0:=aP xs k;have Hf:=Qa hf;generalize hqq:dh 2 xs k=q at *;have Hq:=Qa hqq;clear hqq hf;generalize hyy:am xs k=y at *;have Hy:=Qa hyy;clear hyy;have HR:=Qa hR;clear hR;have hp:0<len:=by omega
    have c2:(0:Int)<len:=by omega
    by_cases a5:k=1
    ·subst a5;have c1:(1:Int)<len:=by omega
     have a4:=Qa (iI b4.out Hy.out)
     by_cases hs:cw x0 y=true
     ·go_wp2;go_quiet ((go_at_call 107;exact bP (dm _ _ (by omega) _)));go_wp2_with (go_at_call 108;refine(eP _ _).mono ?_;rintro e w' ⟨rfl,rfl⟩)
      ·have ht:(!cR y)=true:=by assumption
       go_quiet (fail)
       all_goals (go_wp2;go_ret3)
       exact⟨by rw[<-dx (by rw[a1.out];exact a2) HR.out (by rw[a4.out,hs];simpa using ht)];rfl,_,World.drewN_drewN _ _ _⟩
      ·have ht:(!cR y)=false:=by assumption
       exact⟨eU Hq.out Hy.out (by omega) Hf.out (by rw[a1.out];exact a2) HR.out (by rw[a4.out,hs];simpa using ht) (by omega),by simp[intOf]⟩
     ·have b1:cw x0 y=false:=by simpa using hs
      clear hs;go_wp2;go_quiet ((go_at_call 107;exact bP (dm _ _ (by omega) _)));go_wp2;go_quiet (fail)
      all_goals (go_wp2;go_ret3)
      exact⟨by rw[<-dx (by rw[a1.out];exact a2) HR.out (by rw[a4.out,b1];rfl)];rfl,_,(congrArg (fun W:World=>W.drewN _) (World.drewN_drewN ..)).trans (World.drewN_drewN ..)⟩
    ·exfalso;omega
theorem BF (b o c len:Nat)(xs:List UInt8)(w:World)(hlen:xs.length=len)(h2:1<=len)(hm:len<=9223372036854775807)
  (hc:∀i,i<len->w.cell? ⟨b,o+i,none⟩=some (.int .u8 (am xs i))) (U E:Value) (hU:w.cell? ⟨10,0,none⟩=some U) (hE:w.cell? ⟨9,0,none⟩=some E) (hL:vn w) (hn:aL (am xs 0)=3) :
  Calls Tryz.prog 69 #[.slice (some ⟨b,o,none⟩) len c] w (em U E w (az xs 3 2 1)):=by
 have a9:=oP 3 xs (by omega) (by omega);have h0:=hc 0 (by omega);rw[Nat.add_zero] at h0;have hx:=aP xs 0;have a4:dh 3 xs 1=bO 3 (am xs 0):=rfl;have a0:e7 xs 3 (az xs 3 2 1) w (.int .i32 (dh 3 xs 1)) (.int .i64 1) w:=
  ⟨2,1,by omega,by omega,by omega,rfl,rfl,rfl,0,rfl⟩
 rw[a4] at a0;generalize az xs 3 2 1=R at *;generalize hx0:am xs 0=x0 at *;have Hc:=Qa hc;have Hn:=Qa hn;have b2:=Qa a9;have Hs:=Qa a0;have a1:=Qa hlen;have b4:=Qa hx0;clear hc hn hlen a9 a4 a0 hx0;have HL:=Qa hL;clear hL;have b8:((len:Int)==0)=false:=by simp;omega
 go_enter Tryz.func69,Tryz.ntmps69;go_wp2_with (go_at_call 106;refine(eF _ (by omega) _ HL.out).mono ?_;rintro e w' ⟨rfl,rfl⟩;rw[Hn.out])
 go_loopw [6,7] (e7 xs 3 R w) (fun _ i _=>3 - (intOf i).toNat)
 case atStart=>exact sV x0 hx▸Hs.out
 case round=>
  obtain⟨f,k,hf,a5,b5,rfl,rfl,hR,m,rfl⟩:=hrel
  cases f with
  |zero=>
   obtain rfl:k=3:=by omega
   generalize hq:dh 3 xs 3=q at *;have HR:=Qa (show(q,3,0)=R by rw[<-hR,<-hq];rfl);clear hR hq;go_wp2;go_ret3;exact⟨by rw[<-HR.out];rfl,m,rfl⟩
  |succ f=>
   have b9:k<3:=by omega
   by_cases hkl:k=len
   ·have HR:=Qa (show(0,0,1)=R by rw[<-hR,az,if_pos (by rw[a1.out];exact hkl)]);clear hR;generalize dh 3 xs k=q at *;subst hkl;go_wp2;go_quiet (fail)
    all_goals (go_wp2;go_ret3)
    exact⟨by rw[<-HR.out];rfl,_,World.drewN_drewN _ _ _⟩
   ·have a2:k<len:=by have:=a1.out;omega
    have b3:((k:Int)==len)=false:=by simp;omega
    have hq:=(b2.out k (by omega)).2 (by omega);have b0:=Hc.out k a2;have c1:=aP xs k;have Hf:=Qa hf;generalize hqq:dh 3 xs k=q at *;have Hq:=Qa hqq;clear hqq hf;generalize hyy:am xs k=y at *;have Hy:=Qa hyy;clear hyy;have HR:=Qa hR;clear hR;have hp:0<len:=by omega
    have c3:(0:Int)<len:=by omega
    by_cases a5:k=1
    ·subst a5;have c2:(1:Int)<len:=by omega
     have a3:=Qa (iI b4.out Hy.out)
     by_cases hs:cw x0 y=true
     ·go_wp2;go_quiet ((go_at_call 107;exact bP (dm _ _ (by omega) _)));go_wp2_with (go_at_call 108;refine(eP _ _).mono ?_;rintro e w' ⟨rfl,rfl⟩)
      ·have ht:(!cR y)=true:=by assumption
       go_quiet (fail)
       all_goals (go_wp2;go_ret3)
       exact⟨by rw[<-dx (by rw[a1.out];exact a2) HR.out (by rw[a3.out,hs];simpa using ht)];rfl,_,World.drewN_drewN _ _ _⟩
      ·have ht:(!cR y)=false:=by assumption
       exact⟨eU Hq.out Hy.out (by omega) Hf.out (by rw[a1.out];exact a2) HR.out (by rw[a3.out,hs];simpa using ht) (by omega),by simp[intOf]⟩
     ·have b1:cw x0 y=false:=by simpa using hs
      clear hs;go_wp2;go_quiet ((go_at_call 107;exact bP (dm _ _ (by omega) _)));go_wp2;go_quiet (fail)
      all_goals (go_wp2;go_ret3)
      exact⟨by rw[<-dx (by rw[a1.out];exact a2) HR.out (by rw[a3.out,b1];rfl)];rfl,_,(congrArg (fun W:World=>W.drewN _) (World.drewN_drewN ..)).trans (World.drewN_drewN ..)⟩
    ·have c0:((k:Int)==1)=false:=by simp;omega
     have a3:=Qa (gu a5 Hy.out);go_wp2;go_quiet (fail);go_wp2_with (go_at_call 108;refine(eP _ _).mono ?_;rintro e w' ⟨rfl,rfl⟩)
     ·have ht:(!cR y)=true:=by assumption
      go_quiet (fail)
      all_goals (go_wp2;go_ret3)
      exact⟨by rw[<-dx (by rw[a1.out];exact a2) HR.out (by rw[a3.out];simpa using ht)];rfl,_,World.drewN_drewN _ _ _⟩
     ·have ht:(!cR y)=false:=by assumption
      exact⟨eU Hq.out Hy.out (by omega) Hf.out (by rw[a1.out];exact a2) HR.out (by rw[a3.out];simpa using ht) (by omega),by simp[intOf];omega⟩
theorem BV (b o c len:Nat)(xs:List UInt8)(w:World)(hlen:xs.length=len)(h2:1<=len)(hm:len<=9223372036854775807)
  (hc:∀i,i<len->w.cell? ⟨b,o+i,none⟩=some (.int .u8 (am xs i))) (U E:Value) (hU:w.cell? ⟨10,0,none⟩=some U) (hE:w.cell? ⟨9,0,none⟩=some E) (hL:vn w) (hn:aL (am xs 0)=4) :
  Calls Tryz.prog 69 #[.slice (some ⟨b,o,none⟩) len c] w (em U E w (az xs 4 3 1)):=by
 have a9:=oP 4 xs (by omega) (by omega);have h0:=hc 0 (by omega);rw[Nat.add_zero] at h0;have hx:=aP xs 0;have a4:dh 4 xs 1=bO 4 (am xs 0):=rfl;have a0:e7 xs 4 (az xs 4 3 1) w (.int .i32 (dh 4 xs 1)) (.int .i64 1) w:=
  ⟨3,1,by omega,by omega,by omega,rfl,rfl,rfl,0,rfl⟩
 rw[a4] at a0;generalize az xs 4 3 1=R at *;generalize hx0:am xs 0=x0 at *;have Hc:=Qa hc;have Hn:=Qa hn;have b2:=Qa a9;have Hs:=Qa a0;have a1:=Qa hlen;have b4:=Qa hx0;clear hc hn hlen a9 a4 a0 hx0;have HL:=Qa hL;clear hL;have b8:((len:Int)==0)=false:=by simp;omega
 go_enter Tryz.func69,Tryz.ntmps69;go_wp2_with (go_at_call 106;refine(eF _ (by omega) _ HL.out).mono ?_;rintro e w' ⟨rfl,rfl⟩;rw[Hn.out])
 go_loopw [6,7] (e7 xs 4 R w) (fun _ i _=>4 - (intOf i).toNat)
 case atStart=>exact tS x0 hx▸Hs.out
 case round=>
  obtain⟨f,k,hf,a5,b5,rfl,rfl,hR,m,rfl⟩:=hrel
  cases f with
  |zero=>
   obtain rfl:k=4:=by omega
   generalize hq:dh 4 xs 4=q at *;have HR:=Qa (show(q,4,0)=R by rw[<-hR,<-hq];rfl);clear hR hq;go_wp2;go_ret3;exact⟨by rw[<-HR.out];rfl,m,rfl⟩
  |succ f=>
   have b9:k<4:=by omega
   by_cases hkl:k=len
   ·have HR:=Qa (show(0,0,1)=R by rw[<-hR,az,if_pos (by rw[a1.out];exact hkl)]);clear hR;generalize dh 4 xs k=q at *;subst hkl;go_wp2;go_quiet (fail)
    all_goals (go_wp2;go_ret3)
    exact⟨by rw[<-HR.out];rfl,_,World.drewN_drewN _ _ _⟩
   ·have a2:k<len:=by have:=a1.out;omega
    have b3:((k:Int)==len)=false:=by simp;omega
    have hq:=(b2.out k (by omega)).2 (by omega);have b0:=Hc.out k a2;have c1:=aP xs k;have Hf:=Qa hf;generalize hqq:dh 4 xs k=q at *;have Hq:=Qa hqq;clear hqq hf;generalize hyy:am xs k=y at *;have Hy:=Qa hyy;clear hyy;have HR:=Qa hR;clear hR;have hp:0<len:=by omega
    have c3:(0:Int)<len:=by omega
    by_cases a5:k=1
    ·subst a5;have c2:(1:Int)<len:=by omega
     have a3:=Qa (iI b4.out Hy.out)
     by_cases hs:cw x0 y=true
     ·go_wp2;go_quiet ((go_at_call 107;exact bP (dm _ _ (by omega) _)));go_wp2_with (go_at_call 108;refine(eP _ _).mono ?_;rintro e w' ⟨rfl,rfl⟩)
      ·have ht:(!cR y)=true:=by assumption
       go_quiet (fail)
       all_goals (go_wp2;go_ret3)
       exact⟨by rw[<-dx (by rw[a1.out];exact a2) HR.out (by rw[a3.out,hs];simpa using ht)];rfl,_,World.drewN_drewN _ _ _⟩
      ·have ht:(!cR y)=false:=by assumption
       exact⟨eU Hq.out Hy.out (by omega) Hf.out (by rw[a1.out];exact a2) HR.out (by rw[a3.out,hs];simpa using ht) (by omega),by simp[intOf]⟩
     ·have b1:cw x0 y=false:=by simpa using hs
      clear hs;go_wp2;go_quiet ((go_at_call 107;exact bP (dm _ _ (by omega) _)));go_wp2;go_quiet (fail)
      all_goals (go_wp2;go_ret3)
      exact⟨by rw[<-dx (by rw[a1.out];exact a2) HR.out (by rw[a3.out,b1];rfl)];rfl,_,(congrArg (fun W:World=>W.drewN _) (World.drewN_drewN ..)).trans (World.drewN_drewN ..)⟩
    ·have c0:((k:Int)==1)=false:=by simp;omega
     have a3:=Qa (gu a5 Hy.out);go_wp2;go_quiet (fail);go_wp2_with (go_at_call 108;refine(eP _ _).mono ?_;rintro e w' ⟨rfl,rfl⟩)
     ·have ht:(!cR y)=true:=by assumption
      go_quiet (fail)
      all_goals (go_wp2;go_ret3)
      exact⟨by rw[<-dx (by rw[a1.out];exact a2) HR.out (by rw[a3.out];simpa using ht)];rfl,_,World.drewN_drewN _ _ _⟩
     ·have ht:(!cR y)=false:=by assumption
      exact⟨eU Hq.out Hy.out (by omega) Hf.out (by rw[a1.out];exact a2) HR.out (by rw[a3.out];simpa using ht) (by omega),by simp[intOf];omega⟩
theorem Bb (b o c len:Nat)(w:World)(h2:1<=len)(hm:len<=9223372036854775807)(x:Nat)(hx:x<256)
  (h0:w.cell? ⟨b,o,none⟩=some (.int .u8 x)) (U E:Value) (hL:vn w) (hn:aL x=1) :
  Calls Tryz.prog 69 #[.slice (some ⟨b,o,none⟩) len c] w (em U E w (x,1,0)):=by
 have Hn:=Qa hn;have HL:=Qa hL;clear hL hn;have a0:((len:Int)==0)=false:=by simp;omega
 go_enter Tryz.func69,Tryz.ntmps69;go_wp2_with (go_at_call 106;refine(eF _ (by omega) _ HL.out).mono ?_;rintro e w' ⟨rfl,rfl⟩;rw[Hn.out])
 go_loopw [6,7] (fun cc i wr=>i =.int .i64 1/\cc =.int .i32 x/\w=wr) (fun _ i _=>1 - (intOf i).toNat)
 case atStart=>exact⟨rfl,rfl,rfl⟩
 case round=>
  obtain⟨rfl,rfl,rfl⟩:=hrel;go_wp2;go_ret3;exact⟨rfl,0,rfl⟩
theorem zZ (b o c len:Nat)(w:World)(h2:1<=len)(hm:len<=9223372036854775807)(x:Nat)(hx:x<256)
  (h0:w.cell? ⟨b,o,none⟩=some (.int .u8 x)) (U E:Value) (hU:w.cell? ⟨10,0,none⟩=some U) (hL:vn w) (n:Int) (a1:n<1) (hn:aL x=n) :
  Calls Tryz.prog 69 #[.slice (some ⟨b,o,none⟩) len c] w (em U E w (0,0,2)):=by
 have Hn:=Qa hn;have HL:=Qa hL;clear hL hn;have a0:((len:Int)==0)=false:=by simp;omega
 go_enter Tryz.func69,Tryz.ntmps69;go_wp2_with (go_at_call 106;refine(eF _ (by omega) _ HL.out).mono ?_;rintro e w' ⟨rfl,rfl⟩;rw[Hn.out]);go_quiet (fail)
 all_goals (go_wp2;go_ret3)
 exact⟨rfl,_,rfl⟩
theorem vw (A:Option Addr)(c:Nat)(w:World)(U E:Value)(hE:w.cell? ⟨9,0,none⟩=some E) :
  Calls Tryz.prog 69 #[.slice A 0 c] w (em U E w (0,0,1)):=by
 go_enter Tryz.func69,Tryz.ntmps69;go_wp2;go_quiet (fail)
 all_goals (go_wp2;go_ret3)
 exact⟨rfl,_,rfl⟩
abbrev bV (a:Addr):Value:=.iface 408 (.pointer (some a))
structure cf (w:World) (aU aE:Addr):Prop where
 u:w.cell? ⟨10,0,none⟩=some (bV aU)
 e:w.cell? ⟨9,0,none⟩=some (bV aE)
 l:vn w
 hu:∃cs t,w.heap[aU.block]?=some (.cells cs t (0,0))
 he:∃cs t,w.heap[aE.block]?=some (.cells cs t (0,0))
 ne:aU≠aE
theorem cf.below (h:cf w aU aE)(hb:Below w.heap.size w w'):cf w' aU aE:=by
 obtain⟨c1,t1,h1⟩:=h.hu;obtain⟨c2,t2,h2⟩:=h.he;exact⟨Zg hb h.u,Zg hb h.e,fun i hi=>Zg hb (h.l i hi),
  ⟨c1,t1,(hb.block _ (ag h1)).trans h1⟩,⟨c2,t2,(hb.block _ (ag h2)).trans h2⟩,h.ne⟩
theorem cf.drewN (h:cf w aU aE)(m:Nat):cf (w.drewN m) aU aE:=⟨h.u,h.e,h.l,h.hu,h.he,h.ne⟩
theorem fg (hb:Bs w v xs)(hg:cf w aU aE) :
  Calls Tryz.prog 69 #[v] w (em (bV aU) (bV aE) w (a7 xs)):=by
 obtain⟨hm,A,c,rfl,hc,a0⟩:=hb
 by_cases h0:xs.length=0
 ·obtain rfl:xs = []:=List.eq_nil_of_length_eq_zero h0;exact vw A c w (bV aU) (bV aE) hg.e
 ·obtain⟨b,o,rfl,a1⟩:=a0 (by omega);have hx:=aP xs 0;have h1:=a1 0 (by omega);rw[Nat.add_zero] at h1;rcases dJ _ hx with hn|hn|hn|hn|hn
  ·rw[Al (by omega) hn];exact zZ b o c xs.length w (by omega) hm _ hx h1 (bV aU) (bV aE) hg.u hg.l _ hn rfl
  ·rw[kd (n:=1) (by omega) (by omega) hn];have:=Bb b o c xs.length w (by omega) hm _ hx h1 (bV aU) (bV aE) hg.l hn;simpa [az,dh,bO] using this
  ·rw[kd (n:=2) (by omega) (by omega) hn];exact BN b o c xs.length xs w rfl (by omega) hm a1 (bV aU) (bV aE) hg.u hg.e hg.l hn
  ·rw[kd (n:=3) (by omega) (by omega) hn];exact BF b o c xs.length xs w rfl (by omega) hm a1 (bV aU) (bV aE) hg.u hg.e hg.l hn
  ·rw[kd (n:=4) (by omega) (by omega) hn];exact BV b o c xs.length xs w rfl (by omega) hm a1 (bV aU) (bV aE) hg.u hg.e hg.l hn
