import Derived.Test.YtohibglohlfjfaaGreatDoorGZ6ac
set_option linter.unusedVariables false
set_option linter.unusedSimpArgs false
set_option maxHeartbeats 64000000
namespace Go.Proofs.YtohibglohlfjfaaGreatDoor
open Go.RowKit
variable {aE aU:Addr}{xs:List UInt8}{m n q:Nat}{v:Value}{w w':World}
theorem gR (x:Int)(w:World) :
  Calls Tryz.prog 136 #[.int .u8 x] w fun e w'=>e =.returned (.bool (dT x))/\w=w':=by
 go_enter Tryz.func136,Tryz.ntmps136;go_wp2;go_ret;exact⟨rfl,rfl⟩
theorem em (x y:Int)(h':0<=y/\y<=255)(w:World) :
  Calls Tryz.prog 135 #[.int .u8 x,.int .u8 y] w fun e w'=>e =.returned (.bool (dC x y))/\w=w':=by
 go_enter Tryz.func135,Tryz.ntmps135;go_wp2_with (go_at_call 136;refine(gR _ _).mono ?_;rintro e w' ⟨rfl,rfl⟩)
 all_goals go_ret
 all_goals refine⟨iJ ?_,rfl⟩
 all_goals (simp_all [dC] <;> omega)
def xr (w:World):Prop:= ∀i,i<16->w.cell? ⟨7,i,none⟩=some (.int .i8 (eU.getD i 0))
theorem gC (x:Int)(h:0<=x/\x<=255)(w:World)(hL:xr w) :
  Calls Tryz.prog 134 #[.int .u8 x] w fun e w'=>e =.returned (.int .i64 (be x))/\w=w':=by
 by_cases h1:x=192\/x=193\/244<x
 ·have hc:be x = -1:=by simp[be,h1]
  rw[hc];clear hc;go_enter Tryz.func134,Tryz.ntmps134;rcases h1 with rfl|rfl|h1
  ·go_wp2;go_ret;exact⟨rfl,rfl⟩
  ·go_wp2;go_ret;exact⟨rfl,rfl⟩
  ·have e1:(x==192)=false:=by simp;omega
   have e2:(x==193)=false:=by simp;omega
   go_wp2;go_ret;exact⟨rfl,rfl⟩
 ·have hc:be x=eU.getD (x/16).toNat 0:=by simp[be,h1]
  rw[hc];clear hc;have hc:=hL (x/16).toNat (by omega);clear hL;have hb:∃q:Int,-1<=q/\q<=4/\eU.getD (x/16).toNat 0=q:=⟨_,(pN _).1,(pN _).2,rfl⟩;obtain⟨q,q1,q2,hq⟩:=hb;rw[hq] at hc ⊢;clear hq;have e1:(x==192)=false:=by simp;omega
  have e2:(x==193)=false:=by simp;omega
  have e3:¬244<x:=by omega
  clear h1;go_enter Tryz.func134,Tryz.ntmps134;go_wp2;go_ret;exact⟨rfl,rfl⟩
def nt (U E:Value)(c:Nat):Value:=if c=0 then .nilIface else if c=1 then E else U
def ri (U E:Value)(r:Nat×Nat×Nat):Value:=.tuple #[.int .i32 r.1,.int .i64 r.2.1,nt U E r.2.2]
theorem rl (n:Nat)(xs:List UInt8)(hn:2<=n)(a2:n<=4):∀k,k<=n->eh n xs k<2097152/\(k<n->eh n xs k<32768):=by
 have b0:=aI xs 0;have b1:=aI xs 1;have b2:=aI xs 2;have b3:=aI xs 3;intro k hk;have a1:k=0\/k=1\/k=2\/k=3\/k=4:=by omega
 have a0:n=2\/n=3\/n=4:=by omega
 rcases a0 with rfl|rfl|rfl <;> rcases a1 with rfl|rfl|rfl|rfl|rfl <;> simp[eh,cK] <;> omega
def fR (U E:Value)(w:World)(R:Nat×Nat×Nat)(e:Ending)(w':World):Prop:=e =.returned (ri U E R)/\∃m,w'=w.drewN m
def ic (xs:List UInt8)(n:Nat)(R:Nat×Nat×Nat)(w:World)(cc i:Value)(wr:World):Prop:=
 ∃f k:Nat,k+f=n/\1<=k/\k<=xs.length/\i =.int .i64 k/\cc =.int .i32 (eh n xs k)/\aD xs n f k=R/\∃m,wr=w.drewN m
theorem I9:∀x:Nat,x<256->bits .and .i32 (x:Int) 31= ((x % 32:Nat):Int):=by decide +kernel
theorem F1:∀x:Nat,x<256->bits .and .i32 (x:Int) 15= ((x % 16:Nat):Int):=by decide +kernel
theorem J4:∀x:Nat,x<256->bits .and .i32 (x:Int) 7= ((x % 8:Nat):Int):=by decide +kernel
theorem vT (x:Nat)(h:x<256):((cK 2 x:Nat):Int)=bits .and .i32 (x:Int) 31:=by rw[I9 x h];rfl
theorem ya (x:Nat)(h:x<256):((cK 3 x:Nat):Int)=bits .and .i32 (x:Int) 15:=by rw[F1 x h];rfl
theorem vX (x:Nat)(h:x<256):((cK 4 x:Nat):Int)=bits .and .i32 (x:Int) 7:=by rw[J4 x h];rfl
theorem gO {f k y:Nat}{R:Nat×Nat×Nat}{v:Int}(hq:eh n xs k=q)(hy:am xs k=y)(hk:1<=k)(hf:k+ (f+1)=n)
  (hlt:k<xs.length) (hR:aD xs n (f+1) k=R) (a0:oZ xs k=true) (hv:v= (k:Int)+1) :
  ic xs n R w (.int .i32 ((q:Int)*64+ (y:Int) % 64)) (.int .i64 v) (w.drewN m):=by
 refine⟨f,k+1,by omega,by omega,by omega,by rw[hv];rfl,?_,?_,m,rfl⟩
 ·obtain⟨j,rfl⟩:∃j,k=j+1:=⟨k - 1,by omega⟩;rw[eh,hq,hy];congr 1
 ·rw[<-hR,aD,if_neg (by omega),if_pos a0]
theorem eE {f k:Nat}{R:Nat×Nat×Nat}(hlt:k<xs.length)(hR:aD xs n (f+1) k=R)(a0:oZ xs k=false):(0,0,2)=R:=by
 rw[<-hR,aD,if_neg (by omega),a0];rfl
theorem CG (b o c len:Nat)(xs:List UInt8)(w:World)(hlen:xs.length=len)(h2:1<=len)(hm:len<=9223372036854775807)
  (hc:∀i,i<len->w.cell? ⟨b,o+i,none⟩=some (.int .u8 (am xs i))) (U E:Value) (hU:w.cell? ⟨5,0,none⟩=some U) (hE:w.cell? ⟨4,0,none⟩=some E) (hL:xr w) (hn:be (am xs 0)=2) :
  Calls Tryz.prog 95 #[.slice (some ⟨b,o,none⟩) len c] w (fR U E w (aD xs 2 1 1)):=by
 have a7:=rl 2 xs (by omega) (by omega);have h0:=hc 0 (by omega);rw[Nat.add_zero] at h0;have hx:=aI xs 0;have a3:eh 2 xs 1=cK 2 (am xs 0):=rfl;have a0:ic xs 2 (aD xs 2 1 1) w (.int .i32 (eh 2 xs 1)) (.int .i64 1) w:=
  ⟨1,1,by omega,by omega,by omega,rfl,rfl,rfl,0,rfl⟩
 rw[a3] at a0;generalize aD xs 2 1 1=R at *;generalize hx0:am xs 0=x0 at *;have Hc:=Qa hc;have Hn:=Qa hn;have b2:=Qa a7;have Hs:=Qa a0;have a1:=Qa hlen;have b0:=Qa hx0;clear hc hn hlen a7 a3 a0 hx0;have HL:=Qa hL;clear hL;have b7:((len:Int)==0)=false:=by simp;omega
 go_enter Tryz.func95,Tryz.ntmps95;go_wp2_with (go_at_call 134;refine(gC _ (by omega) _ HL.out).mono ?_;rintro e w' ⟨rfl,rfl⟩;rw[Hn.out])
 go_loopw [6,7] (ic xs 2 R w) (fun _ i _=>2 - (intOf i).toNat)
 case atStart=>exact vT x0 hx▸Hs.out
 case round=>
  obtain⟨f,k,hf,a5,b3,rfl,rfl,hR,m,rfl⟩:=hrel
  cases f with
  |zero=>
   obtain rfl:k=2:=by omega
   generalize hq:eh 2 xs 2=q at *;have HR:=Qa (show(q,2,0)=R by rw[<-hR,<-hq];rfl);clear hR hq;go_wp2;go_ret3;exact⟨by rw[<-HR.out];rfl,m,rfl⟩
  |succ f=>
   have b6:k<2:=by omega
   by_cases hkl:k=len
   ·have HR:=Qa (show(0,0,1)=R by rw[<-hR,aD,if_pos (by rw[a1.out];exact hkl)]);clear hR;generalize eh 2 xs k=q at *;subst hkl;go_wp2;go_quiet (fail)
    all_goals (go_wp2;go_ret3)
    exact⟨by rw[<-HR.out];rfl,_,World.drewN_drewN _ _ _⟩
   ·have a2:k<len:=by have:=a1.out;omega
    have a9:((k:Int)==len)=false:=by simp;omega
    have hq:=(b2.out k (by omega)).2 (by omega);have a6:=Hc.out k a2;have b4:=aI xs k;have Hf:=Qa hf;generalize hqq:eh 2 xs k=q at *;have Hq:=Qa hqq;clear hqq hf;generalize hyy:am xs k=y at *;have Hy:=Qa hyy;clear hyy;have HR:=Qa hR;clear hR;have hp:0<len:=by omega
    have b5:(0:Int)<len:=by omega
    by_cases a5:k=1
    ·subst a5;have b8:(1:Int)<len:=by omega
     have a4:=Qa (kJ b0.out Hy.out)
     by_cases hs:dC x0 y=true
     ·go_wp2;go_quiet ((go_at_call 135;exact cL (em _ _ (by omega) _)));go_wp2_with (go_at_call 136;refine(gR _ _).mono ?_;rintro e w' ⟨rfl,rfl⟩)
      ·have ht:(!dT y)=true:=by assumption
       go_quiet (fail)
       all_goals (go_wp2;go_ret3)
       exact⟨by rw[<-eE (by rw[a1.out];exact a2) HR.out (by rw[a4.out,hs];simpa using ht)];rfl,_,World.drewN_drewN _ _ _⟩
      ·have ht:(!dT y)=false:=by assumption
       exact⟨gO Hq.out Hy.out (by omega) Hf.out (by rw[a1.out];exact a2) HR.out (by rw[a4.out,hs];simpa using ht) (by omega),by simp[intOf]⟩
     ·have b1:dC x0 y=false:=by simpa using hs
      clear hs;go_wp2;go_quiet ((go_at_call 135;exact cL (em _ _ (by omega) _)));go_wp2;go_quiet (fail)
      all_goals (go_wp2;go_ret3)
      exact⟨by rw[<-eE (by rw[a1.out];exact a2) HR.out (by rw[a4.out,b1];rfl)];rfl,_,(congrArg (fun W:World=>W.drewN _) (World.drewN_drewN ..)).trans (World.drewN_drewN ..)⟩
    ·exfalso;omega
theorem BU (b o c len:Nat)(xs:List UInt8)(w:World)(hlen:xs.length=len)(h2:1<=len)(hm:len<=9223372036854775807)
  (hc:∀i,i<len->w.cell? ⟨b,o+i,none⟩=some (.int .u8 (am xs i))) (U E:Value) (hU:w.cell? ⟨5,0,none⟩=some U) (hE:w.cell? ⟨4,0,none⟩=some E) (hL:xr w) (hn:be (am xs 0)=3) :
  Calls Tryz.prog 95 #[.slice (some ⟨b,o,none⟩) len c] w (fR U E w (aD xs 3 2 1)):=by
 have a7:=rl 3 xs (by omega) (by omega);have h0:=hc 0 (by omega);rw[Nat.add_zero] at h0;have hx:=aI xs 0;have a4:eh 3 xs 1=cK 3 (am xs 0):=rfl;have a1:ic xs 3 (aD xs 3 2 1) w (.int .i32 (eh 3 xs 1)) (.int .i64 1) w:=
  ⟨2,1,by omega,by omega,by omega,rfl,rfl,rfl,0,rfl⟩
 rw[a4] at a1;generalize aD xs 3 2 1=R at *;generalize hx0:am xs 0=x0 at *;have Hc:=Qa hc;have Hn:=Qa hn;have b2:=Qa a7;have Hs:=Qa a1;have a0:=Qa hlen;have b0:=Qa hx0;clear hc hn hlen a7 a4 a1 hx0;have HL:=Qa hL;clear hL;have b7:((len:Int)==0)=false:=by simp;omega
 go_enter Tryz.func95,Tryz.ntmps95;go_wp2_with (go_at_call 134;refine(gC _ (by omega) _ HL.out).mono ?_;rintro e w' ⟨rfl,rfl⟩;rw[Hn.out])
 go_loopw [6,7] (ic xs 3 R w) (fun _ i _=>3 - (intOf i).toNat)
 case atStart=>exact ya x0 hx▸Hs.out
 case round=>
  obtain⟨f,k,hf,a5,b3,rfl,rfl,hR,m,rfl⟩:=hrel
  cases f with
  |zero=>
   obtain rfl:k=3:=by omega
   generalize hq:eh 3 xs 3=q at *;have HR:=Qa (show(q,3,0)=R by rw[<-hR,<-hq];rfl);clear hR hq;go_wp2;go_ret3;exact⟨by rw[<-HR.out];rfl,m,rfl⟩
  |succ f=>
   have b6:k<3:=by omega
   by_cases hkl:k=len
   ·have HR:=Qa (show(0,0,1)=R by rw[<-hR,aD,if_pos (by rw[a0.out];exact hkl)]);clear hR;generalize eh 3 xs k=q at *;subst hkl;go_wp2;go_quiet (fail)
    all_goals (go_wp2;go_ret3)
    exact⟨by rw[<-HR.out];rfl,_,World.drewN_drewN _ _ _⟩
   ·have a2:k<len:=by have:=a0.out;omega
    have a9:((k:Int)==len)=false:=by simp;omega
    have hq:=(b2.out k (by omega)).2 (by omega);have a6:=Hc.out k a2;have b4:=aI xs k;have Hf:=Qa hf;generalize hqq:eh 3 xs k=q at *;have Hq:=Qa hqq;clear hqq hf;generalize hyy:am xs k=y at *;have Hy:=Qa hyy;clear hyy;have HR:=Qa hR;clear hR;have hp:0<len:=by omega
    have b5:(0:Int)<len:=by omega
    by_cases a5:k=1
    ·subst a5;have b8:(1:Int)<len:=by omega
     have a3:=Qa (kJ b0.out Hy.out)
     by_cases hs:dC x0 y=true
     ·go_wp2;go_quiet ((go_at_call 135;exact cL (em _ _ (by omega) _)));go_wp2_with (go_at_call 136;refine(gR _ _).mono ?_;rintro e w' ⟨rfl,rfl⟩)
      ·have ht:(!dT y)=true:=by assumption
       go_quiet (fail)
       all_goals (go_wp2;go_ret3)
       exact⟨by rw[<-eE (by rw[a0.out];exact a2) HR.out (by rw[a3.out,hs];simpa using ht)];rfl,_,World.drewN_drewN _ _ _⟩
      ·have ht:(!dT y)=false:=by assumption
       exact⟨gO Hq.out Hy.out (by omega) Hf.out (by rw[a0.out];exact a2) HR.out (by rw[a3.out,hs];simpa using ht) (by omega),by simp[intOf]⟩
     ·have b1:dC x0 y=false:=by simpa using hs
      clear hs;go_wp2;go_quiet ((go_at_call 135;exact cL (em _ _ (by omega) _)));go_wp2;go_quiet (fail)
      all_goals (go_wp2;go_ret3)
      exact⟨by rw[<-eE (by rw[a0.out];exact a2) HR.out (by rw[a3.out,b1];rfl)];rfl,_,(congrArg (fun W:World=>W.drewN _) (World.drewN_drewN ..)).trans (World.drewN_drewN ..)⟩
    ·have b9:((k:Int)==1)=false:=by simp;omega
     have a3:=Qa (jn a5 Hy.out);go_wp2;go_quiet (fail);go_wp2_with (go_at_call 136;refine(gR _ _).mono ?_;rintro e w' ⟨rfl,rfl⟩)
     ·have ht:(!dT y)=true:=by assumption
      go_quiet (fail)
      all_goals (go_wp2;go_ret3)
      exact⟨by rw[<-eE (by rw[a0.out];exact a2) HR.out (by rw[a3.out];simpa using ht)];rfl,_,World.drewN_drewN _ _ _⟩
     ·have ht:(!dT y)=false:=by assumption
      exact⟨gO Hq.out Hy.out (by omega) Hf.out (by rw[a0.out];exact a2) HR.out (by rw[a3.out];simpa using ht) (by omega),by simp[intOf];omega⟩
theorem CP (b o c len:Nat)(xs:List UInt8)(w:World)(hlen:xs.length=len)(h2:1<=len)(hm:len<=9223372036854775807)
  (hc:∀i,i<len->w.cell? ⟨b,o+i,none⟩=some (.int .u8 (am xs i))) (U E:Value) (hU:w.cell? ⟨5,0,none⟩=some U) (hE:w.cell? ⟨4,0,none⟩=some E) (hL:xr w) (hn:be (am xs 0)=4) :
  Calls Tryz.prog 95 #[.slice (some ⟨b,o,none⟩) len c] w (fR U E w (aD xs 4 3 1)):=by
 have a7:=rl 4 xs (by omega) (by omega);have h0:=hc 0 (by omega);rw[Nat.add_zero] at h0;have hx:=aI xs 0;have a4:eh 4 xs 1=cK 4 (am xs 0):=rfl;have a1:ic xs 4 (aD xs 4 3 1) w (.int .i32 (eh 4 xs 1)) (.int .i64 1) w:=
  ⟨3,1,by omega,by omega,by omega,rfl,rfl,rfl,0,rfl⟩
 rw[a4] at a1;generalize aD xs 4 3 1=R at *;generalize hx0:am xs 0=x0 at *;have Hc:=Qa hc;have Hn:=Qa hn;have b2:=Qa a7;have Hs:=Qa a1;have a0:=Qa hlen;have b0:=Qa hx0;clear hc hn hlen a7 a4 a1 hx0;have HL:=Qa hL;clear hL;have b7:((len:Int)==0)=false:=by simp;omega
 go_enter Tryz.func95,Tryz.ntmps95;go_wp2_with (go_at_call 134;refine(gC _ (by omega) _ HL.out).mono ?_;rintro e w' ⟨rfl,rfl⟩;rw[Hn.out])
 go_loopw [6,7] (ic xs 4 R w) (fun _ i _=>4 - (intOf i).toNat)
 case atStart=>exact vX x0 hx▸Hs.out
 case round=>
  obtain⟨f,k,hf,a5,b3,rfl,rfl,hR,m,rfl⟩:=hrel
  cases f with
  |zero=>
   obtain rfl:k=4:=by omega
   generalize hq:eh 4 xs 4=q at *;have HR:=Qa (show(q,4,0)=R by rw[<-hR,<-hq];rfl);clear hR hq;go_wp2;go_ret3;exact⟨by rw[<-HR.out];rfl,m,rfl⟩
  |succ f=>
   have b6:k<4:=by omega
   by_cases hkl:k=len
   ·have HR:=Qa (show(0,0,1)=R by rw[<-hR,aD,if_pos (by rw[a0.out];exact hkl)]);clear hR;generalize eh 4 xs k=q at *;subst hkl;go_wp2;go_quiet (fail)
    all_goals (go_wp2;go_ret3)
    exact⟨by rw[<-HR.out];rfl,_,World.drewN_drewN _ _ _⟩
   ·have a2:k<len:=by have:=a0.out;omega
    have a9:((k:Int)==len)=false:=by simp;omega
    have hq:=(b2.out k (by omega)).2 (by omega);have a6:=Hc.out k a2;have b4:=aI xs k;have Hf:=Qa hf;generalize hqq:eh 4 xs k=q at *;have Hq:=Qa hqq;clear hqq hf;generalize hyy:am xs k=y at *;have Hy:=Qa hyy;clear hyy;have HR:=Qa hR;clear hR;have hp:0<len:=by omega
    have b5:(0:Int)<len:=by omega
    by_cases a5:k=1
    ·subst a5;have b8:(1:Int)<len:=by omega
     have a3:=Qa (kJ b0.out Hy.out)
     by_cases hs:dC x0 y=true
     ·go_wp2;go_quiet ((go_at_call 135;exact cL (em _ _ (by omega) _)));go_wp2_with (go_at_call 136;refine(gR _ _).mono ?_;rintro e w' ⟨rfl,rfl⟩)
      ·have ht:(!dT y)=true:=by assumption
       go_quiet (fail)
       all_goals (go_wp2;go_ret3)
       exact⟨by rw[<-eE (by rw[a0.out];exact a2) HR.out (by rw[a3.out,hs];simpa using ht)];rfl,_,World.drewN_drewN _ _ _⟩
      ·have ht:(!dT y)=false:=by assumption
       exact⟨gO Hq.out Hy.out (by omega) Hf.out (by rw[a0.out];exact a2) HR.out (by rw[a3.out,hs];simpa using ht) (by omega),by simp[intOf]⟩
     ·have b1:dC x0 y=false:=by simpa using hs
      clear hs;go_wp2;go_quiet ((go_at_call 135;exact cL (em _ _ (by omega) _)));go_wp2;go_quiet (fail)
      all_goals (go_wp2;go_ret3)
      exact⟨by rw[<-eE (by rw[a0.out];exact a2) HR.out (by rw[a3.out,b1];rfl)];rfl,_,(congrArg (fun W:World=>W.drewN _) (World.drewN_drewN ..)).trans (World.drewN_drewN ..)⟩
    ·have b9:((k:Int)==1)=false:=by simp;omega
     have a3:=Qa (jn a5 Hy.out);go_wp2;go_quiet (fail);go_wp2_with (go_at_call 136;refine(gR _ _).mono ?_;rintro e w' ⟨rfl,rfl⟩)
     ·have ht:(!dT y)=true:=by assumption
      go_quiet (fail)
      all_goals (go_wp2;go_ret3)
      exact⟨by rw[<-eE (by rw[a0.out];exact a2) HR.out (by rw[a3.out];simpa using ht)];rfl,_,World.drewN_drewN _ _ _⟩
     ·have ht:(!dT y)=false:=by assumption
      exact⟨gO Hq.out Hy.out (by omega) Hf.out (by rw[a0.out];exact a2) HR.out (by rw[a3.out];simpa using ht) (by omega),by simp[intOf];omega⟩
theorem Eo (b o c len:Nat)(w:World)(h2:1<=len)(hm:len<=9223372036854775807)(x:Nat)(hx:x<256)
  (h0:w.cell? ⟨b,o,none⟩=some (.int .u8 x)) (U E:Value) (hL:xr w) (hn:be x=1) :
  Calls Tryz.prog 95 #[.slice (some ⟨b,o,none⟩) len c] w (fR U E w (x,1,0)):=by
 have Hn:=Qa hn;have HL:=Qa hL;clear hL hn;have a0:((len:Int)==0)=false:=by simp;omega
 go_enter Tryz.func95,Tryz.ntmps95;go_wp2_with (go_at_call 134;refine(gC _ (by omega) _ HL.out).mono ?_;rintro e w' ⟨rfl,rfl⟩;rw[Hn.out])
 go_loopw [6,7] (fun cc i wr=>i =.int .i64 1/\cc =.int .i32 x/\w=wr) (fun _ i _=>1 - (intOf i).toNat)
 case atStart=>exact⟨rfl,rfl,rfl⟩
 case round=>
  obtain⟨rfl,rfl,rfl⟩:=hrel;go_wp2;go_ret3;exact⟨rfl,0,rfl⟩
theorem CB (b o c len:Nat)(w:World)(h2:1<=len)(hm:len<=9223372036854775807)(x:Nat)(hx:x<256)
  (h0:w.cell? ⟨b,o,none⟩=some (.int .u8 x)) (U E:Value) (hU:w.cell? ⟨5,0,none⟩=some U) (hL:xr w) (n:Int) (a1:n<1) (hn:be x=n) :
  Calls Tryz.prog 95 #[.slice (some ⟨b,o,none⟩) len c] w (fR U E w (0,0,2)):=by
 have Hn:=Qa hn;have HL:=Qa hL;clear hL hn;have a0:((len:Int)==0)=false:=by simp;omega
 go_enter Tryz.func95,Tryz.ntmps95;go_wp2_with (go_at_call 134;refine(gC _ (by omega) _ HL.out).mono ?_;rintro e w' ⟨rfl,rfl⟩;rw[Hn.out]);go_quiet (fail)
 all_goals (go_wp2;go_ret3)
 exact⟨rfl,_,rfl⟩
theorem wg (A:Option Addr)(c:Nat)(w:World)(U E:Value)(hE:w.cell? ⟨4,0,none⟩=some E) :
  Calls Tryz.prog 95 #[.slice A 0 c] w (fR U E w (0,0,1)):=by
 go_enter Tryz.func95,Tryz.ntmps95;go_wp2;go_quiet (fail)
 all_goals (go_wp2;go_ret3)
 exact⟨rfl,_,rfl⟩
abbrev cv (a:Addr):Value:=.iface 409 (.pointer (some a))
structure ce (w:World) (aU aE:Addr):Prop where
 u:w.cell? ⟨5,0,none⟩=some (cv aU)
 e:w.cell? ⟨4,0,none⟩=some (cv aE)
 l:xr w
 hu:∃cs t,w.heap[aU.block]?=some (.cells cs t (0,0))
 he:∃cs t,w.heap[aE.block]?=some (.cells cs t (0,0))
 ne:aU≠aE
theorem ce.below (h:ce w aU aE)(hb:Below w.heap.size w w'):ce w' aU aE:=by
 obtain⟨c1,t1,h1⟩:=h.hu;obtain⟨c2,t2,h2⟩:=h.he;exact⟨Zg hb h.u,Zg hb h.e,fun i hi=>Zg hb (h.l i hi),
  ⟨c1,t1,(hb.block _ (ae h1)).trans h1⟩,⟨c2,t2,(hb.block _ (ae h2)).trans h2⟩,h.ne⟩
theorem ce.drewN (h:ce w aU aE)(m:Nat):ce (w.drewN m) aU aE:=⟨h.u,h.e,h.l,h.hu,h.he,h.ne⟩
theorem iq (hb:Bs w v xs)(hg:ce w aU aE) :
  Calls Tryz.prog 95 #[v] w (fR (cv aU) (cv aE) w (bD xs)):=by
 obtain⟨hm,A,c,rfl,hc,a0⟩:=hb
 by_cases h0:xs.length=0
 ·obtain rfl:xs = []:=List.eq_nil_of_length_eq_zero h0;exact wg A c w (cv aU) (cv aE) hg.e
 ·obtain⟨b,o,rfl,a1⟩:=a0 (by omega);have hx:=aI xs 0;have h1:=a1 0 (by omega);rw[Nat.add_zero] at h1;rcases fa _ hx with hn|hn|hn|hn|hn
  ·rw[Dm (by omega) hn];exact CB b o c xs.length w (by omega) hm _ hx h1 (cv aU) (cv aE) hg.u hg.l _ hn rfl
  ·rw[lX (n:=1) (by omega) (by omega) hn];have:=Eo b o c xs.length w (by omega) hm _ hx h1 (cv aU) (cv aE) hg.l hn;simpa [aD,eh,cK] using this
  ·rw[lX (n:=2) (by omega) (by omega) hn];exact CG b o c xs.length xs w rfl (by omega) hm a1 (cv aU) (cv aE) hg.u hg.e hg.l hn
  ·rw[lX (n:=3) (by omega) (by omega) hn];exact BU b o c xs.length xs w rfl (by omega) hm a1 (cv aU) (cv aE) hg.u hg.e hg.l hn
  ·rw[lX (n:=4) (by omega) (by omega) hn];exact CP b o c xs.length xs w rfl (by omega) hm a1 (cv aU) (cv aE) hg.u hg.e hg.l hn
