import Derived.Test.YtibmppoeeppnoaaGreatDoorGZ4ac
set_option linter.unusedVariables false
set_option linter.unusedSimpArgs false
set_option maxHeartbeats 64000000
namespace Go.Proofs.YtibmppoeeppnoaaGreatDoor
open Go.RowKit
variable {aE aU:Addr}{xs:List UInt8}{k m n q:Nat}{v:Value}{w w':World}
theorem gO (x:Int)(w:World) :
  Calls Tryz.prog 141 #[.int .u8 x] w fun e w'=>e =.returned (.bool (dP x))/\w=w':=by
 go_enter Tryz.func141,Tryz.ntmps141;go_wp2;go_ret;exact⟨rfl,rfl⟩
theorem ek (x y:Int)(h':0<=y/\y<=255)(w:World) :
  Calls Tryz.prog 140 #[.int .u8 x,.int .u8 y] w fun e w'=>e =.returned (.bool (dC x y))/\w=w':=by
 go_enter Tryz.func140,Tryz.ntmps140;go_wp2_with (go_at_call 141;refine(gO _ _).mono ?_;rintro e w' ⟨rfl,rfl⟩)
 all_goals go_ret
 all_goals refine⟨iR ?_,rfl⟩
 all_goals (simp_all [dC] <;> omega)
def wv (w:World):Prop:= ∀i,i<16->w.cell? ⟨8,i,none⟩=some (.int .i8 (eT.getD i 0))
theorem gK (x:Int)(h:0<=x/\x<=255)(w:World)(hL:wv w) :
  Calls Tryz.prog 139 #[.int .u8 x] w fun e w'=>e =.returned (.int .i64 (aZ x))/\w=w':=by
 by_cases h1:x=192\/x=193\/244<x
 ·have hc:aZ x = -1:=by simp[aZ,h1]
  rw[hc];clear hc;go_enter Tryz.func139,Tryz.ntmps139;rcases h1 with rfl|rfl|h1
  ·go_wp2;go_ret;exact⟨rfl,rfl⟩
  ·go_wp2;go_ret;exact⟨rfl,rfl⟩
  ·have e1:(x==192)=false:=by simp;omega
   have e2:(x==193)=false:=by simp;omega
   go_wp2;go_ret;exact⟨rfl,rfl⟩
 ·have hc:aZ x=eT.getD (x/16).toNat 0:=by simp[aZ,h1]
  rw[hc];clear hc;have hc:=hL (x/16).toNat (by omega);clear hL;have hb:∃q:Int,-1<=q/\q<=4/\eT.getD (x/16).toNat 0=q:=⟨_,(pw _).1,(pw _).2,rfl⟩;obtain⟨q,q1,q2,hq⟩:=hb;rw[hq] at hc ⊢;clear hq;have e1:(x==192)=false:=by simp;omega
  have e2:(x==193)=false:=by simp;omega
  have e3:¬244<x:=by omega
  clear h1;go_enter Tryz.func139,Tryz.ntmps139;go_wp2;go_ret;exact⟨rfl,rfl⟩
def nM (U E:Value)(c:Nat):Value:=if c=0 then .nilIface else if c=1 then E else U
def qD (U E:Value)(r:Nat×Nat×Nat):Value:=.tuple #[.int .i32 r.1,.int .i64 r.2.1,nM U E r.2.2]
theorem ro (n:Nat)(xs:List UInt8)(hn:2<=n)(a2:n<=4):∀k,k<=n->ee n xs k<2097152/\(k<n->ee n xs k<32768):=by
 have b0:=aB xs 0;have b1:=aB xs 1;have b2:=aB xs 2;have b3:=aB xs 3;intro k hk;have a1:k=0\/k=1\/k=2\/k=3\/k=4:=by omega
 have a0:n=2\/n=3\/n=4:=by omega
 rcases a0 with rfl|rfl|rfl <;> rcases a1 with rfl|rfl|rfl|rfl|rfl <;> simp[ee,cB] <;> omega
def fY (U E:Value)(w:World)(R:Nat×Nat×Nat)(e:Ending)(w':World):Prop:=e =.returned (qD U E R)/\∃m,w'=w.drewN m
def gS (xs:List UInt8)(n:Nat)(R:Nat×Nat×Nat)(w:World)(cc i:Value)(wr:World):Prop:=
 ∃f k:Nat,k+f=n/\1<=k/\k<=xs.length/\i =.int .i64 k/\cc =.int .i32 (ee n xs k)/\aA xs n f k=R/\∃m,wr=w.drewN m
theorem GJ:∀x:Nat,x<256->bits .and .i32 (x:Int) 31= ((x % 32:Nat):Int):=by decide +kernel
theorem EU:∀x:Nat,x<256->bits .and .i32 (x:Int) 15= ((x % 16:Nat):Int):=by decide +kernel
theorem In:∀x:Nat,x<256->bits .and .i32 (x:Int) 7= ((x % 8:Nat):Int):=by decide +kernel
theorem vp (x:Nat)(h:x<256):((cB 2 x:Nat):Int)=bits .and .i32 (x:Int) 31:=by rw[GJ x h];rfl
theorem wN (x:Nat)(h:x<256):((cB 3 x:Nat):Int)=bits .and .i32 (x:Int) 15:=by rw[EU x h];rfl
theorem xH (x:Nat)(h:x<256):((cB 4 x:Nat):Int)=bits .and .i32 (x:Int) 7:=by rw[In x h];rfl
theorem gD {f y:Nat}{R:Nat×Nat×Nat}{v:Int}(hq:ee n xs k=q)(hy:am xs k=y)(hk:1<=k)(hf:k+ (f+1)=n)
  (hlt:k<xs.length) (hR:aA xs n (f+1) k=R) (a0:oI xs k=true) (hv:v= (k:Int)+1) :
  gS xs n R w (.int .i32 ((q:Int)*64+ (y:Int) % 64)) (.int .i64 v) (w.drewN m):=by
 refine⟨f,k+1,by omega,by omega,by omega,by rw[hv];rfl,?_,?_,m,rfl⟩
 ·obtain⟨j,rfl⟩:∃j,k=j+1:=⟨k - 1,by omega⟩;rw[ee,hq,hy];congr 1
 ·rw[<-hR,aA,if_neg (by omega),if_pos a0]
theorem eL {f:Nat}{R:Nat×Nat×Nat}(hlt:k<xs.length)(hR:aA xs n (f+1) k=R)(a0:oI xs k=false):(0,0,2)=R:=by
 rw[<-hR,aA,if_neg (by omega),a0];rfl
theorem CK (b o c len:Nat)(xs:List UInt8)(w:World)(hlen:xs.length=len)(h2:1<=len)(hm:len<=9223372036854775807)
  (hc:∀i,i<len->w.cell? ⟨b,o+i,none⟩=some (.int .u8 (am xs i))) (U E:Value) (hU:w.cell? ⟨6,0,none⟩=some U) (hE:w.cell? ⟨5,0,none⟩=some E) (hL:wv w) (hn:aZ (am xs 0)=2) :
  Calls Tryz.prog 103 #[.slice (some ⟨b,o,none⟩) len c] w (fY U E w (aA xs 2 1 1)):=by
 have a7:=ro 2 xs (by omega) (by omega);have h0:=hc 0 (by omega);rw[Nat.add_zero] at h0;have hx:=aB xs 0;have a3:ee 2 xs 1=cB 2 (am xs 0):=rfl;have a0:gS xs 2 (aA xs 2 1 1) w (.int .i32 (ee 2 xs 1)) (.int .i64 1) w:=
  ⟨1,1,by omega,by omega,by omega,rfl,rfl,rfl,0,rfl⟩
 rw[a3] at a0;generalize aA xs 2 1 1=R at *;generalize hx0:am xs 0=x0 at *;have Hc:=Qa hc;have Hn:=Qa hn;have b1:=Qa a7;have Hs:=Qa a0;have a1:=Qa hlen;have b0:=Qa hx0;clear hc hn hlen a7 a3 a0 hx0;have HL:=Qa hL;clear hL;have b8:((len:Int)==0)=false:=by simp;omega
 go_enter Tryz.func103,Tryz.ntmps103;go_wp2_with (go_at_call 139;refine(gK _ (by omega) _ HL.out).mono ?_;rintro e w' ⟨rfl,rfl⟩;rw[Hn.out])
 go_loopw [6,7] (gS xs 2 R w) (fun _ i _=>2 - (intOf i).toNat)
 case atStart=>exact vp x0 hx▸Hs.out
 case round=>
  obtain⟨f,k,hf,a5,b5,rfl,rfl,hR,m,rfl⟩:=hrel
  cases f with
  |zero=>
   obtain rfl:k=2:=by omega
   generalize hq:ee 2 xs 2=q at *;have HR:=Qa (show(q,2,0)=R by rw[<-hR,<-hq];rfl);clear hR hq;go_wp2;go_ret3;exact⟨by rw[<-HR.out];rfl,m,rfl⟩
  |succ f=>
   have b7:k<2:=by omega
   by_cases hkl:k=len
   ·have HR:=Qa (show(0,0,1)=R by rw[<-hR,aA,if_pos (by rw[a1.out];exact hkl)]);clear hR;generalize ee 2 xs k=q at *;subst hkl;go_wp2;go_quiet (fail)
    all_goals (go_wp2;go_ret3)
    exact⟨by rw[<-HR.out];rfl,_,World.drewN_drewN _ _ _⟩
   ·have a2:k<len:=by have:=a1.out;omega
    have b2:((k:Int)==len)=false:=by simp;omega
    have hq:=(b1.out k (by omega)).2 (by omega);have a6:=Hc.out k a2;have b4:=aB xs k;have Hf:=Qa hf;generalize hqq:ee 2 xs k=q at *;have Hq:=Qa hqq;clear hqq hf;generalize hyy:am xs k=y at *;have Hy:=Qa hyy;clear hyy;have HR:=Qa hR;clear hR;have hp:0<len:=by omega
    have b3:(0:Int)<len:=by omega
    by_cases a5:k=1
    ·subst a5;have b6:(1:Int)<len:=by omega
     have a4:=Qa (kD b0.out Hy.out)
     by_cases hs:dC x0 y=true
     ·go_wp2;go_quiet ((go_at_call 140;exact cF (ek _ _ (by omega) _)));go_wp2_with (go_at_call 141;refine(gO _ _).mono ?_;rintro e w' ⟨rfl,rfl⟩)
      ·have ht:(!dP y)=true:=by assumption
       go_quiet (fail)
       all_goals (go_wp2;go_ret3)
       exact⟨by rw[<-eL (by rw[a1.out];exact a2) HR.out (by rw[a4.out,hs];simpa using ht)];rfl,_,World.drewN_drewN _ _ _⟩
      ·have ht:(!dP y)=false:=by assumption
       exact⟨gD Hq.out Hy.out (by omega) Hf.out (by rw[a1.out];exact a2) HR.out (by rw[a4.out,hs];simpa using ht) (by omega),by simp[intOf]⟩
     ·have a9:dC x0 y=false:=by simpa using hs
      clear hs;go_wp2;go_quiet ((go_at_call 140;exact cF (ek _ _ (by omega) _)));go_wp2;go_quiet (fail)
      all_goals (go_wp2;go_ret3)
      exact⟨by rw[<-eL (by rw[a1.out];exact a2) HR.out (by rw[a4.out,a9];rfl)];rfl,_,(congrArg (fun W:World=>W.drewN _) (World.drewN_drewN ..)).trans (World.drewN_drewN ..)⟩
    ·exfalso;omega
theorem AV (b o c len:Nat)(xs:List UInt8)(w:World)(hlen:xs.length=len)(h2:1<=len)(hm:len<=9223372036854775807)
  (hc:∀i,i<len->w.cell? ⟨b,o+i,none⟩=some (.int .u8 (am xs i))) (U E:Value) (hU:w.cell? ⟨6,0,none⟩=some U) (hE:w.cell? ⟨5,0,none⟩=some E) (hL:wv w) (hn:aZ (am xs 0)=3) :
  Calls Tryz.prog 103 #[.slice (some ⟨b,o,none⟩) len c] w (fY U E w (aA xs 3 2 1)):=by
 have a7:=ro 3 xs (by omega) (by omega);have h0:=hc 0 (by omega);rw[Nat.add_zero] at h0;have hx:=aB xs 0;have a4:ee 3 xs 1=cB 3 (am xs 0):=rfl;have a0:gS xs 3 (aA xs 3 2 1) w (.int .i32 (ee 3 xs 1)) (.int .i64 1) w:=
  ⟨2,1,by omega,by omega,by omega,rfl,rfl,rfl,0,rfl⟩
 rw[a4] at a0;generalize aA xs 3 2 1=R at *;generalize hx0:am xs 0=x0 at *;have Hc:=Qa hc;have Hn:=Qa hn;have b1:=Qa a7;have Hs:=Qa a0;have a1:=Qa hlen;have b0:=Qa hx0;clear hc hn hlen a7 a4 a0 hx0;have HL:=Qa hL;clear hL;have b8:((len:Int)==0)=false:=by simp;omega
 go_enter Tryz.func103,Tryz.ntmps103;go_wp2_with (go_at_call 139;refine(gK _ (by omega) _ HL.out).mono ?_;rintro e w' ⟨rfl,rfl⟩;rw[Hn.out])
 go_loopw [6,7] (gS xs 3 R w) (fun _ i _=>3 - (intOf i).toNat)
 case atStart=>exact wN x0 hx▸Hs.out
 case round=>
  obtain⟨f,k,hf,a5,b5,rfl,rfl,hR,m,rfl⟩:=hrel
  cases f with
  |zero=>
   obtain rfl:k=3:=by omega
   generalize hq:ee 3 xs 3=q at *;have HR:=Qa (show(q,3,0)=R by rw[<-hR,<-hq];rfl);clear hR hq;go_wp2;go_ret3;exact⟨by rw[<-HR.out];rfl,m,rfl⟩
  |succ f=>
   have b7:k<3:=by omega
   by_cases hkl:k=len
   ·have HR:=Qa (show(0,0,1)=R by rw[<-hR,aA,if_pos (by rw[a1.out];exact hkl)]);clear hR;generalize ee 3 xs k=q at *;subst hkl;go_wp2;go_quiet (fail)
    all_goals (go_wp2;go_ret3)
    exact⟨by rw[<-HR.out];rfl,_,World.drewN_drewN _ _ _⟩
   ·have a2:k<len:=by have:=a1.out;omega
    have b2:((k:Int)==len)=false:=by simp;omega
    have hq:=(b1.out k (by omega)).2 (by omega);have a6:=Hc.out k a2;have b4:=aB xs k;have Hf:=Qa hf;generalize hqq:ee 3 xs k=q at *;have Hq:=Qa hqq;clear hqq hf;generalize hyy:am xs k=y at *;have Hy:=Qa hyy;clear hyy;have HR:=Qa hR;clear hR;have hp:0<len:=by omega
    have b3:(0:Int)<len:=by omega
    by_cases a5:k=1
    ·subst a5;have b6:(1:Int)<len:=by omega
     have a3:=Qa (kD b0.out Hy.out)
     by_cases hs:dC x0 y=true
     ·go_wp2;go_quiet ((go_at_call 140;exact cF (ek _ _ (by omega) _)));go_wp2_with (go_at_call 141;refine(gO _ _).mono ?_;rintro e w' ⟨rfl,rfl⟩)
      ·have ht:(!dP y)=true:=by assumption
       go_quiet (fail)
       all_goals (go_wp2;go_ret3)
       exact⟨by rw[<-eL (by rw[a1.out];exact a2) HR.out (by rw[a3.out,hs];simpa using ht)];rfl,_,World.drewN_drewN _ _ _⟩
      ·have ht:(!dP y)=false:=by assumption
       exact⟨gD Hq.out Hy.out (by omega) Hf.out (by rw[a1.out];exact a2) HR.out (by rw[a3.out,hs];simpa using ht) (by omega),by simp[intOf]⟩
     ·have a9:dC x0 y=false:=by simpa using hs
      clear hs;go_wp2;go_quiet ((go_at_call 140;exact cF (ek _ _ (by omega) _)));go_wp2;go_quiet (fail)
      all_goals (go_wp2;go_ret3)
      exact⟨by rw[<-eL (by rw[a1.out];exact a2) HR.out (by rw[a3.out,a9];rfl)];rfl,_,(congrArg (fun W:World=>W.drewN _) (World.drewN_drewN ..)).trans (World.drewN_drewN ..)⟩
    ·have b9:((k:Int)==1)=false:=by simp;omega
     have a3:=Qa (jf a5 Hy.out);go_wp2;go_quiet (fail);go_wp2_with (go_at_call 141;refine(gO _ _).mono ?_;rintro e w' ⟨rfl,rfl⟩)
     ·have ht:(!dP y)=true:=by assumption
      go_quiet (fail)
      all_goals (go_wp2;go_ret3)
      exact⟨by rw[<-eL (by rw[a1.out];exact a2) HR.out (by rw[a3.out];simpa using ht)];rfl,_,World.drewN_drewN _ _ _⟩
     ·have ht:(!dP y)=false:=by assumption
      exact⟨gD Hq.out Hy.out (by omega) Hf.out (by rw[a1.out];exact a2) HR.out (by rw[a3.out];simpa using ht) (by omega),by simp[intOf];omega⟩
theorem CY (b o c len:Nat)(xs:List UInt8)(w:World)(hlen:xs.length=len)(h2:1<=len)(hm:len<=9223372036854775807)
  (hc:∀i,i<len->w.cell? ⟨b,o+i,none⟩=some (.int .u8 (am xs i))) (U E:Value) (hU:w.cell? ⟨6,0,none⟩=some U) (hE:w.cell? ⟨5,0,none⟩=some E) (hL:wv w) (hn:aZ (am xs 0)=4) :
  Calls Tryz.prog 103 #[.slice (some ⟨b,o,none⟩) len c] w (fY U E w (aA xs 4 3 1)):=by
 have a7:=ro 4 xs (by omega) (by omega);have h0:=hc 0 (by omega);rw[Nat.add_zero] at h0;have hx:=aB xs 0;have a4:ee 4 xs 1=cB 4 (am xs 0):=rfl;have a0:gS xs 4 (aA xs 4 3 1) w (.int .i32 (ee 4 xs 1)) (.int .i64 1) w:=
  ⟨3,1,by omega,by omega,by omega,rfl,rfl,rfl,0,rfl⟩
 rw[a4] at a0;generalize aA xs 4 3 1=R at *;generalize hx0:am xs 0=x0 at *;have Hc:=Qa hc;have Hn:=Qa hn;have b1:=Qa a7;have Hs:=Qa a0;have a1:=Qa hlen;have b0:=Qa hx0;clear hc hn hlen a7 a4 a0 hx0;have HL:=Qa hL;clear hL;have b8:((len:Int)==0)=false:=by simp;omega
 go_enter Tryz.func103,Tryz.ntmps103;go_wp2_with (go_at_call 139;refine(gK _ (by omega) _ HL.out).mono ?_;rintro e w' ⟨rfl,rfl⟩;rw[Hn.out])
 go_loopw [6,7] (gS xs 4 R w) (fun _ i _=>4 - (intOf i).toNat)
 case atStart=>exact xH x0 hx▸Hs.out
 case round=>
  obtain⟨f,k,hf,a5,b5,rfl,rfl,hR,m,rfl⟩:=hrel
  cases f with
  |zero=>
   obtain rfl:k=4:=by omega
   generalize hq:ee 4 xs 4=q at *;have HR:=Qa (show(q,4,0)=R by rw[<-hR,<-hq];rfl);clear hR hq;go_wp2;go_ret3;exact⟨by rw[<-HR.out];rfl,m,rfl⟩
  |succ f=>
   have b7:k<4:=by omega
   by_cases hkl:k=len
   ·have HR:=Qa (show(0,0,1)=R by rw[<-hR,aA,if_pos (by rw[a1.out];exact hkl)]);clear hR;generalize ee 4 xs k=q at *;subst hkl;go_wp2;go_quiet (fail)
    all_goals (go_wp2;go_ret3)
    exact⟨by rw[<-HR.out];rfl,_,World.drewN_drewN _ _ _⟩
   ·have a2:k<len:=by have:=a1.out;omega
    have b2:((k:Int)==len)=false:=by simp;omega
    have hq:=(b1.out k (by omega)).2 (by omega);have a6:=Hc.out k a2;have b4:=aB xs k;have Hf:=Qa hf;generalize hqq:ee 4 xs k=q at *;have Hq:=Qa hqq;clear hqq hf;generalize hyy:am xs k=y at *;have Hy:=Qa hyy;clear hyy;have HR:=Qa hR;clear hR;have hp:0<len:=by omega
    have b3:(0:Int)<len:=by omega
    by_cases a5:k=1
    ·subst a5;have b6:(1:Int)<len:=by omega
     have a3:=Qa (kD b0.out Hy.out)
     by_cases hs:dC x0 y=true
     ·go_wp2;go_quiet ((go_at_call 140;exact cF (ek _ _ (by omega) _)));go_wp2_with (go_at_call 141;refine(gO _ _).mono ?_;rintro e w' ⟨rfl,rfl⟩)
      ·have ht:(!dP y)=true:=by assumption
       go_quiet (fail)
       all_goals (go_wp2;go_ret3)
       exact⟨by rw[<-eL (by rw[a1.out];exact a2) HR.out (by rw[a3.out,hs];simpa using ht)];rfl,_,World.drewN_drewN _ _ _⟩
      ·have ht:(!dP y)=false:=by assumption
       exact⟨gD Hq.out Hy.out (by omega) Hf.out (by rw[a1.out];exact a2) HR.out (by rw[a3.out,hs];simpa using ht) (by omega),by simp[intOf]⟩
     ·have a9:dC x0 y=false:=by simpa using hs
      clear hs;go_wp2;go_quiet ((go_at_call 140;exact cF (ek _ _ (by omega) _)));go_wp2;go_quiet (fail)
      all_goals (go_wp2;go_ret3)
      exact⟨by rw[<-eL (by rw[a1.out];exact a2) HR.out (by rw[a3.out,a9];rfl)];rfl,_,(congrArg (fun W:World=>W.drewN _) (World.drewN_drewN ..)).trans (World.drewN_drewN ..)⟩
    ·have b9:((k:Int)==1)=false:=by simp;omega
     have a3:=Qa (jf a5 Hy.out);go_wp2;go_quiet (fail);go_wp2_with (go_at_call 141;refine(gO _ _).mono ?_;rintro e w' ⟨rfl,rfl⟩)
     ·have ht:(!dP y)=true:=by assumption
      go_quiet (fail)
      all_goals (go_wp2;go_ret3)
      exact⟨by rw[<-eL (by rw[a1.out];exact a2) HR.out (by rw[a3.out];simpa using ht)];rfl,_,World.drewN_drewN _ _ _⟩
     ·have ht:(!dP y)=false:=by assumption
      exact⟨gD Hq.out Hy.out (by omega) Hf.out (by rw[a1.out];exact a2) HR.out (by rw[a3.out];simpa using ht) (by omega),by simp[intOf];omega⟩
theorem AO (b o c len:Nat)(w:World)(h2:1<=len)(hm:len<=9223372036854775807)(x:Nat)(hx:x<256)
  (h0:w.cell? ⟨b,o,none⟩=some (.int .u8 x)) (U E:Value) (hL:wv w) (hn:aZ x=1) :
  Calls Tryz.prog 103 #[.slice (some ⟨b,o,none⟩) len c] w (fY U E w (x,1,0)):=by
 have Hn:=Qa hn;have HL:=Qa hL;clear hL hn;have a0:((len:Int)==0)=false:=by simp;omega
 go_enter Tryz.func103,Tryz.ntmps103;go_wp2_with (go_at_call 139;refine(gK _ (by omega) _ HL.out).mono ?_;rintro e w' ⟨rfl,rfl⟩;rw[Hn.out])
 go_loopw [6,7] (fun cc i wr=>i =.int .i64 1/\cc =.int .i32 x/\w=wr) (fun _ i _=>1 - (intOf i).toNat)
 case atStart=>exact⟨rfl,rfl,rfl⟩
 case round=>
  obtain⟨rfl,rfl,rfl⟩:=hrel;go_wp2;go_ret3;exact⟨rfl,0,rfl⟩
theorem Cs (b o c len:Nat)(w:World)(h2:1<=len)(hm:len<=9223372036854775807)(x:Nat)(hx:x<256)
  (h0:w.cell? ⟨b,o,none⟩=some (.int .u8 x)) (U E:Value) (hU:w.cell? ⟨6,0,none⟩=some U) (hL:wv w) (n:Int) (a1:n<1) (hn:aZ x=n) :
  Calls Tryz.prog 103 #[.slice (some ⟨b,o,none⟩) len c] w (fY U E w (0,0,2)):=by
 have Hn:=Qa hn;have HL:=Qa hL;clear hL hn;have a0:((len:Int)==0)=false:=by simp;omega
 go_enter Tryz.func103,Tryz.ntmps103;go_wp2_with (go_at_call 139;refine(gK _ (by omega) _ HL.out).mono ?_;rintro e w' ⟨rfl,rfl⟩;rw[Hn.out]);go_quiet (fail)
 all_goals (go_wp2;go_ret3)
 exact⟨rfl,_,rfl⟩
theorem xi (A:Option Addr)(c:Nat)(w:World)(U E:Value)(hE:w.cell? ⟨5,0,none⟩=some E) :
  Calls Tryz.prog 103 #[.slice A 0 c] w (fY U E w (0,0,1)):=by
 go_enter Tryz.func103,Tryz.ntmps103;go_wp2;go_quiet (fail)
 all_goals (go_wp2;go_ret3)
 exact⟨rfl,_,rfl⟩
abbrev cj (a:Addr):Value:=.iface 406 (.pointer (some a))
structure co (w:World) (aU aE:Addr):Prop where
 u:w.cell? ⟨6,0,none⟩=some (cj aU)
 e:w.cell? ⟨5,0,none⟩=some (cj aE)
 l:wv w
 hu:∃cs t,w.heap[aU.block]?=some (.cells cs t (0,0))
 he:∃cs t,w.heap[aE.block]?=some (.cells cs t (0,0))
 ne:aU≠aE
theorem co.below (h:co w aU aE)(hb:Below w.heap.size w w'):co w' aU aE:=by
 obtain⟨c1,t1,h1⟩:=h.hu;obtain⟨c2,t2,h2⟩:=h.he;exact⟨Zf hb h.u,Zf hb h.e,fun i hi=>Zf hb (h.l i hi),
  ⟨c1,t1,(hb.block _ (ae h1)).trans h1⟩,⟨c2,t2,(hb.block _ (ae h2)).trans h2⟩,h.ne⟩
theorem co.drewN (h:co w aU aE)(m:Nat):co (w.drewN m) aU aE:=⟨h.u,h.e,h.l,h.hu,h.he,h.ne⟩
theorem gV (hb:Bs w v xs)(hg:co w aU aE) :
  Calls Tryz.prog 103 #[v] w (fY (cj aU) (cj aE) w (bC xs)):=by
 obtain⟨hm,A,c,rfl,hc,a0⟩:=hb
 by_cases h0:xs.length=0
 ·obtain rfl:xs = []:=List.eq_nil_of_length_eq_zero h0;exact xi A c w (cj aU) (cj aE) hg.e
 ·obtain⟨b,o,rfl,a1⟩:=a0 (by omega);have hx:=aB xs 0;have h1:=a1 0 (by omega);rw[Nat.add_zero] at h1;rcases e9 _ hx with hn|hn|hn|hn|hn
  ·rw[Cu (by omega) hn];exact Cs b o c xs.length w (by omega) hm _ hx h1 (cj aU) (cj aE) hg.u hg.l _ hn rfl
  ·rw[l8 (n:=1) (by omega) (by omega) hn];have:=AO b o c xs.length w (by omega) hm _ hx h1 (cj aU) (cj aE) hg.l hn;simpa [aA,ee,cB] using this
  ·rw[l8 (n:=2) (by omega) (by omega) hn];exact CK b o c xs.length xs w rfl (by omega) hm a1 (cj aU) (cj aE) hg.u hg.e hg.l hn
  ·rw[l8 (n:=3) (by omega) (by omega) hn];exact AV b o c xs.length xs w rfl (by omega) hm a1 (cj aU) (cj aE) hg.u hg.e hg.l hn
  ·rw[l8 (n:=4) (by omega) (by omega) hn];exact CY b o c xs.length xs w rfl (by omega) hm a1 (cj aU) (cj aE) hg.u hg.e hg.l hn
