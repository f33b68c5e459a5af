import Derived.Test.YtgkkffeagolnpaaGreatDoorGZ16ac
set_option linter.unusedVariables false
set_option linter.unusedSimpArgs false
set_option maxHeartbeats 64000000
namespace Go.Proofs.YtgkkffeagolnpaaGreatDoor
open Go.RowKit
variable {aE aU:Addr}{xs:List UInt8}{n q:Nat}{v:Value}{w w':World}
theorem fp (x:Int)(w:World) :
  Calls Tryz.prog 120 #[.int .u8 x] w fun e w'=>e =.returned (.bool (di x))/\w=w':=by
 go_enter Tryz.func120,Tryz.ntmps120;go_wp2;go_ret;exact⟨rfl,rfl⟩
theorem dG (x y:Int)(h':0<=y/\y<=255)(w:World) :
  Calls Tryz.prog 119 #[.int .u8 x,.int .u8 y] w fun e w'=>e =.returned (.bool (cS x y))/\w=w':=by
 go_enter Tryz.func119,Tryz.ntmps119;go_wp2_with (go_at_call 120;refine(fp _ _).mono ?_;rintro e w' ⟨rfl,rfl⟩)
 all_goals go_ret
 all_goals refine⟨rV ?_,rfl⟩
 all_goals (simp_all [cS] <;> omega)
def uA (w:World):Prop:= ∀i,i<16->w.cell? ⟨11,i,none⟩=some (.int .i8 (dU.getD i 0))
theorem fC (x:Int)(h:0<=x/\x<=255)(w:World)(hL:uA w) :
  Calls Tryz.prog 118 #[.int .u8 x] w fun e w'=>e =.returned (.int .i64 (aY x))/\w=w':=by
 by_cases h1:x=192\/x=193\/244<x
 ·have hc:aY x = -1:=by simp[aY,h1]
  rw[hc];clear hc;go_enter Tryz.func118,Tryz.ntmps118;rcases h1 with rfl|rfl|h1
  ·go_wp2;go_ret;exact⟨rfl,rfl⟩
  ·go_wp2;go_ret;exact⟨rfl,rfl⟩
  ·have e1:(x==192)=false:=by simp;omega
   have e2:(x==193)=false:=by simp;omega
   go_wp2;go_ret;exact⟨rfl,rfl⟩
 ·have hc:aY x=dU.getD (x/16).toNat 0:=by simp[aY,h1]
  rw[hc];clear hc;have hc:=hL (x/16).toNat (by omega);clear hL;have hb:∃q:Int,-1<=q/\q<=4/\dU.getD (x/16).toNat 0=q:=⟨_,(nK _).1,(nK _).2,rfl⟩;obtain⟨q,q1,q2,hq⟩:=hb;rw[hq] at hc ⊢;clear hq;have e1:(x==192)=false:=by simp;omega
  have e2:(x==193)=false:=by simp;omega
  have e3:¬244<x:=by omega
  clear h1;go_enter Tryz.func118,Tryz.ntmps118;go_wp2;go_ret;exact⟨rfl,rfl⟩
def iT (U E:Value)(c:Nat):Value:=if c=0 then .nilIface else if c=1 then E else U
def qB (U E:Value)(r:Nat×Nat×Nat):Value:=.tuple #[.int .i32 r.1,.int .i64 r.2.1,iT U E r.2.2]
theorem pj (n:Nat)(xs:List UInt8)(hn:2<=n)(a2:n<=4):∀k,k<=n->dx n xs k<2097152/\(k<n->dx n xs k<32768):=by
 have b0:=a6 xs 0;have b1:=a6 xs 1;have b2:=a6 xs 2;have b3:=a6 xs 3;intro k hk;have a1:k=0\/k=1\/k=2\/k=3\/k=4:=by omega
 have a0:n=2\/n=3\/n=4:=by omega
 rcases a0 with rfl|rfl|rfl <;> rcases a1 with rfl|rfl|rfl|rfl|rfl <;> simp[dx,b7] <;> omega
def eS (U E:Value)(w:World)(R:Nat×Nat×Nat)(e:Ending)(w':World):Prop:=e =.returned (qB U E R)/\∃m,w'=w.drewN m
def fG (xs:List UInt8)(n:Nat)(R:Nat×Nat×Nat)(w:World)(cc i:Value)(wr:World):Prop:=
 ∃f k:Nat,k+f=n/\1<=k/\k<=xs.length/\i =.int .i64 k/\cc =.int .i32 (dx n xs k)/\aB xs n f k=R/\∃m,wr=w.drewN m
theorem IF:∀x:Nat,x<256->bits .and .i32 (x:Int) 31= ((x % 32:Nat):Int):=by decide +kernel
theorem Gd:∀x:Nat,x<256->bits .and .i32 (x:Int) 15= ((x % 16:Nat):Int):=by decide +kernel
theorem JQ:∀x:Nat,x<256->bits .and .i32 (x:Int) 7= ((x % 8:Nat):Int):=by decide +kernel
theorem uC (x:Nat)(h:x<256):((b7 2 x:Nat):Int)=bits .and .i32 (x:Int) 31:=by rw[IF x h];rfl
theorem uf (x:Nat)(h:x<256):((b7 3 x:Nat):Int)=bits .and .i32 (x:Int) 15:=by rw[Gd x h];rfl
theorem vO (x:Nat)(h:x<256):((b7 4 x:Nat):Int)=bits .and .i32 (x:Int) 7:=by rw[JQ x h];rfl
theorem fc {f k y m:Nat}{R:Nat×Nat×Nat}{v:Int}(hq:dx n xs k=q)(hy:am xs k=y)(hk:1<=k)(hf:k+ (f+1)=n)
  (hlt:k<xs.length) (hR:aB xs n (f+1) k=R) (a0:nB xs k=true) (hv:v= (k:Int)+1) :
  fG xs n R w (.int .i32 ((q:Int)*64+ (y:Int) % 64)) (.int .i64 v) (w.drewN m):=by
 refine⟨f,k+1,by omega,by omega,by omega,by rw[hv];rfl,?_,?_,m,rfl⟩
 ·obtain⟨j,rfl⟩:∃j,k=j+1:=⟨k - 1,by omega⟩;rw[dx,hq,hy];congr 1
 ·rw[<-hR,aB,if_neg (by omega),if_pos a0]
theorem dN {f k:Nat}{R:Nat×Nat×Nat}(hlt:k<xs.length)(hR:aB xs n (f+1) k=R)(a0:nB xs k=false):(0,0,2)=R:=by
 rw[<-hR,aB,if_neg (by omega),a0];rfl
theorem BO (b o c len:Nat)(xs:List UInt8)(w:World)(hlen:xs.length=len)(h2:1<=len)(hm:len<=9223372036854775807)
  (hc:∀i,i<len->w.cell? ⟨b,o+i,none⟩=some (.int .u8 (am xs i))) (U E:Value) (hU:w.cell? ⟨10,0,none⟩=some U) (hE:w.cell? ⟨9,0,none⟩=some E) (hL:uA w) (hn:aY (am xs 0)=2) :
  Calls Tryz.prog 92 #[.slice (some ⟨b,o,none⟩) len c] w (eS U E w (aB xs 2 1 1)):=by
 have a5:=pj 2 xs (by omega) (by omega);have h0:=hc 0 (by omega);rw[Nat.add_zero] at h0;have hx:=a6 xs 0;have a3:dx 2 xs 1=b7 2 (am xs 0):=rfl;have a0:fG xs 2 (aB xs 2 1 1) w (.int .i32 (dx 2 xs 1)) (.int .i64 1) w:=
  ⟨1,1,by omega,by omega,by omega,rfl,rfl,rfl,0,rfl⟩
 rw[a3] at a0;generalize aB xs 2 1 1=R at *;generalize hx0:am xs 0=x0 at *;have Hc:=Qa hc;have Hn:=Qa hn;have b2:=Qa a5;have Hs:=Qa a0;have a1:=Qa hlen;have b3:=Qa hx0;clear hc hn hlen a5 a3 a0 hx0;have HL:=Qa hL;clear hL;have b5:((len:Int)==0)=false:=by simp;omega
 go_enter Tryz.func92,Tryz.ntmps92;go_wp2_with (go_at_call 118;refine(fC _ (by omega) _ HL.out).mono ?_;rintro e w' ⟨rfl,rfl⟩;rw[Hn.out])
 go_loopw [6,7] (fG xs 2 R w) (fun _ i _=>2 - (intOf i).toNat)
 case atStart=>exact uC x0 hx▸Hs.out
 case round=>
  obtain⟨f,k,hf,b0,c2,rfl,rfl,hR,m,rfl⟩:=hrel
  cases f with
  |zero=>
   obtain rfl:k=2:=by omega
   generalize hq:dx 2 xs 2=q at *;have HR:=Qa (show(q,2,0)=R by rw[<-hR,<-hq];rfl);clear hR hq;go_wp2;go_ret3;exact⟨by rw[<-HR.out];rfl,m,rfl⟩
  |succ f=>
   have b8:k<2:=by omega
   by_cases hkl:k=len
   ·have HR:=Qa (show(0,0,1)=R by rw[<-hR,aB,if_pos (by rw[a1.out];exact hkl)]);clear hR;generalize dx 2 xs k=q at *;subst hkl;go_wp2;go_quiet (fail)
    all_goals (go_wp2;go_ret3)
    exact⟨by rw[<-HR.out];rfl,_,World.drewN_drewN _ _ _⟩
   ·have a2:k<len:=by have:=a1.out;omega
    have b1:((k:Int)==len)=false:=by simp;omega
    have hq:=(b2.out k (by omega)).2 (by omega);have a9:=Hc.out k a2;have c1:=a6 xs k;have Hf:=Qa hf;generalize hqq:dx 2 xs k=q at *;have Hq:=Qa hqq;clear hqq hf;generalize hyy:am xs k=y at *;have Hy:=Qa hyy;clear hyy;have HR:=Qa hR;clear hR;have hp:0<len:=by omega
    have b9:(0:Int)<len:=by omega
    by_cases b0:k=1
    ·subst b0;have c0:(1:Int)<len:=by omega
     have a4:=Qa (jH b3.out Hy.out)
     by_cases hs:cS x0 y=true
     ·go_wp2;go_quiet ((go_at_call 119;exact bZ (dG _ _ (by omega) _)));go_wp2_with (go_at_call 120;refine(fp _ _).mono ?_;rintro e w' ⟨rfl,rfl⟩)
      ·have ht:(!di y)=true:=by assumption
       go_quiet (fail)
       all_goals (go_wp2;go_ret3)
       exact⟨by rw[<-dN (by rw[a1.out];exact a2) HR.out (by rw[a4.out,hs];simpa using ht)];rfl,_,World.drewN_drewN _ _ _⟩
      ·have ht:(!di y)=false:=by assumption
       exact⟨fc Hq.out Hy.out (by omega) Hf.out (by rw[a1.out];exact a2) HR.out (by rw[a4.out,hs];simpa using ht) (by omega),by simp[intOf]⟩
     ·have b4:cS x0 y=false:=by simpa using hs
      clear hs;go_wp2;go_quiet ((go_at_call 119;exact bZ (dG _ _ (by omega) _)));go_wp2;go_quiet (fail)
      all_goals (go_wp2;go_ret3)
      exact⟨by rw[<-dN (by rw[a1.out];exact a2) HR.out (by rw[a4.out,b4];rfl)];rfl,_,(congrArg (fun W:World=>W.drewN _) (World.drewN_drewN ..)).trans (World.drewN_drewN ..)⟩
    ·exfalso;omega
theorem Az (b o c len:Nat)(xs:List UInt8)(w:World)(hlen:xs.length=len)(h2:1<=len)(hm:len<=9223372036854775807)
  (hc:∀i,i<len->w.cell? ⟨b,o+i,none⟩=some (.int .u8 (am xs i))) (U E:Value) (hU:w.cell? ⟨10,0,none⟩=some U) (hE:w.cell? ⟨9,0,none⟩=some E) (hL:uA w) (hn:aY (am xs 0)=3) :
  Calls Tryz.prog 92 #[.slice (some ⟨b,o,none⟩) len c] w (eS U E w (aB xs 3 2 1)):=by
 have a9:=pj 3 xs (by omega) (by omega);have h0:=hc 0 (by omega);rw[Nat.add_zero] at h0;have hx:=a6 xs 0;have a4:dx 3 xs 1=b7 3 (am xs 0):=rfl;have a1:fG xs 3 (aB xs 3 2 1) w (.int .i32 (dx 3 xs 1)) (.int .i64 1) w:=
  ⟨2,1,by omega,by omega,by omega,rfl,rfl,rfl,0,rfl⟩
 rw[a4] at a1;generalize aB xs 3 2 1=R at *;generalize hx0:am xs 0=x0 at *;have Hc:=Qa hc;have Hn:=Qa hn;have b2:=Qa a9;have Hs:=Qa a1;have a0:=Qa hlen;have b3:=Qa hx0;clear hc hn hlen a9 a4 a1 hx0;have HL:=Qa hL;clear hL;have b5:((len:Int)==0)=false:=by simp;omega
 go_enter Tryz.func92,Tryz.ntmps92;go_wp2_with (go_at_call 118;refine(fC _ (by omega) _ HL.out).mono ?_;rintro e w' ⟨rfl,rfl⟩;rw[Hn.out])
 go_loopw [6,7] (fG xs 3 R w) (fun _ i _=>3 - (intOf i).toNat)
 case atStart=>exact uf x0 hx▸Hs.out
 case round=>
  obtain⟨f,k,hf,a5,c2,rfl,rfl,hR,m,rfl⟩:=hrel
  cases f with
  |zero=>
   obtain rfl:k=3:=by omega
   generalize hq:dx 3 xs 3=q at *;have HR:=Qa (show(q,3,0)=R by rw[<-hR,<-hq];rfl);clear hR hq;go_wp2;go_ret3;exact⟨by rw[<-HR.out];rfl,m,rfl⟩
  |succ f=>
   have b8:k<3:=by omega
   by_cases hkl:k=len
   ·have HR:=Qa (show(0,0,1)=R by rw[<-hR,aB,if_pos (by rw[a0.out];exact hkl)]);clear hR;generalize dx 3 xs k=q at *;subst hkl;go_wp2;go_quiet (fail)
    all_goals (go_wp2;go_ret3)
    exact⟨by rw[<-HR.out];rfl,_,World.drewN_drewN _ _ _⟩
   ·have a2:k<len:=by have:=a0.out;omega
    have b1:((k:Int)==len)=false:=by simp;omega
    have hq:=(b2.out k (by omega)).2 (by omega);have b0:=Hc.out k a2;have c1:=a6 xs k;have Hf:=Qa hf;generalize hqq:dx 3 xs k=q at *;have Hq:=Qa hqq;clear hqq hf;generalize hyy:am xs k=y at *;have Hy:=Qa hyy;clear hyy;have HR:=Qa hR;clear hR;have hp:0<len:=by omega
    have b9:(0:Int)<len:=by omega
    by_cases a5:k=1
    ·subst a5;have c0:(1:Int)<len:=by omega
     have a3:=Qa (jH b3.out Hy.out)
     by_cases hs:cS x0 y=true
     ·go_wp2;go_quiet ((go_at_call 119;exact bZ (dG _ _ (by omega) _)));go_wp2_with (go_at_call 120;refine(fp _ _).mono ?_;rintro e w' ⟨rfl,rfl⟩)
      ·have ht:(!di y)=true:=by assumption
       go_quiet (fail)
       all_goals (go_wp2;go_ret3)
       exact⟨by rw[<-dN (by rw[a0.out];exact a2) HR.out (by rw[a3.out,hs];simpa using ht)];rfl,_,World.drewN_drewN _ _ _⟩
      ·have ht:(!di y)=false:=by assumption
       exact⟨fc Hq.out Hy.out (by omega) Hf.out (by rw[a0.out];exact a2) HR.out (by rw[a3.out,hs];simpa using ht) (by omega),by simp[intOf]⟩
     ·have b4:cS x0 y=false:=by simpa using hs
      clear hs;go_wp2;go_quiet ((go_at_call 119;exact bZ (dG _ _ (by omega) _)));go_wp2;go_quiet (fail)
      all_goals (go_wp2;go_ret3)
      exact⟨by rw[<-dN (by rw[a0.out];exact a2) HR.out (by rw[a3.out,b4];rfl)];rfl,_,(congrArg (fun W:World=>W.drewN _) (World.drewN_drewN ..)).trans (World.drewN_drewN ..)⟩
    ·have c3:((k:Int)==1)=false:=by simp;omega
     have a3:=Qa (ix a5 Hy.out);go_wp2;go_quiet (fail);go_wp2_with (go_at_call 120;refine(fp _ _).mono ?_;rintro e w' ⟨rfl,rfl⟩)
     ·have ht:(!di y)=true:=by assumption
      go_quiet (fail)
      all_goals (go_wp2;go_ret3)
      exact⟨by rw[<-dN (by rw[a0.out];exact a2) HR.out (by rw[a3.out];simpa using ht)];rfl,_,World.drewN_drewN _ _ _⟩
     ·have ht:(!di y)=false:=by assumption
      exact⟨fc Hq.out Hy.out (by omega) Hf.out (by rw[a0.out];exact a2) HR.out (by rw[a3.out];simpa using ht) (by omega),by simp[intOf];omega⟩
theorem Ds (b o c len:Nat)(xs:List UInt8)(w:World)(hlen:xs.length=len)(h2:1<=len)(hm:len<=9223372036854775807)
  (hc:∀i,i<len->w.cell? ⟨b,o+i,none⟩=some (.int .u8 (am xs i))) (U E:Value) (hU:w.cell? ⟨10,0,none⟩=some U) (hE:w.cell? ⟨9,0,none⟩=some E) (hL:uA w) (hn:aY (am xs 0)=4) :
  Calls Tryz.prog 92 #[.slice (some ⟨b,o,none⟩) len c] w (eS U E w (aB xs 4 3 1)):=by
 have a9:=pj 4 xs (by omega) (by omega);have h0:=hc 0 (by omega);rw[Nat.add_zero] at h0;have hx:=a6 xs 0;have a4:dx 4 xs 1=b7 4 (am xs 0):=rfl;have a1:fG xs 4 (aB xs 4 3 1) w (.int .i32 (dx 4 xs 1)) (.int .i64 1) w:=
  ⟨3,1,by omega,by omega,by omega,rfl,rfl,rfl,0,rfl⟩
 rw[a4] at a1;generalize aB xs 4 3 1=R at *;generalize hx0:am xs 0=x0 at *;have Hc:=Qa hc;have Hn:=Qa hn;have b2:=Qa a9;have Hs:=Qa a1;have a0:=Qa hlen;have b3:=Qa hx0;clear hc hn hlen a9 a4 a1 hx0;have HL:=Qa hL;clear hL;have b5:((len:Int)==0)=false:=by simp;omega
 go_enter Tryz.func92,Tryz.ntmps92;go_wp2_with (go_at_call 118;refine(fC _ (by omega) _ HL.out).mono ?_;rintro e w' ⟨rfl,rfl⟩;rw[Hn.out])
 go_loopw [6,7] (fG xs 4 R w) (fun _ i _=>4 - (intOf i).toNat)
 case atStart=>exact vO x0 hx▸Hs.out
 case round=>
  obtain⟨f,k,hf,a5,c2,rfl,rfl,hR,m,rfl⟩:=hrel
  cases f with
  |zero=>
   obtain rfl:k=4:=by omega
   generalize hq:dx 4 xs 4=q at *;have HR:=Qa (show(q,4,0)=R by rw[<-hR,<-hq];rfl);clear hR hq;go_wp2;go_ret3;exact⟨by rw[<-HR.out];rfl,m,rfl⟩
  |succ f=>
   have b8:k<4:=by omega
   by_cases hkl:k=len
   ·have HR:=Qa (show(0,0,1)=R by rw[<-hR,aB,if_pos (by rw[a0.out];exact hkl)]);clear hR;generalize dx 4 xs k=q at *;subst hkl;go_wp2;go_quiet (fail)
    all_goals (go_wp2;go_ret3)
    exact⟨by rw[<-HR.out];rfl,_,World.drewN_drewN _ _ _⟩
   ·have a2:k<len:=by have:=a0.out;omega
    have b1:((k:Int)==len)=false:=by simp;omega
    have hq:=(b2.out k (by omega)).2 (by omega);have b0:=Hc.out k a2;have c1:=a6 xs k;have Hf:=Qa hf;generalize hqq:dx 4 xs k=q at *;have Hq:=Qa hqq;clear hqq hf;generalize hyy:am xs k=y at *;have Hy:=Qa hyy;clear hyy;have HR:=Qa hR;clear hR;have hp:0<len:=by omega
    have b9:(0:Int)<len:=by omega
    by_cases a5:k=1
    ·subst a5;have c0:(1:Int)<len:=by omega
     have a3:=Qa (jH b3.out Hy.out)
     by_cases hs:cS x0 y=true
     ·go_wp2;go_quiet ((go_at_call 119;exact bZ (dG _ _ (by omega) _)));go_wp2_with (go_at_call 120;refine(fp _ _).mono ?_;rintro e w' ⟨rfl,rfl⟩)
      ·have ht:(!di y)=true:=by assumption
       go_quiet (fail)
       all_goals (go_wp2;go_ret3)
       exact⟨by rw[<-dN (by rw[a0.out];exact a2) HR.out (by rw[a3.out,hs];simpa using ht)];rfl,_,World.drewN_drewN _ _ _⟩
      ·have ht:(!di y)=false:=by assumption
       exact⟨fc Hq.out Hy.out (by omega) Hf.out (by rw[a0.out];exact a2) HR.out (by rw[a3.out,hs];simpa using ht) (by omega),by simp[intOf]⟩
     ·have b4:cS x0 y=false:=by simpa using hs
      clear hs;go_wp2;go_quiet ((go_at_call 119;exact bZ (dG _ _ (by omega) _)));go_wp2;go_quiet (fail)
      all_goals (go_wp2;go_ret3)
      exact⟨by rw[<-dN (by rw[a0.out];exact a2) HR.out (by rw[a3.out,b4];rfl)];rfl,_,(congrArg (fun W:World=>W.drewN _) (World.drewN_drewN ..)).trans (World.drewN_drewN ..)⟩
    ·have c3:((k:Int)==1)=false:=by simp;omega
     have a3:=Qa (ix a5 Hy.out);go_wp2;go_quiet (fail);go_wp2_with (go_at_call 120;refine(fp _ _).mono ?_;rintro e w' ⟨rfl,rfl⟩)
     ·have ht:(!di y)=true:=by assumption
      go_quiet (fail)
      all_goals (go_wp2;go_ret3)
      exact⟨by rw[<-dN (by rw[a0.out];exact a2) HR.out (by rw[a3.out];simpa using ht)];rfl,_,World.drewN_drewN _ _ _⟩
     ·have ht:(!di y)=false:=by assumption
      exact⟨fc Hq.out Hy.out (by omega) Hf.out (by rw[a0.out];exact a2) HR.out (by rw[a3.out];simpa using ht) (by omega),by simp[intOf];omega⟩
theorem zP (b o c len:Nat)(w:World)(h2:1<=len)(hm:len<=9223372036854775807)(x:Nat)(hx:x<256)
  (h0:w.cell? ⟨b,o,none⟩=some (.int .u8 x)) (U E:Value) (hL:uA w) (hn:aY x=1) :
  Calls Tryz.prog 92 #[.slice (some ⟨b,o,none⟩) len c] w (eS U E w (x,1,0)):=by
 have Hn:=Qa hn;have HL:=Qa hL;clear hL hn;have a0:((len:Int)==0)=false:=by simp;omega
 go_enter Tryz.func92,Tryz.ntmps92;go_wp2_with (go_at_call 118;refine(fC _ (by omega) _ HL.out).mono ?_;rintro e w' ⟨rfl,rfl⟩;rw[Hn.out])
 go_loopw [6,7] (fun cc i wr=>i =.int .i64 1/\cc =.int .i32 x/\w=wr) (fun _ i _=>1 - (intOf i).toNat)
 case atStart=>exact⟨rfl,rfl,rfl⟩
 case round=>
  obtain⟨rfl,rfl,rfl⟩:=hrel;go_wp2;go_ret3;exact⟨rfl,0,rfl⟩
theorem Ar (b o c len:Nat)(w:World)(h2:1<=len)(hm:len<=9223372036854775807)(x:Nat)(hx:x<256)
  (h0:w.cell? ⟨b,o,none⟩=some (.int .u8 x)) (U E:Value) (hU:w.cell? ⟨10,0,none⟩=some U) (hL:uA w) (n:Int) (a1:n<1) (hn:aY x=n) :
  Calls Tryz.prog 92 #[.slice (some ⟨b,o,none⟩) len c] w (eS U E w (0,0,2)):=by
 have Hn:=Qa hn;have HL:=Qa hL;clear hL hn;have a0:((len:Int)==0)=false:=by simp;omega
 go_enter Tryz.func92,Tryz.ntmps92;go_wp2_with (go_at_call 118;refine(fC _ (by omega) _ HL.out).mono ?_;rintro e w' ⟨rfl,rfl⟩;rw[Hn.out]);go_quiet (fail)
 all_goals (go_wp2;go_ret3)
 exact⟨rfl,_,rfl⟩
theorem vD (A:Option Addr)(c:Nat)(w:World)(U E:Value)(hE:w.cell? ⟨9,0,none⟩=some E) :
  Calls Tryz.prog 92 #[.slice A 0 c] w (eS U E w (0,0,1)):=by
 go_enter Tryz.func92,Tryz.ntmps92;go_wp2;go_quiet (fail)
 all_goals (go_wp2;go_ret3)
 exact⟨rfl,_,rfl⟩
abbrev b6 (a:Addr):Value:=.iface 408 (.pointer (some a))
structure cD (w:World) (aU aE:Addr):Prop where
 u:w.cell? ⟨10,0,none⟩=some (b6 aU)
 e:w.cell? ⟨9,0,none⟩=some (b6 aE)
 l:uA w
 hu:∃cs t,w.heap[aU.block]?=some (.cells cs t (0,0))
 he:∃cs t,w.heap[aE.block]?=some (.cells cs t (0,0))
 ne:aU≠aE
theorem cD.below (h:cD w aU aE)(hb:Below w.heap.size w w'):cD w' aU aE:=by
 obtain⟨c1,t1,h1⟩:=h.hu;obtain⟨c2,t2,h2⟩:=h.he;exact⟨Zg hb h.u,Zg hb h.e,fun i hi=>Zg hb (h.l i hi),
  ⟨c1,t1,(hb.block _ (ak h1)).trans h1⟩,⟨c2,t2,(hb.block _ (ak h2)).trans h2⟩,h.ne⟩
theorem cD.drewN (h:cD w aU aE)(m:Nat):cD (w.drewN m) aU aE:=⟨h.u,h.e,h.l,h.hu,h.he,h.ne⟩
theorem fR (hb:Bs w v xs)(hg:cD w aU aE) :
  Calls Tryz.prog 92 #[v] w (eS (b6 aU) (b6 aE) w (bg xs)):=by
 obtain⟨hm,A,c,rfl,hc,a0⟩:=hb
 by_cases h0:xs.length=0
 ·obtain rfl:xs = []:=List.eq_nil_of_length_eq_zero h0;exact vD A c w (b6 aU) (b6 aE) hg.e
 ·obtain⟨b,o,rfl,a1⟩:=a0 (by omega);have hx:=a6 xs 0;have h1:=a1 0 (by omega);rw[Nat.add_zero] at h1;rcases ee _ hx with hn|hn|hn|hn|hn
  ·rw[DF (by omega) hn];exact Ar b o c xs.length w (by omega) hm _ hx h1 (b6 aU) (b6 aE) hg.u hg.l _ hn rfl
  ·rw[lc (n:=1) (by omega) (by omega) hn];have:=zP b o c xs.length w (by omega) hm _ hx h1 (b6 aU) (b6 aE) hg.l hn;simpa [aB,dx,b7] using this
  ·rw[lc (n:=2) (by omega) (by omega) hn];exact BO b o c xs.length xs w rfl (by omega) hm a1 (b6 aU) (b6 aE) hg.u hg.e hg.l hn
  ·rw[lc (n:=3) (by omega) (by omega) hn];exact Az b o c xs.length xs w rfl (by omega) hm a1 (b6 aU) (b6 aE) hg.u hg.e hg.l hn
  ·rw[lc (n:=4) (by omega) (by omega) hn];exact Ds b o c xs.length xs w rfl (by omega) hm a1 (b6 aU) (b6 aE) hg.u hg.e hg.l hn
