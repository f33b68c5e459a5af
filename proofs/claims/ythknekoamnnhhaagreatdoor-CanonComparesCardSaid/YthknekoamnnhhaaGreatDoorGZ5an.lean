import Derived.Test.YthknekoamnnhhaaGreatDoorGZ5am
import Derived.RangeFuncNested
import Derived.RangeFuncBound
import Derived.Shelf.RegionOpen
import Derived.OwnWalkIn
import Derived.LoopNIn
import Derived.LoopIn
set_option linter.unusedVariables false
set_option linter.unusedSimpArgs false
set_option maxHeartbeats 64000000
set_option maxRecDepth 100000
namespace Go.Proofs.YthknekoamnnhhaaGreatDoor
open Go.RowKit Go.Shelf
variable {aE aU:Addr}{xs:List UInt8}{B B2 g m n q:Nat}{v:Value}{W W' X w w' w1:World}
theorem Cd.low {r:Option (Nat×Nat)}{e:Ending}(h:Cd r w1 e w')(hb:Below w.heap.size w w1):Cd r w e w':=by
 rcases h with ⟨p,h1,h2,h3⟩|⟨h1,h2⟩
 ·exact .inl ⟨p,h1,h2,bE hb h3⟩
 ·exact .inr ⟨h1,h2.low hb⟩
theorem yk {c:UInt8}{t:List UInt8}(h:¬ (c=98\/c=116\/c=110\/c=102\/c=114\/c=34\/c=92\/c=47\/c=117)):ti (c::t)=none:=by
 unfold ti
 split <;> first|rfl|(rename_i e;injection e with e _;subst e;simp at h)
theorem vI {k:Nat}(h:vg w g v xs k)(hE:bC w 4)(hS:bC w 19)(hU:bC w 20)(hk:k<=1000000000):Calls Tryz.prog 259 #[.pointer (some ⟨g,0,none⟩)] w fun e w'=>Cd (ti (xs.drop (k+1))) w e w':=by
 have c1:=aa h.1 (j:=1) (u:=.int .i64 k) rfl;have H:=Qa h;have HE:=Qa hE;have a2:=Qa (vH h hE hS hU hk);obtain⟨aS,a3⟩:=hS;clear h hE hU;rcases hc:xs[k+1]? with _|c
 ·have Hn:=Qa (show ti (xs.drop (k+1))=none by rw[List.drop_of_length_le (List.getElem?_eq_none_iff.1 hc)];rfl);have Hc:=Qa hc;clear hc;go_enter Tryz.func259,Tryz.ntmps259;go_wp2_with fail;rw[show(k:Int)+1= ((k+1:Nat):Int) from by omega];(with_reducible refine(jn H.out HE.out (k+1) Hc.out).mono ?_);rintro e w' ⟨vP,rfl,hv,hb⟩;have Hv:=Qa hv;have a1:=Qa hb;clear hv hb;go_wp2_with fail;exact⟨rfl,.inr ⟨Hn.out,vP,rfl,Hv.out,a1.out⟩⟩
 have hd:xs.drop (k+1)=c::xs.drop (k+2):=by
  obtain⟨hlt,he⟩:=List.getElem?_eq_some_iff.1 hc;rw[List.drop_eq_getElem_cons hlt,he]
 rw[hd];have Hc:=Qa hc;clear hc hd
 by_cases h98:c=98
 ·subst h98;go_enter Tryz.func259,Tryz.ntmps259;go_wp2_with fail;rw[show(k:Int)+1= ((k+1:Nat):Int) from by omega];(with_reducible refine(aY H.out HE.out (k+1) Hc.out).mono ?_);rintro e w' ⟨rfl,rfl⟩;rw[show(98:UInt8).toNat=98 from rfl];go_wp2_with fail;go_ret2;exact .inl ⟨(8,2),rfl,rfl,Zd _ _⟩
 by_cases h116:c=116
 ·subst h116;go_enter Tryz.func259,Tryz.ntmps259;go_wp2_with fail;rw[show(k:Int)+1= ((k+1:Nat):Int) from by omega];(with_reducible refine(aY H.out HE.out (k+1) Hc.out).mono ?_);rintro e w' ⟨rfl,rfl⟩;rw[show(116:UInt8).toNat=116 from rfl];go_wp2_with fail;go_ret2;exact .inl ⟨(9,2),rfl,rfl,Zd _ _⟩
 by_cases h110:c=110
 ·subst h110;go_enter Tryz.func259,Tryz.ntmps259;go_wp2_with fail;rw[show(k:Int)+1= ((k+1:Nat):Int) from by omega];(with_reducible refine(aY H.out HE.out (k+1) Hc.out).mono ?_);rintro e w' ⟨rfl,rfl⟩;rw[show(110:UInt8).toNat=110 from rfl];go_wp2_with fail;go_ret2;exact .inl ⟨(10,2),rfl,rfl,Zd _ _⟩
 by_cases h102:c=102
 ·subst h102;go_enter Tryz.func259,Tryz.ntmps259;go_wp2_with fail;rw[show(k:Int)+1= ((k+1:Nat):Int) from by omega];(with_reducible refine(aY H.out HE.out (k+1) Hc.out).mono ?_);rintro e w' ⟨rfl,rfl⟩;rw[show(102:UInt8).toNat=102 from rfl];go_wp2_with fail;go_ret2;exact .inl ⟨(12,2),rfl,rfl,Zd _ _⟩
 by_cases h114:c=114
 ·subst h114;go_enter Tryz.func259,Tryz.ntmps259;go_wp2_with fail;rw[show(k:Int)+1= ((k+1:Nat):Int) from by omega];(with_reducible refine(aY H.out HE.out (k+1) Hc.out).mono ?_);rintro e w' ⟨rfl,rfl⟩;rw[show(114:UInt8).toNat=114 from rfl];go_wp2_with fail;go_ret2;exact .inl ⟨(13,2),rfl,rfl,Zd _ _⟩
 by_cases h34:c=34
 ·subst h34;go_enter Tryz.func259,Tryz.ntmps259;go_wp2_with fail;rw[show(k:Int)+1= ((k+1:Nat):Int) from by omega];(with_reducible refine(aY H.out HE.out (k+1) Hc.out).mono ?_);rintro e w' ⟨rfl,rfl⟩;rw[show(34:UInt8).toNat=34 from rfl];go_wp2_with fail;go_ret2;exact .inl ⟨(34,2),rfl,rfl,Zd _ _⟩
 by_cases h92:c=92
 ·subst h92;go_enter Tryz.func259,Tryz.ntmps259;go_wp2_with fail;rw[show(k:Int)+1= ((k+1:Nat):Int) from by omega];(with_reducible refine(aY H.out HE.out (k+1) Hc.out).mono ?_);rintro e w' ⟨rfl,rfl⟩;rw[show(92:UInt8).toNat=92 from rfl];go_wp2_with fail;go_ret2;exact .inl ⟨(92,2),rfl,rfl,Zd _ _⟩
 by_cases h47:c=47
 ·subst h47;go_enter Tryz.func259,Tryz.ntmps259;go_wp2_with fail;rw[show(k:Int)+1= ((k+1:Nat):Int) from by omega];(with_reducible refine(aY H.out HE.out (k+1) Hc.out).mono ?_);rintro e w' ⟨rfl,rfl⟩;rw[show(47:UInt8).toNat=47 from rfl];go_wp2_with fail;go_ret2;exact .inl ⟨(47,2),rfl,rfl,Zd _ _⟩
 by_cases h117:c=117
 ·subst h117;go_enter Tryz.func259,Tryz.ntmps259;go_wp2_with fail;rw[show(k:Int)+1= ((k+1:Nat):Int) from by omega];(with_reducible refine(aY H.out HE.out (k+1) Hc.out).mono ?_);rintro e w' ⟨rfl,rfl⟩;rw[show(117:UInt8).toNat=117 from rfl];go_wp2_with fail;(with_reducible refine a2.out.mono ?_);rintro e w' (⟨p,hp,rfl,hb⟩|⟨hn,vP,rfl,hv,hb⟩)
  ·have Hp:=Qa hp;have Hb:=Qa hb;obtain⟨p1,p2⟩:=p;clear hp hb
   dsimp only
   go_wp2_with fail;go_ret2;exact .inl ⟨(p1,p2),Hp.out,rfl,Hb.out⟩
  ·have Hn:=Qa hn;have Hv:=Qa hv;have a1:=Qa hb;clear hn hv hb;go_wp2_with fail;exact⟨rfl,.inr ⟨Hn.out,vP,rfl,Hv.out,a1.out⟩⟩
 have Hn:=Qa (yk (c:=c) (t:=xs.drop (k+2)) (by rintro(e|e|e|e|e|e|e|e|e) <;> contradiction));have n98:((c.toNat:Int)==98)=false:=by simp only[beq_eq_false_iff_ne];intro e;exact h98 (UInt8.toNat_inj.1 (by show c.toNat=98;omega))
 have n116:((c.toNat:Int)==116)=false:=by simp only[beq_eq_false_iff_ne];intro e;exact h116 (UInt8.toNat_inj.1 (by show c.toNat=116;omega))
 have n110:((c.toNat:Int)==110)=false:=by simp only[beq_eq_false_iff_ne];intro e;exact h110 (UInt8.toNat_inj.1 (by show c.toNat=110;omega))
 have n102:((c.toNat:Int)==102)=false:=by simp only[beq_eq_false_iff_ne];intro e;exact h102 (UInt8.toNat_inj.1 (by show c.toNat=102;omega))
 have n114:((c.toNat:Int)==114)=false:=by simp only[beq_eq_false_iff_ne];intro e;exact h114 (UInt8.toNat_inj.1 (by show c.toNat=114;omega))
 have n34:((c.toNat:Int)==34)=false:=by simp only[beq_eq_false_iff_ne];intro e;exact h34 (UInt8.toNat_inj.1 (by show c.toNat=34;omega))
 have n92:((c.toNat:Int)==92)=false:=by simp only[beq_eq_false_iff_ne];intro e;exact h92 (UInt8.toNat_inj.1 (by show c.toNat=92;omega))
 have n47:((c.toNat:Int)==47)=false:=by simp only[beq_eq_false_iff_ne];intro e;exact h47 (UInt8.toNat_inj.1 (by show c.toNat=47;omega))
 have n117:((c.toNat:Int)==117)=false:=by simp only[beq_eq_false_iff_ne];intro e;exact h117 (UInt8.toNat_inj.1 (by show c.toNat=117;omega))
 clear h98 h116 h110 h102 h114 h34 h92 h47 h117;go_enter Tryz.func259,Tryz.ntmps259;go_wp2_with fail;rw[show(k:Int)+1= ((k+1:Nat):Int) from by omega];(with_reducible refine(aY H.out HE.out (k+1) Hc.out).mono ?_);rintro e w' ⟨rfl,rfl⟩;go_wp2_with fail;refine wp_region_held_drew (S:=fun w'=>w'.cell? ⟨g,1,none⟩=some (.int .i64 k)/\w'.cell? ⟨19,0,none⟩=some (bL aS)) (by kernel_rfl) (⟨c1,a3⟩) (fun a0=>?_);refine tH 0 a0 ?_;refine tH 1 a0 ?_;refine tH 2 a0 ?_;refine tH 3 a0 ?_;refine tH 4 a0 ?_
 try simp only[Act.put,jP,jQ,jR]
 refine rH 5 fun K hK=>?_
 go_simp;refine(bz _ aS _).mono ?_;rintro e w' hf;obtain⟨vP,rfl,hv,hb⟩:=hf.low (show Below w.heap.size w w.drew from(Zd _ _).drew);exact⟨rfl,.inr ⟨Hn.out,vP,rfl,hv,hb⟩⟩
theorem ii (x:Int)(w:World) :
  Calls Tryz.prog 172 #[.int .u8 x] w fun e w'=>e =.returned (.bool (eb x))/\w=w':=by
 go_enter Tryz.func172,Tryz.ntmps172;go_wp2;go_ret;exact⟨rfl,rfl⟩
theorem eF (x y:Int)(h':0<=y/\y<=255)(w:World) :
  Calls Tryz.prog 171 #[.int .u8 x,.int .u8 y] w fun e w'=>e =.returned (.bool (dN x y))/\w=w':=by
 go_enter Tryz.func171,Tryz.ntmps171;go_wp2_with (go_at_call 172;refine(ii _ _).mono ?_;rintro e w' ⟨rfl,rfl⟩)
 all_goals go_ret
 all_goals refine⟨iZ ?_,rfl⟩
 all_goals (simp_all [dN] <;> omega)
def xu (w:World):Prop:= ∀i,i<16->w.cell? ⟨7,i,none⟩=some (.int .i8 (fj.getD i 0))
theorem ie (x:Int)(h:0<=x/\x<=255)(w:World)(hL:xu w) :
  Calls Tryz.prog 170 #[.int .u8 x] w fun e w'=>e =.returned (.int .i64 (bl x))/\w=w':=by
 by_cases h1:x=192\/x=193\/244<x
 ·have hc:bl x = -1:=by simp[bl,h1]
  rw[hc];clear hc;go_enter Tryz.func170,Tryz.ntmps170;rcases h1 with rfl|rfl|h1
  ·go_wp2;go_ret;exact⟨rfl,rfl⟩
  ·go_wp2;go_ret;exact⟨rfl,rfl⟩
  ·have e1:(x==192)=false:=by simp;omega
   have e2:(x==193)=false:=by simp;omega
   go_wp2;go_ret;exact⟨rfl,rfl⟩
 ·have hc:bl x=fj.getD (x/16).toNat 0:=by simp[bl,h1]
  rw[hc];clear hc;have hc:=hL (x/16).toNat (by omega);clear hL;have hb:∃q:Int,-1<=q/\q<=4/\fj.getD (x/16).toNat 0=q:=⟨_,(qv _).1,(qv _).2,rfl⟩;obtain⟨q,q1,q2,hq⟩:=hb;rw[hq] at hc ⊢;clear hq;have e1:(x==192)=false:=by simp;omega
  have e2:(x==193)=false:=by simp;omega
  have e3:¬244<x:=by omega
  clear h1;go_enter Tryz.func170,Tryz.ntmps170;go_wp2;go_ret;exact⟨rfl,rfl⟩
def nO (U E:Value)(c:Nat):Value:=if c=0 then .nilIface else if c=1 then E else U
def rc (U E:Value)(r:Nat×Nat×Nat):Value:=.tuple #[.int .i32 r.1,.int .i64 r.2.1,nO U E r.2.2]
theorem sT (n:Nat)(xs:List UInt8)(hn:2<=n)(a2:n<=4):∀k,k<=n->eu n xs k<2097152/\(k<n->eu n xs k<32768):=by
 have b0:=aK xs 0;have b1:=aK xs 1;have b2:=aK xs 2;have b3:=aK xs 3;intro k hk;have a1:k=0\/k=1\/k=2\/k=3\/k=4:=by omega
 have a0:n=2\/n=3\/n=4:=by omega
 rcases a0 with rfl|rfl|rfl <;> rcases a1 with rfl|rfl|rfl|rfl|rfl <;> simp[eu,cQ] <;> omega
def gB (U E:Value)(w:World)(R:Nat×Nat×Nat)(e:Ending)(w':World):Prop:=e =.returned (rc U E R)/\∃m,w'=w.drewN m
def iF (xs:List UInt8)(n:Nat)(R:Nat×Nat×Nat)(w:World)(cc i:Value)(wr:World):Prop:=
 ∃f k:Nat,k+f=n/\1<=k/\k<=xs.length/\i =.int .i64 k/\cc =.int .i32 (eu n xs k)/\aG xs n f k=R/\∃m,wr=w.drewN m
theorem IU:∀x:Nat,x<256->bits .and .i32 (x:Int) 31= ((x % 32:Nat):Int):=by decide +kernel
theorem FW:∀x:Nat,x<256->bits .and .i32 (x:Int) 15= ((x % 16:Nat):Int):=by decide +kernel
theorem JC:∀x:Nat,x<256->bits .and .i32 (x:Int) 7= ((x % 8:Nat):Int):=by decide +kernel
theorem xw (x:Nat)(h:x<256):((cQ 2 x:Nat):Int)=bits .and .i32 (x:Int) 31:=by rw[IU x h];rfl
theorem yg (x:Nat)(h:x<256):((cQ 3 x:Nat):Int)=bits .and .i32 (x:Int) 15:=by rw[FW x h];rfl
theorem yS (x:Nat)(h:x<256):((cQ 4 x:Nat):Int)=bits .and .i32 (x:Int) 7:=by rw[JC x h];rfl
theorem im {f k y:Nat}{R:Nat×Nat×Nat}{v:Int}(hq:eu n xs k=q)(hy:ap xs k=y)(hk:1<=k)(hf:k+ (f+1)=n)
  (hlt:k<xs.length) (hR:aG xs n (f+1) k=R) (a0:pE xs k=true) (hv:v= (k:Int)+1) :
  iF xs n R w (.int .i32 ((q:Int)*64+ (y:Int) % 64)) (.int .i64 v) (w.drewN m):=by
 refine⟨f,k+1,by omega,by omega,by omega,by rw[hv];rfl,?_,?_,m,rfl⟩
 ·obtain⟨j,rfl⟩:∃j,k=j+1:=⟨k - 1,by omega⟩;rw[eu,hq,hy];congr 1
 ·rw[<-hR,aG,if_neg (by omega),if_pos a0]
theorem eT {f k:Nat}{R:Nat×Nat×Nat}(hlt:k<xs.length)(hR:aG xs n (f+1) k=R)(a0:pE xs k=false):(0,0,2)=R:=by
 rw[<-hR,aG,if_neg (by omega),a0];rfl
theorem Cr (b o c len:Nat)(xs:List UInt8)(w:World)(hlen:xs.length=len)(h2:1<=len)(hm:len<=9223372036854775807)
  (hc:∀i,i<len->w.cell? ⟨b,o+i,none⟩=some (.int .u8 (ap xs i))) (U E:Value) (hU:w.cell? ⟨5,0,none⟩=some U) (hE:w.cell? ⟨4,0,none⟩=some E) (hL:xu w) (hn:bl (ap xs 0)=2) :
  Calls Tryz.prog 129 #[.slice (some ⟨b,o,none⟩) len c] w (gB U E w (aG xs 2 1 1)):=by
 have a5:=sT 2 xs (by omega) (by omega);have h0:=hc 0 (by omega);rw[Nat.add_zero] at h0;have hx:=aK xs 0;have a3:eu 2 xs 1=cQ 2 (ap xs 0):=rfl;have a0:iF xs 2 (aG xs 2 1 1) w (.int .i32 (eu 2 xs 1)) (.int .i64 1) w:=
  ⟨1,1,by omega,by omega,by omega,rfl,rfl,rfl,0,rfl⟩
 rw[a3] at a0;generalize aG xs 2 1 1=R at *;generalize hx0:ap xs 0=x0 at *;have Hc:=Qa hc;have Hn:=Qa hn;have a9:=Qa a5;have Hs:=Qa a0;have a1:=Qa hlen;have b1:=Qa hx0;clear hc hn hlen a5 a3 a0 hx0;have HL:=Qa hL;clear hL;have b2:((len:Int)==0)=false:=by simp;omega
 go_enter Tryz.func129,Tryz.ntmps129;go_wp2_with (go_at_call 170;refine(ie _ (by omega) _ HL.out).mono ?_;rintro e w' ⟨rfl,rfl⟩;rw[Hn.out])
 go_loopw [6,7] (iF xs 2 R w) (fun _ i _=>2 - (intOf i).toNat)
 case atStart=>exact xw x0 hx▸Hs.out
 case round=>
  obtain⟨f,k,hf,a6,b4,rfl,rfl,hR,m,rfl⟩:=hrel
  cases f with
  |zero=>
   obtain rfl:k=2:=by omega
   generalize hq:eu 2 xs 2=q at *;have HR:=Qa (show(q,2,0)=R by rw[<-hR,<-hq];rfl);clear hR hq;go_wp2;go_ret3;exact⟨by rw[<-HR.out];rfl,m,rfl⟩
  |succ f=>
   have b7:k<2:=by omega
   by_cases hkl:k=len
   ·have HR:=Qa (show(0,0,1)=R by rw[<-hR,aG,if_pos (by rw[a1.out];exact hkl)]);clear hR;generalize eu 2 xs k=q at *;subst hkl;go_wp2;go_quiet (fail)
    all_goals (go_wp2;go_ret3)
    exact⟨by rw[<-HR.out];rfl,_,World.drewN_drewN _ _ _⟩
   ·have a2:k<len:=by have:=a1.out;omega
    have b0:((k:Int)==len)=false:=by simp;omega
    have hq:=(a9.out k (by omega)).2 (by omega);have a7:=Hc.out k a2;have b6:=aK xs k;have Hf:=Qa hf;generalize hqq:eu 2 xs k=q at *;have Hq:=Qa hqq;clear hqq hf;generalize hyy:ap xs k=y at *;have Hy:=Qa hyy;clear hyy;have HR:=Qa hR;clear hR;have hp:0<len:=by omega
    have b3:(0:Int)<len:=by omega
    by_cases a6:k=1
    ·subst a6;have b5:(1:Int)<len:=by omega
     have a4:=Qa (k7 b1.out Hy.out)
     by_cases hs:dN x0 y=true
     ·go_wp2;go_quiet ((go_at_call 171;exact cP (eF _ _ (by omega) _)));go_wp2_with (go_at_call 172;refine(ii _ _).mono ?_;rintro e w' ⟨rfl,rfl⟩)
      ·have ht:(!eb y)=true:=by assumption
       go_quiet (fail)
       all_goals (go_wp2;go_ret3)
       exact⟨by rw[<-eT (by rw[a1.out];exact a2) HR.out (by rw[a4.out,hs];simpa using ht)];rfl,_,World.drewN_drewN _ _ _⟩
      ·have ht:(!eb y)=false:=by assumption
       exact⟨im Hq.out Hy.out (by omega) Hf.out (by rw[a1.out];exact a2) HR.out (by rw[a4.out,hs];simpa using ht) (by omega),by simp[intOf]⟩
     ·have hs':dN x0 y=false:=by simpa using hs
      clear hs;go_wp2;go_quiet ((go_at_call 171;exact cP (eF _ _ (by omega) _)));go_wp2;go_quiet (fail)
      all_goals (go_wp2;go_ret3)
      exact⟨by rw[<-eT (by rw[a1.out];exact a2) HR.out (by rw[a4.out,hs'];rfl)];rfl,_,(congrArg (fun W:World=>W.drewN _) (World.drewN_drewN ..)).trans (World.drewN_drewN ..)⟩
    ·exfalso;omega
theorem CK (b o c len:Nat)(xs:List UInt8)(w:World)(hlen:xs.length=len)(h2:1<=len)(hm:len<=9223372036854775807)
  (hc:∀i,i<len->w.cell? ⟨b,o+i,none⟩=some (.int .u8 (ap xs i))) (U E:Value) (hU:w.cell? ⟨5,0,none⟩=some U) (hE:w.cell? ⟨4,0,none⟩=some E) (hL:xu w) (hn:bl (ap xs 0)=3) :
  Calls Tryz.prog 129 #[.slice (some ⟨b,o,none⟩) len c] w (gB U E w (aG xs 3 2 1)):=by
 have a6:=sT 3 xs (by omega) (by omega);have h0:=hc 0 (by omega);rw[Nat.add_zero] at h0;have hx:=aK xs 0;have a4:eu 3 xs 1=cQ 3 (ap xs 0):=rfl;have a1:iF xs 3 (aG xs 3 2 1) w (.int .i32 (eu 3 xs 1)) (.int .i64 1) w:=
  ⟨2,1,by omega,by omega,by omega,rfl,rfl,rfl,0,rfl⟩
 rw[a4] at a1;generalize aG xs 3 2 1=R at *;generalize hx0:ap xs 0=x0 at *;have Hc:=Qa hc;have Hn:=Qa hn;have a9:=Qa a6;have Hs:=Qa a1;have a0:=Qa hlen;have b1:=Qa hx0;clear hc hn hlen a6 a4 a1 hx0;have HL:=Qa hL;clear hL;have b3:((len:Int)==0)=false:=by simp;omega
 go_enter Tryz.func129,Tryz.ntmps129;go_wp2_with (go_at_call 170;refine(ie _ (by omega) _ HL.out).mono ?_;rintro e w' ⟨rfl,rfl⟩;rw[Hn.out])
 go_loopw [6,7] (iF xs 3 R w) (fun _ i _=>3 - (intOf i).toNat)
 case atStart=>exact yg x0 hx▸Hs.out
 case round=>
  obtain⟨f,k,hf,a5,b5,rfl,rfl,hR,m,rfl⟩:=hrel
  cases f with
  |zero=>
   obtain rfl:k=3:=by omega
   generalize hq:eu 3 xs 3=q at *;have HR:=Qa (show(q,3,0)=R by rw[<-hR,<-hq];rfl);clear hR hq;go_wp2;go_ret3;exact⟨by rw[<-HR.out];rfl,m,rfl⟩
  |succ f=>
   have b8:k<3:=by omega
   by_cases hkl:k=len
   ·have HR:=Qa (show(0,0,1)=R by rw[<-hR,aG,if_pos (by rw[a0.out];exact hkl)]);clear hR;generalize eu 3 xs k=q at *;subst hkl;go_wp2;go_quiet (fail)
    all_goals (go_wp2;go_ret3)
    exact⟨by rw[<-HR.out];rfl,_,World.drewN_drewN _ _ _⟩
   ·have a2:k<len:=by have:=a0.out;omega
    have b0:((k:Int)==len)=false:=by simp;omega
    have hq:=(a9.out k (by omega)).2 (by omega);have a7:=Hc.out k a2;have b7:=aK xs k;have Hf:=Qa hf;generalize hqq:eu 3 xs k=q at *;have Hq:=Qa hqq;clear hqq hf;generalize hyy:ap xs k=y at *;have Hy:=Qa hyy;clear hyy;have HR:=Qa hR;clear hR;have hp:0<len:=by omega
    have b4:(0:Int)<len:=by omega
    by_cases a5:k=1
    ·subst a5;have b6:(1:Int)<len:=by omega
     have a3:=Qa (k7 b1.out Hy.out)
     by_cases hs:dN x0 y=true
     ·go_wp2;go_quiet ((go_at_call 171;exact cP (eF _ _ (by omega) _)));go_wp2_with (go_at_call 172;refine(ii _ _).mono ?_;rintro e w' ⟨rfl,rfl⟩)
      ·have ht:(!eb y)=true:=by assumption
       go_quiet (fail)
       all_goals (go_wp2;go_ret3)
       exact⟨by rw[<-eT (by rw[a0.out];exact a2) HR.out (by rw[a3.out,hs];simpa using ht)];rfl,_,World.drewN_drewN _ _ _⟩
      ·have ht:(!eb y)=false:=by assumption
       exact⟨im Hq.out Hy.out (by omega) Hf.out (by rw[a0.out];exact a2) HR.out (by rw[a3.out,hs];simpa using ht) (by omega),by simp[intOf]⟩
     ·have hs':dN x0 y=false:=by simpa using hs
      clear hs;go_wp2;go_quiet ((go_at_call 171;exact cP (eF _ _ (by omega) _)));go_wp2;go_quiet (fail)
      all_goals (go_wp2;go_ret3)
      exact⟨by rw[<-eT (by rw[a0.out];exact a2) HR.out (by rw[a3.out,hs'];rfl)];rfl,_,(congrArg (fun W:World=>W.drewN _) (World.drewN_drewN ..)).trans (World.drewN_drewN ..)⟩
    ·have b2:((k:Int)==1)=false:=by simp;omega
     have a3:=Qa (jJ a5 Hy.out);go_wp2;go_quiet (fail);go_wp2_with (go_at_call 172;refine(ii _ _).mono ?_;rintro e w' ⟨rfl,rfl⟩)
     ·have ht:(!eb y)=true:=by assumption
      go_quiet (fail)
      all_goals (go_wp2;go_ret3)
      exact⟨by rw[<-eT (by rw[a0.out];exact a2) HR.out (by rw[a3.out];simpa using ht)];rfl,_,World.drewN_drewN _ _ _⟩
     ·have ht:(!eb y)=false:=by assumption
      exact⟨im Hq.out Hy.out (by omega) Hf.out (by rw[a0.out];exact a2) HR.out (by rw[a3.out];simpa using ht) (by omega),by simp[intOf];omega⟩
theorem DP (b o c len:Nat)(xs:List UInt8)(w:World)(hlen:xs.length=len)(h2:1<=len)(hm:len<=9223372036854775807)
  (hc:∀i,i<len->w.cell? ⟨b,o+i,none⟩=some (.int .u8 (ap xs i))) (U E:Value) (hU:w.cell? ⟨5,0,none⟩=some U) (hE:w.cell? ⟨4,0,none⟩=some E) (hL:xu w) (hn:bl (ap xs 0)=4) :
  Calls Tryz.prog 129 #[.slice (some ⟨b,o,none⟩) len c] w (gB U E w (aG xs 4 3 1)):=by
 have a6:=sT 4 xs (by omega) (by omega);have h0:=hc 0 (by omega);rw[Nat.add_zero] at h0;have hx:=aK xs 0;have a4:eu 4 xs 1=cQ 4 (ap xs 0):=rfl;have a1:iF xs 4 (aG xs 4 3 1) w (.int .i32 (eu 4 xs 1)) (.int .i64 1) w:=
  ⟨3,1,by omega,by omega,by omega,rfl,rfl,rfl,0,rfl⟩
 rw[a4] at a1;generalize aG xs 4 3 1=R at *;generalize hx0:ap xs 0=x0 at *;have Hc:=Qa hc;have Hn:=Qa hn;have a9:=Qa a6;have Hs:=Qa a1;have a0:=Qa hlen;have b1:=Qa hx0;clear hc hn hlen a6 a4 a1 hx0;have HL:=Qa hL;clear hL;have b3:((len:Int)==0)=false:=by simp;omega
 go_enter Tryz.func129,Tryz.ntmps129;go_wp2_with (go_at_call 170;refine(ie _ (by omega) _ HL.out).mono ?_;rintro e w' ⟨rfl,rfl⟩;rw[Hn.out])
 go_loopw [6,7] (iF xs 4 R w) (fun _ i _=>4 - (intOf i).toNat)
 case atStart=>exact yS x0 hx▸Hs.out
 case round=>
  obtain⟨f,k,hf,a5,b5,rfl,rfl,hR,m,rfl⟩:=hrel
  cases f with
  |zero=>
   obtain rfl:k=4:=by omega
   generalize hq:eu 4 xs 4=q at *;have HR:=Qa (show(q,4,0)=R by rw[<-hR,<-hq];rfl);clear hR hq;go_wp2;go_ret3;exact⟨by rw[<-HR.out];rfl,m,rfl⟩
  |succ f=>
   have b8:k<4:=by omega
   by_cases hkl:k=len
   ·have HR:=Qa (show(0,0,1)=R by rw[<-hR,aG,if_pos (by rw[a0.out];exact hkl)]);clear hR;generalize eu 4 xs k=q at *;subst hkl;go_wp2;go_quiet (fail)
    all_goals (go_wp2;go_ret3)
    exact⟨by rw[<-HR.out];rfl,_,World.drewN_drewN _ _ _⟩
   ·have a2:k<len:=by have:=a0.out;omega
    have b0:((k:Int)==len)=false:=by simp;omega
    have hq:=(a9.out k (by omega)).2 (by omega);have a7:=Hc.out k a2;have b7:=aK xs k;have Hf:=Qa hf;generalize hqq:eu 4 xs k=q at *;have Hq:=Qa hqq;clear hqq hf;generalize hyy:ap xs k=y at *;have Hy:=Qa hyy;clear hyy;have HR:=Qa hR;clear hR;have hp:0<len:=by omega
    have b4:(0:Int)<len:=by omega
    by_cases a5:k=1
    ·subst a5;have b6:(1:Int)<len:=by omega
     have a3:=Qa (k7 b1.out Hy.out)
     by_cases hs:dN x0 y=true
     ·go_wp2;go_quiet ((go_at_call 171;exact cP (eF _ _ (by omega) _)));go_wp2_with (go_at_call 172;refine(ii _ _).mono ?_;rintro e w' ⟨rfl,rfl⟩)
      ·have ht:(!eb y)=true:=by assumption
       go_quiet (fail)
       all_goals (go_wp2;go_ret3)
       exact⟨by rw[<-eT (by rw[a0.out];exact a2) HR.out (by rw[a3.out,hs];simpa using ht)];rfl,_,World.drewN_drewN _ _ _⟩
      ·have ht:(!eb y)=false:=by assumption
       exact⟨im Hq.out Hy.out (by omega) Hf.out (by rw[a0.out];exact a2) HR.out (by rw[a3.out,hs];simpa using ht) (by omega),by simp[intOf]⟩
     ·have hs':dN x0 y=false:=by simpa using hs
      clear hs;go_wp2;go_quiet ((go_at_call 171;exact cP (eF _ _ (by omega) _)));go_wp2;go_quiet (fail)
      all_goals (go_wp2;go_ret3)
      exact⟨by rw[<-eT (by rw[a0.out];exact a2) HR.out (by rw[a3.out,hs'];rfl)];rfl,_,(congrArg (fun W:World=>W.drewN _) (World.drewN_drewN ..)).trans (World.drewN_drewN ..)⟩
    ·have b2:((k:Int)==1)=false:=by simp;omega
     have a3:=Qa (jJ a5 Hy.out);go_wp2;go_quiet (fail);go_wp2_with (go_at_call 172;refine(ii _ _).mono ?_;rintro e w' ⟨rfl,rfl⟩)
     ·have ht:(!eb y)=true:=by assumption
      go_quiet (fail)
      all_goals (go_wp2;go_ret3)
      exact⟨by rw[<-eT (by rw[a0.out];exact a2) HR.out (by rw[a3.out];simpa using ht)];rfl,_,World.drewN_drewN _ _ _⟩
     ·have ht:(!eb y)=false:=by assumption
      exact⟨im Hq.out Hy.out (by omega) Hf.out (by rw[a0.out];exact a2) HR.out (by rw[a3.out];simpa using ht) (by omega),by simp[intOf];omega⟩
theorem CE (b o c len:Nat)(w:World)(h2:1<=len)(hm:len<=9223372036854775807)(x:Nat)(hx:x<256)
  (h0:w.cell? ⟨b,o,none⟩=some (.int .u8 x)) (U E:Value) (hL:xu w) (hn:bl x=1) :
  Calls Tryz.prog 129 #[.slice (some ⟨b,o,none⟩) len c] w (gB U E w (x,1,0)):=by
 have Hn:=Qa hn;have HL:=Qa hL;clear hL hn;have a0:((len:Int)==0)=false:=by simp;omega
 go_enter Tryz.func129,Tryz.ntmps129;go_wp2_with (go_at_call 170;refine(ie _ (by omega) _ HL.out).mono ?_;rintro e w' ⟨rfl,rfl⟩;rw[Hn.out])
 go_loopw [6,7] (fun cc i wr=>i =.int .i64 1/\cc =.int .i32 x/\w=wr) (fun _ i _=>1 - (intOf i).toNat)
 case atStart=>exact⟨rfl,rfl,rfl⟩
 case round=>
  obtain⟨rfl,rfl,rfl⟩:=hrel;go_wp2;go_ret3;exact⟨rfl,0,rfl⟩
theorem DU (b o c len:Nat)(w:World)(h2:1<=len)(hm:len<=9223372036854775807)(x:Nat)(hx:x<256)
  (h0:w.cell? ⟨b,o,none⟩=some (.int .u8 x)) (U E:Value) (hU:w.cell? ⟨5,0,none⟩=some U) (hL:xu w) (n:Int) (a0:n<1) (hn:bl x=n) :
  Calls Tryz.prog 129 #[.slice (some ⟨b,o,none⟩) len c] w (gB U E w (0,0,2)):=by
 have Hn:=Qa hn;have HL:=Qa hL;clear hL hn;have a1:((len:Int)==0)=false:=by simp;omega
 go_enter Tryz.func129,Tryz.ntmps129;go_wp2_with (go_at_call 170;refine(ie _ (by omega) _ HL.out).mono ?_;rintro e w' ⟨rfl,rfl⟩;rw[Hn.out]);go_quiet (fail)
 all_goals (go_wp2;go_ret3)
 exact⟨rfl,_,rfl⟩
theorem yo (A:Option Addr)(c:Nat)(w:World)(U E:Value)(hE:w.cell? ⟨4,0,none⟩=some E) :
  Calls Tryz.prog 129 #[.slice A 0 c] w (gB U E w (0,0,1)):=by
 go_enter Tryz.func129,Tryz.ntmps129;go_wp2;go_quiet (fail)
 all_goals (go_wp2;go_ret3)
 exact⟨rfl,_,rfl⟩
abbrev co (a:Addr):Value:=.iface 427 (.pointer (some a))
structure cR (w:World) (aU aE:Addr):Prop where
 u:w.cell? ⟨5,0,none⟩=some (co aU)
 e:w.cell? ⟨4,0,none⟩=some (co aE)
 l:xu w
 hu:∃cs t,w.heap[aU.block]?=some (.cells cs t (0,0))
 he:∃cs t,w.heap[aE.block]?=some (.cells cs t (0,0))
 ne:aU≠aE
theorem cR.below (h:cR w aU aE)(hb:Below w.heap.size w w'):cR w' aU aE:=by
 obtain⟨c1,t1,h1⟩:=h.hu;obtain⟨c2,t2,h2⟩:=h.he;exact⟨Zf hb h.u,Zf hb h.e,fun i hi=>Zf hb (h.l i hi),
  ⟨c1,t1,(hb.block _ (ae h1)).trans h1⟩,⟨c2,t2,(hb.block _ (ae h2)).trans h2⟩,h.ne⟩
theorem cR.drewN (h:cR w aU aE)(m:Nat):cR (w.drewN m) aU aE:=⟨h.u,h.e,h.l,h.hu,h.he,h.ne⟩
theorem iC (hb:Bs w v xs)(hg:cR w aU aE) :
  Calls Tryz.prog 129 #[v] w (gB (co aU) (co aE) w (bF xs)):=by
 obtain⟨hm,A,c,rfl,hc,a0⟩:=hb
 by_cases h0:xs.length=0
 ·obtain rfl:xs = []:=List.eq_nil_of_length_eq_zero h0;exact yo A c w (co aU) (co aE) hg.e
 ·obtain⟨b,o,rfl,a1⟩:=a0 (by omega);have hx:=aK xs 0;have h1:=a1 0 (by omega);rw[Nat.add_zero] at h1;rcases fw _ hx with hn|hn|hn|hn|hn
  ·rw[C7 (by omega) hn];exact DU b o c xs.length w (by omega) hm _ hx h1 (co aU) (co aE) hg.u hg.l _ hn rfl
  ·rw[lZ (n:=1) (by omega) (by omega) hn];have:=CE b o c xs.length w (by omega) hm _ hx h1 (co aU) (co aE) hg.l hn;simpa [aG,eu,cQ] using this
  ·rw[lZ (n:=2) (by omega) (by omega) hn];exact Cr b o c xs.length xs w rfl (by omega) hm a1 (co aU) (co aE) hg.u hg.e hg.l hn
  ·rw[lZ (n:=3) (by omega) (by omega) hn];exact CK b o c xs.length xs w rfl (by omega) hm a1 (co aU) (co aE) hg.u hg.e hg.l hn
  ·rw[lZ (n:=4) (by omega) (by omega) hn];exact DP b o c xs.length xs w rfl (by omega) hm a1 (co aU) (co aE) hg.u hg.e hg.l hn
attribute [local go_sem] Oper.semAt_some
theorem Cl (U E:Value)(a b:Nat):rc U E (a,b,0) =.tuple #[.int .i32 a,.int .i64 b,.nilIface]:=rfl
theorem xK (U E:Value)(a b:Nat):rc U E (a,b,1) =.tuple #[.int .i32 a,.int .i64 b,E]:=rfl
theorem yM (U E:Value)(a b:Nat):rc U E (a,b,2) =.tuple #[.int .i32 a,.int .i64 b,U]:=rfl
def zB (c:Int):Int:=bits .or .u8 128 (bits .and .i32 c 63 % 256)
theorem ya:∀n:Int,0<=n->n<2 ^ 31->IntKind.i32.wrap n=n:=by
 intro n h0 h1;have e:(2:Int) ^ 31=2147483648:=rfl;rw[e] at h1;rw[IntKind.wrap_i32];omega
theorem lB (c:Int)(h0:0<=c)(h1:c<2147483648):zB c=128+c % 64:=by
 unfold zB;rw[show bits .and .i32 c 63=c % 64 from bits_mask .i32 31 (by decide) ya 6 (by decide) c h0 (by simpa using h1)];rw[show c % 64 % 256=c % 64 by omega];exact u8_or128 (c % 64) (by omega) (by omega)
theorem J8 (c:Int)(h:0<=c/\c<128):bits .or .u8 0 c=c:=by
 have hd:∀x:Nat,x<128->bits .or .u8 0 (x:Int)=x:=by decide +kernel
 have:=hd c.toNat (by omega)
 rwa[show((c.toNat:Nat):Int)=c by omega] at this
def lw (a b c d:Int):Value:=.agg #[.int .u8 a,.int .u8 b,.int .u8 c,.int .u8 d]
def lx (w:World)(v:Value)(n:Int)(e:Ending)(w':World):Prop:=e =.returned (.tuple #[v,.int .i64 n])/\Below w.heap.size w w'
theorem HW (c:Int)(w:World)(h:65536<=c/\c<=1114111) :
  Calls Tryz.prog 143 #[.int .i32 c] w fun e w'=>lx w (lw (240+c/64/64/64) (zB (c/64/64)) (zB (c/64)) (zB c)) 4 e w':=by
 go_enter Tryz.func143,Tryz.ntmps143;go_wp2;exact Zg (by simp[results,Tryz.results143,go_sem];rfl) rfl ⟨rfl,((Zd _ _).alloc (Za _) _).alloc (by simp) _⟩
theorem Gh (c:Int)(w:World)(h:2048<=c/\c<65536)(h':¬ (55296<=c/\c<=57343)) :
  Calls Tryz.prog 143 #[.int .i32 c] w fun e w'=>lx w (lw (224+c/64/64) (zB (c/64)) (zB c) 0) 3 e w':=by
 have a0:c<55296\/57343<c:=by omega
 clear h';go_enter Tryz.func143,Tryz.ntmps143;rcases a0 with a0|a0
 all_goals
  go_wp2;exact Zg (by simp[results,Tryz.results143,go_sem];rfl) rfl ⟨rfl,((Zd _ _).alloc (Za _) _).alloc (by simp) _⟩
theorem G8 (c:Int)(w:World)(h:128<=c/\c<2048) :
  Calls Tryz.prog 143 #[.int .i32 c] w fun e w'=>lx w (lw (192+c/64) (zB c) 0 0) 2 e w':=by
 go_enter Tryz.func143,Tryz.ntmps143;go_wp2;exact Zg (by simp[results,Tryz.results143,go_sem];rfl) rfl ⟨rfl,((Zd _ _).alloc (Za _) _).alloc (by simp) _⟩
theorem Gu (c:Int)(w:World)(h:0<=c/\c<128) :
  Calls Tryz.prog 143 #[.int .i32 c] w fun e w'=>lx w (lw (bits .or .u8 0 c) 0 0 0) 1 e w':=by
 go_enter Tryz.func143,Tryz.ntmps143;go_wp2;exact Zg (by simp[results,Tryz.results143,go_sem];rfl) rfl ⟨rfl,((Zd _ _).alloc (Za _) _).alloc (by simp) _⟩
theorem Gb (c:Int)(w:World)(h:c<0\/1114111<c\/(55296<=c/\c<=57343)) :
  Calls Tryz.prog 143 #[.int .i32 c] w (lx w (lw 0 0 0 0) 0):=by
 go_enter Tryz.func143,Tryz.ntmps143;rcases h with h|h|⟨h,h'⟩
 all_goals
  go_wp2;exact Zg (by simp[results,Tryz.results143,go_sem];rfl) rfl ⟨rfl,((Zd _ _).alloc (Za _) _).alloc (by simp) _⟩
theorem it {a b c d a' b' c' d':Int}(h1:a=a')(h2:b=b')(h3:c=c')(h4:d=d'):lw a b c d=lw a' b' c' d':=by rw[h1,h2,h3,h4]
def mM (c:Int):Value:=lw (ap (bG c) 0) (ap (bG c) 1) (ap (bG c) 2) (ap (bG c) 3)
theorem Dy (c:Int)(w:World):Calls Tryz.prog 143 #[.int .i32 c] w fun e w'=>lx w (mM c) (bG c).length e w':=by
 by_cases hr:dO c=true
 ·have a0:=hr;simp only[dO,Bool.and_eq_true,decide_eq_true_eq,Bool.not_eq_true',Bool.and_eq_false_iff,decide_eq_false_iff_not] at a0
  by_cases h1:c<128
  ·have e:bG c = [UInt8.ofNat c.toNat]:=by rw[bG,if_pos hr,if_pos h1]
   have:mM c=lw (bits .or .u8 0 c) 0 0 0:=by
    rw[J8 c (by omega)];unfold mM;rw[e];exact it (aI _ (by omega)) rfl rfl rfl
   rw[this,e];exact Gu c w (by omega)
  by_cases h2:c<2048
  ·have e:bG c = [UInt8.ofNat (192+c/64).toNat,UInt8.ofNat (128+c % 64).toNat]:=by rw[bG,if_pos hr,if_neg h1,if_pos h2]
   have:mM c=lw (192+c/64) (zB c) 0 0:=by
    unfold mM;rw[e];exact it (aI _ (by omega)) ((aI _ (by omega)).trans (lB _ (by omega) (by omega)).symm) rfl rfl
   rw[this,e];exact G8 c w (by omega)
  by_cases h3:c<65536
  ·have e:bG c = [UInt8.ofNat (224+c/4096).toNat,UInt8.ofNat (128+c/64 % 64).toNat,UInt8.ofNat (128+c % 64).toNat]:=by rw[bG,if_pos hr,if_neg h1,if_neg h2,if_pos h3]
   have:mM c=lw (224+c/64/64) (zB (c/64)) (zB c) 0:=by
    unfold mM;rw[e];exact it ((aI _ (by omega)).trans (by omega)) ((aI _ (by omega)).trans (lB _ (by omega) (by omega)).symm) ((aI _ (by omega)).trans (lB _ (by omega) (by omega)).symm) rfl
   rw[this,e];exact Gh c w (by omega) (by omega)
  ·have e:bG c = [UInt8.ofNat (240+c/262144).toNat,UInt8.ofNat (128+c/4096 % 64).toNat,UInt8.ofNat (128+c/64 % 64).toNat,UInt8.ofNat (128+c % 64).toNat]:=by rw[bG,if_pos hr,if_neg h1,if_neg h2,if_neg h3]
   have:mM c=lw (240+c/64/64/64) (zB (c/64/64)) (zB (c/64)) (zB c):=by
    unfold mM;rw[e];exact it ((aI _ (by omega)).trans (by omega)) ((aI _ (by omega)).trans ((lB _ (by omega) (by omega)).trans (by omega)).symm) ((aI _ (by omega)).trans (lB _ (by omega) (by omega)).symm) ((aI _ (by omega)).trans (lB _ (by omega) (by omega)).symm)
   rw[this,e];exact HW c w (by omega)
 ·have e:bG c = []:=by rw[bG,if_neg hr]
  have:mM c=lw 0 0 0 0:=by unfold mM;rw[e];rfl
  have a0:¬dO c=true:=hr;simp only[dO,Bool.and_eq_true,decide_eq_true_eq,Bool.not_eq_true',Bool.and_eq_false_iff,decide_eq_false_iff_not] at a0;rw[this,e];exact Gb c w (by omega)
def bQ (pre:List (Nat×Nat)):Int:=match pre.getLast? with|none=>0|some x=>wrap64 ((x.1:Int)+ (bG x.2).length)
theorem j8 (pre:List (Nat×Nat))(x:Nat×Nat):bQ (pre ++ [x])=wrap64 ((x.1:Int)+ (bG x.2).length):=by simp[bQ]
def wF (xs:List UInt8):Nat->Nat->Nat
 |0,k=>k
 |f+1,k=>if(bF (xs.drop k)).2.2=0 then wF xs f (k+ (bF (xs.drop k)).2.1) else k
def Ep (xs:List UInt8):Nat:=wF xs (xs.length+1) 0
theorem mA (xs:List UInt8)(hm:xs.length<=9223372036854775807):∀f k pre,k<=xs.length->bQ pre=k->bQ (pre++fV xs f k)=wF xs f k
 |0,k,pre,h,hp=>by simpa [fV,wF] using hp
 |f+1,k,pre,h,hp=>by
  unfold fV wF
  by_cases h0:(bF (xs.drop k)).2.2=0
  ·rw[if_pos h0,if_pos h0,List.append_cons];have hle:=gI xs k h;refine mA xs hm f _ _ hle ?_;rw[j8,(iL h0).1,List.length_take,List.length_drop];rw[show min (bF (xs.drop k)).2.1 (xs.length - k)= (bF (xs.drop k)).2.1 by omega];rw[IntWalk.wrap64_in _ ⟨by omega,by omega⟩];simp
  ·rw[if_neg h0,if_neg h0];simpa using hp
theorem kd (xs:List UInt8)(hm:xs.length<=9223372036854775807):bQ (eV xs)=Ep xs:=by
 have:=mA xs hm (xs.length+1) 0 [] (Zj _) rfl;simpa [eV,Ep] using this
def gv (B B2:Nat)(W W':World):Prop:= ∀k cs t z,(k<B\/B2<=k)->W.heap[k]?=some (.cells cs t z)->W'.heap[k]?=some (.cells cs t z)
theorem gv.t {Y Z:World}(h:gv B B2 X Y)(k:gv B B2 Y Z):gv B B2 X Z:=fun i cs t z hi hc=>k i cs t z hi (h i cs t z hi hc)
theorem gv.b (W:World)(l:Nat)(o o':Obj)(h:W.heap[l]?=some o)(ho:o.isCells=false):gv B B2 W (W.putObj l o'):=fun k cs t z _ hc=>by
 have:k≠l:=by rintro rfl;rw[h] at hc;cases hc;simp[Obj.isCells] at ho
 exact(World.putObj_heap_other this).trans hc
theorem gv.drewN (W:World)(m:Nat):gv B B2 W (W.drewN m):=fun _ _ _ _ _ h=>h
theorem gv.of_below (h:Below W.heap.size W W'):gv B B2 W W':=fun k cs t z _ hc=>(h.block k (ae hc)).trans hc
theorem rQ {a:Addr}(h:w.cell? a=some v):∃cs t z,w.heap[a.block]?=some (.cells cs t z):=by
 unfold World.cell? at h
 cases hh:w.heap[a.block]? with
 |none=>rw[hh] at h;simp at h
 |some o=>
  rw[hh] at h
  cases o with
  |cells cs t z=>exact⟨cs,t,z,rfl⟩
  |_=>simp at h
theorem gv.cell (h:gv B B2 W W'){a:Addr}(hc:W.cell? a=some v)(hb:a.block<B\/B2<=a.block):W'.cell? a=some v:=by
 obtain⟨cs,t,z,hh⟩:=rQ hc;rw[<-hc];exact World.cell?_of_block ((h _ cs t z hb hh).trans hh.symm)
theorem gv.glob (h:gv B B2 W W')(hg:cR W aU aE)(h2:5<B/\4<B/\7<B)(hU:aU.block<B)(hE:aE.block<B):cR W' aU aE:=by
 obtain⟨c1,t1,h1⟩:=hg.hu;obtain⟨c2,t2,h3⟩:=hg.he;exact⟨h.cell hg.u (.inl h2.1),h.cell hg.e (.inl h2.2.1),fun i hi=>h.cell (hg.l i hi) (.inl h2.2.2),⟨c1,t1,h _ _ _ _ (.inl hU) h1⟩,⟨c2,t2,h _ _ _ _ (.inl hE) h3⟩,hg.ne⟩
theorem vY (W:World)(s:ByteArray)(hs:s.size<=9223372036854775807):∃W2 cap cs z,(convert 9 22 (.string s)).run Tryz.prog W =.ok (.slice (some ⟨W.heap.size,0,none⟩) s.size cap) W2/\
  s.size<=cap/\W.grownBy W2 none/\W2.heap.size=W.heap.size+1/\W2.heap[W.heap.size]?=some (.cells cs 5 z)/\
  (∀X:World,X.heap[W.heap.size]?=some (.cells cs 5 z)->Bs X (.slice (some ⟨W.heap.size,0,none⟩) s.size cap) s.data.toList):=by
 refine⟨Lib.bytesWorld W 5 s,grownCap W s.size 0 5,Lib.bytesCells W 5 s,_,Lib.run_convert_string_bytes W 9 22 5 s Tryz.underlying9 Tryz.underlying22 Tryz.underlying5,grownCap_ge _ _ _ _,?_,Lib.bytesWorld_size _ _ _,Lib.bytesWorld_at_new _ _ _,?_⟩
 ·exact⟨rfl,rfl,rfl,by rw[Lib.bytesWorld_size];omega,fun k hk _=>Lib.bytesWorld_at_old _ _ _ _ hk⟩
 ·intro X hX;have hl:s.data.toList.length=s.size:=by simp
  refine⟨by omega,_,_,by rw[hl],by rw[hl];exact grownCap_ge _ _ _ _,fun _=>⟨_,0,rfl,fun i hi=>?_⟩⟩;rw[Nat.zero_add,World.cell?_of_block (w:=Lib.bytesWorld W 5 s) (hX.trans (Lib.bytesWorld_at_new W 5 s).symm)];exact Lib.bytesWorld_cell W 5 s i (by omega)
def Ez (xs:List UInt8)(J:List (Nat×Nat)->World->Prop)(G:World->Prop)(k:Nat)(wr:World):Prop:=
 ∃pre f,eV xs=pre++fV xs f k/\xs.length<f+k/\k<=xs.length/\J pre wr/\G wr
theorem D1 (n:Nat)(hn:1<=n)(l sb:Nat)(s:ByteArray)(B B2:Nat)(hsz:s.size<=9223372036854775807)(aU aE:Addr)(J Jx:List (Nat×Nat)->World->Prop)
  (W:World) (hB:B2<=W.heap.size) (h2:5<B/\4<B/\7<B) (hU:aU.block<B) (hE:aE.block<B) (hg:cR W aU aE)
  (hJ:AbidesFrom W.heap.size J) (d2:AbidesFrom W.heap.size Jx)
  (hY:∀pre (x:Nat×Nat) W1,J pre W1->pre.length< (eV s.data.toList).length->YieldAt Fence.wide (n - 1) Tryz.prog l #[.int .i64 (x.1:Int),.int .i32 (x.2:Int)] W1 fun e W'=>
   (e =.returned (.bool true)/\J (pre ++ [x]) W'/\gv B B2 W1 W')\/(e =.returned (.bool false)/\Jx (pre ++ [x]) W'))
  (hs:W.cell? ⟨sb,0,none⟩=some (.string s)) (h0:J [] W) :
  CallsIn Fence.wide n Tryz.prog 183 #[.func (.yield l) #[] #[],.pointer (some ⟨sb,0,none⟩)] W fun e W'=>(∃v,e =.returned v)/\
   ((∃ys,ys=eV s.data.toList/\J ys W')\/(∃pre,pre <+:eV s.data.toList/\Jx pre W')):=by
 obtain⟨W2,cap,cs,z,c2,c8,b6,a6,a9,b9⟩:=vY W s hsz;refine callsIn_of_wp Tryz.func183 rfl trivial ?_ rfl;simp only[Tryz.ntmps183,List.size_toArray,List.length_cons,List.length_nil,Nat.reduceAdd,Nat.reduceSub,Array.replicate_succ,Array.replicate_zero,List.push_toArray,List.append_toArray,List.nil_append,List.cons_append];have hl:s.data.toList.length=s.size:=by simp
 generalize s.data.toList=xs at *;have Hg:=Qa hg;have HJ:=Qa hJ;have HY:=Qa hY;have a4:=Qa b6;have c6:=Qa a6;have b4:=Qa a9;have c7:=Qa b9;have Hl:=Qa hl;have H0:=Qa h0;clear hg hJ hY b6 a6 a9 b9 hl h0;generalize hrb:W.heap.size=rb at *;have d4:=Qa hrb;clear hrb
 gi_wp2
 gi_loopw [4] (fun v wr=> ∃k:Nat,v =.int .i64 k/\Ez xs J (fun wr=>cR wr aU aE/\wr.heap[rb]?=some (.cells cs 5 z)) k wr) (fun v _=>s.size - (intOf v).toNat)
 case atStart=>
  refine⟨0,rfl, [],xs.length+1,rfl,by omega,Zj _,?_,?_,b4.out⟩
  ·exact HJ.out _ _ _ none H0.out a4.out (fun r e=>by cases e)
  ·exact Hg.out.below ⟨a4.out.os,a4.out.tape,a4.out.output,a4.out.size,fun k hk=>a4.out.block k hk (by simp)⟩
 case round=>
  obtain⟨k,rfl,pre,f,he,hf,hk,b8,hG,hR⟩:=hrel;have d3:k<=s.size:=by rw[<-Hl.out];exact hk
  have Hf:=Qa hf;have He:=Qa he;have HG:=Qa hG;have HR:=Qa hR;have a5:=Qa b8;have Hk:=Qa hk;clear hf he hG hR b8 hk;have a3:Bs wr (.slice (some ⟨rb,0,none⟩) xs.length cap) xs:=by rw[Hl.out];exact c7.out wr HR.out
  have hle:=gI xs k Hk.out;have a2:=(nV (xs.drop k)).2;have hcut:∀A c',cap=k\/(A=some ⟨rb,k,none⟩/\c'=cap - k)->Calls Tryz.prog 129 #[.slice A (s.size - k) c'] wr fun e w'=>gB (co aU) (co aE) wr (bF (xs.drop k)) e w':=by
   intro A c' h;refine iC ?_ HG.out;rcases h with d0|⟨rfl,rfl⟩
   ·have h0:s.size - k=0:=by omega
    have:xs.drop k = []:=List.drop_eq_nil_of_le (by rw[Hl.out];omega);rw[this,h0];exact⟨by simp,_,_,rfl,Zj _,fun h=>by simp at h⟩
   ·have:=a3.cut Hk.out
    rwa[Hl.out,Nat.zero_add] at this
  have b0:=Qa hcut;clear hcut a3;have a7:∀e:(bF (xs.drop k)).2.2≠0,eV xs=pre:=fun e=>by rw[He.out,yl e,List.append_nil]
  have b7:∀e:(bF (xs.drop k)).2.2=0,1<=(bF (xs.drop k)).2.1/\∃f',xs.length<f'+ (k+ (bF (xs.drop k)).2.1)/\eV xs=pre++ (k,(bF (xs.drop k)).1)::fV xs f' (k+ (bF (xs.drop k)).2.1):=fun e=>by
   have hp:=eO e;have h1:=Hf.out;have h2:=Hk.out;obtain⟨f',rfl⟩:∃f',f=f'+1:=⟨f - 1,by omega⟩;exact⟨hp,f',by omega,by rw[He.out,xg e]⟩
  have a1:=Qa a7;have b3:=Qa b7;clear a7 b7;generalize bF (xs.drop k)=r at *;obtain⟨r1,r2,r3⟩:=r;have b1:k+r2<=s.size:=by rw[<-Hl.out];exact hle
  clear hle;have a0:r3=0\/r3=1\/r3=2:=by have:r3<=2:=a2;omega
  clear a2;have hp:pre.length< (eV xs).length\/r3≠0:=by
   by_cases h:r3=0
   ·obtain⟨_,f',_,h'⟩:=b3.out h
    left;rw[h'];simp
   ·exact .inr h
  have Hp:=Qa hp;clear hp
  gi_wp2_with fail
  all_goals
   refine⟨trivial,?_⟩;refine(callsIn_wide.2 (b0.out _ _ (by first|exact .inl (by assumption)|exact .inr ⟨rfl,rfl⟩))).mono ?_;rintro e w' ⟨rfl,m,rfl⟩
  ·rcases a0 with rfl|rfl|rfl
   ·exfalso;have:=(b3.out rfl).1;omega
   ·rw[xK]
    gi_wp2
    refine⟨fun _ h=>(by cases h),?_⟩
    gi_wp2
    refine Zg (results_none rfl ..) rfl ?_;exact⟨⟨_,rfl⟩,.inl ⟨_,rfl,by rw[a1.out (by simp)];exact HJ.out _ _ _ none a5.out ⟨rfl,rfl,rfl,Za _,fun _ _ _=>rfl⟩ (fun r e=>by cases e)⟩⟩
   ·rw[yM]
    gi_wp2
    refine⟨fun _ h=>(by cases h),?_⟩
    gi_wp2
    refine Zg (results_none rfl ..) rfl ?_;exact⟨⟨_,rfl⟩,.inl ⟨_,rfl,by rw[a1.out (by simp)];exact HJ.out _ _ _ none a5.out ⟨rfl,rfl,rfl,Za _,fun _ _ _=>rfl⟩ (fun r e=>by cases e)⟩⟩
  ·rcases a0 with rfl|rfl|rfl
   ·rw[Cl];obtain⟨d1,f',c1,c0⟩:=b3.out rfl;have c4:=Qa c1;have c3:=Qa c0;clear c1 c0;obtain⟨fn,tmps,assign,body,hy,c5⟩:=HY.out pre (k,r1) (wr.drewN m) (HJ.out _ _ _ none a5.out ⟨rfl,rfl,rfl,Za _,fun _ _ _=>rfl⟩ (fun r e=>by cases e)) (Hp.out.resolve_right (fun h=>h rfl))
    dsimp only at hy
    gi_wp2
    refine c5.mono ?_;rintro e W3 (⟨rfl,c9,b5⟩|⟨rfl,b2⟩)
    ·gi_wp2
     exact⟨⟨k+r2,by go_num,pre ++ [(k,r1)],f',by rw[c3.out,List.append_cons],c4.out,by rw[Hl.out];exact b1,c9,b5.glob (HG.out.drewN m) h2 hU hE,b5 rb cs 5 z (.inr hB) HR.out⟩,by simp[intOf];omega⟩
    ·gi_wp2
     refine Zg (results_none rfl ..) rfl ?_;exact⟨⟨_,rfl⟩,.inr ⟨_,⟨fV xs f' (k+r2),by rw[c3.out];simp⟩,b2⟩⟩
   ·rw[xK]
    gi_wp2
    refine⟨fun _ h=>(by cases h),?_⟩
    gi_wp2
    refine Zg (results_none rfl ..) rfl ?_;exact⟨⟨_,rfl⟩,.inl ⟨_,rfl,by rw[a1.out (by simp)];exact HJ.out _ _ _ none a5.out ⟨rfl,rfl,rfl,Za _,fun _ _ _=>rfl⟩ (fun r e=>by cases e)⟩⟩
   ·rw[yM]
    gi_wp2
    refine⟨fun _ h=>(by cases h),?_⟩
    gi_wp2
    refine Zg (results_none rfl ..) rfl ?_;exact⟨⟨_,rfl⟩,.inl ⟨_,rfl,by rw[a1.out (by simp)];exact HJ.out _ _ _ none a5.out ⟨rfl,rfl,rfl,Za _,fun _ _ _=>rfl⟩ (fun r e=>by cases e)⟩⟩
theorem gv.setCell (W:World){p:Addr}(h1:B<=p.block)(h2:p.block<B2)(v:Value):gv B B2 W (W.setCell p v):=fun k cs t z hk hc=>
 (Below.heap_setCell W p v k (by omega)).trans hc
theorem gv.alloc (W:World)(o:Obj):gv B B2 W (W.alloc o):=gv.of_below ((Zd _ _).alloc (Za _) _)
theorem oD (h:Below W.heap.size W W'):KeepsOthers W W':=⟨h.size,fun k _ hk _=>(h.block k (ae hk)).trans hk⟩
theorem uZ (n:Nat)(hn:1<=n)(sb:Nat)(s:ByteArray)(B B2:Nat)(hsz:s.size<=9223372036854775807)(aU aE:Addr)
  (hB:B2<=w.heap.size) (h2:5<B/\4<B/\7<B) (hU:aU.block<B) (hE:aE.block<B) (hg:cR w aU aE) (hs:w.cell? ⟨sb,0,none⟩=some (.string s)) :
  SeqStopsK Fence.wide n Tryz.prog 183 #[.pointer (some ⟨sb,0,none⟩)] (fun x:Nat×Nat=> #[.int .i64 (x.1:Int),.int .i32 (x.2:Int)]) (gv B B2) (fun ys=>ys=eV s.data.toList) (fun ys=>ys <+:eV s.data.toList) (eV s.data.toList).length w:=
 fun l J Jx W hW hJ a0 hY h0=>D1 n hn l sb s B B2 hsz aU aE J Jx W (Zb hB hW.size) h2 hU hE (hg.below hW) hJ a0 hY (Zf hW hs) h0
theorem CZ (h:Bs w v xs) :
  Calls Tryz.prog 142 #[v] w fun e w'=>e =.returned (.func (.func 183) #[] #[.pointer (some ⟨w.heap.size,0,none⟩)])/\w.alloc (.cells #[.string ⟨xs.toArray⟩] 9)=w':=by
 have hc:=aW h;have H:=Qa h;clear h;go_enter Tryz.func142,Tryz.ntmps142;go_wp2;go_ret;exact⟨rfl,rfl⟩
def Di (w:World)(pre:List (Nat×Nat))(W:World):Prop:=
 Bx W w.heap.size 3 (.int .i64 pre.length)/\Bx W (w.heap.size+1) 3 (.int .i64 (bQ pre))/\Below w.heap.size w W
def zu (xs:List UInt8)(aU aE:Addr)(w:World)(e:Ending)(w':World):Prop:=
 Below w.heap.size w w'/\((xs.length<=bQ (eV xs)/\e =.returned (.tuple #[.int .i64 (eV xs).length,.nilIface]))\/
  (bQ (eV xs)<xs.length/\∃g:Nat,e =.returned (.tuple #[.int .i64 0,.iface 251 (.pointer (some ⟨g,0,none⟩))])/\
   w'.heap[g]?=some (.cells #[.int .i64 (bQ (eV xs)),nO (co aU) (co aE) (bF (xs.drop (bQ (eV xs)).toNat)).2.2] 253 (0,0))/\w.heap.size<=g))
theorem Cq (v:Value)(xs:List UInt8)(w:World)(aU aE:Addr)(hb:Bs w v xs)(hg:cR w aU aE)(hsz:xs.length<=9223372036854775807) :
  CallsIn Fence.wide 9 Tryz.prog 112 #[v] w (zu xs aU aE w):=by
 have h2:5<w.heap.size/\4<w.heap.size/\7<w.heap.size:=⟨World.block_lt_of_cell? w _ hg.u,World.block_lt_of_cell? w _ hg.e,World.block_lt_of_cell? w _ (hg.l 0 (by omega))⟩;obtain⟨cU,tU,hU⟩:=hg.hu;obtain⟨cE,tE,hE⟩:=hg.he;have hU:=ae hU;have hE:=ae hE;obtain⟨hm,A,cap,rfl,e5,_⟩:=id hb;have Hb:=Qa hb;have Hg:=Qa hg;clear hb hg;refine callsIn_of_wp_marks Tryz.func112 rfl trivial ?_ rfl;simp only[Tryz.ntmps112,List.size_toArray,List.length_cons,List.length_nil,Nat.reduceAdd,Nat.reduceSub,Array.replicate_succ,Array.replicate_zero,List.push_toArray,List.append_toArray,List.nil_append,List.cons_append];have b2:Below w.heap.size w ((w.alloc (.cells #[.int .i64 0] 3)).alloc (.cells #[.int .i64 0] 3)):=((Zd _ _).alloc (Za _) _).alloc (by simp) _;have b4:=Qa (Hb.out.below b2);have c1:=Qa (Hg.out.below b2);have Hk:=Qa ((Bx.new w 3 (.int .i64 0)).alloc (.cells #[.int .i64 0] 3));have Ha:=Qa (Bx.new (w.alloc (.cells #[.int .i64 0] 3)) 3 (.int .i64 0));have b1:=Qa b2;clear b2
 gi_wp2_with fail
 refine⟨trivial,?_⟩;refine(callsIn_wide.2 (CZ b4.out)).mono ?_;rintro e w' ⟨rfl,rfl⟩
 gi_wp2
 obtain⟨W0,b3⟩:∃W0,((w.alloc (.cells #[.int .i64 0] 3)).alloc (.cells #[.int .i64 0] 3))=W0:=⟨_,rfl⟩;have a0:W0.heap.size=w.heap.size+2:=by rw[<-b3];simp
 rw[b3] at b4 c1 Hk Ha b1;obtain⟨W1,a7⟩:∃W1,W0.alloc (.cells #[.string ⟨xs.toArray⟩] 9)=W1:=⟨_,rfl⟩;have a3:Below W0.heap.size W0 W1:=by rw[<-a7];exact(Zd _ _).alloc (Za _) _
 have c7:W1.cell? ⟨w.heap.size+2,0,none⟩=some (.string ⟨xs.toArray⟩):=by
  have h:=(Bx.new W0 9 (.string ⟨xs.toArray⟩)).cell;rw[a0] at h;rw[<-a7];exact h
 have a6:W1.heap.size=w.heap.size+3:=by rw[<-a7];simp[a0]
 rw[b3,a7];rw[show(w.alloc (.cells #[.int .i64 0] 3)).heap.size=w.heap.size+1 by simp] at Ha;clear b3 a7;have d1:=Qa (b4.out.below a3);have b5:=Qa (c1.out.below a3);have c4:Di w [] W1:=⟨Hk.out.later a3,Ha.out.later a3,b1.out.trans (a3.mono b1.out.size)⟩;have c2:=Qa a0;have a2:=Qa a6;have d5:=Qa c7;have d6:=Qa c4;clear a0 c2 a6 c7 c4 b4 c1 Hk Ha b1 a3 W0;refine wpIn_rangeFunc_ownF rfl (by omega) (gf:=183) (lb:= #[.pointer (some ⟨w.heap.size+2,0,none⟩)]) (by simp[Act.eval]) trivial (enters_of Tryz.func183 (by kernel_rfl) rfl)
  (uZ (w:=W1) (9 - 1) (by omega) (w.heap.size+2) ⟨xs.toArray⟩ w.heap.size (w.heap.size+2) (by simpa [ByteArray.size] using hsz) aU aE (by rw[a2.out];omega) h2 hU hE b5.out d5.out)
  (fun h k=>h.t k) (fun W l o o' _ h ho _=>gv.b W l o o' h ho) (Zd _ _) (fun _=>rfl)
  (Di w) (fun _ _ _=>False) ?hI ?hIx d6.out
  (fun x=>{tmps:= #[.slice A xs.length cap,undef,.int .i64 0,.nilIface,.pointer (some ⟨w.heap.size,0,none⟩),.pointer (some ⟨w.heap.size+1,0,none⟩),.int .i64 (x.1:Int),.int .i32 (x.2:Int),undef,undef,undef,undef,undef,.slice A xs.length cap,.func (.func 183) #[] #[.pointer (some ⟨w.heap.size+2,0,none⟩)],.int .i64 (x.1:Int),.int .i32 (x.2:Int),undef,undef,undef,undef,undef,undef,undef,undef,undef,undef,undef,undef,undef,undef,undef,undef,undef,undef,undef,undef,undef,undef,undef,undef,undef,undef,undef,undef],defers:= []}) ?assign ?body ?done ?stop
 case hI=>
  intro s A B row hs hg hr;exact⟨hs.1.kept hg (fun r e=>(hr r e).2),hs.2.1.kept hg (fun r e=>(hr r e).2),hs.2.2.grown hg hs.2.2.size (fun k e=>by have:=(hr k e).1;rw[a2.out] at this;omega)⟩
 case hIx=>exact fun _ _ _ _ _ hs _ _=>hs
 case assign=>
  intro l x W K hK
  gi_wp2
  exact hK
 case body=>
  rintro l pre x W ⟨hk,ha,hB⟩ hN;have c8:=hk.cell;have d3:=hk.frozen;have hlen:(pre.length:Int)+1<=9223372036854775807:=by have:=CQ xs;simp at hN;omega
  gi_wp2_with fail
  refine⟨trivial,?_⟩;refine(CallsIn.inRound l (callsIn_wide.2 (Dy x.2 _))).mono ?_;rintro e W2 ⟨rfl,a5⟩;rw[show mM x.2 =.agg #[.int .u8 (ap (bG x.2) 0),.int .u8 (ap (bG x.2) 1),.int .u8 (ap (bG x.2) 2),.int .u8 (ap (bG x.2) 3)] from rfl];have c6:=j8 pre x;generalize (bG (x.2:Int)).length=q at *;have e0:=Qa c6;clear c6;generalize ap (bG x.2) 0=g0;generalize ap (bG x.2) 1=g1;generalize ap (bG x.2) 2=g2;generalize ap (bG x.2) 3=g3;have b7:=hk.later a5;have b0:=ha.later a5;have d9:=(b7.alloc (.cells #[.int .u8 g0,.int .u8 g1,.int .u8 g2,.int .u8 g3] 248)).cell;have c9:=(b7.alloc (.cells #[.int .u8 g0,.int .u8 g1,.int .u8 g2,.int .u8 g3] 248)).frozen;have d0:=(b0.alloc (.cells #[.int .u8 g0,.int .u8 g1,.int .u8 g2,.int .u8 g3] 248)).cell;have e6:=(b0.alloc (.cells #[.int .u8 g0,.int .u8 g1,.int .u8 g2,.int .u8 g3] 248)).frozen;have e7:w.heap.size+1<W2.heap.size:=b0.lt;clear c8 d3
  gi_wp2
  refine⟨(oD a5).trans ((KeepsOthers.alloc _ _).trans ((KeepsOthers.setCell _ _ _).trans (KeepsOthers.setCell ..))),
   (gv.of_below a5).t ((gv.alloc _ _).t ((gv.setCell _ (p:=⟨w.heap.size,0,none⟩) (Za _) (by simp) _).t (gv.setCell _ (p:=⟨w.heap.size+1,0,none⟩) (by simp) (by simp) _))),?_,?_,?_⟩
  ·have h:=(((b7.alloc (.cells #[.int .u8 g0,.int .u8 g1,.int .u8 g2,.int .u8 g3] 248)).set (.int .i64 ((pre.length:Int)+1))).far (p:=⟨w.heap.size+1,0,none⟩) (by simp) (.int .i64 (wrap64 ((x.1:Int)+q))));rw[List.length_append];exact h
  ·have h:=(((b0.alloc (.cells #[.int .u8 g0,.int .u8 g1,.int .u8 g2,.int .u8 g3] 248)).far (p:=⟨w.heap.size,0,none⟩) (by simp) (.int .i64 ((pre.length:Int)+1))).set (.int .i64 (wrap64 ((x.1:Int)+q))));rw[e0.out];exact h
  ·exact(((hB.trans (a5.mono hB.size)).alloc (Zb hB.size a5.size) _).setCell (p:=⟨w.heap.size,0,none⟩) (Za _) _).setCell (p:=⟨w.heap.size+1,0,none⟩) (by simp) _
 case done=>
  rintro D ys W hD rfl ⟨hk,ha,hB⟩ hK;have c8:=hk.cell;have d4:=ha.cell;have b8:D<W.heap.size:=ae hK;have a9:w.heap.size<=D:=by rw[a2.out] at hD;omega
  by_cases hlt:bQ (eV xs)<xs.length
  ·obtain⟨p,hp⟩:∃p:Nat,bQ (eV xs)=p:=⟨(bQ (eV xs)).toNat,by have:=kd xs hsz;omega⟩;have Hp:=Qa hp;rw[hp] at hlt d4;clear hp;have e4:p<xs.length:=by omega
   have b9:=Hb.out.below hB;obtain⟨_,A',c',e',_,c3⟩:=id b9;injection e' with e1 e2 e3
   subst e1 e3;obtain⟨b,o,rfl,_⟩:=c3 (by omega);have b6:=Qa (b9.cut (Zi e4));have d2:=Qa (Hg.out.below hB);have e8:¬cap=p:=by omega
   clear c3 b9
   gi_wp2_with fail
   refine⟨trivial,?_⟩;refine(callsIn_wide.2 (iC b6.out d2.out)).mono ?_;have a4:=Qa (show nO (co aU) (co aE) (bF (xs.drop (bQ (eV xs)).toNat)).2.2=nO (co aU) (co aE) (bF (xs.drop p)).2.2 from by rw[Hp.out];rfl);have c5:=(nV (xs.drop p)).2;generalize bF (xs.drop p)=r at *;obtain⟨r1,r2,r3⟩:=r;have c0:r3=0\/r3=1\/r3=2:=by have:r3<=2:=c5;omega
   clear c5;rintro e w' ⟨rfl,m,rfl⟩;rcases c0 with rfl|rfl|rfl
   ·rw[Cl]
    gi_wp2
    gi_region
    all_goals gi_wp2
    have a1:((W.alloc (.cells #[.int .i64 p,.nilIface] 253)).drewN (m+1)).heap[D]?=some (.deferred (some [])):=(Below.heap_alloc W _ D b8).trans hK;refine⟨by simp,.inl ⟨_,_,rfl,run_takeDeferred a1,?_⟩⟩;refine⟨_,results_tmp2 rfl _ _ _,?_,.inr ⟨by rw[Hp.out];omega,W.heap.size,rfl,?_,hB.size⟩⟩
    ·exact(az (hB.alloc hB.size _) (m+1)).trans (belowK_b (w:=w) (Za _) _ D _ _ a9 a1 rfl rfl)
    ·rw[Hp.out] at a4 ⊢;rw[World.putObj_heap_other (by omega),a4.out];exact Ze W _
   ·rw[xK]
    gi_wp2
    gi_region
    all_goals gi_wp2
    have a1:((W.alloc (.cells #[.int .i64 p,co aE] 253)).drewN (m+1)).heap[D]?=some (.deferred (some [])):=(Below.heap_alloc W _ D b8).trans hK;refine⟨by simp,.inl ⟨_,_,rfl,run_takeDeferred a1,?_⟩⟩;refine⟨_,results_tmp2 rfl _ _ _,?_,.inr ⟨by rw[Hp.out];omega,W.heap.size,rfl,?_,hB.size⟩⟩
    ·exact(az (hB.alloc hB.size _) (m+1)).trans (belowK_b (w:=w) (Za _) _ D _ _ a9 a1 rfl rfl)
    ·rw[Hp.out] at a4 ⊢;rw[World.putObj_heap_other (by omega),a4.out];exact Ze W _
   ·rw[yM]
    gi_wp2
    gi_region
    all_goals gi_wp2
    have a1:((W.alloc (.cells #[.int .i64 p,co aU] 253)).drewN (m+1)).heap[D]?=some (.deferred (some [])):=(Below.heap_alloc W _ D b8).trans hK;refine⟨by simp,.inl ⟨_,_,rfl,run_takeDeferred a1,?_⟩⟩;refine⟨_,results_tmp2 rfl _ _ _,?_,.inr ⟨by rw[Hp.out];omega,W.heap.size,rfl,?_,hB.size⟩⟩
    ·exact(az (hB.alloc hB.size _) (m+1)).trans (belowK_b (w:=w) (Za _) _ D _ _ a9 a1 rfl rfl)
    ·rw[Hp.out] at a4 ⊢;rw[World.putObj_heap_other (by omega),a4.out];exact Ze W _
  ·gi_wp2
   refine⟨by simp,.inl ⟨_,_,rfl,run_takeDeferred hK,?_⟩⟩;refine⟨_,results_tmp2 rfl _ _ _,hB.trans (belowK_b (w:=w) (Za _) W D _ _ a9 hK rfl rfl),.inl ⟨by omega,rfl⟩⟩
 case stop=>
  rintro D c pre W hD _ h _;exact h.elim
theorem zU (hb:Bs w v xs)(hg:cR w aU aE) :
  Calls Tryz.prog 112 #[v] w (zu xs aU aE w):=callsIn_wide.1 (Cq v xs w aU aE hb hg hb.1)
def Bu (xs:List UInt8)(aU aE:Addr)(w:World)(e:Ending)(w':World):Prop:=
 Below w.heap.size w w'/\((xs.length<=bQ (eV xs)/\e =.returned .nilIface)\/
  (bQ (eV xs)<xs.length/\∃g:Nat,e =.returned (.iface 251 (.pointer (some ⟨g,0,none⟩)))/\
   w'.heap[g]?=some (.cells #[.int .i64 (bQ (eV xs)),nO (co aU) (co aE) (bF (xs.drop (bQ (eV xs)).toNat)).2.2] 253 (0,0))/\w.heap.size<=g))
theorem Bi (hb:Bs w v xs)(hg:cR w aU aE) :
  Calls Tryz.prog 86 #[v] w (Bu xs aU aE w):=by
 have H:=Qa (zU hb hg);clear hb hg;go_enter Tryz.func86,Tryz.ntmps86;go_wp2_with fail;refine H.out.mono ?_;rintro e w' ⟨hb,⟨h1,rfl⟩|⟨h1,g,rfl,hg,hl⟩⟩
 ·have H1:=Qa h1;clear h1;go_wp2;go_ret;exact⟨hb,.inl ⟨H1.out,rfl⟩⟩
 ·have H1:=Qa h1;have Hg:=Qa hg;clear h1 hg;go_wp2;go_ret;exact⟨hb,.inr ⟨H1.out,g,rfl,Hg.out,hl⟩⟩
theorem CS:(Tryz.prog.info? 427).map (·.comparable)=some true:=by kernel_rfl
theorem DI:(Tryz.prog.info? 429).map (fun i=>i.size)=some 1:=by kernel_rfl
theorem GS:Tryz.prog.underlying 49=some (.interface (Tryz.prog.methodsAt 49)):=by kernel_rfl
theorem lX (a:Addr)(W:World):(binOp .eql 49 (bL a) (bL a)).run Tryz.prog W =.ok (.bool true) W:=by
 obtain⟨i,hi,hc⟩:=Option.map_eq_some_iff.1 CS;obtain⟨j,hj,hs⟩:=Option.map_eq_some_iff.1 DI;exact run_eql_iface_ptr_same W a Tryz.underlying49 Tryz.underlying427 hi hc hj
theorem li (h:cR W aU aE):(binOp .eql 49 (bL aU) (bL aE)).run Tryz.prog W =.ok (.bool false) W:=by
 obtain⟨i,hi,hc⟩:=Option.map_eq_some_iff.1 CS;obtain⟨j,hj,hs⟩:=Option.map_eq_some_iff.1 DI;obtain⟨c1,t1,h1⟩:=h.hu;obtain⟨c2,t2,h2⟩:=h.he;exact run_eql_iface_ptr_other W Tryz.underlying49 Tryz.underlying427 hi hc hj (by omega) h.ne h1 h2
theorem mQ (a:Addr)(W:World):(binOp .eql 49 .nilIface (bL a)).run Tryz.prog W =.ok (.bool false) W:=run_eql_iface_nil_left W _ _ GS
def JA:Option (Nat×Nat)->Value
 |none=>.tuple #[.int .i32 0,.int .i64 1,.bool false]
 |some p=>.tuple #[.int .i32 p.1,.int .i64 p.2,.bool true]
def JY (r:Option (Option (Nat×Nat)))(w:World)(e:Ending)(w':World):Prop:=(∃p,r=some p/\e =.returned (JA p)/\Below w.heap.size w w')\/(r=none/\jp w e w')
theorem yG {c:UInt8}{t:List UInt8}(a0:c.toNat≠34)(a1:c.toNat≠92)(a2:¬c.toNat<32):bW (c::t)=if(bF (c::t)).2.2=0 then some (some ((bF (c::t)).1,(bF (c::t)).2.1)) else none:=by
 simp only[bW];rw[if_neg (fun e=>a0 (by rw[e];rfl)),if_neg (fun e=>a1 (by rw[e];rfl)),if_neg a2]
theorem yK {c:UInt8}{t:List UInt8}(a0:c.toNat≠34)(a1:c.toNat≠92)(a2:c.toNat<32):bW (c::t)=none:=by
 simp only[bW];rw[if_neg (fun e=>a0 (by rw[e];rfl)),if_neg (fun e=>a1 (by rw[e];rfl)),if_pos a2]
theorem yE {k:Nat}(h:vg w g v xs k)(hG:cR w aU aE)(hS:bC w 19)(hU:bC w 20)(hC:bC w 18)(hk:k<=1000000000)(hl:xs.length<=1000000000):Calls Tryz.prog 252 #[.pointer (some ⟨g,0,none⟩)] w fun e w'=>JY (bW (xs.drop k)) w e w':=by
 obtain⟨hg,hb⟩:=id h;obtain⟨hm,A,cap,rfl,b7,a1⟩:=id hb;have c0:=aa hg (j:=0) (u:=.slice A xs.length cap) rfl;have c1:=aa hg (j:=1) (u:=.int .i64 k) rfl;have hE:bC w 4:=⟨aE,hG.e⟩;have H:=Qa h;have HE:=Qa hE;have HG:=Qa hG;have b4:=Qa (vI h hE hS hU hk);obtain⟨aC,b5⟩:=hC;rcases hc:xs[k]? with _|c
 ·have Hn:=Qa (show bW (xs.drop k)=none by rw[List.drop_of_length_le (List.getElem?_eq_none_iff.1 hc)];rfl);have Hc:=Qa hc;clear hc h hE hG hS hU hg hb a1;go_enter Tryz.func252,Tryz.ntmps252;go_wp2_with fail;(with_reducible refine(jn H.out HE.out k Hc.out).mono ?_);rintro e w' ⟨vP,rfl,hv,hb⟩;have Hv:=Qa hv;have a9:=Qa hb;clear hv hb;go_wp2_with fail;exact⟨rfl,.inr ⟨Hn.out,vP,rfl,Hv.out,a9.out⟩⟩
 obtain⟨hlt,b0⟩:=List.getElem?_eq_some_iff.1 hc;have hd:xs.drop k=c::xs.drop (k+1):=by rw[List.drop_eq_getElem_cons hlt,b0]
 obtain⟨b,o,rfl,-⟩:=a1 (by omega);have a3:=Qa (show Bs w.drew (.slice (some ⟨b,o+k,none⟩) (xs.length - k) (cap - k)) (xs.drop k) from hb.cut (Zi hlt));have Hd:=Qa hd;have Hc:=Qa hc;clear hc b0 h hE hS hU hg hb a1;have hx:=c.toNat_lt
 by_cases h34:c.toNat=34
 ·obtain rfl:c=34:=UInt8.toNat_inj.1 (by rw[h34];rfl);rw[hd];clear hd h34 hG;go_enter Tryz.func252,Tryz.ntmps252;go_wp2_with fail;(with_reducible refine(aY H.out HE.out k Hc.out).mono ?_);rintro e w' ⟨rfl,rfl⟩;rw[show(34:UInt8).toNat=34 from rfl];go_wp2_with fail;go_ret3;exact .inl ⟨none,rfl,rfl,Zd _ _⟩
 have n34:((c.toNat:Int)==34)=false:=by simp only[beq_eq_false_iff_ne];omega
 by_cases h92:c.toNat=92
 ·obtain rfl:c=92:=UInt8.toNat_inj.1 (by rw[h92];rfl);have Hp:=Qa (show bW (xs.drop k)= (ti (xs.drop (k+1))).map some by rw[hd];rfl);clear hd h92 h34 n34 hG;go_enter Tryz.func252,Tryz.ntmps252;go_wp2_with fail;(with_reducible refine(aY H.out HE.out k Hc.out).mono ?_);rintro e w' ⟨rfl,rfl⟩;rw[show(92:UInt8).toNat=92 from rfl];go_wp2_with fail;(with_reducible refine b4.out.mono ?_);rintro e w' (⟨p,hp,rfl,hb⟩|⟨hn,vP,rfl,hv,hb⟩)
  ·have Hr:=Qa (show bW (xs.drop k)=some (some p) by rw[Hp.out,hp];rfl);have Hb:=Qa hb;obtain⟨p1,p2⟩:=p;clear hp hb
   dsimp only
   go_wp2_with fail;go_ret3;exact .inl ⟨some (p1,p2),Hr.out,rfl,Hb.out⟩
  ·have Hn:=Qa (show bW (xs.drop k)=none by rw[Hp.out,hn];try rfl);have Hv:=Qa hv;have a9:=Qa hb;clear hn hv hb;go_wp2_with fail;exact⟨rfl,.inr ⟨Hn.out,vP,rfl,Hv.out,a9.out⟩⟩
 have n92:((c.toNat:Int)==92)=false:=by simp only[beq_eq_false_iff_ne];omega
 by_cases h32:c.toNat<32
 ·have a6:(c.toNat:Int)<32:=by omega
  have Hn:=Qa (show bW (xs.drop k)=none by rw[hd];exact yK h34 h92 h32);clear hd h34 h92 h32 hG;go_enter Tryz.func252,Tryz.ntmps252;go_wp2_with fail;(with_reducible refine(aY H.out HE.out k Hc.out).mono ?_);rintro e w' ⟨rfl,rfl⟩;go_wp2_with fail;refine wp_region_held_drew (S:=fun w'=>w'.cell? ⟨g,1,none⟩=some (.int .i64 k)/\w'.cell? ⟨18,0,none⟩=some (bL aC)) (by kernel_rfl) (⟨c1,b5⟩) (fun a0=>?_);refine tH 0 a0 ?_;refine tH 1 a0 ?_;refine tH 2 a0 ?_;refine tH 3 a0 ?_;refine tH 4 a0 ?_
  try simp only[Act.put,jP,jQ,jR]
  refine rH 5 fun K hK=>?_
  go_simp;refine(bz _ aC _).mono ?_;rintro e w' hf;obtain⟨vP,rfl,hv,hb⟩:=hf.low (show Below w.heap.size w w.drew from(Zd _ _).drew);exact⟨rfl,.inr ⟨Hn.out,vP,rfl,hv,hb⟩⟩
 have a6:¬ (c.toNat:Int)<32:=by omega
 have Hr:=Qa (show bW (xs.drop k)=if(bF (xs.drop k)).2.2=0 then some (some ((bF (xs.drop k)).1,(bF (xs.drop k)).2.1)) else none by rw[hd];exact yG h34 h92 h32);have b3:(k:Int)<=xs.length:=by omega
 clear hd h34 h92 h32;have b2:=(nV (xs.drop k)).2;have a2:rc (co aU) (co aE) (bF (xs.drop k)) =.tuple #[.int .i32 (bF (xs.drop k)).1,.int .i64 (bF (xs.drop k)).2.1,nO (co aU) (co aE) (bF (xs.drop k)).2.2]:=rfl;rcases hr:bF (xs.drop k) with ⟨ca,cl,cc⟩
 rw[hr] at b2 a2
 dsimp only at b2 a2
 obtain⟨ve,a4⟩:∃ve,nO (co aU) (co aE) cc=ve:=⟨_,rfl⟩;rw[a4] at a2;have a5:=Qa (show bW (xs.drop k)=if cc=0 then some (some (ca,cl)) else none by rw[Hr.out,hr]);have b6:=Qa (show rc (co aU) (co aE) (bF (xs.drop k))=_ from hr▸a2);have a7:=Qa a4;clear hr a2 a4 Hr;go_enter Tryz.func252,Tryz.ntmps252;go_wp2_with fail;(with_reducible refine(aY H.out HE.out k Hc.out).mono ?_);rintro e w' ⟨rfl,rfl⟩;go_wp2_with fail;refine aR (fun w'=>w'.cell? ⟨g,0,none⟩=some (.slice (some ⟨b,o,none⟩) xs.length cap)/\w'.cell? ⟨g,1,none⟩=some (.int .i64 k)) (⟨c0,c1⟩) fun a0=>?_
 refine tH 0 a0 ?_;refine tH 1 a0 ?_;refine tH 2 a0 ?_;refine tH 3 a0 ?_;refine tH 4 a0 ?_;refine tH 5 a0 ?_
 try simp only[Act.put,jP,jQ,jR]
 refine tH 6 a0 ?_;refine tH 7 a0 ?_;refine tH 8 a0 ?_
 try simp only[Act.put,jP,jQ,jR]
 refine rH 9 fun K hK=>?_
 go_simp;(try rw[if_neg (show ¬cap=k by omega)]);(with_reducible refine(iC a3.out (HG.out.below ((Zd w.heap.size w).drew))).mono ?_);rintro e w' ⟨rfl,m,rfl⟩;rw[b6.out];refine hK.out _ _ (a0) (fun a0=>?_);clear hK K
 try simp only[Act.put,jP,jQ,jR]
 refine tH 10 a0 ?_;refine tH 11 a0 ?_;refine tH 12 a0 ?_;refine tH 13 a0 ?_;refine tH 14 a0 ?_;refine tH 15 a0 ?_
 try simp only[Act.put,jP,jQ,jR]
 refine tH 16 a0 ?_
 try simp only[Act.put,jP,jQ,jR]
 refine wpAnyH_done (by kernel_rfl) (NoPanic.normal ?_) _;have Hb:=Qa (show Below w.heap.size w (w.drew.drewN m) from az ((Zd _ _).drew) m);have b1:=Qa (show cR (w.drew.drewN m) aU aE from(HG.out.below ((Zd w.heap.size w).drew)).drewN m);have c0':(w.drew.drewN m).cell? ⟨g,0,none⟩=some (.slice (some ⟨b,o,none⟩) xs.length cap):=c0;have c1':(w.drew.drewN m).cell? ⟨g,1,none⟩=some (.int .i64 k):=c1;have cE:(w.drew.drewN m).cell? ⟨4,0,none⟩=some (bL aE):=b1.out.e;generalize w.drew.drewN m=w1 at *;clear c0 c1;rcases(by omega:cc=0\/cc=1\/cc=2) with rfl|rfl|rfl
 ·obtain rfl: .nilIface=ve:=a7.out;have q:=mQ aE w1;go_wp2_with fail;go_ret3;exact .inl ⟨some (ca,cl),a5.out,rfl,Hb.out⟩
 ·obtain rfl:bL aE=ve:=a7.out;have q:=lX aE w1;go_wp2_with fail;refine(bz _ aE _).mono ?_;rintro e w' hf;obtain⟨vP,rfl,hv,hb⟩:=hf.low Hb.out;exact⟨rfl,.inr ⟨a5.out,vP,rfl,hv,hb⟩⟩
 ·obtain rfl:bL aU=ve:=a7.out;have q:=li b1.out;go_wp2_with fail;refine(bz _ aU _).mono ?_;rintro e w' hf;obtain⟨vP,rfl,hv,hb⟩:=hf.low Hb.out;exact⟨rfl,.inr ⟨a5.out,vP,rfl,hv,hb⟩⟩
theorem IC (n:Nat)(hv:Utf8.valid (n:Int)=true)(h1:n<128):Utf8.encode (n:Int)= ⟨#[UInt8.ofNat n]⟩:=by
 unfold Utf8.encode;simp only[hv,if_true,Int.toNat_natCast,h1]
theorem IX (n:Nat)(hv:Utf8.valid (n:Int)=true)(h1:¬n<128)(h2:n<2048):Utf8.encode (n:Int)= ⟨#[UInt8.ofNat (192+n/64),UInt8.ofNat (128+n % 64)]⟩:=by
 unfold Utf8.encode;simp only[hv,if_true,Int.toNat_natCast,h1,h2,if_false]
theorem Ip (n:Nat)(hv:Utf8.valid (n:Int)=true)(h1:¬n<128)(h2:¬n<2048)(h3:n<65536):Utf8.encode (n:Int)= ⟨#[UInt8.ofNat (224+n/4096),UInt8.ofNat (128+n/64 % 64),UInt8.ofNat (128+n % 64)]⟩:=by
 unfold Utf8.encode;simp only[hv,if_true,Int.toNat_natCast,h1,h2,h3,if_false]
theorem Jb (n:Nat)(hv:Utf8.valid (n:Int)=true)(h1:¬n<128)(h2:¬n<2048)(h3:¬n<65536):Utf8.encode (n:Int)= ⟨#[UInt8.ofNat (240+n/262144),UInt8.ofNat (128+n/4096 % 64),UInt8.ofNat (128+n/64 % 64),UInt8.ofNat (128+n % 64)]⟩:=by
 unfold Utf8.encode;simp only[hv,if_true,Int.toNat_natCast,h1,h2,h3,if_false]
theorem sD {c:Int}(hc:dO c=true):(Utf8.encode c).data.toList=bG c:=by
 obtain⟨n,rfl⟩:∃n:Nat,c=n:=⟨c.toNat,by have:=em hc;omega⟩;have hr:n<=1114111/\¬ (55296<=n/\n<=57343):=by rw[cB] at hc;simp at hc;omega
 have hv:Utf8.valid (n:Int)=true:=by rw[ly];omega
 by_cases h1:n<128
 ·rw[mz n h1,IC n hv h1]
 ·by_cases h2:n<2048
  ·rw[qA n ⟨by omega,h2⟩,IX n hv h1 h2]
  ·by_cases h3:n<65536
   ·rw[oZ n ⟨by omega,h3⟩ (by omega),Ip n hv h1 h2 h3]
   ·rw[qx n ⟨by omega,by omega⟩,Jb n hv h1 h2 h3]
theorem cA {ops:Array Oper}{rest:List Oper}{o:Oper}{a:Act}{Q:Exit->Act->World->Prop}(a4:o.guard=none)(sl x:Operand)
  (ho:o.op =.call {callee:=.builtin .append,args:= #[sl,x],argTypes:= #[22,9]})
  (base:Nat) (v:Value) (ys:List UInt8) (s:ByteArray) (hs:a.eval sl=v) (a1:au w base v ys) (hx:a.eval x =.string s)
  (hlen:ys.length+s.size<=140737488355328) (a0:base<=w.heap.size)
  (h:∀v' w',au w' base v' (ys++s.data.toList)->w.grownBy w' v.ownBlock->wpList Tryz.prog ops Q rest (a.put o.dst v') w'):wpList Tryz.prog ops Q (o::rest) a w:=by
 refine wpList_plain a4 fun K hK=>?_
 obtain⟨i0,hi,a3,a5,a2⟩:=info_parts Cu;obtain⟨v',w',hr,h2,h3,h4⟩:=Lib.run_append_own_string (P:=Tryz.prog) w base 22 9 o.type 5 i0 Tryz.underlying22 Tryz.underlying9 hi a3 a5 a2 v ys.length (gS ys) a1 s (by unfold maxLen;omega) hlen a0;unfold Oper.wp execOp;simp only[ho,resolve,invoke,builtin,Sem.run_bind,Sem.run_pure,Result.andThen_ok,List.map_toArray,List.map_cons,List.map_nil,hs,hx,hr];refine hK _ _ (h v' w' ?_ h3);have e1:gS (ys++s.data.toList)=gS ys++Lib.strCells s:=by rw[nT];rfl
 have e2:(ys++s.data.toList).length=ys.length+s.size:=by rw[List.length_append];rfl
 unfold au;rw[e1,e2];exact h2
theorem uM {x:Nat}(h:cS xs=some x):x<65536/\4<=xs.length:=by
 refine⟨?_,?_⟩
 ·have:=iN xs 0;rw[List.drop_zero,h] at this;exact jt this.symm
 ·rcases xs with _|⟨a,_|⟨b,_|⟨c,_|⟨d,t⟩⟩⟩⟩
  ·cases h
  ·simp[cS] at h
  ·simp[cS] at h
  ·simp[cS] at h
  ·simp
theorem Fx {p:Nat×Nat}(h:kB xs=some p):dO p.1=true/\1<=p.2/\p.2<=xs.length+2:=by
 unfold kB at h
 cases hx:cS xs with
 |none=>simp only[hx,bind,Option.bind] at h;cases h
 |some x=>
  obtain⟨b1,b2⟩:=uM hx;simp only[hx,bind,pure,Option.bind] at h
  split at h
  ·injection h with h
   subst h;refine⟨by rw[cB];simp;omega,by simp,by simp only;omega⟩
  split at h
  ·rename_i a b ys hd
   split at h
   ·cases h
   cases hy:cS ys with
   |none=>simp only[hy] at h;cases h
   |some y=>
    simp only[hy] at h;obtain⟨c1,c2⟩:=uM hy;have hl:(xs.drop 4).length=ys.length+2:=by rw[hd];rfl
    rw[List.length_drop] at hl
    split at h
    ·cases h
    injection h with h
    subst h;refine⟨by rw[cB];simp;omega,by simp,by simp only;omega⟩
  ·cases h
theorem Fe {p:Nat×Nat}(h:ti xs=some p):dO p.1=true/\1<=p.2/\p.2<=xs.length+1:=by
 unfold ti at h
 split at h <;> first
  |(injection h with h;subst h;exact⟨by decide,by decide,by simp⟩)
  |(have:=Fx h;exact⟨this.1,this.2.1,by simpa using this.2.2⟩)
  |cases h
theorem oW {p:Nat×Nat}(h:bW xs=some (some p)):dO p.1=true/\1<=p.2/\p.2<=xs.length:=by
 rcases xs with _|⟨x,xs⟩
 ·cases h
 simp only[bW] at h
 split at h
 ·cases h
 split at h
 ·rw[Option.map_eq_some_iff] at h;obtain⟨q,hq,e⟩:=h;injection e with e
  subst e;have:=Fe hq;exact⟨this.1,this.2.1,by simpa using this.2.2⟩
 split at h
 ·cases h
 split at h
 ·rename_i h0
  injection h with h
  injection h with h
  subst h;exact⟨(iL h0).2,eO h0,lG _⟩
 ·cases h
theorem pV (h:bW xs=some none):1<=xs.length:=by
 rcases xs with _|⟨x,xs⟩
 ·cases h
 ·simp
