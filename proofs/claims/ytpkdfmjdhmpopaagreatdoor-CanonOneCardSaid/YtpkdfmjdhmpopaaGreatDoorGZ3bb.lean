import Derived.Test.YtpkdfmjdhmpopaaGreatDoorGZ3ba
set_option linter.unusedVariables false
set_option linter.unusedSimpArgs false
set_option maxHeartbeats 64000000
set_option maxRecDepth 100000
namespace Go.Proofs.YtpkdfmjdhmpopaaGreatDoor
open Go.RowKit Go.Shelf
variable {aE aU : Addr} {xs : List UInt8} {g k m n q : Nat} {v : Value} {w w' w1 : World}
theorem zT.low {r:Option (Nat×Nat)}{e:Ending}(h:zT r w1 e w')(hb:Below w.heap.size w w1):zT r w e w':=by
 rcases h with ⟨p,h1,h2,h3⟩ | ⟨h1,h2⟩
 ·exact .inl ⟨p,h1,h2,bo hb h3⟩
 ·exact .inr ⟨h1,h2.low hb⟩
theorem uU {c:UInt8}{t:List UInt8}(h:¬ (c=98\/c=116\/c=110\/c=102\/c=114\/c=34\/c=92\/c=47\/c=117)):r8 (c::t)=none:=by
 unfold r8
 split <;> first | rfl | (rename_i e;injection e with e _;subst e;simp at h)
theorem rQ (h:sW w g v xs k)(hE:bu w 5)(hS:bu w 19)(hU:bu w 20)(hk:k<=1000000000):Calls Tryz.prog 227 #[.pointer (some ⟨g,0,none⟩)] w fun e w'=>zT (r8 (xs.drop (k+1))) w e w':=by
 have c1:=aa h.1 (j:=1) (u:= .int .i64 k) rfl;have H:=Qa h;have HE:=Qa hE;have a2:=Qa (rW h hE hS hU hk);obtain⟨aS,a3⟩:=hS;clear h hE hU;rcases hc:xs[k+1]? with _ | c
 ·have Hn:=Qa (show r8 (xs.drop (k+1))=none by rw [List.drop_of_length_le (List.getElem?_eq_none_iff.1 hc)];rfl)
  have Hc:=Qa hc;clear hc;go_enter Tryz.func227,Tryz.ntmps227;go_wp2_with fail;rw [show(k:Int)+1= ((k+1:Nat):Int) from by omega];(with_reducible refine(i7 H.out HE.out (k+1) Hc.out).mono ?_);rintro e w' ⟨vP,rfl,hv,hb⟩;have Hv:=Qa hv;have a1:=Qa hb;clear hv hb;go_wp2_with fail;exact⟨rfl, .inr ⟨Hn.out,vP,rfl,Hv.out,a1.out⟩⟩
 have hd:xs.drop (k+1)=c::xs.drop (k+2):=by
  obtain⟨hlt,he⟩:=List.getElem?_eq_some_iff.1 hc;rw [List.drop_eq_getElem_cons hlt,he]
 rw [hd];have Hc:=Qa hc;clear hc hd
 by_cases h98:c=98
 ·subst h98
  go_enter Tryz.func227,Tryz.ntmps227;go_wp2_with fail;rw [show(k:Int)+1= ((k+1:Nat):Int) from by omega];(with_reducible refine(aZ H.out HE.out (k+1) Hc.out).mono ?_);rintro e w' ⟨rfl,rfl⟩;rw [show(98:UInt8).toNat=98 from rfl];go_wp2_with fail;go_ret2;exact .inl ⟨(8,2),rfl,rfl,Zd _ _⟩
 by_cases h116:c=116
 ·subst h116
  go_enter Tryz.func227,Tryz.ntmps227;go_wp2_with fail;rw [show(k:Int)+1= ((k+1:Nat):Int) from by omega];(with_reducible refine(aZ H.out HE.out (k+1) Hc.out).mono ?_);rintro e w' ⟨rfl,rfl⟩;rw [show(116:UInt8).toNat=116 from rfl];go_wp2_with fail;go_ret2;exact .inl ⟨(9,2),rfl,rfl,Zd _ _⟩
 by_cases h110:c=110
 ·subst h110
  go_enter Tryz.func227,Tryz.ntmps227;go_wp2_with fail;rw [show(k:Int)+1= ((k+1:Nat):Int) from by omega];(with_reducible refine(aZ H.out HE.out (k+1) Hc.out).mono ?_);rintro e w' ⟨rfl,rfl⟩;rw [show(110:UInt8).toNat=110 from rfl];go_wp2_with fail;go_ret2;exact .inl ⟨(10,2),rfl,rfl,Zd _ _⟩
 by_cases h102:c=102
 ·subst h102
  go_enter Tryz.func227,Tryz.ntmps227;go_wp2_with fail;rw [show(k:Int)+1= ((k+1:Nat):Int) from by omega];(with_reducible refine(aZ H.out HE.out (k+1) Hc.out).mono ?_);rintro e w' ⟨rfl,rfl⟩;rw [show(102:UInt8).toNat=102 from rfl];go_wp2_with fail;go_ret2;exact .inl ⟨(12,2),rfl,rfl,Zd _ _⟩
 by_cases h114:c=114
 ·subst h114
  go_enter Tryz.func227,Tryz.ntmps227;go_wp2_with fail;rw [show(k:Int)+1= ((k+1:Nat):Int) from by omega];(with_reducible refine(aZ H.out HE.out (k+1) Hc.out).mono ?_);rintro e w' ⟨rfl,rfl⟩;rw [show(114:UInt8).toNat=114 from rfl];go_wp2_with fail;go_ret2;exact .inl ⟨(13,2),rfl,rfl,Zd _ _⟩
 by_cases h34:c=34
 ·subst h34
  go_enter Tryz.func227,Tryz.ntmps227;go_wp2_with fail;rw [show(k:Int)+1= ((k+1:Nat):Int) from by omega];(with_reducible refine(aZ H.out HE.out (k+1) Hc.out).mono ?_);rintro e w' ⟨rfl,rfl⟩;rw [show(34:UInt8).toNat=34 from rfl];go_wp2_with fail;go_ret2;exact .inl ⟨(34,2),rfl,rfl,Zd _ _⟩
 by_cases h92:c=92
 ·subst h92
  go_enter Tryz.func227,Tryz.ntmps227;go_wp2_with fail;rw [show(k:Int)+1= ((k+1:Nat):Int) from by omega];(with_reducible refine(aZ H.out HE.out (k+1) Hc.out).mono ?_);rintro e w' ⟨rfl,rfl⟩;rw [show(92:UInt8).toNat=92 from rfl];go_wp2_with fail;go_ret2;exact .inl ⟨(92,2),rfl,rfl,Zd _ _⟩
 by_cases h47:c=47
 ·subst h47
  go_enter Tryz.func227,Tryz.ntmps227;go_wp2_with fail;rw [show(k:Int)+1= ((k+1:Nat):Int) from by omega];(with_reducible refine(aZ H.out HE.out (k+1) Hc.out).mono ?_);rintro e w' ⟨rfl,rfl⟩;rw [show(47:UInt8).toNat=47 from rfl];go_wp2_with fail;go_ret2;exact .inl ⟨(47,2),rfl,rfl,Zd _ _⟩
 by_cases h117:c=117
 ·subst h117
  go_enter Tryz.func227,Tryz.ntmps227;go_wp2_with fail;rw [show(k:Int)+1= ((k+1:Nat):Int) from by omega];(with_reducible refine(aZ H.out HE.out (k+1) Hc.out).mono ?_);rintro e w' ⟨rfl,rfl⟩;rw [show(117:UInt8).toNat=117 from rfl];go_wp2_with fail;(with_reducible refine a2.out.mono ?_);rintro e w' (⟨p,hp,rfl,hb⟩ | ⟨hn,vP,rfl,hv,hb⟩)
  ·have Hp:=Qa hp
   have Hb:=Qa hb;obtain⟨p1,p2⟩:=p;clear hp hb
   dsimp only
   go_wp2_with fail;go_ret2;exact .inl ⟨(p1,p2),Hp.out,rfl,Hb.out⟩
  ·have Hn:=Qa hn
   have Hv:=Qa hv;have a1:=Qa hb;clear hn hv hb;go_wp2_with fail;exact⟨rfl, .inr ⟨Hn.out,vP,rfl,Hv.out,a1.out⟩⟩
 have Hn:=Qa (uU (c:=c) (t:=xs.drop (k+2)) (by rintro(e | e | e | e | e | e | e | e | e) <;> contradiction));have n98: ((c.toNat:Int)==98)=false:=by simp only [beq_eq_false_iff_ne];intro e;exact h98 (UInt8.toNat_inj.1 (by show c.toNat=98;omega))
 have n116: ((c.toNat:Int)==116)=false:=by simp only [beq_eq_false_iff_ne];intro e;exact h116 (UInt8.toNat_inj.1 (by show c.toNat=116;omega))
 have n110: ((c.toNat:Int)==110)=false:=by simp only [beq_eq_false_iff_ne];intro e;exact h110 (UInt8.toNat_inj.1 (by show c.toNat=110;omega))
 have n102: ((c.toNat:Int)==102)=false:=by simp only [beq_eq_false_iff_ne];intro e;exact h102 (UInt8.toNat_inj.1 (by show c.toNat=102;omega))
 have n114: ((c.toNat:Int)==114)=false:=by simp only [beq_eq_false_iff_ne];intro e;exact h114 (UInt8.toNat_inj.1 (by show c.toNat=114;omega))
 have n34: ((c.toNat:Int)==34)=false:=by simp only [beq_eq_false_iff_ne];intro e;exact h34 (UInt8.toNat_inj.1 (by show c.toNat=34;omega))
 have n92: ((c.toNat:Int)==92)=false:=by simp only [beq_eq_false_iff_ne];intro e;exact h92 (UInt8.toNat_inj.1 (by show c.toNat=92;omega))
 have n47: ((c.toNat:Int)==47)=false:=by simp only [beq_eq_false_iff_ne];intro e;exact h47 (UInt8.toNat_inj.1 (by show c.toNat=47;omega))
 have n117: ((c.toNat:Int)==117)=false:=by simp only [beq_eq_false_iff_ne];intro e;exact h117 (UInt8.toNat_inj.1 (by show c.toNat=117;omega))
 clear h98 h116 h110 h102 h114 h34 h92 h47 h117;go_enter Tryz.func227,Tryz.ntmps227;go_wp2_with fail;rw [show(k:Int)+1= ((k+1:Nat):Int) from by omega];(with_reducible refine(aZ H.out HE.out (k+1) Hc.out).mono ?_);rintro e w' ⟨rfl,rfl⟩;go_wp2_with fail;refine wp_region_held_drew (S:=fun w'=>w'.cell? ⟨g,1,none⟩=some (.int .i64 k)/\w'.cell? ⟨19,0,none⟩=some (bH aS)) (by kernel_rfl) (⟨c1,a3⟩) (fun a0=> ?_);refine tH 0 a0 ?_;refine tH 1 a0 ?_;refine tH 2 a0 ?_;refine tH 3 a0 ?_;refine tH 4 a0 ?_
 try simp only [Act.put,jP,jQ,jR]
 refine rH 5 fun K hK=> ?_
 go_simp;refine(br _ aS _).mono ?_;rintro e w' hf;obtain⟨vP,rfl,hv,hb⟩:=hf.low (show Below w.heap.size w w.drew from(Zd _ _).drew);exact⟨rfl, .inr ⟨Hn.out,vP,rfl,hv,hb⟩⟩
theorem gI (x:Int)(w:World) :
  Calls Tryz.prog 142 #[.int .u8 x] w fun e w'=>e = .returned (.bool (dW x))/\w=w':=by
 go_enter Tryz.func142,Tryz.ntmps142;go_wp2;go_ret;exact⟨rfl,rfl⟩
theorem ew (x y:Int)(h':0<=y/\y<=255)(w:World) :
  Calls Tryz.prog 141 #[.int .u8 x, .int .u8 y] w fun e w'=>e = .returned (.bool (dG x y))/\w=w':=by
 go_enter Tryz.func141,Tryz.ntmps141;go_wp2_with (go_at_call 142;refine(gI _ _).mono ?_;rintro e w' ⟨rfl,rfl⟩)
 all_goals go_ret
 all_goals refine⟨i6 ?_,rfl⟩
 all_goals (simp_all [dG] <;> omega)
def wM (w:World):Prop:= ∀i,i<16->w.cell? ⟨8,i,none⟩=some (.int .i8 (e7.getD i 0))
theorem gM (x:Int)(h:0<=x/\x<=255)(w:World)(hL:wM w) :
  Calls Tryz.prog 140 #[.int .u8 x] w fun e w'=>e = .returned (.int .i64 (bj x))/\w=w':=by
 by_cases h1:x=192\/x=193\/244<x
 ·have hc:bj x = -1:=by simp [bj,h1]
  rw [hc];clear hc;go_enter Tryz.func140,Tryz.ntmps140;rcases h1 with rfl | rfl | h1
  ·go_wp2
   go_ret;exact⟨rfl,rfl⟩
  ·go_wp2
   go_ret;exact⟨rfl,rfl⟩
  ·have e1: (x==192)=false:=by simp;omega
   have e2: (x==193)=false:=by simp;omega
   go_wp2;go_ret;exact⟨rfl,rfl⟩
 ·have hc:bj x=e7.getD (x/16).toNat 0:=by simp [bj,h1]
  rw [hc];clear hc;have hc:=hL (x/16).toNat (by omega);clear hL;have hb:∃q:Int, -1<=q/\q<=4/\e7.getD (x/16).toNat 0=q:=⟨_,(pF _).1,(pF _).2,rfl⟩;obtain⟨q,q1,q2,hq⟩:=hb;rw [hq] at hc ⊢;clear hq;have e1: (x==192)=false:=by simp;omega
  have e2: (x==193)=false:=by simp;omega
  have e3:¬244<x:=by omega
  clear h1;go_enter Tryz.func140,Tryz.ntmps140;go_wp2;go_ret;exact⟨rfl,rfl⟩
def mI (U E:Value)(c:Nat):Value:=if c=0 then .nilIface else if c=1 then E else U
def pU (U E:Value)(r:Nat×Nat×Nat):Value:= .tuple #[.int .i32 r.1, .int .i64 r.2.1,mI U E r.2.2]
theorem rv (n:Nat)(xs:List UInt8)(hn:2<=n)(a2:n<=4):∀k,k<=n->ek n xs k<2097152/\(k<n->ek n xs k<32768):=by
 have b0:=aM xs 0;have b1:=aM xs 1;have b2:=aM xs 2;have b3:=aM xs 3;intro k hk;have a1:k=0\/k=1\/k=2\/k=3\/k=4:=by omega
 have a0:n=2\/n=3\/n=4:=by omega
 rcases a0 with rfl | rfl | rfl <;> rcases a1 with rfl | rfl | rfl | rfl | rfl <;> simp [ek,cM] <;> omega
def fU (U E:Value)(w:World)(R:Nat×Nat×Nat)(e:Ending)(w':World):Prop:=e = .returned (pU U E R)/\∃m,w'=w.drewN m
def it (xs:List UInt8)(n:Nat)(R:Nat×Nat×Nat)(w:World)(cc i:Value)(wr:World):Prop:=
 ∃f k:Nat,k+f=n/\1<=k/\k<=xs.length/\i = .int .i64 k/\cc = .int .i32 (ek n xs k)/\aK xs n f k=R/\∃m,wr=w.drewN m
theorem Gi:∀x:Nat,x<256->bits .and .i32 (x:Int) 31= ((x % 32:Nat):Int):=by decide +kernel
theorem Es:∀x:Nat,x<256->bits .and .i32 (x:Int) 15= ((x % 16:Nat):Int):=by decide +kernel
theorem Is:∀x:Nat,x<256->bits .and .i32 (x:Int) 7= ((x % 8:Nat):Int):=by decide +kernel
theorem wB (x:Nat)(h:x<256): ((cM 2 x:Nat):Int)=bits .and .i32 (x:Int) 31:=by rw [Gi x h];rfl
theorem vj (x:Nat)(h:x<256): ((cM 3 x:Nat):Int)=bits .and .i32 (x:Int) 15:=by rw [Es x h];rfl
theorem vw (x:Nat)(h:x<256): ((cM 4 x:Nat):Int)=bits .and .i32 (x:Int) 7:=by rw [Is x h];rfl
theorem gC {f y:Nat}{R:Nat×Nat×Nat}{v:Int}(hq:ek n xs k=q)(hy:am xs k=y)(hk:1<=k)(hf:k+ (f+1)=n)
  (hlt:k<xs.length) (hR:aK xs n (f+1) k=R) (a0:oF xs k=true) (hv:v= (k:Int)+1) :
  it xs n R w (.int .i32 ((q:Int)*64+ (y:Int) % 64)) (.int .i64 v) (w.drewN m):=by
 refine⟨f,k+1,by omega,by omega,by omega,by rw [hv];rfl, ?_, ?_,m,rfl⟩
 ·obtain⟨j,rfl⟩:∃j,k=j+1:=⟨k - 1,by omega⟩
  rw [ek,hq,hy];congr 1
 ·rw [<- hR,aK,if_neg (by omega),if_pos a0]
theorem eQ {f:Nat}{R:Nat×Nat×Nat}(hlt:k<xs.length)(hR:aK xs n (f+1) k=R)(a0:oF xs k=false): (0,0,2)=R:=by
 rw [<- hR,aK,if_neg (by omega),a0];rfl
theorem Cj (b o c len:Nat)(xs:List UInt8)(w:World)(hlen:xs.length=len)(h2:1<=len)(hm:len<=9223372036854775807)
  (hc:∀i,i<len->w.cell? ⟨b,o+i,none⟩=some (.int .u8 (am xs i))) (U E:Value) (hU:w.cell? ⟨6,0,none⟩=some U) (hE:w.cell? ⟨5,0,none⟩=some E) (hL:wM w) (hn:bj (am xs 0)=2) :
  Calls Tryz.prog 103 #[.slice (some ⟨b,o,none⟩) len c] w (fU U E w (aK xs 2 1 1)):=by
 have a6:=rv 2 xs (by omega) (by omega);have h0:=hc 0 (by omega);rw [Nat.add_zero] at h0;have hx:=aM xs 0;have a3:ek 2 xs 1=cM 2 (am xs 0):=rfl;have a0:it xs 2 (aK xs 2 1 1) w (.int .i32 (ek 2 xs 1)) (.int .i64 1) w:=
  ⟨1,1,by omega,by omega,by omega,rfl,rfl,rfl,0,rfl⟩
 rw [a3] at a0;generalize aK xs 2 1 1=R at *;generalize hx0:am xs 0=x0 at *;have Hc:=Qa hc;have Hn:=Qa hn;have a9:=Qa a6;have Hs:=Qa a0;have a1:=Qa hlen;have b2:=Qa hx0;clear hc hn hlen a6 a3 a0 hx0;have HL:=Qa hL;clear hL;have b7: ((len:Int)==0)=false:=by simp;omega
 go_enter Tryz.func103,Tryz.ntmps103;go_wp2_with (go_at_call 140;refine(gM _ (by omega) _ HL.out).mono ?_;rintro e w' ⟨rfl,rfl⟩;rw [Hn.out])
 go_loopw [6,7] (it xs 2 R w) (fun _ i _=>2 - (intOf i).toNat)
 case atStart=>exact wB x0 hx▸Hs.out
 case round=>
  obtain⟨f,k,hf,a7,b6,rfl,rfl,hR,m,rfl⟩:=hrel
  cases f with
  | zero=>
   obtain rfl:k=2:=by omega
   generalize hq:ek 2 xs 2=q at *;have HR:=Qa (show(q,2,0)=R by rw [<- hR,<- hq];rfl);clear hR hq;go_wp2;go_ret3;exact⟨by rw [<- HR.out];rfl,m,rfl⟩
  | succ f=>
   have b5:k<2:=by omega
   by_cases hkl:k=len
   ·have HR:=Qa (show(0,0,1)=R by rw [<- hR,aK,if_pos (by rw [a1.out];exact hkl)])
    clear hR;generalize ek 2 xs k=q at *;subst hkl;go_wp2;go_quiet (fail)
    all_goals (go_wp2;go_ret3)
    exact⟨by rw [<- HR.out];rfl,_,World.drewN_drewN _ _ _⟩
   ·have a2:k<len:=by have:=a1.out;omega
    have b1: ((k:Int)==len)=false:=by simp;omega
    have hq:=(a9.out k (by omega)).2 (by omega);have a5:=Hc.out k a2;have b3:=aM xs k;have Hf:=Qa hf;generalize hqq:ek 2 xs k=q at *;have Hq:=Qa hqq;clear hqq hf;generalize hyy:am xs k=y at *;have Hy:=Qa hyy;clear hyy;have HR:=Qa hR;clear hR;have hp:0<len:=by omega
    have b8: (0:Int)<len:=by omega
    by_cases a7:k=1
    ·subst a7
     have b4: (1:Int)<len:=by omega
     have a4:=Qa (kv b2.out Hy.out)
     by_cases hs:dG x0 y=true
     ·go_wp2
      go_quiet ((go_at_call 141;exact cI (ew _ _ (by omega) _)));go_wp2_with (go_at_call 142;refine(gI _ _).mono ?_;rintro e w' ⟨rfl,rfl⟩)
      ·have ht: (!dW y)=true:=by assumption
       go_quiet (fail)
       all_goals (go_wp2;go_ret3)
       exact⟨by rw [<- eQ (by rw [a1.out];exact a2) HR.out (by rw [a4.out,hs];simpa using ht)];rfl,_,World.drewN_drewN _ _ _⟩
      ·have ht: (!dW y)=false:=by assumption
       exact⟨gC Hq.out Hy.out (by omega) Hf.out (by rw [a1.out];exact a2) HR.out (by rw [a4.out,hs];simpa using ht) (by omega),by simp [intOf]⟩
     ·have b0:dG x0 y=false:=by simpa using hs
      clear hs;go_wp2;go_quiet ((go_at_call 141;exact cI (ew _ _ (by omega) _)));go_wp2;go_quiet (fail)
      all_goals (go_wp2;go_ret3)
      exact⟨by rw [<- eQ (by rw [a1.out];exact a2) HR.out (by rw [a4.out,b0];rfl)];rfl,_,(congrArg (fun W:World=>W.drewN _) (World.drewN_drewN _ _ _)).trans (World.drewN_drewN _ _ _)⟩
    ·exfalso;omega
theorem BM (b o c len:Nat)(xs:List UInt8)(w:World)(hlen:xs.length=len)(h2:1<=len)(hm:len<=9223372036854775807)
  (hc:∀i,i<len->w.cell? ⟨b,o+i,none⟩=some (.int .u8 (am xs i))) (U E:Value) (hU:w.cell? ⟨6,0,none⟩=some U) (hE:w.cell? ⟨5,0,none⟩=some E) (hL:wM w) (hn:bj (am xs 0)=3) :
  Calls Tryz.prog 103 #[.slice (some ⟨b,o,none⟩) len c] w (fU U E w (aK xs 3 2 1)):=by
 have a7:=rv 3 xs (by omega) (by omega);have h0:=hc 0 (by omega);rw [Nat.add_zero] at h0;have hx:=aM xs 0;have a4:ek 3 xs 1=cM 3 (am xs 0):=rfl;have a0:it xs 3 (aK xs 3 2 1) w (.int .i32 (ek 3 xs 1)) (.int .i64 1) w:=
  ⟨2,1,by omega,by omega,by omega,rfl,rfl,rfl,0,rfl⟩
 rw [a4] at a0;generalize aK xs 3 2 1=R at *;generalize hx0:am xs 0=x0 at *;have Hc:=Qa hc;have Hn:=Qa hn;have a9:=Qa a7;have Hs:=Qa a0;have a1:=Qa hlen;have b2:=Qa hx0;clear hc hn hlen a7 a4 a0 hx0;have HL:=Qa hL;clear hL;have b8: ((len:Int)==0)=false:=by simp;omega
 go_enter Tryz.func103,Tryz.ntmps103;go_wp2_with (go_at_call 140;refine(gM _ (by omega) _ HL.out).mono ?_;rintro e w' ⟨rfl,rfl⟩;rw [Hn.out])
 go_loopw [6,7] (it xs 3 R w) (fun _ i _=>3 - (intOf i).toNat)
 case atStart=>exact vj x0 hx▸Hs.out
 case round=>
  obtain⟨f,k,hf,a5,b6,rfl,rfl,hR,m,rfl⟩:=hrel
  cases f with
  | zero=>
   obtain rfl:k=3:=by omega
   generalize hq:ek 3 xs 3=q at *;have HR:=Qa (show(q,3,0)=R by rw [<- hR,<- hq];rfl);clear hR hq;go_wp2;go_ret3;exact⟨by rw [<- HR.out];rfl,m,rfl⟩
  | succ f=>
   have b5:k<3:=by omega
   by_cases hkl:k=len
   ·have HR:=Qa (show(0,0,1)=R by rw [<- hR,aK,if_pos (by rw [a1.out];exact hkl)])
    clear hR;generalize ek 3 xs k=q at *;subst hkl;go_wp2;go_quiet (fail)
    all_goals (go_wp2;go_ret3)
    exact⟨by rw [<- HR.out];rfl,_,World.drewN_drewN _ _ _⟩
   ·have a2:k<len:=by have:=a1.out;omega
    have b1: ((k:Int)==len)=false:=by simp;omega
    have hq:=(a9.out k (by omega)).2 (by omega);have a6:=Hc.out k a2;have b3:=aM xs k;have Hf:=Qa hf;generalize hqq:ek 3 xs k=q at *;have Hq:=Qa hqq;clear hqq hf;generalize hyy:am xs k=y at *;have Hy:=Qa hyy;clear hyy;have HR:=Qa hR;clear hR;have hp:0<len:=by omega
    have b9: (0:Int)<len:=by omega
    by_cases a5:k=1
    ·subst a5
     have b4: (1:Int)<len:=by omega
     have a3:=Qa (kv b2.out Hy.out)
     by_cases hs:dG x0 y=true
     ·go_wp2
      go_quiet ((go_at_call 141;exact cI (ew _ _ (by omega) _)));go_wp2_with (go_at_call 142;refine(gI _ _).mono ?_;rintro e w' ⟨rfl,rfl⟩)
      ·have ht: (!dW y)=true:=by assumption
       go_quiet (fail)
       all_goals (go_wp2;go_ret3)
       exact⟨by rw [<- eQ (by rw [a1.out];exact a2) HR.out (by rw [a3.out,hs];simpa using ht)];rfl,_,World.drewN_drewN _ _ _⟩
      ·have ht: (!dW y)=false:=by assumption
       exact⟨gC Hq.out Hy.out (by omega) Hf.out (by rw [a1.out];exact a2) HR.out (by rw [a3.out,hs];simpa using ht) (by omega),by simp [intOf]⟩
     ·have b0:dG x0 y=false:=by simpa using hs
      clear hs;go_wp2;go_quiet ((go_at_call 141;exact cI (ew _ _ (by omega) _)));go_wp2;go_quiet (fail)
      all_goals (go_wp2;go_ret3)
      exact⟨by rw [<- eQ (by rw [a1.out];exact a2) HR.out (by rw [a3.out,b0];rfl)];rfl,_,(congrArg (fun W:World=>W.drewN _) (World.drewN_drewN _ _ _)).trans (World.drewN_drewN _ _ _)⟩
    ·have b7: ((k:Int)==1)=false:=by simp;omega
     have a3:=Qa (jl a5 Hy.out);go_wp2;go_quiet (fail);go_wp2_with (go_at_call 142;refine(gI _ _).mono ?_;rintro e w' ⟨rfl,rfl⟩)
     ·have ht: (!dW y)=true:=by assumption
      go_quiet (fail)
      all_goals (go_wp2;go_ret3)
      exact⟨by rw [<- eQ (by rw [a1.out];exact a2) HR.out (by rw [a3.out];simpa using ht)];rfl,_,World.drewN_drewN _ _ _⟩
     ·have ht: (!dW y)=false:=by assumption
      exact⟨gC Hq.out Hy.out (by omega) Hf.out (by rw [a1.out];exact a2) HR.out (by rw [a3.out];simpa using ht) (by omega),by simp [intOf];omega⟩
theorem z8 (b o c len:Nat)(xs:List UInt8)(w:World)(hlen:xs.length=len)(h2:1<=len)(hm:len<=9223372036854775807)
  (hc:∀i,i<len->w.cell? ⟨b,o+i,none⟩=some (.int .u8 (am xs i))) (U E:Value) (hU:w.cell? ⟨6,0,none⟩=some U) (hE:w.cell? ⟨5,0,none⟩=some E) (hL:wM w) (hn:bj (am xs 0)=4) :
  Calls Tryz.prog 103 #[.slice (some ⟨b,o,none⟩) len c] w (fU U E w (aK xs 4 3 1)):=by
 have a7:=rv 4 xs (by omega) (by omega);have h0:=hc 0 (by omega);rw [Nat.add_zero] at h0;have hx:=aM xs 0;have a4:ek 4 xs 1=cM 4 (am xs 0):=rfl;have a0:it xs 4 (aK xs 4 3 1) w (.int .i32 (ek 4 xs 1)) (.int .i64 1) w:=
  ⟨3,1,by omega,by omega,by omega,rfl,rfl,rfl,0,rfl⟩
 rw [a4] at a0;generalize aK xs 4 3 1=R at *;generalize hx0:am xs 0=x0 at *;have Hc:=Qa hc;have Hn:=Qa hn;have a9:=Qa a7;have Hs:=Qa a0;have a1:=Qa hlen;have b2:=Qa hx0;clear hc hn hlen a7 a4 a0 hx0;have HL:=Qa hL;clear hL;have b8: ((len:Int)==0)=false:=by simp;omega
 go_enter Tryz.func103,Tryz.ntmps103;go_wp2_with (go_at_call 140;refine(gM _ (by omega) _ HL.out).mono ?_;rintro e w' ⟨rfl,rfl⟩;rw [Hn.out])
 go_loopw [6,7] (it xs 4 R w) (fun _ i _=>4 - (intOf i).toNat)
 case atStart=>exact vw x0 hx▸Hs.out
 case round=>
  obtain⟨f,k,hf,a5,b6,rfl,rfl,hR,m,rfl⟩:=hrel
  cases f with
  | zero=>
   obtain rfl:k=4:=by omega
   generalize hq:ek 4 xs 4=q at *;have HR:=Qa (show(q,4,0)=R by rw [<- hR,<- hq];rfl);clear hR hq;go_wp2;go_ret3;exact⟨by rw [<- HR.out];rfl,m,rfl⟩
  | succ f=>
   have b5:k<4:=by omega
   by_cases hkl:k=len
   ·have HR:=Qa (show(0,0,1)=R by rw [<- hR,aK,if_pos (by rw [a1.out];exact hkl)])
    clear hR;generalize ek 4 xs k=q at *;subst hkl;go_wp2;go_quiet (fail)
    all_goals (go_wp2;go_ret3)
    exact⟨by rw [<- HR.out];rfl,_,World.drewN_drewN _ _ _⟩
   ·have a2:k<len:=by have:=a1.out;omega
    have b1: ((k:Int)==len)=false:=by simp;omega
    have hq:=(a9.out k (by omega)).2 (by omega);have a6:=Hc.out k a2;have b3:=aM xs k;have Hf:=Qa hf;generalize hqq:ek 4 xs k=q at *;have Hq:=Qa hqq;clear hqq hf;generalize hyy:am xs k=y at *;have Hy:=Qa hyy;clear hyy;have HR:=Qa hR;clear hR;have hp:0<len:=by omega
    have b9: (0:Int)<len:=by omega
    by_cases a5:k=1
    ·subst a5
     have b4: (1:Int)<len:=by omega
     have a3:=Qa (kv b2.out Hy.out)
     by_cases hs:dG x0 y=true
     ·go_wp2
      go_quiet ((go_at_call 141;exact cI (ew _ _ (by omega) _)));go_wp2_with (go_at_call 142;refine(gI _ _).mono ?_;rintro e w' ⟨rfl,rfl⟩)
      ·have ht: (!dW y)=true:=by assumption
       go_quiet (fail)
       all_goals (go_wp2;go_ret3)
       exact⟨by rw [<- eQ (by rw [a1.out];exact a2) HR.out (by rw [a3.out,hs];simpa using ht)];rfl,_,World.drewN_drewN _ _ _⟩
      ·have ht: (!dW y)=false:=by assumption
       exact⟨gC Hq.out Hy.out (by omega) Hf.out (by rw [a1.out];exact a2) HR.out (by rw [a3.out,hs];simpa using ht) (by omega),by simp [intOf]⟩
     ·have b0:dG x0 y=false:=by simpa using hs
      clear hs;go_wp2;go_quiet ((go_at_call 141;exact cI (ew _ _ (by omega) _)));go_wp2;go_quiet (fail)
      all_goals (go_wp2;go_ret3)
      exact⟨by rw [<- eQ (by rw [a1.out];exact a2) HR.out (by rw [a3.out,b0];rfl)];rfl,_,(congrArg (fun W:World=>W.drewN _) (World.drewN_drewN _ _ _)).trans (World.drewN_drewN _ _ _)⟩
    ·have b7: ((k:Int)==1)=false:=by simp;omega
     have a3:=Qa (jl a5 Hy.out);go_wp2;go_quiet (fail);go_wp2_with (go_at_call 142;refine(gI _ _).mono ?_;rintro e w' ⟨rfl,rfl⟩)
     ·have ht: (!dW y)=true:=by assumption
      go_quiet (fail)
      all_goals (go_wp2;go_ret3)
      exact⟨by rw [<- eQ (by rw [a1.out];exact a2) HR.out (by rw [a3.out];simpa using ht)];rfl,_,World.drewN_drewN _ _ _⟩
     ·have ht: (!dW y)=false:=by assumption
      exact⟨gC Hq.out Hy.out (by omega) Hf.out (by rw [a1.out];exact a2) HR.out (by rw [a3.out];simpa using ht) (by omega),by simp [intOf];omega⟩
theorem Cg (b o c len:Nat)(w:World)(h2:1<=len)(hm:len<=9223372036854775807)(x:Nat)(hx:x<256)
  (h0:w.cell? ⟨b,o,none⟩=some (.int .u8 x)) (U E:Value) (hL:wM w) (hn:bj x=1) :
  Calls Tryz.prog 103 #[.slice (some ⟨b,o,none⟩) len c] w (fU U E w (x,1,0)):=by
 have Hn:=Qa hn;have HL:=Qa hL;clear hL hn;have a0: ((len:Int)==0)=false:=by simp;omega
 go_enter Tryz.func103,Tryz.ntmps103;go_wp2_with (go_at_call 140;refine(gM _ (by omega) _ HL.out).mono ?_;rintro e w' ⟨rfl,rfl⟩;rw [Hn.out])
 go_loopw [6,7] (fun cc i wr=>i = .int .i64 1/\cc = .int .i32 x/\w=wr) (fun _ i _=>1 - (intOf i).toNat)
 case atStart=>exact⟨rfl,rfl,rfl⟩
 case round=>
  obtain⟨rfl,rfl,rfl⟩:=hrel;go_wp2;go_ret3;exact⟨rfl,0,rfl⟩
theorem AL (b o c len:Nat)(w:World)(h2:1<=len)(hm:len<=9223372036854775807)(x:Nat)(hx:x<256)
  (h0:w.cell? ⟨b,o,none⟩=some (.int .u8 x)) (U E:Value) (hU:w.cell? ⟨6,0,none⟩=some U) (hL:wM w) (n:Int) (a0:n<1) (hn:bj x=n) :
  Calls Tryz.prog 103 #[.slice (some ⟨b,o,none⟩) len c] w (fU U E w (0,0,2)):=by
 have Hn:=Qa hn;have HL:=Qa hL;clear hL hn;have a1: ((len:Int)==0)=false:=by simp;omega
 go_enter Tryz.func103,Tryz.ntmps103;go_wp2_with (go_at_call 140;refine(gM _ (by omega) _ HL.out).mono ?_;rintro e w' ⟨rfl,rfl⟩;rw [Hn.out]);go_quiet (fail)
 all_goals (go_wp2;go_ret3)
 exact⟨rfl,_,rfl⟩
theorem vM (A:Option Addr)(c:Nat)(w:World)(U E:Value)(hE:w.cell? ⟨5,0,none⟩=some E) :
  Calls Tryz.prog 103 #[.slice A 0 c] w (fU U E w (0,0,1)):=by
 go_enter Tryz.func103,Tryz.ntmps103;go_wp2;go_quiet (fail)
 all_goals (go_wp2;go_ret3)
 exact⟨rfl,_,rfl⟩
abbrev ce (a:Addr):Value:= .iface 406 (.pointer (some a))
structure cG (w:World) (aU aE:Addr):Prop where
 u:w.cell? ⟨6,0,none⟩=some (ce aU)
 e:w.cell? ⟨5,0,none⟩=some (ce aE)
 l:wM w
 hu:∃cs t,w.heap[aU.block]?=some (.cells cs t (0,0))
 he:∃cs t,w.heap[aE.block]?=some (.cells cs t (0,0))
 ne:aU≠aE
theorem cG.below (h:cG w aU aE)(hb:Below w.heap.size w w'):cG w' aU aE:=by
 obtain⟨c1,t1,h1⟩:=h.hu;obtain⟨c2,t2,h2⟩:=h.he;exact⟨Zf hb h.u,Zf hb h.e,fun i hi=>Zf hb (h.l i hi),
  ⟨c1,t1,(hb.block _ (ae h1)).trans h1⟩,⟨c2,t2,(hb.block _ (ae h2)).trans h2⟩,h.ne⟩
theorem cG.drewN (h:cG w aU aE)(m:Nat):cG (w.drewN m) aU aE:=⟨h.u,h.e,h.l,h.hu,h.he,h.ne⟩
theorem iu (hb:Bs w v xs)(hg:cG w aU aE) :
  Calls Tryz.prog 103 #[v] w (fU (ce aU) (ce aE) w (bE xs)):=by
 obtain⟨hm,A,c,rfl,hc,a0⟩:=hb
 by_cases h0:xs.length=0
 ·obtain rfl:xs = []:=List.eq_nil_of_length_eq_zero h0
  exact vM A c w (ce aU) (ce aE) hg.e
 ·obtain⟨b,o,rfl,a1⟩:=a0 (by omega)
  have hx:=aM xs 0;have h1:=a1 0 (by omega);rw [Nat.add_zero] at h1;rcases ff _ hx with hn | hn | hn | hn | hn
  ·rw [Af (by omega) hn]
   exact AL b o c xs.length w (by omega) hm _ hx h1 (ce aU) (ce aE) hg.u hg.l _ hn rfl
  ·rw [lC (n:=1) (by omega) (by omega) hn]
   have:=Cg b o c xs.length w (by omega) hm _ hx h1 (ce aU) (ce aE) hg.l hn;simpa [aK,ek,cM] using this
  ·rw [lC (n:=2) (by omega) (by omega) hn]
   exact Cj b o c xs.length xs w rfl (by omega) hm a1 (ce aU) (ce aE) hg.u hg.e hg.l hn
  ·rw [lC (n:=3) (by omega) (by omega) hn]
   exact BM b o c xs.length xs w rfl (by omega) hm a1 (ce aU) (ce aE) hg.u hg.e hg.l hn
  ·rw [lC (n:=4) (by omega) (by omega) hn]
   exact z8 b o c xs.length xs w rfl (by omega) hm a1 (ce aU) (ce aE) hg.u hg.e hg.l hn
