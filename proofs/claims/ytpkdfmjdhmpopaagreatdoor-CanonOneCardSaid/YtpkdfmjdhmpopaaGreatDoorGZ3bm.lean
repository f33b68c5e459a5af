import Derived.Test.YtpkdfmjdhmpopaaGreatDoorGZ3bl
set_option linter.unusedVariables false
set_option linter.unusedSimpArgs false
set_option maxHeartbeats 64000000
set_option maxRecDepth 100000
namespace Go.Proofs.YtpkdfmjdhmpopaaGreatDoor
open Go.RowKit
variable {aE aU : Addr} {fin : Bool} {s : ByteArray} {f : Fr} {by_ dp ex : Int} {j : JV} {frs fs : List Fr} {bs maps : List Nat} {xs ys : List UInt8} {B k k0 lb n nd rb want xb : Nat} {nv ov v : Value} {w w' w0 : World}
theorem rV:∀ (f:Nat) (xs out:List UInt8) (n:Nat) (p:List UInt8×Nat),fF out->out.length<=4*n->fP f xs out n=some p->fF p.1/\p.1.length<=4*p.2
 | 0,_,_,_,_,_,_,h=>by cases h
 | f+1,xs,out,n,p,hu,hl,h=>by
  unfold fP at h
  split at h
  ·cases h
  ·injection h with h
   subst h;exact⟨hu,by simp only;omega⟩
  ·rename_i c k hp
   obtain⟨h1,h2, -⟩:=mK hp;have h3:=fS c;exact rV f _ _ _ p (hu.snoc h1) (by rw [List.length_append];simp only at h2 h3 ⊢;omega) h
theorem uf (hl:xs.length<=1000000000)(h:df xs=some (.str s,n)):jU s:=by
 cases xs with
 | nil=>cases h
 | cons x xs=>
  simp only [df] at h
  split at h
  ·injection h with h;injection h with h _;cases h
  ·rw [Option.map_eq_some_iff] at h
   obtain⟨j, -,h⟩:=h;injection h with h _;cases h
  ·rw [Option.map_eq_some_iff] at h
   obtain⟨j, -,h⟩:=h;injection h with h _;cases h
  ·rw [Option.map_eq_some_iff] at h
   obtain⟨p,hp,h⟩:=h;injection h with h _
   injection h with h
   subst h;unfold me at hp
   split at hp
   ·rename_i ys e
    injection e with e1 e2
    subst e2;obtain⟨h1,h2⟩:=rV _ _ _ _ _ fF.nil (Zj _) hp;have h3:=qX _ _ _ _ _ hp;rw [List.length_cons] at hl;refine⟨by obtain⟨cs,a,b⟩:=h1;exact⟨cs,a,by simpa using b⟩, ?_⟩
    show(p.1.toArray).size<=_
    rw [List.size_toArray];omega
   ·cases hp
  ·cases h
theorem yP (h:df xs=some (.leaf j,n)):tM j:=by
 cases xs with
 | nil=>cases h
 | cons x xs=>
  simp only [df] at h
  split at h
  ·injection h with h;injection h with h _;cases h
  ·rw [Option.map_eq_some_iff] at h
   obtain⟨j',hj,h⟩:=h;injection h with h _
   injection h with h
   subst h;unfold te at hj
   split at hj
   ·obtain rfl:=Zh hj;exact .null
   ·split at hj
    ·obtain rfl:=Zh hj;exact .bool true
    ·split at hj
     ·obtain rfl:=Zh hj;exact .bool false
     ·cases hj
  ·rw [Option.map_eq_some_iff] at h
   obtain⟨p,hp,h⟩:=h;injection h with h _
   injection h with h
   subst h;unfold m8 at hp;simp only at hp
   split at hp
   ·rw [Option.map_eq_some_iff] at hp
    obtain⟨d,hd,rfl⟩:=hp;refine .num d ?_;unfold ix at hd;simp only at hd
    split at hd
    ·obtain rfl:=Zh hd;simp
    ·split at hd
     ·rename_i hx;obtain rfl:=Zh hd;exact hx
     ·cases hd
   ·cases hp
  ·rw [Option.map_eq_some_iff] at h
   obtain⟨p, -,h⟩:=h;injection h with h _;cases h
  ·cases h
theorem DA {t:rF}(hl:xs.length<=1000000000)(h:df xs=some (t,n)):Ev jU t:=by
 cases t with
 | mark c=>trivial
 | leaf j=>trivial
 | str s=>exact uf hl h
theorem sG {t:rF}(ht: (t = .leaf j/\tM j)\/∃s,t = .str s/\j=dN s)(hw:want=0\/want=1)(hR:iC B w rb lb xb v xs frs want k nd false)(a0:eW B w xb frs none bs)(hT:jz frs)(hl:frs.length<=1000000000)(hn:nd<=1000000000)(hB:B<=w.heap.size) :
  Calls Tryz.prog 111 #[.pointer (some ⟨rb,0,none⟩),mg k0 t] w (EI B rb lb xb v xs (cC frs j) k (nd+1) false w):=by
 rcases ht with ⟨rfl,hj⟩ | ⟨s,rfl,rfl⟩
 ·cases hj with
  | null=>
   have hs:=fun w=>sh k0 w
   have hm:∀W,(Instr.typeAssert (.iface 58 (.agg #[])) 131 50 true).run Tryz.prog W = .ok (.tuple #[.agg #[.bool false, .string ⟨#[]⟩, .int .i64 0], .bool false]) W:=fun W=>by kernel_rfl
   rcases hw with rfl | rfl
   ·exact iK hR a0 hT hl hn hB hs (fun P w=>VW.null) rfl hm
   ·exact iD hR a0 hT hl hn hB hs (fun P w=>VW.null) rfl hm
  | bool b=>
   have hs:=fun w=>sK k0 b w
   have hm:∀W,(Instr.typeAssert (.iface 59 (.bool b)) 131 50 true).run Tryz.prog W = .ok (.tuple #[.agg #[.bool false, .string ⟨#[]⟩, .int .i64 0], .bool false]) W:=fun W=>by kernel_rfl
   rcases hw with rfl | rfl
   ·exact iK hR a0 hT hl hn hB hs (fun P w=>VW.bool b) rfl hm
   ·exact iD hR a0 hT hl hn hB hs (fun P w=>VW.bool b) rfl hm
  | num d hd=>
   have hs:=fun w=>xn k0 d w
   rcases hw with rfl | rfl
   ·exact zl hR a0 hT hl hn hB hs (fun P w=>VW.num d) d rfl hd
   ·exact yr hR a0 hT hl hn hB hs (fun P w=>VW.num d) d rfl hd
 ·have hs:=fun w=>vG k0 s w
  have hm:∀W,(Instr.typeAssert (.iface 60 (.string s)) 131 50 true).run Tryz.prog W = .ok (.tuple #[.agg #[.bool false, .string ⟨#[]⟩, .int .i64 0], .bool false]) W:=fun W=>by kernel_rfl
  rcases hw with rfl | rfl
  ·exact iK hR a0 hT hl hn hB hs (fun P w=>VW.text s) rfl hm
  ·exact iD hR a0 hT hl hn hB hs (fun P w=>VW.text s) rfl hm
theorem CF {d:Option JV}(h:wN want frs d):want<8:=by
 rcases want with _ | _ | _ | _ | _ | _ | _ | _ | n <;> first | omega | exact h.elim
theorem mw {N:ByteArray->Prop}(h:dY frs<=1000000000)(hw:∀f fs,frs=f::fs->bZ f=false):jz frs:=by
 refine⟨by have:=kq frs;omega,fun f fs e=>⟨hw f fs e, ?_⟩⟩;subst e;have:=mA f fs;omega
def F1 (B rb lb xb:Nat)(v:Value)(xs:List UInt8)(c:de)(k nd:Nat)(w:World)(e:Ending)(w':World):Prop:= ∃nd',nd'<=nd+1/\EI B rb lb xb v xs c k nd' false w e w'
theorem Bu {c c':de}{x:UInt8}{p:Int}(hM:jZ w)(h:PS B rb lb xb v xs c k nd false w)(a4:c.ok jU)(hs:dm c (.mark x)=some c')(hc:dY c.frs<=1000000000)(hn:nd<=1000000000)(hB:B<=w.heap.size) :
  Calls Tryz.prog 109 #[.pointer (some ⟨rb,0,none⟩), .agg #[.int .i64 p, .int .u8 x.toNat]] w (F1 B rb lb xb v xs c' k nd w):=by
 obtain⟨frs,want,done⟩:=c;obtain⟨h1,h2,h3⟩:=a4;obtain⟨hR,bs,a0⟩:=h;simp only at h1 h2 h3 hR a0 hc;have hlen:=kq frs;have a1:=CF h3;simp only [dm] at hs
 split at hs
 case isFalse=>cases hs
 rename_i hm
 rcases B3 hm with ⟨hx,hw⟩ | ⟨hx,hw⟩ | ⟨hx,hw⟩ | ⟨hx,hw⟩ | ⟨hx,hw⟩
 ·obtain⟨hd,hq⟩:=du h3 hw
  subst hd;rcases hx with rfl | rfl
  ·rw [if_pos rfl] at hs
   obtain rfl:=Zh hs;exact(fy hM a1 hm hR a0 hB (.open5 _ (by omega) hn hq)).mono fun e w' h=>⟨_,Za _,h⟩
  ·rw [if_neg (by decide),if_pos rfl] at hs
   obtain rfl:=Zh hs;exact(fy hM a1 hm hR a0 hB (.open6 _ (by omega) hn hq)).mono fun e w' h=>⟨_,Za _,h⟩
 ·subst hx
  rw [if_neg (by decide),if_neg (by decide)] at hs
  cases frs with
  | nil=>cases hs
  | cons f fs=>
   simp only [true_or,if_true] at hs;obtain rfl:=Zh hs;have a5:=mA f fs;have a6:dY fs<=dY (f::fs):=by simp [dY]
   have hob:f.obj=false:=by
    rcases hw with rfl | rfl
    ·obtain⟨-,g,gs,e,h⟩:=h3;injection e with e _;rw [e];exact h
    ·obtain⟨-,g,gs,e,h⟩:=h3;injection e with e _;rw [e];exact h
   have a3:done=none:=by rcases hw with rfl | rfl <;> exact h3.1
   subst a3;have a2:=h1 f (by simp);exact(fy hM a1 hm hR a0 hB (.close5 _ _ hob (a2.list hob).2 a2 (by omega) (by omega) (mw (N:=jU) (by omega) (fun g gs e=>h2 g (by rw [List.tail_cons,e];simp))) (by omega))).mono fun e w' h=>⟨_,Nat.le_succ _,h⟩
 ·subst hx
  rw [if_neg (by decide),if_neg (by decide)] at hs
  cases frs with
  | nil=>cases hs
  | cons f fs=>
   simp only [or_true,if_true] at hs;obtain rfl:=Zh hs;have a5:=mA f fs;have a6:dY fs<=dY (f::fs):=by simp [dY]
   have hob:f.obj=true/\f.name=none:=by
    rcases hw with rfl | rfl
    ·obtain⟨-,g,gs,e,h⟩:=h3;injection e with e _;rw [e];exact h
    ·obtain⟨-,g,gs,e,h⟩:=h3;injection e with e _;rw [e];exact h
   have a3:done=none:=by rcases hw with rfl | rfl <;> exact h3.1
   subst a3;have a2:=h1 f (by simp);exact(fy hM a1 hm hR a0 hB (.close6 _ _ hob.1 hob.2 a2 (by omega) (by omega) (mw (N:=jU) (by omega) (fun g gs e=>h2 g (by rw [List.tail_cons,e];simp))) (by omega))).mono fun e w' h=>⟨_,Nat.le_succ _,h⟩
 ·obtain⟨rfl,rfl⟩:=And.intro hx hw
  rw [if_neg (by decide),if_neg (by decide)] at hs;obtain⟨rfl,f,fs,rfl,h5,h6⟩:=h3
  try simp only at hs
  rw [if_neg (by decide),if_neg (by decide)] at hs;obtain rfl:=Zh hs;exact(fy hM a1 hm hR a0 hB (.colon _)).mono fun e w' h=>⟨_,Nat.le_succ _,h⟩
 ·subst hx
  rw [if_neg (by decide),if_neg (by decide)] at hs
  cases frs with
  | nil=>cases hs
  | cons f fs=>
   try simp only at hs
   rw [if_neg (by decide)] at hs;simp only [if_true] at hs;obtain rfl:=Zh hs;rw [List.length_cons] at hlen;rcases hw with rfl | rfl
   ·obtain⟨rfl,g,gs,e,h5⟩:=h3
    injection e with e1 e2
    subst e1 e2;have:=fy (p:=p) hM a1 hm hR a0 hB (.comma5 _ _ h5 (by omega));simp only [h5,Bool.false_eq_true,if_false] at this ⊢;exact this.mono fun e w' h=>⟨_,Nat.le_succ _,h⟩
   ·obtain⟨rfl,g,gs,e,h5,h6⟩:=h3
    injection e with e1 e2
    subst e1 e2;have:=fy (p:=p) hM a1 hm hR a0 hB (.comma6 _ _ h5 (by omega));simp only [h5,if_true] at this ⊢;exact this.mono fun e w' h=>⟨_,Nat.le_succ _,h⟩
theorem iz.lexed {k':Nat}(h:iz B w rb lb xb v xs frs want k nd fin by_ dp ex ov nv maps)(hl:oQ w' lb v xs k')(hc:bl (fun i=>i=lb) w w')(hk:k'<=xs.length):iz B w' rb lb xb v xs frs want k' nd fin by_ dp ex ov nv maps/\Kp lZ w w':=by
 obtain⟨h1,h2,h3,h4,h5,h6,h7,h8,h9,a2⟩:=h;have a0:Kp (fun e=>e=227) w w':=Kp.of_chg hc fun g e _=>by subst e;exact⟨_,_,_,h3.1,rfl⟩
 have a1:au w' B v xs:=al h5 a0.keeps (by decide);exact⟨⟨a0.heap h1 (by decide),h2,hl,h4,a1,al h6 a0.keeps (by decide),al h7 a0.keeps (by decide),jN.seens h8 a0,h9,hk⟩,a0.imp fun e he=> .inr (.inl he)⟩
theorem BO {done:Option JV}(hE:pk w aU aE)(hR:iC B w rb lb xb v xs [] 7 k nd false)(b1:eW B w xb [] done bs)(hl:xs.length<=1000000000)(hB:B<=w.heap.size)(hd: (xs.drop k).dropWhile cD = []) :
  Calls Tryz.prog 81 #[.pointer (some ⟨rb,0,none⟩)] w fun e w'=>e = .returned (.tuple #[])/\bW B w w'/\iC B w' rb lb xb v xs [] 7 xs.length nd true/\eW B w' xb [] done bs:=by
 obtain⟨by_,dp,ex,ov,nv,maps,hA⟩:=hR;have c0:=aa hA.row (j:=0) (u:= .pointer (some ⟨lb,0,none⟩)) rfl;have b0:=Qa (uN hE hA.lex hA.le hl hd);have HA:=Qa hA;have b4:=Qa b1;have HB:=Qa hB;have q1:=F0;clear hE b1 hl hB hd hA;go_enter Tryz.func81,Tryz.ntmps81;go_wp2_with fail;(with_reducible refine b0.out.mono ?_);rintro e w1 ⟨rfl,b3,a7⟩;obtain⟨b2,a6⟩:=HA.out.lexed b3 a7 (Za _);have a2:=b4.out.kp a6 bI;have a4:Below B w w1:=a7.below HB.out fun i e=>by rw [e];exact HA.out.llow
 have a0:=ac w1 (.cells #[.int .i64 xs.length] 234);obtain⟨w2,a9⟩:∃w2,w1.alloc (.cells #[.int .i64 xs.length] 234)=w2:=⟨_,rfl⟩;rw [a9] at a0;have a3:=b2.below a0;have c14:=aa a3.row (j:=14) (u:= .int .i64 7) rfl;have c15:=aa a3.row (j:=15) (u:= .bool false) rfl;have f15:=aj a3.row 15;have a1:=Zb (Zb HB.out a4.size) a0.size;have Hs:=Qa (a3.setDone a1 true);have b5:=Qa ((bW.rd a4 a6).trans (bW.new a0 (Zb HB.out a4.size)));have a5:=Qa (a2.below a0);clear b3 a7 b2 a6 a2 a4 a0 a3 a1 c0 b0;go_wp2_with fail;go_end0
 try rw [a9]
 exact⟨rfl,b5.out.trans (bW.rd Hs.out.1 Hs.out.2.1),Hs.out.2.2.s,a5.out.kp Hs.out.2.1 bI⟩
structure jg (w0:World) (rb lb xb:Nat) (v:Value) (xs:List UInt8) (c:de) (k nd:Nat) (w:World) (aU aE:Addr):Prop where
 env:pk w0 aU aE
 may:jZ w0
 ps:PS w0.heap.size rb lb xb v xs c k nd false w
 ok:c.ok jU
 cnt:dY c.frs<=1000000000
 nds:nd<=1000000000
 len:xs.length<=1000000000
 below:Below w0.heap.size w0 w
structure Gw (B:Nat) (rb lb xb:Nat) (v:Value) (xs:List UInt8) (c:de) (k nd:Nat) (w w1:World):Prop where
 ps:PS B rb lb xb v xs c k nd false w1
 below:Below B w w1
 kp:Kp lZ w w1
theorem jg.next {c:de}(h:jg w0 rb lb xb v xs c k nd w aU aE){y:UInt8}(hd: (xs.drop k).dropWhile cD=y::ys){t:rF}(hx:df (y::ys)=some (t,n)) :
  Calls Tryz.prog 107 #[.pointer (some ⟨lb,0,none⟩)] w fun e w1=>e = .returned (.tuple #[mg (xs.length - (ys.length+1)) t, .nilIface])/\Gw w0.heap.size rb lb xb v xs c (xs.length - (ys.length+1)+n) nd w w1:=by
 obtain⟨⟨by_,dp,ex,ov,nv,maps,hA⟩,bs,a2⟩:=h.ps;refine(tS (h.env.below h.below) hA.lex hA.le h.len hd hx).mono ?_;rintro e w1 ⟨rfl,a4,a1⟩;have hn:=(oA hx).2;rw [List.length_cons] at hn;have a5:ys.length+1<=xs.length:=by
  have h1:=dZ (xs.drop k);rw [hd,List.length_cons,List.length_drop] at h1;omega
 obtain⟨a3,a0⟩:=hA.lexed a4 a1 (by omega);exact⟨rfl,⟨a3.s,bs,a2.kp a0 bI⟩,a1.below h.below.size fun i e=>by rw [e];exact hA.llow,a0⟩
theorem yp {c c':de}(h:jg w0 rb lb xb v xs c k nd w aU aE){y:UInt8}(hd: (xs.drop k).dropWhile cD=y::ys){x:UInt8}(hx:df (y::ys)=some (.mark x,n))(hs:dm c (.mark x)=some c') :
  Calls Tryz.prog 81 #[.pointer (some ⟨rb,0,none⟩)] w fun e w'=>F1 w0.heap.size rb lb xb v xs c' (xs.length - (ys.length+1)+n) nd w e w':=by
 obtain⟨by_,dp,ex,ov,nv,maps,hA⟩:=h.ps.1;have c0:=aa hA.row (j:=0) (u:= .pointer (some ⟨lb,0,none⟩)) rfl;have a4:=Qa (h.next hd hx);have H:=Qa h;have Hs:=Qa hs;have q1:=CX;have q2:=rS;clear h hd hx hs hA;go_enter Tryz.func81,Tryz.ntmps81;go_wp2_with fail;(with_reducible refine a4.out.mono ?_);rintro e w1 ⟨rfl,hL⟩;have HL:=Qa hL;have a0:=ac w1 (.cells #[.int .i64 (xs.length - (ys.length+1):Nat), .int .u8 x.toNat] 239);have a1:=Zb H.out.below.size hL.below.size;have a2:=Qa (Bu (p:=(xs.length - (ys.length+1):Nat)) (H.out.may.below ((H.out.below.trans hL.below).trans (a0.mono a1))) (⟨hL.ps.1.below a0,by obtain⟨bs,hb⟩:=hL.ps.2;exact⟨bs,hb.below a0⟩⟩:PS w0.heap.size rb lb xb v xs c _ nd false _) H.out.ok Hs.out H.out.cnt H.out.nds (Zb a1 a0.size));have a3:=Qa ((bW.rd hL.below hL.kp).trans (bW.new a0 a1));clear hL a0 a1 c0 a4;obtain⟨z,hz⟩:∃z:Int,((xs.length - (ys.length+1):Nat):Int)=z:=⟨_,rfl⟩;rw [show mg (xs.length - (ys.length+1)) (.mark x) = .iface 239 (.agg #[.int .i64 (xs.length - (ys.length+1):Nat), .int .u8 x.toNat]) from rfl];rw [hz] at a2 a3 ⊢;clear hz;go_wp2_with fail;(with_reducible refine a2.out.mono ?_);rintro e w2 ⟨nd',h1,rfl,h2,h3⟩;have R:=Qa (And.intro h1 (And.intro h2 h3));clear h1 h2 h3;go_wp2_with fail;go_end0;exact⟨nd',R.out.1,rfl,a3.out.trans R.out.2.1,R.out.2.2⟩
theorem zr (hw:want=2\/want=3)(h:jg w0 rb lb xb v xs ⟨f::fs,want,none⟩ k nd w aU aE)(ho:f.obj=true)(hn:f.name=none){y:UInt8}(hd: (xs.drop k).dropWhile cD=y::ys)(hx:df (y::ys)=some (.str s,n))(a7:s∉f.mems.map Prod.fst) :
  Calls Tryz.prog 81 #[.pointer (some ⟨rb,0,none⟩)] w fun e w'=>F1 w0.heap.size rb lb xb v xs ⟨{f with name:=some s}::fs,4,none⟩ (xs.length - (ys.length+1)+n) nd w e w':=by
 obtain⟨by_,dp,ex,ov,nv,maps,hA⟩:=h.ps.1;have c0:=aa hA.row (j:=0) (u:= .pointer (some ⟨lb,0,none⟩)) rfl;have b0:=Qa (h.next hd hx);have H:=Qa h;have b1:jU s:=uf (by have h1:=dZ (xs.drop k);rw [hd,List.length_drop] at h1;have:=h.len;omega) hx;have hcn:=h.cnt;have b2:=mA f fs;have b3:=Qa b1;have b4:=Qa a7;have q1:=vB;have q2:=nf;have q3:=lL;have a5:=Qa (show fs.length<=1000000000/\f.mems.length<=1000000000 by simp only at hcn;omega);clear h hd hx hA b1 a7 hcn b2;rcases hw with rfl | rfl
 all_goals
  go_enter Tryz.func81,Tryz.ntmps81;go_wp2_with fail;(with_reducible refine b0.out.mono ?_);rintro e w1 ⟨rfl,hL⟩;have a0:=ac w1 (.cells #[.int .i64 (xs.length - (ys.length+1):Nat), .string s] 242);have a1:=Zb H.out.below.size hL.below.size;have a3:=hL.ps.1.below a0;obtain⟨bs,a4⟩:=hL.ps.2;have a6:=Qa (BB (p:=(xs.length - (ys.length+1):Nat)) a3 (a4.below a0) ho hn b4.out b3.out.2 a5.out.1 a5.out.2 (Zb a1 a0.size));have a9:=Qa ((bW.rd hL.below hL.kp).trans (bW.new a0 a1));obtain⟨by9,dp9,ex9,ov9,nv9,maps9,a2⟩:=a3;have c14:=aa a2.row (j:=14) rfl;simp only [dH] at c14;clear hL a0 a1 c0 b0 a2 a4;obtain⟨z,hz⟩:∃z:Int,((xs.length - (ys.length+1):Nat):Int)=z:=⟨_,rfl⟩;rw [show mg (xs.length - (ys.length+1)) (.str s) = .iface 242 (.agg #[.int .i64 (xs.length - (ys.length+1):Nat), .string s]) from rfl];rw [hz] at a6 a9 c14 ⊢;clear hz;go_wp2_with fail;(with_reducible refine a6.out.mono ?_);rintro e w2 ⟨rfl,h2,h3⟩;have R:=Qa (And.intro h2 h3);clear h2 h3;go_wp2_with fail;(try simp only [Exit.inBlock,Exit.then]);refine Zg (results_none rfl _ _ _) rfl ?_;exact⟨nd,Nat.le_succ _,rfl,a9.out.trans R.out.1,R.out.2⟩
theorem y9 (hw:want=0\/want=1)(h:jg w0 rb lb xb v xs ⟨frs,want,none⟩ k nd w aU aE){y:UInt8}(hd: (xs.drop k).dropWhile cD=y::ys)(hx:df (y::ys)=some (.str s,n)) :
  Calls Tryz.prog 81 #[.pointer (some ⟨rb,0,none⟩)] w fun e w'=>F1 w0.heap.size rb lb xb v xs (cC frs (dN s)) (xs.length - (ys.length+1)+n) nd w e w':=by
 obtain⟨by_,dp,ex,ov,nv,maps,hA⟩:=h.ps.1;have c0:=aa hA.row (j:=0) (u:= .pointer (some ⟨lb,0,none⟩)) rfl;have a9:=Qa (h.next hd hx);have H:=Qa h;have hcn:=h.cnt;have b2:=kq frs;have a6:jz frs:=mw (N:=jU) hcn (du h.ok.want hw).2;have b1:=Qa a6;have q1:=vB;have q2:=nf;have q3:=lL;have b0:=Qa (show frs.length<=1000000000 by simp only at hcn;omega);clear h hd hx hA hcn b2 a6;rcases hw with rfl | rfl
 all_goals
  go_enter Tryz.func81,Tryz.ntmps81;go_wp2_with fail;(with_reducible refine a9.out.mono ?_);rintro e w1 ⟨rfl,hL⟩;have a0:=ac w1 (.cells #[.int .i64 (xs.length - (ys.length+1):Nat), .string s] 242);have a1:=Zb H.out.below.size hL.below.size;have a4:=hL.ps.1.below a0;obtain⟨bs,a5⟩:=hL.ps.2;have a2:=Qa (sG (k0:=xs.length - (ys.length+1)) (t:= .str s) (j:=dN s) (.inr ⟨s,rfl,rfl⟩) (by simp) a4 (a5.below a0) b1.out b0.out H.out.nds (Zb a1 a0.size));rw [show mg (xs.length - (ys.length+1)) (.str s) = .iface 242 (.agg #[.int .i64 (xs.length - (ys.length+1):Nat), .string s]) from rfl] at a2;have a7:=Qa ((bW.rd hL.below hL.kp).trans (bW.new a0 a1));obtain⟨by9,dp9,ex9,ov9,nv9,maps9,a3⟩:=a4;have c14:=aa a3.row (j:=14) rfl;simp only [dH] at c14;clear hL a0 a1 c0 a9 a3 a5;obtain⟨z,hz⟩:∃z:Int,((xs.length - (ys.length+1):Nat):Int)=z:=⟨_,rfl⟩;rw [show mg (xs.length - (ys.length+1)) (.str s) = .iface 242 (.agg #[.int .i64 (xs.length - (ys.length+1):Nat), .string s]) from rfl];rw [hz] at a2 a7 c14 ⊢;clear hz;go_wp2_with fail;(with_reducible refine a2.out.mono ?_);rintro e w2 ⟨rfl,h2,h3⟩;have R:=Qa (And.intro h2 h3);clear h2 h3;go_wp2_with fail;go_end0;exact⟨nd+1,Za _,rfl,a7.out.trans R.out.1,R.out.2⟩
theorem yA (hw:want=0\/want=1)(h:jg w0 rb lb xb v xs ⟨frs,want,none⟩ k nd w aU aE){y:UInt8}(hd: (xs.drop k).dropWhile cD=y::ys)(hx:df (y::ys)=some (.leaf j,n)) :
  Calls Tryz.prog 81 #[.pointer (some ⟨rb,0,none⟩)] w fun e w'=>F1 w0.heap.size rb lb xb v xs (cC frs j) (xs.length - (ys.length+1)+n) nd w e w':=by
 obtain⟨by_,dp,ex,ov,nv,maps,hA⟩:=h.ps.1;have c0:=aa hA.row (j:=0) (u:= .pointer (some ⟨lb,0,none⟩)) rfl;have a6:=Qa (h.next hd hx);have H:=Qa h;have hcn:=h.cnt;have b3:=kq frs;have a4:jz frs:=mw (N:=jU) hcn (du h.ok.want hw).2;have b0:=Qa a4;have a0:=yP hx;have b1:=Qa a0;have a7:=Qa (show frs.length<=1000000000 by simp only at hcn;omega);have Hw:=Qa hw;obtain⟨tt,tx,a3,b5,b4,b6⟩:∃tt tx,mg (xs.length - (ys.length+1)) (.leaf j) = .iface tt tx/\(∀W,(Instr.typeAssert (.iface tt tx) 229 234 true).run Tryz.prog W = .ok (.tuple #[.agg #[.int .i64 0], .bool false]) W)/\
   (∀W,(Instr.typeAssert (.iface tt tx) 229 239 true).run Tryz.prog W = .ok (.tuple #[.agg #[.int .i64 0, .int .u8 0], .bool false]) W)/\(∀W,(Instr.typeAssert (.iface tt tx) 229 242 true).run Tryz.prog W = .ok (.tuple #[.agg #[.int .i64 0, .string ⟨#[]⟩], .bool false]) W):=by
  cases a0 with
  | null=>exact⟨_,_,rfl,lX _,kQ _,fV _⟩
  | bool b=>exact⟨_,_,rfl,lX _,kQ _,fV _⟩
  | num d hd=>exact⟨_,_,rfl,vU _,rL _,wV _⟩
 have a9:=Qa a3;clear h hd hx hA hcn b3 a4 a0 hw a3;go_enter Tryz.func81,Tryz.ntmps81;go_wp2_with fail;(with_reducible refine a6.out.mono ?_);rintro e w1 ⟨rfl,hL⟩;have a2:=Zb H.out.below.size hL.below.size;obtain⟨bs,a1⟩:=hL.ps.2;have a5:=Qa (sG (k0:=xs.length - (ys.length+1)) (t:= .leaf j) (j:=j) (.inl ⟨rfl,b1.out⟩) Hw.out hL.ps.1 a1 b0.out a7.out H.out.nds a2);have b2:=Qa (bW.rd hL.below hL.kp);rw [a9.out] at a5 ⊢;clear hL a2 c0 a6 a1;go_wp2_with fail;(with_reducible refine a5.out.mono ?_);rintro e w2 ⟨rfl,h2,h3⟩;have R:=Qa (And.intro h2 h3);clear h2 h3;go_wp2_with fail;go_end0;exact⟨nd+1,Za _,rfl,b2.out.trans R.out.1,R.out.2⟩
theorem AE {c c':de}(h:jg w0 rb lb xb v xs c k nd w aU aE){y:UInt8}(hd: (xs.drop k).dropWhile cD=y::ys){t:rF}(hx:df (y::ys)=some (t,n))(hs:dm c t=some c') :
  Calls Tryz.prog 81 #[.pointer (some ⟨rb,0,none⟩)] w fun e w'=>F1 w0.heap.size rb lb xb v xs c' (xs.length - (ys.length+1)+n) nd w e w':=by
 cases t with
 | mark x=>exact yp h hd hx hs
 | leaf j=>
  obtain⟨frs,want,done⟩:=c;simp only [dm] at hs
  split at hs
  ·rename_i hw
   obtain rfl:=Zh hs;have h0:=(du h.ok.want hw).1;simp only at h0;subst h0;exact yA hw h hd hx
  ·cases hs
 | str s=>
  obtain⟨frs,want,done⟩:=c;simp only [dm] at hs
  split at hs
  ·rename_i hw
   have h4:done=none/\∃f fs,frs=f::fs/\f.obj=true/\f.name=none:=by
    have h3:=h.ok.want;rcases hw with rfl | rfl <;> exact h3
   obtain⟨rfl,f,fs,rfl,h5,h6⟩:=h4
   try simp only at hs
   split at hs
   ·cases hs
   ·rename_i hn
    obtain rfl:=Zh hs;refine zr hw h h5 h6 hd hx fun hm=>hn ?_
    obtain⟨m,a0,e⟩:=List.mem_map.1 hm;exact List.any_eq_true.2 ⟨m,a0,by simp [e]⟩
  ·split at hs
   ·rename_i hw
    obtain rfl:=Zh hs;have h0:=(du h.ok.want hw).1;simp only at h0;subst h0;exact y9 hw h hd hx
   ·cases hs
