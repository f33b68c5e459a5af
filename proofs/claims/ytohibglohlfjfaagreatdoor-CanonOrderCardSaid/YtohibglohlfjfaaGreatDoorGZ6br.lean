import Derived.Test.YtohibglohlfjfaaGreatDoorGZ6bq
set_option linter.unusedVariables false
set_option linter.unusedSimpArgs false
set_option maxHeartbeats 64000000
set_option maxRecDepth 100000
namespace Go.Proofs.YtohibglohlfjfaaGreatDoor
open Go.RowKit
variable {aE aU:Addr}{fin:Bool}{f:Fr}{by_ dp ex:Int}{j:JV}{frs fs:List Fr}{maps:List Nat}{xs ys:List UInt8}{B k0 lb n nd rb want xb:Nat}{nv ov v:Value}{w w' w0:World}
theorem uy:∀ (f:Nat) (xs out:List UInt8) (n:Nat) (p:List UInt8×Nat),fo out->out.length<=4*n->fG f xs out n=some p->fo p.1/\p.1.length<=4*p.2
 |0,_,_,_,_,_,_,h=>by cases h
 |f+1,xs,out,n,p,hu,hl,h=>by
  unfold fG at h
  split at h
  ·cases h
  ·injection h with h
   subst h;exact⟨hu,by simp only;omega⟩
  ·rename_i c k hp
   obtain⟨h1,h2,-⟩:=mQ hp;have h3:=fV c;exact uy f _ _ _ p (hu.snoc h1) (by rw[List.length_append];simp only at h2 h3 ⊢;omega) h
theorem sq {s:ByteArray}(hl:xs.length<=1000000000)(h:dt xs=some (.str s,n)):jB s:=by
 cases xs with
 |nil=>cases h
 |cons x xs=>
  simp only[dt] at h
  split at h
  ·injection h with h;injection h with h _;cases h
  ·rw[Option.map_eq_some_iff] at h;obtain⟨j,-,h⟩:=h;injection h with h _;cases h
  ·rw[Option.map_eq_some_iff] at h;obtain⟨j,-,h⟩:=h;injection h with h _;cases h
  ·rw[Option.map_eq_some_iff] at h;obtain⟨p,hp,h⟩:=h;injection h with h _
   injection h with h
   subst h;unfold mD at hp
   split at hp
   ·rename_i ys e
    injection e with e1 e2
    subst e2;obtain⟨h1,h2⟩:=uy _ _ _ _ _ fo.nil (Zk _) hp;have h3:=rM _ _ _ _ _ hp;rw[List.length_cons] at hl;refine⟨by obtain⟨cs,a,b⟩:=h1;exact⟨cs,a,by simpa using b⟩,?_⟩
    show(p.1.toArray).size<=_
    rw[List.size_toArray];omega
   ·cases hp
  ·cases h
theorem AR (h:dt xs=some (.leaf j,n)):sE j:=by
 cases xs with
 |nil=>cases h
 |cons x xs=>
  simp only[dt] at h
  split at h
  ·injection h with h;injection h with h _;cases h
  ·rw[Option.map_eq_some_iff] at h;obtain⟨j',hj,h⟩:=h;injection h with h _
   injection h with h
   subst h;unfold sK at hj
   split at hj
   ·obtain rfl:=Zi hj;exact .null
   ·split at hj
    ·obtain rfl:=Zi hj;exact .bool true
    ·split at hj
     ·obtain rfl:=Zi hj;exact .bool false
     ·cases hj
  ·rw[Option.map_eq_some_iff] at h;obtain⟨p,hp,h⟩:=h;injection h with h _
   injection h with h
   subst h;unfold nJ at hp;simp only at hp
   split at hp
   ·rw[Option.map_eq_some_iff] at hp;obtain⟨d,hd,rfl⟩:=hp;refine .num d ?_;unfold it at hd;simp only at hd
    split at hd
    ·obtain rfl:=Zi hd;simp
    ·split at hd
     ·rename_i hx;obtain rfl:=Zi hd;exact hx
     ·cases hd
   ·cases hp
  ·rw[Option.map_eq_some_iff] at h;obtain⟨p,-,h⟩:=h;injection h with h _;cases h
  ·cases h
theorem FK {t:sd}(hl:xs.length<=1000000000)(h:dt xs=some (t,n)):Ge jB t:=by
 cases t with
 |mark c=>trivial
 |leaf j=>trivial
 |str s=>exact sq hl h
theorem tP {k:Nat}{t:sd}{bs:List Nat}(ht:(t =.leaf j/\sE j)\/∃s,t =.str s/\j=eQ s)(hw:want=0\/want=1)(hR:jO B w rb lb xb v xs frs want k nd false)(a0:fi B w xb frs none bs)(hT:kv frs)(hl:frs.length<=1000000000)(hn:nd<=1000000000)(hB:B<=w.heap.size) :
  Calls Tryz.prog 145 #[.pointer (some ⟨rb,0,none⟩),mw k0 t] w (IA B rb lb xb v xs (cV frs j) k (nd+1) false w):=by
 rcases ht with ⟨rfl,hj⟩|⟨s,rfl,rfl⟩
 ·cases hj with
  |null=>
   have hs:=fun w=>tD k0 w
   have hm:∀W,(Instr.typeAssert (.iface 49 (.agg #[])) 137 113 true).run Tryz.prog W =.ok (.tuple #[.agg #[.bool false,.string ⟨#[]⟩,.int .i64 0],.bool false]) W:=fun W=>by kernel_rfl
   exact j7 hw hR a0 hT hl hn hB hs (fun P w=>VW.null) rfl hm
  |bool b=>
   have hs:=fun w=>tj k0 b w
   have hm:∀W,(Instr.typeAssert (.iface 50 (.bool b)) 137 113 true).run Tryz.prog W =.ok (.tuple #[.agg #[.bool false,.string ⟨#[]⟩,.int .i64 0],.bool false]) W:=fun W=>by kernel_rfl
   exact j7 hw hR a0 hT hl hn hB hs (fun P w=>VW.bool b) rfl hm
  |num d hd=>
   have hs:=fun w=>xy k0 d w
   exact BO hw hR a0 hT hl hn hB hs (fun P w=>VW.num d) d rfl hd
 ·have hs:=fun w=>wH k0 s w
  have hm:∀W,(Instr.typeAssert (.iface 51 (.string s)) 137 113 true).run Tryz.prog W =.ok (.tuple #[.agg #[.bool false,.string ⟨#[]⟩,.int .i64 0],.bool false]) W:=fun W=>by kernel_rfl
  exact j7 hw hR a0 hT hl hn hB hs (fun P w=>VW.text s) rfl hm
theorem Fp {d:Option JV}(h:ww want frs d):want<8:=by
 rcases want with _|_|_|_|_|_|_|_|n <;> first|omega|exact h.elim
theorem mI {N:ByteArray->Prop}(h:eb frs<=1000000000)(hw:∀f fs,frs=f::fs->bZ f=false):kv frs:=by
 refine⟨by have:=ko frs;omega,fun f fs e=>⟨hw f fs e,?_⟩⟩;subst e;have:=mM f fs;omega
def Ix (B rb lb xb:Nat)(v:Value)(xs:List UInt8)(c:dl)(k nd:Nat)(w:World)(e:Ending)(w':World):Prop:= ∃nd',nd'<=nd+1/\IA B rb lb xb v xs c k nd' false w e w'
theorem DG {k:Nat}{c c':dl}{x:UInt8}{p:Int}(hM:kB w)(h:PS B rb lb xb v xs c k nd false w)(a6:c.ok jB)(hs:dK c (.mark x)=some c')(hc:eb c.frs<=1000000000)(hn:nd<=1000000000)(hB:B<=w.heap.size) :
  Calls Tryz.prog 143 #[.pointer (some ⟨rb,0,none⟩),.agg #[.int .i64 p,.int .u8 x.toNat]] w (Ix B rb lb xb v xs c' k nd w):=by
 obtain⟨frs,want,done⟩:=c;obtain⟨h1,h2,h3⟩:=a6;obtain⟨hR,bs,a0⟩:=h;simp only at h1 h2 h3 hR a0 hc;have hlen:=ko frs;have a1:=Fp h3;simp only[dK] at hs
 split at hs
 case isFalse=>cases hs
 rename_i hm
 rcases BT hm with ⟨hx,hw⟩|⟨hx,hw⟩|⟨hx,hw⟩|⟨hx,hw⟩|⟨hx,hw⟩
 ·obtain⟨hd,hq⟩:=dj h3 hw;subst hd;rcases hx with rfl|rfl
  ·rw[if_pos rfl] at hs;obtain rfl:=Zi hs;exact(fE hM a1 hm hR a0 hB (.open5 _ (by omega) hn hq)).mono fun e w' h=>⟨_,Zb _,h⟩
  ·rw[if_neg (by decide),if_pos rfl] at hs;obtain rfl:=Zi hs;exact(fE hM a1 hm hR a0 hB (.open6 _ (by omega) hn hq)).mono fun e w' h=>⟨_,Zb _,h⟩
 ·subst hx;rw[if_neg (by decide),if_neg (by decide)] at hs
  cases frs with
  |nil=>cases hs
  |cons f fs=>
   simp only[true_or,if_true] at hs;obtain rfl:=Zi hs;have a4:=mM f fs;have a5:eb fs<=eb (f::fs):=by simp[eb]
   have hob:f.obj=false:=by
    rcases hw with rfl|rfl
    ·obtain⟨-,g,gs,e,h⟩:=h3;injection e with e _;rw[e];exact h
    ·obtain⟨-,g,gs,e,h⟩:=h3;injection e with e _;rw[e];exact h
   have a3:done=none:=by rcases hw with rfl|rfl <;> exact h3.1
   subst a3;have a2:=h1 f (by simp);exact(fE hM a1 hm hR a0 hB (.close5 _ _ hob (a2.list hob).2 a2 (by omega) (by omega) (mI (N:=jB) (by omega) (fun g gs e=>h2 g (by rw[List.tail_cons,e];simp))) (by omega))).mono fun e w' h=>⟨_,Nat.le_succ _,h⟩
 ·subst hx;rw[if_neg (by decide),if_neg (by decide)] at hs
  cases frs with
  |nil=>cases hs
  |cons f fs=>
   simp only[or_true,if_true] at hs;obtain rfl:=Zi hs;have a4:=mM f fs;have a5:eb fs<=eb (f::fs):=by simp[eb]
   have hob:f.obj=true/\f.name=none:=by
    rcases hw with rfl|rfl
    ·obtain⟨-,g,gs,e,h⟩:=h3;injection e with e _;rw[e];exact h
    ·obtain⟨-,g,gs,e,h⟩:=h3;injection e with e _;rw[e];exact h
   have a3:done=none:=by rcases hw with rfl|rfl <;> exact h3.1
   subst a3;have a2:=h1 f (by simp);exact(fE hM a1 hm hR a0 hB (.close6 _ _ hob.1 hob.2 a2 (by omega) (by omega) (mI (N:=jB) (by omega) (fun g gs e=>h2 g (by rw[List.tail_cons,e];simp))) (by omega))).mono fun e w' h=>⟨_,Nat.le_succ _,h⟩
 ·obtain⟨rfl,rfl⟩:=And.intro hx hw;rw[if_neg (by decide),if_neg (by decide)] at hs;obtain⟨rfl,f,fs,rfl,h5,h6⟩:=h3
  try simp only at hs
  rw[if_neg (by decide),if_neg (by decide)] at hs;obtain rfl:=Zi hs;exact(fE hM a1 hm hR a0 hB (.colon _)).mono fun e w' h=>⟨_,Nat.le_succ _,h⟩
 ·subst hx;rw[if_neg (by decide),if_neg (by decide)] at hs
  cases frs with
  |nil=>cases hs
  |cons f fs=>
   try simp only at hs
   rw[if_neg (by decide)] at hs;simp only[if_true] at hs;obtain rfl:=Zi hs;rw[List.length_cons] at hlen;rcases hw with rfl|rfl
   ·obtain⟨rfl,g,gs,e,h5⟩:=h3;injection e with e1 e2
    subst e1 e2;have:=fE (p:=p) hM a1 hm hR a0 hB (.comma5 _ _ h5 (by omega));simp only[h5,Bool.false_eq_true,if_false] at this ⊢;exact this.mono fun e w' h=>⟨_,Nat.le_succ _,h⟩
   ·obtain⟨rfl,g,gs,e,h5,h6⟩:=h3;injection e with e1 e2
    subst e1 e2;have:=fE (p:=p) hM a1 hm hR a0 hB (.comma6 _ _ h5 (by omega));simp only[h5,if_true] at this ⊢;exact this.mono fun e w' h=>⟨_,Nat.le_succ _,h⟩
theorem iu.lexed {k k':Nat}(h:iu B w rb lb xb v xs frs want k nd fin by_ dp ex ov nv maps)(hl:ph w' lb v xs k')(hc:aZ (fun i=>i=lb) w w')(hk:k'<=xs.length):iu B w' rb lb xb v xs frs want k' nd fin by_ dp ex ov nv maps/\Kp lL w w':=by
 obtain⟨h1,h2,h3,h4,h5,h6,h7,h8,h9,a2⟩:=h;have a0:Kp (fun e=>e=265) w w':=Kp.of_chg hc fun g e _=>by subst e;exact⟨_,_,_,h3.1,rfl⟩
 have a1:aq w' B v xs:=al h5 a0.keeps (by decide);exact⟨⟨a0.heap h1 (by decide),h2,hl,h4,a1,al h6 a0.keeps (by decide),al h7 a0.keeps (by decide),jC.seens h8 a0,h9,hk⟩,a0.imp fun e he=>.inr (.inl he)⟩
theorem DE {k:Nat}{bs:List Nat}{done:Option JV}(hE:qG w aU aE)(hR:jO B w rb lb xb v xs [] 7 k nd false)(a9:fi B w xb [] done bs)(hl:xs.length<=1000000000)(hB:B<=w.heap.size)(hd:(xs.drop k).dropWhile cW = []) :
  Calls Tryz.prog 101 #[.pointer (some ⟨rb,0,none⟩)] w fun e w'=>e =.returned (.tuple #[])/\cQ B w w'/\jO B w' rb lb xb v xs [] 7 xs.length nd true/\fi B w' xb [] done bs:=by
 obtain⟨by_,dp,ex,ov,nv,maps,hA⟩:=hR;have c0:=aa hA.row (j:=0) (u:=.pointer (some ⟨lb,0,none⟩)) rfl;have b3:=Qa (sV hE hA.lex hA.le hl hd);have HA:=Qa hA;have b5:=Qa a9;have HB:=Qa hB;have q1:=Gl;clear hE a9 hl hB hd hA;go_enter Tryz.func101,Tryz.ntmps101;go_wp2_with fail;refine Za b3 ?_;rintro e w1 ⟨rfl,b2,a5⟩;obtain⟨b1,a7⟩:=HA.out.lexed b2 a5 (Zb _);have a2:=b5.out.kp a7 bT;have a4:Below B w w1:=a5.below HB.out fun i e=>by rw[e];exact HA.out.llow
 have a0:=ac w1 (.cells #[.int .i64 xs.length] 272);obtain⟨w2,b0⟩:∃w2,w1.alloc (.cells #[.int .i64 xs.length] 272)=w2:=⟨_,rfl⟩;rw[b0] at a0;have a3:=b1.below a0;have c14:=aa a3.row (j:=14) (u:=.int .i64 7) rfl;have c15:=aa a3.row (j:=15) (u:=.bool false) rfl;have f15:=ak a3.row 15;have a1:=Zc (Zc HB.out a4.size) a0.size;have Hs:=Qa (a3.setDone a1 true);have b4:=Qa ((cQ.rd a4 a7).trans (cQ.new a0 (Zc HB.out a4.size)));have a6:=Qa (a2.below a0);clear b2 a5 b1 a7 a2 a4 a0 a3 a1 c0 b3;go_wp2_with fail;go_end0
 try rw[b0]
 exact⟨rfl,b4.out.trans (cQ.rd Hs.out.1 Hs.out.2.1),Hs.out.2.2.s,a6.out.kp Hs.out.2.1 bT⟩
structure iU (w0:World) (rb lb xb:Nat) (v:Value) (xs:List UInt8) (c:dl) (k nd:Nat) (w:World) (aU aE:Addr):Prop where
 env:qG w0 aU aE
 may:kB w0
 ps:PS w0.heap.size rb lb xb v xs c k nd false w
 ok:c.ok jB
 cnt:eb c.frs<=1000000000
 nds:nd<=1000000000
 len:xs.length<=1000000000
 below:Below w0.heap.size w0 w
structure Jq (B:Nat) (rb lb xb:Nat) (v:Value) (xs:List UInt8) (c:dl) (k nd:Nat) (w w1:World):Prop where
 ps:PS B rb lb xb v xs c k nd false w1
 below:Below B w w1
 kp:Kp lL w w1
theorem iU.next {k:Nat}{c:dl}(h:iU w0 rb lb xb v xs c k nd w aU aE){y:UInt8}(hd:(xs.drop k).dropWhile cW=y::ys){t:sd}(hx:dt (y::ys)=some (t,n)) :
  Calls Tryz.prog 141 #[.pointer (some ⟨lb,0,none⟩)] w fun e w1=>e =.returned (.tuple #[mw (xs.length - (ys.length+1)) t,.nilIface])/\Jq w0.heap.size rb lb xb v xs c (xs.length - (ys.length+1)+n) nd w w1:=by
 obtain⟨⟨by_,dp,ex,ov,nv,maps,hA⟩,bs,a2⟩:=h.ps;refine(vw (h.env.below h.below) hA.lex hA.le h.len hd hx).mono ?_;rintro e w1 ⟨rfl,a3,a1⟩;have hn:=(nH hx).2;rw[List.length_cons] at hn;have a5:ys.length+1<=xs.length:=by
  have h1:=il (xs.drop k);rw[hd,List.length_cons,List.length_drop] at h1;omega
 obtain⟨a4,a0⟩:=hA.lexed a3 a1 (by omega);exact⟨rfl,⟨a4.s,bs,a2.kp a0 bT⟩,a1.below h.below.size fun i e=>by rw[e];exact hA.llow,a0⟩
theorem Bm {k:Nat}{c c':dl}(h:iU w0 rb lb xb v xs c k nd w aU aE){y:UInt8}(hd:(xs.drop k).dropWhile cW=y::ys){x:UInt8}(hx:dt (y::ys)=some (.mark x,n))(hs:dK c (.mark x)=some c') :
  Calls Tryz.prog 101 #[.pointer (some ⟨rb,0,none⟩)] w fun e w'=>Ix w0.heap.size rb lb xb v xs c' (xs.length - (ys.length+1)+n) nd w e w':=by
 obtain⟨by_,dp,ex,ov,nv,maps,hA⟩:=h.ps.1;have c0:=aa hA.row (j:=0) (u:=.pointer (some ⟨lb,0,none⟩)) rfl;have a4:=Qa (h.next hd hx);have H:=Qa h;have Hs:=Qa hs;have q1:=FT;have q2:=uu;clear h hd hx hs hA;go_enter Tryz.func101,Tryz.ntmps101;go_wp2_with fail;refine Za a4 ?_;rintro e w1 ⟨rfl,hL⟩;have HL:=Qa hL;have a0:=ac w1 (.cells #[.int .i64 (xs.length - (ys.length+1):Nat),.int .u8 x.toNat] 274);have a1:=Zc H.out.below.size hL.below.size;have a3:=Qa (DG (p:=(xs.length - (ys.length+1):Nat)) (H.out.may.below ((H.out.below.trans hL.below).trans (a0.mono a1))) (⟨hL.ps.1.below a0,by obtain⟨bs,hb⟩:=hL.ps.2;exact⟨bs,hb.below a0⟩⟩:PS w0.heap.size rb lb xb v xs c _ nd false _) H.out.ok Hs.out H.out.cnt H.out.nds (Zc a1 a0.size));have a2:=Qa ((cQ.rd hL.below hL.kp).trans (cQ.new a0 a1));clear hL a0 a1 c0 a4;obtain⟨z,hz⟩:∃z:Int,((xs.length - (ys.length+1):Nat):Int)=z:=⟨_,rfl⟩;rw[show mw (xs.length - (ys.length+1)) (.mark x) =.iface 274 (.agg #[.int .i64 (xs.length - (ys.length+1):Nat),.int .u8 x.toNat]) from rfl];rw[hz] at a3 a2 ⊢;clear hz;go_wp2_with fail;refine Za a3 ?_;rintro e w2 ⟨nd',h1,rfl,h2,h3⟩;have R:=Qa (And.intro h1 (And.intro h2 h3));clear h1 h2 h3;go_wp2_with fail;go_end0;exact⟨nd',R.out.1,rfl,a2.out.trans R.out.2.1,R.out.2.2⟩
theorem AS {k:Nat}(hw:want=2\/want=3)(h:iU w0 rb lb xb v xs ⟨f::fs,want,none⟩ k nd w aU aE)(ho:f.obj=true)(hn:f.name=none){y:UInt8}(hd:(xs.drop k).dropWhile cW=y::ys){s:ByteArray}(hx:dt (y::ys)=some (.str s,n))(a4:s∉f.mems.map Prod.fst) :
  Calls Tryz.prog 101 #[.pointer (some ⟨rb,0,none⟩)] w fun e w'=>Ix w0.heap.size rb lb xb v xs ⟨{f with name:=some s}::fs,4,none⟩ (xs.length - (ys.length+1)+n) nd w e w':=by
 obtain⟨by_,dp,ex,ov,nv,maps,hA⟩:=h.ps.1;have c0:=aa hA.row (j:=0) (u:=.pointer (some ⟨lb,0,none⟩)) rfl;have a9:=Qa (h.next hd hx);have H:=Qa h;have hsz:jB s:=sq (by have h1:=il (xs.drop k);rw[hd,List.length_drop] at h1;have:=h.len;omega) hx;have hcn:=h.cnt;have b2:=mM f fs;have b3:=Qa hsz;have b1:=Qa a4;have q1:=yp;have q2:=nQ;have q3:=l6;have a6:=Qa (show fs.length<=1000000000/\f.mems.length<=1000000000 by simp only at hcn;omega);clear h hd hx hA hsz a4 hcn b2;rcases hw with rfl|rfl
 all_goals
  go_enter Tryz.func101,Tryz.ntmps101;go_wp2_with fail;refine Za a9 ?_;rintro e w1 ⟨rfl,hL⟩;have a0:=ac w1 (.cells #[.int .i64 (xs.length - (ys.length+1):Nat),.string s] 277);have a1:=Zc H.out.below.size hL.below.size;have b0:=hL.ps.1.below a0;obtain⟨bs,a7⟩:=hL.ps.2;have a3:=Qa (Cn (p:=(xs.length - (ys.length+1):Nat)) b0 (a7.below a0) ho hn b1.out b3.out.2 a6.out.1 a6.out.2 (Zc a1 a0.size));have a2:=Qa ((cQ.rd hL.below hL.kp).trans (cQ.new a0 a1));obtain⟨by9,dp9,ex9,ov9,nv9,maps9,a5⟩:=b0;have c14:=aa a5.row (j:=14) rfl;simp only[dB] at c14;clear hL a0 a1 c0 a9 a5 a7;obtain⟨z,hz⟩:∃z:Int,((xs.length - (ys.length+1):Nat):Int)=z:=⟨_,rfl⟩;rw[show mw (xs.length - (ys.length+1)) (.str s) =.iface 277 (.agg #[.int .i64 (xs.length - (ys.length+1):Nat),.string s]) from rfl];rw[hz] at a3 a2 c14 ⊢;clear hz;go_wp2_with fail;refine Za a3 ?_;rintro e w2 ⟨rfl,h2,h3⟩;have R:=Qa (And.intro h2 h3);clear h2 h3;go_wp2_with fail;(try simp only[Exit.inBlock,Exit.then]);refine Zh (results_none rfl ..) rfl ?_;exact⟨nd,Nat.le_succ _,rfl,a2.out.trans R.out.1,R.out.2⟩
theorem zV {k:Nat}(hw:want=0\/want=1)(h:iU w0 rb lb xb v xs ⟨frs,want,none⟩ k nd w aU aE){y:UInt8}(hd:(xs.drop k).dropWhile cW=y::ys){s:ByteArray}(hx:dt (y::ys)=some (.str s,n)) :
  Calls Tryz.prog 101 #[.pointer (some ⟨rb,0,none⟩)] w fun e w'=>Ix w0.heap.size rb lb xb v xs (cV frs (eQ s)) (xs.length - (ys.length+1)+n) nd w e w':=by
 obtain⟨by_,dp,ex,ov,nv,maps,hA⟩:=h.ps.1;have c0:=aa hA.row (j:=0) (u:=.pointer (some ⟨lb,0,none⟩)) rfl;have a6:=Qa (h.next hd hx);have H:=Qa h;have hcn:=h.cnt;have b1:=ko frs;have a7:kv frs:=mI (N:=jB) hcn (dj h.ok.want hw).2;have b2:=Qa a7;have q1:=yp;have q2:=nQ;have q3:=l6;have b0:=Qa (show frs.length<=1000000000 by simp only at hcn;omega);clear h hd hx hA hcn b1 a7;rcases hw with rfl|rfl
 all_goals
  go_enter Tryz.func101,Tryz.ntmps101;go_wp2_with fail;refine Za a6 ?_;rintro e w1 ⟨rfl,hL⟩;have a0:=ac w1 (.cells #[.int .i64 (xs.length - (ys.length+1):Nat),.string s] 277);have a2:=Zc H.out.below.size hL.below.size;have a9:=hL.ps.1.below a0;obtain⟨bs,a5⟩:=hL.ps.2;have a1:=Qa (tP (k0:=xs.length - (ys.length+1)) (t:=.str s) (j:=eQ s) (.inr ⟨s,rfl,rfl⟩) (by simp) a9 (a5.below a0) b2.out b0.out H.out.nds (Zc a2 a0.size));rw[show mw (xs.length - (ys.length+1)) (.str s) =.iface 277 (.agg #[.int .i64 (xs.length - (ys.length+1):Nat),.string s]) from rfl] at a1;have a3:=Qa ((cQ.rd hL.below hL.kp).trans (cQ.new a0 a2));obtain⟨by9,dp9,ex9,ov9,nv9,maps9,a4⟩:=a9;have c14:=aa a4.row (j:=14) rfl;simp only[dB] at c14;clear hL a0 a2 c0 a6 a4 a5;obtain⟨z,hz⟩:∃z:Int,((xs.length - (ys.length+1):Nat):Int)=z:=⟨_,rfl⟩;rw[show mw (xs.length - (ys.length+1)) (.str s) =.iface 277 (.agg #[.int .i64 (xs.length - (ys.length+1):Nat),.string s]) from rfl];rw[hz] at a1 a3 c14 ⊢;clear hz;go_wp2_with fail;refine Za a1 ?_;rintro e w2 ⟨rfl,h2,h3⟩;have R:=Qa (And.intro h2 h3);clear h2 h3;go_wp2_with fail;go_end0;exact⟨nd+1,Zb _,rfl,a3.out.trans R.out.1,R.out.2⟩
theorem Bd {k:Nat}(hw:want=0\/want=1)(h:iU w0 rb lb xb v xs ⟨frs,want,none⟩ k nd w aU aE){y:UInt8}(hd:(xs.drop k).dropWhile cW=y::ys)(hx:dt (y::ys)=some (.leaf j,n)) :
  Calls Tryz.prog 101 #[.pointer (some ⟨rb,0,none⟩)] w fun e w'=>Ix w0.heap.size rb lb xb v xs (cV frs j) (xs.length - (ys.length+1)+n) nd w e w':=by
 obtain⟨by_,dp,ex,ov,nv,maps,hA⟩:=h.ps.1;have c0:=aa hA.row (j:=0) (u:=.pointer (some ⟨lb,0,none⟩)) rfl;have a3:=Qa (h.next hd hx);have H:=Qa h;have hcn:=h.cnt;have b2:=ko frs;have a4:kv frs:=mI (N:=jB) hcn (dj h.ok.want hw).2;have b3:=Qa a4;have a0:=AR hx;have b1:=Qa a0;have b0:=Qa (show frs.length<=1000000000 by simp only at hcn;omega);have Hw:=Qa hw;obtain⟨tt,tx,a6,b5,b6,b4⟩:∃tt tx,mw (xs.length - (ys.length+1)) (.leaf j) =.iface tt tx/\(∀W,(Instr.typeAssert (.iface tt tx) 267 272 true).run Tryz.prog W =.ok (.tuple #[.agg #[.int .i64 0],.bool false]) W)/\
   (∀W,(Instr.typeAssert (.iface tt tx) 267 274 true).run Tryz.prog W =.ok (.tuple #[.agg #[.int .i64 0,.int .u8 0],.bool false]) W)/\(∀W,(Instr.typeAssert (.iface tt tx) 267 277 true).run Tryz.prog W =.ok (.tuple #[.agg #[.int .i64 0,.string ⟨#[]⟩],.bool false]) W):=by
  cases a0 with
  |null=>exact⟨_,_,rfl,mf _,kS _,fW _⟩
  |bool b=>exact⟨_,_,rfl,mf _,kS _,fW _⟩
  |num d hd=>exact⟨_,_,rfl,yq _,uO _,yf _⟩
 have a9:=Qa a6;clear h hd hx hA hcn b2 a4 a0 hw a6;go_enter Tryz.func101,Tryz.ntmps101;go_wp2_with fail;refine Za a3 ?_;rintro e w1 ⟨rfl,hL⟩;have a5:=Zc H.out.below.size hL.below.size;obtain⟨bs,a2⟩:=hL.ps.2;have a1:=Qa (tP (k0:=xs.length - (ys.length+1)) (t:=.leaf j) (j:=j) (.inl ⟨rfl,b1.out⟩) Hw.out hL.ps.1 a2 b3.out b0.out H.out.nds a5);have a7:=Qa (cQ.rd hL.below hL.kp);rw[a9.out] at a1 ⊢;clear hL a5 c0 a3 a2;go_wp2_with fail;refine Za a1 ?_;rintro e w2 ⟨rfl,h2,h3⟩;have R:=Qa (And.intro h2 h3);clear h2 h3;go_wp2_with fail;go_end0;exact⟨nd+1,Zb _,rfl,a7.out.trans R.out.1,R.out.2⟩
theorem BG {k:Nat}{c c':dl}(h:iU w0 rb lb xb v xs c k nd w aU aE){y:UInt8}(hd:(xs.drop k).dropWhile cW=y::ys){t:sd}(hx:dt (y::ys)=some (t,n))(hs:dK c t=some c') :
  Calls Tryz.prog 101 #[.pointer (some ⟨rb,0,none⟩)] w fun e w'=>Ix w0.heap.size rb lb xb v xs c' (xs.length - (ys.length+1)+n) nd w e w':=by
 cases t with
 |mark x=>exact Bm h hd hx hs
 |leaf j=>
  obtain⟨frs,want,done⟩:=c;simp only[dK] at hs
  split at hs
  ·rename_i hw
   obtain rfl:=Zi hs;have h0:=(dj h.ok.want hw).1;simp only at h0;subst h0;exact Bd hw h hd hx
  ·cases hs
 |str s=>
  obtain⟨frs,want,done⟩:=c;simp only[dK] at hs
  split at hs
  ·rename_i hw
   have h4:done=none/\∃f fs,frs=f::fs/\f.obj=true/\f.name=none:=by
    have h3:=h.ok.want;rcases hw with rfl|rfl <;> exact h3
   obtain⟨rfl,f,fs,rfl,h5,h6⟩:=h4
   try simp only at hs
   split at hs
   ·cases hs
   ·rename_i hn
    obtain rfl:=Zi hs;refine AS hw h h5 h6 hd hx fun hm=>hn ?_
    obtain⟨m,a0,e⟩:=List.mem_map.1 hm;exact List.any_eq_true.2 ⟨m,a0,by simp[e]⟩
  ·split at hs
   ·rename_i hw
    obtain rfl:=Zi hs;have h0:=(dj h.ok.want hw).1;simp only at h0;subst h0;exact zV hw h hd hx
   ·cases hs
