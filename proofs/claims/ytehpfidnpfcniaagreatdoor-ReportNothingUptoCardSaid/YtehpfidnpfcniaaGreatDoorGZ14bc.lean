import Derived.Test.YtehpfidnpfcniaaGreatDoorGZ14bb
set_option linter.unusedVariables false
set_option linter.unusedSimpArgs false
set_option maxHeartbeats 64000000
set_option maxRecDepth 100000
namespace Go.Proofs.YtehpfidnpfcniaaGreatDoor
open Go.RowKit
variable {aE aU:Addr}{fin:Bool}{f:Fr}{by_ dp ex:Int}{j:JV}{frs fs:List Fr}{maps:List Nat}{xs ys:List UInt8}{B k0 lb n nd rb want xb:Nat}{nv ov v:Value}{w w' w0:World}
theorem pN:∀ (f:Nat) (xs out:List UInt8) (n:Nat) (p:List UInt8×Nat),iU out->out.length<=4*n->eb f xs out n=some p->iU p.1/\p.1.length<=4*p.2
 |0,_,_,_,_,_,_,h=>by cases h
 |f+1,xs,out,n,p,hu,hl,h=>by
  unfold eb at h
  split at h
  ·cases h
  ·injection h with h
   subst h;exact⟨hu,by simp only;omega⟩
  ·rename_i c k hp
   obtain⟨h1,h2,-⟩:=lN hp;have h3:=kE c;exact pN f _ _ _ p (hu.snoc h1) (by rw[List.length_append];simp only at h2 h3 ⊢;omega) h
theorem rv {s:ByteArray}(hl:xs.length<=1000000000)(h:cm xs=some (.str s,n)):ey s:=by
 cases xs with
 |nil=>cases h
 |cons x xs=>
  simp only[cm] at h
  split at h
  ·injection h with h;injection h with h _;cases h
  ·rw[Option.map_eq_some_iff] at h;obtain⟨j,-,h⟩:=h;injection h with h _;cases h
  ·rw[Option.map_eq_some_iff] at h;obtain⟨j,-,h⟩:=h;injection h with h _;cases h
  ·rw[Option.map_eq_some_iff] at h;obtain⟨p,hp,h⟩:=h;injection h with h _
   injection h with h
   subst h;unfold kt at hp
   split at hp
   ·rename_i ys e
    injection e with e1 e2
    subst e2;obtain⟨h1,h2⟩:=pN _ _ _ _ _ iU.nil (Zj _) hp;have h3:=oW _ _ _ _ _ hp;rw[List.length_cons] at hl;refine⟨by obtain⟨cs,a,b⟩:=h1;exact⟨cs,a,by simpa using b⟩,?_⟩
    show(p.1.toArray).size<=_
    rw[List.size_toArray];omega
   ·cases hp
  ·cases h
theorem wQ (h:cm xs=some (.leaf j,n)):ri j:=by
 cases xs with
 |nil=>cases h
 |cons x xs=>
  simp only[cm] at h
  split at h
  ·injection h with h;injection h with h _;cases h
  ·rw[Option.map_eq_some_iff] at h;obtain⟨j',hj,h⟩:=h;injection h with h _
   injection h with h
   subst h;unfold rQ at hj
   split at hj
   ·obtain rfl:=Zi hj;exact .null
   ·split at hj
    ·obtain rfl:=Zi hj;exact .bool true
    ·split at hj
     ·obtain rfl:=Zi hj;exact .bool false
     ·cases hj
  ·rw[Option.map_eq_some_iff] at h;obtain⟨p,hp,h⟩:=h;injection h with h _
   injection h with h
   subst h;unfold kU at hp;simp only at hp
   split at hp
   ·rw[Option.map_eq_some_iff] at hp;obtain⟨d,hd,rfl⟩:=hp;refine .num d ?_;unfold fo at hd;simp only at hd
    split at hd
    ·obtain rfl:=Zi hd;simp
    ·split at hd
     ·rename_i hx;obtain rfl:=Zi hd;exact hx
     ·cases hd
   ·cases hp
  ·rw[Option.map_eq_some_iff] at h;obtain⟨p,-,h⟩:=h;injection h with h _;cases h
  ·cases h
theorem C2 {t:pj}(hl:xs.length<=1000000000)(h:cm xs=some (t,n)):DK ey t:=by
 cases t with
 |mark c=>trivial
 |leaf j=>trivial
 |str s=>exact rv hl h
theorem pR {k:Nat}{t:pj}{bs:List Nat}(ht:(t =.leaf j/\ri j)\/∃s,t =.str s/\j=aY s)(hw:want=0\/want=1)(hR:gT B w rb lb xb v xs frs want k nd false)(a0:dT B w xb frs none bs)(hT:iO frs)(hl:frs.length<=1000000000)(hn:nd<=1000000000)(hB:B<=w.heap.size) :
  Calls Tryz.prog 179 #[.pointer (some ⟨rb,0,none⟩),ko k0 t] w (Fa B rb lb xb v xs (bt frs j) k (nd+1) false w):=by
 rcases ht with ⟨rfl,hj⟩|⟨s,rfl,rfl⟩
 ·cases hj with
  |null=>
   have hs:=fun w=>qj k0 w
   have hm:∀W,(Instr.typeAssert (.iface 344 (.agg #[])) 227 322 true).run Tryz.prog W =.ok (.tuple #[.agg #[.bool false,.string ⟨#[]⟩,.int .i64 0],.bool false]) W:=fun W=>by kernel_rfl
   exact iy hw hR a0 hT hl hn hB hs (fun P w=>VW.null) rfl hm
  |bool b=>
   have hs:=fun w=>ro k0 b w
   have hm:∀W,(Instr.typeAssert (.iface 342 (.bool b)) 227 322 true).run Tryz.prog W =.ok (.tuple #[.agg #[.bool false,.string ⟨#[]⟩,.int .i64 0],.bool false]) W:=fun W=>by kernel_rfl
   exact iy hw hR a0 hT hl hn hB hs (fun P w=>VW.bool b) rfl hm
  |num d hd=>
   have hs:=fun w=>sD k0 d w
   exact AQ hw hR a0 hT hl hn hB hs (fun P w=>VW.num d) d rfl hd
 ·have hs:=fun w=>uU k0 s w
  have hm:∀W,(Instr.typeAssert (.iface 83 (.string s)) 227 322 true).run Tryz.prog W =.ok (.tuple #[.agg #[.bool false,.string ⟨#[]⟩,.int .i64 0],.bool false]) W:=fun W=>by kernel_rfl
  exact iy hw hR a0 hT hl hn hB hs (fun P w=>VW.text s) rfl hm
theorem CG {d:Option JV}(h:tN want frs d):want<8:=by
 rcases want with _|_|_|_|_|_|_|_|n <;> first|omega|exact h.elim
theorem kz {N:ByteArray->Prop}(h:dd frs<=1000000000)(hw:∀f fs,frs=f::fs->bH f=false):iO frs:=by
 refine⟨by have:=iG frs;omega,fun f fs e=>⟨hw f fs e,?_⟩⟩;subst e;have:=kF f fs;omega
def E7 (B rb lb xb:Nat)(v:Value)(xs:List UInt8)(c:cf)(k nd:Nat)(w:World)(e:Ending)(w':World):Prop:= ∃nd',nd'<=nd+1/\Fa B rb lb xb v xs c k nd' false w e w'
theorem yE {k:Nat}{c c':cf}{x:UInt8}{p:Int}(hM:l9 w)(h:PS B rb lb xb v xs c k nd false w)(a9:c.ok ey)(hs:cG c (.mark x)=some c')(hc:dd c.frs<=1000000000)(hn:nd<=1000000000)(hB:B<=w.heap.size) :
  Calls Tryz.prog 177 #[.pointer (some ⟨rb,0,none⟩),.agg #[.int .i64 p,.int .u8 x.toNat]] w (E7 B rb lb xb v xs c' k nd w):=by
 obtain⟨frs,want,done⟩:=c;obtain⟨h1,h2,h3⟩:=a9;obtain⟨hR,bs,a0⟩:=h;simp only at h1 h2 h3 hR a0 hc;have hlen:=iG frs;have a1:=CG h3;simp only[cG] at hs
 split at hs
 case isFalse=>cases hs
 rename_i hm
 rcases zV hm with ⟨hx,hw⟩|⟨hx,hw⟩|⟨hx,hw⟩|⟨hx,hw⟩|⟨hx,hw⟩
 ·obtain⟨hd,hq⟩:=cq h3 hw;subst hd;rcases hx with rfl|rfl
  ·rw[if_pos rfl] at hs;obtain rfl:=Zi hs;exact(dX hM a1 hm hR a0 hB (.open5 _ (by omega) hn hq)).mono fun e w' h=>⟨_,Zb _,h⟩
  ·rw[if_neg (by decide),if_pos rfl] at hs;obtain rfl:=Zi hs;exact(dX hM a1 hm hR a0 hB (.open6 _ (by omega) hn hq)).mono fun e w' h=>⟨_,Zb _,h⟩
 ·subst hx;rw[if_neg (by decide),if_neg (by decide)] at hs
  cases frs with
  |nil=>cases hs
  |cons f fs=>
   simp only[true_or,if_true] at hs;obtain rfl:=Zi hs;have a5:=kF f fs;have a4:dd fs<=dd (f::fs):=by simp[dd]
   have hob:f.obj=false:=by
    rcases hw with rfl|rfl
    ·obtain⟨-,g,gs,e,h⟩:=h3;injection e with e _;rw[e];exact h
    ·obtain⟨-,g,gs,e,h⟩:=h3;injection e with e _;rw[e];exact h
   have a3:done=none:=by rcases hw with rfl|rfl <;> exact h3.1
   subst a3;have a2:=h1 f (by simp);exact(dX hM a1 hm hR a0 hB (.close5 _ _ hob (a2.list hob).2 a2 (by omega) (by omega) (kz (N:=ey) (by omega) (fun g gs e=>h2 g (by rw[List.tail_cons,e];simp))) (by omega))).mono fun e w' h=>⟨_,Nat.le_succ _,h⟩
 ·subst hx;rw[if_neg (by decide),if_neg (by decide)] at hs
  cases frs with
  |nil=>cases hs
  |cons f fs=>
   simp only[or_true,if_true] at hs;obtain rfl:=Zi hs;have a5:=kF f fs;have a4:dd fs<=dd (f::fs):=by simp[dd]
   have hob:f.obj=true/\f.name=none:=by
    rcases hw with rfl|rfl
    ·obtain⟨-,g,gs,e,h⟩:=h3;injection e with e _;rw[e];exact h
    ·obtain⟨-,g,gs,e,h⟩:=h3;injection e with e _;rw[e];exact h
   have a3:done=none:=by rcases hw with rfl|rfl <;> exact h3.1
   subst a3;have a2:=h1 f (by simp);exact(dX hM a1 hm hR a0 hB (.close6 _ _ hob.1 hob.2 a2 (by omega) (by omega) (kz (N:=ey) (by omega) (fun g gs e=>h2 g (by rw[List.tail_cons,e];simp))) (by omega))).mono fun e w' h=>⟨_,Nat.le_succ _,h⟩
 ·obtain⟨rfl,rfl⟩:=And.intro hx hw;rw[if_neg (by decide),if_neg (by decide)] at hs;obtain⟨rfl,f,fs,rfl,h5,h6⟩:=h3
  try simp only at hs
  rw[if_neg (by decide),if_neg (by decide)] at hs;obtain rfl:=Zi hs;exact(dX hM a1 hm hR a0 hB (.colon _)).mono fun e w' h=>⟨_,Nat.le_succ _,h⟩
 ·subst hx;rw[if_neg (by decide),if_neg (by decide)] at hs
  cases frs with
  |nil=>cases hs
  |cons f fs=>
   try simp only at hs
   rw[if_neg (by decide)] at hs;simp only[if_true] at hs;obtain rfl:=Zi hs;rw[List.length_cons] at hlen;rcases hw with rfl|rfl
   ·obtain⟨rfl,g,gs,e,h5⟩:=h3;injection e with e1 e2
    subst e1 e2;have:=dX (p:=p) hM a1 hm hR a0 hB (.comma5 _ _ h5 (by omega));simp only[h5,Bool.false_eq_true,if_false] at this ⊢;exact this.mono fun e w' h=>⟨_,Nat.le_succ _,h⟩
   ·obtain⟨rfl,g,gs,e,h5,h6⟩:=h3;injection e with e1 e2
    subst e1 e2;have:=dX (p:=p) hM a1 hm hR a0 hB (.comma6 _ _ h5 (by omega));simp only[h5,if_true] at this ⊢;exact this.mono fun e w' h=>⟨_,Nat.le_succ _,h⟩
theorem fm.lexed {k k':Nat}(h:fm B w rb lb xb v xs frs want k nd fin by_ dp ex ov nv maps)(hl:mf w' lb v xs k')(hc:aM (fun i=>i=lb) w w')(hk:k'<=xs.length):fm B w' rb lb xb v xs frs want k' nd fin by_ dp ex ov nv maps/\Kp ka w w':=by
 obtain⟨h1,h2,h3,h4,h5,h6,h7,h8,h9,a2⟩:=h;have a0:Kp (fun e=>e=294) w w':=Kp.of_chg hc fun g e _=>by subst e;exact⟨_,_,_,h3.1,rfl⟩
 have a1:ao w' B v xs:=av h5 a0.keeps (by decide);exact⟨⟨a0.heap h1 (by decide),h2,hl,h4,a1,av h6 a0.keeps (by decide),av h7 a0.keeps (by decide),gX.seens h8 a0,h9,hk⟩,a0.imp fun e he=>.inr (.inl he)⟩
theorem zo {k:Nat}{bs:List Nat}{done:Option JV}(hE:sA w aU aE)(hR:gT B w rb lb xb v xs [] 7 k nd false)(b3:dT B w xb [] done bs)(hl:xs.length<=1000000000)(hB:B<=w.heap.size)(hd:(xs.drop k).dropWhile bR = []) :
  Calls Tryz.prog 149 #[.pointer (some ⟨rb,0,none⟩)] w fun e w'=>e =.returned (.tuple #[])/\bW B w w'/\gT B w' rb lb xb v xs [] 7 xs.length nd true/\dT B w' xb [] done bs:=by
 obtain⟨by_,dp,ex,ov,nv,maps,hA⟩:=hR;have c0:=aa hA.row (j:=0) (u:=.pointer (some ⟨lb,0,none⟩)) rfl;have b2:=H8 (py hE hA.lex hA.le hl hd);have HA:=H8 hA;have b9:=H8 b3;have HB:=H8 hB;have q1:=Ef;clear hE b3 hl hB hd hA;go_enter Tryz.func149,Tryz.ntmps149;go_wp2_with fail;refine Za b2 ?_;rintro e w1 ⟨rfl,b1,a5⟩;obtain⟨b4,a9⟩:=HA.out.lexed b1 a5 (Zb _);have a2:=b9.out.kp a9 bq;have a4:Below B w w1:=a5.below HB.out fun i e=>by rw[e];exact HA.out.llow
 have a0:=ac w1 (.cells #[.int .i64 xs.length] 300);obtain⟨w2,b5⟩:∃w2,w1.alloc (.cells #[.int .i64 xs.length] 300)=w2:=⟨_,rfl⟩;rw[b5] at a0;have a1:=b4.below a0;have c14:=aa a1.row (j:=14) (u:=.int .i64 7) rfl;have c15:=aa a1.row (j:=15) (u:=.bool false) rfl;have f15:=aj a1.row 15;have a3:=Zc (Zc HB.out a4.size) a0.size;have Hs:=H8 (a1.setDone a3 true);have b8:=H8 ((bW.rd a4 a9).trans (bW.new a0 (Zc HB.out a4.size)));have b0:=H8 (a2.below a0);clear b1 a5 b4 a9 a2 a4 a0 a1 a3 c0 b2;go_wp2_with fail;go_end0
 try rw[b5]
 exact⟨rfl,b8.out.trans (bW.rd Hs.out.1 Hs.out.2.1),Hs.out.2.2.s,b0.out.kp Hs.out.2.1 bq⟩
structure fF (w0:World) (rb lb xb:Nat) (v:Value) (xs:List UInt8) (c:cf) (k nd:Nat) (w:World) (aU aE:Addr):Prop where
 env:sA w0 aU aE
 may:l9 w0
 ps:PS w0.heap.size rb lb xb v xs c k nd false w
 ok:c.ok ey
 cnt:dd c.frs<=1000000000
 nds:nd<=1000000000
 len:xs.length<=1000000000
 below:Below w0.heap.size w0 w
structure FM (B:Nat) (rb lb xb:Nat) (v:Value) (xs:List UInt8) (c:cf) (k nd:Nat) (w w1:World):Prop where
 ps:PS B rb lb xb v xs c k nd false w1
 below:Below B w w1
 kp:Kp ka w w1
theorem fF.next {k:Nat}{c:cf}(h:fF w0 rb lb xb v xs c k nd w aU aE){y:UInt8}(hd:(xs.drop k).dropWhile bR=y::ys){t:pj}(hx:cm (y::ys)=some (t,n)) :
  Calls Tryz.prog 175 #[.pointer (some ⟨lb,0,none⟩)] w fun e w1=>e =.returned (.tuple #[ko (xs.length - (ys.length+1)) t,.nilIface])/\FM w0.heap.size rb lb xb v xs c (xs.length - (ys.length+1)+n) nd w w1:=by
 obtain⟨⟨by_,dp,ex,ov,nv,maps,hA⟩,bs,a3⟩:=h.ps;refine(r9 (h.env.below h.below) hA.lex hA.le h.len hd hx).mono ?_;rintro e w1 ⟨rfl,a2,a0⟩;have hn:=(kS hx).2;rw[List.length_cons] at hn;have a5:ys.length+1<=xs.length:=by
  have h1:=da (xs.drop k);rw[hd,List.length_cons,List.length_drop] at h1;omega
 obtain⟨a4,a1⟩:=hA.lexed a2 a0 (by omega);exact⟨rfl,⟨a4.s,bs,a3.kp a1 bq⟩,a0.below h.below.size fun i e=>by rw[e];exact hA.llow,a1⟩
theorem wm {k:Nat}{c c':cf}(h:fF w0 rb lb xb v xs c k nd w aU aE){y:UInt8}(hd:(xs.drop k).dropWhile bR=y::ys){x:UInt8}(hx:cm (y::ys)=some (.mark x,n))(hs:cG c (.mark x)=some c') :
  Calls Tryz.prog 149 #[.pointer (some ⟨rb,0,none⟩)] w fun e w'=>E7 w0.heap.size rb lb xb v xs c' (xs.length - (ys.length+1)+n) nd w e w':=by
 obtain⟨by_,dp,ex,ov,nv,maps,hA⟩:=h.ps.1;have c0:=aa hA.row (j:=0) (u:=.pointer (some ⟨lb,0,none⟩)) rfl;have a3:=H8 (h.next hd hx);have H:=H8 h;have Hs:=H8 hs;have q1:=BT;have q2:=qo;clear h hd hx hs hA;go_enter Tryz.func149,Tryz.ntmps149;go_wp2_with fail;refine Za a3 ?_;rintro e w1 ⟨rfl,hL⟩;have HL:=H8 hL;have a0:=ac w1 (.cells #[.int .i64 (xs.length - (ys.length+1):Nat),.int .u8 x.toNat] 302);have a1:=Zc H.out.below.size hL.below.size;have a4:=H8 (yE (p:=(xs.length - (ys.length+1):Nat)) (H.out.may.below ((H.out.below.trans hL.below).trans (a0.mono a1))) (⟨hL.ps.1.below a0,by obtain⟨bs,hb⟩:=hL.ps.2;exact⟨bs,hb.below a0⟩⟩:PS w0.heap.size rb lb xb v xs c _ nd false _) H.out.ok Hs.out H.out.cnt H.out.nds (Zc a1 a0.size));have a2:=H8 ((bW.rd hL.below hL.kp).trans (bW.new a0 a1));clear hL a0 a1 c0 a3;obtain⟨z,hz⟩:∃z:Int,((xs.length - (ys.length+1):Nat):Int)=z:=⟨_,rfl⟩;rw[show ko (xs.length - (ys.length+1)) (.mark x) =.iface 302 (.agg #[.int .i64 (xs.length - (ys.length+1):Nat),.int .u8 x.toNat]) from rfl];rw[hz] at a4 a2 ⊢;clear hz;go_wp2_with fail;refine Za a4 ?_;rintro e w2 ⟨nd',h1,rfl,h2,h3⟩;have R:=H8 (And.intro h1 (And.intro h2 h3));clear h1 h2 h3;go_wp2_with fail;go_end0;exact⟨nd',R.out.1,rfl,a2.out.trans R.out.2.1,R.out.2.2⟩
theorem yj {k:Nat}(hw:want=2\/want=3)(h:fF w0 rb lb xb v xs ⟨f::fs,want,none⟩ k nd w aU aE)(ho:f.obj=true)(hn:f.name=none){y:UInt8}(hd:(xs.drop k).dropWhile bR=y::ys){s:ByteArray}(hx:cm (y::ys)=some (.str s,n))(a2:s∉f.mems.map Prod.fst) :
  Calls Tryz.prog 149 #[.pointer (some ⟨rb,0,none⟩)] w fun e w'=>E7 w0.heap.size rb lb xb v xs ⟨{f with name:=some s}::fs,4,none⟩ (xs.length - (ys.length+1)+n) nd w e w':=by
 obtain⟨by_,dp,ex,ov,nv,maps,hA⟩:=h.ps.1;have c0:=aa hA.row (j:=0) (u:=.pointer (some ⟨lb,0,none⟩)) rfl;have a9:=H8 (h.next hd hx);have H:=H8 h;have b2:ey s:=rv (by have h1:=da (xs.drop k);rw[hd,List.length_drop] at h1;have:=h.len;omega) hx;have b0:=h.cnt;have b8:=kF f fs;have b5:=H8 b2;have b9:=H8 a2;have q1:=un;have q2:=lq;have q3:=j9;have b1:=H8 (show fs.length<=1000000000/\f.mems.length<=1000000000 by simp only at b0;omega);clear h hd hx hA b2 a2 b0 b8;rcases hw with rfl|rfl
 all_goals
  go_enter Tryz.func149,Tryz.ntmps149;go_wp2_with fail;refine Za a9 ?_;rintro e w1 ⟨rfl,hL⟩;have a0:=ac w1 (.cells #[.int .i64 (xs.length - (ys.length+1):Nat),.string s] 305);have a1:=Zc H.out.below.size hL.below.size;have a3:=hL.ps.1.below a0;obtain⟨bs,b3⟩:=hL.ps.2;have b4:=H8 (Bh (p:=(xs.length - (ys.length+1):Nat)) a3 (b3.below a0) ho hn b9.out b5.out.2 b1.out.1 b1.out.2 (Zc a1 a0.size));have a4:=H8 ((bW.rd hL.below hL.kp).trans (bW.new a0 a1));obtain⟨by9,dp9,ex9,ov9,nv9,maps9,a5⟩:=a3;have c14:=aa a5.row (j:=14) rfl;simp only[cA] at c14;clear hL a0 a1 c0 a9 a5 b3;obtain⟨z,hz⟩:∃z:Int,((xs.length - (ys.length+1):Nat):Int)=z:=⟨_,rfl⟩;rw[show ko (xs.length - (ys.length+1)) (.str s) =.iface 305 (.agg #[.int .i64 (xs.length - (ys.length+1):Nat),.string s]) from rfl];rw[hz] at b4 a4 c14 ⊢;clear hz;go_wp2_with fail;refine Za b4 ?_;rintro e w2 ⟨rfl,h2,h3⟩;have R:=H8 (And.intro h2 h3);clear h2 h3;go_wp2_with fail;(try simp only[Exit.inBlock,Exit.then]);refine Zh (results_none rfl ..) rfl ?_;exact⟨nd,Nat.le_succ _,rfl,a4.out.trans R.out.1,R.out.2⟩
theorem wh {k:Nat}(hw:want=0\/want=1)(h:fF w0 rb lb xb v xs ⟨frs,want,none⟩ k nd w aU aE){y:UInt8}(hd:(xs.drop k).dropWhile bR=y::ys){s:ByteArray}(hx:cm (y::ys)=some (.str s,n)) :
  Calls Tryz.prog 149 #[.pointer (some ⟨rb,0,none⟩)] w fun e w'=>E7 w0.heap.size rb lb xb v xs (bt frs (aY s)) (xs.length - (ys.length+1)+n) nd w e w':=by
 obtain⟨by_,dp,ex,ov,nv,maps,hA⟩:=h.ps.1;have c0:=aa hA.row (j:=0) (u:=.pointer (some ⟨lb,0,none⟩)) rfl;have b0:=H8 (h.next hd hx);have H:=H8 h;have a2:=h.cnt;have b4:=iG frs;have b1:iO frs:=kz (N:=ey) a2 (cq h.ok.want hw).2;have b5:=H8 b1;have q1:=un;have q2:=lq;have q3:=j9;have b3:=H8 (show frs.length<=1000000000 by simp only at a2;omega);clear h hd hx hA a2 b4 b1;rcases hw with rfl|rfl
 all_goals
  go_enter Tryz.func149,Tryz.ntmps149;go_wp2_with fail;refine Za b0 ?_;rintro e w1 ⟨rfl,hL⟩;have a0:=ac w1 (.cells #[.int .i64 (xs.length - (ys.length+1):Nat),.string s] 305);have a1:=Zc H.out.below.size hL.below.size;have a4:=hL.ps.1.below a0;obtain⟨bs,b2⟩:=hL.ps.2;have a3:=H8 (pR (k0:=xs.length - (ys.length+1)) (t:=.str s) (j:=aY s) (.inr ⟨s,rfl,rfl⟩) (by simp) a4 (b2.below a0) b5.out b3.out H.out.nds (Zc a1 a0.size));rw[show ko (xs.length - (ys.length+1)) (.str s) =.iface 305 (.agg #[.int .i64 (xs.length - (ys.length+1):Nat),.string s]) from rfl] at a3;have a5:=H8 ((bW.rd hL.below hL.kp).trans (bW.new a0 a1));obtain⟨by9,dp9,ex9,ov9,nv9,maps9,a9⟩:=a4;have c14:=aa a9.row (j:=14) rfl;simp only[cA] at c14;clear hL a0 a1 c0 b0 a9 b2;obtain⟨z,hz⟩:∃z:Int,((xs.length - (ys.length+1):Nat):Int)=z:=⟨_,rfl⟩;rw[show ko (xs.length - (ys.length+1)) (.str s) =.iface 305 (.agg #[.int .i64 (xs.length - (ys.length+1):Nat),.string s]) from rfl];rw[hz] at a3 a5 c14 ⊢;clear hz;go_wp2_with fail;refine Za a3 ?_;rintro e w2 ⟨rfl,h2,h3⟩;have R:=H8 (And.intro h2 h3);clear h2 h3;go_wp2_with fail;go_end0;exact⟨nd+1,Zb _,rfl,a5.out.trans R.out.1,R.out.2⟩
theorem ya {k:Nat}(hw:want=0\/want=1)(h:fF w0 rb lb xb v xs ⟨frs,want,none⟩ k nd w aU aE){y:UInt8}(hd:(xs.drop k).dropWhile bR=y::ys)(hx:cm (y::ys)=some (.leaf j,n)) :
  Calls Tryz.prog 149 #[.pointer (some ⟨rb,0,none⟩)] w fun e w'=>E7 w0.heap.size rb lb xb v xs (bt frs j) (xs.length - (ys.length+1)+n) nd w e w':=by
 obtain⟨by_,dp,ex,ov,nv,maps,hA⟩:=h.ps.1;have c0:=aa hA.row (j:=0) (u:=.pointer (some ⟨lb,0,none⟩)) rfl;have a4:=H8 (h.next hd hx);have H:=H8 h;have a0:=h.cnt;have b4:=iG frs;have a5:iO frs:=kz (N:=ey) a0 (cq h.ok.want hw).2;have b8:=H8 a5;have a1:=wQ hx;have b5:=H8 a1;have b3:=H8 (show frs.length<=1000000000 by simp only at a0;omega);have Hw:=H8 hw;obtain⟨tt,tx,a2,c2,b9,c1⟩:∃tt tx,ko (xs.length - (ys.length+1)) (.leaf j) =.iface tt tx/\(∀W,(Instr.typeAssert (.iface tt tx) 296 300 true).run Tryz.prog W =.ok (.tuple #[.agg #[.int .i64 0],.bool false]) W)/\
   (∀W,(Instr.typeAssert (.iface tt tx) 296 302 true).run Tryz.prog W =.ok (.tuple #[.agg #[.int .i64 0,.int .u8 0],.bool false]) W)/\(∀W,(Instr.typeAssert (.iface tt tx) 296 305 true).run Tryz.prog W =.ok (.tuple #[.agg #[.int .i64 0,.string ⟨#[]⟩],.bool false]) W):=by
  cases a1 with
  |null=>exact⟨_,_,rfl,jY _,jd _,ef _⟩
  |bool b=>exact⟨_,_,rfl,jY _,jd _,ef _⟩
  |num d hd=>exact⟨_,_,rfl,sK _,rq _,tM _⟩
 have b1:=H8 a2;clear h hd hx hA a0 b4 a5 a1 hw a2;go_enter Tryz.func149,Tryz.ntmps149;go_wp2_with fail;refine Za a4 ?_;rintro e w1 ⟨rfl,hL⟩;have a3:=Zc H.out.below.size hL.below.size;obtain⟨bs,a9⟩:=hL.ps.2;have b0:=H8 (pR (k0:=xs.length - (ys.length+1)) (t:=.leaf j) (j:=j) (.inl ⟨rfl,b5.out⟩) Hw.out hL.ps.1 a9 b8.out b3.out H.out.nds a3);have b2:=H8 (bW.rd hL.below hL.kp);rw[b1.out] at b0 ⊢;clear hL a3 c0 a4 a9;go_wp2_with fail;refine Za b0 ?_;rintro e w2 ⟨rfl,h2,h3⟩;have R:=H8 (And.intro h2 h3);clear h2 h3;go_wp2_with fail;go_end0;exact⟨nd+1,Zb _,rfl,b2.out.trans R.out.1,R.out.2⟩
theorem BI {k:Nat}{c c':cf}(h:fF w0 rb lb xb v xs c k nd w aU aE){y:UInt8}(hd:(xs.drop k).dropWhile bR=y::ys){t:pj}(hx:cm (y::ys)=some (t,n))(hs:cG c t=some c') :
  Calls Tryz.prog 149 #[.pointer (some ⟨rb,0,none⟩)] w fun e w'=>E7 w0.heap.size rb lb xb v xs c' (xs.length - (ys.length+1)+n) nd w e w':=by
 cases t with
 |mark x=>exact wm h hd hx hs
 |leaf j=>
  obtain⟨frs,want,done⟩:=c;simp only[cG] at hs
  split at hs
  ·rename_i hw
   obtain rfl:=Zi hs;have h0:=(cq h.ok.want hw).1;simp only at h0;subst h0;exact ya hw h hd hx
  ·cases hs
 |str s=>
  obtain⟨frs,want,done⟩:=c;simp only[cG] at hs
  split at hs
  ·rename_i hw
   have h4:done=none/\∃f fs,frs=f::fs/\f.obj=true/\f.name=none:=by
    have h3:=h.ok.want;rcases hw with rfl|rfl <;> exact h3
   obtain⟨rfl,f,fs,rfl,h5,h6⟩:=h4
   try simp only at hs
   split at hs
   ·cases hs
   ·rename_i hn
    obtain rfl:=Zi hs;refine yj hw h h5 h6 hd hx fun hm=>hn ?_
    obtain⟨m,a0,e⟩:=List.mem_map.1 hm;exact List.any_eq_true.2 ⟨m,a0,by simp[e]⟩
  ·split at hs
   ·rename_i hw
    obtain rfl:=Zi hs;have h0:=(cq h.ok.want hw).1;simp only at h0;subst h0;exact wh hw h hd hx
   ·cases hs
