import Derived.Test.YtehpfidnpfcniaaGreatDoorGZ14al
import Derived.Laws.EntriesVeiled
set_option linter.unusedVariables false
set_option linter.unusedSimpArgs false
set_option maxHeartbeats 64000000
set_option maxRecDepth 100000
namespace Go.Proofs.YtehpfidnpfcniaaGreatDoor
open Go.RowKit Go.Shelf
variable {aE aU:Addr}{out xs:List UInt8}{g n:Nat}{t0 t1 t2:TypeId}{v x0 x1 x2:Value}{W w w1 w2:World}
theorem zx:(Tryz.prog.info? 407).map (·.comparable)=some true:=by kernel_rfl
theorem Au:(Tryz.prog.info? 409).map (fun i=>i.size)=some 1:=by kernel_rfl
theorem EA:Tryz.prog.underlying 30=some (.interface (Tryz.prog.methodsAt 30)):=by kernel_rfl
theorem eE (a:Addr)(W:World):(binOp .eql 30 (br a) (br a)).run Tryz.prog W =.ok (.bool true) W:=by
 obtain⟨i,hi,hc⟩:=Option.map_eq_some_iff.1 zx;obtain⟨j,hj,hs⟩:=Option.map_eq_some_iff.1 Au;exact run_eql_iface_ptr_same W a Tryz.underlying30 Tryz.underlying407 hi hc hj
theorem iX (h:cd W aU aE):(binOp .eql 30 (br aU) (br aE)).run Tryz.prog W =.ok (.bool false) W:=by
 obtain⟨i,hi,hc⟩:=Option.map_eq_some_iff.1 zx;obtain⟨j,hj,hs⟩:=Option.map_eq_some_iff.1 Au;obtain⟨c1,t1,h1⟩:=h.hu;obtain⟨c2,t2,h2⟩:=h.he;exact run_eql_iface_ptr_other W Tryz.underlying30 Tryz.underlying407 hi hc hj (by omega) h.ne h1 h2
theorem ki (a:Addr)(W:World):(binOp .eql 30 .nilIface (br a)).run Tryz.prog W =.ok (.bool false) W:=run_eql_iface_nil_left W _ _ EA
def Gq:Option (Nat×Nat)->Value
 |none=>.tuple #[.int .i32 0,.int .i64 1,.bool false]
 |some p=>.tuple #[.int .i32 p.1,.int .i64 p.2,.bool true]
def GN (r:Option (Option (Nat×Nat)))(w:World)(e:Ending)(w':World):Prop:=(∃p,r=some p/\e =.returned (Gq p)/\Below w.heap.size w w')\/(r=none/\fO w e w')
theorem vb {c:UInt8}{t:List UInt8}(a2:c.toNat≠34)(a1:c.toNat≠92)(a0:¬c.toNat<32):bm (c::t)=if(a8 (c::t)).2.2=0 then some (some ((a8 (c::t)).1,(a8 (c::t)).2.1)) else none:=by
 simp only[bm];rw[if_neg (fun e=>a2 (by rw[e];rfl)),if_neg (fun e=>a1 (by rw[e];rfl)),if_neg a0]
theorem uC {c:UInt8}{t:List UInt8}(a2:c.toNat≠34)(a1:c.toNat≠92)(a0:c.toNat<32):bm (c::t)=none:=by
 simp only[bm];rw[if_neg (fun e=>a2 (by rw[e];rfl)),if_neg (fun e=>a1 (by rw[e];rfl)),if_pos a0]
theorem uF {k:Nat}(h:ql w g v xs k)(hG:cd w aU aE)(hS:a7 w 27)(hU:a7 w 28)(hC:a7 w 24)(hk:k<=1000000000)(hl:xs.length<=1000000000):Calls Tryz.prog 232 #[.pointer (some ⟨g,0,none⟩)] w fun e w'=>GN (bm (xs.drop k)) w e w':=by
 obtain⟨hg,hb⟩:=id h;obtain⟨hm,A,cap,rfl,c2,a1⟩:=id hb;have c0:=aa hg (j:=0) (u:=.slice A xs.length cap) rfl;have c1:=aa hg (j:=1) (u:=.int .i64 k) rfl;have hE:a7 w 8:=⟨aE,hG.e⟩;have H:=H8 h;have HE:=H8 hE;have HG:=H8 hG;have b9:=H8 (qQ h hE hS hU hk);obtain⟨aC,b5⟩:=hC;rcases hc:xs[k]? with _|c
 ·have Hn:=H8 (show bm (xs.drop k)=none by rw[List.drop_of_length_le (List.getElem?_eq_none_iff.1 hc)];rfl);have Hc:=H8 hc;clear hc h hE hG hS hU hg hb a1;go_enter Tryz.func232,Tryz.ntmps232;go_wp2_with fail;refine(fV H.out HE.out k Hc.out).mono ?_;rintro e w' ⟨vP,rfl,hv,hb⟩;have Hv:=H8 hv;have a5:=H8 hb;clear hv hb;go_wp2_with fail;exact⟨rfl,.inr ⟨Hn.out,vP,rfl,Hv.out,a5.out⟩⟩
 obtain⟨hlt,b3⟩:=List.getElem?_eq_some_iff.1 hc;have hd:xs.drop k=c::xs.drop (k+1):=by rw[List.drop_eq_getElem_cons hlt,b3]
 obtain⟨b,o,rfl,-⟩:=a1 (by omega);have a4:=H8 (show Bs w.drew (.slice (some ⟨b,o+k,none⟩) (xs.length - k) (cap - k)) (xs.drop k) from hb.cut (Nat.le_of_lt hlt));have Hd:=H8 hd;have Hc:=H8 hc;clear hc b3 h hE hS hU hg hb a1;have hx:=c.toNat_lt
 by_cases h34:c.toNat=34
 ·obtain rfl:c=34:=UInt8.toNat_inj.1 (by rw[h34];rfl);rw[hd];clear hd h34 hG;go_enter Tryz.func232,Tryz.ntmps232;go_wp2_with fail;refine(aF H.out HE.out k Hc.out).mono ?_;rintro e w' ⟨rfl,rfl⟩;rw[show(34:UInt8).toNat=34 from rfl];go_wp2_with fail;go_ret3;exact .inl ⟨none,rfl,rfl,Ze _ _⟩
 have n34:((c.toNat:Int)==34)=false:=by simp only[beq_eq_false_iff_ne];omega
 by_cases h92:c.toNat=92
 ·obtain rfl:c=92:=UInt8.toNat_inj.1 (by rw[h92];rfl);have Hp:=H8 (show bm (xs.drop k)= (sj (xs.drop (k+1))).map some by rw[hd];rfl);clear hd h92 h34 n34 hG;go_enter Tryz.func232,Tryz.ntmps232;go_wp2_with fail;refine(aF H.out HE.out k Hc.out).mono ?_;rintro e w' ⟨rfl,rfl⟩;rw[show(92:UInt8).toNat=92 from rfl];go_wp2_with fail;refine Za b9 ?_;rintro e w' (⟨p,hp,rfl,hb⟩|⟨hn,vP,rfl,hv,hb⟩)
  ·have Hr:=H8 (show bm (xs.drop k)=some (some p) by rw[Hp.out,hp];rfl);have Hb:=H8 hb;obtain⟨p1,p2⟩:=p;clear hp hb
   dsimp only
   go_wp2_with fail;go_ret3;exact .inl ⟨some (p1,p2),Hr.out,rfl,Hb.out⟩
  ·have Hn:=H8 (show bm (xs.drop k)=none by rw[Hp.out,hn];try rfl);have Hv:=H8 hv;have a5:=H8 hb;clear hn hv hb;go_wp2_with fail;exact⟨rfl,.inr ⟨Hn.out,vP,rfl,Hv.out,a5.out⟩⟩
 have n92:((c.toNat:Int)==92)=false:=by simp only[beq_eq_false_iff_ne];omega
 by_cases h32:c.toNat<32
 ·have a9:(c.toNat:Int)<32:=by omega
  have Hn:=H8 (show bm (xs.drop k)=none by rw[hd];exact uC h34 h92 h32);clear hd h34 h92 h32 hG;go_enter Tryz.func232,Tryz.ntmps232;go_wp2_with fail;refine(aF H.out HE.out k Hc.out).mono ?_;rintro e w' ⟨rfl,rfl⟩;go_wp2_with fail;refine wp_region_held_drew (S:=fun w'=>w'.cell? ⟨g,1,none⟩=some (.int .i64 k)/\w'.cell? ⟨24,0,none⟩=some (br aC)) (by kernel_rfl) (⟨c1,b5⟩) (fun a0=>?_);refine tH 0 a0 ?_;refine tH 1 a0 ?_;refine tH 2 a0 ?_;refine tH 3 a0 ?_;refine tH 4 a0 ?_
  try simp only[Act.put,jP,jQ,jR]
  refine rH 5 fun K hK=>?_
  go_simp;refine(aW _ aC _).mono ?_;rintro e w' hf;obtain⟨vP,rfl,hv,hb⟩:=hf.low (show Below w.heap.size w w.drew from(Ze _ _).drew);exact⟨rfl,.inr ⟨Hn.out,vP,rfl,hv,hb⟩⟩
 have a9:¬ (c.toNat:Int)<32:=by omega
 have Hr:=H8 (show bm (xs.drop k)=if(a8 (xs.drop k)).2.2=0 then some (some ((a8 (xs.drop k)).1,(a8 (xs.drop k)).2.1)) else none by rw[hd];exact vb h34 h92 h32);have b4:(k:Int)<=xs.length:=by omega
 clear hd h34 h92 h32;have b1:=(oC (xs.drop k)).2;have a2:pu (bS aU) (bS aE) (a8 (xs.drop k)) =.tuple #[.int .i32 (a8 (xs.drop k)).1,.int .i64 (a8 (xs.drop k)).2.1,gP (bS aU) (bS aE) (a8 (xs.drop k)).2.2]:=rfl;rcases hr:a8 (xs.drop k) with ⟨ca,cl,cc⟩
 rw[hr] at b1 a2
 dsimp only at b1 a2
 obtain⟨ve,hve⟩:∃ve,gP (bS aU) (bS aE) cc=ve:=⟨_,rfl⟩;rw[hve] at a2;have b0:=H8 (show bm (xs.drop k)=if cc=0 then some (some (ca,cl)) else none by rw[Hr.out,hr]);have b8:=H8 (show pu (bS aU) (bS aE) (a8 (xs.drop k))=_ from hr▸a2);have a3:=H8 hve;clear hr a2 hve Hr;go_enter Tryz.func232,Tryz.ntmps232;go_wp2_with fail;refine(aF H.out HE.out k Hc.out).mono ?_;rintro e w' ⟨rfl,rfl⟩;go_wp2_with fail;refine bp (fun w'=>w'.cell? ⟨g,0,none⟩=some (.slice (some ⟨b,o,none⟩) xs.length cap)/\w'.cell? ⟨g,1,none⟩=some (.int .i64 k)) (⟨c0,c1⟩) fun a0=>?_
 refine tH 0 a0 ?_;refine tH 1 a0 ?_;refine tH 2 a0 ?_;refine tH 3 a0 ?_;refine tH 4 a0 ?_;refine tH 5 a0 ?_
 try simp only[Act.put,jP,jQ,jR]
 refine tH 6 a0 ?_;refine tH 7 a0 ?_;refine tH 8 a0 ?_
 try simp only[Act.put,jP,jQ,jR]
 refine rH 9 fun K hK=>?_
 go_simp;(try rw[if_neg (show ¬cap=k by omega)]);(with_reducible refine(fe a4.out (HG.out.below ((Ze w.heap.size w).drew))).mono ?_);rintro e w' ⟨rfl,m,rfl⟩;rw[b8.out];refine hK.out _ _ (a0) (fun a0=>?_);clear hK K
 try simp only[Act.put,jP,jQ,jR]
 refine tH 10 a0 ?_;refine tH 11 a0 ?_;refine tH 12 a0 ?_;refine tH 13 a0 ?_;refine tH 14 a0 ?_;refine tH 15 a0 ?_
 try simp only[Act.put,jP,jQ,jR]
 refine tH 16 a0 ?_
 try simp only[Act.put,jP,jQ,jR]
 refine wpAnyH_done (by kernel_rfl) (NoPanic.normal ?_) _;have Hb:=H8 (show Below w.heap.size w (w.drew.drewN m) from ap ((Ze _ _).drew) m);have b2:=H8 (show cd (w.drew.drewN m) aU aE from(HG.out.below ((Ze w.heap.size w).drew)).drewN m);have c0':(w.drew.drewN m).cell? ⟨g,0,none⟩=some (.slice (some ⟨b,o,none⟩) xs.length cap):=c0;have c1':(w.drew.drewN m).cell? ⟨g,1,none⟩=some (.int .i64 k):=c1;have cE:(w.drew.drewN m).cell? ⟨8,0,none⟩=some (br aE):=b2.out.e;generalize w.drew.drewN m=w1 at *;clear c0 c1;rcases(by omega:cc=0\/cc=1\/cc=2) with rfl|rfl|rfl
 ·obtain rfl: .nilIface=ve:=a3.out;have q:=ki aE w1;go_wp2_with fail;go_ret3;exact .inl ⟨some (ca,cl),b0.out,rfl,Hb.out⟩
 ·obtain rfl:br aE=ve:=a3.out;have q:=eE aE w1;go_wp2_with fail;refine(aW _ aE _).mono ?_;rintro e w' hf;obtain⟨vP,rfl,hv,hb⟩:=hf.low Hb.out;exact⟨rfl,.inr ⟨b0.out,vP,rfl,hv,hb⟩⟩
 ·obtain rfl:br aU=ve:=a3.out;have q:=iX b2.out;go_wp2_with fail;refine(aW _ aU _).mono ?_;rintro e w' hf;obtain⟨vP,rfl,hv,hb⟩:=hf.low Hb.out;exact⟨rfl,.inr ⟨b0.out,vP,rfl,hv,hb⟩⟩
theorem Fy (n:Nat)(hv:Utf8.valid (n:Int)=true)(h1:n<128):Utf8.encode (n:Int)= ⟨#[UInt8.ofNat n]⟩:=by
 unfold Utf8.encode;simp only[hv,if_true,Int.toNat_natCast,h1]
theorem Fw (n:Nat)(hv:Utf8.valid (n:Int)=true)(h1:¬n<128)(h2:n<2048):Utf8.encode (n:Int)= ⟨#[UInt8.ofNat (192+n/64),UInt8.ofNat (128+n % 64)]⟩:=by
 unfold Utf8.encode;simp only[hv,if_true,Int.toNat_natCast,h1,h2,if_false]
theorem Fz (n:Nat)(hv:Utf8.valid (n:Int)=true)(h1:¬n<128)(h2:¬n<2048)(h3:n<65536):Utf8.encode (n:Int)= ⟨#[UInt8.ofNat (224+n/4096),UInt8.ofNat (128+n/64 % 64),UInt8.ofNat (128+n % 64)]⟩:=by
 unfold Utf8.encode;simp only[hv,if_true,Int.toNat_natCast,h1,h2,h3,if_false]
theorem Fk (n:Nat)(hv:Utf8.valid (n:Int)=true)(h1:¬n<128)(h2:¬n<2048)(h3:¬n<65536):Utf8.encode (n:Int)= ⟨#[UInt8.ofNat (240+n/262144),UInt8.ofNat (128+n/4096 % 64),UInt8.ofNat (128+n/64 % 64),UInt8.ofNat (128+n % 64)]⟩:=by
 unfold Utf8.encode;simp only[hv,if_true,Int.toNat_natCast,h1,h2,h3,if_false]
theorem oh {c:Int}(hc:b6 c=true):(Utf8.encode c).data.toList=aO c:=by
 obtain⟨n,rfl⟩:∃n:Nat,c=n:=⟨c.toNat,by have:=bX hc;omega⟩;have hr:n<=1114111/\¬ (55296<=n/\n<=57343):=by rw[bK] at hc;simp at hc;omega
 have hv:Utf8.valid (n:Int)=true:=by rw[jf];omega
 by_cases h1:n<128
 ·rw[j4 n h1,Fy n hv h1]
 ·by_cases h2:n<2048
  ·rw[nG n ⟨by omega,h2⟩,Fw n hv h1 h2]
  ·by_cases h3:n<65536
   ·rw[lu n ⟨by omega,h3⟩ (by omega),Fz n hv h1 h2 h3]
   ·rw[mW n ⟨by omega,by omega⟩,Fk n hv h1 h2 h3]
theorem bM {ops:Array Oper}{rest:List Oper}{o:Oper}{a:Act}{Q:Exit->Act->World->Prop}(a4:o.guard=none)(sl x:Operand)
  (ho:o.op =.call {callee:=.builtin .append,args:= #[sl,x],argTypes:= #[28,9]})
  (base:Nat) (v:Value) (ys:List UInt8) (s:ByteArray) (hs:a.eval sl=v) (a1:ao w base v ys) (hx:a.eval x =.string s)
  (hlen:ys.length+s.size<=140737488355328) (a0:base<=w.heap.size)
  (h:∀v' w',ao w' base v' (ys++s.data.toList)->w.grownBy w' v.ownBlock->wpList Tryz.prog ops Q rest (a.put o.dst v') w'):wpList Tryz.prog ops Q (o::rest) a w:=by
 refine wpList_plain a4 fun K hK=>?_
 obtain⟨i0,hi,a5,a3,a2⟩:=info_parts yT;obtain⟨v',w',hr,h2,h3,h4⟩:=Lib.run_append_own_string (P:=Tryz.prog) w base 28 9 o.type 5 i0 Tryz.underlying28 Tryz.underlying9 hi a5 a3 a2 v ys.length (eD ys) a1 s (by unfold maxLen;omega) hlen a0;unfold Oper.wp execOp;simp only[ho,resolve,invoke,builtin,Sem.run_bind,Sem.run_pure,Result.andThen_ok,List.map_toArray,List.map_cons,List.map_nil,hs,hx,hr];refine hK _ _ (h v' w' ?_ h3);have e1:eD (ys++s.data.toList)=eD ys++Lib.strCells s:=by rw[kR];rfl
 have e2:(ys++s.data.toList).length=ys.length+s.size:=by rw[List.length_append];rfl
 unfold ao;rw[e1,e2];exact h2
theorem qy {x:Nat}(h:bV xs=some x):x<65536/\4<=xs.length:=by
 refine⟨?_,?_⟩
 ·have:=fg xs 0;rw[List.drop_zero,h] at this;exact fN this.symm
 ·rcases xs with _|⟨a,_|⟨b,_|⟨c,_|⟨d,t⟩⟩⟩⟩
  ·cases h
  ·simp[bV] at h
  ·simp[bV] at h
  ·simp[bV] at h
  ·simp
theorem Cm {p:Nat×Nat}(h:ip xs=some p):b6 p.1=true/\1<=p.2/\p.2<=xs.length+2:=by
 unfold ip at h
 cases hx:bV xs with
 |none=>simp only[hx,bind,Option.bind] at h;cases h
 |some x=>
  obtain⟨b1,b2⟩:=qy hx;simp only[hx,bind,pure,Option.bind] at h
  split at h
  ·injection h with h
   subst h;refine⟨by rw[bK];simp;omega,by simp,by simp only;omega⟩
  split at h
  ·rename_i a b ys hd
   split at h
   ·cases h
   cases hy:bV ys with
   |none=>simp only[hy] at h;cases h
   |some y=>
    simp only[hy] at h;obtain⟨c1,c2⟩:=qy hy;have hl:(xs.drop 4).length=ys.length+2:=by rw[hd];rfl
    rw[List.length_drop] at hl
    split at h
    ·cases h
    injection h with h
    subst h;refine⟨by rw[bK];simp;omega,by simp,by simp only;omega⟩
  ·cases h
theorem CZ {p:Nat×Nat}(h:sj xs=some p):b6 p.1=true/\1<=p.2/\p.2<=xs.length+1:=by
 unfold sj at h
 split at h <;> first
  |(injection h with h;subst h;exact⟨by decide,by decide,by simp⟩)
  |(have:=Cm h;exact⟨this.1,this.2.1,by simpa using this.2.2⟩)
  |cases h
theorem lN {p:Nat×Nat}(h:bm xs=some (some p)):b6 p.1=true/\1<=p.2/\p.2<=xs.length:=by
 rcases xs with _|⟨x,xs⟩
 ·cases h
 simp only[bm] at h
 split at h
 ·cases h
 split at h
 ·rw[Option.map_eq_some_iff] at h;obtain⟨q,hq,e⟩:=h;injection e with e
  subst e;have:=CZ hq;exact⟨this.1,this.2.1,by simpa using this.2.2⟩
 split at h
 ·cases h
 split at h
 ·rename_i h0
  injection h with h
  injection h with h
  subst h;exact⟨(gB h0).2,dM h0,tG _⟩
 ·cases h
theorem mV (h:bm xs=some none):1<=xs.length:=by
 rcases xs with _|⟨x,xs⟩
 ·cases h
 ·simp
theorem DW:∀n:Nat,n<32->n=8\/n=9\/n=10\/n=12\/n=13\/(bO (n:Nat):List UInt8)= ((⟨#[92,117,48,48]⟩:ByteArray)++ (⟨#[48,49,50,51,52,53,54,55,56,57,97,98,99,100,101,102]⟩:ByteArray).extract (n/16) (n/16+1)++ (⟨#[48,49,50,51,52,53,54,55,56,57,97,98,99,100,101,102]⟩:ByteArray).extract (n % 16) (n % 16+1)).data.toList:=by decide +kernel
theorem qY (h:n<32)(h8:n≠8)(h9:n≠9)(a1:n≠10)(a2:n≠12)(a5:n≠13)(w:World):Calls Tryz.prog 99 #[.int .i32 n] w fun e w'=>e =.returned (.string ⟨(bO n).toArray⟩)/\Below w.heap.size w w':=by
 have b8:((n:Int)==8)=false:=by simp only[beq_eq_false_iff_ne];omega
 have b9:((n:Int)==9)=false:=by simp only[beq_eq_false_iff_ne];omega
 have b10:((n:Int)==10)=false:=by simp only[beq_eq_false_iff_ne];omega
 have b12:((n:Int)==12)=false:=by simp only[beq_eq_false_iff_ne];omega
 have b13:((n:Int)==13)=false:=by simp only[beq_eq_false_iff_ne];omega
 have b34:((n:Int)==34)=false:=by simp only[beq_eq_false_iff_ne];omega
 have b92:((n:Int)==92)=false:=by simp only[beq_eq_false_iff_ne];omega
 have hlt:(n:Int)<32:=by omega
 obtain⟨d,hd⟩:∃d:Int,bits .and .i32 (n:Int) 15=d:=⟨_,rfl⟩;have a4:d= ((n % 16:Nat):Int):=by rw[<-hd];exact DM n (by omega)
 have a9:0<=d:=by omega
 have b1:d<16:=by omega
 obtain⟨q,hq⟩:∃q:Int,(n:Int)/16=q:=⟨_,rfl⟩;have b2:0<=q:=by omega
 have b0:q<16:=by omega
 have w1:IntKind.i32.wrap (q+1)=q+1:=by simp[IntKind.wrap,IntKind.bits,IntKind.signed];omega
 have w2:IntKind.i32.wrap (d+1)=d+1:=by simp[IntKind.wrap,IntKind.bits,IntKind.signed];omega
 have q2:q+1<=16:=by omega
 have d2:d+1<=16:=by omega
 have q3:q<=q+1:=by omega
 have d3:d<=d+1:=by omega
 have q4:0<=q+1:=by omega
 have d4:0<=d+1:=by omega
 have x1:(q+1).toNat - q.toNat=1:=by omega
 have x2:(d+1).toNat - d.toNat=1:=by omega
 have a3:=H8 a4;have Hq:=H8 hq;have hle:=DW n h;rcases hle with e|e|e|e|e|hle
 ·exact absurd e h8
 ·exact absurd e h9
 ·exact absurd e a1
 ·exact absurd e a2
 ·exact absurd e a5
 have Hl:=H8 hle;clear hle;clear a4 h8 h9 a1 a2 a5 h;go_enter Tryz.func99,Tryz.ntmps99;go_wp2_with fail;refine bp (fun _=>True) (trivial) fun a0=>?_
 refine tH 0 a0 ?_;refine tH 1 a0 ?_;refine tH 2 a0 ?_;refine tH 3 a0 ?_;refine tH 4 a0 ?_;refine tH 5 a0 ?_
 try simp only[Act.put,jP,jQ,jR]
 refine tH 6 a0 ?_;refine tH 7 a0 ?_;refine tH 8 a0 ?_;refine tH 9 a0 ?_;refine tH 10 a0 ?_;refine tH 11 a0 ?_
 try simp only[Act.put,jP,jQ,jR]
 refine tH 12 a0 ?_;refine tH 13 a0 ?_;refine tH 14 a0 ?_
 try simp only[Act.put,jP,jQ,jR]
 refine wpAnyH_done (by kernel_rfl) (NoPanic.normal ?_) _;go_wp2_with fail;go_ret;refine⟨?_,ap (Ze _ _) 1⟩;have e1:q.toNat=n/16:=by have:=Hq.out;omega
 have e2:(q+1).toNat=n/16+1:=by have:=Hq.out;omega
 have e3:d.toNat=n % 16:=by have:=a3.out;omega
 have e4:(d+1).toNat=n % 16+1:=by have:=a3.out;omega
 rw[e1,e2,e3,e4]
 show Ending.returned (.string _)=_
 rw[Hl.out]
theorem EP {c:Int}(h:b6 c=true):Utf8.encode c= ⟨(aO c).toArray⟩:=by
 have e:=oh h
 cases hx:Utf8.encode c with
 |mk d=>rw[hx] at e;simp only at e;rw[<-e]
theorem pS {c:Int}(h:b6 c=true)(w:World):Calls Tryz.prog 99 #[.int .i32 c] w fun e w'=>e =.returned (.string ⟨(bO c).toArray⟩)/\Below w.heap.size w w':=by
 by_cases h34:c=34
 ·subst h34;go_enter Tryz.func99,Tryz.ntmps99;go_wp2_with fail;go_ret;exact⟨rfl,Ze _ _⟩
 by_cases h92:c=92
 ·subst h92;go_enter Tryz.func99,Tryz.ntmps99;go_wp2_with fail;go_ret;exact⟨rfl,Ze _ _⟩
 by_cases h8:c=8
 ·subst h8;go_enter Tryz.func99,Tryz.ntmps99;go_wp2_with fail;go_ret;exact⟨rfl,Ze _ _⟩
 by_cases h9:c=9
 ·subst h9;go_enter Tryz.func99,Tryz.ntmps99;go_wp2_with fail;go_ret;exact⟨rfl,Ze _ _⟩
 by_cases h10:c=10
 ·subst h10;go_enter Tryz.func99,Tryz.ntmps99;go_wp2_with fail;go_ret;exact⟨rfl,Ze _ _⟩
 by_cases h12:c=12
 ·subst h12;go_enter Tryz.func99,Tryz.ntmps99;go_wp2_with fail;go_ret;exact⟨rfl,Ze _ _⟩
 by_cases h13:c=13
 ·subst h13;go_enter Tryz.func99,Tryz.ntmps99;go_wp2_with fail;go_ret;exact⟨rfl,Ze _ _⟩
 have h0:=bX h
 by_cases h32:c<32
 ·obtain⟨n,rfl⟩:∃n:Nat,c=n:=⟨c.toNat,by omega⟩;exact qY (by omega) (by omega) (by omega) (by omega) (by omega) (by omega) w
 have b8:(c==8)=false:=by simpa using h8
 have b9:(c==9)=false:=by simpa using h9
 have b10:(c==10)=false:=by simpa using h10
 have b12:(c==12)=false:=by simpa using h12
 have b13:(c==13)=false:=by simpa using h13
 have b34:(c==34)=false:=by simpa using h34
 have b92:(c==92)=false:=by simpa using h92
 have Hl:=H8 (show bO c=aO c by unfold bO;rw[if_neg h34,if_neg h92,if_neg h8,if_neg h9,if_neg h10,if_neg h12,if_neg h13,if_neg h32]);have He:=H8 (EP h);clear h h0 h8 h9 h10 h12 h13 h34 h92;go_enter Tryz.func99,Tryz.ntmps99;go_wp2_with fail;go_ret;refine⟨?_,Ze _ _⟩;rw[Hl.out,<-He.out];rfl
theorem xi {f:Nat}{p:Nat×Nat}(h:bm xs=some (some p)):eb (f+1) xs out n=eb f (xs.drop p.2) (out++aO p.1) (n+p.2):=by
 conv=>lhs;unfold eb
 rw[h]
theorem wP {f:Nat}(h:bm xs=none):eb (f+1) xs out n=none:=by
 unfold eb;rw[h]
theorem zQ {f:Nat}(h:bm xs=some none):eb (f+1) xs out n=some (out,n+1):=by
 unfold eb;rw[h]
theorem jm (h:Below w.heap.size w w1)(j:Nat)(u:Value):Below w.heap.size w (w1.setCell ⟨w.heap.size,j,none⟩ u):=
 h.trans ((aM.set _ j u).below h.size (fun i e=>by omega))
theorem ql.put {k:Nat}(hb:Bs w v xs)(hB:Below w.heap.size w w1)(h:ql w1 w.heap.size v xs k){z:Int}(j:Nat)(hz:z=j):ql (w1.setCell ⟨w.heap.size,1,none⟩ (.int .i64 z)) w.heap.size v xs j:=by
 subst hz;exact⟨au h.1 1 _,hb.below (jm hB 1 _)⟩
theorem ao.put (h:ao w1 (g+1) v out)(u:Value):ao (w1.setCell ⟨g,1,none⟩ u) (g+1) v out:=
 h.stayB (aM.set g 1 u) (fun b hb e=>by have:=(ao.blk h hb).1;omega)
theorem AB {c:Int}(h:b6 c=true):(Utf8.encode c).size<=4:=by
 have h2:=oh h;generalize Utf8.encode c=e at *
 show e.data.size<=4
 rw[<-Array.length_toList,h2];exact kE c
def CI (p:List UInt8×Nat):Value:=.tuple #[.string ⟨p.1.toArray⟩,.int .i64 p.2,.nilIface]
def Gx (r:Option (List UInt8×Nat))(w:World)(e:Ending)(w':World):Prop:=(∃p,r=some p/\e =.returned (CI p)/\Below w.heap.size w w')\/(r=none/\fO w e w')
def DP (R:Option (List UInt8×Nat))(xs:List UInt8)(vx:Value)(g:Nat)(w:World)(m:Nat)(s6:Value)(wr:World):Prop:=
 ∃ (f k:Nat) (out:List UInt8),m+k=xs.length/\1<=k/\m<f/\eb f (xs.drop k) out k=R/\ao wr (g+1) s6 out/\out.length<=4*k/\ql wr g vx xs k/\Below g w wr
theorem nO (hb:Bs w v xs)(hG:cd w aU aE)(hQ:a7 w 22)(hS:a7 w 27)(hU:a7 w 28)(hC:a7 w 24)(hl:xs.length<=1000000000):Calls Tryz.prog 214 #[v] w (Gx (kt xs) w):=by
 obtain⟨hm,A,cap,rfl,e2,a0⟩:=id hb;obtain⟨aQ,e4⟩:=hQ;obtain rfl|⟨x,t,hx⟩:xs = []\/∃x t,xs=x::t:=by
  cases xs with
  |nil=>exact .inl rfl
  |cons x t=>exact .inr ⟨x,t,rfl⟩
 ·clear a0 hb;go_enter Tryz.func214,Tryz.ntmps214;go_wp2_with fail;refine(aW _ aQ _).mono ?_;rintro e w' ⟨vP,rfl,hv,hb⟩;exact⟨rfl,.inr ⟨rfl,vP,rfl,hv,hb⟩⟩
 have hlen:xs.length=t.length+1:=by rw[hx];rfl
 obtain⟨b,o,rfl,b1⟩:=a0 (by omega);have c0:=b1 0 (by omega);rw[Nat.add_zero] at c0;have b5:am xs 0=x.toNat:=by rw[hx];rfl
 rw[b5] at c0;have n0:((xs.length:Int)==0)=false:=by simp only[beq_eq_false_iff_ne];omega
 have e6:(0:Int)<xs.length:=by omega
 have e5:0<xs.length:=by omega
 by_cases h34:x=34
 case neg=>
  have n34:((x.toNat:Int) !=34)=true:=by
   simp only[bne_iff_ne,ne_eq];intro e;exact h34 (UInt8.toNat_inj.1 (by show x.toNat=34;omega))
  have Hn:=H8 (show kt xs=none by rw[hx];unfold kt;split <;> first|rfl|(rename_i e;injection e with e _;exact absurd e h34));clear hx hlen h34 b1 a0 hb b5;go_enter Tryz.func214,Tryz.ntmps214;go_wp2_with fail;refine(aW _ aQ _).mono ?_;rintro e w' ⟨vP,rfl,hv,hb⟩;exact⟨rfl,.inr ⟨Hn.out,vP,rfl,hv,hb⟩⟩
 have n34:((x.toNat:Int) !=34)=false:=by rw[h34];rfl
 have Hr:=H8 (show eb (t.length+1) (xs.drop 1) [] 1=kt xs by rw[hx,h34];rfl);have Hb:=H8 hb;have HG:=H8 hG;have HS:=H8 hS;have HU:=H8 hU;have HC:=H8 hC;have Hlen:=H8 hlen;generalize kt xs=R at *;have Hbox:=H8 (Zf w (.cells #[.slice (some ⟨b,o,none⟩) xs.length cap,.int .i64 1] 370));have Hba:=H8 (ac w (.cells #[.slice (some ⟨b,o,none⟩) xs.length cap,.int .i64 1] 370));clear hx hlen h34 b1 a0 hb b5 hG hS hU hC;go_enter Tryz.func214,Tryz.ntmps214;go_wp2_with fail;generalize w.alloc (.cells #[.slice (some ⟨b,o,none⟩) xs.length cap,.int .i64 1] 370)=w0 at *
 go_loopg [6] (xs.length - 1) (fun m s6 wr=>DP R xs (.slice (some ⟨b,o,none⟩) xs.length cap) w.heap.size w m s6 wr)
 case atStart=>exact⟨t.length+1,1, [],by have:=Hlen.out;omega,Zb _,by have:=Hlen.out;omega,Hr.out,ao.nil _ _,Zj _,⟨Hbox.out,Hb.out.below Hba.out⟩,Hba.out⟩
 case round=>
  obtain⟨f,k,out,f0,hk,hf,hq,ho,b8,hR,a4⟩:=hrel;have Ho:=H8 ho;have c7:=H8 b8;have HR:=H8 hR;have c4:=H8 a4;have Hq:=H8 hq;have d1:=ah hR.1;have d9:=H8 (uF hR (HG.out.below (show Below w.heap.size w wr from a4)) (HS.out.below a4) (HU.out.below a4) (HC.out.below a4) (by omega) (by omega));obtain⟨f,rfl⟩:∃f',f=f'+1:=⟨f - 1,by omega⟩;clear ho b8 hR hq a4;go_wp2_with fail;refine Za d9 ?_;rintro e w1 (⟨p,hp,rfl,a2⟩|⟨hn,vP,rfl,hv,a2⟩)
  case inr=>
   have Hn:=H8 (Hq.out.symm.trans (wP hn));have Hv:=H8 hv;have d0:=H8 (ak c4.out a2);clear hn hv a2;go_wp2_with fail;exact⟨rfl,.inr ⟨Hn.out,vP,rfl,Hv.out,d0.out⟩⟩
  have b2:=H8 (HR.out.below a2);have a9:=H8 (ak c4.out a2);have c5:=H8 (Ho.out.below a2 (Zb _));have c1:=aa b2.out.1 (j:=1) (u:=.int .i64 k) rfl;have f1:=aj b2.out.1 1;have b3:w.heap.size+1<=w1.heap.size:=Nat.lt_of_lt_of_le d1 a2.size;clear a2
  cases p with
  |none=>
   have Hn:=H8 (Hq.out.symm.trans (zQ hp));have d2:=mV hp;rw[List.length_drop] at d2;clear hp;rw[show Gq none =.tuple #[.int .i32 0,.int .i64 1,.bool false] from rfl];have e1:(k:Int)+1= ((k+1:Nat):Int):=by omega
   have b4:=H8 (b2.out.put Hb.out a9.out (k+1) e1);have a5:=H8 (c5.out.put (.int .i64 ((k:Int)+1)));have b0:=H8 (jm a9.out 1 (.int .i64 ((k:Int)+1)));have s1:IntKind.i64.wrap ((k:Int)+1)= (k:Int)+1:=IntWalk.i64_in _ (by omega);clear e1;go_wp2_with fail;have c2:=aa b4.out.1 (j:=1) (u:=.int .i64 (k+1:Nat)) rfl;have a3:(w1.setCell ⟨w.heap.size,1,none⟩ (.int .i64 ((k:Int)+1))).drew.cell? ⟨w.heap.size,1,none⟩=some (.int .i64 (k+1:Nat))/\(convert 28 9 u6).run Tryz.prog (w1.setCell ⟨w.heap.size,1,none⟩ (.int .i64 ((k:Int)+1))).drew =.ok (.string ⟨out.toArray⟩) (w1.setCell ⟨w.heap.size,1,none⟩ (.int .i64 ((k:Int)+1))).drew:=⟨c2,aH (ao.bs (ao.drewN a5.out 1))⟩;generalize w1.setCell ⟨w.heap.size,1,none⟩ (.int .i64 ((k:Int)+1))=w2 at *;clear c1 f1 c2;refine bp (fun w'=>w'.cell? ⟨w.heap.size,1,none⟩=some (.int .i64 (k+1:Nat))/\(convert 28 9 u6).run Tryz.prog w' =.ok (.string ⟨out.toArray⟩) w') (a3) fun a1=>?_
   refine tH 0 a1 ?_;refine tH 1 a1 ?_;refine tH 2 a1 ?_;refine tH 3 a1 ?_;refine tH 4 a1 ?_;refine tH 5 a1 ?_
   try simp only[Act.put,jP,jQ,jR]
   refine tH 6 a1 ?_;refine tH 7 a1 ?_;refine tH 8 a1 ?_
   try simp only[Act.put,jP,jQ,jR]
   refine wpAnyH_done (by kernel_rfl) (NoPanic.normal ?_) _;go_wp2_with fail;go_ret3;exact .inl ⟨(out,k+1),Hn.out,rfl,ap b0.out 1⟩
  |some p=>
   obtain⟨ca,cl⟩:=p;obtain⟨hi,d6,c3⟩:=lN hp;rw[List.length_drop] at c3
   dsimp only at hi d6 c3
   have d3:=H8 ((xi hp).symm.trans Hq.out);have Hi:=H8 hi;rw[show Gq (some (ca,cl)) =.tuple #[.int .i32 ca,.int .i64 cl,.bool true] from rfl];have b1:cl<=1000000000:=by omega
   have d4:=c7.out;have e3:k<=1000000000:=by omega
   obtain⟨z,hz⟩:∃z:Int,(k:Int)+cl=z:=⟨_,rfl⟩;have s1:IntKind.i64.wrap ((k:Int)+cl)=z:=by rw[hz];exact IntWalk.i64_in _ (by omega)
   have b4:=H8 (b2.out.put Hb.out a9.out (z:=z) (k+cl) (by omega));have a5:=H8 (c5.out.put (.int .i64 z));have b0:=H8 (jm a9.out 1 (.int .i64 z));have d5:=H8 (show w.heap.size+1<=(w1.setCell ⟨w.heap.size,1,none⟩ (.int .i64 z)).heap.size by simpa using b3);have e0:(Utf8.encode (ca:Int)).size<=4:=AB Hi.out;have c8:=H8 (show out.length+ (Utf8.encode (ca:Int)).size<=140737488355328 by omega);clear hp hi hz e0;go_wp2_with (at_builtin;refine bM rfl (.tmp 46) (.tmp 48) rfl (w.heap.size+1) u6 out (Utf8.encode ca) (by simp[Act.eval]) a5.out (by simp[Act.eval]) c8.out d5.out ?_;intro v' w3 h1 h2;have HK:=H8 h1;have c6:=H8 h2;clear h1 h2);have b9:Below w.heap.size w w3:=b0.out.grown c6.out b0.out.size (fun g e=>by have:=(ao.blk a5.out e).1;omega);have c9:w3.heap[w.heap.size]?=_:=ay b4.out.1 c6.out (fun e=>by have:=(ao.blk a5.out e).1;omega);have h3:DP R xs (.slice (some ⟨b,o,none⟩) xs.length cap) w.heap.size w (xs.length - (k+cl)) v' w3:=by
    refine⟨f,k+cl,out++aO ca,by omega,by omega,by omega,?_,?_,?_,⟨c9,Hb.out.below b9⟩,b9⟩
    ·rw[<-d3.out,List.drop_drop]
    ·rw[<-oh Hi.out];exact HK.out
    ·have:=kE ca;rw[List.length_append];omega
   go_roundg (xs.length - (k+cl))
   case measure=>omega
   case rel=>exact h3
theorem sI (a:Addr)(W:World):(Instr.typeAssert (.iface 63 (.pointer (some a))) 20 63 true).run Tryz.prog W =.ok (.tuple #[.pointer (some a),.bool true]) W:=by kernel_rfl
theorem ky (a:Addr)(w:World):Calls Tryz.prog 213 #[.iface 63 (.pointer (some a))] w fun e w'=>e =.returned (.iface 63 (.pointer (some a)))/\w=w':=by
 go_enter Tryz.func213,Tryz.ntmps213;have q:=sI a w;go_wp2_with fail;go_ret;exact⟨rfl,rfl⟩
theorem zl (p q r:Value)(w:World):CallsD Tryz.prog 212 #[p,q,r] .returning w fun e u' w'=>e =.returned (.tuple #[])/\u' =.returning/\w'=w:=by
 refine callsD_of_wpS Tryz.func212 rfl fun c₀ cs hu=>?_
 apply wpS_seq
 apply wpS_region
 simp[wpOpsS,go_sem,recoverD,hu,Tryz.ntmps212,Exit.thenS];apply wpS_seq;apply wpS_region;simp[wpOpsS,go_sem,Exit.thenS];refine wpS_cond (t:=false) (by simp[Act.eval,Array.replicate]) ?_;simp only[Bool.false_eq_true,if_false];refine wpS_of_wp (wp_skip ?_)
 cases c₀
 simp_all [bodyPostS,results,Tryz.results212]
theorem wM {p:Nat}(h0:w.heap[p]?=some (.cells #[x0] t0 (0,0)))(h1:w.heap[p+1]?=some (.cells #[x1] t1 (0,0)))(h2:w.heap[p+1+1]?=some (.cells #[x2] t2 (0,0)))(a:Addr)(older:List PanicEntry) :
  CallsD Tryz.prog 212 #[.pointer (some ⟨p,0,none⟩),.pointer (some ⟨p+1,0,none⟩),.pointer (some ⟨p+1+1,0,none⟩)] (.panicking ({v:=.iface 63 (.pointer (some a)),recovered:=false}::older)) w fun e u' w'=>
   e =.returned (.tuple #[])/\u' =.panicking ({v:=.iface 63 (.pointer (some a)),recovered:=true}::older)/\w'= ((w.setCell ⟨p,0,none⟩ (.string ⟨#[]⟩)).setCell ⟨p+1,0,none⟩ (.int .i64 0)).setCell ⟨p+1+1,0,none⟩ (.iface 63 (.pointer (some a))):=by
 have c0:=aa h0 (j:=0) rfl;have f0:=aj h0 0;have c1:=aa h1 (j:=0) rfl;have f1:=aj h1 0;have c2:=aa h2 (j:=0) rfl;have f2:=aj h2 0;clear h0 h1 h2;refine callsD_of_wpS Tryz.func212 rfl fun c₀ cs hu=>?_
 apply wpS_seq
 apply wpS_region
 simp[wpOpsS,go_sem,recoverD,hu,Tryz.ntmps212,Exit.thenS];apply wpS_seq;apply wpS_region;simp[wpOpsS,go_sem,Exit.thenS];refine wpS_cond (t:=true) (by simp[Act.eval,Array.replicate]) ?_;simp only[if_true];refine wpS_of_wp ?_;go_wp2_with fail;refine(ky _ _).mono ?_;rintro e w' ⟨rfl,rfl⟩;go_wp2_with fail;refine⟨rfl,_,rfl,.tuple #[],?_,rfl,rfl,rfl⟩;simp[results,Tryz.results212,go_sem]
theorem na (h0:w2.heap[w.heap.size]?=some (.cells #[x0] t0 (0,0)))(h1:w2.heap[w.heap.size+1]?=some (.cells #[x1] t1 (0,0)))(h2:w2.heap[w.heap.size+1+1]?=some (.cells #[x2] t2 (0,0)))(hb:Below w.heap.size w w2)(y0 y1 y2:Value) :
  Below w.heap.size w (((w2.setCell ⟨w.heap.size,0,none⟩ y0).setCell ⟨w.heap.size+1,0,none⟩ y1).setCell ⟨w.heap.size+1+1,0,none⟩ y2)/\(((w2.setCell ⟨w.heap.size,0,none⟩ y0).setCell ⟨w.heap.size+1,0,none⟩ y1).setCell ⟨w.heap.size+1+1,0,none⟩ y2).cell? ⟨w.heap.size,0,none⟩=some y0/\
   (((w2.setCell ⟨w.heap.size,0,none⟩ y0).setCell ⟨w.heap.size+1,0,none⟩ y1).setCell ⟨w.heap.size+1+1,0,none⟩ y2).cell? ⟨w.heap.size+1,0,none⟩=some y1/\(((w2.setCell ⟨w.heap.size,0,none⟩ y0).setCell ⟨w.heap.size+1,0,none⟩ y1).setCell ⟨w.heap.size+1+1,0,none⟩ y2).cell? ⟨w.heap.size+1+1,0,none⟩=some y2:=by
 have a0:=au h0 0 y0;have a1:=aq w2 (w.heap.size+1) w.heap.size 0 y0 _ _ (by omega) h1;have a2:=aq w2 (w.heap.size+1+1) w.heap.size 0 y0 _ _ (by omega) h2;have b0:=aq _ w.heap.size (w.heap.size+1) 0 y1 _ _ (by omega) a0;have b1:=au a1 0 y1;have b2:=aq _ (w.heap.size+1+1) (w.heap.size+1) 0 y1 _ _ (by omega) a2;have d0:=aq _ w.heap.size (w.heap.size+1+1) 0 y2 _ _ (by omega) b0;have d1:=aq _ (w.heap.size+1) (w.heap.size+1+1) 0 y2 _ _ (by omega) b1;have d2:=au b2 0 y2;refine⟨((hb.setCell (p:=⟨w.heap.size,0,none⟩) (Zb _) _).setCell (p:=⟨w.heap.size+1,0,none⟩) (Nat.le_succ _) _).setCell (p:=⟨w.heap.size+1+1,0,none⟩) (by show w.heap.size<=w.heap.size+1+1;omega) _,aa d0 (j:=0) rfl,aa d1 (j:=0) rfl,aa d2 (j:=0) rfl⟩
def Gt (r:Option (List UInt8×Nat))(w:World)(e:Ending)(w':World):Prop:=(∃p,r=some p/\e =.returned (CI p)/\Below w.heap.size w w')\/(r=none/\∃v,e =.returned (.tuple #[.string ⟨#[]⟩,.int .i64 0,v])/\EN w' v/\Below w.heap.size w w')
theorem oJ (hb:Bs w v xs)(hG:cd w aU aE)(hQ:a7 w 22)(hS:a7 w 27)(hU:a7 w 28)(hC:a7 w 24)(hl:xs.length<=1000000000):Calls Tryz.prog 203 #[v] w (Gt (kt xs) w):=by
 have b0:∀ (fn:Fn) (first cap:Array Value) (w:World),(Instr.makeFunc fn first cap).run Tryz.prog w =.ok (.func fn first cap) w:=fun _ _ _ _=>rfl
 have a1:Below w.heap.size w (((w.alloc (.cells #[.string ⟨#[]⟩] 9)).alloc (.cells #[.int .i64 0] 3)).alloc (.cells #[.nilIface] 30)):=(((Ze _ _).alloc (Zb _) _).alloc (by simp) _).alloc (by simp only[World.size_alloc];omega) _;have h0:(((w.alloc (.cells #[.string ⟨#[]⟩] 9)).alloc (.cells #[.int .i64 0] 3)).alloc (.cells #[.nilIface] 30)).heap[w.heap.size]?=some (.cells #[.string ⟨#[]⟩] 9 (0,0)):=(Below.heap_alloc _ _ _ (by simp only[World.size_alloc];omega)).trans ((Below.heap_alloc _ _ _ (by simp)).trans (Zf w _));have h1:(((w.alloc (.cells #[.string ⟨#[]⟩] 9)).alloc (.cells #[.int .i64 0] 3)).alloc (.cells #[.nilIface] 30)).heap[w.heap.size+1]?=some (.cells #[.int .i64 0] 3 (0,0)):=by
  have:=Zf (w.alloc (.cells #[.string ⟨#[]⟩] 9)) (.cells #[.int .i64 0] 3);rw[World.size_alloc] at this;exact(Below.heap_alloc _ _ _ (by simp)).trans this
 have h2:(((w.alloc (.cells #[.string ⟨#[]⟩] 9)).alloc (.cells #[.int .i64 0] 3)).alloc (.cells #[.nilIface] 30)).heap[w.heap.size+1+1]?=some (.cells #[.nilIface] 30 (0,0)):=by
  have:=Zf ((w.alloc (.cells #[.string ⟨#[]⟩] 9)).alloc (.cells #[.int .i64 0] 3)) (.cells #[.nilIface] 30)
  rwa[World.size_alloc,World.size_alloc] at this
 have hz:(((w.alloc (.cells #[.string ⟨#[]⟩] 9)).alloc (.cells #[.int .i64 0] 3)).alloc (.cells #[.nilIface] 30)).heap.size=w.heap.size+3:=by simp
 have a2:=H8 a1;have H0:=H8 h0;have H1:=H8 h1;have H2:=H8 h2;have Hz:=H8 hz;have a9:=H8 (nO (hb.below a1) (hG.below a1) (hQ.below a1) (hS.below a1) (hU.below a1) (hC.below a1) hl);clear a1 h0 h1 h2 hz hb hG hQ hS hU hC;go_enter_defers Tryz.func203,Tryz.ntmps203;go_wp2_with fail;generalize ((w.alloc (.cells #[.string ⟨#[]⟩] 9)).alloc (.cells #[.int .i64 0] 3)).alloc (.cells #[.nilIface] 30)=w1 at *;refine Za a9 ?_;rintro e w2 (⟨p,hp,rfl,a0⟩|⟨hn,vP,rfl,hv,a0⟩)
 ·have Hp:=H8 hp;have g0:=ai H0.out a0;have g1:=ai H1.out a0;have g2:=ai H2.out a0;have a3:=H8 (a2.out.trans (a0.mono a2.out.size));have G0:=H8 g0;have G1:=H8 g1;have G2:=H8 g2;have c0:=aa g0 (j:=0) rfl;have f0:=aj g0 0;have c1:=aa g1 (j:=0) rfl;have f1:=aj g1 0;have c2:=aa g2 (j:=0) rfl;have f2:=aj g2 0;clear hp a0 g0 g1 g2;rw[show CI p =.tuple #[.string ⟨p.1.toArray⟩,.int .i64 p.2,.nilIface] from rfl];go_wp2_with fail;obtain⟨a4,d0,d1,d2⟩:=na G0.out G1.out G2.out a3.out (.string ⟨p.1.toArray⟩) (.int .i64 p.2) .nilIface;clear c0 c1 c2 f0 f1 f2;generalize ((w2.setCell ⟨w.heap.size,0,none⟩ (.string ⟨p.1.toArray⟩)).setCell ⟨w.heap.size+1,0,none⟩ (.int .i64 p.2)).setCell ⟨w.heap.size+1+1,0,none⟩ .nilIface=w3 at *;refine leaves_cons (f:=212) (args:= #[.pointer (some ⟨w.heap.size,0,none⟩),.pointer (some ⟨w.heap.size+1,0,none⟩),.pointer (some ⟨w.heap.size+1+1,0,none⟩)]) (by simp) (by simp[go_sem]) ?_;refine(zl _ _ _ _).mono ?_;rintro e u' w'' ⟨rfl,rfl,rfl⟩;simp[Leaves,settle,results,Tryz.results203,go_sem,d0,d1,d2];exact .inl ⟨p,Hp.out,rfl,a4⟩
 ·obtain⟨g,pz,a,rfl,hg⟩:=hv;have Hn:=H8 hn;have Hg:=H8 hg;have G0:=H8 (ai H0.out a0);have G1:=H8 (ai H1.out a0);have G2:=H8 (ai H2.out a0);have a3:=H8 (a2.out.trans (a0.mono a2.out.size));clear hn hg a0;go_wp2_with fail;obtain⟨a4,d0,d1,d2⟩:=na G0.out G1.out G2.out a3.out (.string ⟨#[]⟩) (.int .i64 0) (.iface 63 (.pointer (some ⟨g,0,none⟩)));refine leaves_cons (f:=212) (args:= #[.pointer (some ⟨w.heap.size,0,none⟩),.pointer (some ⟨w.heap.size+1,0,none⟩),.pointer (some ⟨w.heap.size+1+1,0,none⟩)]) (by simp) (by simp[go_sem]) ?_;refine(wM G0.out G1.out G2.out ⟨g,0,none⟩ []).mono ?_;rintro e u' w'' ⟨rfl,rfl,rfl⟩;have hne:∀ {i:Nat} {x:Value} {t:TypeId},w2.heap[i]?=some (.cells #[x] t (0,0))->g≠i:=fun hi e=>by
   subst e;have h:=Hg.out.symm.trans hi;injection h with h
   injection h with h
   simp at h
  have a5:=aq _ g (w.heap.size+1+1) 0 (.iface 63 (.pointer (some ⟨g,0,none⟩))) _ _ (hne G2.out) (aq _ g (w.heap.size+1) 0 (.int .i64 0) _ _ (hne G1.out) (aq w2 g w.heap.size 0 (.string ⟨#[]⟩) _ _ (hne G0.out) Hg.out));simp[Leaves,settle,results,Tryz.results203,go_sem,d0,d1,d2];exact .inr ⟨Hn.out,_,rfl,⟨g,pz,a,rfl,a5⟩,a4⟩
