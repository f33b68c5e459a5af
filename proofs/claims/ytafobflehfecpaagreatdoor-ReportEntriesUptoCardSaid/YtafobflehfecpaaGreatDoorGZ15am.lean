import Derived.Test.YtafobflehfecpaaGreatDoorGZ15al
import Derived.Laws.EntriesVeiled
set_option linter.unusedVariables false
set_option linter.unusedSimpArgs false
set_option maxHeartbeats 64000000
set_option maxRecDepth 100000
namespace Go.Proofs.YtafobflehfecpaaGreatDoor
open Go.RowKit Go.Shelf
variable {aE aU:Addr}{out xs:List UInt8}{g n:Nat}{t0 t1 t2:TypeId}{v x0 x1 x2:Value}{W w w1 w2:World}
theorem zO:(Tryz.prog.info? 408).map (·.comparable)=some true:=by kernel_rfl
theorem BI:(Tryz.prog.info? 410).map (fun i=>i.size)=some 1:=by kernel_rfl
theorem EC:Tryz.prog.underlying 30=some (.interface (Tryz.prog.methodsAt 30)):=by kernel_rfl
theorem eT (a:Addr)(W:World):(binOp .eql 30 (bt a) (bt a)).run Tryz.prog W =.ok (.bool true) W:=by
 obtain⟨i,hi,hc⟩:=Option.map_eq_some_iff.1 zO;obtain⟨j,hj,hs⟩:=Option.map_eq_some_iff.1 BI;exact run_eql_iface_ptr_same W a Tryz.underlying30 Tryz.underlying408 hi hc hj
theorem iK (h:cf W aU aE):(binOp .eql 30 (bt aU) (bt aE)).run Tryz.prog W =.ok (.bool false) W:=by
 obtain⟨i,hi,hc⟩:=Option.map_eq_some_iff.1 zO;obtain⟨j,hj,hs⟩:=Option.map_eq_some_iff.1 BI;obtain⟨c1,t1,h1⟩:=h.hu;obtain⟨c2,t2,h2⟩:=h.he;exact run_eql_iface_ptr_other W Tryz.underlying30 Tryz.underlying408 hi hc hj (by omega) h.ne h1 h2
theorem kz (a:Addr)(W:World):(binOp .eql 30 .nilIface (bt a)).run Tryz.prog W =.ok (.bool false) W:=run_eql_iface_nil_left W _ _ EC
def Gz:Option (Nat×Nat)->Value
 |none=>.tuple #[.int .i32 0,.int .i64 1,.bool false]
 |some p=>.tuple #[.int .i32 p.1,.int .i64 p.2,.bool true]
def GY (r:Option (Option (Nat×Nat)))(w:World)(e:Ending)(w':World):Prop:=(∃p,r=some p/\e =.returned (Gz p)/\Below w.heap.size w w')\/(r=none/\fQ w e w')
theorem sZ {c:UInt8}{t:List UInt8}(a0:c.toNat≠34)(a2:c.toNat≠92)(a1:¬c.toNat<32):bk (c::t)=if(a7 (c::t)).2.2=0 then some (some ((a7 (c::t)).1,(a7 (c::t)).2.1)) else none:=by
 simp only[bk];rw[if_neg (fun e=>a0 (by rw[e];rfl)),if_neg (fun e=>a2 (by rw[e];rfl)),if_neg a1]
theorem tj {c:UInt8}{t:List UInt8}(a0:c.toNat≠34)(a2:c.toNat≠92)(a1:c.toNat<32):bk (c::t)=none:=by
 simp only[bk];rw[if_neg (fun e=>a0 (by rw[e];rfl)),if_neg (fun e=>a2 (by rw[e];rfl)),if_pos a1]
theorem tP {k:Nat}(h:pA w g v xs k)(hG:cf w aU aE)(hS:a6 w 27)(hU:a6 w 28)(hC:a6 w 24)(hk:k<=1000000000)(hl:xs.length<=1000000000):Calls Tryz.prog 237 #[.pointer (some ⟨g,0,none⟩)] w fun e w'=>GY (bk (xs.drop k)) w e w':=by
 obtain⟨hg,hb⟩:=id h;obtain⟨hm,A,cap,rfl,b9,a1⟩:=id hb;have c0:=aa hg (j:=0) (u:=.slice A xs.length cap) rfl;have c1:=aa hg (j:=1) (u:=.int .i64 k) rfl;have hE:a6 w 9:=⟨aE,hG.e⟩;have H:=Qa h;have HE:=Qa hE;have HG:=Qa hG;have c2:=Qa (rz h hE hS hU hk);obtain⟨aC,b4⟩:=hC;rcases hc:xs[k]? with _|c
 ·have Hn:=Qa (show bk (xs.drop k)=none by rw[List.drop_of_length_le (List.getElem?_eq_none_iff.1 hc)];rfl);have Hc:=Qa hc;clear hc h hE hG hS hU hg hb a1;go_enter Tryz.func237,Tryz.ntmps237;go_wp2_with fail;refine(fI H.out HE.out k Hc.out).mono ?_;rintro e w' ⟨vP,rfl,hv,hb⟩;have Hv:=Qa hv;have b0:=Qa hb;clear hv hb;go_wp2_with fail;exact⟨rfl,.inr ⟨Hn.out,vP,rfl,Hv.out,b0.out⟩⟩
 obtain⟨hlt,b1⟩:=List.getElem?_eq_some_iff.1 hc;have hd:xs.drop k=c::xs.drop (k+1):=by rw[List.drop_eq_getElem_cons hlt,b1]
 obtain⟨b,o,rfl,-⟩:=a1 (by omega);have a4:=Qa (show Bs w.drew (.slice (some ⟨b,o+k,none⟩) (xs.length - k) (cap - k)) (xs.drop k) from hb.cut (Nat.le_of_lt hlt));have Hd:=Qa hd;have Hc:=Qa hc;clear hc b1 h hE hS hU hg hb a1;have hx:=c.toNat_lt
 by_cases h34:c.toNat=34
 ·obtain rfl:c=34:=UInt8.toNat_inj.1 (by rw[h34];rfl);rw[hd];clear hd h34 hG;go_enter Tryz.func237,Tryz.ntmps237;go_wp2_with fail;refine(aF H.out HE.out k Hc.out).mono ?_;rintro e w' ⟨rfl,rfl⟩;rw[show(34:UInt8).toNat=34 from rfl];go_wp2_with fail;go_ret3;exact .inl ⟨none,rfl,rfl,Ze _ _⟩
 have n34:((c.toNat:Int)==34)=false:=by simp only[beq_eq_false_iff_ne];omega
 by_cases h92:c.toNat=92
 ·obtain rfl:c=92:=UInt8.toNat_inj.1 (by rw[h92];rfl);have Hp:=Qa (show bk (xs.drop k)= (sA (xs.drop (k+1))).map some by rw[hd];rfl);clear hd h92 h34 n34 hG;go_enter Tryz.func237,Tryz.ntmps237;go_wp2_with fail;refine(aF H.out HE.out k Hc.out).mono ?_;rintro e w' ⟨rfl,rfl⟩;rw[show(92:UInt8).toNat=92 from rfl];go_wp2_with fail;refine Za c2 ?_;rintro e w' (⟨p,hp,rfl,hb⟩|⟨hn,vP,rfl,hv,hb⟩)
  ·have Hr:=Qa (show bk (xs.drop k)=some (some p) by rw[Hp.out,hp];rfl);have Hb:=Qa hb;obtain⟨p1,p2⟩:=p;clear hp hb
   dsimp only
   go_wp2_with fail;go_ret3;exact .inl ⟨some (p1,p2),Hr.out,rfl,Hb.out⟩
  ·have Hn:=Qa (show bk (xs.drop k)=none by rw[Hp.out,hn];try rfl);have Hv:=Qa hv;have b0:=Qa hb;clear hn hv hb;go_wp2_with fail;exact⟨rfl,.inr ⟨Hn.out,vP,rfl,Hv.out,b0.out⟩⟩
 have n92:((c.toNat:Int)==92)=false:=by simp only[beq_eq_false_iff_ne];omega
 by_cases h32:c.toNat<32
 ·have a9:(c.toNat:Int)<32:=by omega
  have Hn:=Qa (show bk (xs.drop k)=none by rw[hd];exact tj h34 h92 h32);clear hd h34 h92 h32 hG;go_enter Tryz.func237,Tryz.ntmps237;go_wp2_with fail;refine(aF H.out HE.out k Hc.out).mono ?_;rintro e w' ⟨rfl,rfl⟩;go_wp2_with fail;refine wp_region_held_drew (S:=fun w'=>w'.cell? ⟨g,1,none⟩=some (.int .i64 k)/\w'.cell? ⟨24,0,none⟩=some (bt aC)) (by kernel_rfl) (⟨c1,b4⟩) (fun a0=>?_);refine tH 0 a0 ?_;refine tH 1 a0 ?_;refine tH 2 a0 ?_;refine tH 3 a0 ?_;refine tH 4 a0 ?_
  try simp only[Act.put,jP,jQ,jR]
  refine rH 5 fun K hK=>?_
  go_simp;refine(aW _ aC _).mono ?_;rintro e w' hf;obtain⟨vP,rfl,hv,hb⟩:=hf.low (show Below w.heap.size w w.drew from(Ze _ _).drew);exact⟨rfl,.inr ⟨Hn.out,vP,rfl,hv,hb⟩⟩
 have a9:¬ (c.toNat:Int)<32:=by omega
 have Hr:=Qa (show bk (xs.drop k)=if(a7 (xs.drop k)).2.2=0 then some (some ((a7 (xs.drop k)).1,(a7 (xs.drop k)).2.1)) else none by rw[hd];exact sZ h34 h92 h32);have b8:(k:Int)<=xs.length:=by omega
 clear hd h34 h92 h32;have b3:=(pj (xs.drop k)).2;have a2:rD (bV aU) (bV aE) (a7 (xs.drop k)) =.tuple #[.int .i32 (a7 (xs.drop k)).1,.int .i64 (a7 (xs.drop k)).2.1,gM (bV aU) (bV aE) (a7 (xs.drop k)).2.2]:=rfl;rcases hr:a7 (xs.drop k) with ⟨ca,cl,cc⟩
 rw[hr] at b3 a2
 dsimp only at b3 a2
 obtain⟨ve,hve⟩:∃ve,gM (bV aU) (bV aE) cc=ve:=⟨_,rfl⟩;rw[hve] at a2;have a5:=Qa (show bk (xs.drop k)=if cc=0 then some (some (ca,cl)) else none by rw[Hr.out,hr]);have b5:=Qa (show rD (bV aU) (bV aE) (a7 (xs.drop k))=_ from hr▸a2);have a3:=Qa hve;clear hr a2 hve Hr;go_enter Tryz.func237,Tryz.ntmps237;go_wp2_with fail;refine(aF H.out HE.out k Hc.out).mono ?_;rintro e w' ⟨rfl,rfl⟩;go_wp2_with fail;refine bm (fun w'=>w'.cell? ⟨g,0,none⟩=some (.slice (some ⟨b,o,none⟩) xs.length cap)/\w'.cell? ⟨g,1,none⟩=some (.int .i64 k)) (⟨c0,c1⟩) fun a0=>?_
 refine tH 0 a0 ?_;refine tH 1 a0 ?_;refine tH 2 a0 ?_;refine tH 3 a0 ?_;refine tH 4 a0 ?_;refine tH 5 a0 ?_
 try simp only[Act.put,jP,jQ,jR]
 refine tH 6 a0 ?_;refine tH 7 a0 ?_;refine tH 8 a0 ?_
 try simp only[Act.put,jP,jQ,jR]
 refine rH 9 fun K hK=>?_
 go_simp;(try rw[if_neg (show ¬cap=k by omega)]);(with_reducible refine(fg a4.out (HG.out.below ((Ze w.heap.size w).drew))).mono ?_);rintro e w' ⟨rfl,m,rfl⟩;rw[b5.out];refine hK.out _ _ (a0) (fun a0=>?_);clear hK K
 try simp only[Act.put,jP,jQ,jR]
 refine tH 10 a0 ?_;refine tH 11 a0 ?_;refine tH 12 a0 ?_;refine tH 13 a0 ?_;refine tH 14 a0 ?_;refine tH 15 a0 ?_
 try simp only[Act.put,jP,jQ,jR]
 refine tH 16 a0 ?_
 try simp only[Act.put,jP,jQ,jR]
 refine wpAnyH_done (by kernel_rfl) (NoPanic.normal ?_) _;have Hb:=Qa (show Below w.heap.size w (w.drew.drewN m) from ap ((Ze _ _).drew) m);have b2:=Qa (show cf (w.drew.drewN m) aU aE from(HG.out.below ((Ze w.heap.size w).drew)).drewN m);have c0':(w.drew.drewN m).cell? ⟨g,0,none⟩=some (.slice (some ⟨b,o,none⟩) xs.length cap):=c0;have c1':(w.drew.drewN m).cell? ⟨g,1,none⟩=some (.int .i64 k):=c1;have cE:(w.drew.drewN m).cell? ⟨9,0,none⟩=some (bt aE):=b2.out.e;generalize w.drew.drewN m=w1 at *;clear c0 c1;rcases(by omega:cc=0\/cc=1\/cc=2) with rfl|rfl|rfl
 ·obtain rfl: .nilIface=ve:=a3.out;have q:=kz aE w1;go_wp2_with fail;go_ret3;exact .inl ⟨some (ca,cl),a5.out,rfl,Hb.out⟩
 ·obtain rfl:bt aE=ve:=a3.out;have q:=eT aE w1;go_wp2_with fail;refine(aW _ aE _).mono ?_;rintro e w' hf;obtain⟨vP,rfl,hv,hb⟩:=hf.low Hb.out;exact⟨rfl,.inr ⟨a5.out,vP,rfl,hv,hb⟩⟩
 ·obtain rfl:bt aU=ve:=a3.out;have q:=iK b2.out;go_wp2_with fail;refine(aW _ aU _).mono ?_;rintro e w' hf;obtain⟨vP,rfl,hv,hb⟩:=hf.low Hb.out;exact⟨rfl,.inr ⟨a5.out,vP,rfl,hv,hb⟩⟩
theorem Fy (n:Nat)(hv:Utf8.valid (n:Int)=true)(h1:n<128):Utf8.encode (n:Int)= ⟨#[UInt8.ofNat n]⟩:=by
 unfold Utf8.encode;simp only[hv,if_true,Int.toNat_natCast,h1]
theorem F4 (n:Nat)(hv:Utf8.valid (n:Int)=true)(h1:¬n<128)(h2:n<2048):Utf8.encode (n:Int)= ⟨#[UInt8.ofNat (192+n/64),UInt8.ofNat (128+n % 64)]⟩:=by
 unfold Utf8.encode;simp only[hv,if_true,Int.toNat_natCast,h1,h2,if_false]
theorem FC (n:Nat)(hv:Utf8.valid (n:Int)=true)(h1:¬n<128)(h2:¬n<2048)(h3:n<65536):Utf8.encode (n:Int)= ⟨#[UInt8.ofNat (224+n/4096),UInt8.ofNat (128+n/64 % 64),UInt8.ofNat (128+n % 64)]⟩:=by
 unfold Utf8.encode;simp only[hv,if_true,Int.toNat_natCast,h1,h2,h3,if_false]
theorem FO (n:Nat)(hv:Utf8.valid (n:Int)=true)(h1:¬n<128)(h2:¬n<2048)(h3:¬n<65536):Utf8.encode (n:Int)= ⟨#[UInt8.ofNat (240+n/262144),UInt8.ofNat (128+n/4096 % 64),UInt8.ofNat (128+n/64 % 64),UInt8.ofNat (128+n % 64)]⟩:=by
 unfold Utf8.encode;simp only[hv,if_true,Int.toNat_natCast,h1,h2,h3,if_false]
theorem ou {c:Int}(hc:ce c=true):(Utf8.encode c).data.toList=aO c:=by
 obtain⟨n,rfl⟩:∃n:Nat,c=n:=⟨c.toNat,by have:=bY hc;omega⟩;have hr:n<=1114111/\¬ (55296<=n/\n<=57343):=by rw[bI] at hc;simp at hc;omega
 have hv:Utf8.valid (n:Int)=true:=by rw[ji];omega
 by_cases h1:n<128
 ·rw[j2 n h1,Fy n hv h1]
 ·by_cases h2:n<2048
  ·rw[mL n ⟨by omega,h2⟩,F4 n hv h1 h2]
  ·by_cases h3:n<65536
   ·rw[lK n ⟨by omega,h3⟩ (by omega),FC n hv h1 h2 h3]
   ·rw[mK n ⟨by omega,by omega⟩,FO n hv h1 h2 h3]
theorem bK {ops:Array Oper}{rest:List Oper}{o:Oper}{a:Act}{Q:Exit->Act->World->Prop}(a3:o.guard=none)(sl x:Operand)
  (ho:o.op =.call {callee:=.builtin .append,args:= #[sl,x],argTypes:= #[28,9]})
  (base:Nat) (v:Value) (ys:List UInt8) (s:ByteArray) (hs:a.eval sl=v) (a1:ao w base v ys) (hx:a.eval x =.string s)
  (hlen:ys.length+s.size<=140737488355328) (a0:base<=w.heap.size)
  (h:∀v' w',ao w' base v' (ys++s.data.toList)->w.grownBy w' v.ownBlock->wpList Tryz.prog ops Q rest (a.put o.dst v') w'):wpList Tryz.prog ops Q (o::rest) a w:=by
 refine wpList_plain a3 fun K hK=>?_
 obtain⟨i0,hi,a5,a2,a4⟩:=info_parts zG;obtain⟨v',w',hr,h2,h3,h4⟩:=Lib.run_append_own_string (P:=Tryz.prog) w base 28 9 o.type 5 i0 Tryz.underlying28 Tryz.underlying9 hi a5 a2 a4 v ys.length (eW ys) a1 s (by unfold maxLen;omega) hlen a0;unfold Oper.wp execOp;simp only[ho,resolve,invoke,builtin,Sem.run_bind,Sem.run_pure,Result.andThen_ok,List.map_toArray,List.map_cons,List.map_nil,hs,hx,hr];refine hK _ _ (h v' w' ?_ h3);have e1:eW (ys++s.data.toList)=eW ys++Lib.strCells s:=by rw[me];rfl
 have e2:(ys++s.data.toList).length=ys.length+s.size:=by rw[List.length_append];rfl
 unfold ao;rw[e1,e2];exact h2
theorem ro {x:Nat}(h:bW xs=some x):x<65536/\4<=xs.length:=by
 refine⟨?_,?_⟩
 ·have:=fa xs 0;rw[List.drop_zero,h] at this;exact fF this.symm
 ·rcases xs with _|⟨a,_|⟨b,_|⟨c,_|⟨d,t⟩⟩⟩⟩
  ·cases h
  ·simp[bW] at h
  ·simp[bW] at h
  ·simp[bW] at h
  ·simp
theorem Dy {p:Nat×Nat}(h:io xs=some p):ce p.1=true/\1<=p.2/\p.2<=xs.length+2:=by
 unfold io at h
 cases hx:bW xs with
 |none=>simp only[hx,bind,Option.bind] at h;cases h
 |some x=>
  obtain⟨b1,b2⟩:=ro hx;simp only[hx,bind,pure,Option.bind] at h
  split at h
  ·injection h with h
   subst h;refine⟨by rw[bI];simp;omega,by simp,by simp only;omega⟩
  split at h
  ·rename_i a b ys hd
   split at h
   ·cases h
   cases hy:bW ys with
   |none=>simp only[hy] at h;cases h
   |some y=>
    simp only[hy] at h;obtain⟨c1,c2⟩:=ro hy;have hl:(xs.drop 4).length=ys.length+2:=by rw[hd];rfl
    rw[List.length_drop] at hl
    split at h
    ·cases h
    injection h with h
    subst h;refine⟨by rw[bI];simp;omega,by simp,by simp only;omega⟩
  ·cases h
theorem Cv {p:Nat×Nat}(h:sA xs=some p):ce p.1=true/\1<=p.2/\p.2<=xs.length+1:=by
 unfold sA at h
 split at h <;> first
  |(injection h with h;subst h;exact⟨by decide,by decide,by simp⟩)
  |(have:=Dy h;exact⟨this.1,this.2.1,by simpa using this.2.2⟩)
  |cases h
theorem lf {p:Nat×Nat}(h:bk xs=some (some p)):ce p.1=true/\1<=p.2/\p.2<=xs.length:=by
 rcases xs with _|⟨x,xs⟩
 ·cases h
 simp only[bk] at h
 split at h
 ·cases h
 split at h
 ·rw[Option.map_eq_some_iff] at h;obtain⟨q,hq,e⟩:=h;injection e with e
  subst e;have:=Cv hq;exact⟨this.1,this.2.1,by simpa using this.2.2⟩
 split at h
 ·cases h
 split at h
 ·rename_i h0
  injection h with h
  injection h with h
  subst h;exact⟨(gd h0).2,dL h0,tD _⟩
 ·cases h
theorem mM (h:bk xs=some none):1<=xs.length:=by
 rcases xs with _|⟨x,xs⟩
 ·cases h
 ·simp
theorem E7:∀n:Nat,n<32->n=8\/n=9\/n=10\/n=12\/n=13\/(bT (n:Nat):List UInt8)= ((⟨#[92,117,48,48]⟩:ByteArray)++ (⟨#[48,49,50,51,52,53,54,55,56,57,97,98,99,100,101,102]⟩:ByteArray).extract (n/16) (n/16+1)++ (⟨#[48,49,50,51,52,53,54,55,56,57,97,98,99,100,101,102]⟩:ByteArray).extract (n % 16) (n % 16+1)).data.toList:=by decide +kernel
theorem se (h:n<32)(h8:n≠8)(h9:n≠9)(a1:n≠10)(a4:n≠12)(a5:n≠13)(w:World):Calls Tryz.prog 113 #[.int .i32 n] w fun e w'=>e =.returned (.string ⟨(bT n).toArray⟩)/\Below w.heap.size w w':=by
 have b8:((n:Int)==8)=false:=by simp only[beq_eq_false_iff_ne];omega
 have b9:((n:Int)==9)=false:=by simp only[beq_eq_false_iff_ne];omega
 have b10:((n:Int)==10)=false:=by simp only[beq_eq_false_iff_ne];omega
 have b12:((n:Int)==12)=false:=by simp only[beq_eq_false_iff_ne];omega
 have b13:((n:Int)==13)=false:=by simp only[beq_eq_false_iff_ne];omega
 have b34:((n:Int)==34)=false:=by simp only[beq_eq_false_iff_ne];omega
 have b92:((n:Int)==92)=false:=by simp only[beq_eq_false_iff_ne];omega
 have hlt:(n:Int)<32:=by omega
 obtain⟨d,hd⟩:∃d:Int,bits .and .i32 (n:Int) 15=d:=⟨_,rfl⟩;have a3:d= ((n % 16:Nat):Int):=by rw[<-hd];exact DU n (by omega)
 have b1:0<=d:=by omega
 have a9:d<16:=by omega
 obtain⟨q,hq⟩:∃q:Int,(n:Int)/16=q:=⟨_,rfl⟩;have b0:0<=q:=by omega
 have b2:q<16:=by omega
 have w1:IntKind.i32.wrap (q+1)=q+1:=by simp[IntKind.wrap,IntKind.bits,IntKind.signed];omega
 have w2:IntKind.i32.wrap (d+1)=d+1:=by simp[IntKind.wrap,IntKind.bits,IntKind.signed];omega
 have q2:q+1<=16:=by omega
 have d2:d+1<=16:=by omega
 have q3:q<=q+1:=by omega
 have d3:d<=d+1:=by omega
 have q4:0<=q+1:=by omega
 have d4:0<=d+1:=by omega
 have x1:(q+1).toNat - q.toNat=1:=by omega
 have x2:(d+1).toNat - d.toNat=1:=by omega
 have a2:=Qa a3;have Hq:=Qa hq;have hle:=E7 n h;rcases hle with e|e|e|e|e|hle
 ·exact absurd e h8
 ·exact absurd e h9
 ·exact absurd e a1
 ·exact absurd e a4
 ·exact absurd e a5
 have Hl:=Qa hle;clear hle;clear a3 h8 h9 a1 a4 a5 h;go_enter Tryz.func113,Tryz.ntmps113;go_wp2_with fail;refine bm (fun _=>True) (trivial) fun a0=>?_
 refine tH 0 a0 ?_;refine tH 1 a0 ?_;refine tH 2 a0 ?_;refine tH 3 a0 ?_;refine tH 4 a0 ?_;refine tH 5 a0 ?_
 try simp only[Act.put,jP,jQ,jR]
 refine tH 6 a0 ?_;refine tH 7 a0 ?_;refine tH 8 a0 ?_;refine tH 9 a0 ?_;refine tH 10 a0 ?_;refine tH 11 a0 ?_
 try simp only[Act.put,jP,jQ,jR]
 refine tH 12 a0 ?_;refine tH 13 a0 ?_;refine tH 14 a0 ?_
 try simp only[Act.put,jP,jQ,jR]
 refine wpAnyH_done (by kernel_rfl) (NoPanic.normal ?_) _;go_wp2_with fail;go_ret;refine⟨?_,ap (Ze _ _) 1⟩;have e1:q.toNat=n/16:=by have:=Hq.out;omega
 have e2:(q+1).toNat=n/16+1:=by have:=Hq.out;omega
 have e3:d.toNat=n % 16:=by have:=a2.out;omega
 have e4:(d+1).toNat=n % 16+1:=by have:=a2.out;omega
 rw[e1,e2,e3,e4]
 show Ending.returned (.string _)=_
 rw[Hl.out]
theorem EP {c:Int}(h:ce c=true):Utf8.encode c= ⟨(aO c).toArray⟩:=by
 have e:=ou h
 cases hx:Utf8.encode c with
 |mk d=>rw[hx] at e;simp only at e;rw[<-e]
theorem rE {c:Int}(h:ce c=true)(w:World):Calls Tryz.prog 113 #[.int .i32 c] w fun e w'=>e =.returned (.string ⟨(bT c).toArray⟩)/\Below w.heap.size w w':=by
 by_cases h34:c=34
 ·subst h34;go_enter Tryz.func113,Tryz.ntmps113;go_wp2_with fail;go_ret;exact⟨rfl,Ze _ _⟩
 by_cases h92:c=92
 ·subst h92;go_enter Tryz.func113,Tryz.ntmps113;go_wp2_with fail;go_ret;exact⟨rfl,Ze _ _⟩
 by_cases h8:c=8
 ·subst h8;go_enter Tryz.func113,Tryz.ntmps113;go_wp2_with fail;go_ret;exact⟨rfl,Ze _ _⟩
 by_cases h9:c=9
 ·subst h9;go_enter Tryz.func113,Tryz.ntmps113;go_wp2_with fail;go_ret;exact⟨rfl,Ze _ _⟩
 by_cases h10:c=10
 ·subst h10;go_enter Tryz.func113,Tryz.ntmps113;go_wp2_with fail;go_ret;exact⟨rfl,Ze _ _⟩
 by_cases h12:c=12
 ·subst h12;go_enter Tryz.func113,Tryz.ntmps113;go_wp2_with fail;go_ret;exact⟨rfl,Ze _ _⟩
 by_cases h13:c=13
 ·subst h13;go_enter Tryz.func113,Tryz.ntmps113;go_wp2_with fail;go_ret;exact⟨rfl,Ze _ _⟩
 have h0:=bY h
 by_cases h32:c<32
 ·obtain⟨n,rfl⟩:∃n:Nat,c=n:=⟨c.toNat,by omega⟩;exact se (by omega) (by omega) (by omega) (by omega) (by omega) (by omega) w
 have b8:(c==8)=false:=by simpa using h8
 have b9:(c==9)=false:=by simpa using h9
 have b10:(c==10)=false:=by simpa using h10
 have b12:(c==12)=false:=by simpa using h12
 have b13:(c==13)=false:=by simpa using h13
 have b34:(c==34)=false:=by simpa using h34
 have b92:(c==92)=false:=by simpa using h92
 have Hl:=Qa (show bT c=aO c by unfold bT;rw[if_neg h34,if_neg h92,if_neg h8,if_neg h9,if_neg h10,if_neg h12,if_neg h13,if_neg h32]);have He:=Qa (EP h);clear h h0 h8 h9 h10 h12 h13 h34 h92;go_enter Tryz.func113,Tryz.ntmps113;go_wp2_with fail;go_ret;refine⟨?_,Ze _ _⟩;rw[Hl.out,<-He.out];rfl
theorem xr {f:Nat}{p:Nat×Nat}(h:bk xs=some (some p)):ef (f+1) xs out n=ef f (xs.drop p.2) (out++aO p.1) (n+p.2):=by
 conv=>lhs;unfold ef
 rw[h]
theorem yb {f:Nat}(h:bk xs=none):ef (f+1) xs out n=none:=by
 unfold ef;rw[h]
theorem Bt {f:Nat}(h:bk xs=some none):ef (f+1) xs out n=some (out,n+1):=by
 unfold ef;rw[h]
theorem jV (h:Below w.heap.size w w1)(j:Nat)(u:Value):Below w.heap.size w (w1.setCell ⟨w.heap.size,j,none⟩ u):=
 h.trans ((aM.set _ j u).below h.size (fun i e=>by omega))
theorem pA.put {k:Nat}(hb:Bs w v xs)(hB:Below w.heap.size w w1)(h:pA w1 w.heap.size v xs k){z:Int}(j:Nat)(hz:z=j):pA (w1.setCell ⟨w.heap.size,1,none⟩ (.int .i64 z)) w.heap.size v xs j:=by
 subst hz;exact⟨ar h.1 1 _,hb.below (jV hB 1 _)⟩
theorem ao.put (h:ao w1 (g+1) v out)(u:Value):ao (w1.setCell ⟨g,1,none⟩ u) (g+1) v out:=
 h.stayB (aM.set g 1 u) (fun b hb e=>by have:=(ao.blk h hb).1;omega)
theorem AT {c:Int}(h:ce c=true):(Utf8.encode c).size<=4:=by
 have h2:=ou h;generalize Utf8.encode c=e at *
 show e.data.size<=4
 rw[<-Array.length_toList,h2];exact kE c
def Cy (p:List UInt8×Nat):Value:=.tuple #[.string ⟨p.1.toArray⟩,.int .i64 p.2,.nilIface]
def GM (r:Option (List UInt8×Nat))(w:World)(e:Ending)(w':World):Prop:=(∃p,r=some p/\e =.returned (Cy p)/\Below w.heap.size w w')\/(r=none/\fQ w e w')
def DP (R:Option (List UInt8×Nat))(xs:List UInt8)(vx:Value)(g:Nat)(w:World)(m:Nat)(s6:Value)(wr:World):Prop:=
 ∃ (f k:Nat) (out:List UInt8),m+k=xs.length/\1<=k/\m<f/\ef f (xs.drop k) out k=R/\ao wr (g+1) s6 out/\out.length<=4*k/\pA wr g vx xs k/\Below g w wr
theorem nZ (hb:Bs w v xs)(hG:cf w aU aE)(hQ:a6 w 22)(hS:a6 w 27)(hU:a6 w 28)(hC:a6 w 24)(hl:xs.length<=1000000000):Calls Tryz.prog 217 #[v] w (GM (kB xs) w):=by
 obtain⟨hm,A,cap,rfl,d4,a0⟩:=id hb;obtain⟨aQ,e4⟩:=hQ;obtain rfl|⟨x,t,hx⟩:xs = []\/∃x t,xs=x::t:=by
  cases xs with
  |nil=>exact .inl rfl
  |cons x t=>exact .inr ⟨x,t,rfl⟩
 ·clear a0 hb;go_enter Tryz.func217,Tryz.ntmps217;go_wp2_with fail;refine(aW _ aQ _).mono ?_;rintro e w' ⟨vP,rfl,hv,hb⟩;exact⟨rfl,.inr ⟨rfl,vP,rfl,hv,hb⟩⟩
 have hlen:xs.length=t.length+1:=by rw[hx];rfl
 obtain⟨b,o,rfl,b1⟩:=a0 (by omega);have c0:=b1 0 (by omega);rw[Nat.add_zero] at c0;have b5:am xs 0=x.toNat:=by rw[hx];rfl
 rw[b5] at c0;have n0:((xs.length:Int)==0)=false:=by simp only[beq_eq_false_iff_ne];omega
 have e3:(0:Int)<xs.length:=by omega
 have e5:0<xs.length:=by omega
 by_cases h34:x=34
 case neg=>
  have n34:((x.toNat:Int) !=34)=true:=by
   simp only[bne_iff_ne,ne_eq];intro e;exact h34 (UInt8.toNat_inj.1 (by show x.toNat=34;omega))
  have Hn:=Qa (show kB xs=none by rw[hx];unfold kB;split <;> first|rfl|(rename_i e;injection e with e _;exact absurd e h34));clear hx hlen h34 b1 a0 hb b5;go_enter Tryz.func217,Tryz.ntmps217;go_wp2_with fail;refine(aW _ aQ _).mono ?_;rintro e w' ⟨vP,rfl,hv,hb⟩;exact⟨rfl,.inr ⟨Hn.out,vP,rfl,hv,hb⟩⟩
 have n34:((x.toNat:Int) !=34)=false:=by rw[h34];rfl
 have Hr:=Qa (show ef (t.length+1) (xs.drop 1) [] 1=kB xs by rw[hx,h34];rfl);have Hb:=Qa hb;have HG:=Qa hG;have HS:=Qa hS;have HU:=Qa hU;have HC:=Qa hC;have Hlen:=Qa hlen;generalize kB xs=R at *;have Hbox:=Qa (Zf w (.cells #[.slice (some ⟨b,o,none⟩) xs.length cap,.int .i64 1] 371));have Hba:=Qa (ac w (.cells #[.slice (some ⟨b,o,none⟩) xs.length cap,.int .i64 1] 371));clear hx hlen h34 b1 a0 hb b5 hG hS hU hC;go_enter Tryz.func217,Tryz.ntmps217;go_wp2_with fail;generalize w.alloc (.cells #[.slice (some ⟨b,o,none⟩) xs.length cap,.int .i64 1] 371)=w0 at *
 go_loopg [6] (xs.length - 1) (fun m s6 wr=>DP R xs (.slice (some ⟨b,o,none⟩) xs.length cap) w.heap.size w m s6 wr)
 case atStart=>exact⟨t.length+1,1, [],by have:=Hlen.out;omega,Zb _,by have:=Hlen.out;omega,Hr.out,ao.nil _ _,Zj _,⟨Hbox.out,Hb.out.below Hba.out⟩,Hba.out⟩
 case round=>
  obtain⟨f,k,out,f0,hk,hf,hq,ho,b9,hR,a4⟩:=hrel;have Ho:=Qa ho;have c7:=Qa b9;have HR:=Qa hR;have c5:=Qa a4;have Hq:=Qa hq;have d9:=ag hR.1;have d0:=Qa (tP hR (HG.out.below (show Below w.heap.size w wr from a4)) (HS.out.below a4) (HU.out.below a4) (HC.out.below a4) (by omega) (by omega));obtain⟨f,rfl⟩:∃f',f=f'+1:=⟨f - 1,by omega⟩;clear ho b9 hR hq a4;go_wp2_with fail;refine Za d0 ?_;rintro e w1 (⟨p,hp,rfl,a2⟩|⟨hn,vP,rfl,hv,a2⟩)
  case inr=>
   have Hn:=Qa (Hq.out.symm.trans (yb hn));have Hv:=Qa hv;have e0:=Qa (ak c5.out a2);clear hn hv a2;go_wp2_with fail;exact⟨rfl,.inr ⟨Hn.out,vP,rfl,Hv.out,e0.out⟩⟩
  have b2:=Qa (HR.out.below a2);have a9:=Qa (ak c5.out a2);have c6:=Qa (Ho.out.below a2 (Zb _));have c1:=aa b2.out.1 (j:=1) (u:=.int .i64 k) rfl;have f1:=aj b2.out.1 1;have b3:w.heap.size+1<=w1.heap.size:=Nat.lt_of_lt_of_le d9 a2.size;clear a2
  cases p with
  |none=>
   have Hn:=Qa (Hq.out.symm.trans (Bt hp));have d1:=mM hp;rw[List.length_drop] at d1;clear hp;rw[show Gz none =.tuple #[.int .i32 0,.int .i64 1,.bool false] from rfl];have e1:(k:Int)+1= ((k+1:Nat):Int):=by omega
   have b4:=Qa (b2.out.put Hb.out a9.out (k+1) e1);have a5:=Qa (c6.out.put (.int .i64 ((k:Int)+1)));have b0:=Qa (jV a9.out 1 (.int .i64 ((k:Int)+1)));have s1:IntKind.i64.wrap ((k:Int)+1)= (k:Int)+1:=IntWalk.i64_in _ (by omega);clear e1;go_wp2_with fail;have c2:=aa b4.out.1 (j:=1) (u:=.int .i64 (k+1:Nat)) rfl;have a3:(w1.setCell ⟨w.heap.size,1,none⟩ (.int .i64 ((k:Int)+1))).drew.cell? ⟨w.heap.size,1,none⟩=some (.int .i64 (k+1:Nat))/\(convert 28 9 u6).run Tryz.prog (w1.setCell ⟨w.heap.size,1,none⟩ (.int .i64 ((k:Int)+1))).drew =.ok (.string ⟨out.toArray⟩) (w1.setCell ⟨w.heap.size,1,none⟩ (.int .i64 ((k:Int)+1))).drew:=⟨c2,aG (ao.bs (ao.drewN a5.out 1))⟩;generalize w1.setCell ⟨w.heap.size,1,none⟩ (.int .i64 ((k:Int)+1))=w2 at *;clear c1 f1 c2;refine bm (fun w'=>w'.cell? ⟨w.heap.size,1,none⟩=some (.int .i64 (k+1:Nat))/\(convert 28 9 u6).run Tryz.prog w' =.ok (.string ⟨out.toArray⟩) w') (a3) fun a1=>?_
   refine tH 0 a1 ?_;refine tH 1 a1 ?_;refine tH 2 a1 ?_;refine tH 3 a1 ?_;refine tH 4 a1 ?_;refine tH 5 a1 ?_
   try simp only[Act.put,jP,jQ,jR]
   refine tH 6 a1 ?_;refine tH 7 a1 ?_;refine tH 8 a1 ?_
   try simp only[Act.put,jP,jQ,jR]
   refine wpAnyH_done (by kernel_rfl) (NoPanic.normal ?_) _;go_wp2_with fail;go_ret3;exact .inl ⟨(out,k+1),Hn.out,rfl,ap b0.out 1⟩
  |some p=>
   obtain⟨ca,cl⟩:=p;obtain⟨hi,d3,c3⟩:=lf hp;rw[List.length_drop] at c3
   dsimp only at hi d3 c3
   have c8:=Qa ((xr hp).symm.trans Hq.out);have Hi:=Qa hi;rw[show Gz (some (ca,cl)) =.tuple #[.int .i32 ca,.int .i64 cl,.bool true] from rfl];have b1:cl<=1000000000:=by omega
   have d2:=c7.out;have e6:k<=1000000000:=by omega
   obtain⟨z,hz⟩:∃z:Int,(k:Int)+cl=z:=⟨_,rfl⟩;have s1:IntKind.i64.wrap ((k:Int)+cl)=z:=by rw[hz];exact IntWalk.i64_in _ (by omega)
   have b4:=Qa (b2.out.put Hb.out a9.out (z:=z) (k+cl) (by omega));have a5:=Qa (c6.out.put (.int .i64 z));have b0:=Qa (jV a9.out 1 (.int .i64 z));have d6:=Qa (show w.heap.size+1<=(w1.setCell ⟨w.heap.size,1,none⟩ (.int .i64 z)).heap.size by simpa using b3);have c9:(Utf8.encode (ca:Int)).size<=4:=AT Hi.out;have e2:=Qa (show out.length+ (Utf8.encode (ca:Int)).size<=140737488355328 by omega);clear hp hi hz c9;go_wp2_with (at_builtin;refine bK rfl (.tmp 46) (.tmp 48) rfl (w.heap.size+1) u6 out (Utf8.encode ca) (by simp[Act.eval]) a5.out (by simp[Act.eval]) e2.out d6.out ?_;intro v' w3 h1 h2;have HK:=Qa h1;have b8:=Qa h2;clear h1 h2);have c4:Below w.heap.size w w3:=b0.out.grown b8.out b0.out.size (fun g e=>by have:=(ao.blk a5.out e).1;omega);have d5:w3.heap[w.heap.size]?=_:=ay b4.out.1 b8.out (fun e=>by have:=(ao.blk a5.out e).1;omega);have h3:DP R xs (.slice (some ⟨b,o,none⟩) xs.length cap) w.heap.size w (xs.length - (k+cl)) v' w3:=by
    refine⟨f,k+cl,out++aO ca,by omega,by omega,by omega,?_,?_,?_,⟨d5,Hb.out.below c4⟩,c4⟩
    ·rw[<-c8.out,List.drop_drop]
    ·rw[<-ou Hi.out];exact HK.out
    ·have:=kE ca;rw[List.length_append];omega
   go_roundg (xs.length - (k+cl))
   case measure=>omega
   case rel=>exact h3
theorem uV (a:Addr)(W:World):(Instr.typeAssert (.iface 138 (.pointer (some a))) 20 138 true).run Tryz.prog W =.ok (.tuple #[.pointer (some a),.bool true]) W:=by kernel_rfl
theorem kr (a:Addr)(w:World):Calls Tryz.prog 216 #[.iface 138 (.pointer (some a))] w fun e w'=>e =.returned (.iface 138 (.pointer (some a)))/\w=w':=by
 go_enter Tryz.func216,Tryz.ntmps216;have q:=uV a w;go_wp2_with fail;go_ret;exact⟨rfl,rfl⟩
theorem An (p q r:Value)(w:World):CallsD Tryz.prog 215 #[p,q,r] .returning w fun e u' w'=>e =.returned (.tuple #[])/\u' =.returning/\w'=w:=by
 refine callsD_of_wpS Tryz.func215 rfl fun c₀ cs hu=>?_
 apply wpS_seq
 apply wpS_region
 simp[wpOpsS,go_sem,recoverD,hu,Tryz.ntmps215,Exit.thenS];apply wpS_seq;apply wpS_region;simp[wpOpsS,go_sem,Exit.thenS];refine wpS_cond (t:=false) (by simp[Act.eval,Array.replicate]) ?_;simp only[Bool.false_eq_true,if_false];refine wpS_of_wp (wp_skip ?_)
 cases c₀
 simp_all [bodyPostS,results,Tryz.results215]
theorem xx {p:Nat}(h0:w.heap[p]?=some (.cells #[x0] t0 (0,0)))(h1:w.heap[p+1]?=some (.cells #[x1] t1 (0,0)))(h2:w.heap[p+1+1]?=some (.cells #[x2] t2 (0,0)))(a:Addr)(older:List PanicEntry) :
  CallsD Tryz.prog 215 #[.pointer (some ⟨p,0,none⟩),.pointer (some ⟨p+1,0,none⟩),.pointer (some ⟨p+1+1,0,none⟩)] (.panicking ({v:=.iface 138 (.pointer (some a)),recovered:=false}::older)) w fun e u' w'=>
   e =.returned (.tuple #[])/\u' =.panicking ({v:=.iface 138 (.pointer (some a)),recovered:=true}::older)/\w'= ((w.setCell ⟨p,0,none⟩ (.string ⟨#[]⟩)).setCell ⟨p+1,0,none⟩ (.int .i64 0)).setCell ⟨p+1+1,0,none⟩ (.iface 138 (.pointer (some a))):=by
 have c0:=aa h0 (j:=0) rfl;have f0:=aj h0 0;have c1:=aa h1 (j:=0) rfl;have f1:=aj h1 0;have c2:=aa h2 (j:=0) rfl;have f2:=aj h2 0;clear h0 h1 h2;refine callsD_of_wpS Tryz.func215 rfl fun c₀ cs hu=>?_
 apply wpS_seq
 apply wpS_region
 simp[wpOpsS,go_sem,recoverD,hu,Tryz.ntmps215,Exit.thenS];apply wpS_seq;apply wpS_region;simp[wpOpsS,go_sem,Exit.thenS];refine wpS_cond (t:=true) (by simp[Act.eval,Array.replicate]) ?_;simp only[if_true];refine wpS_of_wp ?_;go_wp2_with fail;refine(kr _ _).mono ?_;rintro e w' ⟨rfl,rfl⟩;go_wp2_with fail;refine⟨rfl,_,rfl,.tuple #[],?_,rfl,rfl,rfl⟩;simp[results,Tryz.results215,go_sem]
theorem m6 (h0:w2.heap[w.heap.size]?=some (.cells #[x0] t0 (0,0)))(h1:w2.heap[w.heap.size+1]?=some (.cells #[x1] t1 (0,0)))(h2:w2.heap[w.heap.size+1+1]?=some (.cells #[x2] t2 (0,0)))(hb:Below w.heap.size w w2)(y0 y1 y2:Value) :
  Below w.heap.size w (((w2.setCell ⟨w.heap.size,0,none⟩ y0).setCell ⟨w.heap.size+1,0,none⟩ y1).setCell ⟨w.heap.size+1+1,0,none⟩ y2)/\(((w2.setCell ⟨w.heap.size,0,none⟩ y0).setCell ⟨w.heap.size+1,0,none⟩ y1).setCell ⟨w.heap.size+1+1,0,none⟩ y2).cell? ⟨w.heap.size,0,none⟩=some y0/\
   (((w2.setCell ⟨w.heap.size,0,none⟩ y0).setCell ⟨w.heap.size+1,0,none⟩ y1).setCell ⟨w.heap.size+1+1,0,none⟩ y2).cell? ⟨w.heap.size+1,0,none⟩=some y1/\(((w2.setCell ⟨w.heap.size,0,none⟩ y0).setCell ⟨w.heap.size+1,0,none⟩ y1).setCell ⟨w.heap.size+1+1,0,none⟩ y2).cell? ⟨w.heap.size+1+1,0,none⟩=some y2:=by
 have a0:=ar h0 0 y0;have a1:=aq w2 (w.heap.size+1) w.heap.size 0 y0 _ _ (by omega) h1;have a2:=aq w2 (w.heap.size+1+1) w.heap.size 0 y0 _ _ (by omega) h2;have b0:=aq _ w.heap.size (w.heap.size+1) 0 y1 _ _ (by omega) a0;have b1:=ar a1 0 y1;have b2:=aq _ (w.heap.size+1+1) (w.heap.size+1) 0 y1 _ _ (by omega) a2;have d0:=aq _ w.heap.size (w.heap.size+1+1) 0 y2 _ _ (by omega) b0;have d1:=aq _ (w.heap.size+1) (w.heap.size+1+1) 0 y2 _ _ (by omega) b1;have d2:=ar b2 0 y2;refine⟨((hb.setCell (p:=⟨w.heap.size,0,none⟩) (Zb _) _).setCell (p:=⟨w.heap.size+1,0,none⟩) (Nat.le_succ _) _).setCell (p:=⟨w.heap.size+1+1,0,none⟩) (by show w.heap.size<=w.heap.size+1+1;omega) _,aa d0 (j:=0) rfl,aa d1 (j:=0) rfl,aa d2 (j:=0) rfl⟩
def Gi (r:Option (List UInt8×Nat))(w:World)(e:Ending)(w':World):Prop:=(∃p,r=some p/\e =.returned (Cy p)/\Below w.heap.size w w')\/(r=none/\∃v,e =.returned (.tuple #[.string ⟨#[]⟩,.int .i64 0,v])/\EG w' v/\Below w.heap.size w w')
theorem n8 (hb:Bs w v xs)(hG:cf w aU aE)(hQ:a6 w 22)(hS:a6 w 27)(hU:a6 w 28)(hC:a6 w 24)(hl:xs.length<=1000000000):Calls Tryz.prog 200 #[v] w (Gi (kB xs) w):=by
 have b0:∀ (fn:Fn) (first cap:Array Value) (w:World),(Instr.makeFunc fn first cap).run Tryz.prog w =.ok (.func fn first cap) w:=fun _ _ _ _=>rfl
 have a1:Below w.heap.size w (((w.alloc (.cells #[.string ⟨#[]⟩] 9)).alloc (.cells #[.int .i64 0] 3)).alloc (.cells #[.nilIface] 30)):=(((Ze _ _).alloc (Zb _) _).alloc (by simp) _).alloc (by simp only[World.size_alloc];omega) _;have h0:(((w.alloc (.cells #[.string ⟨#[]⟩] 9)).alloc (.cells #[.int .i64 0] 3)).alloc (.cells #[.nilIface] 30)).heap[w.heap.size]?=some (.cells #[.string ⟨#[]⟩] 9 (0,0)):=(Below.heap_alloc _ _ _ (by simp only[World.size_alloc];omega)).trans ((Below.heap_alloc _ _ _ (by simp)).trans (Zf w _));have h1:(((w.alloc (.cells #[.string ⟨#[]⟩] 9)).alloc (.cells #[.int .i64 0] 3)).alloc (.cells #[.nilIface] 30)).heap[w.heap.size+1]?=some (.cells #[.int .i64 0] 3 (0,0)):=by
  have:=Zf (w.alloc (.cells #[.string ⟨#[]⟩] 9)) (.cells #[.int .i64 0] 3);rw[World.size_alloc] at this;exact(Below.heap_alloc _ _ _ (by simp)).trans this
 have h2:(((w.alloc (.cells #[.string ⟨#[]⟩] 9)).alloc (.cells #[.int .i64 0] 3)).alloc (.cells #[.nilIface] 30)).heap[w.heap.size+1+1]?=some (.cells #[.nilIface] 30 (0,0)):=by
  have:=Zf ((w.alloc (.cells #[.string ⟨#[]⟩] 9)).alloc (.cells #[.int .i64 0] 3)) (.cells #[.nilIface] 30)
  rwa[World.size_alloc,World.size_alloc] at this
 have hz:(((w.alloc (.cells #[.string ⟨#[]⟩] 9)).alloc (.cells #[.int .i64 0] 3)).alloc (.cells #[.nilIface] 30)).heap.size=w.heap.size+3:=by simp
 have a2:=Qa a1;have H0:=Qa h0;have H1:=Qa h1;have H2:=Qa h2;have Hz:=Qa hz;have a5:=Qa (nZ (hb.below a1) (hG.below a1) (hQ.below a1) (hS.below a1) (hU.below a1) (hC.below a1) hl);clear a1 h0 h1 h2 hz hb hG hQ hS hU hC;go_enter_defers Tryz.func200,Tryz.ntmps200;go_wp2_with fail;generalize ((w.alloc (.cells #[.string ⟨#[]⟩] 9)).alloc (.cells #[.int .i64 0] 3)).alloc (.cells #[.nilIface] 30)=w1 at *;refine Za a5 ?_;rintro e w2 (⟨p,hp,rfl,a0⟩|⟨hn,vP,rfl,hv,a0⟩)
 ·have Hp:=Qa hp;have g0:=ah H0.out a0;have g1:=ah H1.out a0;have g2:=ah H2.out a0;have a4:=Qa (a2.out.trans (a0.mono a2.out.size));have G0:=Qa g0;have G1:=Qa g1;have G2:=Qa g2;have c0:=aa g0 (j:=0) rfl;have f0:=aj g0 0;have c1:=aa g1 (j:=0) rfl;have f1:=aj g1 0;have c2:=aa g2 (j:=0) rfl;have f2:=aj g2 0;clear hp a0 g0 g1 g2;rw[show Cy p =.tuple #[.string ⟨p.1.toArray⟩,.int .i64 p.2,.nilIface] from rfl];go_wp2_with fail;obtain⟨a3,d0,d1,d2⟩:=m6 G0.out G1.out G2.out a4.out (.string ⟨p.1.toArray⟩) (.int .i64 p.2) .nilIface;clear c0 c1 c2 f0 f1 f2;generalize ((w2.setCell ⟨w.heap.size,0,none⟩ (.string ⟨p.1.toArray⟩)).setCell ⟨w.heap.size+1,0,none⟩ (.int .i64 p.2)).setCell ⟨w.heap.size+1+1,0,none⟩ .nilIface=w3 at *;refine leaves_cons (f:=215) (args:= #[.pointer (some ⟨w.heap.size,0,none⟩),.pointer (some ⟨w.heap.size+1,0,none⟩),.pointer (some ⟨w.heap.size+1+1,0,none⟩)]) (by simp) (by simp[go_sem]) ?_;refine(An _ _ _ _).mono ?_;rintro e u' w'' ⟨rfl,rfl,rfl⟩;simp[Leaves,settle,results,Tryz.results200,go_sem,d0,d1,d2];exact .inl ⟨p,Hp.out,rfl,a3⟩
 ·obtain⟨g,pz,a,rfl,hg⟩:=hv;have Hn:=Qa hn;have Hg:=Qa hg;have G0:=Qa (ah H0.out a0);have G1:=Qa (ah H1.out a0);have G2:=Qa (ah H2.out a0);have a4:=Qa (a2.out.trans (a0.mono a2.out.size));clear hn hg a0;go_wp2_with fail;obtain⟨a3,d0,d1,d2⟩:=m6 G0.out G1.out G2.out a4.out (.string ⟨#[]⟩) (.int .i64 0) (.iface 138 (.pointer (some ⟨g,0,none⟩)));refine leaves_cons (f:=215) (args:= #[.pointer (some ⟨w.heap.size,0,none⟩),.pointer (some ⟨w.heap.size+1,0,none⟩),.pointer (some ⟨w.heap.size+1+1,0,none⟩)]) (by simp) (by simp[go_sem]) ?_;refine(xx G0.out G1.out G2.out ⟨g,0,none⟩ []).mono ?_;rintro e u' w'' ⟨rfl,rfl,rfl⟩;have hne:∀ {i:Nat} {x:Value} {t:TypeId},w2.heap[i]?=some (.cells #[x] t (0,0))->g≠i:=fun hi e=>by
   subst e;have h:=Hg.out.symm.trans hi;injection h with h
   injection h with h
   simp at h
  have a9:=aq _ g (w.heap.size+1+1) 0 (.iface 138 (.pointer (some ⟨g,0,none⟩))) _ _ (hne G2.out) (aq _ g (w.heap.size+1) 0 (.int .i64 0) _ _ (hne G1.out) (aq w2 g w.heap.size 0 (.string ⟨#[]⟩) _ _ (hne G0.out) Hg.out));simp[Leaves,settle,results,Tryz.results200,go_sem,d0,d1,d2];exact .inr ⟨Hn.out,_,rfl,⟨g,pz,a,rfl,a9⟩,a3⟩
