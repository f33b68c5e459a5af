import Derived.Test.YtimbegpgemkpkaaGreatDoorGZ7af
import Derived.Laws.EntriesVeiled
import Derived.Shelf.SlSortCmp.WholeK
import Derived.Handy
import Derived.Shelf.Strconv.Itoa3
import Derived.Lib.AppendIntMem
set_option linter.unusedVariables false
set_option linter.unusedSimpArgs false
set_option maxHeartbeats 64000000
set_option maxRecDepth 100000
namespace Go.Proofs.YtimbegpgemkpkaaGreatDoor
open Go.Proofs.Tryz
open Go.RowKit Go.Shelf
variable {aE aU:Addr}{cs:Array Value}{d:Dc}{j:JV}{L S:List (Nc×Value)}{ns:List Nc}{y:List Int}{ks:List JV}{l out xs ys zs:Na}{us:Nb}{B base c g g1 g2 i k0 m n o p q:Nat}{P:Nat->Prop}{A:OA}{e t0 t1 t2:TypeId}{u v x x1 x2 z:Value}{W w w' w1 w2:Wd}
theorem DJ:(prog.info? 425).map (·.comparable)=some true:=by kernel_rfl
theorem Dn:(prog.info? 427).map (fun i=>i.size)=some 1:=by kernel_rfl
theorem JF:prog.underlying 44=some (.interface (prog.methodsAt 44)):=by kernel_rfl
theorem mD (a:Addr)(W:Wd):(binOp .eql 44 (bR a) (bR a)).run prog W =.ok true W:=by
 obtain⟨i,hi,hc⟩:=Option.map_eq_some_iff.1 DJ;obtain⟨j,hj,hs⟩:=Option.map_eq_some_iff.1 Dn;exact run_eql_iface_ptr_same W a underlying44 underlying425 hi hc hj
theorem lU (h:cG W aU aE):(binOp .eql 44 (bR aU) (bR aE)).run prog W =.ok false W:=by
 obtain⟨i,hi,hc⟩:=Option.map_eq_some_iff.1 DJ;obtain⟨j,hj,hs⟩:=Option.map_eq_some_iff.1 Dn;obtain⟨c1,t1,h1⟩:=h.hu;obtain⟨c2,t2,h2⟩:=h.he;exact run_eql_iface_ptr_other W underlying44 underlying425 hi hc hj (by omega) h.ne h1 h2
theorem oe (a:Addr)(W:Wd):(binOp .eql 44 .nilIface (bR a)).run prog W =.ok false W:=run_eql_iface_nil_left W _ _ JF
def Mc:Option (Nat×Nat)->Value
 |none=>.tuple #[.int .i32 0,(1:Int),false]
 |some p=>.tuple #[.int .i32 p.1,(p.2:Int),true]
def M9 (r:Option (Option (Nat×Nat)))(w:Wd)(e:Ending)(w':Wd):Prop:=(∃p,r=some p/\e =Mc p/\ge w w')\/(r=none/\jU w e w')
theorem ze {c:UInt8}{t:Na}(a0:c.toNat≠34)(a1:c.toNat≠92)(a2:¬c.toNat<32):cf (c::t)=if(bK (c::t)).2.2=0 then some (some ((bK (c::t)).1,(bK (c::t)).2.1)) else none:=by
 simp only[cf];rw[if_neg (fun e=>a0 (by rw[e];rfl)),if_neg (fun e=>a1 (by rw[e];rfl)),if_neg a2]
theorem zg {c:UInt8}{t:Na}(a0:c.toNat≠34)(a1:c.toNat≠92)(a2:c.toNat<32):cf (c::t)=none:=by
 simp only[cf];rw[if_neg (fun e=>a0 (by rw[e];rfl)),if_neg (fun e=>a1 (by rw[e];rfl)),if_pos a2]
theorem zm {k:Nat}(h:uQ w g v xs k)(hG:cG w aU aE)(hS:bG w 19)(hU:bG w 20)(hC:bG w 18)(hk:k<=1000000000)(hl:xs.length<=1000000000):Calls prog 250 #[.pointer (some (nl g))] w fun e w'=>M9 (cf (xs.drop k)) w e w':=by
 obtain⟨hg,hb⟩:=id h;obtain⟨hm,A,cap,rfl,b3,a1⟩:=id hb;have c0:=ac hg (j:=0) (u:=.slice A xs.length cap) rfl;have c1:=ac hg (j:=1) (u:=(k:Int)) rfl;have hE:bG w 4:=⟨aE,hG.e⟩;have H:=Qa h;have HE:=Qa hE;have HG:=Qa hG;have b7:=Qa (xz h hE hS hU hk);obtain⟨aC,b5⟩:=hC;rcases hc:xs[k]? with _|c
 .have Hn:=Qa (show cf (xs.drop k)=none by rw[List.drop_of_length_le (List.getElem?_eq_none_iff.1 hc)];rfl);have Hc:=Qa hc;clear hc h hE hG hS hU hg hb a1;go_in;go_wp2_with fail;refine(jT H HE k Hc).mono ?_;rintro e w' ⟨vP,rfl,hv,hb⟩;have Hv:=Qa hv;have a5:=Qa hb;clear hv hb;go_wp2_with fail;exact⟨rfl,.inr ⟨Hn,vP,rfl,Hv,a5⟩⟩
 obtain⟨hlt,b0⟩:=List.getElem?_eq_some_iff.1 hc;have hd:xs.drop k=c::xs.drop (k+1):=by rw[List.drop_eq_getElem_cons hlt,b0]
 obtain⟨b,o,rfl,-⟩:=a1 (by omega);have a6:=Qa (show Bs w.drew (.slice (some ⟨b,o+k,none⟩) (xs.length - k) (cap - k)) (xs.drop k) from hb.cut (Zj hlt));have Hd:=Qa hd;have Hc:=Qa hc;clear hc b0 h hE hS hU hg hb a1;have hx:=c.toNat_lt
 by_cases h34:c.toNat=34
 .obtain rfl:c=34:=UInt8.toNat_inj.1 (by rw[h34];rfl);rw[hd];clear hd h34 hG;go_in;go_wp2_with fail;refine(bh H HE k Hc).mono ?_;rintro e w' ⟨rfl,rfl⟩;rw[show(34:UInt8).toNat=34 from rfl];go_wp2_with fail;go_ret3;exact .inl ⟨none,rfl,rfl,Ze _ _⟩
 have n34:((c.toNat:Int)==34)=false:=by simp only[beq_eq_false_iff_ne];omega
 by_cases h92:c.toNat=92
 .obtain rfl:c=92:=UInt8.toNat_inj.1 (by rw[h92];rfl);have Hp:=Qa (show cf (xs.drop k)= (wR (xs.drop (k+1))).map some by rw[hd];rfl);clear hd h92 h34 n34 hG;go_in;go_wp2_with fail;refine(bh H HE k Hc).mono ?_;rintro e w' ⟨rfl,rfl⟩;rw[show(92:UInt8).toNat=92 from rfl];go_wp2_with fail;refine Za b7 ?_;rintro e w' (⟨p,hp,rfl,hb⟩|⟨hn,vP,rfl,hv,hb⟩)
  .have Hr:=Qa (show cf (xs.drop k)=some (some p) by rw[Hp.out,hp];rfl);have Hb:=Qa hb;obtain⟨p1,p2⟩:=p;clear hp hb
   dsimp only
   go_wp2_with fail;go_ret3;exact .inl ⟨some (p1,p2),Hr,rfl,Hb⟩
  .have Hn:=Qa (show cf (xs.drop k)=none by rw[Hp.out,hn];try rfl);have Hv:=Qa hv;have a5:=Qa hb;clear hn hv hb;go_wp2_with fail;exact⟨rfl,.inr ⟨Hn,vP,rfl,Hv,a5⟩⟩
 have n92:((c.toNat:Int)==92)=false:=by simp only[beq_eq_false_iff_ne];omega
 by_cases h32:c.toNat<32
 .have a9:(c.toNat:Int)<32:=by omega
  have Hn:=Qa (show cf (xs.drop k)=none by rw[hd];exact zg h34 h92 h32);clear hd h34 h92 h32 hG;go_in;go_wp2_with fail;refine(bh H HE k Hc).mono ?_;rintro e w' ⟨rfl,rfl⟩;go_wp2_with fail;refine wp_region_held_drew (S:=fun w'=>w'.cell? (no g 1)=some (.int .i64 k)/\w'.cell? (nl 18)=some (bR aC)) (by kernel_rfl) (⟨c1,b5⟩) (fun a0=>?_);refine bw 0 1 2 a0 ?_;refine tH 3 a0 ?_;refine tH 4 a0 ?_;refine rH 5 fun K hK=>?_
  go_simp;refine(bE _ aC _).mono ?_;rintro e w' hf;obtain⟨vP,rfl,hv,hb⟩:=hf.low (show ge w w.drew from(Ze _ _).drew);exact⟨rfl,.inr ⟨Hn,vP,rfl,hv,hb⟩⟩
 have a9:¬ (c.toNat:Int)<32:=by omega
 have Hr:=Qa (show cf (xs.drop k)=if(bK (xs.drop k)).2.2=0 then some (some ((bK (xs.drop k)).1,(bK (xs.drop k)).2.1)) else none by rw[hd];exact ze h34 h92 h32);have b6:(k:Int)<=xs.length:=by omega
 clear hd h34 h92 h32;have b2:=(pf (xs.drop k)).2;have a2:tF (cQ aU) (cQ aE) (bK (xs.drop k)) =.tuple #[.int .i32 (bK (xs.drop k)).1,((bK (xs.drop k)).2.1:Int),oN (cQ aU) (cQ aE) (bK (xs.drop k)).2.2]:=rfl;rcases hr:bK (xs.drop k) with ⟨ca,cl,cc⟩
 rw[hr] at b2 a2
 dsimp only at b2 a2
 obtain⟨ve,a7⟩:=y7 (oN (cQ aU) (cQ aE) cc);rw[a7] at a2;have a3:=Qa (show cf (xs.drop k)=if cc=0 then some (some (ca,cl)) else none by rw[Hr.out,hr]);have b4:=Qa (show tF (cQ aU) (cQ aE) (bK (xs.drop k))=_ from hr▸a2);have a4:=Qa a7;clear hr a2 a7 Hr;go_in;go_wp2_with fail;refine(bh H HE k Hc).mono ?_;rintro e w' ⟨rfl,rfl⟩;go_wp2_with fail;refine aI (fun w'=>w'.cell? (nl g)=some (.slice (some (no b o)) xs.length cap)/\w'.cell? (no g 1)=some (.int .i64 k)) (⟨c0,c1⟩) fun a0=>?_
 refine bw 0 1 2 a0 ?_;refine bw 3 4 5 a0 ?_;refine bw 6 7 8 a0 ?_;refine rH 9 fun K hK=>?_
 go_simp;(try rw[if_neg (show ¬cap=k by omega)]);(with_reducible refine(iY a6.out (HG.out.below ((Ze w.heap.size w).drew))).mono ?_);rintro e w' ⟨rfl,m,rfl⟩;rw[b4.out];refine hK _ _ (a0) (fun a0=>?_);clear hK K
 try simp only[Act.put,jP,jQ,jR]
 refine bw 10 11 12 a0 ?_;refine bw 13 14 15 a0 ?_;refine tH 16 a0 ?_;refine y5 ?_;have Hb:=Qa (show ge w (w.drew.drewN m) from av ((Ze _ _).drew) m);have b1:=Qa (show cG (w.drew.drewN m) aU aE from(HG.below ((Ze w.heap.size w).drew)).drewN m);have c0':(w.drew.drewN m).cell? (nl g)=some (.slice (some (no b o)) xs.length cap):=c0;have c1':(w.drew.drewN m).cell? (no g 1)=some (.int .i64 k):=c1;have cE:(w.drew.drewN m).cell? (nl 4)=some (bR aE):=b1.e;generalize w.drew.drewN m=w1 at *;clear c0 c1;rcases(by omega:cc=0\/cc=1\/cc=2) with rfl|rfl|rfl
 .obtain rfl: .nilIface=ve:=a4.out;have q:=oe aE w1;go_wp2_with fail;go_ret3;exact .inl ⟨some (ca,cl),a3,rfl,Hb⟩
 .obtain rfl:bR aE=ve:=a4.out;have q:=mD aE w1;go_wp2_with fail;refine(bE _ aE _).mono ?_;rintro e w' hf;obtain⟨vP,rfl,hv,hb⟩:=hf.low Hb.out;exact⟨rfl,.inr ⟨a3,vP,rfl,hv,hb⟩⟩
 .obtain rfl:bR aU=ve:=a4.out;have q:=lU b1.out;go_wp2_with fail;refine(bE _ aU _).mono ?_;rintro e w' hf;obtain⟨vP,rfl,hv,hb⟩:=hf.low Hb.out;exact⟨rfl,.inr ⟨a3,vP,rfl,hv,hb⟩⟩
theorem LK (n:Nat)(hv:Utf8.valid (n:Int)=true)(h1:n<128):Utf8.encode (n:Int)= ⟨#[UInt8.ofNat n]⟩:=by
 unfold Utf8.encode;simp only[hv,if_true,Int.toNat_natCast,h1]
theorem Ly (n:Nat)(hv:Utf8.valid (n:Int)=true)(h1:¬n<128)(h2:n<2048):Utf8.encode (n:Int)= ⟨#[UInt8.ofNat (192+n/64),UInt8.ofNat (128+n % 64)]⟩:=by
 unfold Utf8.encode;simp only[hv,if_true,Int.toNat_natCast,h1,h2,if_false]
theorem Li (n:Nat)(hv:Utf8.valid (n:Int)=true)(h1:¬n<128)(h2:¬n<2048)(h3:n<65536):Utf8.encode (n:Int)= ⟨#[UInt8.ofNat (224+n/4096),UInt8.ofNat (128+n/64 % 64),UInt8.ofNat (128+n % 64)]⟩:=by
 unfold Utf8.encode;simp only[hv,if_true,Int.toNat_natCast,h1,h2,h3,if_false]
theorem K8 (n:Nat)(hv:Utf8.valid (n:Int)=true)(h1:¬n<128)(h2:¬n<2048)(h3:¬n<65536):Utf8.encode (n:Int)= ⟨#[UInt8.ofNat (240+n/262144),UInt8.ofNat (128+n/4096 % 64),UInt8.ofNat (128+n/64 % 64),UInt8.ofNat (128+n % 64)]⟩:=by
 unfold Utf8.encode;simp only[hv,if_true,Int.toNat_natCast,h1,h2,h3,if_false]
theorem um {c:Int}(hc:dY c=true):(Utf8.encode c).data.toList=bL c:=by
 obtain⟨n,rfl⟩:∃n:Nat,c=n:=⟨c.toNat,by have:=eJ hc;omega⟩;have hr:n<=1114111/\¬ (55296<=n/\n<=57343):=by rw[cP] at hc;simp at hc;omega
 have hv:Utf8.valid (n:Int)=true:=by rw[mS];omega
 by_cases h1:n<128
 .rw[mV n h1,LK n hv h1]
 .by_cases h2:n<2048
  .rw[rF n ⟨by omega,h2⟩,Ly n hv h1 h2]
  .by_cases h3:n<65536
   .rw[pY n ⟨by omega,h3⟩ (by omega),Li n hv h1 h2 h3]
   .rw[r9 n ⟨by omega,by omega⟩,K8 n hv h1 h2 h3]
theorem cR {ops:Array Oper}{rest:List Oper}{o:Oper}{a:Act}{Q:Exit->Act->Wd->Prop}(a4:o.guard=none)(sl x:Operand)
  (ho:o.op =.call {callee:=.builtin .append,args:= #[sl,x],argTypes:= #[30,9]})
  (base:Nat) (v:Value) (ys:Na) (s:Nc) (hs:a.eval sl=v) (a1:aw w base v ys) (hx:a.eval x =.string s)
  (hlen:ys.length+s.size<=140737488355328) (a0:base<=w.heap.size)
  (h:∀v' w',aw w' base v' (ys++s.data.toList)->w.grownBy w' v.ownBlock->wpList prog ops Q rest (a.put o.dst v') w'):wpList prog ops Q (o::rest) a w:=by
 refine wpList_plain a4 fun K hK=>?_
 obtain⟨i0,hi,a5,a2,a3⟩:=info_parts FX;obtain⟨v',w',hr,h2,h3,h4⟩:=Lib.run_append_own_string (P:=prog) w base 30 9 o.type 5 i0 underlying30 underlying9 hi a5 a2 a3 v ys.length (iK ys) a1 s (by unfold maxLen;omega) hlen a0;unfold Oper.wp execOp;simp only[ho,resolve,invoke,builtin,Sem.run_bind,Sem.run_pure,Result.andThen_ok,List.map_toArray,List.map_cons,List.map_nil,hs,hx,hr];refine hK _ _ (h v' w' ?_ h3);have e1:iK (ys++s.data.toList)=iK ys++Lib.strCells s:=by rw[oQ];rfl
 have e2:(ys++s.data.toList).length=ys.length+s.size:=by rw[List.length_append];rfl
 unfold aw;rw[e1,e2];exact h2
theorem vU {x:Nat}(h:dj xs=some x):x<65536/\4<=xs.length:=by
 refine⟨?_,?_⟩
 .have:=jh xs 0;rw[List.drop_zero,h] at this;exact jM this.symm
 .rcases xs with _|⟨a,_|⟨b,_|⟨c,_|⟨d,t⟩⟩⟩⟩
  .cases h
  .simp[dj] at h
  .simp[dj] at h
  .simp[dj] at h
  .simp
theorem GE {p:Nat×Nat}(h:lm xs=some p):dY p.1=true/\1<=p.2/\p.2<=xs.length+2:=by
 unfold lm at h
 cases hx:dj xs with
 |none=>simp only[hx,bind,Option.bind] at h;cases h
 |some x=>
  obtain⟨b1,b2⟩:=vU hx;simp only[hx,bind,pure,Option.bind] at h
  split at h
  .injection h with h
   subst h;refine⟨by rw[cP];simp;omega,by simp,by simp only;omega⟩
  split at h
  .rename_i a b ys hd
   split at h
   .cases h
   cases hy:dj ys with
   |none=>simp only[hy] at h;cases h
   |some y=>
    simp only[hy] at h;obtain⟨c1,c2⟩:=vU hy;have hl:(xs.drop 4).length=ys.length+2:=by rw[hd];rfl
    rw[List.length_drop] at hl
    split at h
    .cases h
    injection h with h
    subst h;refine⟨by rw[cP];simp;omega,by simp,by simp only;omega⟩
  .cases h
theorem GW {p:Nat×Nat}(h:wR xs=some p):dY p.1=true/\1<=p.2/\p.2<=xs.length+1:=by
 unfold wR at h
 split at h <;> first
  |(injection h with h;subst h;exact⟨by decide,by decide,by simp⟩)
  |(have:=GE h;exact⟨this.1,this.2.1,by simpa using this.2.2⟩)
  |cases h
theorem pn {p:Nat×Nat}(h:cf xs=some (some p)):dY p.1=true/\1<=p.2/\p.2<=xs.length:=by
 rcases xs with _|⟨x,xs⟩
 .cases h
 simp only[cf] at h
 split at h
 .cases h
 split at h
 .rw[Option.map_eq_some_iff] at h;obtain⟨q,hq,e⟩:=h;injection e with e
  subst e;have:=GW hq;exact⟨this.1,this.2.1,by simpa using this.2.2⟩
 split at h
 .cases h
 split at h
 .rename_i h0
  injection h with h
  injection h with h
  subst h;exact⟨(jp h0).2,fp h0,mz _⟩
 .cases h
theorem rG (h:cf xs=some none):1<=xs.length:=by
 rcases xs with _|⟨x,xs⟩
 .cases h
 .simp
theorem Jr:∀n:Nat,n<32->n=8\/n=9\/n=10\/n=12\/n=13\/(de (n:Nat):Na)= ((⟨#[92,117,48,48]⟩:Nc)++ (⟨#[48,49,50,51,52,53,54,55,56,57,97,98,99,100,101,102]⟩:Nc).extract (n/16) (n/16+1)++ (⟨#[48,49,50,51,52,53,54,55,56,57,97,98,99,100,101,102]⟩:Nc).extract (n % 16) (n % 16+1)).data.toList:=by decide +kernel
theorem uI (h:n<32)(h8:n≠8)(h9:n≠9)(a4:n≠10)(a2:n≠12)(a1:n≠13)(w:World):Calls prog 82 #[.int .i32 n] w fun e w'=>e =.returned (.string ⟨(de n).toArray⟩)/\Below w.heap.size w w':=by
 have b8:((n:Int)==8)=false:=by simp only[beq_eq_false_iff_ne];omega
 have b9:((n:Int)==9)=false:=by simp only[beq_eq_false_iff_ne];omega
 have b10:((n:Int)==10)=false:=by simp only[beq_eq_false_iff_ne];omega
 have b12:((n:Int)==12)=false:=by simp only[beq_eq_false_iff_ne];omega
 have b13:((n:Int)==13)=false:=by simp only[beq_eq_false_iff_ne];omega
 have b34:((n:Int)==34)=false:=by simp only[beq_eq_false_iff_ne];omega
 have b92:((n:Int)==92)=false:=by simp only[beq_eq_false_iff_ne];omega
 have hlt:(n:Int)<32:=by omega
 obtain⟨d,hd⟩:∃d:Int,bits .and .i32 (n:Int) 15=d:=⟨_,rfl⟩;have a3:d= ((n % 16:Nat):Int):=by rw[<-hd];exact Jl n (by omega)
 have b0:0<=d:=by omega
 have a6:d<16:=by omega
 obtain⟨q,hq⟩:∃q:Int,(n:Int)/16=q:=⟨_,rfl⟩;have a7:0<=q:=by omega
 have a9:q<16:=by omega
 have w1:IntKind.i32.wrap (q+1)=q+1:=by simp[IntKind.wrap,IntKind.bits,IntKind.signed];omega
 have w2:IntKind.i32.wrap (d+1)=d+1:=by simp[IntKind.wrap,IntKind.bits,IntKind.signed];omega
 have q2:q+1<=16:=by omega
 have d2:d+1<=16:=by omega
 have q3:q<=q+1:=by omega
 have d3:d<=d+1:=by omega
 have q4:0<=q+1:=by omega
 have d4:0<=d+1:=by omega
 have x1:(q+1).toNat - q.toNat=1:=by omega
 have x2:(d+1).toNat - d.toNat=1:=by omega
 have a5:=Qa a3;have Hq:=Qa hq;have hle:=Jr n h;rcases hle with e|e|e|e|e|hle
 ·exact absurd e h8
 ·exact absurd e h9
 ·exact absurd e a4
 ·exact absurd e a2
 ·exact absurd e a1
 have Hl:=Qa hle;clear hle;clear a3 h8 h9 a4 a2 a1 h;go_in;go_wp2_with fail;refine aI (fun _=>True) (trivial) fun a0=>?_
 refine bw 0 1 2 a0 ?_;refine bw 3 4 5 a0 ?_;refine bw 6 7 8 a0 ?_;refine bw 9 10 11 a0 ?_;refine bw 12 13 14 a0 ?_;refine wpAnyH_done (by kernel_rfl) (NoPanic.normal ?_) _;go_wp2;go_ret;refine⟨?_,av (Ze _ _) 1⟩;have e1:q.toNat=n/16:=by have:=Hq.out;omega
 have e2:(q+1).toNat=n/16+1:=by have:=Hq.out;omega
 have e3:d.toNat=n % 16:=by have:=a5.out;omega
 have e4:(d+1).toNat=n % 16+1:=by have:=a5.out;omega
 rw[e1,e2,e3,e4]
 show Ending.returned (.string _)=_
 rw[Hl.out]
theorem JH {c:Int}(h:dY c=true):Utf8.encode c= ⟨(bL c).toArray⟩:=by
 have e:=um h
 cases hx:Utf8.encode c with
 |mk d=>rw[hx] at e;simp only at e;rw[<-e]
theorem wP {c:Int}(h:dY c=true)(w:Wd):Calls prog 82 #[.int .i32 c] w (y4 (.string ⟨(de c).toArray⟩) w):=by
 by_cases h34:c=34
 .subst h34;go_in;go_wp2;go_ret;exact⟨rfl,Ze _ _⟩
 by_cases h92:c=92
 .subst h92;go_in;go_wp2;go_ret;exact⟨rfl,Ze _ _⟩
 by_cases h8:c=8
 .subst h8;go_in;go_wp2;go_ret;exact⟨rfl,Ze _ _⟩
 by_cases h9:c=9
 .subst h9;go_in;go_wp2;go_ret;exact⟨rfl,Ze _ _⟩
 by_cases h10:c=10
 .subst h10;go_in;go_wp2;go_ret;exact⟨rfl,Ze _ _⟩
 by_cases h12:c=12
 .subst h12;go_in;go_wp2;go_ret;exact⟨rfl,Ze _ _⟩
 by_cases h13:c=13
 .subst h13;go_in;go_wp2;go_ret;exact⟨rfl,Ze _ _⟩
 have h0:=eJ h
 by_cases h32:c<32
 .obtain⟨n,rfl⟩:∃n:Nat,c=n:=⟨c.toNat,by omega⟩;exact uI (by omega) (by omega) (by omega) (by omega) (by omega) (by omega) w
 have b8:(c==8)=false:=by simpa using h8
 have b9:(c==9)=false:=by simpa using h9
 have b10:(c==10)=false:=by simpa using h10
 have b12:(c==12)=false:=by simpa using h12
 have b13:(c==13)=false:=by simpa using h13
 have b34:(c==34)=false:=by simpa using h34
 have b92:(c==92)=false:=by simpa using h92
 have Hl:=Qa (show de c=bL c by unfold de;rw[if_neg h34,if_neg h92,if_neg h8,if_neg h9,if_neg h10,if_neg h12,if_neg h13,if_neg h32]);have He:=Qa (JH h);clear h h0 h8 h9 h10 h12 h13 h34 h92;go_in;go_wp2;go_ret;refine⟨?_,Ze _ _⟩;rw[Hl.out,<-He.out];rfl
theorem sU {c:Int}(h:dY c=true)(ys:Na):bK (bL c++ys)= (c.toNat,(bL c).length,0):=by
 obtain⟨n,rfl⟩:∃n:Nat,c=n:=⟨c.toNat,by have:=eJ h;omega⟩;exact jr n h ys
theorem xI:∀ (cs:List Int) (f:Nat) (pre:Na),(∀c∈cs,dY c=true)->cs.length<f->wv (pre++cs.flatMap bL) f pre.length= (pre++cs.flatMap bL).length
 | [],f+1,pre,_,_=>by
  unfold wv;rw[List.flatMap_nil,List.append_nil,List.drop_length,if_neg (by decide)]
 |c::cs,f+1,pre,hc,hf=>by
  have h0:=hc c (by simp);unfold wv;rw[List.flatMap_cons,List.drop_left,sU h0,if_pos rfl];have:=xI cs f (pre++bL c) (fun d hd=>hc d (by simp[hd])) (by simpa using hf);rw[List.length_append,List.append_assoc] at this;exact this
 |_,0,_,_,hf=>by omega
theorem j4:∀ {cs:List Int},(∀c∈cs,dY c=true)->cs.length<=(cs.flatMap bL).length
 | [],_=>Zb _
 |c::cs,h=>by
  have h1:=j4 (cs:=cs) (fun d hd=>h d (by simp[hd]));have h2:(bL c).length≠0:=fun e=>pM (h c (by simp)) (List.eq_nil_of_length_eq_zero e)
  rw[List.flatMap_cons,List.length_append,List.length_cons];omega
theorem ED {cs:List Int}(h:∀c∈cs,dY c=true):GI (cs.flatMap bL)= (cs.flatMap bL).length:=by
 have:=xI cs ((cs.flatMap bL).length+1) [] h (by have:=j4 h;omega);simpa [GI] using this
theorem D1 {cs:List Int}(h:∀c∈cs,dY c=true)(hb:Bs w v (cs.flatMap bL))(hg:cG w aU aE):Calls prog 81 #[v] w (y4 .nilIface w):=by
 refine(Cp hb hg).mono ?_;rintro e w' ⟨a0,⟨_,rfl⟩|⟨hlt,_⟩⟩
 .exact⟨rfl,a0⟩
 .rw[kJ _ hb.1,ED h] at hlt;omega
theorem GQ {c:Int}:(de c).length<=6:=by
 unfold de
 repeat' split
 all_goals first|simp|(have:=ia c;omega)
theorem aV.iter {j:Nat}{s:Nc}:aV (fun k=>k=j) w (w.iterAt j s q):=⟨rfl,rfl,rfl,by rw[Lib.iterAt_size];exact Zb _,fun k _ hk=>Lib.iterAt_other w j k s q hk⟩
def Jk (s:Nc)(cs:List Int)(j:Nat)(w:Wd)(m:Nat)(s5:Value)(wr:Wd):Prop:=
 ∃ (pre rest:List Int) (p:Nat),cs=pre++rest/\m=rest.length/\s.data.toList.drop p=rest.flatMap bL/\wr.heap[j]?=some (.stringIter s p)/\aw wr w.heap.size s5 (34::pre.flatMap de)/\(pre.flatMap de).length<=6*pre.length/\ge w wr
def Mm (xs:Na)(w:Wd)(e:Ending)(w':Wd):Prop:= ∃v,e =.returned (.tuple #[v,.nilIface])/\aw w' w.heap.size v xs/\ge w w'
theorem rl {s:Nc}(hs:dS s)(hG:cG w aU aE)(hl:s.size<=1000000000):Calls prog 42 #[s] w (Mm (eK s) w):=by
 obtain⟨hc,hd⟩:=hs.nm;unfold eK;generalize Proofs.YtimbegpgemkpkaaGreatDoor.nm s=cs at *;clear hs;obtain⟨W2,cap,c7,a3,c1⟩:=jd w s (by omega);rw[<-hd] at c1;have Hv:=Qa (D1 hc c1 (hG.below a3));have d4:=Qa a3;have Hd:=Qa hd;have Hc:=Qa hc;have d5:cs.length<=1000000000:=by
  have h1:=j4 hc;rw[hd] at h1;have:s.data.toList.length=s.size:=by simp
  omega
 clear a3 c1 hd hc hG;go_in;go_wp2_with fail;refine Za Hv ?_;rintro e w1 ⟨rfl,c6⟩;have c2:=Qa (bI d4.out c6);have c9:=c2.size;clear c6;go_wp2_with fail;have a7:=aa w1 (.cells #[.int .u8 34] 5);have a5:=Zf w1 (.cells #[.int .u8 34] 5);have a6:aw (w1.alloc (.cells #[.int .u8 34] 5)) w.heap.size (.slice (some (nl w1.heap.size)) 1 1) [34]:=ft (n:=1) (k:=1) a5 c9 (by unfold maxLen;omega) rfl;have a1:=aa (w1.alloc (.cells #[.int .u8 34] 5)) (.stringIter s 0);have Hi:=Qa (Zf (w1.alloc (.cells #[.int .u8 34] 5)) (.stringIter s 0));have Ho:=Qa (a6.below a1 (Zb _));have Hb:=Qa (bI (bI c2 a7) a1);clear a7 a1 a5 a6
 go_loopg [5] cs.length (fun m s5 wr=>Jk s cs (w1.heap.size+1) w m s5 wr)
 case atStart=>exact⟨[],cs,0,rfl,rfl,Hd.symm,by have:=Hi.out;rwa[World.size_alloc] at this,Ho.out,Zb _,Hb.out⟩
 case round=>
  clear Ho Hi Hb;obtain⟨pre,rest,p,he,hm,a0,hi,ho,b8,hb⟩:=hrel;have hji:w.heap.size<=w1.heap.size+1:=by omega
  generalize w1.heap.size+1=j at *;have Ho:=Qa ho;have Hi:=Qa hi;have Hb:=Qa hb;have He:=Qa he;have b9:=Qa b8;have d7:=Qa a0;have hsz:s.data.toList.length=s.size:=by simp
  have b0:∀b,u5.ownBlock=some b->b≠j:=fun b a3 e=>by
   obtain⟨_,cur,hg⟩:=am ho a3;rw[e,hi] at hg
   cases hg
  have d6:=Qa b0;have d3:pre.length<=1000000000:=by have:=congrArg List.length he;rw[List.length_append] at this;omega
  cases rest with
  |nil=>
   have hlt:¬p<s.size:=by
    have:=congrArg List.length a0;rw[List.length_drop] at this;simp at this;omega
   have a9:∀ty,(Instr.next (.pointer (some (nl j))) true ty).run prog wr =.ok (.tuple #[false]) wr:=fun ty=>Lib.run_next_end_at wr j s p ty hi hlt
   clear ho hi hb he b8 a0 b0 hlt hm;have b6:=aa wr (.cells #[.int .u8 34] 5);have c5:=Qa (Ho.below b6 (Zb _));have Hn:=Qa (mA wr [34] (by decide));have a4:=Qa (bI Hb.out b6);have b3:=Qa (show w.heap.size<=(wr.alloc (.cells #[.int .u8 34] 5)).heap.size from a4.size);have b7:=Qa (show(34::pre.flatMap de).length+ ([34]:Na).length<=140737488355328 by have:=b9.out;simp at *;omega);clear b6;go_wp2_with (at_builtin;refine su c5.out Hn.out b7.out b3.out ?_;intro v' w3 h1 h2 h3;have HK:=Qa h1;have b1:=Qa h2;clear h1 h2 h3);obtain⟨A3,q3,rfl,-⟩:=ai HK.out;go_ret2;refine⟨_,rfl,?_,a4.grown b1 a4.size (fun g e=>(aw.blk c5 e).1)⟩;have e:mR cs= (34::pre.flatMap de) ++ [34]:=by rw[He.out,List.append_nil];rfl
   rw[e];exact HK.out
  |cons c rest=>
   have h0:=Hc c (by rw[he];simp);have hlen:=congrArg List.length a0;rw[List.length_drop,hsz,List.flatMap_cons,List.length_append] at hlen;have d0:(bL c).length≠0:=fun e=>pM h0 (List.eq_nil_of_length_eq_zero e)
   have hlt:p<s.size:=by omega
   have a9:∀ty,(Instr.next (.pointer (some (nl j))) true ty).run prog wr =.ok (.tuple #[true,(p:Int),.int .i32 (Utf8.decode s p).1]) (wr.iterAt j s (p+ (Utf8.decode s p).2)):=fun ty=>Lib.run_next_any_at wr j s p ty hi hlt
   rw[pD s p hlt,a0,List.flatMap_cons,sU h0,if_pos rfl] at a9;have hcn:((c.toNat:Nat):Int)=c:=by have:=eJ h0;omega
   dsimp only at a9
   rw[hcn] at a9;have a2:=aV.iter (w:=wr) (j:=j) (q:=p+ (bL c).length) (s:=s);have d1:=Qa (Lib.iterAt_heap wr j s p (p+ (bL c).length) hi);have c8:=Qa (ho.stayB a2 b0);have d2:=Qa (hb.trans (a2.below hb.size (fun k hk=>by rw[hk];exact hji)));have b5:=Qa (show s.data.toList.drop (p+ (bL c).length)=rest.flatMap bL by rw[<-List.drop_drop,a0,List.flatMap_cons,List.drop_left]);have H0:=Qa h0;have c4:=Qa (GQ (c:=c));have Hgk:Hid (gk=rest.length+1):=Qa hm;clear ho hi hb he b8 a0 b0 hlt hlen d0 a2 h0 hcn hm;generalize wr.iterAt j s (p+ (bL c).length)=wi at *;go_wp2_with fail;refine(wP H0 _).mono ?_;rintro e w3 ⟨rfl,b2⟩;have c0:=Qa (c8.below b2 (Zb _));have a4:=Qa (bI d2.out b2);have c3:=Qa (al d1.out b2);have b3:=Qa a4.size;have b7:=Qa (show(34::pre.flatMap de).length+ (⟨(de c).toArray⟩:Nc).size<=140737488355328 by
    have h1:=b9.out;have h2:=c4.out;have h3:(⟨(de c).toArray⟩:Nc).size= (de c).length:=by simp[ByteArray.size]
    rw[h3,List.length_cons];omega)
   clear b2;go_wp2_with (at_builtin;refine cR rfl (.tmp 20) (.tmp 22) rfl w.heap.size u5 (34::pre.flatMap de) ⟨(de c).toArray⟩ (by simp[Act.eval]) c0.out (by simp[Act.eval]) b7.out b3.out ?_;intro v' w4 h1 h2;have HK:=Qa h1;have b1:=Qa h2;clear h1 h2);have b4:∀b,u5.ownBlock=some b->b≠j:=fun b a3 e=>by
    obtain⟨_,cur,hg⟩:=am c0.out a3;rw[e,c3.out] at hg
    cases hg
   have h3:Jk s cs j w rest.length v' w4:=by
    refine⟨pre ++ [c],rest,p+ (bL c).length,by rw[He.out];simp,rfl,b5.out,aJ c3.out b1.out (fun e=>b4 j e rfl),?_,?_,a4.grown b1.out a4.size (fun g e=>(aw.blk c0 e).1)⟩
    .have e:34:: (pre ++ [c]).flatMap de= (34::pre.flatMap de)++de c:=by simp
     rw[e];exact HK.out
    .have h1:=b9.out;have h2:=c4.out;simp only[List.flatMap_append,List.flatMap_cons,List.flatMap_nil,List.append_nil,List.length_append,List.length_cons,List.length_nil];omega
   go_roundg (rest.length)
   case measure=>have:=Hgk.out;omega
   case rel=>exact h3
theorem Ct {f:Nat}{p:Nat×Nat}(h:cf xs=some (some p)):gV (f+1) xs out n=gV f (xs.drop p.2) (out++bL p.1) (n+p.2):=by
 conv=>lhs;unfold gV
 rw[h]
theorem BO {f:Nat}(h:cf xs=none):gV (f+1) xs out n=none:=by
 unfold gV;rw[h]
theorem Eu {f:Nat}(h:cf xs=some none):gV (f+1) xs out n=some (out,n+1):=by
 unfold gV;rw[h]
theorem mO (h:ge w w1)(j:Nat)(u:Value):ge w (w1.setCell (no w.heap.size j) u):=
 h.trans ((aV.set _ j u).below h.size (fun i e=>by omega))
theorem uQ.put {k:Nat}(hb:Bs w v xs)(hB:ge w w1)(h:uQ w1 w.heap.size v xs k){z:Int}(j:Nat)(hz:z=j):uQ (w1.setCell (no w.heap.size 1) (z:Int)) w.heap.size v xs j:=by
 subst hz;exact⟨az h.1 1 _,hb.below (mO hB 1 _)⟩
theorem aw.put (h:aw w1 (g+1) v out)(u:Value):aw (w1.setCell (no g 1) u) (g+1) v out:=
 h.stayB (aV.set g 1 u) (fun b hb e=>by have:=(aw.blk h hb).1;omega)
theorem F1 {c:Int}(h:dY c=true):(Utf8.encode c).size<=4:=by
 have h2:=um h;generalize Utf8.encode c=e at *
 show e.data.size<=4
 rw[<-Array.length_toList,h2];exact ia c
def Iw (p:Na×Nat):Value:=.tuple #[.string ⟨p.1.toArray⟩,(p.2:Int),.nilIface]
def Mg (r:Option (Na×Nat))(w:Wd)(e:Ending)(w':Wd):Prop:=(∃p,r=some p/\e =Iw p/\ge w w')\/(r=none/\jU w e w')
def I6 (R:Option (Na×Nat))(xs:Na)(vx:Value)(g:Nat)(w:Wd)(m:Nat)(s6:Value)(wr:Wd):Prop:=
 ∃ (f k:Nat) (out:Na),m+k=xs.length/\1<=k/\m<f/\gV f (xs.drop k) out k=R/\aw wr (g+1) s6 out/\out.length<=4*k/\uQ wr g vx xs k/\Below g w wr
theorem te (hb:Bs w v xs)(hG:cG w aU aE)(hQ:bG w 14)(hS:bG w 19)(hU:bG w 20)(hC:bG w 18)(hl:xs.length<=1000000000):Calls prog 239 #[v] w (Mg (oa xs) w):=by
 obtain⟨hm,A,cap,rfl,c3,a0⟩:=id hb;obtain⟨aQ,d7⟩:=hQ;obtain rfl|⟨x,t,hx⟩:xs = []\/∃x t,xs=x::t:=by
  cases xs with
  |nil=>exact .inl rfl
  |cons x t=>exact .inr ⟨x,t,rfl⟩
 .clear a0 hb;go_in;go_wp2_with fail;refine(bE _ aQ _).mono ?_;rintro e w' ⟨vP,rfl,hv,hb⟩;exact⟨rfl,.inr ⟨rfl,vP,rfl,hv,hb⟩⟩
 have hlen:xs.length=t.length+1:=by rw[hx];rfl
 obtain⟨b,o,rfl,a5⟩:=a0 (by omega);have c0:=a5 0 (by omega);rw[Nat.add_zero] at c0;have b1:ar xs 0=x.toNat:=by rw[hx];rfl
 rw[b1] at c0;have n0:((xs.length:Int)==0)=false:=by simp only[beq_eq_false_iff_ne];omega
 have e0:(0:Int)<xs.length:=by omega
 have d9:0<xs.length:=by omega
 by_cases h34:x=34
 case neg=>
  have n34:((x.toNat:Int) !=34)=true:=by
   simp only[bne_iff_ne,ne_eq];intro e;exact h34 (UInt8.toNat_inj.1 (by show x.toNat=34;omega))
  have Hn:=Qa (show oa xs=none by rw[hx];unfold oa;split <;> first|rfl|(rename_i e;injection e with e _;exact absurd e h34));clear hx hlen h34 a5 a0 hb b1;go_in;go_wp2_with fail;refine(bE _ aQ _).mono ?_;rintro e w' ⟨vP,rfl,hv,hb⟩;exact⟨rfl,.inr ⟨Hn,vP,rfl,hv,hb⟩⟩
 have n34:((x.toNat:Int) !=34)=false:=by rw[h34];rfl
 have Hr:=Qa (show gV (t.length+1) (xs.drop 1) [] 1=oa xs by rw[hx,h34];rfl);have Hb:=Qa hb;have HG:=Qa hG;have HS:=Qa hS;have HU:=Qa hU;have HC:=Qa hC;have Hlen:=Qa hlen;generalize oa xs=R at *;have Hbox:=Qa (Zf w (.cells #[.slice (some (no b o)) xs.length cap,(1:Int)] 383));have Hba:=Qa (aa w (.cells #[.slice (some (no b o)) xs.length cap,(1:Int)] 383));clear hx hlen h34 a5 a0 hb b1 hG hS hU hC;go_in;go_wp2_with fail;generalize w.alloc (.cells #[.slice (some (no b o)) xs.length cap,(1:Int)] 383)=w0 at *
 go_loopg [6] (xs.length - 1) (fun m s6 wr=>I6 R xs (.slice (some (no b o)) xs.length cap) w.heap.size w m s6 wr)
 case atStart=>exact⟨t.length+1,1, [],by have:=Hlen.out;omega,Zb _,by have:=Hlen.out;omega,Hr.out,aw.nil _ _,Zk _,⟨Hbox,Hb.below Hba⟩,Hba.out⟩
 case round=>
  obtain⟨f,k,out,d5,hk,hf,hq,ho,b7,hR,a3⟩:=hrel;have Ho:=Qa ho;have c5:=Qa b7;have HR:=Qa hR;have b6:=Qa a3;have Hq:=Qa hq;have hsz:=ah hR.1;have c4:=Qa (zm hR (HG.below (show ge w wr from a3)) (HS.below a3) (HU.below a3) (HC.below a3) (by omega) (by omega));obtain⟨f,rfl⟩:∃f',f=f'+1:=⟨f - 1,by omega⟩;clear ho b7 hR hq a3;go_wp2_with fail;refine Za c4 ?_;rintro e w1 (⟨p,hp,rfl,a1⟩|⟨hn,vP,rfl,hv,a1⟩)
  case inr=>
   have Hn:=Qa (Hq.symm.trans (BO hn));have Hv:=Qa hv;have c8:=Qa (bI b6.out a1);clear hn hv a1;go_wp2_with fail;exact⟨rfl,.inr ⟨Hn,vP,rfl,Hv,c8⟩⟩
  have a7:=Qa (HR.below a1);have a6:=Qa (bI b6.out a1);have b4:=Qa (Ho.below a1 (Zb _));have c1:=ac a7.1 (j:=1) (u:=(k:Int)) rfl;have f1:=ao a7.1 1;have b2:w.heap.size+1<=w1.heap.size:=Nat.lt_of_lt_of_le hsz a1.size;clear a1
  cases p with
  |none=>
   have Hn:=Qa (Hq.symm.trans (Eu hp));have d4:=rG hp;rw[List.length_drop] at d4;clear hp;rw[show Mc none =.tuple #[.int .i32 0,(1:Int),false] from rfl];have e1:(k:Int)+1= ((k+1:Nat):Int):=by omega
   have b0:=Qa (a7.put Hb.out a6.out (k+1) e1);have a4:=Qa (b4.put ((k:Int)+1:Int));have a9:=Qa (mO a6.out 1 ((k:Int)+1:Int));have s1:=y9 ((k:Int)+1);clear e1;go_wp2_with fail;have c2:=ac b0.1 (j:=1) (u:=((k+1:Nat):Int)) rfl;have a2:(w1.setCell (no w.heap.size 1) ((k:Int)+1:Int)).drew.cell? (no w.heap.size 1)=some (.int .i64 (k+1:Nat))/\(convert 30 9 u6).run prog (w1.setCell (no w.heap.size 1) ((k:Int)+1:Int)).drew =.ok (.string ⟨out.toArray⟩) (w1.setCell (no w.heap.size 1) ((k:Int)+1:Int)).drew:=⟨c2,a8 (aw.bs (aw.drewN a4 1))⟩;generalize w1.setCell (no w.heap.size 1) ((k:Int)+1:Int)=w2 at *;clear c1 f1 c2;refine aI (fun w'=>w'.cell? (no w.heap.size 1)=some (.int .i64 (k+1:Nat))/\(convert 30 9 u6).run prog w' =.ok (.string ⟨out.toArray⟩) w') (a2) fun b3=>?_
   refine bw 0 1 2 b3 ?_;refine bw 3 4 5 b3 ?_;refine bw 6 7 8 b3 ?_;refine y5 ?_;go_wp2_with fail;go_ret3;exact .inl ⟨(out,k+1),Hn,rfl,av a9 1⟩
  |some p=>
   obtain⟨ca,cl⟩:=p;obtain⟨hi,d1,b8⟩:=pn hp;rw[List.length_drop] at b8
   dsimp only at hi d1 b8
   have c9:=Qa ((Ct hp).symm.trans Hq.out);have Hi:=Qa hi;rw[show Mc (some (ca,cl)) =.tuple #[.int .i32 ca,(cl:Int),true] from rfl];have a5:cl<=1000000000:=by omega
   have c6:=c5.out;have d6:k<=1000000000:=by omega
   obtain⟨z,hz⟩:=y7 ((k:Int)+cl:Int);have s1:IntKind.i64.wrap ((k:Int)+cl)=z:=by rw[hz];exact IntWalk.i64_in _ (by omega)
   have b0:=Qa (a7.put Hb.out a6.out (z:=z) (k+cl) (by omega));have a4:=Qa (b4.put (z:Int));have a9:=Qa (mO a6.out 1 (z:Int));have d2:=Qa (show w.heap.size+1<=(w1.setCell (no w.heap.size 1) (z:Int)).heap.size by simpa using b2);have c7:(Utf8.encode (ca:Int)).size<=4:=F1 Hi.out;have d3:=Qa (show out.length+ (Utf8.encode (ca:Int)).size<=140737488355328 by omega);clear hp hi hz c7;go_wp2_with (at_builtin;refine cR rfl (.tmp 46) (.tmp 48) rfl (w.heap.size+1) u6 out (Utf8.encode ca) (by simp[Act.eval]) a4.out (by simp[Act.eval]) d3.out d2.out ?_;intro v' w3 h1 h2;have HK:=Qa h1;have b5:=Qa h2;clear h1 h2);have b9:ge w w3:=a9.grown b5.out a9.size (fun g e=>by have:=(aw.blk a4 e).1;omega);have d0:w3.heap[w.heap.size]?=_:=aJ b0.1 b5.out (fun e=>by have:=(aw.blk a4 e).1;omega);have h3:I6 R xs (.slice (some (no b o)) xs.length cap) w.heap.size w (xs.length - (k+cl)) v' w3:=by
    refine⟨f,k+cl,out++bL ca,by omega,by omega,by omega,?_,?_,?_,⟨d0,Hb.below b9⟩,b9⟩
    .rw[<-c9.out,List.drop_drop]
    .rw[<-um Hi.out];exact HK.out
    .have:=ia ca;rw[List.length_append];omega
   go_roundg (xs.length - (k+cl))
   case measure=>omega
   case rel=>exact h3
theorem ym (a:Addr)(W:Wd):(Instr.typeAssert (.iface 249 (.pointer (some a))) 20 249 true).run prog W =.ok (.tuple #[.pointer (some a),true]) W:=by kernel_rfl
theorem ob (a:Addr)(w:Wd):Calls prog 238 #[.iface 249 (.pointer (some a))] w fun e w'=>e =.returned (.iface 249 (.pointer (some a)))/\w=w':=by
 go_in;have q:=ym a w;go_wp2;go_ret;exact⟨rfl,rfl⟩
theorem Dt (p q r:Value)(w:Wd):CallsD prog 237 #[p,q,r] .returning w fun e u' w'=>e =.returned (.tuple #[])/\u' =.returning/\w'=w:=by
 refine callsD_of_wpS func237 rfl fun c₀ cs hu=>?_
 apply wpS_seq
 apply wpS_region
 simp[wpOpsS,go_sem,recoverD,hu,ntmps237,Exit.thenS];apply wpS_seq;apply wpS_region;simp[wpOpsS,go_sem,Exit.thenS];refine wpS_cond (t:=false) (by simp[Act.eval,Array.replicate]) ?_;simp only[Bool.false_eq_true,if_false];refine wpS_of_wp (wp_skip ?_)
 cases c₀
 simp_all [bodyPostS,results,results237]
theorem CU {x0:Value}(h0:w.heap[p]?=some (.cells #[x0] t0 (0,0)))(h1:w.heap[p+1]?=some (.cells #[x1] t1 (0,0)))(h2:w.heap[p+1+1]?=some (.cells #[x2] t2 (0,0)))(a:Addr)(older:List PanicEntry) :
  CallsD prog 237 #[.pointer (some ⟨p,0,none⟩),.pointer (some ⟨p+1,0,none⟩),.pointer (some ⟨p+1+1,0,none⟩)] (.panicking ({v:=.iface 249 (.pointer (some a)),recovered:=false}::older)) w fun e u' w'=>
   e =.returned (.tuple #[])/\u' =.panicking ({v:=.iface 249 (.pointer (some a)),recovered:=true}::older)/\w'= ((w.setCell ⟨p,0,none⟩ (.string ⟨#[]⟩)).setCell ⟨p+1,0,none⟩ (.int .i64 0)).setCell ⟨p+1+1,0,none⟩ (.iface 249 (.pointer (some a))):=by
 have c0:=ac h0 (j:=0) rfl;have f0:=ao h0 0;have c1:=ac h1 (j:=0) rfl;have f1:=ao h1 0;have c2:=ac h2 (j:=0) rfl;have f2:=ao h2 0;clear h0 h1 h2;refine callsD_of_wpS func237 rfl fun c₀ cs hu=>?_
 apply wpS_seq
 apply wpS_region
 simp[wpOpsS,go_sem,recoverD,hu,ntmps237,Exit.thenS];apply wpS_seq;apply wpS_region;simp[wpOpsS,go_sem,Exit.thenS];refine wpS_cond (t:=true) (by simp[Act.eval,Array.replicate]) ?_;simp only[if_true];refine wpS_of_wp ?_;go_wp2_with fail;refine(ob _ _).mono ?_;rintro e w' ⟨rfl,rfl⟩;go_wp2_with fail;refine⟨rfl,_,rfl,.tuple #[],?_,rfl,rfl,rfl⟩;simp[results,results237,go_sem]
theorem sk {x0:Value}(h0:w2.heap[w.heap.size]?=some (.cells #[x0] t0 (0,0)))(h1:w2.heap[w.heap.size+1]?=some (.cells #[x1] t1 (0,0)))(h2:w2.heap[w.heap.size+1+1]?=some (.cells #[x2] t2 (0,0)))(hb:ge w w2)(y0 y1 y2:Value) :
  ge w (((w2.setCell (nl w.heap.size) y0).setCell ⟨w.heap.size+1,0,none⟩ y1).setCell ⟨w.heap.size+1+1,0,none⟩ y2)/\(((w2.setCell (nl w.heap.size) y0).setCell ⟨w.heap.size+1,0,none⟩ y1).setCell ⟨w.heap.size+1+1,0,none⟩ y2).cell? (nl w.heap.size)=some y0/\
   (((w2.setCell (nl w.heap.size) y0).setCell ⟨w.heap.size+1,0,none⟩ y1).setCell ⟨w.heap.size+1+1,0,none⟩ y2).cell? ⟨w.heap.size+1,0,none⟩=some y1/\(((w2.setCell (nl w.heap.size) y0).setCell ⟨w.heap.size+1,0,none⟩ y1).setCell ⟨w.heap.size+1+1,0,none⟩ y2).cell? ⟨w.heap.size+1+1,0,none⟩=some y2:=by
 have a0:=az h0 0 y0;have a1:=ay w2 (w.heap.size+1) w.heap.size 0 y0 _ _ (by omega) h1;have a2:=ay w2 (w.heap.size+1+1) w.heap.size 0 y0 _ _ (by omega) h2;have b0:=ay _ w.heap.size (w.heap.size+1) 0 y1 _ _ (by omega) a0;have b1:=az a1 0 y1;have b2:=ay _ (w.heap.size+1+1) (w.heap.size+1) 0 y1 _ _ (by omega) a2;have d0:=ay _ w.heap.size (w.heap.size+1+1) 0 y2 _ _ (by omega) b0;have d1:=ay _ (w.heap.size+1) (w.heap.size+1+1) 0 y2 _ _ (by omega) b1;have d2:=az b2 0 y2;refine⟨((hb.setCell (p:=⟨w.heap.size,0,none⟩) (Zb _) _).setCell (p:=⟨w.heap.size+1,0,none⟩) (Nat.le_succ _) _).setCell (p:=⟨w.heap.size+1+1,0,none⟩) (by show w.heap.size<=w.heap.size+1+1;omega) _,ac d0 (j:=0) rfl,ac d1 (j:=0) rfl,ac d2 (j:=0) rfl⟩
def MH (r:Option (Na×Nat))(w:Wd)(e:Ending)(w':Wd):Prop:=(∃p,r=some p/\e =Iw p/\ge w w')\/(r=none/\∃v,e =.returned (.tuple #[.string ⟨#[]⟩,(0:Int),v])/\Ks w' v/\ge w w')
theorem uj (hb:Bs w v xs)(hG:cG w aU aE)(hQ:bG w 14)(hS:bG w 19)(hU:bG w 20)(hC:bG w 18)(hl:xs.length<=1000000000):Calls prog 228 #[v] w (MH (oa xs) w):=by
 have a7:∀ (fn:Fn) (first cap:Array Value) (w:Wd),(Instr.makeFunc fn first cap).run prog w =.ok (.func fn first cap) w:=fun _ _ _ _=>rfl
 have a1:ge w (((w.alloc (.cells #[.string ⟨#[]⟩] 9)).alloc (.cells #[(0:Int)] 3)).alloc (.cells #[.nilIface] 44)):=(((Ze _ _).alloc (Zb _) _).alloc (by simp) _).alloc (by simp only[World.size_alloc];omega) _;have h0:(((w.alloc (.cells #[.string ⟨#[]⟩] 9)).alloc (.cells #[(0:Int)] 3)).alloc (.cells #[.nilIface] 44)).heap[w.heap.size]?=some (.cells #[.string ⟨#[]⟩] 9 (0,0)):=(Below.heap_alloc _ _ _ (by simp only[World.size_alloc];omega)).trans ((Below.heap_alloc _ _ _ (by simp)).trans (Zf w _));have h1:(((w.alloc (.cells #[.string ⟨#[]⟩] 9)).alloc (.cells #[(0:Int)] 3)).alloc (.cells #[.nilIface] 44)).heap[w.heap.size+1]?=some (.cells #[(0:Int)] 3 (0,0)):=by
  have:=Zf (w.alloc (.cells #[.string ⟨#[]⟩] 9)) (.cells #[(0:Int)] 3);rw[World.size_alloc] at this;exact(Below.heap_alloc _ _ _ (by simp)).trans this
 have h2:(((w.alloc (.cells #[.string ⟨#[]⟩] 9)).alloc (.cells #[(0:Int)] 3)).alloc (.cells #[.nilIface] 44)).heap[w.heap.size+1+1]?=some (.cells #[.nilIface] 44 (0,0)):=by
  have:=Zf ((w.alloc (.cells #[.string ⟨#[]⟩] 9)).alloc (.cells #[(0:Int)] 3)) (.cells #[.nilIface] 44)
  rwa[World.size_alloc,World.size_alloc] at this
 have hz:(((w.alloc (.cells #[.string ⟨#[]⟩] 9)).alloc (.cells #[(0:Int)] 3)).alloc (.cells #[.nilIface] 44)).heap.size=w.heap.size+3:=by simp
 have a2:=Qa a1;have H0:=Qa h0;have H1:=Qa h1;have H2:=Qa h2;have Hz:=Qa hz;have a6:=Qa (te (hb.below a1) (hG.below a1) (hQ.below a1) (hS.below a1) (hU.below a1) (hC.below a1) hl);clear a1 h0 h1 h2 hz hb hG hQ hS hU hC;go_enter_defers func228,ntmps228;go_wp2_with fail;generalize ((w.alloc (.cells #[.string ⟨#[]⟩] 9)).alloc (.cells #[(0:Int)] 3)).alloc (.cells #[.nilIface] 44)=w1 at *;refine Za a6 ?_;rintro e w2 (⟨p,hp,rfl,a0⟩|⟨hn,vP,rfl,hv,a0⟩)
 .have Hp:=Qa hp;have g0:=al H0.out a0;have g1:=al H1.out a0;have g2:=al H2.out a0;have a3:=Qa (a2.trans (a0.mono a2.size));have G0:=Qa g0;have G1:=Qa g1;have G2:=Qa g2;have c0:=ac g0 (j:=0) rfl;have f0:=ao g0 0;have c1:=ac g1 (j:=0) rfl;have f1:=ao g1 0;have c2:=ac g2 (j:=0) rfl;have f2:=ao g2 0;clear hp a0 g0 g1 g2;rw[show Iw p =.tuple #[.string ⟨p.1.toArray⟩,(p.2:Int),.nilIface] from rfl];go_wp2_with fail;obtain⟨a4,d0,d1,d2⟩:=sk G0.out G1.out G2.out a3.out (.string ⟨p.1.toArray⟩) (p.2:Int) .nilIface;clear c0 c1 c2 f0 f1 f2;generalize ((w2.setCell (nl w.heap.size) (.string ⟨p.1.toArray⟩)).setCell ⟨w.heap.size+1,0,none⟩ (p.2:Int)).setCell ⟨w.heap.size+1+1,0,none⟩ .nilIface=w3 at *;refine leaves_cons (f:=237) (args:= #[.pointer (some (nl w.heap.size)),.pointer (some ⟨w.heap.size+1,0,none⟩),.pointer (some ⟨w.heap.size+1+1,0,none⟩)]) (by simp) (by simp[go_sem]) ?_;refine(Dt _ _ _ _).mono ?_;rintro e u' w'' ⟨rfl,rfl,rfl⟩;simp[Leaves,settle,results,results228,go_sem,d0,d1,d2];exact .inl ⟨p,Hp,rfl,a4⟩
 .obtain⟨g,pz,a,rfl,hg⟩:=hv;have Hn:=Qa hn;have Hg:=Qa hg;have G0:=Qa (al H0.out a0);have G1:=Qa (al H1.out a0);have G2:=Qa (al H2.out a0);have a3:=Qa (a2.trans (a0.mono a2.size));clear hn hg a0;go_wp2_with fail;obtain⟨a4,d0,d1,d2⟩:=sk G0.out G1.out G2.out a3.out (.string ⟨#[]⟩) (0:Int) (.iface 249 (.pointer (some (nl g))));refine leaves_cons (f:=237) (args:= #[.pointer (some (nl w.heap.size)),.pointer (some ⟨w.heap.size+1,0,none⟩),.pointer (some ⟨w.heap.size+1+1,0,none⟩)]) (by simp) (by simp[go_sem]) ?_;refine(CU G0 G1 G2 ⟨g,0,none⟩ []).mono ?_;rintro e u' w'' ⟨rfl,rfl,rfl⟩;have hne:∀ {i:Nat} {x:Value} {t:TypeId},w2.heap[i]?=some (.cells #[x] t (0,0))->g≠i:=fun hi e=>by
   subst e;have h:=Hg.symm.trans hi;injection h with h
   injection h with h
   simp at h
  have a5:=ay _ g (w.heap.size+1+1) 0 (.iface 249 (.pointer (some (nl g)))) _ _ (hne G2) (ay _ g (w.heap.size+1) 0 (0:Int) _ _ (hne G1) (ay w2 g w.heap.size 0 (.string ⟨#[]⟩) _ _ (hne G0) Hg));simp[Leaves,settle,results,results228,go_sem,d0,d1,d2];exact .inr ⟨Hn,_,rfl,⟨g,pz,a,rfl,a5⟩,a4⟩
structure sT (w:Wd) (aU aE:Addr):Prop where
 glob:cG w aU aE
 goes:qp w
 begins:mQ w
 number:bG w 12
 exponent:bG w 13
 quote:bG w 14
 escape:bG w 19
 surrogate:bG w 20
 control:bG w 18
theorem sT.below (h:sT w aU aE)(hb:ge w w'):sT w' aU aE:=
 ⟨h.glob.below hb,h.goes.below hb,h.begins.below hb,h.number.below hb,h.exponent.below hb,h.quote.below hb,h.escape.below hb,h.surrogate.below hb,h.control.below hb⟩
def JV.kindOf:JV->Int | .mk k _ _ _ _ _=>k
def JV.numOf:JV->Dc | .mk _ _ _ d _ _=>d
def JV.trOf:JV->Bool | .mk _ t _ _ _ _=>t
def lk (j:JV):Na:=if j.kindOf=1 then [110,117,108,108] else if j.trOf then [116,114,117,101] else [102,97,108,115,101]
def nZ (k:Nat):uE->Value
 | .mark c=>.iface 297 (.agg #[(k:Int),.int .u8 c.toNat])
 | .str s=>.iface 300 (.agg #[(k:Int),s])
 | .leaf j=>if j.kindOf=3 then .iface 360 (.agg #[(k:Int),.bool j.numOf.neg,j.numOf.digits,(j.numOf.exp:Int)]) else .iface 353 (.agg #[(k:Int),.string ⟨(lk j).toArray⟩])
def qO (w:Wd)(g:Nat)(v:Value)(xs:Na)(k:Nat):Prop:=w.heap[g]?=some (.cells #[v,(k:Int)] 288 (0,0))/\Bs w v xs
theorem qO.below {k:Nat}(h:qO w g v xs k)(hb:ge w w'):qO w' g v xs k:=⟨al h.1 hb,h.2.below hb⟩
theorem yS (h:uY l=some j):JY l=true/\j.kindOf≠3/\lk j=l:=by
 unfold uY at h
 split at h
 .injection h with h;subst h;rename_i e;subst e;exact⟨by decide,by decide,rfl⟩
 split at h
 .injection h with h;subst h;rename_i e;subst e;exact⟨by decide,by decide,rfl⟩
 split at h
 .injection h with h;subst h;rename_i e;subst e;exact⟨by decide,by decide,rfl⟩
 .cases h
theorem Lj (h:i< (l.takeWhile em).length):∃c,l[i]?=some c/\em c=true:=by
 induction l generalizing i with
 |nil=>simp at h
 |cons x t ih=>
  by_cases hx:em x=true
  .rw[List.takeWhile_cons,if_pos hx] at h
   cases i with
   |zero=>exact⟨x,rfl,hx⟩
   |succ i=>exact ih (by simpa using h)
  .rw[List.takeWhile_cons,if_neg hx] at h;simp at h
theorem Jm {c:UInt8}(h:l[(l.takeWhile em).length]?=some c):em c=false:=by
 induction l with
 |nil=>cases h
 |cons x t ih=>
  by_cases hx:em x=true
  .rw[List.takeWhile_cons,if_pos hx] at h;exact ih h
  .rw[List.takeWhile_cons,if_neg hx] at h;injection h with h
   subst h;simpa using hx
theorem Gg (l:Na):l.take (l.takeWhile em).length=l.takeWhile em:=by
 induction l with
 |nil=>rfl
 |cons x t ih=>
  by_cases hx:em x=true
  .rw[List.takeWhile_cons,if_pos hx,List.length_cons,List.take_succ_cons,ih]
  .rw[List.takeWhile_cons,if_neg hx];rfl
def FC (k:Nat)(t:uE)(n:Nat)(w:Wd)(e:Ending)(w':Wd):Prop:=e =.returned (.tuple #[nZ k t,(n:Int),.nilIface])/\ge w w'
theorem tA {k:Nat}(hE:sT w aU aE)(h:qO w g v xs k0)(hl:xs.length<=1000000000){x:UInt8}(hx:xs[k]?=some x)(hk:cO x=2):Calls prog 200 #[.pointer (some (nl g)),(k:Int)] w (FC k (.mark x) 1 w):=by
 obtain⟨hg,hb⟩:=h;obtain⟨hm,A,cap,rfl,a5,a0⟩:=id hb;have c0:=ac hg (j:=0) (u:=.slice A xs.length cap) rfl;obtain⟨hlt,a6⟩:=List.getElem?_eq_some_iff.1 hx;obtain⟨b,o,rfl,a2⟩:=a0 (by omega);have a1:ar xs k=x.toNat:=by unfold ar;rw[List.getD_eq_getElem?_getD,hx];rfl
 have ck:=a2 k hlt;rw[a1] at ck;have a3:=Qa (eo x hE.begins);have hki:(k:Int)<=xs.length:=by omega
 have a7:(0:Int)< (xs.length - k:Nat):=by omega
 have a4:0<xs.length - k:=by omega
 have a9:¬cap=k:=by omega
 clear hg hb a0 a2 hx a6 a1 hE;go_in;go_wp2_with fail;refine Za a3 ?_;rintro e w' ⟨rfl,rfl⟩;rw[hk];clear hk a3;go_wp2_with fail;go_ret3;exact⟨rfl,Ze _ _⟩
theorem wE {k:Nat}(hE:sT w aU aE)(h:qO w g v xs k0)(hl:xs.length<=1000000000){x:UInt8}(hx:xs[k]?=some x)(hk:cO x=5){p:Na×Nat}(hp:oa (xs.drop k)=some p):Calls prog 200 #[.pointer (some (nl g)),(k:Int)] w (FC k (.str ⟨p.1.toArray⟩) p.2 w):=by
 obtain⟨hg,hb⟩:=h;obtain⟨hm,A,cap,rfl,a6,a0⟩:=id hb;have c0:=ac hg (j:=0) (u:=.slice A xs.length cap) rfl;obtain⟨hlt,a7⟩:=List.getElem?_eq_some_iff.1 hx;obtain⟨b,o,rfl,a2⟩:=a0 (by omega);have a1:ar xs k=x.toNat:=by unfold ar;rw[List.getD_eq_getElem?_getD,hx];rfl
 have ck:=a2 k hlt;rw[a1] at ck;have a5:=Qa (eo x hE.begins);have hki:(k:Int)<=xs.length:=by omega
 have a9:(0:Int)< (xs.length - k:Nat):=by omega
 have b1:0<xs.length - k:=by omega
 have b2:¬cap=k:=by omega
 have a3:=Qa (uj (show Bs w (.slice (some ⟨b,o+k,none⟩) (xs.length - k) (cap - k)) (xs.drop k) from hb.cut (Zj hlt)) hE.glob hE.quote hE.escape hE.surrogate hE.control (by rw[List.length_drop];omega));rw[hp] at a3;clear hg hb a0 a2 hx a7 a1 hE hp;go_in;go_wp2_with fail;refine Za a5 ?_;rintro e w' ⟨rfl,rfl⟩;rw[hk];clear hk a5;go_wp2_with fail;refine Za a3 ?_;rintro e w1 (⟨q,hq,rfl,a4⟩|⟨hn,_⟩)
 case inr=>cases hn
 injection hq with hq
 subst hq;have b0:=Qa a4;clear a4;rw[show Iw p =.tuple #[.string ⟨p.1.toArray⟩,(p.2:Int),.nilIface] from rfl];go_wp2_with fail;go_ret3;exact⟨rfl,b0⟩
theorem vO {k:Nat}(hE:sT w aU aE)(h:qO w g v xs k0)(hl:xs.length<=1000000000){x:UInt8}(hx:xs[k]?=some x)(hk:cO x=4){p:Dc×Nat}(hp:pU (xs.drop k)=some p):Calls prog 200 #[.pointer (some (nl g)),(k:Int)] w fun e w'=>FC k (.leaf (eC p.1)) p.2 w e w':=by
 obtain⟨hg,hb⟩:=h;obtain⟨hm,A,cap,rfl,a6,a0⟩:=id hb;have c0:=ac hg (j:=0) (u:=.slice A xs.length cap) rfl;obtain⟨hlt,a7⟩:=List.getElem?_eq_some_iff.1 hx;obtain⟨b,o,rfl,a2⟩:=a0 (by omega);have a1:ar xs k=x.toNat:=by unfold ar;rw[List.getD_eq_getElem?_getD,hx];rfl
 have ck:=a2 k hlt;rw[a1] at ck;have a5:=Qa (eo x hE.begins);have hki:(k:Int)<=xs.length:=by omega
 have a9:(0:Int)< (xs.length - k:Nat):=by omega
 have b1:0<xs.length - k:=by omega
 have b2:¬cap=k:=by omega
 have a3:=Qa (ub (show Bs w (.slice (some ⟨b,o+k,none⟩) (xs.length - k) (cap - k)) (xs.drop k) from hb.cut (Zj hlt)) (by rw[List.length_drop];omega) hE.goes hE.number hE.exponent);rw[hp] at a3;clear hg hb a0 a2 hx a7 a1 hE hp;go_in;go_wp2_with fail;refine Za a5 ?_;rintro e w' ⟨rfl,rfl⟩;rw[hk];clear hk a5;go_wp2_with fail;refine Za a3 ?_;rintro e w1 ⟨a4,rfl⟩;have b0:=Qa a4;clear a4;obtain⟨⟨dneg,ddig,dexp⟩,n⟩:=p;rw[show ML (⟨dneg,ddig,dexp⟩:Dc) =.agg #[.bool dneg,ddig,(dexp:Int)] from rfl];go_wp2_with fail;go_ret3;exact⟨rfl,bI b0 (aa _ _)⟩
theorem tJ {k:Nat}(hE:sT w aU aE)(h:qO w g v xs k0)(hl:xs.length<=1000000000){x:UInt8}(hx:xs[k]?=some x)(hk:cO x=3)(hp:uY (x:: (xs.drop (k+1)).takeWhile em)=some j):Calls prog 200 #[.pointer (some (nl g)),(k:Int)] w fun e w'=>FC k (.leaf j) (1+ ((xs.drop (k+1)).takeWhile em).length) w e w':=by
 obtain⟨hg,hb⟩:=h;obtain⟨hm,A,cap,rfl,c7,a0⟩:=id hb;have c0:=ac hg (j:=0) (u:=.slice A xs.length cap) rfl;obtain⟨hlt,b6⟩:=List.getElem?_eq_some_iff.1 hx;obtain⟨b,o,rfl,a9⟩:=a0 (by omega);have c1:ar xs k=x.toNat:=by unfold ar;rw[List.getD_eq_getElem?_getD,hx];rfl
 have ck:=a9 k hlt;rw[c1] at ck;have b8:=Qa (eo x hE.begins);have hki:(k:Int)<=xs.length:=by omega
 have c9:(0:Int)< (xs.length - k:Nat):=by omega
 have d0:0<xs.length - k:=by omega
 have d6:¬cap=k:=by omega
 have hd:xs.drop k=x::xs.drop (k+1):=by rw[List.drop_eq_getElem_cons hlt,b6]
 have hcut:Bs w (.slice (some ⟨b,o+k,none⟩) (xs.length - k) (cap - k)) (xs.drop k):=hb.cut (Zj hlt);obtain⟨b2,b7,b3⟩:=yS hp;obtain⟨tw,a2⟩:∃tw,tw= ((xs.drop (k+1)).takeWhile em).length:=⟨_,rfl⟩;have hin:∀i,i<tw->∃c,xs[k+ (i+1)]?=some c/\em c=true:=fun i hi=>by
  rw[a2] at hi;obtain⟨c,h1,h2⟩:=Lj hi;rw[List.getElem?_drop] at h1;exact⟨c,by rw[<-h1];congr 1;omega,h2⟩
 have a4:∀c,xs[k+ (tw+1)]?=some c->em c=false:=fun c hc=>by
  refine Jm (l:=xs.drop (k+1)) ?_;rw[<-a2,List.getElem?_drop,<-hc];congr 1;omega
 have c6:tw+1<=xs.length - k:=by
  have:=(List.takeWhile_prefix em (l:=xs.drop (k+1))).length_le;rw[<-a2,List.length_drop] at this;omega
 have c5:(xs.drop k).take (tw+1)=x:: (xs.drop (k+1)).takeWhile em:=by rw[hd,List.take_succ_cons,a2,Gg]
 have a5:(convert 30 9 (.slice (some ⟨b,o+k,none⟩) (tw+1) (cap - k))).run prog w =.ok (.string ⟨(lk j).toArray⟩) w:=by
  rw[b3,<-c5];exact a8 (hcut.upto (by rw[List.length_drop];omega))
 rw[<-b3] at b2;have c3:∀i c,i<xs.length - k->xs[k+i]?=some c->w.cell? ⟨b,o+k+i,none⟩=some (.int .u8 c.toNat):=fun i c hi hc=>by
  have h1:=a9 (k+i) (by omega);have h2:ar xs (k+i)=c.toNat:=by unfold ar;rw[List.getD_eq_getElem?_getD,hc];rfl
  rw[h2,<-Nat.add_assoc] at h1;exact h1
 have b5:=Qa c3;have d1:=Qa hin;have b1:=Qa a4;have b9:=Qa b2;have b0:=Qa a5;have Hv:=Qa (show nZ k (.leaf j) =.iface 353 (.agg #[(k:Int),.string ⟨(lk j).toArray⟩]) from if_neg b7);rw[<-a2];generalize lk j=wl at *;have d5:tw+1<=cap - k:=by omega
 have d3:=Qa a2;clear hd hcut b2 b7 b3 hin a4 c5 a5 c3 hp a2;clear hg hb a0 a9 hx b6 c1 hE;go_in;go_wp2_with fail;refine Za b8 ?_;rintro e w' ⟨rfl,rfl⟩;rw[hk];clear hk b8;go_wp2_with fail
 go_loopg [8] tw (fun m s8 wr=> ∃n:Nat,m+n=tw/\s8 =((n+1:Nat):Int)/\wr=w)
 case atStart=>exact⟨0,rfl,rfl,rfl⟩
 case round=>
  obtain⟨n,a6,rfl,rfl⟩:=hrel;have a1:((n+1:Nat):Int)= (n:Int)+1:=by omega
  obtain⟨z,hz⟩:=y7 (((n+1:Nat):Int):Int)
  by_cases hlt2:n<tw
  .obtain⟨c,a3,b4⟩:=d1 n hlt2;have a0:=b5 (n+1) c (by omega) a3;have c2:((n+1:Nat):Int)< (xs.length - k:Nat):=by omega
   have c4:n+1<xs.length - k:=by omega
   have s1:=y9 ((n:Int)+1+1);have a7:=Qa b4;have Hmn:=Qa a6;clear a6 a3 b4 a1 hz;go_wp2_with fail;refine(l7 c _).mono ?_;rintro e w' ⟨rfl,rfl⟩;rw[a7.out];go_wp2_with fail;go_roundg (tw - (n+1))
   case measure=>have:=Hmn.out;omega
   case rel=>exact⟨n+1,by have:=Hmn.out;omega,by go_num,rfl⟩
  .obtain rfl:n=tw:=by omega
   have Hmn:=Qa a6;have d2:n+1<=xs.length - k:=c6;have q1:(0:Int)<=(n:Int)+1:=by omega
   have q2:(n:Int)+1<=(cap - k:Nat):=by omega
   have d4:=b0.out;have d7:((n:Int)+1).toNat=n+1:=by omega
   have c8:¬ (cap - k=0):=by omega
   clear a6 a1 hz hlt2
   by_cases hend:n+1=xs.length - k
   .have c2:¬ (n:Int)+1< (xs.length - k:Nat):=by omega
    have c4:¬n+1<xs.length - k:=by omega
    clear hend;go_wp2_with fail;refine(m6 wl _).mono ?_;rintro e w' ⟨rfl,rfl⟩;rw[b9.out];go_wp2_with fail;go_ret3;refine⟨?_,Ze _ _⟩;rw[Hv.out,show((1+n:Nat):Int)= (n:Int)+1 from by omega];rfl
   .obtain⟨c,a3⟩:=y8 xs (k+ (n+1));have a0:=b5 (n+1) c (by omega) a3;have c2:(n:Int)+1< (xs.length - k:Nat):=by omega
    have c4:n+1<xs.length - k:=by omega
    have a7:=Qa (b1 c a3);clear hend a3;go_wp2_with fail;refine(l7 c _).mono ?_;rintro e w' ⟨rfl,rfl⟩;rw[a7.out];go_wp2_with fail;refine(m6 wl _).mono ?_;rintro e w' ⟨rfl,rfl⟩;rw[b9.out];go_wp2_with fail;go_ret3;refine⟨?_,Ze _ _⟩;rw[Hv.out,show((1+n:Nat):Int)= (n:Int)+1 from by omega];rfl
theorem xV {k:Nat}(hE:sT w aU aE)(h:qO w g v xs k0)(hl:xs.length<=1000000000){t:uE}(hx:dM (xs.drop k)=some (t,n)):Calls prog 200 #[.pointer (some (nl g)),(k:Int)] w (FC k t n w):=by
 obtain⟨x,a1⟩:∃x,xs[k]?=some x:=by
  cases hd:xs.drop k with
  |nil=>rw[hd] at hx;cases hx
  |cons x r=>exact⟨x,by have:=congrArg (·[0]?) hd;simpa [List.getElem?_drop] using this⟩
 obtain⟨hlt,a2⟩:=List.getElem?_eq_some_iff.1 a1;have hd:xs.drop k=x::xs.drop (k+1):=by rw[List.drop_eq_getElem_cons hlt,a2]
 have a0:=hx;rw[hd] at a0;simp only[dM] at a0
 split at a0
 .rename_i hk
  injection a0 with a0
  injection a0 with e1 e2
  subst e1 e2;exact tA hE h hl a1 hk
 .rename_i hk
  rw[Option.map_eq_some_iff] at a0;obtain⟨j,hj,a0⟩:=a0;injection a0 with e1 e2
  subst e1 e2;exact tJ hE h hl a1 hk hj
 .rename_i hk
  rw[Option.map_eq_some_iff] at a0;obtain⟨p,hp,a0⟩:=a0;injection a0 with e1 e2
  subst e1 e2;rw[<-hd] at hp;exact vO hE h hl a1 hk hp
 .rename_i hk
  rw[Option.map_eq_some_iff] at a0;obtain⟨p,hp,a0⟩:=a0;injection a0 with e1 e2
  subst e1 e2;rw[<-hd] at hp;exact wE hE h hl a1 hk hp
 .cases a0
theorem IY (h:i< (l.takeWhile dm).length):∃c,l[i]?=some c/\dm c=true:=by
 induction l generalizing i with
 |nil=>simp at h
 |cons x t ih=>
  by_cases hx:dm x=true
  .rw[List.takeWhile_cons,if_pos hx] at h
   cases i with
   |zero=>exact⟨x,rfl,hx⟩
   |succ i=>exact ih (by simpa using h)
  .rw[List.takeWhile_cons,if_neg hx] at h;simp at h
theorem KA {c:UInt8}(h:l[(l.takeWhile dm).length]?=some c):dm c=false:=by
 induction l with
 |nil=>cases h
 |cons x t ih=>
  by_cases hx:dm x=true
  .rw[List.takeWhile_cons,if_pos hx] at h;exact ih h
  .rw[List.takeWhile_cons,if_neg hx] at h;injection h with h
   subst h;simpa using hx
theorem tP (l:Na):l.drop (l.takeWhile dm).length=l.dropWhile dm:=by
 induction l with
 |nil=>rfl
 |cons x t ih=>
  by_cases hx:dm x=true
  .rw[List.takeWhile_cons,if_pos hx,List.length_cons,List.drop_succ_cons,ih,List.dropWhile_cons,if_pos hx]
  .rw[List.takeWhile_cons,if_neg hx,List.dropWhile_cons,if_neg hx];rfl
theorem DR (c:UInt8):((cO c:Nat)==1)=dm c:=by
 have:=wI (p:=fun c=>decide (((cO c:Nat)==1)=dm c)) (by decide +kernel) c;simpa using this
theorem pu (c:UInt8):(((cO c:Nat):Int)==1)=dm c:=by
 rw[<-DR];rw[Bool.eq_iff_iff];simp only[beq_iff_eq];omega
def Ls (g:Nat)(v:Value)(xs:Na)(tv:Value)(k:Nat)(w:Wd)(e:Ending)(w':Wd):Prop:=e =.returned (.tuple #[tv,.nilIface])/\qO w' g v xs k/\aV (fun i=>i=g) w w'
theorem qO.apart {k b:Nat}(h:w.heap[g]?=some (.cells #[v,(k:Int)] 288 (0,0)))(hv:∃A n q,v =.slice A n q)(hc:∃z:Nat,w.cell? (no b o)=some (.int .u8 z)):g≠b:=by
 intro e;subst e;obtain⟨z,hz⟩:=hc;obtain⟨A,n,q,rfl⟩:=hv;rcases o with _|_|o
 .rw[ac h (j:=0) rfl] at hz;injection hz with hz
  cases hz
 .rw[ac h (j:=1) rfl] at hz;injection hz with hz
  cases hz
 .unfold World.cell? at hz;simp[h] at hz
theorem qO.set {k:Nat}(h:qO w g v xs k){z:Int}{j:Nat}(hz:z=j):qO (w.setCell (no g 1) (z:Int)) g v xs j:=by
 subst hz;refine⟨az h.1 1 _,?_⟩;obtain⟨hm,A,c,rfl,hc,a0⟩:=h.2;refine⟨hm,A,c,rfl,hc,fun h0=>?_⟩;obtain⟨b,o,rfl,a1⟩:=a0 h0;refine⟨b,o,rfl,fun i hi=>?_⟩;rw[World.cell?_setCell_far _ _ _ _ (qO.apart h.1 ⟨_,_,_,rfl⟩ ⟨_,a1 i hi⟩)];exact a1 i hi
theorem t8:∀ (f:Nat) (xs out:Na) (n:Nat) (p:Na×Nat),gV f xs out n=some p->p.2<=n+xs.length
 |0,_,_,_,_,h=>by cases h
 |f+1,xs,out,n,p,h=>by
  unfold gV at h
  split at h
  .cases h
  .rename_i hp
   have:=rG hp;injection h with h;subst h
   simp only;omega
  .rename_i c k hp
   have h1:=(pn hp).2.2;have h2:=t8 f _ _ _ p h;rw[List.length_drop] at h2;simp only at h1;omega
theorem pV {t:uE}(h:dM xs=some (t,n)):1<=n/\n<=xs.length:=by
 refine⟨(FV h).1,?_⟩
 cases xs with
 |nil=>cases h
 |cons x xs=>
  simp only[dM] at h
  split at h
  .injection h with h;injection h with _ h;subst h;simp
  .rw[Option.map_eq_some_iff] at h;obtain⟨j,-,h⟩:=h;injection h with _ h;subst h
   have:=(List.takeWhile_prefix em (l:=xs)).length_le;rw[List.length_cons];omega
  .rw[Option.map_eq_some_iff] at h;obtain⟨p,hp,h⟩:=h;injection h with _ h;subst h
   exact(xh hp).2
  .rw[Option.map_eq_some_iff] at h;obtain⟨p,hp,h⟩:=h;injection h with _ h;subst h
   unfold oa at hp
   split at hp
   .rename_i ys e
    injection e with e1 e2
    subst e2;have:=t8 _ _ _ _ _ hp;rw[List.length_cons];omega
   .cases hp
  .cases h
theorem zd (k:Nat)(t:uE):∃ty v,nZ k t =.iface ty v:=by
 cases t with
 |mark c=>exact⟨_,_,rfl⟩
 |str s=>exact⟨_,_,rfl⟩
 |leaf j=>
  unfold nZ;simp only
  split
  .exact⟨_,_,rfl⟩
  .exact⟨_,_,rfl⟩
theorem vc {k:Nat}(hE:sT w aU aE)(h:qO w g v xs k)(hk:k<=xs.length)(hl:xs.length<=1000000000)(hd:(xs.drop k).dropWhile dm = []):Calls prog 174 #[.pointer (some (nl g))] w fun e w'=>Ls g v xs (.iface 295 (.agg #[(xs.length:Int)])) xs.length w e w':=by
 obtain⟨hg,hb⟩:=id h;obtain⟨hm,A,cap,rfl,b2,a1⟩:=id hb;obtain⟨tw,a3⟩:∃tw,tw= ((xs.drop k).takeWhile dm).length:=⟨_,rfl⟩;have a5:=tP (xs.drop k);rw[hd,<-a3,List.drop_drop] at a5;have b0:=congrArg List.length a5;rw[List.length_drop,List.length_nil] at b0;have b3:tw+k<=xs.length:=by
  have:=(List.takeWhile_prefix dm (l:=xs.drop k)).length_le;rw[<-a3,List.length_drop] at this;omega
 have hin:∀i,i<tw->∃c,xs[k+i]?=some c/\(((cO c:Nat):Int)==1)=true:=fun i hi=>by
  rw[a3] at hi;obtain⟨c,h1,h2⟩:=IY hi;rw[List.getElem?_drop] at h1;exact⟨c,h1,by rw[pu];exact h2⟩
 have c0:=ac hg (j:=0) (u:=.slice A xs.length cap) rfl;have c1:=ac hg (j:=1) (u:=(k:Int)) rfl;have f1:=ao hg 1;have b5:=Qa hin;have a2:=Qa a1;have H:=Qa h;have HB:=Qa hE.begins;clear hd a5 hin hg hb a1 h hE a3;go_in;go_wp2_with fail
 go_loopg [4] tw (fun m s4 wr=> ∃n:Nat,m+n=tw/\s4 =((k+n:Nat):Int)/\wr=w)
 case atStart=>exact⟨0,rfl,rfl,rfl⟩
 case round=>
  obtain⟨n,a4,rfl,rfl⟩:=hrel;have a0:((k+n:Nat):Int)= (k:Int)+n:=by omega
  by_cases hlt2:n<tw
  .obtain⟨c,a9,a6⟩:=b5 n hlt2;obtain⟨b,o,rfl,a7⟩:=a2 (by omega);have b6:=a7 (k+n) (by omega);have h2:ar xs (k+n)=c.toNat:=by unfold ar;rw[List.getD_eq_getElem?_getD,a9];rfl
   rw[h2] at b6;have b7:(k:Int)+n<xs.length:=by omega
   have b9:k+n<xs.length:=by omega
   have s1:=NC (((k+n:Nat):Int)+1) ((k+ (n+1):Nat):Int)
   have b1:=Qa a6;have Hmn:=Qa a4;have b4:=Qa (eo c HB.out);clear a4 a9 a6 a0 a7 h2;go_wp2_with fail;refine Za b4 ?_;rintro e w' ⟨rfl,rfl⟩;have b8:=b1.out;go_wp2_with fail;go_roundg (tw - (n+1))
   case measure=>have:=Hmn.out;omega
   case rel=>exact⟨n+1,by have:=Hmn.out;omega,rfl,rfl⟩
  .have e:k+n=xs.length:=by omega
   rw[e];have s2:(xs.length:Int)= ((xs.length:Nat):Int):=rfl;have H2:=Qa (H.set (z:=((xs.length:Nat):Int)) (j:=xs.length) rfl);clear a0 hlt2 a4 e b0 b3 s2;go_wp2_with fail;go_ret2;exact⟨rfl,H2,aV.set g 1 _⟩
theorem vH {k:Nat}(hE:sT w aU aE)(h:qO w g v xs k)(hk:k<=xs.length)(hl:xs.length<=1000000000){y:UInt8}(hd:(xs.drop k).dropWhile dm=y::ys){t:uE}(hx:dM (y::ys)=some (t,n)):Calls prog 174 #[.pointer (some (nl g))] w fun e w'=>Ls g v xs (nZ (xs.length - (ys.length+1)) t) (xs.length - (ys.length+1)+n) w e w':=by
 obtain⟨hg,hb⟩:=id h;obtain⟨hm,A,cap,rfl,c2,a2⟩:=id hb;obtain⟨tw,a4⟩:∃tw,tw= ((xs.drop k).takeWhile dm).length:=⟨_,rfl⟩;have a5:=tP (xs.drop k);rw[hd,<-a4,List.drop_drop] at a5;have b5:=congrArg List.length a5;rw[List.length_drop,List.length_cons] at b5;have d0:tw+k<=xs.length:=by
  have:=(List.takeWhile_prefix dm (l:=xs.drop k)).length_le;rw[<-a4,List.length_drop] at this;omega
 have hin:∀i,i<tw->∃c,xs[k+i]?=some c/\(((cO c:Nat):Int)==1)=true:=fun i hi=>by
  rw[a4] at hi;obtain⟨c,h1,h2⟩:=IY hi;rw[List.getElem?_drop] at h1;exact⟨c,h1,by rw[pu];exact h2⟩
 have c0:=ac hg (j:=0) (u:=.slice A xs.length cap) rfl;have c1:=ac hg (j:=1) (u:=(k:Int)) rfl;have f1:=ao hg 1;have hfr:xs.length - (ys.length+1)=k+tw:=by omega
 have d3:k+tw<xs.length:=by omega
 rw[hfr];have a6:xs[k+tw]?=some y:=by
  have:=congrArg (·[0]?) a5;simpa [List.getElem?_drop] using this
 have b7:dm y=false:=by
  refine KA (l:=xs.drop k) ?_;rw[<-a4,List.getElem?_drop];exact a6
 rw[<-a5] at hx;have c8:=Qa (xV hE h hl hx);have hnl:=(pV hx).2;rw[List.length_drop] at hnl;have b6:(((cO y:Nat):Int)==1)=false:=by rw[pu];exact b7
 have c3:=Qa b6;have b8:=Qa a6;clear a6 b7 hx b6 hfr;have d2:=Qa hin;have a0:=Qa a2;have H:=Qa h;have HB:=Qa hE.begins;clear hd a5 hin b5 hg hb a2 h hE a4;go_in;go_wp2_with fail
 go_loopg [4] tw (fun m s4 wr=> ∃n0:Nat,m+n0=tw/\s4 =((k+n0:Nat):Int)/\wr=w)
 case atStart=>exact⟨0,rfl,rfl,rfl⟩
 case round=>
  obtain⟨n0,a7,rfl,rfl⟩:=hrel;have a1:((k+n0:Nat):Int)= (k:Int)+n0:=by omega
  by_cases hlt2:n0<tw
  .obtain⟨c,b4,b3⟩:=d2 n0 hlt2;obtain⟨b,o,rfl,a3⟩:=a0 (by omega);have b0:=a3 (k+n0) (by omega);have h2:ar xs (k+n0)=c.toNat:=by unfold ar;rw[List.getD_eq_getElem?_getD,b4];rfl
   rw[h2] at b0;have c6:(k:Int)+n0<xs.length:=by omega
   have d1:k+n0<xs.length:=by omega
   have s1:=NC (((k+n0:Nat):Int)+1) ((k+ (n0+1):Nat):Int)
   have b9:=Qa b3;have Hmn:=Qa a7;have a9:=Qa (eo c HB.out);clear a7 b4 b3 a1 a3 h2;go_wp2_with fail;refine Za a9 ?_;rintro e w' ⟨rfl,rfl⟩;have c7:=b9.out;go_wp2_with fail;go_roundg (tw - (n0+1))
   case measure=>have:=Hmn.out;omega
   case rel=>exact⟨n0+1,by have:=Hmn.out;omega,rfl,rfl⟩
  .obtain rfl:n0=tw:=by omega
   obtain⟨b,o,rfl,a3⟩:=a0 (by omega);have b0:=a3 (k+n0) (by omega);have h2:ar xs (k+n0)=y.toNat:=by unfold ar;rw[List.getD_eq_getElem?_getD,b8.out];rfl
   rw[h2] at b0;have c6:(k:Int)+n0<xs.length:=by omega
   have d1:k+n0<xs.length:=by omega
   have hne:(((k+n0:Nat):Int)== (xs.length:Int))=false:=by simp only[beq_eq_false_iff_ne];omega
   have a9:=Qa (eo y HB.out);have c9:k+n0+n<=1000000000:=by omega
   clear a7 a1 hlt2 a3 h2 d0;go_wp2_with fail;refine Za a9 ?_;rintro e w' ⟨rfl,rfl⟩;have c7:=c3.out;go_wp2_with fail;(try rw[show(k:Int)+n0= ((k+n0:Nat):Int) from by omega]);refine Za c8 ?_;rintro e w1 ⟨rfl,b2⟩;have H1:=Qa (H.below b2);have c4:=Qa b2;have f1':=ao H1.1 1;have c1':=ac H1.1 (j:=1) (u:=(k:Int)) rfl;have s1:=NC (((k+n0:Nat):Int)+n) ((k+n0+n:Nat):Int)
   have H2:=Qa (H1.set (z:=((k+n0+n:Nat):Int)) (j:=k+n0+n) rfl);obtain⟨tt,tv,b1⟩:=zd (k+n0) t;rw[b1];have c5:=Qa b1;clear b2 b1;go_wp2_with fail;go_ret2;exact⟨by rw[c5.out];rfl,H2.out,(aV.of_below c4).trans (aV.set g 1 _) (fun i hi=>.inl hi)⟩
theorem zq (hb:Bs w v xs)(h0:0<xs.length)(hl:xs.length<=1000000000):Calls prog 173 #[v] w fun e w'=> ∃u,e =.returned u/\aw w' w.heap.size u xs/\ge w w':=by
 obtain⟨hm,A,cap,rfl,a6,a0⟩:=id hb;obtain⟨b,o,rfl,a5⟩:=a0 h0;have a1:=aa w (.cells #[] 5);have Hb:=Qa (hb.below a1);have Ho:=Qa (aw.made (base:=w.heap.size) (Zf w (.cells #[] 5)) (Zb _) (cap:=0) (Zk _) rfl);have a2:=Qa a1;have a3:=Qa (show([]:Na).length+xs.length<=140737488355328 by simp;omega);have a4:=Qa a1.size;clear hb a0 a5 a1;have hq:(binOp .eql 30 (.slice (some (no b o)) xs.length cap) ()).run prog w =.ok false w:=by
  simp only[binOp];simp[run_equal_slice_nil w 30 5 (some (no b o)) xs.length cap underlying30]
 go_in;go_wp2_with (at_builtin;refine su Ho.out Hb.out a3.out a4.out ?_;intro v' w3 h1 h2 h3;have HK:=Qa h1;have a7:=Qa h2;clear h1 h2 h3);go_ret;exact⟨_,rfl,HK,a2.grown a7 a2.size (fun g e=>Nat.le_of_eq (Zi e))⟩
theorem xZ (hb:Bs w v xs)(h0:0<xs.length)(hl:xs.length<=1000000000):Calls prog 132 #[v] w fun e w'=> ∃g u,e =.returned (.pointer (some (nl g)))/\qO w' g u xs 0/\ge w w'/\w.heap.size<=g/\aw w' w.heap.size u xs:=by
 have Hc:=Qa (zq hb h0 hl);clear hb;go_in;go_wp2_with fail;refine Za Hc ?_;rintro e w1 ⟨u,rfl,ho,a0⟩;obtain⟨A,q,rfl,-⟩:=ai ho;have Ho:=Qa (aw.bs ho);have a2:=Qa ho;have a1:=Qa a0;clear ho a0;go_wp2;go_ret;exact⟨w1.heap.size,_,rfl,⟨Zf _ _,Ho.below (aa _ _)⟩,bI a1 (aa _ _),a1.size,aq a2 (aa _ _) (Zb _)⟩
theorem iJ {t:TypeId}{k:Nat}(E:dH t e z k B){ops:Array Oper}{rest:List Oper}{o:Oper}{a:Act}{Q:Exit->Act->Wd->Prop}(a2:o.guard=none)(s x:Operand)
  (ho:o.op =.call {callee:=.builtin .append,args:= #[s,x],argTypes:= #[t,t]})
  (base:Nat) (v:Value) (n g c m:Nat) (us news:Nb) (hs:a.eval s=v) (a1:w.ownsRow base e k v n us) (hx:a.eval x =.slice (some (nl g)) m c) (hl:news.length=m*k)
  (hg:∀j u,news[j]?=some u->w.cell? (no g j)=some u) (h1:∀u∈news,u.oneCell'=true) (hm:0<m)
  (hlen:n+m<=maxLen) (hby:(n+m)*B<=140737488355328) (a0:base<=w.heap.size)
  (h:∀v' w',w'.ownsRow base e k v' (n+m) (us++news)->w.grownBy w' v.ownBlock->w.drawn<=w'.drawn->wpList prog ops Q rest (a.put o.dst v') w'):wpList prog ops Q (o::rest) a w:=by
 refine wpList_plain a2 fun K hK=>?_
 obtain⟨v',w',hr,h2,h3,h4,h5⟩:=tj E (ty:=o.type) base v n g c m us news a1 hl hg h1 hm hlen hby a0;unfold Oper.wp execOp;simp only[ho,resolve,invoke,builtin,Sem.run_bind,Sem.run_pure,Result.andThen_ok,List.map_toArray,List.map_cons,List.map_nil,hs,hx,hr];exact hK _ _ (h v' w' h2 h3 h5)
theorem vC (w:Wd){s:Nc}{t:Na}(hs:s.data.toList=239::191::189::t):Calls prog 196 #[s,.string ⟨#[239,191,189]⟩] w fun e w'=>e =.returned true/\w=w':=by
 have hsz:s.data.toList.length=s.size:=by simp
 rw[hs] at hsz;simp only[List.length_cons] at hsz;have h3:¬ (s.size:Int)<3:=by omega
 have a1:(3:Int)<=s.size:=by omega
 have a0:3<=s.size:=by omega
 have he:s.extract 0 3= ⟨#[239,191,189]⟩:=by
  have h:(s.extract 0 3).data.toList = [239,191,189]:=by
   rw[ByteArray.data_extract,Array.toList_extract,hs];rfl
  cases hx:s.extract 0 3 with
  |mk d=>rw[hx] at h;simp only at h;rw[<-h]
 have He:=Qa he;clear hs hsz he;go_in;go_wp2;go_ret;refine⟨?_,rfl⟩
 show Ending.returned (.bool ((s.extract 0 3).toList == [239,191,189]))=_
 rw[He.out,ByteArray.toList_eq];rfl
theorem sy (w:Wd){s:Nc}{t:Na}(hs:s.data.toList=239::191::189::t):Calls prog 163 #[s,.string ⟨#[239,191,189]⟩] w fun e w'=>e =.returned true/\w=w':=by
 have H:=Qa (vC w hs);clear hs;go_in;go_wp2_with fail;refine Za H ?_;rintro e w' ⟨rfl,rfl⟩;go_wp2;go_ret;exact⟨rfl,rfl⟩
def JS (s:Nc)(cs:List Int)(j:Nat)(w:Wd)(m:Nat)(s3:Value)(wr:Wd):Prop:=
 ∃ (pre rest:List Int) (p:Nat),cs=pre++rest/\m=rest.length/\s.data.toList.drop p=rest.flatMap bL/\wr.heap[j]?=some (.stringIter s p)/\rR wr w.heap.size s3 pre/\co w wr
theorem co.iter {j:Nat}{s:Nc}(hj:w.heap[j]?=some (.stringIter s p)){B:Wd}(hb:co B w)(hB:B.heap.size<=j):co B (w.iterAt j s q):=by
 refine⟨hb.b.trans ((aV.iter (w:=w) (j:=j) (q:=q) (s:=s)).below hb.b.size (fun k hk=>by rw[hk];exact hB)),Zc hb.d ?_⟩;exact Zb _
theorem se {s:Nc}(hs:dS s)(hl:s.size<=4294967296):Calls prog 120 #[s] w fun e w'=> ∃v,e =.returned v/\rR w' w.heap.size v (nm s)/\co w w':=by
 obtain⟨hc,hd⟩:=hs.nm;generalize Proofs.YtimbegpgemkpkaaGreatDoor.nm s=cs at *;have c5:cs.length<=4294967296:=by
  have h1:=j4 hc;rw[hd] at h1;have:s.data.toList.length=s.size:=by simp
  omega
 have Hd:=Qa hd;have Hc:=Qa hc;have Hi:=Qa (Zf w (.stringIter s 0));have Hb:=Qa (co.alloc w (.stringIter s 0));clear hs hd hc;go_in;go_wp2_with fail
 go_loopg [3] cs.length (fun m s3 wr=>JS s cs w.heap.size w m s3 wr)
 case atStart=>exact⟨[],cs,0,rfl,rfl,Hd.symm,Hi,⟨rfl,.inl ⟨rfl,rfl⟩⟩,Hb⟩
 case round=>
  clear Hi Hb;obtain⟨pre,rest,p,he,hm,a0,hi,ho,hb⟩:=hrel;have hji:w.heap.size<=w.heap.size:=Zb _;have hj:w.heap.size<wr.heap.size:=ah hi;obtain⟨j,a6⟩:=y7 w.heap.size;rw[a6] at hi;have Ho:=Qa ho;have Hi:=Qa hi;have Hb:=Qa hb;have He:=Qa he;have c6:=Qa a0;have b1:=Qa a6;have hsz:s.data.toList.length=s.size:=by simp
  have b2:∀b,u3.ownBlock=some b->b≠j:=fun b b0 e=>by
   obtain⟨_,cur,hg⟩:=am ho b0;rw[e,hi] at hg
   cases hg
  have c3:pre.length<=4294967296:=by have:=congrArg List.length he;rw[List.length_append] at this;omega
  rw[a6]
  cases rest with
  |nil=>
   have hlt:¬p<s.size:=by
    have:=congrArg List.length a0;rw[List.length_drop] at this;simp at this;omega
   have a9:∀ty,(Instr.next (.pointer (some (nl j))) true ty).run prog wr =.ok (.tuple #[false]) wr:=fun ty=>Lib.run_next_end_at wr j s p ty hi hlt
   clear ho hi hb he a0 b2 hlt hm hji hj a6;go_wp2;go_ret;have e:cs=pre:=by rw[He.out,List.append_nil]
   rw[e];exact⟨_,rfl,Ho,Hb⟩
  |cons c rest=>
   have h0:=Hc c (by rw[he];simp);have hlen:=congrArg List.length a0;rw[List.length_drop,hsz,List.flatMap_cons,List.length_append] at hlen;have c0:(bL c).length≠0:=fun e=>pM h0 (List.eq_nil_of_length_eq_zero e)
   have hlt:p<s.size:=by omega
   have a9:∀ty,(Instr.next (.pointer (some (nl j))) true ty).run prog wr =.ok (.tuple #[true,(p:Int),.int .i32 (Utf8.decode s p).1]) (wr.iterAt j s (p+ (Utf8.decode s p).2)):=fun ty=>Lib.run_next_any_at wr j s p ty hi hlt
   rw[pD s p hlt,a0,List.flatMap_cons,sU h0,if_pos rfl] at a9;have hcn:((c.toNat:Nat):Int)=c:=by have:=eJ h0;omega
   dsimp only at a9
   rw[hcn] at a9;have b6:co w (wr.iterAt j s (p+ (bL c).length)):=co.iter hi hb (by omega);have a5:=aV.iter (w:=wr) (j:=j) (q:=p+ (bL c).length) (s:=s);have c1:=Qa (Lib.iterAt_heap wr j s p (p+ (bL c).length) hi);have b8:=Qa (show rR (wr.iterAt j s (p+ (bL c).length)) w.heap.size u3 pre from bM ho (fun b b0=>by obtain⟨_,cur,hg⟩:=am ho b0;exact a5.block b (ah hg) (b2 b b0)));have c2:=Qa b6;have a3:=Qa (show s.data.toList.drop (p+ (bL c).length)=rest.flatMap bL by rw[<-List.drop_drop,a0,List.flatMap_cons,List.drop_left]);have q1:(p:Int)<=s.size:=by omega
   have q2:p<=s.size:=by omega
   have H0:=Qa h0;have Hgk:Hid (gk=rest.length+1):=Qa hm;have c4:=Qa (show c=65533->(s.extract p s.size).data.toList=239::191::189::rest.flatMap bL from fun e=>by
    rw[ByteArray.data_extract,Array.toList_extract,List.extract_eq_take_drop,a0,List.take_of_length_le (by rw[List.flatMap_cons,List.length_append];omega),List.flatMap_cons,e]
    show bL ((65533:Nat):Int)++_=_
    rw[E2];rfl)
   clear ho hi hb he a0 b2 hlt hlen c0 a5 h0 hcn hm b6 hji hj a6;generalize wr.iterAt j s (p+ (bL c).length)=wi at *;have a4:=co.alloc wi (.cells #[.int .i32 c] 21);have a2:=Qa (show rR (wi.alloc (.cells #[.int .i32 c] 21)) w.heap.size u3 pre from aq b8.out a4.b (Zb _));have b4:=Qa (au wi [fP c] 21);have a1:=Qa (c2.trans a4);have a7:=Qa (al c1.out a4.b);have b5:=Qa (show pre.length+1<=maxLen by unfold maxLen;omega);have b7:=Qa (show(pre.length+1)*4<=140737488355328 by omega);have b3:=Qa a1.b.size
   by_cases hf:c=65533
   .have Hx:=Qa (c4 hf);have b9:(c==65533)=true:=by simpa using hf
    clear a4 hf;go_wp2_with fail;refine(sy _ Hx).mono ?_;rintro e w' ⟨rfl,rfl⟩;go_wp2_with (at_builtin;refine iJ mI rfl (.tmp 26) (.tmp 28) rfl w.heap.size u3 pre.length wi.heap.size 1 1 (pre.map fP) [fP c] (by simp[Act.eval]) a2.out (by simp[Act.eval]) rfl b4.out (by simp[fP,Value.oneCell']) (by decide) b5.out b7.out b3.out ?_;intro v' w5 p1 p2 p3;have HK:=Qa p1;have HG:=Qa p2;have HD:=Qa p3;clear p1 p2 p3);have hfin:JS s cs w.heap.size w rest.length v' w5:=by
     refine⟨pre ++ [c],rest,p+ (bL c).length,by rw[He.out];simp,rfl,a3.out,?_,by unfold rR;rw[List.length_append,List.map_append];exact HK.out,⟨aD a1.b a2 a1.b.size HG,Zc a1.d HD⟩⟩;rw[b1.out];exact aJ a7.out HG.out (fun e=>by
      obtain⟨_,cur,hg⟩:=am a2.out e;rw[a7.out] at hg
      cases hg)
    rw[<-b1.out];go_roundg (rest.length)
    case measure=>have:=Hgk.out;omega
    case rel=>exact hfin
   .have b9:(c==65533)=false:=by simpa using hf
    clear a4;go_wp2_with (at_builtin;refine iJ mI rfl (.tmp 26) (.tmp 28) rfl w.heap.size u3 pre.length wi.heap.size 1 1 (pre.map fP) [fP c] (by simp[Act.eval]) a2.out (by simp[Act.eval]) rfl b4.out (by simp[fP,Value.oneCell']) (by decide) b5.out b7.out b3.out ?_;intro v' w5 p1 p2 p3;have HK:=Qa p1;have HG:=Qa p2;have HD:=Qa p3;clear p1 p2 p3);have hfin:JS s cs w.heap.size w rest.length v' w5:=by
     refine⟨pre ++ [c],rest,p+ (bL c).length,by rw[He.out];simp,rfl,a3.out,?_,by unfold rR;rw[List.length_append,List.map_append];exact HK.out,⟨aD a1.b a2 a1.b.size HG,Zc a1.d HD⟩⟩;rw[b1.out];exact aJ a7.out HG.out (fun e=>by
      obtain⟨_,cur,hg⟩:=am a2.out e;rw[a7.out] at hg
      cases hg)
    rw[<-b1.out];go_roundg (rest.length)
    case measure=>have:=Hgk.out;omega
    case rel=>exact hfin
theorem sr (x:Int)(w:Wd):Calls prog 195 #[.int .i32 x] w fun e w'=>e =.returned false/\w=w':=by
 go_in;go_wp2;go_ret;exact⟨by simp,rfl⟩
def yH (a b:Int):Int:=if a<b then -1 else if b<a then 1 else 0
theorem xK (a b:Int)(w:Wd):Calls prog 162 #[.int .i32 a,.int .i32 b] w fun e w'=>e = (yH a b:Int)/\w=w':=by
 have h1:=Qa (fun w=>sr a w);have h2:=Qa (fun w=>sr b w);go_in;go_wp2_with fail;refine(h1 _).mono ?_;rintro e w' ⟨rfl,rfl⟩;go_wp2_with fail;refine(h2 _).mono ?_;rintro e w' ⟨rfl,rfl⟩
 by_cases h3:a<b
 .have Hv:=Qa (show yH a b = -1 from if_pos h3);go_wp2;go_ret;exact⟨by rw[Hv.out];rfl,rfl⟩
 by_cases h4:b<a
 .have Hv:=Qa (show yH a b=1 from(if_neg h3).trans (if_pos h4));go_wp2;go_ret;exact⟨by rw[Hv.out];rfl,rfl⟩
 have Hv:=Qa (show yH a b=0 from(if_neg h3).trans (if_neg h4));go_wp2;go_ret;exact⟨by rw[Hv.out];rfl,rfl⟩
theorem rR.read {l:List Int}(h:rR w base (.slice A n q) l):n=l.length/\∀ (i:Nat) c,l[i]?=some c->∃g,A=some (nl g)/\w.cell? (no g i)=some (.int .i32 c):=by
 obtain⟨A',q',e,_,_,hA⟩:=ai h;obtain⟨rfl,rfl,rfl⟩:=Value.slice.inj e;refine⟨rfl,fun i c hc=>?_⟩;obtain⟨_,⟨e1,h0⟩|⟨g,cap,cur,e1,_⟩⟩:=id h
 .have:=(List.getElem?_eq_some_iff.1 hc).1;omega
 .obtain⟨rfl,-,rfl⟩:=Value.slice.inj e1;refine⟨g,rfl,?_⟩;rw[aB h rfl i (by have:=(List.getElem?_eq_some_iff.1 hc).1;omega),List.getElem?_map,hc];rfl
theorem rg {B:OA}{r base2:Nat}{x:List Int}(hx:rR w base (.slice A n q) x)(hy:rR w base2 (.slice B m r) y)(a7:x.length<=4294967296)(a9:y.length<=4294967296):Calls prog 119 #[.slice A n q,.slice B m r] w fun e w'=>e = (aA x y:Int)/\w=w':=by
 obtain⟨rfl,rx⟩:=hx.read;obtain⟨rfl,ry⟩:=hy.read;have Hx:=Qa rx;have Hy:=Qa ry;clear hx hy rx ry;go_in;go_wp2_with fail
 go_loopg [11] x.length (fun k s11 wr=> ∃i:Nat,k+i=x.length/\s11 =(i:Int)/\i<=y.length/\aA (x.drop i) (y.drop i)=aA x y/\wr=w)
 case atStart=>exact⟨0,rfl,rfl,Zk _,rfl,rfl⟩
 case round=>
  obtain⟨i,hk,rfl,a6,hc,rfl⟩:=hrel;have Hc:=Qa hc;have Hk:=Qa hk
  by_cases hlt:i<x.length
  .obtain⟨a,ha⟩:∃a,x[i]?=some a:=⟨_,Zd hlt⟩;obtain⟨gx,rfl,cx⟩:=Hx i a ha;have a5:(i:Int)<x.length:=by omega
   have a0:x.drop i=a::x.drop (i+1):=by rw[List.drop_eq_getElem_cons hlt];congr 1;rw[Zd hlt] at ha;exact Zi ha
   by_cases hly:i<y.length
   .obtain⟨b,hb⟩:∃b,y[i]?=some b:=⟨_,Zd hly⟩;obtain⟨gy,rfl,cy⟩:=Hy i b hb;have a3:y.drop i=b::y.drop (i+1):=by rw[List.drop_eq_getElem_cons hly];congr 1;rw[Zd hly] at hb;exact Zi hb
    have a1:(i:Int)<y.length:=by omega
    have a2:¬ (y.length:Int)<=i:=by omega
    have Hc2:=Qa (show aA x y=if a<b then -1 else if b<a then 1 else aA (x.drop (i+1)) (y.drop (i+1)) by rw[<-Hc.out,a0,a3];rfl);clear hc a0 a3 ha hb hk;have s1:=NC ((i:Int)+1) ((i+1:Nat):Int)
    go_wp2_with fail;refine(xK a b _).mono ?_;rintro e w' ⟨rfl,rfl⟩
    by_cases h3:a<b
    .rw[show yH a b = -1 from if_pos h3];rw[if_pos h3] at Hc2;go_wp2;go_ret;exact⟨by rw[Hc2.out];rfl,rfl⟩
    rw[if_neg h3] at Hc2
    by_cases h4:b<a
    .rw[show yH a b=1 from(if_neg h3).trans (if_pos h4)];rw[if_pos h4] at Hc2;go_wp2;go_ret;exact⟨by rw[Hc2.out];rfl,rfl⟩
    rw[show yH a b=0 from(if_neg h3).trans (if_neg h4)];rw[if_neg h4] at Hc2;go_wp2_with fail;go_roundg (x.length - (i+1))
    case measure=>have:=Hk.out;omega
    case rel=>exact⟨i+1,by omega,rfl,by omega,Hc2.symm,rfl⟩
   .have a2:(y.length:Int)<=i:=by omega
    have Hc2:=Qa (show aA x y=1 by rw[<-Hc.out,a0,show y.drop i = [] from List.drop_of_length_le (by omega)];rfl);clear hc a0 ha hk;go_wp2;go_ret;exact⟨by rw[Hc2.out];rfl,rfl⟩
  .have a5:¬ (i:Int)<x.length:=by omega
   have a4:i=x.length:=by omega
   have a0:x.drop i = []:=List.drop_of_length_le (by omega)
   by_cases hly:i<y.length
   .have a1:(x.length:Int)<y.length:=by omega
    have Hc2:=Qa (show aA x y = -1 by rw[<-Hc.out,a0,List.drop_eq_getElem_cons hly];rfl);clear hc a0 hk a4;go_wp2;go_ret;exact⟨by rw[Hc2.out];rfl,rfl⟩
   .have a1:¬ (x.length:Int)<y.length:=by omega
    have Hc2:=Qa (show aA x y=0 by rw[<-Hc.out,a0,show y.drop i = [] from List.drop_of_length_le (by omega)];rfl);clear hc a0 hk a4;go_wp2;go_ret;exact⟨by rw[Hc2.out];rfl,rfl⟩
def kN (s:Nc):Prop:=dS s/\s.size<=4294967296
theorem kN.len {s:Nc}(h:kN s):(nm s).length<=4294967296:=by
 have h1:=j4 h.1.nm.1;rw[h.1.nm.2] at h1;have:s.data.toList.length=s.size:=by simp
 have:=h.2;omega
theorem BA {s t:Nc}(hs:kN s)(ht:kN t):Calls prog 89 #[s,t] w fun e w'=>e = (aA (nm s) (nm t):Int)/\co w w':=by
 have H1:=Qa (se (w:=w) hs.1 hs.2);have H2:=Qa (fun w=>se (w:=w) ht.1 ht.2);have L1:=Qa hs.len;have L2:=Qa ht.len;clear hs ht;go_in;go_wp2_with fail;refine Za H1 ?_;rintro e w1 ⟨v1,rfl,a2,a3⟩;obtain⟨A1,q1,rfl,-⟩:=ai a2;have a6:=Qa a2;have a9:=Qa a3;clear a2 a3;go_wp2_with fail;refine(H2 w1).mono ?_;rintro e w2 ⟨v2,rfl,a1,a0⟩;obtain⟨A2,q2,rfl,-⟩:=ai a1;have a7:=Qa a1;have a4:=Qa (show rR w2 w.heap.size (.slice A1 (nm s).length q1) (nm s) from aq a6.out a0.b (Zb _));have a5:=Qa (a9.trans a0);clear a1 a0;go_wp2_with fail;refine(rg a4 a7 L1 L2).mono ?_;rintro e w3 ⟨rfl,rfl⟩;go_wp2;go_ret;exact⟨rfl,a5⟩
theorem ya {s t:Nc}(hs:kN s)(ht:kN t):Calls prog 88 #[.agg #[s,u],.agg #[t,v]] w fun e w'=>e = (aA (nm s) (nm t):Int)/\co w w':=by
 have H:=Qa (fun w=>BA (w:=w) hs ht);have Hb:=Qa ((co.alloc w (.cells #[s,u] 107)).trans (co.alloc _ (.cells #[t,v] 107)));clear hs ht;go_in;go_wp2_with fail;refine(H _).mono ?_;rintro e w1 ⟨rfl,a0⟩;have a1:=Qa (Hb.trans a0);clear a0;go_wp2;go_ret;exact⟨rfl,a1⟩
open Go.Lib Go.Sort
abbrev Mb:={p:Nc×Value // kN p.1/\Ic p.2}
theorem kN.empty:kN ⟨#[]⟩:=⟨⟨[],by simp,rfl⟩,by decide⟩
instance:Inhabited Mb:=⟨⟨(⟨#[]⟩,.iface 0 undef),kN.empty,0,undef,rfl⟩⟩
def i7 (p:Mb):Nb:= [.string p.1.1,p.1.2]
def KE (x y:Mb):Int:=aA (nm x.1.1) (nm y.1.1)
instance (a b:Nc):Decidable (gH a b):=by unfold gH;infer_instance
theorem LQ (x y:Mb):ltOf KE x y=decide (gH x.1.1 y.1.1):=by
 unfold ltOf KE gH;rfl
theorem L6:SWO (ltOf KE) where
 irrefl x:=by rw[LQ];simp[kS]
 trans x y z h1 h2:=by rw[LQ] at *;simp only[decide_eq_true_eq] at *;exact iC h1 h2
 ntrans x y z h1 h2:=by
  rw[LQ] at *;simp only[decide_eq_false_iff_not] at *;intro h
  by_cases e:x.1.1=y.1.1
  .rw[e] at h;exact h2 h
  .exact h2 (iC (kj h1 e) h)
theorem DP (x y:Mb)(w:Wd):Calls prog 88 #[.agg #[x.1.1,x.1.2],.agg #[y.1.1,y.1.2]] w fun e w'=>e = (KE x y:Int)/\∃q os',w'=grow (w.drewN q) os':=
 (ya x.2.1 y.2.1).mono fun _ _ ⟨h1,h2⟩=>⟨h1,h2.grow⟩
theorem EC (blk off size:Nat)(w:Wd):CmpLays prog 88 #[] i7 2 KE blk off size w:=fun _ _ _ _ x y=>DP x y _
def tB:Go.Shelf.Ren:=⟨fun|6=>87|15=>118|14=>117|28=>160|29=>161|20=>152|21=>153|22=>154|23=>155|24=>156|25=>157|26=>158|27=>159|46=>190|47=>191|48=>192|49=>193|50=>194|57=>219|n=>n,fun|22=>98|24=>107|25=>172|3=>3|39=>196|0=>0|53=>273|55=>275|4=>4|46=>267|45=>266|50=>252|5=>5|9=>9|66=>317|70=>321|76=>346|77=>179|n=>n,fun|n=>n⟩
theorem Eo:Go.Proofs.SlLaysF0.n6 prog tB:={
 mixed:=by kernel_rfl
 f6:=⟨"slices.SortFunc[[]wicket/tree.Member,wicket/tree.Member]",by decide,func87.trans (congrArg some (by kernel_rfl))⟩
 f14:=⟨"slices.pdqsortCmpFunc[wicket/tree.Member]",by decide,func117.trans (congrArg some (by kernel_rfl))⟩
 f15:=func118.trans (congrArg some (by kernel_rfl))
 f20:=⟨"slices.insertionSortCmpFunc[wicket/tree.Member]",by decide,func152.trans (congrArg some (by kernel_rfl))⟩
 f21:=⟨"slices.heapSortCmpFunc[wicket/tree.Member]",by decide,func153.trans (congrArg some (by kernel_rfl))⟩
 f22:=⟨"slices.breakPatternsCmpFunc[wicket/tree.Member]",by decide,func154.trans (congrArg some (by kernel_rfl))⟩
 f23:=⟨"slices.choosePivotCmpFunc[wicket/tree.Member]",by decide,func155.trans (congrArg some (by kernel_rfl))⟩
 f24:=⟨"slices.reverseRangeCmpFunc[wicket/tree.Member]",by decide,func156.trans (congrArg some (by kernel_rfl))⟩
 f25:=⟨"slices.partialInsertionSortCmpFunc[wicket/tree.Member]",by decide,func157.trans (congrArg some (by kernel_rfl))⟩
 f26:=⟨"slices.partitionEqualCmpFunc[wicket/tree.Member]",by decide,func158.trans (congrArg some (by kernel_rfl))⟩
 f27:=⟨"slices.partitionCmpFunc[wicket/tree.Member]",by decide,func159.trans (congrArg some (by kernel_rfl))⟩
 f28:=func160.trans (congrArg some (by kernel_rfl))
 f29:=func161.trans (congrArg some (by kernel_rfl))
 f46:=⟨"slices.siftDownCmpFunc[wicket/tree.Member]",by decide,func190.trans (congrArg some (by kernel_rfl))⟩
 f47:=func191.trans (congrArg some (by kernel_rfl))
 f48:=func192.trans (congrArg some (by kernel_rfl))
 f49:=⟨"slices.medianAdjacentCmpFunc[wicket/tree.Member]",by decide,func193.trans (congrArg some (by kernel_rfl))⟩
 f50:=⟨"slices.medianCmpFunc[wicket/tree.Member]",by decide,func194.trans (congrArg some (by kernel_rfl))⟩
 f57:=⟨"slices.order2CmpFunc[wicket/tree.Member]",by decide,func219.trans (congrArg some (by kernel_rfl))⟩
 t0:=underlying0
 a0:=isAgg0
 z0:=sizeOf0
 v0:=zeroValue0
 t3:=underlying3
 a3:=isAgg3
 z3:=sizeOf3
 v3:=zeroValue3
 t4:=underlying4
 a4:=isAgg4
 z4:=sizeOf4
 v4:=zeroValue4
 t5:=underlying5
 a5:=isAgg5
 z5:=sizeOf5
 v5:=zeroValue5
 t9:=underlying9
 a9:=isAgg9
 z9:=sizeOf9
 v9:=zeroValue9
 t22:=underlying98
 a22:=isAgg98
 z22:=sizeOf98
 v22:=zeroValue98
 t25:=underlying172
 a25:=isAgg172
 z25:=sizeOf172
 v25:=zeroValue172
 t39:=underlying196
 a39:=isAgg196
 z39:=sizeOf196
 v39:=zeroValue196
 t45:=underlying266
 a45:=isAgg266
 z45:=sizeOf266
 v45:=zeroValue266
 t46:=underlying267
 a46:=isAgg267
 z46:=sizeOf267
 v46:=zeroValue267
 t50:=underlying252
 a50:=isAgg252
 z50:=sizeOf252
 v50:=zeroValue252
 t53:=underlying273
 a53:=isAgg273
 z53:=sizeOf273
 v53:=zeroValue273
 t55:=underlying275
 a55:=isAgg275
 z55:=sizeOf275
 v55:=zeroValue275
 t66:=underlying317
 a66:=isAgg317
 z66:=sizeOf317
 v66:=zeroValue317
 t70:=underlying321
 a70:=isAgg321
 z70:=sizeOf321
 v70:=zeroValue321
 t76:=underlying346
 a76:=isAgg346
 z76:=sizeOf346
 v76:=zeroValue346
 t77:=underlying179
 a77:=isAgg179
 z77:=sizeOf179
 v77:=zeroValue179
}
def Ed (L:List (Nc×Value)):Prop:= ∀p∈L,kN p.1/\Ic p.2
open Classical in
noncomputable def KG (p:Nc×Value):Mb:=if h:kN p.1/\Ic p.2 then⟨p,h⟩ else default
theorem Ih {p:Nc×Value}(h:kN p.1/\Ic p.2):(KG p).1=p:=by unfold KG;rw[dif_pos h]
theorem In (hb:Ed L){p:Nc×Value}(hp:L[i]?=some p):(((L.map KG).toArray)[i]!).1=p:=by
 have hi:=(List.getElem?_eq_some_iff.1 hp).1;have h0:=hb p (Zl hp);have e:((L.map KG).toArray)[i]! =KG p:=by
  rw[getElem!_pos _ i (by simpa using hi)];simp only[List.getElem_toArray,List.getElem_map]
  congr 1
  have:=Zd hi;rw[hp] at this;exact(Zi this).symm
 rw[e];exact Ih h0
def oA (L:List (Nc×Value)):Prop:=L.Pairwise fun p q=> ¬gH q.1 p.1
def MZ (w:Wd)(base g:Nat)(L:List (Nc×Value))(e:Ending)(w':Wd):Prop:= ∃S:List (Nc×Value),oA S/\S.Perm L/\e =.returned (.tuple #[])/\Lz w' g S/\(∃cur:Array Value,w'.heap[g]?=some (.cells cur 107 (0,0))/\L.length*2<=cur.size)/\Below base w w'
theorem vI (h:yC w base (.slice (some (nl g)) L.length q) L)(hb:Ed L)(hB:base<=w.heap.size)(hl:L.length<=4294967296):Calls prog 87 #[.slice (some (nl g)) L.length q,.func (.func 88) #[] #[]] w (MZ w base g L):=by
 obtain⟨d,hd⟩:∃d:Array Mb,(L.map KG).toArray=d:=⟨_,rfl⟩;have a1:d.size=L.length:=by rw[<-hd];simp
 have a6:∀ (i:Nat) (p:Nc×Value),L[i]?=some p->(d[i]!).1=p:=fun i p hp=>by rw[<-hd];exact In hb hp
 obtain⟨a7,cur,a0⟩:=am h rfl;have a7:base<=g:=a7;have b1:=h.read;have a9:L.length*2<=cur.size:=by
  obtain⟨_,⟨e1,_⟩|⟨g',cap,cur',e1,_,a4,h2,h3,h4,h5⟩⟩:=id h
  .cases e1
  .obtain⟨e2,-,-⟩:=Value.slice.inj e1;obtain rfl:g=g':=by injection e2 with e2;injection e2
   rw[a0] at a4;obtain rfl:cur=cur':=by injection a4 with a4;injection a4
   rw[h4];omega
 have hH:HoldsK i7 2 w g 0 d:=by
  intro j hj;rw[size_flatK,a1] at hj;obtain⟨p,hp⟩:=y8 L (j/2);obtain⟨c1,c2⟩:=b1 _ _ hp;refine⟨?_,ao a0 _⟩;rw[get_flatK i7 2 d j (by rw[a1];exact hj)];have hv:=a6 _ _ hp;rw[Nat.zero_add];rcases Nat.mod_two_eq_zero_or_one j with hm|hm
  .rw[hm,show j= (j/2)*2 by omega];rw[show(j/2)*2/2=j/2 by omega,c1];unfold i7;rw[hv];rfl
  .rw[hm,show j= (j/2)*2+1 by omega];rw[show((j/2)*2+1)/2=j/2 by omega,c2];unfold i7;rw[hv];rfl
 have eg:∀args w,(callFunc 88 args).run prog w =.ok (.enter 88 args) w:=enters_of func88 (by kernel_rfl) rfl;have a3:=AnyQ.slices_SortFunc Eo 2 isAgg107 sizeOf107 i7 (fun _=>rfl) (fun x v hv=>by simp[i7] at hv;rcases hv with rfl|rfl;(· rfl);exact x.2.2.one) KE L6 88 #[] g 0 q d w eg (EC g 0 d.size w) hH (ah a0) (by rw[a1];omega);change Calls prog 87 _ _ _ at a3;rw[a1] at a3;refine a3.mono ?_;rintro e w' ⟨rfl,d',n,os,hp,hs,rfl⟩;have a5:d'.size=L.length:=by rw[hp.1,a1]
 have hsz:(putRowK i7 2 (Sort.ahead w n) g 0 d').heap.size=w.heap.size:=by unfold putRowK putRow mapBlock Sort.ahead;simp
 refine⟨d'.toList.map (·.1),?_,?_,rfl,?_,?_,?_⟩
 .unfold oA;rw[List.pairwise_map,List.pairwise_iff_getElem];intro i j hi hj b0;have h1:=hs i j (Zk _) b0 (by simpa [a5] using hj);rw[LQ] at h1;rw[getElem!_pos d' i (by simpa using hi),getElem!_pos d' j (by simpa using hj)] at h1;simp only[Array.getElem_toList];simpa only[decide_eq_false_iff_not] using h1
 .have h1:=hp.2.2;rw[<-a1] at h1;have e1:d.extract 0 d.size=d:=by simp
  have e2:d'.extract 0 d.size=d':=by rw[<-hp.1];simp
  rw[e1,e2] at h1;have h2:=h1.map (·.1);have e3:d.toList.map (·.1)=L:=by
   apply List.ext_getElem?
   intro i;rw[List.getElem?_map]
   by_cases hi:i<L.length
   .obtain⟨p,a2⟩:∃p,L[i]?=some p:=⟨_,Zd hi⟩;have hv:=a6 i p a2;rw[getElem!_pos d i (by omega)] at hv;rw[a2,Zd (by simpa [a1] using hi)];simp only[Array.getElem_toList,Option.map_some,hv]
   .rw[List.getElem?_eq_none (by simpa [a1] using hi),List.getElem?_eq_none (by omega)];rfl
  rw[e3] at h2;exact h2
 .have hK:=holdsK_grow i7 2 (putRowK i7 2 (Sort.ahead w n) g 0 d') os g 0 d' (by rw[hsz];exact ah a0) (holdsK_putRowK i7 2 (Sort.ahead w n) g 0 d d' (holdsK_ahead i7 2 w n g 0 d hH) hp.1);intro i p a2;rw[List.getElem?_map] at a2;have hi:i<d'.size:=by
   have:=(List.getElem?_eq_some_iff.1 (show(d'.toList.map (·.1))[i]?=some p by rw[List.getElem?_map];exact a2)).1;simpa using this
  have hv:(d'[i]!).1=p:=by
   rw[Zd (by simpa using hi)] at a2;rw[getElem!_pos d' i hi];simpa using a2
  have k1:=hK.cell hi (show 0<2 by decide);have k2:=hK.cell hi (show 1<2 by decide);have e1:((i7 d'[i]!)[0]! :Value) =.string p.1:=by unfold i7;rw[hv];rfl
  have e2:((i7 d'[i]!)[1]! :Value)=p.2:=by unfold i7;rw[hv];rfl
  have k3:=k1.1;have k4:=k2.1;rw[e1,show 0+i*2+0=i*2 by omega] at k3;rw[e2,show 0+i*2+1=i*2+1 by omega] at k4;exact⟨k3,k4⟩
 .have hlt:=ah a0;have hg:∃f:Array Value->Array Value,(∀c,(f c).size=c.size)/\(putRowK i7 2 (Sort.ahead w n) g 0 d').heap[g]?=some (.cells (f cur) 107 (0,0)):=by
   refine⟨fun c=>putCells id 0 (flatK i7 2 d') c,fun c=>by unfold putCells;simp,?_⟩;unfold putRowK putRow mapBlock Sort.ahead;simp only;have h':w.heap[g] =.cells cur 107 (0,0):=by simpa [Array.getElem?_eq_getElem hlt] using a0
   rw[Array.getElem?_eq_getElem (by simpa using hlt),Array.getElem_modify_self,h'];rfl
  obtain⟨f,hf,hg⟩:=hg;refine⟨f cur,?_,by rw[hf];exact a9⟩;unfold sortWorldK;rw[heap_grow_old _ os (by rw[hsz];exact hlt)];exact hg
 .have hg:∀k,k<base->(sortWorldK i7 2 w g 0 n d' os).heap[k]?=w.heap[k]?:=by
   intro k hk;unfold sortWorldK;rw[heap_grow_old _ os (by unfold putRowK putRow mapBlock Sort.ahead;simp;omega)];unfold putRowK putRow mapBlock Sort.ahead;simp only;rw[Array.getElem?_modify,if_neg (by omega)]
  refine⟨rfl,rfl,rfl,?_,hg⟩;unfold sortWorldK grow putRowK putRow mapBlock Sort.ahead;simp
theorem yd (w:Wd):Calls prog 161 #[.int .u64 0] w fun e w'=>e = (0:Int)/\w=w':=by
 go_in;go_wp2;go_ret;exact⟨by show Ending.returned (wrap64 (wrap64 (len8 0)):Int)=_;exact congrArg (fun x=>Ending.returned (x:Int)) (by decide +kernel),rfl⟩
theorem EV (w:Wd):Calls prog 118 #[.int .u64 0] w fun e w'=>e = (0:Int)/\w=w':=by
 have h1:=Qa (fun w=>yd w);go_in;go_wp2_with fail;refine(h1 _).mono ?_;rintro e w' ⟨rfl,rfl⟩;go_wp2;go_ret;exact⟨rfl,rfl⟩
theorem oW (A:OA)(c:Nat)(f:Value)(w:Wd):Calls prog 152 #[.slice A 0 c,(0:Int),(0:Int),f] w fun e w'=>e =.returned (.tuple #[])/\w=w':=by
 go_in;go_wp2_with fail
 go_loopg [8] 0 (fun _ s8 wr=>s8 =(1:Int)/\wr=w)
 case atStart=>exact⟨rfl,rfl⟩
 case round=>
  obtain⟨rfl,rfl⟩:=hrel;go_wp2;go_end0;exact⟨rfl,rfl⟩
theorem EW (A:OA)(c:Nat)(f:Value)(w:Wd):Calls prog 117 #[.slice A 0 c,(0:Int),(0:Int),(0:Int),f] w fun e w'=>e =.returned (.tuple #[])/\w=w':=by
 have h1:=Qa (fun w=>oW A c f w);go_in;go_wp2_with fail
 go_loopg [1,2] 0 (fun _ s1 s2 wr=>s1 =(0:Int)/\s2 =(0:Int)/\wr=w)
 case atStart=>exact⟨rfl,rfl,rfl⟩
 case round=>
  obtain⟨rfl,rfl,rfl⟩:=hrel;go_wp2_with fail;refine(h1 _).mono ?_;rintro e w' ⟨rfl,rfl⟩;go_wp2_with fail;(try simp only[Exit.inBlock,Exit.then]);refine Zh (results_none rfl ..) rfl ?_;exact⟨rfl,rfl⟩
theorem Bw (A:OA)(c:Nat)(f:Value)(w:Wd):Calls prog 87 #[.slice A 0 c,f] w fun e w'=>e =.returned (.tuple #[])/\w=w':=by
 have h1:=Qa (fun w=>EV w);have h2:=Qa (fun w=>EW A c f w);go_in;go_wp2_with fail;refine(h1 _).mono ?_;rintro e w' ⟨rfl,rfl⟩;go_wp2_with fail;refine(h2 _).mono ?_;rintro e w' ⟨rfl,rfl⟩;go_wp2;go_end0;exact⟨rfl,rfl⟩
def KU (w:Wd)(n:Nat)(L:List (Nc×Value))(e:Ending)(w':Wd):Prop:= ∃g A c S,e =.returned (.tuple #[.pointer (some (nl g)),.nilIface])/\ge w w'/\w.heap.size<=g/\w'.heap[g]?=some (.cells #[.slice A n c] 174 (0,0))/\cM (w.heap.size<= ·) w' 107 2 A n c (gU S)/\S.Perm L/\(S.map Prod.fst).Pairwise gH
theorem wZ (h:oA S)(hn:(S.map Prod.fst).Nodup):(S.map Prod.fst).Pairwise gH:=by
 rw[List.pairwise_map];rw[List.Nodup,List.pairwise_map] at hn;exact(h.and hn).imp fun ⟨h1,h2⟩=>kj h1 (fun e=>h2 e.symm)
def Rm (w:Wd)(A:OA)(L:List (Nc×Value)):Prop:= ∀ (i:Nat) (p:Nc×Value),L[i]?=some p->∃g,A=some (nl g)/\w.cell? ⟨g,i*2,none⟩=some (.string p.1)/\w.cell? ⟨g,i*2+1,none⟩=some p.2
theorem Rm.below (h:Rm w A L)(hb:ge w w'):Rm w' A L:=fun i p hp=>by
 obtain⟨g,h1,h2,h3⟩:=h i p hp;exact⟨g,h1,Zg hb h2,Zg hb h3⟩
theorem yC.rm (h:yC w base (.slice A n q) L):n=L.length/\Rm w A L:=by
 obtain⟨A',q',e,_,_,hA⟩:=ai h;obtain⟨rfl,rfl,rfl⟩:=Value.slice.inj e;refine⟨rfl,fun i p hp=>?_⟩;obtain⟨g,rfl⟩:=hA (by have:=(List.getElem?_eq_some_iff.1 hp).1;omega);exact⟨g,rfl,h.read i p hp⟩
theorem ip (hv:Bl 2 w v n (gU L))(hg:Ed L)(b0:(L.map Prod.fst).Nodup)(hl:n<=4294967296):Calls prog 50 #[v] w (KU w n L):=by
 have a7:L.length=n:=by
  have:=hv.1;rw[lF] at this;omega
 obtain⟨hm,d1,A,cap,rfl,hc,hA⟩:=id hv;have Hk:=Qa (qY hv (fun u h=>by
  obtain⟨p,hp,hu⟩:=List.mem_flatMap.1 h;simp at hu;rcases hu with rfl|rfl
  .rfl
  .exact(hg p hp).2.one) hl)
 have Hg:=Qa hg;have c8:=Qa b0;clear hv hA hg b0;go_in;go_wp2_with fail;refine Za Hk ?_;rintro e w1 ⟨A1,c1,rfl,b4,b2⟩;have ho:yC w1 w.heap.size (.slice A1 n c1) L:=by unfold yC;rw[a7];exact b2
 have Ho:=Qa ho;have c3:=Qa b4;have c0:=Qa ho.rm.2;have a2:=Qa a7;clear b2 ho b4 Hk hm a7;go_wp2_with fail
 go_loopg [6,12] n (fun k _ s12 wr=> ∃i:Nat,k+i=n/\s12 =(i:Int)/\ge w1 wr)
 case atStart=>exact⟨0,rfl,rfl,Ze _ _⟩
 case round=>
  obtain⟨i,hk,rfl,hb⟩:=hrel;have Hb:=Qa hb
  by_cases hlt:i<n
  .obtain⟨p,hp⟩:=y8 L i (by have:=a2.out;omega);obtain⟨g,rfl,q0,q1⟩:=(c0.below hb) i p hp;obtain⟨t,x,hx⟩:=(Hg p (Zl hp)).2;rw[hx] at q1;have a0:(i:Int)<n:=by omega
   have Hk:=Qa hk;have qe:∀w,(binOp .eql 35 (.iface t x) .nilIface).run prog w =.ok false w:=fun w=>sB w t x
   clear hp hb hx hk;go_wp2_with fail;go_roundg (n - (i+1))
   case measure=>have:=Hk.out;omega
   case rel=>exact⟨i+1,by omega,by go_num,bI Hb.out (aa _ _)⟩
  .obtain rfl:i=n:=by omega
   have a0:¬ (i:Int)<i:=by omega
   clear hk hb hlt;go_wp2_with fail;have a6:=bI c3.out Hb.out;have a1:=Qa (show yC wr w.heap.size (.slice A1 i c1) L from aq Ho.out Hb.out (Zb _));have d0:=Qa a6;have b6:Calls prog 87 #[.slice A1 i c1,.func (.func 88) #[] #[]] wr fun e w'=>e =.returned (.tuple #[])/\Below w.heap.size wr w'/\∃S,S.Perm L/\oA S/\Rm w' A1 S/\cM (w.heap.size<= ·) w' 107 2 A1 i c1 (gU S):=by
    rcases Nat.eq_zero_or_pos i with h0|h0
    .subst h0;obtain rfl:=List.eq_nil_of_length_eq_zero a2.out;refine(Bw A1 c1 _ wr).mono ?_;rintro e w' ⟨rfl,rfl⟩;exact⟨rfl,Ze _ _, [],List.Perm.refl _,List.Pairwise.nil,fun i p h=>by simp at h,cM.of_own a1.out⟩
    .obtain⟨A',q',e,hcc,c5,c6⟩:=ai a1.out;obtain⟨rfl,rfl,rfl⟩:=Value.slice.inj e;obtain⟨g,rfl⟩:=c6 (by have:=a2.out;omega);have b9:=vI a1.out Hg.out a6.size (by have:=a2.out;omega);refine b9.mono ?_;rintro e w' ⟨S,h1,h2,rfl,h3,⟨cur,h4,h5⟩,h6⟩;have c7:S.length=L.length:=h2.length_eq;refine⟨rfl,h6,S,h2,h1,fun i p hp=>⟨g,rfl,h3 i p hp⟩,by rw[lF,c7],hcc,by unfold maxLen at c5 ⊢;have:=(ce a1);obtain⟨_,⟨e,_⟩|⟨_,_,_,e,_,_,_,h,_⟩⟩:=id a1.out;(· cases e);obtain⟨-,-,rfl⟩:=Value.slice.inj e;exact h,fun _=>⟨g,rfl,(am a1 rfl).1,cur,h4,?_⟩⟩;apply List.ext_getElem?;intro j
     by_cases hj:j<L.length*2
     .rw[List.getElem?_take_of_lt hj,Array.getElem?_toList];obtain⟨p,hp⟩:=y8 S (j/2);obtain⟨c1,c2⟩:=h3 _ _ hp;obtain⟨m1,m2⟩:=sZ S _ p hp;unfold World.cell? at c1 c2;simp only[h4] at c1 c2;rcases Nat.mod_two_eq_zero_or_one j with hm|hm
      .rw[show j/2*2=j by omega] at c1 m1;rw[m1];simpa using c1
      .rw[show j/2*2+1=j by omega] at c2 m2;rw[m2];simpa using c2
     .rw[List.getElem?_eq_none (by simp;omega),List.getElem?_eq_none (by rw[lF];omega)]
   refine b6.mono ?_;rintro e w2 ⟨rfl,b5,S,hp,hs,b3,a3⟩;have c9:=Qa (d0.trans b5);have Hp:=Qa hp;have Hs:=Qa (wZ hs ((hp.map Prod.fst).nodup_iff.2 c8.out));have a9:=Qa b3;have a5:=Qa a3;have a4:=Qa (show S.length=i by rw[hp.length_eq];exact a2.out);clear hp hs b3 a3 b5 b6 a6;go_wp2_with fail
   go_loopg [7] (i - 1) (fun k s7 wr=> ∃j:Nat,k+j=i - 1/\s7 =((j+1:Nat):Int)/\ge w2 wr)
   case atStart=>exact⟨0,rfl,rfl,Ze _ _⟩
   case round=>
    obtain⟨j,hk,rfl,hb⟩:=hrel;have Hb3:=Qa hb;have Hk:=Qa hk
    by_cases hlt:j+1<i
    .obtain⟨p,hp⟩:=y8 S j (by have:=a4.out;omega);obtain⟨r,hr⟩:=y8 S (j+1) (by have:=a4.out;omega);obtain⟨g,rfl,q0,-⟩:=(a9.below hb) j p hp;obtain⟨g',e,r0,-⟩:=(a9.below hb) (j+1) r hr;obtain rfl:g=g':=by injection e with e;injection e
     have hne:p.1≠r.1:=by
      refine pl ((List.pairwise_iff_getElem.1 Hs) j (j+1) (by simp;have:=a4.out;omega) (by simp;have:=a4.out;omega) (by omega) |> fun h=>?_);simpa [(List.getElem?_eq_some_iff.1 hp).2,(List.getElem?_eq_some_iff.1 hr).2] using h
     have b8:(r.1.toList==p.1.toList)=false:=by rw[eF];simp;exact fun e=>hne e.symm
     have s1:IntKind.i64.wrap (j:Int)= (j:Int):=IntWalk.i64_in _ (by omega);have s2:=y9 ((j:Int)+1+1);have a0:(j:Int)+1<i:=by omega
     have b1:(j:Int)<i:=by omega
     have d2:((j:Int)+1).toNat=j+1:=by omega
     have c4:(0:Int)<=(j:Int)+1:=by omega
     clear hp hr hb hk hlt hne;go_wp2_with fail;go_quiet (fail);go_wp2_with fail;go_roundg (i - 1 - (j+1))
     case measure=>have:=Hk.out;omega
     case rel=>exact⟨j+1,by omega,by go_num,av Hb3.out _⟩
    .have a0:¬ (j:Int)+1<i:=by omega
     clear hb hk hlt;go_wp2_with fail;go_ret2;have b7:=bI c9.out Hb3.out;exact⟨_,A1,c1,S,rfl,bI b7 (aa _ _),b7.size,Zf _ _,a5.stay fun g o hp hg _ _=>⟨hp,(Below.heap_alloc _ _ _ (ah (al hg Hb3))).trans (al hg Hb3)⟩,Hp.out,Hs.out⟩
def sC:Go.Shelf.Ren:=⟨fun|171=>105|243=>138|246=>179|283=>207|284=>208|285=>209|286=>210|129=>161|317=>231|318=>232|319=>233|320=>234|337=>244|338=>245|n=>n,fun|3=>3|9=>9|2=>2|4=>4|171=>335|0=>0|53=>275|37=>30|5=>5|173=>337|212=>365|51=>273|20=>20|213=>366|46=>196|232=>390|233=>391|n=>n,fun|17=>11|18=>16|19=>17|n=>n⟩
theorem xw:Go.Proofs.LaysM.n171 prog sC:={
 mixed:=by kernel_rfl
 f129:=func161.trans (congrArg some (by kernel_rfl))
 f171:=func105.trans (congrArg some (by kernel_rfl))
 f243:=func138.trans (congrArg some (by kernel_rfl))
 f246:=func179.trans (congrArg some (by kernel_rfl))
 f283:=func207.trans (congrArg some (by kernel_rfl))
 f284:=func208.trans (congrArg some (by kernel_rfl))
 f285:=func209.trans (congrArg some (by kernel_rfl))
 f286:=func210.trans (congrArg some (by kernel_rfl))
 f317:=func231.trans (congrArg some (by kernel_rfl))
 f318:=func232.trans (congrArg some (by kernel_rfl))
 f319:=func233.trans (congrArg some (by kernel_rfl))
 f320:=func234.trans (congrArg some (by kernel_rfl))
 f337:=func244.trans (congrArg some (by kernel_rfl))
 f338:=func245.trans (congrArg some (by kernel_rfl))
 t0:=underlying0
 a0:=isAgg0
 z0:=sizeOf0
 v0:=zeroValue0
 t2:=underlying2
 a2:=isAgg2
 z2:=sizeOf2
 v2:=zeroValue2
 t3:=underlying3
 a3:=isAgg3
 z3:=sizeOf3
 v3:=zeroValue3
 t4:=underlying4
 a4:=isAgg4
 z4:=sizeOf4
 v4:=zeroValue4
 t5:=underlying5
 a5:=isAgg5
 z5:=sizeOf5
 v5:=zeroValue5
 t9:=underlying9
 a9:=isAgg9
 z9:=sizeOf9
 v9:=zeroValue9
 t20:=underlying20
 a20:=isAgg20
 z20:=sizeOf20
 v20:=zeroValue20
 t37:=underlying30
 a37:=isAgg30
 z37:=sizeOf30
 v37:=zeroValue30
 t46:=underlying196
 a46:=isAgg196
 z46:=sizeOf196
 v46:=zeroValue196
 t51:=underlying273
 a51:=isAgg273
 z51:=sizeOf273
 v51:=zeroValue273
 t53:=underlying275
 a53:=isAgg275
 z53:=sizeOf275
 v53:=zeroValue275
 t171:=underlying335
 a171:=isAgg335
 z171:=sizeOf335
 v171:=zeroValue335
 t173:=underlying337
 a173:=isAgg337
 z173:=sizeOf337
 v173:=zeroValue337
 t212:=underlying365
 a212:=isAgg365
 z212:=sizeOf365
 v212:=zeroValue365
 t213:=underlying366
 a213:=isAgg366
 z213:=sizeOf366
 t232:=underlying390
 a232:=isAgg390
 z232:=sizeOf390
 v232:=zeroValue390
 t233:=underlying391
 a233:=isAgg391
 z233:=sizeOf391
 v233:=zeroValue391
 g17:=by kernel_rfl
 g18:=by kernel_rfl
 g19:=by kernel_rfl
 i0:=by kernel_rfl
 i2:=by kernel_rfl
 i3:=by kernel_rfl
 i4:=by kernel_rfl
 i5:=by kernel_rfl
 i9:=by kernel_rfl
 i20:=by kernel_rfl
 i37:=by kernel_rfl
 i46:=by kernel_rfl
 i51:=by kernel_rfl
 i53:=by kernel_rfl
 i171:=by kernel_rfl
 i173:=by kernel_rfl
 i212:=by kernel_rfl
 i232:=by kernel_rfl
 i233:=by kernel_rfl
 m17:=by kernel_rfl
 m18:=by kernel_rfl
 m19:=by kernel_rfl
}
def dh (w:Wd):Prop:=Lib.TabIs prog w "internal/strconv.uint64pow10" .u64 Lib.pow10Tab
theorem dh.below (h:dh w)(hb:ge w w'):dh w':=by
 have hg:prog.globalNamed "internal/strconv.uint64pow10" = some 11:=by kernel_rfl
 unfold dh Lib.TabIs World.var? at h ⊢;rw[hg] at h ⊢;simp only[Option.bind_some] at h ⊢;rcases ho:w.heap[(11:Nat)]? with _|o
 .rw[ho] at h;cases h
 .rw[hb.block _ (ah ho)];exact h
theorem Ej (n:Nat)(h1:n<9223372036854775808)(hT:dh w):Calls prog 105 #[(n:Int)] w (y4 (.string ⟨(Lib.itoa n).toArray⟩) w):=by
 refine(Any.strconv_Itoa xw n (by omega) (by omega) w hT).mono ?_;rintro e w' ⟨rfl,k,os,rfl⟩;exact⟨rfl,Lib.below_grow _ w (Zb _) k os⟩
theorem uL {xs:Nb}(hg:w.heap[g]?=some (.cells #[.slice A n c] 174 (0,0)))(hr:cM P w 107 2 A n c xs)(i:Nat)(hi:i<n){s:Nc}(hs:xs[i*2]?=some (.string s))(hu:xs[i*2+1]?=some u) :
  Calls prog 79 #[.pointer (some (nl g)),(i:Int)] w (y4 (.tuple #[s,u]) w):=by
 have c0:w.cell? (nl g)=some (.slice A n c):=ac hg (j:=0) rfl;obtain⟨b,rfl,-⟩:=hr.ptr (by omega);have c1:=hr.cell (i*2) (by omega);have c2:=hr.cell (i*2+1) (by omega);rw[hs] at c1;rw[hu] at c2;have hm:=hr.2.2.1;unfold maxLen at hm;have Hl:=Qa (oU hg);clear hg hr hu hs;have h0:¬ (i:Int)<0:=by omega
 have h1:(i:Int)<n:=by omega
 go_in;go_wp2_with fail;refine Za Hl ?_;rintro e w' ⟨rfl,rfl⟩;go_wp2_with fail;go_quiet (fail);go_wp2_with fail;go_ret2;exact⟨rfl,av (Ze _ _) nq⟩
theorem uy (hT:dh w)(hg:w.heap[g]?=some (.cells #[.slice A n c] 169 (0,0)))(hr:cM P w 35 1 A n c us)(i:Nat)(hi:i<n)(hu:us[i]?=some u) :
  Calls prog 77 #[.pointer (some (nl g)),(i:Int)] w (y4 (.tuple #[.string ⟨(Lib.itoa i).toArray⟩,u]) w):=by
 have a0:=Qa (pQ hg hr i hi hu);have a1:n<=c:=hr.2.1;have hm:=hr.2.2.1;unfold maxLen at hm;clear hg hr hu;go_in;go_wp2_with fail;refine Za a0 ?_;rintro e w' ⟨rfl,rfl⟩;have Hi:=Qa (Ej (w:=w) i (by have:=a1;omega) hT);go_wp2_with fail;refine Za Hi ?_;rintro e w' ⟨rfl,hb⟩;go_wp2_with fail;go_ret2;exact⟨rfl,hb⟩
theorem gw:Calls prog 60 #[.agg #[]] w (y4 (1:Int) w):=by
 go_in;go_wp2;go_ret;exact⟨rfl,aa w _⟩
theorem fZ:Calls prog 62 #[x] w (y4 (2:Int) w):=by
 go_in;go_wp2;go_ret;exact⟨rfl,Ze _ _⟩
theorem iF:Calls prog 65 #[.agg cs] w (y4 (3:Int) w):=by
 go_in;go_wp2;go_ret;exact⟨rfl,aa w _⟩
theorem gj:Calls prog 67 #[x] w (y4 (4:Int) w):=by
 go_in;go_wp2;go_ret;exact⟨rfl,Ze _ _⟩
theorem ga:Calls prog 69 #[.agg #[]] w (y4 (7:Int) w):=by
 go_in;go_wp2;go_ret;exact⟨rfl,aa w _⟩
theorem ey:Calls prog 99 #[x] w (y4 (5:Int) w):=by
 go_in;go_wp2;go_ret;exact⟨rfl,Ze _ _⟩
theorem gO:Calls prog 101 #[x] w (y4 (6:Int) w):=by
 go_in;go_wp2;go_ret;exact⟨rfl,Ze _ _⟩
def sg (a b:Int):Int:=if a<b then -1 else if b<a then 1 else 0
theorem eX {a:Int}:Calls prog 92 #[(a:Int)] w fun e w'=>e =.returned false/\w=w':=by
 go_in;go_wp2;go_ret;simp
theorem br {a b:Int}:Calls prog 52 #[(a:Int),(b:Int)] w fun e w'=>e = (sg a b:Int)/\w=w':=by
 unfold sg;rcases Int.lt_trichotomy a b with h|h|h
 .rw[if_pos h];go_in;go_wp2_with fail;refine eX.mono ?_;rintro e w' ⟨rfl,rfl⟩;go_wp2_with fail;refine eX.mono ?_;rintro e w' ⟨rfl,rfl⟩;go_wp2;go_ret;exact⟨rfl,rfl⟩
 .subst h;rw[if_neg (Int.lt_irrefl _),if_neg (Int.lt_irrefl _)];go_in;go_wp2_with fail;refine eX.mono ?_;rintro e w' ⟨rfl,rfl⟩;go_wp2_with fail;refine eX.mono ?_;rintro e w' ⟨rfl,rfl⟩;go_wp2;go_ret;exact⟨rfl,rfl⟩
 .have h':¬a<b:=by omega
  rw[if_neg h',if_pos h];go_in;go_wp2_with fail;refine eX.mono ?_;rintro e w' ⟨rfl,rfl⟩;go_wp2_with fail;refine eX.mono ?_;rintro e w' ⟨rfl,rfl⟩;go_wp2;go_ret;exact⟨rfl,rfl⟩
theorem tG (x:Na):(⟨x.toArray⟩:Nc).toList=x:=by rw[ByteArray.toList_eq]
theorem Jg (a:Nc)(x:Na):(a.toList==x)=decide (a= ⟨x.toArray⟩):=by
 rw[Bool.eq_iff_iff];simp only[beq_iff_eq,decide_eq_true_eq]
 constructor
 .intro h;subst h;rw[ByteArray.toList_eq]
 .intro h;subst h;exact tG x
theorem nh:Calls prog 165 #[.agg #[.bool d.neg,d.digits,(d.exp:Int)]] w fun e w'=>e =.returned (.bool (decide (d.digits= ⟨#[48]⟩)))/\ge w w':=by
 go_in;go_wp2;go_ret;refine⟨?_,aa w _⟩
 show Ending.returned (.bool (d.digits.toList == [48]))=_
 rw[Jg]
theorem nS:Calls prog 122 #[.agg #[.bool d.neg,d.digits,(d.exp:Int)]] w (y4 (gS d:Int) w):=by
 have a0:=Qa (aa w (.cells #[.bool d.neg,d.digits,(d.exp:Int)] 120));have h0:=Zf w (.cells #[.bool d.neg,d.digits,(d.exp:Int)] 120)
 by_cases hz:d.digits= ⟨#[48]⟩
 .have hs:=Qa (show gS d=0 by unfold gS;rw[if_pos hz]);have hd:decide (d.digits= ⟨#[48]⟩)=true:=by simpa using hz
  have Hz:=Qa hd;clear hz hd;go_in;go_wp2_with fail;refine nh.mono ?_;rintro e w1 ⟨rfl,a1⟩;rw[Hz.out];have B1:=Qa (a0.trans (a1.mono a0.size));go_wp2;go_ret;rw[hs.out];exact⟨rfl,B1⟩
 .have hd:decide (d.digits= ⟨#[48]⟩)=false:=by simpa using hz
  have Hz:=Qa hd;have hs:=Qa (show gS d=if d.neg then -1 else 1 by unfold gS;rw[if_neg hz]);clear hz hd;go_in;go_wp2_with fail;refine nh.mono ?_;rintro e w1 ⟨rfl,a1⟩;rw[Hz.out];have B1:=Qa (a0.trans (a1.mono a0.size));have c0:w1.cell? (nl w.heap.size)=some (.bool d.neg):=ac ((a1.block _ (ah h0)).trans h0) (j:=0) rfl;rcases hn:d.neg with _|_
  all_goals
   rw[hn] at c0;have Hn:=Qa hn;clear hn;go_wp2;go_ret;rw[hs.out,Hn.out];exact⟨rfl,B1⟩
theorem pG {a:Nc}:Calls prog 197 #[a] w fun e w'=>e =.returned false/\w=w':=by
 go_in;go_wp2;go_ret;exact⟨rfl,rfl⟩
def mg (x y:Na):Int:=if Op.bytesLess x y then -1 else if x=y then 0 else 1
theorem ut {s:Int}(hs:s=1\/s = -1):∀ (x y:Na),aA (lY s x) (lY s y)=s*mg x y
 | [], []=>by
  have:mg [] []=0:=rfl;rw[this,Int.mul_zero];exact eU _
 | [],b::y=>by
  have e:mg [] (b::y) = -1:=by simp[mg,Op.bytesLess]
  rw[e];unfold lY;rw[bi];rcases hs with rfl|rfl
  .rw[if_pos (by omega)];rfl
  .rw[if_neg (by omega),if_pos (by omega)];rfl
 |a::x, []=>by
  have e:mg (a::x) []=1:=by simp[mg,Op.bytesLess]
  rw[e];unfold lY;rw[bi];rcases hs with rfl|rfl
  .rw[if_neg (by omega),if_pos (by omega)];rfl
  .rw[if_pos (by omega)];rfl
 |a::x,b::y=>by
  have ih:=ut hs x y;unfold lY;rw[bi];rcases Nat.lt_trichotomy a.toNat b.toNat with h|h|h
  .have e:mg (a::x) (b::y) = -1:=by unfold mg;rw[if_pos (kh h).1]
   rw[e];rcases hs with rfl|rfl
   .rw[if_pos (by omega)];rfl
   .rw[if_neg (by omega),if_pos (by omega)];rfl
  .obtain rfl:=UInt8.toNat_inj.1 h;rw[if_neg (by omega),if_neg (by omega),ih]
   congr 1
   simp[mg,Op.bytesLess]
  .have e:mg (a::x) (b::y)=1:=by
    unfold mg;rw[if_neg (by simp[(kh h).2]),if_neg (by intro e;injection e with e _;subst e;omega)]
   rw[e];rcases hs with rfl|rfl
   .rw[if_neg (by omega),if_pos (by omega)];rfl
   .rw[if_pos (by omega)];rfl
theorem yl {a b:Nc}:Calls prog 166 #[a,b] w fun e w'=>e = (mg a.toList b.toList:Int)/\w=w':=by
 have Hs:=Qa (show mg a.toList b.toList=if Op.bytesLess a.toList b.toList then -1 else if a.toList=b.toList then 0 else 1 from rfl);go_in;go_wp2_with fail;refine pG.mono ?_;rintro e w' ⟨rfl,rfl⟩;go_wp2_with fail;refine pG.mono ?_;rintro e w' ⟨rfl,rfl⟩;go_wp2_with fail
 .rename_i h1
  go_ret;refine⟨?_,rfl⟩;rw[Hs.out,if_pos h1];rfl
 .rename_i h1 _ _ h2
  go_ret;refine⟨?_,rfl⟩;rw[Hs.out,if_neg (by simp[h1]),if_neg (by simpa using h2)];rfl
 .rename_i h1 h2
  go_ret;refine⟨?_,rfl⟩;rw[Hs.out,if_neg (by simp[h1]),if_pos (by simpa using h2)];rfl
def uG (d:Dc):Prop:=d.digits.size<=1000000000000/\ -1000000000000<=d.exp/\d.exp<=1000000000000
theorem DW {a b s:Int}(hs:s=1\/s = -1)(x y:List Int):aA (s*a::x) (s*b::y)=if sg a b=0 then aA x y else s*sg a b:=by
 rw[bi];unfold sg;rcases hs with rfl|rfl <;> (repeat' split) <;> first|rfl|omega
def lL (a b:Dc):Int:=if sg (a.digits.size+a.exp) (b.digits.size+b.exp)=0 then mg a.digits.toList b.digits.toList else sg (a.digits.size+a.exp) (b.digits.size+b.exp)
theorem vK (a b:Dc):aA (eT a) (eT b)=if gS a=gS b/\gS a≠0 then gS a*lL a b else sg (gS a) (gS b):=by
 unfold eT;rcases fW a with h|h|h <;> rcases fW b with k|k|k <;> simp only[h,k,if_true] <;> try (simp[bi,aA,sg];done)
 .rw[if_neg (by decide),if_neg (by decide),if_pos (by decide),bi,if_neg (by omega),if_neg (by omega),DW (.inr rfl),ut (.inr rfl),<-ByteArray.toList_eq,<-ByteArray.toList_eq];unfold lL;split <;> simp[*]
 .rw[if_neg (by decide),if_neg (by decide),if_pos (by decide),bi,if_neg (by omega),if_neg (by omega),DW (.inl rfl),ut (.inl rfl),<-ByteArray.toList_eq,<-ByteArray.toList_eq];unfold lL;split <;> simp[*]
theorem oC {x:Int}(h:n<=1000000000000)(h1: -1000000000000<=x)(h2:x<=1000000000000):IntKind.i64.wrap ((n:Int)+x)= (n:Int)+x:=by
 rw[IntKind.wrap_i64];omega
theorem yA {a b:Dc}(ha:uG a)(hb:uG b):Calls prog 123 #[.agg #[.bool a.neg,a.digits,(a.exp:Int)],.agg #[.bool b.neg,b.digits,(b.exp:Int)]] w (y4 (lL a b:Int) w):=by
 obtain⟨a1,a2,a3⟩:=ha;obtain⟨b1,b2,b3⟩:=hb;have w1:=oC a1 a2 a3;have w2:=oC b1 b2 b3;obtain⟨v,hv⟩:=y7 (sg (a.digits.size+a.exp) (b.digits.size+b.exp));have Ha:=Qa (show lL a b=if v=0 then mg a.digits.toList b.digits.toList else v by rw[<-hv];rfl);have Hv:=Qa hv;have Hw:=Qa (show ge w ((w.alloc (.cells #[.bool a.neg,a.digits,(a.exp:Int)] 120)).alloc (.cells #[.bool b.neg,b.digits,(b.exp:Int)] 120)) from((Ze _ _).alloc (Zb _) _).alloc (by simp) _);clear hv a1 a2 a3 b1 b2 b3
 by_cases h0:v=0
 .subst h0;have a0:=Qa (show lL a b=mg a.digits.toList b.digits.toList from Ha.out);clear Ha;go_in;go_wp2_with fail;refine br.mono ?_;rintro e w' ⟨rfl,rfl⟩;rw[Hv.out];go_wp2_with fail;refine yl.mono ?_;rintro e w' ⟨rfl,rfl⟩;go_wp2;go_ret;rw[a0.out];exact⟨rfl,Hw⟩
 .have a0:=Qa (show lL a b=v from Ha.trans (if_neg h0));clear Ha;go_in;go_wp2_with fail;refine br.mono ?_;rintro e w' ⟨rfl,rfl⟩;rw[Hv.out];go_wp2;go_ret;rw[a0.out];exact⟨rfl,Hw⟩
abbrev MJ (d:Dc):Obj:=.cells #[.bool d.neg,d.digits,(d.exp:Int)] 120 (0,0)
def xM (w:Wd)(g1 g2:Nat)(a b:Dc)(w':Wd):Prop:=w'.heap[g1]?=some (MJ a)/\w'.heap[g2]?=some (MJ b)/\ge w w'
theorem xM.below {a b:Dc}(h:xM w g1 g2 a b w1)(hb:ge w1 w2):xM w g1 g2 a b w2:=⟨al h.1 hb,al h.2.1 hb,h.2.2.trans (hb.mono h.2.2.size)⟩
theorem xM.c1 {a b:Dc}(h:xM w g1 g2 a b w'):w'.cell? (nl g1)=some (.bool a.neg)/\w'.cell? (no g1 1)=some (.string a.digits)/\w'.cell? (no g1 2)=some (.int .i64 a.exp):=⟨ac h.1 (j:=0) rfl,ac h.1 (j:=1) rfl,ac h.1 (j:=2) rfl⟩
theorem xM.c2 {a b:Dc}(h:xM w g1 g2 a b w'):w'.cell? (nl g2)=some (.bool b.neg)/\w'.cell? (no g2 1)=some (.string b.digits)/\w'.cell? (no g2 2)=some (.int .i64 b.exp):=⟨ac h.2.1 (j:=0) rfl,ac h.2.1 (j:=1) rfl,ac h.2.1 (j:=2) rfl⟩
theorem zi (w:Wd)(a b:Dc):xM w w.heap.size (w.heap.size+1) a b ((w.alloc (.cells #[.bool a.neg,a.digits,(a.exp:Int)] 120)).alloc (.cells #[.bool b.neg,b.digits,(b.exp:Int)] 120)):=by
 refine⟨al (Zf w _) (aa _ _),?_,((Ze _ _).alloc (Zb _) _).alloc (by simp) _⟩;have:=Zf (w.alloc (.cells #[.bool a.neg,a.digits,(a.exp:Int)] 120)) (.cells #[.bool b.neg,b.digits,(b.exp:Int)] 120);have e:(w.alloc (.cells #[.bool a.neg,a.digits,(a.exp:Int)] 120)).heap.size=w.heap.size+1:=by show(w.heap.push _).size=_;rw[Array.size_push]
 rwa[e] at this
theorem zY {a b:Dc}(ha:uG a)(hb:uG b):Calls prog 93 #[.agg #[.bool a.neg,a.digits,(a.exp:Int)],.agg #[.bool b.neg,b.digits,(b.exp:Int)]] w (y4 (aA (eT a) (eT b):Int) w):=by
 have Hc:=Qa (vK a b);have Ha:=Qa ha;have Hb:=Qa hb;have HT:=Qa (zi w a b);clear ha hb;go_in;go_wp2_with fail;obtain⟨w0,a7⟩:∃w0:Wd,w0= ((w.alloc (.cells #[.bool a.neg,a.digits,(a.exp:Int)] 120)).alloc (.cells #[.bool b.neg,b.digits,(b.exp:Int)] 120)):=⟨_,rfl⟩;rw[<-a7] at HT ⊢;clear a7;have hs:=HT.c1;have ht:=HT.c2;have b1:=HT.2.2;clear HT;generalize w.heap.size+1=g2 at *;obtain⟨g1,a4⟩:∃g1,g1=w.heap.size:=⟨_,rfl⟩;rw[<-a4] at hs ⊢;have a6:=Qa b1;have b2:=Qa a4;clear b1 a4;refine aI (fun w'=>(w'.cell? (nl g1)=some (.bool a.neg)/\w'.cell? (no g1 1)=some (.string a.digits)/\w'.cell? (no g1 2)=some (.int .i64 a.exp))/\(w'.cell? (nl g2)=some (.bool b.neg)/\w'.cell? (no g2 1)=some (.string b.digits)/\w'.cell? (no g2 2)=some (.int .i64 b.exp))) (⟨hs,ht⟩) fun a0=>?_
 refine tH 0 a0 ?_;refine tH 2 a0 ?_;refine rH 1 fun K hK=>?_
 go_simp;refine nS.mono ?_;rintro e w1 ⟨rfl,a1⟩;refine hK _ _ (⟨⟨Zg a1 a0.1.1,Zg a1 a0.1.2.1,Zg a1 a0.1.2.2⟩,⟨Zg a1 a0.2.1,Zg a1 a0.2.2.1,Zg a1 a0.2.2.2⟩⟩) (fun a0=>?_);clear hK K
 try simp only[Act.put,jP,jQ,jR]
 refine rH 3 fun K hK=>?_
 go_simp;refine nS.mono ?_;rintro e w2 ⟨rfl,a2⟩;refine hK _ _ (⟨⟨Zg a2 a0.1.1,Zg a2 a0.1.2.1,Zg a2 a0.1.2.2⟩,⟨Zg a2 a0.2.1,Zg a2 a0.2.2.1,Zg a2 a0.2.2.2⟩⟩) (fun a0=>?_);clear hK K
 try simp only[Act.put,jP,jQ,jR]
 refine tH 4 a0 ?_;refine tH 5 a0 ?_;refine y5 ?_;obtain⟨⟨s0,s1,s2⟩,t0,t1,t2⟩:=a0;have b0:ge w w2:=by
  have h1:ge w w1:=a6.drew.trans (a1.mono (show w.heap.size<=w0.drew.heap.size from a6.size));exact h1.trans (a2.mono h1.size)
 clear hs ht a1 a2 a6 b2;have Hw:=Qa b0;have a3:=fW a;have a5:=fW b;have a9:=Qa (yA (w:=w2) Ha.out Hb.out);have Hd:Hid (lL a b=0\/lL a b=1\/lL a b = -1):=Qa (by unfold lL sg mg;(repeat' split) <;> simp);generalize hz:lL a b=z at *;generalize hsa:gS a=sa at *;generalize hsb:gS b=sb at *;clear hz hsa hsb b0 Ha Hb
 by_cases hq:sa=sb/\sa≠0
 .obtain⟨rfl,h0⟩:=hq;have Hv:=Qa (show aA (eT a) (eT b)=sa*z from Hc.trans (if_pos ⟨rfl,h0⟩));have hin: -1<=sa*z/\sa*z<=1:=by
   rcases a3 with h|h|h <;> rcases Hd.out with k|k|k <;> rw[h,k] <;> omega
  have hw:=y9 (sa*z);have b7:=Qa hin;clear hin Hc Hd a3 a5;have b5:(sa==0)=false:=by simpa using h0
  clear h0;go_wp2_with fail;refine Za a9 ?_;rintro e w3 ⟨rfl,b4⟩;have b3:=Qa (Hw.trans (b4.mono Hw.size));go_wp2;go_ret;rw[Hv.out];exact⟨rfl,b3⟩
 .have Hv:=Qa (show aA (eT a) (eT b)=sg sa sb from Hc.trans (if_neg hq));clear Hc Hd a9
  by_cases he:sa=sb
  .subst he;obtain rfl:sa=0:=by
    rcases a3 with h|h|h
    .exact h
    all_goals exact absurd ⟨rfl,by rw[h];decide⟩ hq
   clear hq a3 a5;go_wp2_with fail;refine br.mono ?_;rintro e w3 ⟨rfl,rfl⟩;go_wp2;go_ret;rw[Hv.out];exact⟨rfl,Hw⟩
  .have b6:(sa==sb)=false:=by simpa using he
   clear hq a3 a5 he;go_wp2_with fail;refine br.mono ?_;rintro e w3 ⟨rfl,rfl⟩;go_wp2;go_ret;rw[Hv.out];exact⟨rfl,Hw⟩
theorem xd {a b:Dc}(ha:uG a)(hb:uG b):Calls prog 54 #[.agg #[.bool a.neg,a.digits,(a.exp:Int)],.agg #[.bool b.neg,b.digits,(b.exp:Int)]] w (y4 (aA (eT a) (eT b):Int) w):=by
 have Hw:=Qa (show ge w ((w.alloc (.cells #[.bool a.neg,a.digits,(a.exp:Int)] 123)).alloc (.cells #[.bool b.neg,b.digits,(b.exp:Int)] 123)) from((Ze _ _).alloc (Zb _) _).alloc (by simp) _);go_in;go_wp2_with fail;refine(zY ha hb).mono ?_;rintro e w' ⟨rfl,a1⟩;have a0:=Qa (Hw.trans (a1.mono Hw.size));go_wp2;go_ret;exact⟨rfl,a0⟩
def yM (xs:Na):Int:=if(bK xs).2.2=0 then((bK xs).1:Int) else dP (xs.headD 0)
def qR (xs:Na):Nat:=if(bK xs).2.2=0 then(bK xs).2.1 else 1
theorem j9 (h:xs≠ []):bj dP xs=yM xs::bj dP (xs.drop (qR xs)):=by
 unfold yM qR
 by_cases h0:(bK xs).2.2=0
 .rw[if_pos h0,if_pos h0,dK h h0]
 .rw[if_neg h0,if_neg h0]
  cases xs with
  |nil=>exact absurd rfl h
  |cons x t=>rw[fg h0];rfl
theorem LG (h:(bK xs).2.2=0):(bK xs).1<2097152:=by
 have:=(jp h).2;unfold dY at this;simp at this;omega
theorem AT (h:xs≠ []):1<=qR xs/\qR xs<=xs.length:=by
 unfold qR
 by_cases h0:(bK xs).2.2=0
 .rw[if_pos h0];exact⟨fp h0,mz xs⟩
 .rw[if_neg h0]
  cases xs with
  |nil=>exact absurd rfl h
  |cons x t=>simp
theorem kM (hb:Bs w v xs)(h0:xs≠ [])(hG:cG w aU aE):Calls prog 94 #[v] w (y4 (.tuple #[(yM xs:Int),(qR xs:Int)]) w):=by
 obtain⟨x,t,rfl⟩:∃x t,xs=x::t:=by cases xs with|nil=>exact absurd rfl h0|cons x t=>exact⟨x,t,rfl⟩
 obtain⟨hm,A,c,rfl,hc,a0⟩:=id hb;obtain⟨b,o,rfl,a1⟩:=a0 (by simp);have c0:=a1 0 (by simp);rw[show ar (x::t) 0=x.toNat from rfl,Nat.add_zero] at c0;have Hd:=Qa (iY hb hG);have a5:=(pf (x::t)).2;have hC:=Qa (show yM (x::t)=if(bK (x::t)).2.2=0 then((bK (x::t)).1:Int) else dP x from rfl);have hN:=Qa (show qR (x::t)=if(bK (x::t)).2.2=0 then(bK (x::t)).2.1 else 1 from rfl);have hx:=x.toNat_lt;have a6:=(pf (x::t)).1;have hn:(x::t).length= (x::t).length:=rfl;generalize hr:bK (x::t)=r at *;obtain⟨r1,r2,r3⟩:=r
 dsimp only at *
 generalize yM (x::t)=lc at *;generalize qR (x::t)=ln at *;have a2:=Qa hr;clear hr hb hG a0 a1 h0 hm;generalize hl:(x::t).length=n at *;have a4:0<n:=by rw[<-hl];simp
 have Hl:=Qa hl;clear hl hn;have w1:=y9 (1114112+ (x.toNat:Int));rcases(by omega:r3=0\/r3=1\/r3=2) with rfl|rfl|rfl
 .have hD:=Qa (show tF (cQ aU) (cQ aE) (r1,r2,0) =.tuple #[.int .i32 r1,(r2:Int),.nilIface] from rfl);have HC:=Qa (show lc= (r1:Int) from hC.out);have HN:=Qa (show ln=r2 from hN.out);have a3:wrap64 (r1:Int)= (r1:Int):=by
   have h:=LG (xs:=x::t) (by rw[a2.out]);rw[a2.out] at h
   dsimp only at h
   exact IntWalk.wrap64_in _ ⟨by omega,by omega⟩
  clear hC hN;go_in;go_wp2_with fail;refine Za Hd ?_;rintro e w' ⟨rfl,m,rfl⟩;rw[hD.out];go_wp2_with fail;go_ret2;rw[HC.out,HN.out];refine⟨?_,av (Ze _ _) m⟩
  show Ending.returned (.tuple #[(wrap64 (r1:Int):Int),(r2:Int)])=_
  rw[a3]
 .have hD:=Qa (show tF (cQ aU) (cQ aE) (r1,r2,1) =.tuple #[.int .i32 r1,(r2:Int),cQ aE] from rfl);have HC:=Qa (show lc=dP x from hC.out);have HN:=Qa (show ln=1 from hN.out);clear hC hN;go_in;go_wp2_with fail;refine Za Hd ?_;rintro e w' ⟨rfl,m,rfl⟩;rw[hD.out];go_wp2_with fail;go_ret2;rw[HC.out,HN.out];exact⟨rfl,av (Ze _ _) m⟩
 .have hD:=Qa (show tF (cQ aU) (cQ aE) (r1,r2,2) =.tuple #[.int .i32 r1,(r2:Int),cQ aU] from rfl);have HC:=Qa (show lc=dP x from hC.out);have HN:=Qa (show ln=1 from hN.out);clear hC hN;go_in;go_wp2_with fail;refine Za Hd ?_;rintro e w' ⟨rfl,m,rfl⟩;rw[hD.out];go_wp2_with fail;go_ret2;rw[HC.out,HN.out];exact⟨rfl,av (Ze _ _) m⟩
theorem AS {k:Nat}(h:Bs W (.slice A n c) xs)(hk:k<=xs.length)(e:c=k):Bs W (.slice A (xs.length - k) 0) (xs.drop k):=by
 obtain⟨hm,A',c',e',hc,-⟩:=h;injection e' with e1 e2 e3
 subst e1 e3;have h0:(xs.drop k).length=0:=by rw[List.length_drop];omega
 exact⟨by omega,A,0,by rw[List.length_drop],by omega,fun h=>by omega⟩
def JR (W:Wd)(k:Int)(s5 s6:Value)(wr:Wd):Prop:= ∃ (ys zs:Na) (A B:OA) (c d:Nat),s5 =.slice A ys.length c/\s6 =.slice B zs.length d/\Bs W (.slice A ys.length c) ys/\Bs W (.slice B zs.length d) zs/\k=aA (bj dP ys) (bj dP zs)/\ge W wr
theorem ye (h:ys = []\/zs = []):aA (bj dP ys) (bj dP zs)=sg ys.length zs.length:=by
 cases ys with
 |nil=>
  cases zs with
  |nil=>rfl
  |cons z t=>rw[j9 (xs:=z::t) (by simp),j7];simp[aA,sg]
 |cons y s=>
  obtain rfl:zs = []:=by simpa using h
  rw[j9 (xs:=y::s) (by simp),j7];simp only[aA,sg,List.length_cons,List.length_nil];rw[if_neg (by omega),if_pos (by omega)]
theorem jY {a b:Nc}(ha:a.size<=9223372036854775807)(hb:b.size<=9223372036854775807)(hG:cG w aU aE):Calls prog 55 #[a,b] w (y4 (aA (nm a) (nm b):Int) w):=by
 obtain⟨W1,cap1,a4,b3,a2⟩:=jd w a ha;obtain⟨W2,cap2,a5,b5,a1⟩:=jd W1 b hb;have c2:a.data.toList.length=a.size:=by simp
 have c3:b.data.toList.length=b.size:=by simp
 rw[<-c2] at a4 a2;rw[<-c3] at a5 a1;unfold nm;generalize a.data.toList=xs at *;generalize b.data.toList=ys at *;have b4:=Qa (b3.trans (b5.mono b3.size));have c4:=Qa ((hG.below b3).below b5);have Hbs1:=Qa (a2.below b5);have Hbs2:=Qa a1;clear b3 b5 hG a2 a1 ha hb c2 c3;go_in;go_wp2_with fail
 go_loopw [5,6,7,8,9,10,23,28] (fun s5 s6 _ _ _ _ _ _ wr=>JR W2 (aA (bj dP xs) (bj dP ys)) s5 s6 wr) (fun v _ _ _ _ _ _ _ _=>match v with | .slice _ n _=>n|_=>0)
 case atStart=>exact⟨xs,ys,_,_,_,_,rfl,rfl,Hbs1,Hbs2,rfl,Ze _ _⟩
 case round=>
  obtain⟨ps,qs,A,B,c,d,rfl,rfl,hp,hq,he,b0⟩:=hrel;have Hp:=Qa hp;have Hq:=Qa hq;have He:=Qa he;have a0:=Qa b0;obtain⟨-,_,_,e1,hc,b9⟩:=id hp;injection e1 with e1 e2 e3
  subst e1 e3;obtain⟨-,_,_,e1,hd,b6⟩:=id hq;injection e1 with e1 e2 e3
  subst e1 e3;clear hp hq he b0 e2
  by_cases h0:ps = []\/qs = []
  .have Hz:=Qa (show aA (bj dP xs) (bj dP ys)=sg ps.length qs.length from He.trans (ye h0));have Hw:=Qa (b4.trans (a0.mono b4.size));clear He b9 b6
   by_cases h1:ps = []
   .subst h1;clear h0;go_wp2_with fail;refine br.mono ?_;rintro e w3 ⟨rfl,rfl⟩;go_wp2;go_ret;rw[Hz.out];exact⟨rfl,Hw⟩
   .obtain rfl:qs = []:=h0.resolve_left h1;have c8:(0:Int)<ps.length:=by cases ps with|nil=>exact absurd rfl h1|cons _ _=>simp
    clear h0 h1;go_wp2_with fail;refine br.mono ?_;rintro e w3 ⟨rfl,rfl⟩;go_wp2;go_ret;rw[Hz.out];exact⟨rfl,Hw⟩
  .have b1:ps≠ []:=fun e=>h0 (.inl e)
   have a9:qs≠ []:=fun e=>h0 (.inr e)
   have lp:0<ps.length:=by cases ps with|nil=>exact absurd rfl b1|cons _ _=>simp
   have lq:0<qs.length:=by cases qs with|nil=>exact absurd rfl a9|cons _ _=>simp
   have lpi:(0:Int)<ps.length:=by omega
   have lqi:(0:Int)<qs.length:=by omega
   obtain⟨bp,op,rfl,-⟩:=b9 lp;obtain⟨bq,oq,rfl,-⟩:=b6 lq;have np:=AT b1;have nq:=AT a9;have c7:=Qa (Hp.cut np.2);have c6:=Qa (Hq.cut nq.2);have c1:=Qa (kM (Hp.below a0) b1 (c4.below a0));have c5:=Qa (fun w5 (h:ge wr w5)=>kM ((Hq.below a0).below h) a9 ((c4.below a0).below h));have a6:=He.out;rw[j9 b1,j9 a9,bi] at a6;clear h0 b1 a9 b9 b6 He;generalize yM ps=cp at *;generalize yM qs=cq at *;generalize qR ps=mp at *;generalize qR qs=mq at *;obtain⟨np1,np2⟩:=np;obtain⟨nq1,nq2⟩:=nq
   by_cases hcc:cp=cq
   .subst hcc;rw[if_neg (Int.lt_irrefl _),if_neg (Int.lt_irrefl _)] at a6;have He:=Qa a6;clear a6;go_wp2_with fail;refine Za c1 ?_;rintro e w3 ⟨rfl,a3⟩;have b2:=Qa a3;have b7:=Qa (c5 w3 a3);clear a3;go_wp2_with fail;refine Za b7 ?_;rintro e w4 ⟨rfl,a7⟩;have b8:=Qa (a0.trans ((b2.trans (a7.mono b2.size)).mono a0.size));clear a7;go_wp2_with fail
    by_cases e1:c=mp <;> by_cases e2:d=mq
    all_goals
     go_quiet (fail);go_wp2_with fail;refine⟨⟨ps.drop mp,qs.drop mq,_,_,_,_,by rw[List.length_drop],by rw[List.length_drop],by rw[List.length_drop];first|exact AS Hp.out np2 e1|exact c7.out,by rw[List.length_drop];first|exact AS Hq.out nq2 e2|exact c6.out,He.out,av b8.out _⟩,?_⟩
     show ps.length - mp<ps.length
     omega
   .have c9:(cp==cq)=false:=by simpa using hcc
    have c0:aA (bj dP xs) (bj dP ys)=sg cp cq:=by
     rw[a6];unfold sg
     by_cases h1:cp<cq
     .rw[if_pos h1,if_pos h1]
     .rw[if_neg h1,if_pos (by omega),if_neg h1,if_pos (by omega)]
    have He:=Qa c0;clear a6 c0 hcc;go_wp2_with fail;refine Za c1 ?_;rintro e w3 ⟨rfl,a3⟩;have b2:=Qa a3;have b7:=Qa (c5 w3 a3);clear a3;go_wp2_with fail;refine Za b7 ?_;rintro e w4 ⟨rfl,a7⟩;have b8:=Qa (b4.trans ((a0.trans ((b2.trans (a7.mono b2.size)).mono a0.size)).mono b4.size));clear a7;go_wp2_with fail;refine br.mono ?_;rintro e w5 ⟨rfl,rfl⟩;go_wp2;go_ret;rw[He.out];exact⟨rfl,b8⟩
theorem ii:Calls prog 53 #[.nilIface] w (y4 (0:Int) w):=by
 go_in;go_wp2;go_ret;exact⟨rfl,Ze _ _⟩
theorem eO (h:VW P w v j):Calls prog 53 #[v] w (y4 (j.kindOf:Int) w):=by
 cases h with
 |null=>
  go_in;go_wp2_with fail;refine gw.mono ?_;rintro e w1 ⟨rfl,hb⟩;go_wp2;go_ret;exact⟨rfl,hb⟩
 |bool b=>
  go_in;go_wp2_with fail;refine fZ.mono ?_;rintro e w1 ⟨rfl,hb⟩;go_wp2;go_ret;exact⟨rfl,hb⟩
 |num d=>
  go_in;go_wp2_with fail;refine iF.mono ?_;rintro e w1 ⟨rfl,hb⟩;go_wp2;go_ret;exact⟨rfl,hb⟩
 |text s=>
  go_in;go_wp2_with fail;refine gj.mono ?_;rintro e w1 ⟨rfl,hb⟩;go_wp2;go_ret;exact⟨rfl,hb⟩
 |hole=>
  go_in;go_wp2_with fail;refine ga.mono ?_;rintro e w1 ⟨rfl,hb⟩;go_wp2;go_ret;exact⟨rfl,hb⟩
 |bare=>
  go_in;go_wp2_with fail;refine ey.mono ?_;rintro e w1 ⟨rfl,hb⟩;go_wp2;go_ret;exact⟨rfl,hb⟩
 |list g A c us ks _ _ _ _ _=>
  go_in;go_wp2_with fail;refine ey.mono ?_;rintro e w1 ⟨rfl,hb⟩;go_wp2;go_ret;exact⟨rfl,hb⟩
 |obj g A c us ns ks _ _ _ _ _ _=>
  go_in;go_wp2_with fail;refine gO.mono ?_;rintro e w1 ⟨rfl,hb⟩;go_wp2;go_ret;exact⟨rfl,hb⟩
def cY (P:Nat->Prop)(w:Wd)(A:OA)(us:Nb)(ks:List JV):Prop:=
 (A=none/\us = []/\ks = [])\/∃g R c,A=some (nl g)/\w.heap[g]?=some (.cells #[.slice R us.length c] 169 (0,0))/\cM P w 35 1 R us.length c us/\us.length=ks.length
def uK (P:Nat->Prop)(w:Wd)(us:Nb)(ks:List JV):Prop:= ∀ (i:Nat) u k,us[i]?=some u->ks[i]?=some k->VW P w u k
theorem cY.len (h:cY P w A us ks):us.length=ks.length:=by
 rcases h with ⟨-,rfl,rfl⟩|⟨_,_,_,_,_,_,h⟩
 .rfl
 .exact h
theorem cY.below (h:cY P w A us ks)(hb:ge w w'):cY P w' A us ks:=by
 rcases h with h|⟨g,R,c,e,hg,hr,hl⟩
 .exact .inl h
 .exact .inr ⟨g,R,c,e,al hg hb,hr.stay fun g o hp hg _ _=>⟨hp,(hb.block g (ah hg)).trans hg⟩,hl⟩
theorem uK.below (h:uK P w us ks)(hb:ge w w'):uK P w' us ks:=fun i u k h1 h2=>(h i u k h1 h2).later hb
theorem VW.asList {t:Bool}{x:Nc}(h:VW P w v (.mk 5 t x d ns ks)):∃A us,v =.iface 52 (.pointer A)/\cY P w A us ks/\uK P w us ks:=by
 cases h with
 |bare=>exact⟨none, [],rfl,.inl ⟨rfl,rfl,rfl⟩,fun i u k h _=>by simp at h⟩
 |list g A c us ks hp hg hr hl hk=>exact⟨_,us,rfl,.inr ⟨g,A,c,rfl,hg,hr,hl⟩,hk⟩
def eQ (P:Nat->Prop)(w:Wd)(A:OA)(us:Nb)(ns:List Nc)(ks:List JV):Prop:=
 ∃g R c,A=some (nl g)/\w.heap[g]?=some (.cells #[.slice R us.length c] 174 (0,0))/\cM P w 107 2 R us.length c (BE ns us)/\us.length=ks.length/\ns.length=ks.length
theorem eQ.below (h:eQ P w A us ns ks)(hb:ge w w'):eQ P w' A us ns ks:=by
 obtain⟨g,R,c,e,hg,hr,hl⟩:=h;exact⟨g,R,c,e,al hg hb,hr.stay fun g o hp hg _ _=>⟨hp,(hb.block g (ah hg)).trans hg⟩,hl⟩
theorem VW.asObj {t:Bool}{x:Nc}(h:VW P w v (.mk 6 t x d ns ks)):∃A us,v =.iface 126 (.pointer A)/\eQ P w A us ns ks/\uK P w us ks:=by
 cases h with
 |obj g A c us ns ks hp hg hr hl hn hk=>exact⟨_,us,rfl,⟨g,A,c,rfl,hg,hr,hl,hn⟩,hk⟩
theorem dX (h:cY P w A us ks):Calls prog 76 #[.pointer A] w fun e w'=>e = (us.length:Int)/\w=w':=by
 rcases h with ⟨rfl,rfl,rfl⟩|⟨g,R,c,rfl,hg,hr,hl⟩
 .exact uU w
 .exact nL hg
theorem e9 (h:cY P w A us ks)(hT:dh w)(i:Nat)(hu:us[i]?=some u):Calls prog 77 #[.pointer A,(i:Int)] w (y4 (.tuple #[.string ⟨(Lib.itoa i).toArray⟩,u]) w):=by
 have hi:=(List.getElem?_eq_some_iff.1 hu).1;rcases h with ⟨rfl,rfl,rfl⟩|⟨g,R,c,rfl,hg,hr,hl⟩
 .simp at hi
 .exact uy hT hg hr i hi hu
theorem eP (h:eQ P w A us ns ks):Calls prog 78 #[.pointer A] w fun e w'=>e = (us.length:Int)/\w=w':=by
 obtain⟨g,R,c,rfl,hg,hr,hl⟩:=h;exact oU hg
theorem eW (h:eQ P w A us ns ks)(i:Nat){n:Nc}(hu:us[i]?=some u)(hn:ns[i]?=some n):Calls prog 79 #[.pointer A,(i:Int)] w (y4 (.tuple #[n,u]) w):=by
 have hi:=(List.getElem?_eq_some_iff.1 hu).1;obtain⟨g,R,c,rfl,hg,hr,hl⟩:=h;have hm:=AP ns us i n u hn hu;exact uL hg hr i hi hm.1 hm.2
inductive JB:JV->Prop
 |mk (k:Int) (t:Bool) (x:Nc) (d:Dc) (ns:List Nc) (ks:List JV):x.size<=9223372036854775807->uG d->(∀n∈ns,n.size<=9223372036854775807)->(∀u∈ks,JB u)->JB (.mk k t x d ns ks)
