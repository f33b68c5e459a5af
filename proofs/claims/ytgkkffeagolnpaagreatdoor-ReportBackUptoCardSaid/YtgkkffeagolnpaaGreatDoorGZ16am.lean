import Derived.Test.YtgkkffeagolnpaaGreatDoorGZ16al
set_option linter.unusedVariables false
set_option linter.unusedSimpArgs false
set_option maxHeartbeats 64000000
set_option maxRecDepth 100000
namespace Go.Proofs.YtgkkffeagolnpaaGreatDoor
open Go.RowKit Go.Shelf
variable {aE aU:Addr}{out xs:List UInt8}{g n:Nat}{v:Value}{W w w' w1:World}
theorem BP.low {r:Option (Nat×Nat)}{e:Ending}(h:BP r w1 e w')(hb:Below w.heap.size w w1):BP r w e w':=by
 rcases h with ⟨p,h1,h2,h3⟩|⟨h1,h2⟩
 ·exact .inl ⟨p,h1,h2,aj hb h3⟩
 ·exact .inr ⟨h1,h2.low hb⟩
theorem vH {c:UInt8}{t:List UInt8}(h:¬ (c=98\/c=116\/c=110\/c=102\/c=114\/c=34\/c=92\/c=47\/c=117)):rj (c::t)=none:=by
 unfold rj
 split <;> first|rfl|(rename_i e;injection e with e _;subst e;simp at h)
theorem tI {k:Nat}(h:rD w g v xs k)(hE:aO w 9)(hS:aO w 27)(hU:aO w 28)(hk:k<=1000000000):Calls Tryz.prog 246 #[.pointer (some ⟨g,0,none⟩)] w fun e w'=>BP (rj (xs.drop (k+1))) w e w':=by
 have c1:=ac h.1 (j:=1) (u:=.int .i64 k) rfl;have H:=Qa h;have HE:=Qa hE;have a3:=Qa (sJ h hE hS hU hk);obtain⟨aS,a2⟩:=hS;clear h hE hU;rcases hc:xs[k+1]? with _|c
 ·have Hn:=Qa (show rj (xs.drop (k+1))=none by rw[List.drop_of_length_le (List.getElem?_eq_none_iff.1 hc)];rfl);have Hc:=Qa hc;clear hc;go_enter Tryz.func246,Tryz.ntmps246;go_wp2_with fail;rw[show(k:Int)+1= ((k+1:Nat):Int) from by omega];refine(gH H.out HE.out (k+1) Hc.out).mono ?_;rintro e w' ⟨vP,rfl,hv,hb⟩;have Hv:=Qa hv;have a1:=Qa hb;clear hv hb;go_wp2_with fail;exact⟨rfl,.inr ⟨Hn.out,vP,rfl,Hv.out,a1.out⟩⟩
 have hd:xs.drop (k+1)=c::xs.drop (k+2):=by
  obtain⟨hlt,he⟩:=List.getElem?_eq_some_iff.1 hc;rw[List.drop_eq_getElem_cons hlt,he]
 rw[hd];have Hc:=Qa hc;clear hc hd
 by_cases h98:c=98
 ·subst h98;go_enter Tryz.func246,Tryz.ntmps246;go_wp2_with fail;rw[show(k:Int)+1= ((k+1:Nat):Int) from by omega];refine(aM H.out HE.out (k+1) Hc.out).mono ?_;rintro e w' ⟨rfl,rfl⟩;rw[show(98:UInt8).toNat=98 from rfl];go_wp2_with fail;go_ret2;exact .inl ⟨(8,2),rfl,rfl,Ze _ _⟩
 by_cases h116:c=116
 ·subst h116;go_enter Tryz.func246,Tryz.ntmps246;go_wp2_with fail;rw[show(k:Int)+1= ((k+1:Nat):Int) from by omega];refine(aM H.out HE.out (k+1) Hc.out).mono ?_;rintro e w' ⟨rfl,rfl⟩;rw[show(116:UInt8).toNat=116 from rfl];go_wp2_with fail;go_ret2;exact .inl ⟨(9,2),rfl,rfl,Ze _ _⟩
 by_cases h110:c=110
 ·subst h110;go_enter Tryz.func246,Tryz.ntmps246;go_wp2_with fail;rw[show(k:Int)+1= ((k+1:Nat):Int) from by omega];refine(aM H.out HE.out (k+1) Hc.out).mono ?_;rintro e w' ⟨rfl,rfl⟩;rw[show(110:UInt8).toNat=110 from rfl];go_wp2_with fail;go_ret2;exact .inl ⟨(10,2),rfl,rfl,Ze _ _⟩
 by_cases h102:c=102
 ·subst h102;go_enter Tryz.func246,Tryz.ntmps246;go_wp2_with fail;rw[show(k:Int)+1= ((k+1:Nat):Int) from by omega];refine(aM H.out HE.out (k+1) Hc.out).mono ?_;rintro e w' ⟨rfl,rfl⟩;rw[show(102:UInt8).toNat=102 from rfl];go_wp2_with fail;go_ret2;exact .inl ⟨(12,2),rfl,rfl,Ze _ _⟩
 by_cases h114:c=114
 ·subst h114;go_enter Tryz.func246,Tryz.ntmps246;go_wp2_with fail;rw[show(k:Int)+1= ((k+1:Nat):Int) from by omega];refine(aM H.out HE.out (k+1) Hc.out).mono ?_;rintro e w' ⟨rfl,rfl⟩;rw[show(114:UInt8).toNat=114 from rfl];go_wp2_with fail;go_ret2;exact .inl ⟨(13,2),rfl,rfl,Ze _ _⟩
 by_cases h34:c=34
 ·subst h34;go_enter Tryz.func246,Tryz.ntmps246;go_wp2_with fail;rw[show(k:Int)+1= ((k+1:Nat):Int) from by omega];refine(aM H.out HE.out (k+1) Hc.out).mono ?_;rintro e w' ⟨rfl,rfl⟩;rw[show(34:UInt8).toNat=34 from rfl];go_wp2_with fail;go_ret2;exact .inl ⟨(34,2),rfl,rfl,Ze _ _⟩
 by_cases h92:c=92
 ·subst h92;go_enter Tryz.func246,Tryz.ntmps246;go_wp2_with fail;rw[show(k:Int)+1= ((k+1:Nat):Int) from by omega];refine(aM H.out HE.out (k+1) Hc.out).mono ?_;rintro e w' ⟨rfl,rfl⟩;rw[show(92:UInt8).toNat=92 from rfl];go_wp2_with fail;go_ret2;exact .inl ⟨(92,2),rfl,rfl,Ze _ _⟩
 by_cases h47:c=47
 ·subst h47;go_enter Tryz.func246,Tryz.ntmps246;go_wp2_with fail;rw[show(k:Int)+1= ((k+1:Nat):Int) from by omega];refine(aM H.out HE.out (k+1) Hc.out).mono ?_;rintro e w' ⟨rfl,rfl⟩;rw[show(47:UInt8).toNat=47 from rfl];go_wp2_with fail;go_ret2;exact .inl ⟨(47,2),rfl,rfl,Ze _ _⟩
 by_cases h117:c=117
 ·subst h117;go_enter Tryz.func246,Tryz.ntmps246;go_wp2_with fail;rw[show(k:Int)+1= ((k+1:Nat):Int) from by omega];refine(aM H.out HE.out (k+1) Hc.out).mono ?_;rintro e w' ⟨rfl,rfl⟩;rw[show(117:UInt8).toNat=117 from rfl];go_wp2_with fail;refine Za a3 ?_;rintro e w' (⟨p,hp,rfl,hb⟩|⟨hn,vP,rfl,hv,hb⟩)
  ·have Hp:=Qa hp;have Hb:=Qa hb;obtain⟨p1,p2⟩:=p;clear hp hb
   dsimp only
   go_wp2_with fail;go_ret2;exact .inl ⟨(p1,p2),Hp.out,rfl,Hb.out⟩
  ·have Hn:=Qa hn;have Hv:=Qa hv;have a1:=Qa hb;clear hn hv hb;go_wp2_with fail;exact⟨rfl,.inr ⟨Hn.out,vP,rfl,Hv.out,a1.out⟩⟩
 have Hn:=Qa (vH (c:=c) (t:=xs.drop (k+2)) (by rintro(e|e|e|e|e|e|e|e|e) <;> contradiction));have n98:((c.toNat:Int)==98)=false:=by simp only[beq_eq_false_iff_ne];intro e;exact h98 (UInt8.toNat_inj.1 (by show c.toNat=98;omega))
 have n116:((c.toNat:Int)==116)=false:=by simp only[beq_eq_false_iff_ne];intro e;exact h116 (UInt8.toNat_inj.1 (by show c.toNat=116;omega))
 have n110:((c.toNat:Int)==110)=false:=by simp only[beq_eq_false_iff_ne];intro e;exact h110 (UInt8.toNat_inj.1 (by show c.toNat=110;omega))
 have n102:((c.toNat:Int)==102)=false:=by simp only[beq_eq_false_iff_ne];intro e;exact h102 (UInt8.toNat_inj.1 (by show c.toNat=102;omega))
 have n114:((c.toNat:Int)==114)=false:=by simp only[beq_eq_false_iff_ne];intro e;exact h114 (UInt8.toNat_inj.1 (by show c.toNat=114;omega))
 have n34:((c.toNat:Int)==34)=false:=by simp only[beq_eq_false_iff_ne];intro e;exact h34 (UInt8.toNat_inj.1 (by show c.toNat=34;omega))
 have n92:((c.toNat:Int)==92)=false:=by simp only[beq_eq_false_iff_ne];intro e;exact h92 (UInt8.toNat_inj.1 (by show c.toNat=92;omega))
 have n47:((c.toNat:Int)==47)=false:=by simp only[beq_eq_false_iff_ne];intro e;exact h47 (UInt8.toNat_inj.1 (by show c.toNat=47;omega))
 have n117:((c.toNat:Int)==117)=false:=by simp only[beq_eq_false_iff_ne];intro e;exact h117 (UInt8.toNat_inj.1 (by show c.toNat=117;omega))
 clear h98 h116 h110 h102 h114 h34 h92 h47 h117;go_enter Tryz.func246,Tryz.ntmps246;go_wp2_with fail;rw[show(k:Int)+1= ((k+1:Nat):Int) from by omega];refine(aM H.out HE.out (k+1) Hc.out).mono ?_;rintro e w' ⟨rfl,rfl⟩;go_wp2_with fail;refine wp_region_held_drew (S:=fun w'=>w'.cell? ⟨g,1,none⟩=some (.int .i64 k)/\w'.cell? ⟨27,0,none⟩=some (bp aS)) (by kernel_rfl) (⟨c1,a2⟩) (fun a0=>?_);refine tH 0 a0 ?_;refine tH 1 a0 ?_;refine tH 2 a0 ?_;refine tH 3 a0 ?_;refine tH 4 a0 ?_
 try simp only[Act.put,jP,jQ,jR]
 refine rH 5 fun K hK=>?_
 go_simp;refine(a8 _ aS _).mono ?_;rintro e w' hf;obtain⟨vP,rfl,hv,hb⟩:=hf.low (show Below w.heap.size w w.drew from(Ze _ _).drew);exact⟨rfl,.inr ⟨Hn.out,vP,rfl,hv,hb⟩⟩
theorem Bf:(Tryz.prog.info? 408).map (·.comparable)=some true:=by kernel_rfl
theorem By:(Tryz.prog.info? 410).map (fun i=>i.size)=some 1:=by kernel_rfl
theorem Gz:Tryz.prog.underlying 30=some (.interface (Tryz.prog.methodsAt 30)):=by kernel_rfl
theorem dD (a:Addr)(W:World):(binOp .eql 30 (bp a) (bp a)).run Tryz.prog W =.ok (.bool true) W:=by
 obtain⟨i,hi,hc⟩:=Option.map_eq_some_iff.1 Bf;obtain⟨j,hj,hs⟩:=Option.map_eq_some_iff.1 By;exact run_eql_iface_ptr_same W a Tryz.underlying30 Tryz.underlying408 hi hc hj
theorem jw (h:cD W aU aE):(binOp .eql 30 (bp aU) (bp aE)).run Tryz.prog W =.ok (.bool false) W:=by
 obtain⟨i,hi,hc⟩:=Option.map_eq_some_iff.1 Bf;obtain⟨j,hj,hs⟩:=Option.map_eq_some_iff.1 By;obtain⟨c1,t1,h1⟩:=h.hu;obtain⟨c2,t2,h2⟩:=h.he;exact run_eql_iface_ptr_other W Tryz.underlying30 Tryz.underlying408 hi hc hj (by omega) h.ne h1 h2
theorem ly (a:Addr)(W:World):(binOp .eql 30 .nilIface (bp a)).run Tryz.prog W =.ok (.bool false) W:=run_eql_iface_nil_left W _ _ Gz
def JJ:Option (Nat×Nat)->Value
 |none=>.tuple #[.int .i32 0,.int .i64 1,.bool false]
 |some p=>.tuple #[.int .i32 p.1,.int .i64 p.2,.bool true]
def Kr (r:Option (Option (Nat×Nat)))(w:World)(e:Ending)(w':World):Prop:=(∃p,r=some p/\e =.returned (JJ p)/\Below w.heap.size w w')\/(r=none/\gv w e w')
theorem we {c:UInt8}{t:List UInt8}(a2:c.toNat≠34)(a0:c.toNat≠92)(a1:¬c.toNat<32):bC (c::t)=if(bg (c::t)).2.2=0 then some (some ((bg (c::t)).1,(bg (c::t)).2.1)) else none:=by
 simp only[bC];rw[if_neg (fun e=>a2 (by rw[e];rfl)),if_neg (fun e=>a0 (by rw[e];rfl)),if_neg a1]
theorem vl {c:UInt8}{t:List UInt8}(a2:c.toNat≠34)(a0:c.toNat≠92)(a1:c.toNat<32):bC (c::t)=none:=by
 simp only[bC];rw[if_neg (fun e=>a2 (by rw[e];rfl)),if_neg (fun e=>a0 (by rw[e];rfl)),if_pos a1]
theorem vw {k:Nat}(h:rD w g v xs k)(hG:cD w aU aE)(hS:aO w 27)(hU:aO w 28)(hC:aO w 24)(hk:k<=1000000000)(hl:xs.length<=1000000000):Calls Tryz.prog 235 #[.pointer (some ⟨g,0,none⟩)] w fun e w'=>Kr (bC (xs.drop k)) w e w':=by
 obtain⟨hg,hb⟩:=id h;obtain⟨hm,A,cap,rfl,b5,a1⟩:=id hb;have c0:=ac hg (j:=0) (u:=.slice A xs.length cap) rfl;have c1:=ac hg (j:=1) (u:=.int .i64 k) rfl;have hE:aO w 9:=⟨aE,hG.e⟩;have H:=Qa h;have HE:=Qa hE;have HG:=Qa hG;have b4:=Qa (tI h hE hS hU hk);obtain⟨aC,b9⟩:=hC;rcases hc:xs[k]? with _|c
 ·have Hn:=Qa (show bC (xs.drop k)=none by rw[List.drop_of_length_le (List.getElem?_eq_none_iff.1 hc)];rfl);have Hc:=Qa hc;clear hc h hE hG hS hU hg hb a1;go_enter Tryz.func235,Tryz.ntmps235;go_wp2_with fail;refine(gH H.out HE.out k Hc.out).mono ?_;rintro e w' ⟨vP,rfl,hv,hb⟩;have Hv:=Qa hv;have a5:=Qa hb;clear hv hb;go_wp2_with fail;exact⟨rfl,.inr ⟨Hn.out,vP,rfl,Hv.out,a5.out⟩⟩
 obtain⟨hlt,b1⟩:=List.getElem?_eq_some_iff.1 hc;have hd:xs.drop k=c::xs.drop (k+1):=by rw[List.drop_eq_getElem_cons hlt,b1]
 obtain⟨b,o,rfl,-⟩:=a1 (by omega);have b0:=Qa (show Bs w.drew (.slice (some ⟨b,o+k,none⟩) (xs.length - k) (cap - k)) (xs.drop k) from hb.cut (Nat.le_of_lt hlt));have Hd:=Qa hd;have Hc:=Qa hc;clear hc b1 h hE hS hU hg hb a1;have hx:=c.toNat_lt
 by_cases h34:c.toNat=34
 ·obtain rfl:c=34:=UInt8.toNat_inj.1 (by rw[h34];rfl);rw[hd];clear hd h34 hG;go_enter Tryz.func235,Tryz.ntmps235;go_wp2_with fail;refine(aM H.out HE.out k Hc.out).mono ?_;rintro e w' ⟨rfl,rfl⟩;rw[show(34:UInt8).toNat=34 from rfl];go_wp2_with fail;go_ret3;exact .inl ⟨none,rfl,rfl,Ze _ _⟩
 have n34:((c.toNat:Int)==34)=false:=by simp only[beq_eq_false_iff_ne];omega
 by_cases h92:c.toNat=92
 ·obtain rfl:c=92:=UInt8.toNat_inj.1 (by rw[h92];rfl);have Hp:=Qa (show bC (xs.drop k)= (rj (xs.drop (k+1))).map some by rw[hd];rfl);clear hd h92 h34 n34 hG;go_enter Tryz.func235,Tryz.ntmps235;go_wp2_with fail;refine(aM H.out HE.out k Hc.out).mono ?_;rintro e w' ⟨rfl,rfl⟩;rw[show(92:UInt8).toNat=92 from rfl];go_wp2_with fail;refine Za b4 ?_;rintro e w' (⟨p,hp,rfl,hb⟩|⟨hn,vP,rfl,hv,hb⟩)
  ·have Hr:=Qa (show bC (xs.drop k)=some (some p) by rw[Hp.out,hp];rfl);have Hb:=Qa hb;obtain⟨p1,p2⟩:=p;clear hp hb
   dsimp only
   go_wp2_with fail;go_ret3;exact .inl ⟨some (p1,p2),Hr.out,rfl,Hb.out⟩
  ·have Hn:=Qa (show bC (xs.drop k)=none by rw[Hp.out,hn];try rfl);have Hv:=Qa hv;have a5:=Qa hb;clear hn hv hb;go_wp2_with fail;exact⟨rfl,.inr ⟨Hn.out,vP,rfl,Hv.out,a5.out⟩⟩
 have n92:((c.toNat:Int)==92)=false:=by simp only[beq_eq_false_iff_ne];omega
 by_cases h32:c.toNat<32
 ·have a3:(c.toNat:Int)<32:=by omega
  have Hn:=Qa (show bC (xs.drop k)=none by rw[hd];exact vl h34 h92 h32);clear hd h34 h92 h32 hG;go_enter Tryz.func235,Tryz.ntmps235;go_wp2_with fail;refine(aM H.out HE.out k Hc.out).mono ?_;rintro e w' ⟨rfl,rfl⟩;go_wp2_with fail;refine wp_region_held_drew (S:=fun w'=>w'.cell? ⟨g,1,none⟩=some (.int .i64 k)/\w'.cell? ⟨24,0,none⟩=some (bp aC)) (by kernel_rfl) (⟨c1,b9⟩) (fun a0=>?_);refine tH 0 a0 ?_;refine tH 1 a0 ?_;refine tH 2 a0 ?_;refine tH 3 a0 ?_;refine tH 4 a0 ?_
  try simp only[Act.put,jP,jQ,jR]
  refine rH 5 fun K hK=>?_
  go_simp;refine(a8 _ aC _).mono ?_;rintro e w' hf;obtain⟨vP,rfl,hv,hb⟩:=hf.low (show Below w.heap.size w w.drew from(Ze _ _).drew);exact⟨rfl,.inr ⟨Hn.out,vP,rfl,hv,hb⟩⟩
 have a3:¬ (c.toNat:Int)<32:=by omega
 have Hr:=Qa (show bC (xs.drop k)=if(bg (xs.drop k)).2.2=0 then some (some ((bg (xs.drop k)).1,(bg (xs.drop k)).2.1)) else none by rw[hd];exact we h34 h92 h32);have c2:(k:Int)<=xs.length:=by omega
 clear hd h34 h92 h32;have b3:=(pd (xs.drop k)).2;have a2:qB (b6 aU) (b6 aE) (bg (xs.drop k)) =.tuple #[.int .i32 (bg (xs.drop k)).1,.int .i64 (bg (xs.drop k)).2.1,iT (b6 aU) (b6 aE) (bg (xs.drop k)).2.2]:=rfl;rcases hr:bg (xs.drop k) with ⟨ca,cl,cc⟩
 rw[hr] at b3 a2
 dsimp only at b3 a2
 obtain⟨ve,hve⟩:∃ve,iT (b6 aU) (b6 aE) cc=ve:=⟨_,rfl⟩;rw[hve] at a2;have a4:=Qa (show bC (xs.drop k)=if cc=0 then some (some (ca,cl)) else none by rw[Hr.out,hr]);have b8:=Qa (show qB (b6 aU) (b6 aE) (bg (xs.drop k))=_ from hr▸a2);have a9:=Qa hve;clear hr a2 hve Hr;go_enter Tryz.func235,Tryz.ntmps235;go_wp2_with fail;refine(aM H.out HE.out k Hc.out).mono ?_;rintro e w' ⟨rfl,rfl⟩;go_wp2_with fail;refine bF (fun w'=>w'.cell? ⟨g,0,none⟩=some (.slice (some ⟨b,o,none⟩) xs.length cap)/\w'.cell? ⟨g,1,none⟩=some (.int .i64 k)) (⟨c0,c1⟩) fun a0=>?_
 refine tH 0 a0 ?_;refine tH 1 a0 ?_;refine tH 2 a0 ?_;refine tH 3 a0 ?_;refine tH 4 a0 ?_;refine tH 5 a0 ?_
 try simp only[Act.put,jP,jQ,jR]
 refine tH 6 a0 ?_;refine tH 7 a0 ?_;refine tH 8 a0 ?_
 try simp only[Act.put,jP,jQ,jR]
 refine rH 9 fun K hK=>?_
 go_simp;(try rw[if_neg (show ¬cap=k by omega)]);(with_reducible refine(fR b0.out (HG.out.below ((Ze w.heap.size w).drew))).mono ?_);rintro e w' ⟨rfl,m,rfl⟩;rw[b8.out];refine hK.out _ _ (a0) (fun a0=>?_);clear hK K
 try simp only[Act.put,jP,jQ,jR]
 refine tH 10 a0 ?_;refine tH 11 a0 ?_;refine tH 12 a0 ?_;refine tH 13 a0 ?_;refine tH 14 a0 ?_;refine tH 15 a0 ?_
 try simp only[Act.put,jP,jQ,jR]
 refine tH 16 a0 ?_
 try simp only[Act.put,jP,jQ,jR]
 refine wpAnyH_done (by kernel_rfl) (NoPanic.normal ?_) _;have Hb:=Qa (show Below w.heap.size w (w.drew.drewN m) from ap ((Ze _ _).drew) m);have b2:=Qa (show cD (w.drew.drewN m) aU aE from(HG.out.below ((Ze w.heap.size w).drew)).drewN m);have c0':(w.drew.drewN m).cell? ⟨g,0,none⟩=some (.slice (some ⟨b,o,none⟩) xs.length cap):=c0;have c1':(w.drew.drewN m).cell? ⟨g,1,none⟩=some (.int .i64 k):=c1;have cE:(w.drew.drewN m).cell? ⟨9,0,none⟩=some (bp aE):=b2.out.e;generalize w.drew.drewN m=w1 at *;clear c0 c1;rcases(by omega:cc=0\/cc=1\/cc=2) with rfl|rfl|rfl
 ·obtain rfl: .nilIface=ve:=a9.out;have q:=ly aE w1;go_wp2_with fail;go_ret3;exact .inl ⟨some (ca,cl),a4.out,rfl,Hb.out⟩
 ·obtain rfl:bp aE=ve:=a9.out;have q:=dD aE w1;go_wp2_with fail;refine(a8 _ aE _).mono ?_;rintro e w' hf;obtain⟨vP,rfl,hv,hb⟩:=hf.low Hb.out;exact⟨rfl,.inr ⟨a4.out,vP,rfl,hv,hb⟩⟩
 ·obtain rfl:bp aU=ve:=a9.out;have q:=jw b2.out;go_wp2_with fail;refine(a8 _ aU _).mono ?_;rintro e w' hf;obtain⟨vP,rfl,hv,hb⟩:=hf.low Hb.out;exact⟨rfl,.inr ⟨a4.out,vP,rfl,hv,hb⟩⟩
theorem IN (n:Nat)(hv:Utf8.valid (n:Int)=true)(h1:n<128):Utf8.encode (n:Int)= ⟨#[UInt8.ofNat n]⟩:=by
 unfold Utf8.encode;simp only[hv,if_true,Int.toNat_natCast,h1]
theorem I3 (n:Nat)(hv:Utf8.valid (n:Int)=true)(h1:¬n<128)(h2:n<2048):Utf8.encode (n:Int)= ⟨#[UInt8.ofNat (192+n/64),UInt8.ofNat (128+n % 64)]⟩:=by
 unfold Utf8.encode;simp only[hv,if_true,Int.toNat_natCast,h1,h2,if_false]
theorem Jc (n:Nat)(hv:Utf8.valid (n:Int)=true)(h1:¬n<128)(h2:¬n<2048)(h3:n<65536):Utf8.encode (n:Int)= ⟨#[UInt8.ofNat (224+n/4096),UInt8.ofNat (128+n/64 % 64),UInt8.ofNat (128+n % 64)]⟩:=by
 unfold Utf8.encode;simp only[hv,if_true,Int.toNat_natCast,h1,h2,h3,if_false]
theorem IZ (n:Nat)(hv:Utf8.valid (n:Int)=true)(h1:¬n<128)(h2:¬n<2048)(h3:¬n<65536):Utf8.encode (n:Int)= ⟨#[UInt8.ofNat (240+n/262144),UInt8.ofNat (128+n/4096 % 64),UInt8.ofNat (128+n/64 % 64),UInt8.ofNat (128+n % 64)]⟩:=by
 unfold Utf8.encode;simp only[hv,if_true,Int.toNat_natCast,h1,h2,h3,if_false]
theorem qn {c:Int}(hc:cA c=true):(Utf8.encode c).data.toList=a7 c:=by
 obtain⟨n,rfl⟩:∃n:Nat,c=n:=⟨c.toNat,by have:=cq hc;omega⟩;have hr:n<=1114111/\¬ (55296<=n/\n<=57343):=by rw[bY] at hc;simp at hc;omega
 have hv:Utf8.valid (n:Int)=true:=by rw[kB];omega
 by_cases h1:n<128
 ·rw[la n h1,IN n hv h1]
 ·by_cases h2:n<2048
  ·rw[og n ⟨by omega,h2⟩,I3 n hv h1 h2]
  ·by_cases h3:n<65536
   ·rw[l9 n ⟨by omega,h3⟩ (by omega),Jc n hv h1 h2 h3]
   ·rw[nX n ⟨by omega,by omega⟩,IZ n hv h1 h2 h3]
theorem bX {ops:Array Oper}{rest:List Oper}{o:Oper}{a:Act}{Q:Exit->Act->World->Prop}(a2:o.guard=none)(sl x:Operand)
  (ho:o.op =.call {callee:=.builtin .append,args:= #[sl,x],argTypes:= #[28,9]})
  (base:Nat) (v:Value) (ys:List UInt8) (s:ByteArray) (hs:a.eval sl=v) (a1:aq w base v ys) (hx:a.eval x =.string s)
  (hlen:ys.length+s.size<=140737488355328) (a0:base<=w.heap.size)
  (h:∀v' w',aq w' base v' (ys++s.data.toList)->w.grownBy w' v.ownBlock->wpList Tryz.prog ops Q rest (a.put o.dst v') w'):wpList Tryz.prog ops Q (o::rest) a w:=by
 refine wpList_plain a2 fun K hK=>?_
 obtain⟨i0,hi,a4,a3,a5⟩:=info_parts Dw;obtain⟨v',w',hr,h2,h3,h4⟩:=Lib.run_append_own_string (P:=Tryz.prog) w base 28 9 o.type 5 i0 Tryz.underlying28 Tryz.underlying9 hi a4 a3 a5 v ys.length (eB ys) a1 s (by unfold maxLen;omega) hlen a0;unfold Oper.wp execOp;simp only[ho,resolve,invoke,builtin,Sem.run_bind,Sem.run_pure,Result.andThen_ok,List.map_toArray,List.map_cons,List.map_nil,hs,hx,hr];refine hK _ _ (h v' w' ?_ h3);have e1:eB (ys++s.data.toList)=eB ys++Lib.strCells s:=by rw[mO];rfl
 have e2:(ys++s.data.toList).length=ys.length+s.size:=by rw[List.length_append];rfl
 unfold aq;rw[e1,e2];exact h2
theorem sW {x:Nat}(h:cm xs=some x):x<65536/\4<=xs.length:=by
 refine⟨?_,?_⟩
 ·have:=fZ xs 0;rw[List.drop_zero,h] at this;exact gZ this.symm
 ·rcases xs with _|⟨a,_|⟨b,_|⟨c,_|⟨d,t⟩⟩⟩⟩
  ·cases h
  ·simp[cm] at h
  ·simp[cm] at h
  ·simp[cm] at h
  ·simp
theorem D6 {p:Nat×Nat}(h:jn xs=some p):cA p.1=true/\1<=p.2/\p.2<=xs.length+2:=by
 unfold jn at h
 cases hx:cm xs with
 |none=>simp only[hx,bind,Option.bind] at h;cases h
 |some x=>
  obtain⟨b1,b2⟩:=sW hx;simp only[hx,bind,pure,Option.bind] at h
  split at h
  ·injection h with h
   subst h;refine⟨by rw[bY];simp;omega,by simp,by simp only;omega⟩
  split at h
  ·rename_i a b ys hd
   split at h
   ·cases h
   cases hy:cm ys with
   |none=>simp only[hy] at h;cases h
   |some y=>
    simp only[hy] at h;obtain⟨c1,c2⟩:=sW hy;have hl:(xs.drop 4).length=ys.length+2:=by rw[hd];rfl
    rw[List.length_drop] at hl
    split at h
    ·cases h
    injection h with h
    subst h;refine⟨by rw[bY];simp;omega,by simp,by simp only;omega⟩
  ·cases h
theorem Ev {p:Nat×Nat}(h:rj xs=some p):cA p.1=true/\1<=p.2/\p.2<=xs.length+1:=by
 unfold rj at h
 split at h <;> first
  |(injection h with h;subst h;exact⟨by decide,by decide,by simp⟩)
  |(have:=D6 h;exact⟨this.1,this.2.1,by simpa using this.2.2⟩)
  |cases h
theorem mr {p:Nat×Nat}(h:bC xs=some (some p)):cA p.1=true/\1<=p.2/\p.2<=xs.length:=by
 rcases xs with _|⟨x,xs⟩
 ·cases h
 simp only[bC] at h
 split at h
 ·cases h
 split at h
 ·rw[Option.map_eq_some_iff] at h;obtain⟨q,hq,e⟩:=h;injection e with e
  subst e;have:=Ev hq;exact⟨this.1,this.2.1,by simpa using this.2.2⟩
 split at h
 ·cases h
 split at h
 ·rename_i h0
  injection h with h
  injection h with h
  subst h;exact⟨(il h0).2,ei h0,vV _⟩
 ·cases h
theorem oq (h:bC xs=some none):1<=xs.length:=by
 rcases xs with _|⟨x,xs⟩
 ·cases h
 ·simp
theorem G3:∀n:Nat,n<32->n=8\/n=9\/n=10\/n=12\/n=13\/(cf (n:Nat):List UInt8)= ((⟨#[92,117,48,48]⟩:ByteArray)++ (⟨#[48,49,50,51,52,53,54,55,56,57,97,98,99,100,101,102]⟩:ByteArray).extract (n/16) (n/16+1)++ (⟨#[48,49,50,51,52,53,54,55,56,57,97,98,99,100,101,102]⟩:ByteArray).extract (n % 16) (n % 16+1)).data.toList:=by decide +kernel
theorem qF (h:n<32)(h8:n≠8)(h9:n≠9)(a1:n≠10)(a4:n≠12)(a5:n≠13)(w:World):Calls Tryz.prog 96 #[.int .i32 n] w fun e w'=>e =.returned (.string ⟨(cf n).toArray⟩)/\Below w.heap.size w w':=by
 have b8:((n:Int)==8)=false:=by simp only[beq_eq_false_iff_ne];omega
 have b9:((n:Int)==9)=false:=by simp only[beq_eq_false_iff_ne];omega
 have b10:((n:Int)==10)=false:=by simp only[beq_eq_false_iff_ne];omega
 have b12:((n:Int)==12)=false:=by simp only[beq_eq_false_iff_ne];omega
 have b13:((n:Int)==13)=false:=by simp only[beq_eq_false_iff_ne];omega
 have b34:((n:Int)==34)=false:=by simp only[beq_eq_false_iff_ne];omega
 have b92:((n:Int)==92)=false:=by simp only[beq_eq_false_iff_ne];omega
 have hlt:(n:Int)<32:=by omega
 obtain⟨d,hd⟩:∃d:Int,bits .and .i32 (n:Int) 15=d:=⟨_,rfl⟩;have a2:d= ((n % 16:Nat):Int):=by rw[<-hd];exact Gd n (by omega)
 have b0:0<=d:=by omega
 have b2:d<16:=by omega
 obtain⟨q,hq⟩:∃q:Int,(n:Int)/16=q:=⟨_,rfl⟩;have a9:0<=q:=by omega
 have b1:q<16:=by omega
 have w1:IntKind.i32.wrap (q+1)=q+1:=by simp[IntKind.wrap,IntKind.bits,IntKind.signed];omega
 have w2:IntKind.i32.wrap (d+1)=d+1:=by simp[IntKind.wrap,IntKind.bits,IntKind.signed];omega
 have q2:q+1<=16:=by omega
 have d2:d+1<=16:=by omega
 have q3:q<=q+1:=by omega
 have d3:d<=d+1:=by omega
 have q4:0<=q+1:=by omega
 have d4:0<=d+1:=by omega
 have x1:(q+1).toNat - q.toNat=1:=by omega
 have x2:(d+1).toNat - d.toNat=1:=by omega
 have a3:=Qa a2;have Hq:=Qa hq;have hle:=G3 n h;rcases hle with e|e|e|e|e|hle
 ·exact absurd e h8
 ·exact absurd e h9
 ·exact absurd e a1
 ·exact absurd e a4
 ·exact absurd e a5
 have Hl:=Qa hle;clear hle;clear a2 h8 h9 a1 a4 a5 h;go_enter Tryz.func96,Tryz.ntmps96;go_wp2_with fail;refine bF (fun _=>True) (trivial) fun a0=>?_
 refine tH 0 a0 ?_;refine tH 1 a0 ?_;refine tH 2 a0 ?_;refine tH 3 a0 ?_;refine tH 4 a0 ?_;refine tH 5 a0 ?_
 try simp only[Act.put,jP,jQ,jR]
 refine tH 6 a0 ?_;refine tH 7 a0 ?_;refine tH 8 a0 ?_;refine tH 9 a0 ?_;refine tH 10 a0 ?_;refine tH 11 a0 ?_
 try simp only[Act.put,jP,jQ,jR]
 refine tH 12 a0 ?_;refine tH 13 a0 ?_;refine tH 14 a0 ?_
 try simp only[Act.put,jP,jQ,jR]
 refine wpAnyH_done (by kernel_rfl) (NoPanic.normal ?_) _;go_wp2_with fail;go_ret;refine⟨?_,ap (Ze _ _) 1⟩;have e1:q.toNat=n/16:=by have:=Hq.out;omega
 have e2:(q+1).toNat=n/16+1:=by have:=Hq.out;omega
 have e3:d.toNat=n % 16:=by have:=a3.out;omega
 have e4:(d+1).toNat=n % 16+1:=by have:=a3.out;omega
 rw[e1,e2,e3,e4]
 show Ending.returned (.string _)=_
 rw[Hl.out]
theorem GS {c:Int}(h:cA c=true):Utf8.encode c= ⟨(a7 c).toArray⟩:=by
 have e:=qn h
 cases hx:Utf8.encode c with
 |mk d=>rw[hx] at e;simp only at e;rw[<-e]
theorem sV {c:Int}(h:cA c=true)(w:World):Calls Tryz.prog 96 #[.int .i32 c] w fun e w'=>e =.returned (.string ⟨(cf c).toArray⟩)/\Below w.heap.size w w':=by
 by_cases h34:c=34
 ·subst h34;go_enter Tryz.func96,Tryz.ntmps96;go_wp2_with fail;go_ret;exact⟨rfl,Ze _ _⟩
 by_cases h92:c=92
 ·subst h92;go_enter Tryz.func96,Tryz.ntmps96;go_wp2_with fail;go_ret;exact⟨rfl,Ze _ _⟩
 by_cases h8:c=8
 ·subst h8;go_enter Tryz.func96,Tryz.ntmps96;go_wp2_with fail;go_ret;exact⟨rfl,Ze _ _⟩
 by_cases h9:c=9
 ·subst h9;go_enter Tryz.func96,Tryz.ntmps96;go_wp2_with fail;go_ret;exact⟨rfl,Ze _ _⟩
 by_cases h10:c=10
 ·subst h10;go_enter Tryz.func96,Tryz.ntmps96;go_wp2_with fail;go_ret;exact⟨rfl,Ze _ _⟩
 by_cases h12:c=12
 ·subst h12;go_enter Tryz.func96,Tryz.ntmps96;go_wp2_with fail;go_ret;exact⟨rfl,Ze _ _⟩
 by_cases h13:c=13
 ·subst h13;go_enter Tryz.func96,Tryz.ntmps96;go_wp2_with fail;go_ret;exact⟨rfl,Ze _ _⟩
 have h0:=cq h
 by_cases h32:c<32
 ·obtain⟨n,rfl⟩:∃n:Nat,c=n:=⟨c.toNat,by omega⟩;exact qF (by omega) (by omega) (by omega) (by omega) (by omega) (by omega) w
 have b8:(c==8)=false:=by simpa using h8
 have b9:(c==9)=false:=by simpa using h9
 have b10:(c==10)=false:=by simpa using h10
 have b12:(c==12)=false:=by simpa using h12
 have b13:(c==13)=false:=by simpa using h13
 have b34:(c==34)=false:=by simpa using h34
 have b92:(c==92)=false:=by simpa using h92
 have Hl:=Qa (show cf c=a7 c by unfold cf;rw[if_neg h34,if_neg h92,if_neg h8,if_neg h9,if_neg h10,if_neg h12,if_neg h13,if_neg h32]);have He:=Qa (GS h);clear h h0 h8 h9 h10 h12 h13 h34 h92;go_enter Tryz.func96,Tryz.ntmps96;go_wp2_with fail;go_ret;refine⟨?_,Ze _ _⟩;rw[Hl.out,<-He.out];rfl
theorem yr {f:Nat}{p:Nat×Nat}(h:bC xs=some (some p)):eM (f+1) xs out n=eM f (xs.drop p.2) (out++a7 p.1) (n+p.2):=by
 conv=>lhs;unfold eM
 rw[h]
theorem yq {f:Nat}(h:bC xs=none):eM (f+1) xs out n=none:=by
 unfold eM;rw[h]
theorem Bt {f:Nat}(h:bC xs=some none):eM (f+1) xs out n=some (out,n+1):=by
 unfold eM;rw[h]
theorem j9 (h:Below w.heap.size w w1)(j:Nat)(u:Value):Below w.heap.size w (w1.setCell ⟨w.heap.size,j,none⟩ u):=
 h.trans ((aP.set _ j u).below h.size (fun i e=>by omega))
theorem rD.put {k:Nat}(hb:Bs w v xs)(hB:Below w.heap.size w w1)(h:rD w1 w.heap.size v xs k){z:Int}(j:Nat)(hz:z=j):rD (w1.setCell ⟨w.heap.size,1,none⟩ (.int .i64 z)) w.heap.size v xs j:=by
 subst hz;exact⟨ar h.1 1 _,hb.below (j9 hB 1 _)⟩
theorem aq.put (h:aq w1 (g+1) v out)(u:Value):aq (w1.setCell ⟨g,1,none⟩ u) (g+1) v out:=
 h.stayB (aP.set g 1 u) (fun b hb e=>by have:=(aq.blk h hb).1;omega)
theorem Cp {c:Int}(h:cA c=true):(Utf8.encode c).size<=4:=by
 have h2:=qn h;generalize Utf8.encode c=e at *
 show e.data.size<=4
 rw[<-Array.length_toList,h2];exact lS c
def DV (p:List UInt8×Nat):Value:=.tuple #[.string ⟨p.1.toArray⟩,.int .i64 p.2,.nilIface]
def JY (r:Option (List UInt8×Nat))(w:World)(e:Ending)(w':World):Prop:=(∃p,r=some p/\e =.returned (DV p)/\Below w.heap.size w w')\/(r=none/\gv w e w')
def FS (R:Option (List UInt8×Nat))(xs:List UInt8)(vx:Value)(g:Nat)(w:World)(m:Nat)(s6:Value)(wr:World):Prop:=
 ∃ (f k:Nat) (out:List UInt8),m+k=xs.length/\1<=k/\m<f/\eM f (xs.drop k) out k=R/\aq wr (g+1) s6 out/\out.length<=4*k/\rD wr g vx xs k/\Below g w wr
theorem o9 (hb:Bs w v xs)(hG:cD w aU aE)(hQ:aO w 22)(hS:aO w 27)(hU:aO w 28)(hC:aO w 24)(hl:xs.length<=1000000000):Calls Tryz.prog 217 #[v] w (JY (jI xs) w):=by
 obtain⟨hm,A,cap,rfl,d6,a0⟩:=id hb;obtain⟨aQ,e5⟩:=hQ;obtain rfl|⟨x,t,hx⟩:xs = []\/∃x t,xs=x::t:=by
  cases xs with
  |nil=>exact .inl rfl
  |cons x t=>exact .inr ⟨x,t,rfl⟩
 ·clear a0 hb;go_enter Tryz.func217,Tryz.ntmps217;go_wp2_with fail;refine(a8 _ aQ _).mono ?_;rintro e w' ⟨vP,rfl,hv,hb⟩;exact⟨rfl,.inr ⟨rfl,vP,rfl,hv,hb⟩⟩
 have hlen:xs.length=t.length+1:=by rw[hx];rfl
 obtain⟨b,o,rfl,b0⟩:=a0 (by omega);have c0:=b0 0 (by omega);rw[Nat.add_zero] at c0;have b5:am xs 0=x.toNat:=by rw[hx];rfl
 rw[b5] at c0;have n0:((xs.length:Int)==0)=false:=by simp only[beq_eq_false_iff_ne];omega
 have e4:(0:Int)<xs.length:=by omega
 have e6:0<xs.length:=by omega
 by_cases h34:x=34
 case neg=>
  have n34:((x.toNat:Int) !=34)=true:=by
   simp only[bne_iff_ne,ne_eq];intro e;exact h34 (UInt8.toNat_inj.1 (by show x.toNat=34;omega))
  have Hn:=Qa (show jI xs=none by rw[hx];unfold jI;split <;> first|rfl|(rename_i e;injection e with e _;exact absurd e h34));clear hx hlen h34 b0 a0 hb b5;go_enter Tryz.func217,Tryz.ntmps217;go_wp2_with fail;refine(a8 _ aQ _).mono ?_;rintro e w' ⟨vP,rfl,hv,hb⟩;exact⟨rfl,.inr ⟨Hn.out,vP,rfl,hv,hb⟩⟩
 have n34:((x.toNat:Int) !=34)=false:=by rw[h34];rfl
 have Hr:=Qa (show eM (t.length+1) (xs.drop 1) [] 1=jI xs by rw[hx,h34];rfl);have Hb:=Qa hb;have HG:=Qa hG;have HS:=Qa hS;have HU:=Qa hU;have HC:=Qa hC;have Hlen:=Qa hlen;generalize jI xs=R at *;have Hbox:=Qa (Zf w (.cells #[.slice (some ⟨b,o,none⟩) xs.length cap,.int .i64 1] 371));have Hba:=Qa (aa w (.cells #[.slice (some ⟨b,o,none⟩) xs.length cap,.int .i64 1] 371));clear hx hlen h34 b0 a0 hb b5 hG hS hU hC;go_enter Tryz.func217,Tryz.ntmps217;go_wp2_with fail;generalize w.alloc (.cells #[.slice (some ⟨b,o,none⟩) xs.length cap,.int .i64 1] 371)=w0 at *
 go_loopg [6] (xs.length - 1) (fun m s6 wr=>FS R xs (.slice (some ⟨b,o,none⟩) xs.length cap) w.heap.size w m s6 wr)
 case atStart=>exact⟨t.length+1,1, [],by have:=Hlen.out;omega,Zb _,by have:=Hlen.out;omega,Hr.out,aq.nil _ _,Zj _,⟨Hbox.out,Hb.out.below Hba.out⟩,Hba.out⟩
 case round=>
  obtain⟨f,k,out,hmk,hk,hf,hq,ho,c6,hR,a4⟩:=hrel;have Ho:=Qa ho;have d5:=Qa c6;have HR:=Qa hR;have c5:=Qa a4;have Hq:=Qa hq;have d0:=ak hR.1;have e2:=Qa (vw hR (HG.out.below (show Below w.heap.size w wr from a4)) (HS.out.below a4) (HU.out.below a4) (HC.out.below a4) (by omega) (by omega));obtain⟨f,rfl⟩:∃f',f=f'+1:=⟨f - 1,by omega⟩;clear ho c6 hR hq a4;go_wp2_with fail;refine Za e2 ?_;rintro e w1 (⟨p,hp,rfl,a2⟩|⟨hn,vP,rfl,hv,a2⟩)
  case inr=>
   have Hn:=Qa (Hq.out.symm.trans (yq hn));have Hv:=Qa hv;have d3:=Qa (aj c5.out a2);clear hn hv a2;go_wp2_with fail;exact⟨rfl,.inr ⟨Hn.out,vP,rfl,Hv.out,d3.out⟩⟩
  have b1:=Qa (HR.out.below a2);have b2:=Qa (aj c5.out a2);have c4:=Qa (Ho.out.below a2 (Zb _));have c1:=ac b1.out.1 (j:=1) (u:=.int .i64 k) rfl;have f1:=al b1.out.1 1;have b4:w.heap.size+1<=w1.heap.size:=Nat.lt_of_lt_of_le d0 a2.size;clear a2
  cases p with
  |none=>
   have Hn:=Qa (Hq.out.symm.trans (Bt hp));have d1:=oq hp;rw[List.length_drop] at d1;clear hp;rw[show JJ none =.tuple #[.int .i32 0,.int .i64 1,.bool false] from rfl];have e1:(k:Int)+1= ((k+1:Nat):Int):=by omega
   have b3:=Qa (b1.out.put Hb.out b2.out (k+1) e1);have a5:=Qa (c4.out.put (.int .i64 ((k:Int)+1)));have a9:=Qa (j9 b2.out 1 (.int .i64 ((k:Int)+1)));have s1:IntKind.i64.wrap ((k:Int)+1)= (k:Int)+1:=IntWalk.i64_in _ (by omega);clear e1;go_wp2_with fail;have c2:=ac b3.out.1 (j:=1) (u:=.int .i64 (k+1:Nat)) rfl;have a3:(w1.setCell ⟨w.heap.size,1,none⟩ (.int .i64 ((k:Int)+1))).drew.cell? ⟨w.heap.size,1,none⟩=some (.int .i64 (k+1:Nat))/\(convert 28 9 u6).run Tryz.prog (w1.setCell ⟨w.heap.size,1,none⟩ (.int .i64 ((k:Int)+1))).drew =.ok (.string ⟨out.toArray⟩) (w1.setCell ⟨w.heap.size,1,none⟩ (.int .i64 ((k:Int)+1))).drew:=⟨c2,aI (aq.bs (aq.drewN a5.out 1))⟩;generalize w1.setCell ⟨w.heap.size,1,none⟩ (.int .i64 ((k:Int)+1))=w2 at *;clear c1 f1 c2;refine bF (fun w'=>w'.cell? ⟨w.heap.size,1,none⟩=some (.int .i64 (k+1:Nat))/\(convert 28 9 u6).run Tryz.prog w' =.ok (.string ⟨out.toArray⟩) w') (a3) fun a1=>?_
   refine tH 0 a1 ?_;refine tH 1 a1 ?_;refine tH 2 a1 ?_;refine tH 3 a1 ?_;refine tH 4 a1 ?_;refine tH 5 a1 ?_
   try simp only[Act.put,jP,jQ,jR]
   refine tH 6 a1 ?_;refine tH 7 a1 ?_;refine tH 8 a1 ?_
   try simp only[Act.put,jP,jQ,jR]
   refine wpAnyH_done (by kernel_rfl) (NoPanic.normal ?_) _;go_wp2_with fail;go_ret3;exact .inl ⟨(out,k+1),Hn.out,rfl,ap a9.out 1⟩
  |some p=>
   obtain⟨ca,cl⟩:=p;obtain⟨hi,e0,b9⟩:=mr hp;rw[List.length_drop] at b9
   dsimp only at hi e0 b9
   have c8:=Qa ((yr hp).symm.trans Hq.out);have Hi:=Qa hi;rw[show JJ (some (ca,cl)) =.tuple #[.int .i32 ca,.int .i64 cl,.bool true] from rfl];have b0:cl<=1000000000:=by omega
   have c7:=d5.out;have e3:k<=1000000000:=by omega
   obtain⟨z,hz⟩:∃z:Int,(k:Int)+cl=z:=⟨_,rfl⟩;have s1:IntKind.i64.wrap ((k:Int)+cl)=z:=by rw[hz];exact IntWalk.i64_in _ (by omega)
   have b3:=Qa (b1.out.put Hb.out b2.out (z:=z) (k+cl) (by omega));have a5:=Qa (c4.out.put (.int .i64 z));have a9:=Qa (j9 b2.out 1 (.int .i64 z));have d4:=Qa (show w.heap.size+1<=(w1.setCell ⟨w.heap.size,1,none⟩ (.int .i64 z)).heap.size by simpa using b4);have d2:(Utf8.encode (ca:Int)).size<=4:=Cp Hi.out;have d9:=Qa (show out.length+ (Utf8.encode (ca:Int)).size<=140737488355328 by omega);clear hp hi hz d2;go_wp2_with (at_builtin;refine bX rfl (.tmp 46) (.tmp 48) rfl (w.heap.size+1) u6 out (Utf8.encode ca) (by simp[Act.eval]) a5.out (by simp[Act.eval]) d9.out d4.out ?_;intro v' w3 h1 h2;have HK:=Qa h1;have c3:=Qa h2;clear h1 h2);have b8:Below w.heap.size w w3:=a9.out.grown c3.out a9.out.size (fun g e=>by have:=(aq.blk a5.out e).1;omega);have c9:w3.heap[w.heap.size]?=_:=ay b3.out.1 c3.out (fun e=>by have:=(aq.blk a5.out e).1;omega);have h3:FS R xs (.slice (some ⟨b,o,none⟩) xs.length cap) w.heap.size w (xs.length - (k+cl)) v' w3:=by
    refine⟨f,k+cl,out++a7 ca,by omega,by omega,by omega,?_,?_,?_,⟨c9,Hb.out.below b8⟩,b8⟩
    ·rw[<-c8.out,List.drop_drop]
    ·rw[<-qn Hi.out];exact HK.out
    ·have:=lS ca;rw[List.length_append];omega
   go_roundg (xs.length - (k+cl))
   case measure=>omega
   case rel=>exact h3
