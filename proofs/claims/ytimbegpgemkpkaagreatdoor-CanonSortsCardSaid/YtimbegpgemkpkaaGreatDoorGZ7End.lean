/- CanonSorts holds for every argument: canon.Sort of the values of up to sixty Docs, nil ones too, answers them in the order of the document, in new memory, and leaves what was handed in as it was. No further conditions. -/
import Derived.Test.YtimbegpgemkpkaaGreatDoorGZ7al
import Derived.LaidMore
import Derived.Lib.LaidU8
import Derived.Stop.LaidErr
import Derived.Lay
import Derived.Deep.OwnShut
import Derived.Test.YtimbegpgemkpkaaGreatDoorCards
import Derived.Test.YtimbegpgemkpkaaGreatDoorTie
set_option linter.unusedVariables false
set_option linter.unusedSimpArgs false
set_option maxHeartbeats 64000000
set_option maxRecDepth 100000
namespace Go.Proofs.YtimbegpgemkpkaaGreatDoor
open Go.Proofs.Tryz
open Go.RowKit Go.Shelf
variable {args:Array Value}{us:Nb}{base c cap fuel g i m n o:Nat}{e:TypeId}{v x:Value}{W W' w w':Wd}
def Bm (w:Wd)(g o i:Nat):Prop:= ∃ (ta th tb:Value) (xs:Na) (hs bs:List Int),w.cell? ⟨g,o+i*3,none⟩=some ta/\w.cell? ⟨g,o+i*3+1,none⟩=some th/\w.cell? ⟨g,o+i*3+2,none⟩=some tb/\Bs w ta xs/\Sl w th (hs.map iV)/\Sl w tb (bs.map iV)/\(∀z∈hs,-9223372036854775808<=z/\z<=9223372036854775807)/\(∀z∈bs,-9223372036854775808<=z/\z<=9223372036854775807)
theorem Bm.below (h:Bm w g o i)(hb:ge w w'):Bm w' g o i:=by
 obtain⟨ta,th,tb,xs,hs,bs,h1,h2,h3,h4,h5,h6,h7⟩:=h;exact⟨ta,th,tb,xs,hs,bs,Zg hb h1,Zg hb h2,Zg hb h3,h4.below hb,h5.below hb,h6.below hb,h7⟩
def zT (w:Wd)(v:Value)(n:Nat):Prop:=n<=9223372036854775807/\∃A c,v =.slice A n c/\n<=c/\(0<n->∃g o,A=some (no g o)/\∀i,i<n->Bm w g o i)
def MR (w:Wd)(s4 s5 s6:Value)(n:Nat)(wr:Wd):Prop:= ∃ (i:Nat) (TL VL:List Vj) (At Av:OA) (qt qv:Nat),s6 =(i:Int)/\i<=n/\s4 =.slice At i qt/\s5 =.slice Av i qv/\wr.ownsRow w.heap.size 27 1 (.slice At i qt) i (TL.map Prod.fst)/\wr.ownsRow w.heap.size 35 1 (.slice Av i qv) i (VL.map Prod.fst)/\(∀p∈TL,OT wr p.1 p.2)/\(∀p∈VL,OV (fun g=>(Value.slice Av 0 0).ownBlock≠some g) wr p.1 p.2)/\TL.map Prod.snd=VL.map Prod.snd/\ge w wr
theorem J2 {TL VL:List Vj}(ht:∀p∈TL,OT w p.1 p.2)(he:TL.map Prod.snd=VL.map Prod.snd):∀p∈VL,Ky p.2/\Lt p.2:=fun p hp=>by
 have h1:p.2∈TL.map Prod.snd:=by rw[he];exact List.mem_map.2 ⟨p,hp,rfl⟩
 obtain⟨q,hq,e⟩:=List.mem_map.1 h1;exact e▸⟨(ht q hq).ok,(ht q hq).oks⟩
theorem tV {L M:List Vj}{p q:Vj}(he:L.map Prod.snd=M.map Prod.snd)(hp:L[i]?=some p)(hq:M[i]?=some q):p.2=q.2:=by
 have h1:(L.map Prod.snd)[i]?=some p.2:=by rw[List.getElem?_map,hp];rfl
 have h2:(M.map Prod.snd)[i]?=some q.2:=by rw[List.getElem?_map,hq];rfl
 rw[he,h2] at h1;exact(Zi h1).symm
theorem Ig (a:Nc)(W:Wd):(binOp .neq 35 (.iface 37 a) (.iface 37 a)).run prog W =.ok false W:=by
 obtain⟨i,hi,hc⟩:=kc (t:=37) (by kernel_rfl);have h:=run_equalIn_string W 9998 37 a a underlying37;rw[beq_self_eq_true] at h;have h:(Op.equalIn (9996+4) 35 (.iface 37 a) (.iface 37 a)).run prog W =.ok true W:=by
  rw[Op.equalIn];simp only[Sem.run_bind,run_underlying underlying35,Result.andThen_ok];simp[typeInfo,hi,hc,h]
 simp only[binOp];simp[Op.equal,Op.maxDepth,h]
def zM:Value:=.iface 37 (.string ⟨#[98,101,104,105,110,100]⟩)
def Fd:Value:=.iface 37 (.string ⟨#[111,118,101,114]⟩)
def KR (w:Wd)(n:Nat)(s:Value)(wr:Wd):Prop:= ∃k:Nat,s =(k:Int)/\k<=n/\ge w wr
def Jt (B n:Nat)(A:OA)(w:Wd):Prop:=0<n->∃g c L,A=some (nl g)/\L.length=n/\cB B g c w L
theorem qC (hL:yQ w)(hd:zT w v n):Calls prog 3 #[v] w (LU w):=by
 obtain⟨l5,A,c,rfl,m0,hD⟩:=hd;have HD:=Qa hD;have HL:=Qa hL;have HF:=Qa (CG hL);clear hD hL
 by_cases h60:n<=60
 rotate_left
 .have d7:(60:Int)<n:=by omega
  clear h60;go_in;go_wp2_with fail;refine Za HF ?_;rintro e w1 ⟨rfl,e5⟩;have a4:=Qa e5;clear e5;go_wp2;go_ret;exact⟨rfl,a4⟩
 have d7:¬ (60:Int)<n:=by omega
 go_in;go_wp2_with fail;refine Za HF ?_;rintro e w1 ⟨rfl,e5⟩;have a4:=Qa e5;clear e5 HF;go_wp2_with fail
 go_loopw [4,5,6,7,8] (fun s4 s5 s6 _ _ wr=>MR w1 s4 s5 s6 n wr) (fun _ _ s6 _ _ _=>n - (intOf s6).toNat)
 case atStart=>exact⟨0, [], [],none,none,0,0,rfl,Zk _,rfl,rfl,⟨rfl,.inl ⟨rfl,rfl⟩⟩,⟨rfl,.inl ⟨rfl,rfl⟩⟩,(fun p hp=>nomatch hp),(fun p hp=>nomatch hp),rfl,Ze _ _⟩
 case round=>
  obtain⟨i,TL,VL,At,Av,qt,qv,rfl,hi,rfl,rfl,ht,hv,hT,hV,he,hb⟩:=hrel;have Ht:=Qa ht;have Hv:=Qa hv;have HT:=Qa hT;have HV:=Qa hV;have He:=Qa he;have Hb:=Qa hb;clear ht hv hT hV he hb
  by_cases hin:i<n
  .have d4:(i:Int)<n:=by omega
   obtain⟨g0,o0,rfl,e0⟩:=HD (by omega);obtain⟨ta,th,tb,xs,hs,bs,c0,c1,c2,b1,b2,b3,b4,b5⟩:=((e0 i hin).below a4.out).below (Hb.mono (Zb _));have HO:=Qa (Kz b1 b2 b3 b4 b5);clear e0 b1 b2 b3 b4 b5;go_wp2_with fail;refine Za HO ?_;rintro e w2 ⟨A3,n3,q3,ok,rfl,e7,ho⟩
   cases ok with
   |false=>
    have l2:=Qa (a4.trans ((Hb.trans (e7.mono Hb.size)).mono a4.size));clear e7 ho HO;go_wp2;go_ret;exact⟨rfl,l2⟩
   |true=>
    obtain⟨o,ho⟩:=ho rfl;have a1:=aa w2 (.cells #[.slice A3 n3 q3] 27);have hq:=e7.trans (a1.mono e7.size);have a7:=Qa (Hb.trans (hq.mono Hb.size));have c5:=Qa (aq Ht.out hq (Zb _));have b9:=Qa (aq Hv.out hq (Zb _));have b6:=Qa (fun p (hp:p∈TL)=>(HT p hp).below hq);have e4:=Qa (fun p (hp:p∈VL)=>(HV p hp).later hq);have h9:=Qa (ho.below a1);clear a1 hq e7 ho HO Ht Hv HT HV Hb c0 c1 c2;go_upto_region 13 with (at_builtin;refine ir ej c5.out (au w2 [.slice A3 n3 q3] 27) a7.size ?_;intro v' w4 p1 p2 p3;have P1:=Qa p1;have P2:=Qa p2;clear p1 p2 p3)
    obtain⟨At4,qt4,rfl,-⟩:=ai P1.out;have b0:=dO c5.out P2.out;have c6:=Qa (aD a7.out c5.out a7.size P2.out);have h0:=Qa (ap b9.out b0 (by decide));have f8:=Qa (h9.keeps b0 (by decide) (by decide) (by decide));have a2:=Qa (fun p (hp:p∈TL)=>(b6 p hp).keeps b0 (by decide) (by decide) (by decide));have d0:=Qa (fun p (hp:p∈VL)=>(e4 p hp).keeps b0 (fun e he=>by rcases he with rfl|rfl|rfl|rfl <;> decide));have HM:=Qa (F8 f8.out);clear b0 a7 c5 b9 b6 e4 h9 P2;go_wp2_with fail;refine Za HM ?_;rintro e w5 ⟨u,rfl,c7,hu⟩;have f7:=hu.two;have a1:=aa w5 (.cells #[u] 35);have hq:=c7.trans (a1.mono c7.size);have Hb6:=Qa (c6.trans (hq.mono c6.size));have k7:=Qa (aq P1.out hq (Zb _));have f1:=Qa (aq h0.out hq (Zb _));have k0:=Qa (fun p (hp:p∈TL ++ [(.slice A3 n3 q3,o)])=>show OT (w5.alloc (.cells #[u] 35)) p.1 p.2 from by
     rcases List.mem_append.1 hp with hp|hp
     .exact(a2 p hp).below hq
     .rw[List.mem_singleton.1 hp];exact f8.below hq)
    have l1:=Qa (fun p (hp:p∈VL ++ [(u,o)])=>show OV (fun g=>(Value.slice Av 0 0).ownBlock≠some g) (w5.alloc (.cells #[u] 35)) p.1 p.2 from by
     rcases List.mem_append.1 hp with hp|hp
     .exact(d0 p hp).later hq
     .rw[List.mem_singleton.1 hp];exact(hu.later a1).imp fun g hg _ e=>by
       have h1:=(World.ownsRow.lt h0 g (by cases Av with|none=>cases e|some a=>exact e)).2;have:w4.heap.size<=g:=hg;omega)
    have k5:=Qa (au w5 [u] 35);clear a1 hq c7 hu HM P1 c6 h0 f8 a2 d0;rcases f7 with rfl|⟨tx,qx,rfl⟩
    all_goals
     go_wp2_with (at_builtin;refine ir sv f1.out k5.out Hb6.size ?_;intro v' w7 p1 p2 p3;have P4:=Qa p1;have P5:=Qa p2;have P6:=Qa p3;clear p1 p2 p3);obtain⟨Av7,qv7,rfl,-⟩:=ai P4.out;have j1:=dO f1.out P5.out;refine⟨⟨i+1,TL ++ [(.slice A3 n3 q3,o)],VL ++ [(_,o)],At4,Av7,qt4,qv7,by go_num,by omega,rfl,rfl,?_,?_,fun p hp=>(k0 p hp).keeps j1 (by decide) (by decide) (by decide),fun p hp=>AH f1.out P5.out P6.out (l1 p hp),by rw[List.map_append,List.map_append,He.out];rfl,aD Hb6.out f1.out Hb6.size P5.out⟩,by simp[intOf];omega⟩
     .rw[List.map_append];exact ap k7.out j1 (by decide)
     .rw[List.map_append];exact P4.out
  .have d4:¬ (i:Int)<n:=by omega
   obtain rfl:i=n:=by omega
   clear d4 hin hi d7;have h2:TL.length=i:=by have:=Ht.1;rw[List.length_map] at this;omega
   have j0:VL.length=i:=by have:=Hv.1;rw[List.length_map] at this;omega
   have a1:=aa wr (.cells #[zM] 35);have a7:=Qa (Hb.trans (a1.mono Hb.size));have c5:=Qa (aq Ht.out a1 (Zb _));have b9:=Qa (aq Hv.out a1 (Zb _));have b6:=Qa (fun p (hp:p∈TL)=>(HT p hp).below a1);have e4:=Qa (fun p (hp:p∈VL)=>(HV p hp).later a1);have Hn:=NA h2 j0;have h7:=Qa (au wr [zM] 35);have f3:=Qa (J2 HT.out He.out);clear a1 Ht Hv HT HV h2 j0 HD;unfold zM at *;go_upto_region 15 with (at_builtin;refine ir sv b9.out h7.out a7.size ?_;intro v' w4 p1 p2 p3;have P1:=Qa p1;have P2:=Qa p2;have P3:=Qa p3;clear p1 p2 p3)
   obtain⟨Av4,qv4,rfl,h6,-⟩:=ai P1.out;obtain⟨gv,rfl⟩:=eb P1.out (by omega);have b0:=dO b9.out P2.out;have c6:=Qa (aD a7.out b9.out a7.size P2.out);have f5:=Qa (ap c5.out b0 (by decide));have a2:=Qa (fun p (hp:p∈TL)=>(b6 p hp).keeps b0 (by decide) (by decide) (by decide));have d0:=Qa (fun p (hp:p∈VL)=>AH b9.out P2.out P3.out (e4 p hp));have cb:=World.ownsRow.cellAt P1.out i (by omega);rw[List.getElem?_append_right (by rw[List.length_map,Hn.out.2];exact Zb _),List.length_map,Hn.out.2,Nat.sub_self] at cb;have cb:w4.cell? (no gv i)=some zM:=cb;have g5:=(Fx (S:=VL ++ [(zM,none)]) (S1:=VL) (S2:= [(zM,none)]) rfl (by rw[List.length_append,Hn.out.2]) (by have:=Sl.of_own P1.out;rw[List.map_append];exact this) (by have:=P1.out;rw[List.map_append];exact this)).1;obtain⟨⟨aU,aE,hE⟩,hM,hP,-⟩:=HL.below (a4.trans (c6.mono a4.size));have HS:=Qa (ES g5 (fun p hp=>⟨d0 p hp,(f3 p hp).1⟩) (by rw[Hn.out.2];omega) hP hE.glob);have HW:=Qa (a4.trans (c6.mono a4.size));have RV4:=Qa (Kt.of g5 fun p hp=>⟨(d0 p hp).imp fun _ _ _=>trivial,(f3 p hp).2⟩);have RO4:=Qa (IZ.of (Sl.of_own f5) a2.out);have HR:=Qa (fun w5 (hb:ge w4 w5)=>vQ (L:=TL) ((Sl.of_own f5).below hb) (fun p hp=>(a2 p hp).below hb) (by rw[Hn.out.1];omega));have i2:=Qa cb;have l3:(i:Int)<=qv4:=by omega
   unfold I3 at HS;rw[Hn.out.2] at HS;clear b0 cb g5 hE hM hP a2 d0 f5 c6 P1 P2 P3 a7 c5 b9 b6 e4 h7 HL a4 Hb;go_wp2_with fail;refine Za HS ?_;rintro e w5 ⟨Ag,cg,S,rfl,c7,i4,i5,j2⟩;have h5:=Qa (HR w5 c7);have H5:=x7 c7 i4 i5 j2;clear c7 i4 i5 j2 HS HR;go_wp2_with fail;refine Za h5 ?_;rintro e w6 ⟨u,S',rfl,f4,f2,h8,c8⟩;obtain⟨k6,Au,cu,rfl,k4,f6⟩:=id c8;have a3:=H5.1.trans (f4.mono H5.1.size);have RG:Hid (Kt w6 Ag S):=Qa fun j p hp=>by
    have hj:=(List.getElem?_eq_some_iff.1 hp).1;have l4:S.length=i:=by rw[H5.out.2.1.length_eq];exact Hn.2
    obtain⟨g,c',e,hr⟩:=H5.2.2.2 (by omega);have k3:=hr.below f4;have hm:=H5.2.1.mem_iff.1 (Zl hp);obtain⟨jj,g8⟩:=List.getElem?_of_mem hm;obtain⟨-,-,-,-,h3,h4⟩:=(RV4.below a3) jj p g8;exact⟨g,0,e,by rw[Nat.zero_add];exact(k3.cell hp).1,h3,h4⟩
   have RU:Hid (IZ w6 Au S'):=Qa (IZ.of c8 fun p hp=>by
    obtain⟨jj,g8⟩:=List.getElem?_of_mem (f2.mem_iff.1 hp);obtain⟨-,-,-,-,h3⟩:=(RO4.below a3) jj p g8;exact h3)
   have HG:Hid (0<i->∃g c',Ag=some (nl g)/\cB w4.heap.size g c' w6 S):=Qa fun h=>by
    obtain⟨g,c',e,hr⟩:=H5.2.2.2 h;exact⟨g,c',e,hr.below f4⟩
   have HE:=Qa (FA H5.2.2.1 h8 H5.2.1 f2 He.out fun p hp=>(f3 p hp).1);have f0:=Qa (show S.length=i/\S'.length=i from⟨by rw[H5.out.2.1.length_eq];exact Hn.2,by rw[f2.length_eq];exact Hn.1⟩);have a0:=Qa a3;have cb:=Zg a3 i2.out;unfold zM at cb;have hne:((i:Int) !=i)=false:=by simp
   have i9:=Ig ⟨#[98,101,104,105,110,100]⟩;have l0:(0:Int)<=i/\(i:Int)< (i:Int)+1:=by omega
   clear k6 k4 f6 f4 f2 h8 c8 a3 H5 h5 i2 f3;go_wp2_with fail
   go_loopw [12,13,14,15,16,17,18] (fun s12 _ _ _ _ _ _ wr=>KR w6 i s12 wr) (fun s12 _ _ _ _ _ _ _=>i - (intOf s12).toNat)
   case atStart=>exact⟨0,rfl,Zk _,Ze _ _⟩
   case round=>
    obtain⟨k,rfl,hk,hb⟩:=hrel
    by_cases hki:k<i
    .obtain⟨q,hq⟩:=y8 S k (by have:=f0.out;omega);obtain⟨s,hs⟩:=y8 S' k (by have:=f0.out;omega);obtain⟨p,hp⟩:=y8 VL k (by have:=Hn.out;omega);obtain⟨t,ht⟩:=y8 TL k (by have:=Hn.out;omega);obtain⟨g1,o1,rfl,c1,v1,k1⟩:=(RG.below hb) k q hq;obtain⟨g2,o2,e2,c2,v2,k2⟩:=(RV4.below (a0.trans (hb.mono a0.size))) k p hp;obtain⟨rfl,rfl⟩:gv=g2/\0=o2:=by simpa using e2
     rw[Nat.zero_add] at c2;obtain⟨g3,o3,rfl,c3,t3⟩:=(RU.below hb) k s hs;obtain⟨g4,o4,rfl,c4,t4⟩:=(RO4.below (a0.trans (hb.mono a0.size))) k t ht;have e1:=tV HE.out hq hs;have e2:=tV He.out ht hp;rw[<-e1] at t3;rw[e2] at t4;have e8:=Qa (sM v1 k1);have j5:=Qa (fun w' (c9:ge wr w')=>sM (v2.later c9) k2);have b6:=Qa (fun w' (c9:ge wr w')=>(t3.below c9).fl);have a2:=Qa (fun w' (c9:ge wr w')=>(t4.below c9).fl);have C2:=NB c2 c3 c4;have Hb:=Qa hb;have g6:(k:Int)<i:=by omega
     have g7:(k:Int)< (i:Int)+1:=by omega
     have hkl:(k:Int)<S'.length:=by have:=f0.out;omega
     clear hq hs hp ht e1 e2 v1 v2 k1 k2 t3 t4 c2 c3 c4 hb cb i9;go_wp2_with fail;refine Za e8 ?_;rintro e w7 ⟨A7,n7,q7,b7,rfl,a6,e3⟩;have c2:=Zg a6 C2.1;have d3:=Qa (j5 w7 a6);have H7:=NA a6 e3;clear a6 e3 e8 j5 c1;go_wp2_with fail;refine Za d3 ?_;rintro e w8 ⟨A8,n8,q8,b8,rfl,d1,i0⟩;have a9:=H7.1.trans (d1.mono H7.1.size);have c3:=Zg a9 C2.2.1;have i8:=Qa (pZ (H7.2.below d1 (Zb _)) (b6 w8 a9));have H8:=NA a9 i0;clear d1 i0 a9 d3 H7 c2 b6;go_wp2_with fail;refine Za i8 ?_;rintro e w9 ⟨rfl,f9⟩;have a5:=H8.1.trans (f9.mono H8.1.size);have c4:=Zg a5 C2.2.2;have e6:=Qa (pZ (H8.2.below f9 (Zb _)) (a2 w9 a5));have H9:=Qa a5;clear f9 a5 i8 H8 c3 a2;go_wp2_with fail;refine Za e6 ?_;rintro e w10 ⟨rfl,d6⟩;have k9:=Qa (H9.trans (d6.mono H9.size));clear d6 e6 H9 c4;go_wp2_with fail;exact⟨⟨k+1,by go_num,by omega,Hb.trans (k9.mono Hb.size)⟩,by simp[intOf];omega⟩
    .have g6:¬ (k:Int)<i:=by omega
     have Hb6:=Qa (a0.trans (hb.mono a0.size));have HG6:=Qa (show Jt w4.heap.size i Ag wr from fun h=>by
      obtain⟨g,c',e,hr⟩:=HG h;exact⟨g,c',S,e,f0.1,hr.below hb⟩)
     clear hb cb RG RU HG HE a0 hne i9 l0 hki hk;go_wp2_with fail
     go_loopw [19] (fun s19 wq=>(∃k:Nat,s19 =(k:Int)/\k<=i)/\ge w4 wq/\Jt w4.heap.size i Ag wq) (fun s19 _=>i - (intOf s19).toNat)
     case atStart=>exact⟨⟨0,rfl,Zk _⟩,Hb6,HG6⟩
     case round=>
      clear Hb6 HG6;obtain⟨⟨k,rfl,hk⟩,hb,hG⟩:=hrel
      by_cases hki:k<i
      .obtain⟨g,c',L',rfl,i3,hr⟩:=hG (by omega);obtain⟨y,hy⟩:=y8 L' k;obtain⟨ck,fk⟩:=hr.cell hy;have j3:=hr.lt.1;have d5:=Qa (show ge w4 (wr.setCell (no g k) Fd)/\Jt w4.heap.size i (some (nl g)) (wr.setCell (no g k) Fd) from⟨hb.setCell j3 _,fun _=>⟨g,c',L'.set k (Fd,none),rfl,by rw[List.length_set];exact i3,hr.set k (Fd,none)⟩⟩);have d9:(k:Int)<i:=by omega
       clear hr hb hG i3 j3 hy;unfold Fd at d5;go_wp2_with fail;exact⟨⟨⟨k+1,by go_num,by omega⟩,d5.out⟩,by simp[intOf];omega⟩
      .have d9:¬ (k:Int)<i:=by omega
       have Hb6:=Qa hb;clear hb hG hki hk;go_wp2_with fail
       go_loopw [20,21,22,23] (fun s20 _ _ _ wq=>(∃k:Nat,s20 =(k:Int)/\k<=i)/\ge w4 wq) (fun s20 _ _ _ _=>i - (intOf s20).toNat)
       case atStart=>exact⟨⟨0,rfl,Zk _⟩,Hb6⟩
       case round=>
        clear Hb6;obtain⟨⟨k,rfl,hk⟩,hb⟩:=hrel
        by_cases hki:k<i
        .obtain⟨p,hp⟩:=y8 VL k (by have:=Hn.out;omega);obtain⟨t,ht⟩:=y8 TL k (by have:=Hn.out;omega);obtain⟨g2,o2,e2,c2,v2,k2⟩:=(RV4.below hb) k p hp;obtain⟨rfl,rfl⟩:gv=g2/\0=o2:=by simpa using e2
         rw[Nat.zero_add] at c2;obtain⟨g4,o4,rfl,c4,t4⟩:=(RO4.below hb) k t ht;have e2:=tV He.out ht hp;rw[e2] at t4;have e8:=Qa (sM v2 k2);have a2:=Qa (fun w' (c9:ge wr w')=>(t4.below c9).fl);have C4:=Qa c4;have Hb:=Qa hb;have d2:(k:Int)<i:=by omega
         have g7:(k:Int)< (i:Int)+1:=by omega
         clear hp ht e2 v2 k2 t4 c4 hb;go_wp2_with fail;refine Za e8 ?_;rintro e w7 ⟨A7,n7,q7,b7,rfl,a6,e3⟩;have c4:=Zg a6 C4.out;have e6:=Qa (pZ e3 (a2 w7 a6));have H7:=Qa a6;clear a6 e3 e8 a2 c2;go_wp2_with fail;refine Za e6 ?_;rintro e w8 ⟨rfl,d1⟩;have H8:=Qa (H7.trans (d1.mono H7.size));clear d1 e6 c4 H7;go_wp2_with fail;exact⟨⟨⟨k+1,by go_num,by omega⟩,Hb.trans (H8.mono Hb.size)⟩,by simp[intOf];omega⟩
        .have d2:¬ (k:Int)<i:=by omega
         have g9:=Qa (HW.trans (hb.mono HW.size));clear hb;go_wp2;go_ret;exact⟨rfl,g9⟩
open Go.ChangeShapes Go.WideShapes Go.ChangeAt Go.WideMaps Go.WideElems Go.Lib
abbrev gP:List (String×DataW Unit):=Rows.canonSortsRow.laid
theorem mM:prog.cellsOf 427=1:=by kernel_rfl
theorem lG:prog.cellsOf 9=1:=by kernel_rfl
theorem zO:∀u,prog.typeName? 3 u=some "*errors.errorString" ->u=425:=typeName_ptr_named (nm:= "errors.errorString") (by kernel_rfl) (by kernel_rfl) (by decide)
theorem xS {H:Type}{enc:TypeId×Value->H}{P:Program}{sp:Nat->Bool}{a0:Bool}{t:TypeId}{cs:Nb}{ds:List (DataW H)}{p:List MemPlace}
  (ht:P.underlying t=some (.array n e)) (a4:P.cellsOf e=c) (a3:P.cellsOf t=n*c) (h:DataW.trod enc P w base sp a0 (fuel+1) t cs=some (.agg ds,p)) :
  ds.length=n/\∀ (i:Nat) (d:DataW H),ds[i]?=some d->∃q,DataW.trod enc P w base sp a0 fuel e ((cs.drop (i*c)).take c)=some (d,q):=by
 simp only[DataW.trod,ht,a4,a3] at h
 split at h
 .obtain⟨xs,hm,hx⟩:=Option.map_eq_some_iff.1 h;have a1:xs.map (·.1)=ds:=by
   have:=congrArg Prod.fst hx;simpa using this
  have a2:xs.length=n:=by simpa using mapM_length hm
  refine⟨by rw[<-a1];simpa using a2,fun i d hd=>?_⟩;have hi:i<n:=by
   rw[<-a1] at hd;have:=(List.getElem?_eq_some_iff.1 hd).1;simpa [a2] using this
  obtain⟨b,hb,hf⟩:=mapM_at hm i i (by simp[hi]);rw[<-a1,List.getElem?_map,hb] at hd;obtain rfl:=Zi hd;exact⟨b.2,hf⟩
 .cases h
section
variable {W:Wd}
theorem iu {n:String}{text:Na}(h:laidMet prog [(n,.iface "*errors.errorString" (.ptr (.agg [.lit (.string text)])))] W)(hg:prog.globalNamed n=some g)(ht:(prog.globals[g]?).map (·.type)=some 44):bG W g:=by
 obtain⟨a,s,hv,-⟩:=laid_sentinel h hg ht underlying44 zO underlying425 underlying427 rfl rfl underlying9 mM lG;exact⟨a,by simpa using World.var?_cell hg hv 0⟩
theorem eH {n:String}{d:DataW Unit}(h:laidMet prog gP W)(hl:gP.filter (fun x=>x.1==n) = [(n,d)]):laidMet prog [(n,d)] W:=by
 rw[<-hl];exact h.filter _
theorem Fu {n:String}{d:DataW Unit}{t:TypeId}(h:laidMet prog [(n,d)] W)(hg:prog.globalNamed n=some g)(ht:(prog.globals[g]?).map (·.type)=some t):∃ (cs:Array Value) (fuel:Nat) (p:List MemPlace),(∀i:Nat,W.cell? (no g i)=cs[i]?)/\DataW.trod (fun _=>()) prog W 0 (fun _=>true) false fuel t cs.toList=some (d,p):=by
 obtain⟨ps,⟨g',t',cs,fuel,p,q,a1,a2,a0,hd,_,_⟩,_⟩:=h;obtain rfl:=Zi (hg.symm.trans a1);obtain rfl:=Zi (ht.symm.trans a2);exact⟨cs,fuel,p,fun i=>World.var?_cell hg a0 i,hd⟩
theorem pF {n:String}{l:List (Na)}{t:TypeId}(h:laidMet prog [(n,.agg (l.map fun s=>.lit (.string s)))] W)(hg:prog.globalNamed n=some g)(ht:(prog.globals[g]?).map (·.type)=some t)(hu:prog.underlying t=some (.array m 9))(hc:prog.cellsOf t=m*1) :
  ∀ (i:Nat) (s:Na),l[i]?=some s->W.cell? (no g i)=some (.string ⟨s.toArray⟩):=by
 obtain⟨cs,fuel,p,a0,hd⟩:=Fu h hg ht;intro i s hs
 cases fuel with
 |zero=>simp[DataW.trod] at hd
 |succ fuel=>
  obtain⟨-,hat⟩:=xS hu lG hc hd;obtain⟨q,hq⟩:=hat i (.lit (.string s)) (by rw[List.getElem?_map,hs];rfl);obtain⟨z,e1,e2,-⟩:=DataW.trod_string underlying9 hq;have hz:s=z.data.toList:=by
   have:=congrArg Prod.fst e2;simpa using this
  rw[a0];have:=congrArg (·[0]?) e1;rw[hz];simpa [List.getElem?_take,List.getElem?_drop] using this
theorem Iv (h:laidMet prog gP W):qp W:=by
 obtain⟨cs,fuel,p,a0,hd⟩:=Fu (g:=15) (t:=387) (eH h (n:= "wicket/dec.goes") (d:=Rows.laid_wicket_dec_goes) (by kernel_rfl)) (by kernel_rfl) (by kernel_rfl)
 cases fuel with
 |zero=>simp[DataW.trod] at hd
 |succ fuel=>
  rw[show(Rows.laid_wicket_dec_goes:DataW Unit) =.agg ((List.range 9).map fun i=>tabData .u8 ((List.range 6).map fun k=>((px.getD (i*6+k) 9:Nat):Int))) by kernel_rfl] at hd;obtain⟨-,hat⟩:=xS (c:=6) underlying387 (by kernel_rfl) (by kernel_rfl) hd;intro i hi;obtain⟨q,hq⟩:=hat (i/6) (tabData .u8 ((List.range 6).map fun k=>((px.getD (i/6*6+k) 9:Nat):Int))) (by rw[List.getElem?_map,List.getElem?_range (by omega)];rfl);have e:=cells_of_tab underlying386 underlying5 (by kernel_rfl) (by kernel_rfl) hq;have:=congrArg (·[i % 6]?) e;simp only[List.getElem?_take,List.getElem?_drop,List.getElem?_map,if_pos (show i % 6<6 by omega),List.getElem?_range (show i % 6<6 by omega),Option.map_some,show i/6*6+i % 6=i by omega] at this;rw[a0,<-Array.getElem?_toList];exact this
theorem Cg (h:laidMet prog gP W):mQ W:=by
 have hs:=pF (l:=qG) (g:=9) (t:=351) (m:=6) (n:= "wicket/lex.begins") (eH h (by kernel_rfl)) (by kernel_rfl) (by kernel_rfl) underlying351 (by kernel_rfl);intro i hi;refine hs i (qG.getD i []) ?_;rw[List.getD_eq_getElem?_getD,Zd (by exact hi)];rfl
theorem Is (h:laidMet prog gP W):lT W:=by
 have hs:=pF (l:=(List.range 8).map Cr) (g:=8) (t:=330) (m:=8) (n:= "wicket/parse.may") (eH h (by kernel_rfl)) (by kernel_rfl) (by kernel_rfl) underlying330 (by kernel_rfl);intro i hi;exact hs i (Cr i) (by rw[List.getElem?_map,List.getElem?_range hi];rfl)
theorem Ka (h:laidMet prog gP W):dh W:=by
 have h1:=eH h (n:= "internal/strconv.uint64pow10") (d:=tabData .u64 pow10Tab) (by kernel_rfl);exact tabIs_of_head (g:=11) (t:=365) (e:=275) (n:=20) (by kernel_rfl) (by kernel_rfl) underlying365 underlying275 (by kernel_rfl) (by kernel_rfl) h1
theorem Gi (h:laidMet prog gP W):∃aU aE,cG W aU aE:=by
 have h:laidMet prog [("wicket/api.ErrUTF",Rows.laid_wicket_api_ErrUTF),("wicket/api.ErrEnd",Rows.laid_wicket_api_ErrEnd),("wicket/utf.lengths",Rows.laid_wicket_utf_lengths)] W:=by
  have:=h.filter fun x=>x.1 == "wicket/api.ErrUTF" || (x.1 == "wicket/api.ErrEnd" || x.1 == "wicket/utf.lengths")
  rwa[show(gP.filter fun x=>x.1 == "wicket/api.ErrUTF" || (x.1 == "wicket/api.ErrEnd" || x.1 == "wicket/utf.lengths")) = [("wicket/api.ErrUTF",Rows.laid_wicket_api_ErrUTF),("wicket/api.ErrEnd",Rows.laid_wicket_api_ErrEnd),("wicket/utf.lengths",Rows.laid_wicket_utf_lengths)] by kernel_rfl] at this
 have gUTF:prog.globalNamed "wicket/api.ErrUTF" = some 5:=by kernel_rfl
 have gEnd:prog.globalNamed "wicket/api.ErrEnd" = some 4:=by kernel_rfl
 have gLen:prog.globalNamed "wicket/utf.lengths" = some 7:=by kernel_rfl
 have tUTF:(prog.globals[5]?).map (·.type)=some 44:=by kernel_rfl
 have tEnd:(prog.globals[4]?).map (·.type)=some 44:=by kernel_rfl
 have tLen:(prog.globals[7]?).map (·.type)=some 325:=by kernel_rfl
 obtain⟨ps,⟨g0,t0,cs0,f0,p0,q0,a3,b5,a7,c2,⟨g1,t1,cs1,f1,p1,q1,a4,b7,b0,b1,⟨g2,t2,cs2,f2,p2,q2,a9,b8,b9,c3,b6,e2⟩,e1⟩,e0⟩,b3,a2⟩:=h;obtain rfl:=Zi (gUTF.symm.trans a3);obtain rfl:=Zi (gEnd.symm.trans a4);obtain rfl:=Zi (gLen.symm.trans a9);obtain rfl:=Zi (tUTF.symm.trans b5);obtain rfl:=Zi (tEnd.symm.trans b7);obtain rfl:=Zi (tLen.symm.trans b8);have a6:q2 = []:=b6;subst a6 e2 e1 e0;obtain⟨l0⟩:=cs0;obtain⟨l1⟩:=cs1;obtain⟨l2⟩:=cs2;have ok0:∀u v,l0 = [.iface u v]->Value.okWide prog W .any 0 u v:=fun u v e=>by
  subst e;exact(a2 5 0 (by simp[MemPlace.row])).2 u v (by simpa using World.var?_cell a3 a7 0)
 have ok1:∀u v,l1 = [.iface u v]->Value.okWide prog W .any 0 u v:=fun u v e=>by
  subst e;exact(a2 4 0 (by simp[MemPlace.row])).2 u v (by simpa using World.var?_cell a4 b0 0)
 obtain⟨a0,s0,rfl,c9,c4,c7,rfl⟩:=errorString_of_trod underlying44 zO underlying425 underlying427 rfl rfl underlying9 mM lG c2 ok0;obtain⟨a1,s1,rfl,c5,c8,c6,rfl⟩:=errorString_of_trod underlying44 zO underlying425 underlying427 rfl rfl underlying9 mM lG b1 ok1;obtain⟨c0,t0,b2⟩:=(a2 a0.block a0.off (by simp[MemPlace.row])).1;obtain⟨c1,t1,b4⟩:=(a2 a1.block a1.off (by simp[MemPlace.row])).1;have a5:=cells_of_tab (zs:=fK) underlying325 underlying324 (by kernel_rfl) (by kernel_rfl) c3;subst a5;refine⟨a0,a1,by simpa using World.var?_cell a3 a7 0,by simpa using World.var?_cell a4 b0 0,fun i hi=>?_,⟨c0,t0,b2⟩,⟨c1,t1,b4⟩,?_⟩
 .have:=World.var?_cell a9 b9 i;rw[this];have:i<fK.length:=hi;simp[Zd this]
 .rintro rfl;simp[MemPlace.row] at b3
theorem JG (h:laidMetH prog gP W):yQ W:=by
 rw[MakeChecks.laidMetH_plain _ _ _ (by kernel_rfl)] at h;obtain⟨aU,aE,hg⟩:=Gi h;exact⟨⟨aU,aE,⟨hg,Iv h,Cg h,iu (g:=12) (eH h (n:= "wicket/api.ErrNumber") (d:=Rows.laid_wicket_api_ErrNumber) (by kernel_rfl)) (by kernel_rfl) (by kernel_rfl),iu (g:=13) (eH h (n:= "wicket/api.ErrExponent") (d:=Rows.laid_wicket_api_ErrExponent) (by kernel_rfl)) (by kernel_rfl) (by kernel_rfl),iu (g:=14) (eH h (n:= "wicket/api.ErrQuote") (d:=Rows.laid_wicket_api_ErrQuote) (by kernel_rfl)) (by kernel_rfl) (by kernel_rfl),iu (g:=19) (eH h (n:= "wicket/api.ErrEscape") (d:=Rows.laid_wicket_api_ErrEscape) (by kernel_rfl)) (by kernel_rfl) (by kernel_rfl),iu (g:=20) (eH h (n:= "wicket/api.ErrSurrogate") (d:=Rows.laid_wicket_api_ErrSurrogate) (by kernel_rfl)) (by kernel_rfl) (by kernel_rfl),iu (g:=18) (eH h (n:= "wicket/api.ErrControl") (d:=Rows.laid_wicket_api_ErrControl) (by kernel_rfl)) (by kernel_rfl) (by kernel_rfl)⟩⟩,Is h,Ka h,iu (g:=0) (eH h (n:= "wicket/api.ErrNil") (d:=Rows.laid_wicket_api_ErrNil) (by kernel_rfl)) (by kernel_rfl) (by kernel_rfl),iu (g:=2) (eH h (n:= "wicket/api.ErrTwice") (d:=Rows.laid_wicket_api_ErrTwice) (by kernel_rfl)) (by kernel_rfl) (by kernel_rfl),iu (g:=1) (eH h (n:= "wicket/api.ErrHidden") (d:=Rows.laid_wicket_api_ErrHidden) (by kernel_rfl)) (by kernel_rfl) (by kernel_rfl),iu (g:=3) (eH h (n:= "wicket/api.ErrSyntax") (d:=Rows.laid_wicket_api_ErrSyntax) (by kernel_rfl)) (by kernel_rfl) (by kernel_rfl)⟩
end
theorem Tryz.laidOut:laidOutB prog=true:=by kernel_rfl
theorem Tryz.own:ownKnob prog.godebug=none:=by kernel_rfl
theorem M0:mapsRowed prog=true:=by kernel_rfl
theorem Mh:prog.stopsHeard=true:=by kernel_rfl
theorem L8:prog.mayEnter=true:=by kernel_rfl
theorem ep {a b:Bool}(ha:a=true)(hb:b=true):(a&&b)=true:=by rw[ha,hb];rfl
theorem Io:prog.cellsOf 5=1:=by kernel_rfl
theorem Du:prog.cellsOf 3=1:=by kernel_rfl
section
variable {H:Type}{enc:TypeId×Value->H}
theorem wY {a:Addr}{len:Nat}(hlen:us.length=len)(hl:len<=cap)(hm:len<=9223372036854775807)(h:∀i u,us[i]?=some u->W.cell? (a.add i)=some u)(hn:len<=n):Sl W (.slice (some a) len cap) us:=by
 refine⟨by omega,some a,cap,by rw[hlen],by omega,fun h0=>?_⟩;obtain⟨u0,a1⟩:∃u,us[0]?=some u:=⟨_,Zd h0⟩;have a0:=h 0 u0 a1;obtain⟨b,o,sp⟩:=a;have a2:sp=none:=by
  cases sp with
  |none=>rfl
  |some s=>exfalso;simp[Addr.add,World.cell?] at a0;split at a0 <;> simp at a0
 subst a2;refine⟨b,o,rfl,fun i u hi=>?_⟩;have h1:=h i u hi;have e1:(⟨b,o,none⟩:Addr).add i= ⟨b,o+i,none⟩:=by unfold Addr.add;split <;> simp_all
 rwa[e1] at h1
theorem yF {d:DataW H×List MemPlace}(hf:DataW.trod enc prog W 0 (fun _=>true) true fuel 30 [x]=some d):∃xs,Bs W x xs:=by
 rcases open_ints underlying30 underlying5 Io hf with ⟨a2,hx⟩|⟨a,len',cap',zs,a2,_,hl,hm,hz,hx,a0,a5⟩
 .obtain rfl:=List.cons.inj a2 |>.1;exact⟨[],⟨by simp,none,0,rfl,Zb _,fun h=>by simp at h⟩⟩
 .obtain rfl:=List.cons.inj a2 |>.1;simp only[if_true] at hz;have a1:((zs.take len').map fun z=>UInt8.ofNat z.toNat).length=len':=by simp;omega
  have a4:∀i,i<zs.length->W.cell? (a.add i)=some (.int .u8 (zs.getD i 0)):=a0;refine⟨(zs.take len').map fun z=>UInt8.ofNat z.toNat,⟨by rw[a1];unfold maxLen at hm;omega,some a,cap',by rw[a1],by rw[a1];exact hl,fun h0=>?_⟩⟩;rw[a1] at h0;have a3:=a0 0 (by omega);obtain⟨b,o,sp⟩:=a;have a6:sp=none:=by
   cases sp with
   |none=>rfl
   |some s=>exfalso;simp[Addr.add,World.cell?] at a3;split at a3 <;> simp at a3
  subst a6;refine⟨b,o,rfl,fun i hi=>?_⟩;rw[a1] at hi;have h1:=a0 i (by omega);have e1:(⟨b,o,none⟩:Addr).add i= ⟨b,o+i,none⟩:=by unfold Addr.add;split <;> simp_all
  rw[e1] at h1;rw[h1];have a7:0<=zs.getD i 0/\zs.getD i 0<=255:=bounds_u8 (a5 (zs.getD i 0) (by rw[List.getD_eq_getElem?_getD,Zd (show i<zs.length by omega)];exact List.getElem_mem _));have e2:(((ar ((zs.take len').map fun z=>UInt8.ofNat z.toNat) i:Nat)):Int)=zs.getD i 0:=by
   unfold ar;have:((zs.take len').map fun z=>UInt8.ofNat z.toNat).getD i 0=UInt8.ofNat (zs.getD i 0).toNat:=by
    simp[List.getElem?_take,hi,Zd (show i<zs.length by omega)]
   rw[this];exact aM _ (by omega)
  rw[e2]
theorem lI {d:DataW H×List MemPlace}(hf:DataW.trod enc prog W 0 (fun _=>true) true fuel 31 [x]=some d):∃zs:List Int,Sl W x (zs.map iV)/\∀z∈zs,-9223372036854775808<=z/\z<=9223372036854775807:=by
 rcases open_ints underlying31 underlying3 Du hf with ⟨a2,hx⟩|⟨a,len',cap',zs,a2,_,hl,hm,hz,hx,a1,a4⟩
 .obtain rfl:=List.cons.inj a2 |>.1;exact⟨[],⟨Zk _,none,0,rfl,Zb _,fun h=>by simp at h⟩,fun z hz=>by cases hz⟩
 .obtain rfl:=List.cons.inj a2 |>.1;simp only[if_true] at hz;have a3:(zs.take len').length=len':=by simp;omega
  have a0:∀i,i<zs.length->W.cell? (a.add i)=some (.int .i64 (zs.getD i 0)):=a1;refine⟨zs.take len',wY (n:=len') (by rw[List.length_map];exact a3) hl (by unfold maxLen at hm;omega) (fun i u hi=>?_) (Zb _),fun z hz=>bounds_i64 (a4 z (List.mem_of_mem_take hz))⟩;have hlt:=(List.getElem?_eq_some_iff.1 hi).1;rw[List.length_map,a3] at hlt;rw[a0 i (by omega)];rw[List.getElem?_map,List.getElem?_take,if_pos hlt,Zd (by omega)] at hi;rw[List.getD_eq_getElem?_getD,Zd (by omega)];simpa [iV] using hi
structure MN (W:Wd) (v:Value) (xs:Na) (hs bs:List Int):Prop where
 ex:∃ta th tb,v =.agg #[ta,th,tb]/\Bs W ta xs/\Sl W th (hs.map iV)/\Sl W tb (bs.map iV)
 hb:∀z∈hs,-9223372036854775808<=z/\z<=9223372036854775807
 bb:∀z∈bs,-9223372036854775808<=z/\z<=9223372036854775807
theorem Mi {t:TypeId}(hr:prog.readableRec t=true)(a0:t<prog.types.size){d:DataW H}{ps before:List MemPlace}
  (h:DataW.Trod enc prog W 0 (fun _=>true) true t v d ps) (hb:ge W W') (hlt:∀x∈ps,x.block<W.heap.size) (sp:Nat->Bool) (a1:∀x∈ps,x∈before) (a2:∀p∈before,sp p.block=true) :
  DataW.Trod enc prog W' 0 sp true t v d ps:=
 Trod_stays Tryz.laidOut hr a0 h (fun x hx=>hb.same (hlt x hx)) (fun x hx=>a2 x (a1 x hx))
end
section
variable {H:Type}{enc:TypeId×Value->H}{P:Program}
theorem qZ {f:Func}{s:ChangeSpec}{apart fresh a0 again:Bool}{ds gs:List (DataW H)}{before pa pv:List MemPlace}
  (hW:DataW.Whole enc P f.params.toList s.vars apart W args.toList ds gs before)
  (a3:∀ (b:Nat) (sp:Nat->Bool) (hd:Bool),DataW.TrodAll enc P W' b sp hd f.resultTypes.toList (v.resultList f.resultTypes.size) (s.fn H (ds++gs)).results [])
  (a2:∀sp:Nat->Bool,(∀p∈before,sp p.block=true)->DataW.TrodAll enc P W' 0 sp true f.params.toList args.toList (s.fn H (ds++gs)).args pa)
  (a1:∀sp:Nat->Bool,(∀p∈before,sp p.block=true)->DataW.TrodVars enc P W' sp s.vars (s.fn H (ds++gs)).vars pv)
  (a5:before=pa++pv) (hb:ge W W')
  (a6:∀ (j:Nat) (t:TypeId) (r:Value),f.resultTypes[j]?=some t->(v.resultList f.resultTypes.size)[j]?=some r->Value.okWide P W' .any 0 t r) :
  s.post enc P f apart fresh a0 again W args v W':=by
 have hlt:∀p∈before,p.block<W.heap.size:=fun p hp=>hW.lt p hp
 have a4:∀p∈before,(fun b=>decide (b<W.heap.size)) p.block=true:=fun p hp=>by simpa using hlt p hp
 refine⟨ds,gs,before, [],pa,pv,hW,a3 _ _ _,a2 _ a4,a1 _ a4,World.keptBut_mono (fun p hp=>⟨hp,?_⟩) (hb.frame (· ∈before)),fun _=>?_⟩
 .rw[a5,List.mem_append] at hp;exact Or.inr hp
 .obtain⟨_,_,_,_,_,hz,hn⟩:=hW;refine⟨a6,_,_,([]++pa)++pv,⟨[]++pa,pv,trodAll_append (a2 _ (fun _ _=>rfl)) (a3 ..),a1 _ (fun _ _=>rfl),rfl,?_,?_⟩,?_⟩
  .intro b off hp;have hin:MemPlace.cell b off∈before:=by rw[a5];simpa using hp
   rw[hb.frozen (hlt _ hin)];exact hz b off hin
  .intro ha;have:=hn ha;rw[a5] at this;simpa using this
  .intro p hp _;rw[a5];simpa using hp
end
theorem EI (os:Os)(args:Array Value):laidMetH prog gP ((World.laidAll prog os gP).forCall (fun _ _=>0) ⟨#[],args, []⟩).memory:=by
 rw[MakeChecks.laidMetH_plain _ _ _ (by kernel_rfl)];exact laidMet_laidAll _ (by kernel_rfl) (by kernel_rfl)
open Go.Deep
section
variable {H:Type}{enc:TypeId×Value->H}
theorem AE {a:Addr}(h:W.cell? (a.add 0)=some v):∃b o,a= ⟨b,o,none⟩:=by
 obtain⟨b,o,sp⟩:=a
 cases sp with
 |none=>exact⟨b,o,rfl⟩
 |some s=>exfalso;simp[Addr.add,World.cell?] at h;split at h <;> simp at h
theorem uk {d:DataW H}{ps:List MemPlace}(hv:Value.okWide prog W .any base 22 v)(hj:DataW.Trod enc prog W 0 (fun _=>true) true 22 v d ps):∃n,zT W v n:=by
 obtain⟨a,len,cap,rfl⟩:=okWide_slice underlying22 hv;obtain⟨fuel,hf⟩:=hj;have a2:prog.cellsOf 33=3:=by kernel_rfl
 rcases open_slice underlying22 hf with ⟨a1,hx⟩|⟨a',len',cap',m,n,D,Pl,a1,_,hl,a4,hm,hx,hc⟩
 .obtain⟨rfl,rfl,rfl⟩:=Value.slice.inj (List.cons.inj a1).1;exact⟨0,by omega,none,0,rfl,Zb _,fun h=>by omega⟩
 .obtain⟨rfl,rfl,rfl⟩:=Value.slice.inj (List.cons.inj a1).1;simp only[if_true] at hm;refine⟨len,by unfold maxLen at a4;omega,some a',cap,rfl,hl,fun h0=>?_⟩;have eM:∀i,i<m->∃ (ta th tb:Value) (xs:Na) (hs bs:List Int),W.cell? ((a'.add (i*3)).add 0)=some ta/\W.cell? ((a'.add (i*3)).add 1)=some th/\W.cell? ((a'.add (i*3)).add 2)=some tb/\Bs W ta xs/\Sl W th (hs.map iV)/\Sl W tb (bs.map iV)/\(∀z∈hs,-9223372036854775808<=z/\z<=9223372036854775807)/\(∀z∈bs,-9223372036854775808<=z/\z<=9223372036854775807):=fun i hi=>by
   obtain⟨cs',a0,a6⟩:=hc i hi;rw[a2] at a0;obtain⟨-,a7,hat⟩:=World.cells?_some a0;obtain⟨y0,y1,y2,n',hy,-,r0,r1,r2⟩:=Deep.trod_struct3 underlying33 a6
   match cs',a7,hat,r0,r1,r2 with
   | [c0,c1,c2],_,hat,r0,r1,r2=>
    obtain⟨xs,hx⟩:=yF (x:=c0) r0;obtain⟨hs,hh,a5⟩:=lI (x:=c1) r1;obtain⟨bs,hb,a3⟩:=lI (x:=c2) r2;exact⟨c0,c1,c2,xs,hs,bs,hat 0 (by decide),hat 1 (by decide),hat 2 (by decide),hx,hh,hb,a5,a3⟩
  obtain⟨_,_,_,_,_,_,h6,_⟩:=eM 0 (by omega);rw[Nat.zero_mul] at h6;obtain⟨b0,o0,rfl⟩:∃b o,a'= ⟨b,o,none⟩:=AE (by simpa [Addr.add] using h6);have e1:∀o k,(⟨b0,o,none⟩:Addr).add k= ⟨b0,o+k,none⟩:=fun o k=>by unfold Addr.add;split <;> simp_all
  refine⟨b0,o0,rfl,fun i hi=>?_⟩;obtain⟨ta,th,tb,xs,hs,bs,k0,k1,k2,k3⟩:=eM i (by omega);rw[e1,e1] at k0 k1 k2;exact⟨ta,th,tb,xs,hs,bs,k0,k1,k2,k3⟩
end
theorem Fv (hL:yQ W)(h:zT W v n):Calls prog 3 #[v] W (LU W):=qC hL h
theorem EO:((Rows.canonSortsRow.inPlace==prog.inPlace 3))=true:=by kernel_rfl
theorem CL:((Rows.canonSortsRow.unfollowed==prog.unfollowed 3))=true:=by kernel_rfl
theorem CM:((Rows.canonSortsRow.recurses==prog.recurses 3))=true:=by kernel_rfl
theorem C5:((Rows.canonSortsRow.named==prog.varsNamed 3))=true:=by kernel_rfl
theorem Cs:((Rows.canonSortsRow.plainKeys==prog.plainKeys))=true:=by kernel_rfl
theorem BP:((Rows.canonSortsRow.lifted==prog.liftsFinal))=true:=by kernel_rfl
theorem BB:((prog.make==some Rows.canonSortsRow.make))=true:=by kernel_rfl
theorem B4:(Rows.canonSortsRow.veiledFits prog f3.params.toList (f3.params.toList++Rows.canonSortsSpec.plain.varTypes prog++f3.resultTypes.toList))=true:=by kernel_rfl
theorem yq:prog.funcNamed Rows.canonSortsRow.func=some 3:=by kernel_rfl
theorem sV:joinedFacts prog 3 f3 Rows.canonSortsSpec Rows.canonSortsRow=true:=ep (ep (ep (ep (ep (ep (ep (ep (ep (ep (ep (ep (ep (ep (ep (ep (ep (ep (ep (ep (ep (ep (ep (ep (ep (ep (ep (ep (ep (ep (ep (by kernel_rfl) Tryz.laidOut) M0) (by kernel_rfl)) (by kernel_rfl)) (by kernel_rfl)) (by kernel_rfl)) (by kernel_rfl)) (by kernel_rfl)) EO) CL) CM) C5) (by kernel_rfl)) (by kernel_rfl)) (by kernel_rfl)) (by kernel_rfl)) (by kernel_rfl)) (by kernel_rfl)) (by kernel_rfl)) (by kernel_rfl)) (by kernel_rfl)) Cs) (by kernel_rfl)) Mh) L8) BP) BB) (by kernel_rfl)) (by kernel_rfl)) (by kernel_rfl)) B4
theorem tN (os:Os)(started:os.Started)(H:Type)(enc:TypeId×Value->H) :
  ReturnsInHanded {} Tryz.checked os 3 .any (fun w args=>(Rows.canonSortsSpec.pre enc prog f3 [] false w args/\laidMetH prog gP w)/\sizedMet enc prog f3 (OpenSpec.ofChange Rows.canonSortsSpec) false w args)
   (Rows.canonSortsSpec.post enc prog f3 false true false false):=by
 refine returnsInHanded_of_change_and (C:=Tryz.checked) (X:=fun w _=>laidMetH prog gP w) (fun _ _ _ hh h=>h.of_heap hh) Tryz.own started (by kernel_rfl) func3
  (ChangeSpec.witness_shaped (enc:=enc) (C:=Tryz.checked) (os:=os) (X:=fun w _=>laidMetH prog gP w) false (World.laidAll prog os gP) #[()] 8 rfl (World.shaped_of_ZipB (by kernel_rfl) (by kernel_rfl)) (by kernel_rfl) (by kernel_rfl) (by kernel_rfl) (EI os _)) ?_
 intro W base args ds gs before a0 hW _ _ hL _;have a1:∀ (j:Nat) t v,f3.params[j]?=some t->args[j]?=some v->Value.okWide prog W .any base t v:=a0;have a2:=hW;have hlt:∀p∈before,p.block<W.heap.size:=fun p hp=>hW.lt p hp
 obtain⟨p,q,a3,hV,rfl,a5,a6⟩:=hW;have hA:DataW.TrodAll enc prog W 0 (fun _=>true) true f3.params.toList args.toList ds p:=a3;rw[params3] at hA a1;obtain⟨v0,d0,rfl,rfl,h0⟩:=trodAll_one hA;obtain⟨rfl,rfl⟩:=trodVars_none hV;obtain⟨n0,s0⟩:=uk (a1 0 22 v0 rfl rfl) h0;clear a3 a0;simp only[List.append_nil,List.nil_append] at a2 hlt;refine(Fv (JG hL) s0).mono fun e W' ⟨he,hb⟩=>?_
 subst he;exact⟨_,rfl,qZ (pa:=p) (pv:= []) a2 (fun _ _ _=>trodAll_mk1 (shut_bool underlying4 true))
  (fun sp a4=>by
   have:=trodAll_mk1 (Mi (by kernel_rfl) (of_decide_eq_true (by kernel_rfl)) h0 hb (fun x hx=>hlt x (by simp[hx])) sp (fun x hx=>by simp[hx]) a4)
   try simp only[List.append_nil,List.nil_append] at this
   exact this)
   (fun _ _=>rfl) (by simp) hb (ok_one (by kernel_rfl) rfl (okWide_bool_mk underlying4 true))⟩
theorem CC:Rows.CanonSortsSaid:=
 OpenClaim.holds_of_wide 3 f3 rfl rfl rfl rfl rfl rfl rfl ⟨rfl,rfl,rfl,rfl,rfl⟩ rfl rfl rfl rfl rfl yq func3 sV
  (of_decide_eq_true (by kernel_rfl)) (by unfold Func.isWrapper;rw[if_neg (of_decide_eq_false (by kernel_rfl))];exact⟨rfl,rfl⟩)
  (fun os started H enc _=>tN os started H enc)
open Go
theorem xQ (f:FuncId)(fn:Func)(hf:Tryz.pinned.checked.prog.funcNamed "wicket/wicketlaw8.CanonSorts" = some f)(a1:Tryz.pinned.checked.prog.funcs[f]?=some fn) :
  true=Tryz.pinned.checked.prog.looks []/\∀ (j:Nat) t,fn.params[j]?=some t->Tryz.pinned.checked.prog.wantsStandIn t=false:=by
 obtain rfl:f=3:=Zi ((show prog.funcNamed "wicket/wicketlaw8.CanonSorts" = some 3 by kernel_rfl).symm.trans hf) |>.symm;obtain rfl:fn=f3:=(Zi (func3.symm.trans a1)).symm;refine⟨by kernel_rfl,fun j t ht=>?_⟩;rw[params3] at ht;have hm:t∈ [22]:=by simpa using Array.mem_of_getElem? ht
 have a0:([22].all fun u=> !prog.wantsStandIn u)=true:=by kernel_rfl
 exact(show prog.wantsStandIn t=false by simpa using List.all_eq_true.1 a0 t hm)
theorem sorts_card:Rows.CanonSortsCardSaid:=
 Claim7.holds_tied_plain_at .later [] _ _ _ _ CC (fun _ h=>by cases h) (by kernel_rfl) (fun _ h=>by cases h) canonSorts_row_tie rfl ⟨rfl,rfl⟩ (by kernel_rfl) rfl xQ (by kernel_rfl)
#print axioms sorts_card
