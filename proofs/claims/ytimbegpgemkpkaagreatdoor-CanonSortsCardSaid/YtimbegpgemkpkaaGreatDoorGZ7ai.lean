import Derived.Test.YtimbegpgemkpkaaGreatDoorGZ7ah
set_option linter.unusedVariables false
set_option linter.unusedSimpArgs false
set_option maxHeartbeats 64000000
set_option maxRecDepth 100000
namespace Go.Proofs.YtimbegpgemkpkaaGreatDoor
open Go.Proofs.Tryz
open Go.RowKit Go.Shelf
variable {cs cur:Array Value}{an bn:Bool}{d:Dc}{f f':Fr}{lv:Int}{j:JV}{L S:List (Nc×Value)}{ns:List Nc}{frs fs:List Fr}{y:List Int}{ks:List JV}{bs':List Nat}{l xs:Na}{u' us:Nb}{B at_ base c g i m n pb q q5 want xb:Nat}{F P Q:Nat->Prop}{A A' A5:OA}{e:TypeId}{T U:TypeId->Prop}{dv pv u v:Value}{W w w' w1 w2 w5:Wd}
def OT (w:Wd)(v:Value)(o:Option JV):Prop:=match o with
 |none=>v =.slice none 0 0
 |some j=>cS w 0 v (j.flat 0)/\Ok True (uD (6000+20)) j/\j.size<=6000+1
theorem OT.below {o:Option JV}(h:OT w v o)(hb:ge w w'):OT w' v o:=by
 cases o with
 |none=>exact h
 |some j=>exact⟨h.1.below hb (Zb _),h.2⟩
def MU (w:Wd)(e:Ending)(w':Wd):Prop:= ∃A n q ok,e =.returned (.tuple #[.slice A n q,.bool ok])/\ge w w'/\(ok=true->∃o,OT w' (.slice A n q) o)
def ME (w:Wd)(A2:OA)(n2 q2:Nat)(bx:Obj)(nb:Nat)(s6:Value)(wr:Wd):Prop:= ∃ (i:Nat) (j:JV),s6 =(i:Int)/\i<=nb/\j.size=n2/\bo (w.heap.size<= ·) wr w.heap.size (.slice A2 n2 q2) (j.flat 0)/\Ok True (uD (6000+i)) j/\ge w wr/\wr.heap[w.heap.size]?=some bx
theorem Kz {tv th tb:Value}{hs bs:List Int}(h1:Bs w tv xs)(h2:Sl w th (hs.map iV))(h3:Sl w tb (bs.map iV))(hh:∀z∈hs,-9223372036854775808<=z/\z<=9223372036854775807)(e2:∀z∈bs,-9223372036854775808<=z/\z<=9223372036854775807):Calls prog 5 #[.agg #[tv,th,tb]] w (MU w):=by
 obtain⟨hm,A,c,rfl,hc,-⟩:=id h1;obtain⟨d4,Ah,ch,rfl,e0,-⟩:=id h2;obtain⟨f1,Ab,cb,rfl,e1,b8⟩:=id h3;rw[List.length_map] at d4 e0 f1 e1 h2 h3 ⊢;rw[List.length_map] at b8 ⊢;have c8:=aa w (.cells #[.slice A xs.length c,.slice Ah hs.length ch,.slice Ab bs.length cb] 33);have a7:=Qa (Zf w (.cells #[.slice A xs.length c,.slice Ah hs.length ch,.slice Ab bs.length cb] 33));have c4:=Qa (h1.below c8);have Hh:=Qa h2;have g0:=Qa b8;have g3:=Qa hh;have g4:=Qa e2;have a5:=Qa c8;clear h1 h2 h3 b8 hh e2 c8 e0 e1 d4 f1
 by_cases h0:xs.length=0
 .have g5:((xs.length:Int)==0)=true:=by rw[h0];rfl
  clear h0 hc hm;go_in;go_wp2_with fail;go_ret2;exact⟨none,0,0,true,rfl,a5,fun _=>⟨none,rfl⟩⟩
 have g5:((xs.length:Int)==0)=false:=by simp only[beq_eq_false_iff_ne];omega
 by_cases hl:xs.length<=6000
 rotate_left
 .have f7:(6000:Int)<xs.length:=by omega
  clear h0 hl;go_in;go_wp2_with fail;go_ret2;exact⟨none,0,0,false,rfl,a5,fun e=>by cases e⟩
 have f7:¬ (6000:Int)<xs.length:=by omega
 by_cases b6:hs.length<=20
 rotate_left
 .have f4:(20:Int)<hs.length:=by omega
  clear h0 hl b6;go_in;go_wp2_with fail;go_ret2;exact⟨none,0,0,false,rfl,a5,fun e=>by cases e⟩
 have f4:¬ (20:Int)<hs.length:=by omega
 by_cases c1:bs.length<=20
 rotate_left
 .have f6:(20:Int)<bs.length:=by omega
  clear h0 hl b6 c1;go_in;go_wp2_with fail;go_ret2;exact⟨none,0,0,false,rfl,a5,fun e=>by cases e⟩
 have f6:¬ (20:Int)<bs.length:=by omega
 have a2:=Qa (CV c4.out hl);have Hl:=NB hl b6 c1;clear h0 hl b6 c1;go_in;go_wp2_with fail;refine Za a2 ?_;rintro e w2 ⟨v,cd,h,l,sA,sn,sc,rfl,ht⟩;obtain⟨b3,⟨A2,n2,q2,rfl⟩,hj⟩:=ht;have a1:=aa w2 (.cells #[(cd:Int),(h:Int),(l:Int),.slice sA sn sc] 66);have b4:=Qa (a5.trans ((b3.trans (a1.mono b3.size)).mono a5.size));have a3:=al (al a7 b3) a1;have e8:=a5.size
 by_cases hcd:cd=0
 rotate_left
 .have f5:(cd !=0)=true:=by simp[hcd]
  clear b3 hj hcd a2 c4;go_wp2_with fail;go_ret2;exact⟨none,0,0,false,rfl,b4,fun e=>by cases e⟩
 obtain⟨j,hg,hf,hz⟩:=hj hcd;subst hcd;have b9:=hf.below a1 (Zb _);have f3:j.size=n2:=by obtain⟨_,_,e,_⟩:=hf.form;obtain⟨-,e,-⟩:=Value.slice.inj e;rw[e,JV.flat_len]
 have HD:=Qa (zN (b9.flat.low (Zk _)) (by have:=Hl.1;omega));have c3:=Qa b9;have Hg:=Qa hg;have Hz:=Qa (show j.size<=6000+1 by have:=Hl.1;omega);have Hn2:=Qa f3;clear b3 hj hf b9 hg hz f3 a2 c4;go_wp2_with fail;obtain⟨w3,f2⟩:=y7 (w2.alloc (.cells #[(0:Int),(h:Int),(l:Int),.slice sA sn sc] 66));rw[f2] at HD c3 b4 a3 a1 ⊢;clear f2;refine Za HD ?_;rintro e w4 ⟨m,rfl,b5⟩;have a9:=al a3 b5;have Hbx4:=Qa a9;have Hf4:=Qa (((c3.below b5 (Zb _)).low (base:=_) (b:=w.heap.size) e8).imp (Q:=(w.heap.size<= ·)) fun g hg _=>Zc e8 hg);have Hb4:=Qa (b4.trans (b5.mono b4.size));clear a3 a9 b5 HD c3 b4 a1
 by_cases hm3:(300:Int)<m
 .go_wp2_with fail;go_ret2;exact⟨none,0,0,false,rfl,Hb4,fun e=>by cases e⟩
 go_wp2_with fail
 go_loopw [6,7] (fun s6 _ wr=>ME w A2 n2 q2 (.cells #[.slice A xs.length c,.slice Ah hs.length ch,.slice Ab bs.length cb] 33 (0,0)) bs.length s6 wr) (fun v _ _=>bs.length - (intOf v).toNat)
 case atStart=>exact⟨0,j,rfl,Zk _,Hn2,Hf4,Ok.of_good (h:=True) (fun s h=>h.2) Hg.out,Hb4.out,Hbx4.out⟩
 case round=>
  obtain⟨i,jc,rfl,hi,d9,d7,d6,hb,a3⟩:=hrel;have d1:=ac a3 (j:=1) (u:=.slice Ah hs.length ch) rfl;have d2:=ac a3 (j:=2) (u:=.slice Ab bs.length cb) rfl;have b0:=Qa d7;have c6:=Qa d6;have Hb:=Qa hb;have a7:=Qa a3;have a6:=Qa d9;have hpos:0<n2:=by have:=jc.size_pos;omega
  have g7:n2<=6000+1:=by have h5:=Hz.out;have h6:=Hn2.out;omega
  have f8:=hb.size;clear d7 d6 hb a3 d9
  by_cases hip:i<bs.length
  .obtain⟨gp,op,rfl,e6⟩:=g0 (by omega);obtain⟨p,c9⟩:∃s,bs[i]?=some s:=⟨_,Zd hip⟩;have cpc:=Zg Hb.out (e6 i (iV p) (by rw[List.getElem?_map,c9];rfl));unfold iV at cpc;obtain⟨b1,b2⟩:=g4 p (Zl c9);obtain⟨r,hr⟩:=y7 (Int.tmod p (n2:Int));have g6: -(n2:Int)<r/\r<n2:=by
    rw[<-hr];have h1:=Int.lt_tmod_of_pos p (show(0:Int)<n2 by omega);have h2:=Int.tmod_lt_of_pos p (show(0:Int)<n2 by omega);omega
   obtain⟨k,g8⟩:∃k:Nat,Int.tmod (r+n2) (n2:Int)=k:=⟨(Int.tmod (r+n2) (n2:Int)).toNat,by
    have:=Int.tmod_nonneg (n2:Int) (show 0<=r+ (n2:Int) by omega);omega⟩
   have c7:k<n2:=by have h2:=Int.tmod_lt_of_pos (r+n2) (show(0:Int)<n2 by omega);omega
   obtain⟨g2,rfl⟩:∃g2,A2=some (nl g2):=by
    obtain⟨_,_,e,_,_,hA⟩:=b0.form;obtain⟨rfl,-,-⟩:=Value.slice.inj e;exact hA (by rw[JV.flat_len];have:=a6.out;omega)
   obtain⟨nd,c5⟩:∃nd,(jc.flat 0)[k]?=some nd:=⟨_,Zd (by rw[JV.flat_len,a6.out];exact c7)⟩;obtain⟨vn,vk,-,-,a0⟩:=b0.flat.node c5;have c0:=a0 0 _ rfl;rw[Nat.add_zero] at c0;have c2:=a0 2 _ rfl;have d0:(i:Int)<bs.length:=by omega
   have d3:(0:Int)<n2:=by omega
   have hki:(k:Int)<n2:=by omega
   have f0:=Qa c5;clear e6 c9 a0 c5
   by_cases hk4:nd.kind=4
   .obtain⟨q1,q2',q3,q4⟩:=b0.setText (nd.text++ ⟨#[255]⟩) f0.out;obtain⟨z1,j',z2,z3,z4⟩:=Il f0.out hk4 c6.out;rw[<-z4] at q1;have Hq:=Qa q1;have e7:=NA (z2.trans a6.out) z3;have e4:=NA q3 q4;have g1:¬9223372036854775807<nd.text.size+1:=by have:=Hl.2.2;omega
    clear q1 z1 z2 z3 z4 q3 q4;rw[hk4] at c0;have b7:(nd.kind==4)=true:=by rw[hk4];rfl
    go_wp2_with fail;obtain⟨cs,zz,a4⟩:=e4.1;refine⟨⟨i+1,j',by go_num,by omega,e7.1,Hq.out,?_,Hb.setCell e4.2 _,?_⟩,by simp[intOf];omega⟩
    .exact e7.2
    .exact(Below.heap_setCell wr _ _ _ (by
      intro e;have h9:=a7.out;rw[show w.heap.size=g2 from e,a4] at h9;have a4:=h9;injection a4 with a4
      injection a4 with _ a4 _
      exact absurd a4 (by decide))).trans a7.out
   .have b7:(nd.kind==4)=false:=by simpa using hk4
    go_wp2_with fail;exact⟨⟨i+1,jc,by go_num,by omega,a6.out,b0.out,c6.imp fun s h=>Nat.le_succ_of_le h,Hb.out,a7.out⟩,by simp[intOf];omega⟩
  .have d0:¬ (i:Int)<bs.length:=by omega
   have HH:=Qa (yh (T:=uD (6000+20)) (w:=wr) (B:=w.heap.size) (ps:=hs) Hb.size b0.out (c6.imp fun s h=>by unfold uD at *;have:=Hl.2.2;omega) (by have:=a6.out;omega) (Hh.below Hb) g3.out);clear hip;go_wp2_with fail;refine Za HH ?_;rintro e w5 ⟨j5,A5,m5,q5,rfl,d5,e5,f9,e3⟩;have Hr:=NA (show OT w5 (.slice A5 m5 q5) (some j5) from⟨d5.flat.low (Zk _),e5,by have:=a6.out;omega⟩) e3;clear d5 e5 f9 e3 HH;go_wp2_with fail;go_ret2;exact⟨A5,m5,q5,true,rfl,Hb.trans (Hr.2.mono Hb.size),fun _=>⟨some j5,Hr.1⟩⟩
def lE (l:Na)(i:Nat):Nat:=(l.getD i 48).toNat
def eS:Na->Na->Int
 | [], []=>0
 | [],d::m=>if 48<d.toNat then -1 else if d.toNat<48 then 1 else eS [] m
 |c::l, []=>if c.toNat<48 then -1 else if 48<c.toNat then 1 else eS l []
 |c::l,d::m=>if c.toNat<d.toNat then -1 else if d.toNat<c.toNat then 1 else eS l m
theorem B3 (l m:Na)(i:Nat)(h:i<l.length\/i<m.length):eS (l.drop i) (m.drop i)=if lE l i<lE m i then -1 else if lE m i<lE l i then 1 else eS (l.drop (i+1)) (m.drop (i+1)):=by
 have e:∀k:Na,k.drop i= (if i<k.length then k.getD i 48::k.drop (i+1) else []):=fun k=>by
  by_cases hk:i<k.length
  .rw[if_pos hk,List.drop_eq_getElem_cons hk,List.getD_eq_getElem?_getD,Zd hk];rfl
  .rw[if_neg hk,List.drop_eq_nil_of_le (by omega)]
 have en:∀k:Na,¬i<k.length->lE k i=48:=fun k hk=>by unfold lE;rw[List.getD_eq_getElem?_getD,List.getElem?_eq_none (by omega)];rfl
 have ez:∀k:Na,¬i<k.length->k.drop (i+1) = []:=fun k hk=>List.drop_eq_nil_of_le (by omega)
 rw[e l,e m]
 by_cases h1:i<l.length
 .by_cases h2:i<m.length
  .rw[if_pos h1,if_pos h2,eS];rfl
  .rw[if_pos h1,if_neg h2,en m h2,ez m h2,eS];rfl
 .by_cases h2:i<m.length
  .rw[if_neg h1,if_pos h2,en l h1,ez l h1,eS];rfl
  .omega
theorem D7 (l m:Na)(i:Nat)(h1:l.length<=i)(h2:m.length<=i):eS (l.drop i) (m.drop i)=0:=by
 rw[List.drop_eq_nil_of_le h1,List.drop_eq_nil_of_le h2,eS]
def rc (l:Na):Prop:=(∀c∈l,48<=c.toNat)/\∀c,l.getLast?=some c->c.toNat≠48
theorem rc.tail {c:UInt8}(h:rc (c::l)):rc l:=⟨fun x hx=>h.1 x (Zm _ hx),fun x hx=>h.2 x (by
 cases l with
 |nil=>simp at hx
 |cons a l=>rw[List.getLast?_cons_cons];exact hx)⟩
theorem pK:∀ {m:Na},rc m->m≠ []->eS [] m = -1
 | [],_,h=>absurd rfl h
 |d::m,h,_=>by
  unfold eS;have h1:=h.1 d (by simp)
  by_cases hd:48<d.toNat
  .rw[if_pos hd]
  .rw[if_neg hd,if_neg (by omega)]
   cases m with
   |nil=>exact absurd (by omega) (h.2 d rfl)
   |cons a m=>exact pK h.tail (List.cons_ne_nil _ _)
theorem pR:∀ {m:Na},rc m->m≠ []->eS m []=1
 | [],_,h=>absurd rfl h
 |d::m,h,_=>by
  unfold eS;have h1:=h.1 d (by simp)
  by_cases hd:48<d.toNat
  .rw[if_neg (by omega),if_pos hd]
  .rw[if_neg (by omega),if_neg hd]
   cases m with
   |nil=>exact absurd (by omega) (h.2 d rfl)
   |cons a m=>exact pR h.tail (List.cons_ne_nil _ _)
theorem BZ {d:UInt8}{m:Na}:mg [] (d::m) = -1:=by simp[mg,Op.bytesLess]
theorem CR {d:UInt8}{m:Na}:mg (d::m) []=1:=by simp[mg,Op.bytesLess]
theorem Dz (a b:UInt8)(x y:Na):mg (a::x) (b::y)=if a.toNat<b.toNat then -1 else if b.toNat<a.toNat then 1 else mg x y:=by
 rcases Nat.lt_trichotomy a.toNat b.toNat with h|h|h
 .rw[if_pos h];unfold mg;rw[if_pos (kh h).1]
 .obtain rfl:=UInt8.toNat_inj.1 h;rw[if_neg (by omega),if_neg (by omega)];simp[mg,Op.bytesLess]
 .rw[if_neg (by omega),if_pos h];unfold mg;rw[if_neg (by simp[(kh h).2]),if_neg (by intro e;injection e with e _;subst e;omega)]
theorem we:∀ {l m:Na},rc l->rc m->eS l m=mg l m
 | [], [],_,_=>by simp[eS,mg,Op.bytesLess]
 | [],d::m,_,h=>by rw[pK h (by simp),BZ]
 |d::m, [],h,_=>by rw[pR h (by simp),CR]
 |c::l,d::m,h1,h2=>by
  rw[Dz];unfold eS;rw[we h1.tail h2.tail]
theorem rY (h:kt d)(hs:gS d≠0):rc d.digits.data.toList:=by
 rcases qn h with rfl|⟨⟨h1,-,-,h4⟩,-⟩
 .exact absurd rfl hs
 .exact⟨fun c hc=>by have:=h1 c hc;simp[eV] at this;omega,fun c hc e=>h4 c hc (UInt8.toNat_inj.1 e)⟩
theorem dc {x y:Int}:Calls prog 57 #[(x:Int),(y:Int)] w fun e w'=>e = (sg x y:Int)/\w=w':=by
 by_cases h1:x<y
 .have hs:=Qa (show sg x y = -1 by unfold sg;rw[if_pos h1]);go_in;go_wp2;go_ret;rw[hs.out];exact⟨rfl,rfl⟩
 .by_cases h2:y<x
  .have hs:=Qa (show sg x y=1 by unfold sg;rw[if_neg h1,if_pos h2]);go_in;go_wp2;go_ret;rw[hs.out];exact⟨rfl,rfl⟩
  .have hs:=Qa (show sg x y=0 by unfold sg;rw[if_neg h1,if_neg h2]);go_in;go_wp2;go_ret;rw[hs.out];exact⟨rfl,rfl⟩
def KJ (w:Wd)(base:Nat)(v:Value)(l:List Int):Prop:=w.ownsRow base 3 1 v l.length (l.map iV)
def Ms (w:Wd)(l:List Int)(e:Ending)(w':Wd):Prop:= ∃A q,e =.returned (.slice A l.length q)/\ge w w'/\KJ w' w.heap.size (.slice A l.length q) l
def K5 (w2:Wd)(xs:Na)(s3 s5 s6:Value)(wr:Wd):Prop:= ∃ (i at_:Nat) (A:OA) (c:Nat) (pre:List Int),s6 =(i:Int)/\s5 =(at_:Int)/\s3 =.slice A i c/\pre.length=i/\at_<=xs.length/\i<=(bj eE xs).length/\(bj eE xs).drop i=bj eE (xs.drop at_)/\bj dP xs=pre++bj dP (xs.drop at_)/\ge w2 wr/\KJ wr w2.heap.size (.slice A i c) pre
theorem K5.push {k:Nat}{pre:List Int}{c:Int}(hp:pre.length=i)(hat:at_+k<=xs.length)(hi:i< (bj eE xs).length)(h1:(bj eE xs).drop (i+1)=bj eE (xs.drop (at_+k)))(h2:bj dP xs=pre++ (c::bj dP (xs.drop (at_+k))))(hb:ge w2 w5)(ho:w5.ownsRow w2.heap.size 3 1 (.slice A5 (i+1) q5) (i+1) (pre.map iV ++ [iV c])) :
  K5 w2 xs (.slice A5 (i+1) q5) ((at_:Int)+k:Int) ((i:Int)+1:Int) w5:=
 ⟨i+1,at_+k,A5,q5,pre ++ [c],by go_num,by simp,rfl,by simp[hp],hat,hi,h1,by rw[h2];simp,hb,by unfold KJ;rw[List.map_append,List.length_append,hp];exact ho⟩
theorem rS (w:Wd)(s:Nc)(hs:s.size<=4000000):Calls prog 127 #[s] w (Ms w (nm s)):=by
 have c9:(bj eE s.data.toList).length<=s.size:=by have:=gM eE _ s.data.toList (Zb _);simpa using this
 have d6:s.data.toList.length=s.size:=by simp
 have d0:=Qa (fun (p:Nat) (x:UInt8) (h:s.data.toList[p]?=some x) (w':Wd)=>kn (k:=.i64) h w');go_in;go_wp2_with fail;refine(iT w s hs).mono ?_;rintro e w2 ⟨A1,n1,q1,rfl,c7,b4⟩;have e1:n1= (bj eE s.data.toList).length:=oE b4;subst e1;have b9:=Qa c7;have c2:=Qa b4;clear c7 b4;obtain⟨N,hN⟩:=y7 ((bj eE s.data.toList).length);have HN:=Qa hN;have e0:N<=4000000:=by omega
 rw[hN] at c2 ⊢;clear hN c9;go_wp2_with fail
 go_loopw [3,5,6] (fun s3 s5 s6 wr=>K5 w2 s.data.toList s3 s5 s6 wr) (fun _ _ i _=>N - (intOf i).toNat)
 case atStart=>exact⟨0,0,none,0, [],rfl,rfl,rfl,rfl,Zk _,Zk _,rfl,rfl,Ze _ _,⟨rfl,.inl ⟨rfl,rfl⟩⟩⟩
 case round=>
  obtain⟨i,at_,A,c,pre,rfl,rfl,rfl,hp,hat,hi,hr,hu,hb,ho⟩:=hrel;have Hp:=Qa hp;have Hr:=Qa hr;have Hu:=Qa hu;have Hb:=Qa hb;have d2:i<=N:=by rw[<-HN.out];exact hi
  have d1:at_<=4000000:=by omega
  have b3:=Qa (show wr.ownsRow w2.heap.size 3 1 (.slice A i c) i (pre.map iV) by unfold KJ at ho;rw[hp] at ho;exact ho);have a2:=hb.size;clear hp hr hu hb ho hi
  by_cases hlt:i<N
  .obtain⟨r,b6⟩:∃r,(bj eE s.data.toList)[i]?=some r:=⟨_,Zd (by rw[HN.out];exact hlt)⟩;have b0:=c2.out;have c3:(bj eE s.data.toList).length=N:=HN.out;unfold rR at b0;rw[c3] at b0;obtain⟨g1,rfl⟩:=eb b0 (by omega);have cr2:=aB b0 rfl i (by omega);rw[List.getElem?_map,b6] at cr2;simp only[Option.map_some,fP] at cr2;have cr:=Zg Hb.out cr2;have b1:=Qa cr2;clear cr2;have a9:=zQ (xs:=s.data.toList.drop at_) (c:=r) (l:=(bj eE s.data.toList).drop (i+1)) (by
    rw[<-Hr.out,List.drop_eq_getElem_cons (by omega)]
    congr 1
    exact(List.getElem?_eq_some_iff.1 b6).2)
   have c0:i< (bj eE s.data.toList).length:=by omega
   have c6:=Qa c0;have b7:(i:Int)<N:=by omega
   clear b6 b0 c3 c0;rcases a9 with ⟨rfl,x,t,hx,hl,a6⟩|⟨k,rfl,hk,c5,hl,a6⟩
   .have b5:s.data.toList[at_]?=some x:=by
     have h5:(s.data.toList.drop at_)[0]?=some x:=by rw[hx];rfl
     rw[List.getElem?_drop,Nat.add_zero] at h5;exact h5
    have d4:=d0 at_ x b5;have c1:s.data.toList.drop (at_+1)=t:=by rw[<-List.drop_drop,hx];rfl
    have c4:at_+1<=s.data.toList.length:=(List.getElem?_eq_some_iff.1 b5).1;rw[<-c1] at hl a6;have d9:=x.toNat_lt;have a1:=Qa (fun (w5:Wd) (A5:OA) (q5:Nat) hb ho=>K5.push (w2:=w2) (w5:=w5) (A5:=A5) (q5:=q5) (k:=1) (c:=dP x) Hp.out c4 c6.out hl (by rw[Hu.out,a6]) hb ho);unfold dP at a1;generalize x.toNat=y at *;have d5:(-1:Int)<0:=by omega
    have a7:=Qa (au wr [iV (1114112+ (y:Int))] 3);have a3:=Qa (aq b3.out (aa wr (.cells #[(1114112+ (y:Int):Int)] 3)) (Zb _));clear hx hl a6 b5 c1 c4 Hu Hr;go_wp2_with (at_builtin;refine ir fD a3.out a7.out (by simp;omega) ?_ (h1:=(by simp[iV,Value.oneCell']));intro v' w5 p1 p2 p3;obtain⟨A5,q5,rfl,-,-,-⟩:=ai p1;have a4:=Qa p1;have c8:=Qa p2;clear p1 p2 p3);refine⟨a1 _ _ _ (aD (Hb.alloc a2 _) a3 (by simp;omega) c8.out) a4.out,by simp[intOf];omega⟩
   .have b2:=Di hk;have d7:¬ (k:Int)<0:=by omega
    have d3:k<=1114111:=by rw[cP] at hk;simp at hk;omega
    rw[List.length_drop] at c5;rw[List.drop_drop] at hl a6;have hpos:0< (bL k).length:=by rw[b2];(repeat' split) <;> omega
    have a1:=Qa (fun (w5:Wd) (A5:OA) (q5:Nat) hb ho=>K5.push (w2:=w2) (w5:=w5) (A5:=A5) (q5:=q5) (k:=(bL k).length) (c:=k) Hp.out (by omega) c6.out hl (by rw[Hu.out,a6]) hb ho);rw[b2] at a1;have a7:=Qa (au wr [iV (k:Int)] 3);have a3:=Qa (aq b3.out (aa wr (.cells #[(k:Int)] 3)) (Zb _));clear hl a6 c5 hk b2 hpos Hu Hr
    by_cases k1:k<128
    .rw[if_pos k1] at a1;have k1i:(k:Int)<128:=by omega
     go_wp2_with (at_builtin;refine ir fD a3.out a7.out (by simp;omega) ?_ (h1:=(by simp[iV,Value.oneCell']));intro v' w5 p1 p2 p3;obtain⟨A5,q5,rfl,-,-,-⟩:=ai p1;have a0:=aD (Hb.alloc a2 _) a3.out (by simp;omega) p2;have cr5:=Zg a0 b1.out;have a4:=Qa p1;have a5:=Qa a0;clear p1 p2 p3 a0);refine⟨a1 _ _ _ a5 a4,by simp[intOf];omega⟩
    have k1i:¬ (k:Int)<128:=by omega
    rw[if_neg k1] at a1
    by_cases k2:k<2048
    .rw[if_pos k2] at a1;have k2i:(k:Int)<2048:=by omega
     go_wp2_with (at_builtin;refine ir fD a3.out a7.out (by simp;omega) ?_ (h1:=(by simp[iV,Value.oneCell']));intro v' w5 p1 p2 p3;obtain⟨A5,q5,rfl,-,-,-⟩:=ai p1;have a0:=aD (Hb.alloc a2 _) a3.out (by simp;omega) p2;have cr5:=Zg a0 b1.out;have a4:=Qa p1;have a5:=Qa a0;clear p1 p2 p3 a0);refine⟨a1 _ _ _ a5 a4,by simp[intOf];omega⟩
    have k2i:¬ (k:Int)<2048:=by omega
    rw[if_neg k2] at a1
    by_cases k3:k<65536
    .rw[if_pos k3] at a1;have k3i:(k:Int)<65536:=by omega
     go_wp2_with (at_builtin;refine ir fD a3.out a7.out (by simp;omega) ?_ (h1:=(by simp[iV,Value.oneCell']));intro v' w5 p1 p2 p3;obtain⟨A5,q5,rfl,-,-,-⟩:=ai p1;have a0:=aD (Hb.alloc a2 _) a3.out (by simp;omega) p2;have cr5:=Zg a0 b1.out;have a4:=Qa p1;have a5:=Qa a0;clear p1 p2 p3 a0);refine⟨a1 _ _ _ a5 a4,by simp[intOf];omega⟩
    .rw[if_neg k3] at a1;have k3i:¬ (k:Int)<65536:=by omega
     go_wp2_with (at_builtin;refine ir fD a3.out a7.out (by simp;omega) ?_ (h1:=(by simp[iV,Value.oneCell']));intro v' w5 p1 p2 p3;obtain⟨A5,q5,rfl,-,-,-⟩:=ai p1;have a0:=aD (Hb.alloc a2 _) a3.out (by simp;omega) p2;have cr5:=Zg a0 b1.out;have a4:=Qa p1;have a5:=Qa a0;clear p1 p2 p3 a0);refine⟨a1 _ _ _ a5 a4,by simp[intOf];omega⟩
  .obtain rfl:i=N:=by omega
   have b7:¬ (i:Int)<i:=by omega
   have b8:=Qa (show nm s=pre by
    have h1:=Hr.out;rw[List.drop_eq_nil_of_le (by rw[HN.out];exact Zb _)] at h1;unfold nm;rw[Hu.out];have h2:s.data.toList.drop at_ = []:=by
     cases h3:s.data.toList.drop at_ with
     |nil=>rfl
     |cons x t=>
      rw[h3] at h1
      exfalso
      by_cases hd:(bK (x::t)).2.2=0
      .rw[dK (by simp) hd] at h1;cases h1
      .rw[fg hd] at h1;cases h1
    rw[h2,j7,List.append_nil])
   go_wp2;go_ret;rw[b8.out];exact⟨A,c,by rw[Hp.out];rfl,b9.trans (Hb.mono b9.size),by unfold KJ;rw[Hp.out];exact bT b3.out b9.size⟩
theorem ik (w:Wd)(a b:Obj):Hid (((w.alloc a).alloc b).heap[w.heap.size]?=some a)/\Hid (((w.alloc a).alloc b).heap[w.heap.size+1]?=some b)/\Hid (ge w ((w.alloc a).alloc b))/\Hid (ge w (w.alloc a)):=by
 have h1:=Zf (w.alloc a) b;rw[World.size_alloc] at h1;exact⟨al (Zf w a) (aa _ b),h1,((Ze _ _).alloc (Zb _) _).alloc (by simp) _,aa w a⟩
abbrev Jd (n:Bool) (d:Nc) (x:Int):Obj:=.cells #[.bool n,d,(x:Int)] 71
theorem IE {x:List Int}{k:Nat}(h:aA x y=aA (x.drop k) (y.drop k)){a b:Int}(ha:x[k]?=some a)(hb:y[k]?=some b)(he:a≠b):aA x y=sg a b:=by
 obtain⟨h1,rfl⟩:=List.getElem?_eq_some_iff.1 ha;obtain⟨h2,rfl⟩:=List.getElem?_eq_some_iff.1 hb;rw[h,List.drop_eq_getElem_cons h1,List.drop_eq_getElem_cons h2,bi];unfold sg
 split
 .rfl
 .split
  .rfl
  .omega
theorem wT {x:List Int}{k:Nat}(h:aA x y=aA (x.drop k) (y.drop k))(hk:k<=x.length/\k<=y.length)(he:¬ (k<x.length/\k<y.length)):aA x y=sg x.length y.length:=by
 rw[h];unfold sg
 by_cases h1:k<x.length
 .rw[List.drop_eq_nil_of_le (by omega:y.length<=k),List.drop_eq_getElem_cons h1,if_neg (by omega),if_pos (by omega)];simp[aA]
 .rw[List.drop_eq_nil_of_le (by omega:x.length<=k)]
  by_cases h2:k<y.length
  .rw[List.drop_eq_getElem_cons h2,if_pos (by omega)];simp[aA]
  .rw[List.drop_eq_nil_of_le (by omega:y.length<=k),if_neg (by omega),if_neg (by omega)];simp[aA]
theorem pj (w:Wd)(s t:Nc)(hs:s.size<=4000000)(ht:t.size<=4000000):Calls prog 96 #[s,t] w fun e w'=>dR (aA (nm s) (nm t)) w e w':=by
 have hlx:(nm s).length<=4000000:=by have:=gM dP _ s.data.toList (Zb _);simp at this;unfold nm;omega
 have hly:(nm t).length<=4000000:=by have:=gM dP _ t.data.toList (Zb _);simp at this;unfold nm;omega
 go_in;go_wp2_with fail;refine(rS w s hs).mono ?_;rintro e w1 ⟨A1,q1,rfl,b4,b3⟩;have a7:=Qa b4;have a3:=Qa b3;clear b4 b3;go_wp2_with fail;refine(rS w1 t ht).mono ?_;rintro e w2 ⟨A2,q2,rfl,a9,b7⟩;have a3:=Qa (show KJ w2 _ _ _ from a3.below' a9);have a2:=Qa (a7.trans (a9.mono a7.size));have a6:=Qa b7;clear a9 b7 a7;obtain⟨x,a5⟩:=y7 (nm s);obtain⟨y,b1⟩:=y7 (nm t);rw[a5] at hlx a3 ⊢;rw[b1] at hly a6 ⊢;have a0:=Qa (show aA (nm s) (nm t)=aA x y by rw[a5,b1]);clear a5 b1;go_wp2_with fail
 go_loopw [7] (fun s7 wr=>I9 w2 x y s7 wr) (fun i _=>x.length - (intOf i).toNat)
 case atStart=>exact⟨0,by omega,rfl,Ze _ _,rfl⟩
 case round=>
  obtain⟨k,hk,rfl,hb,hc⟩:=hrel;have Hb:=Qa hb;have Hc:=Qa hc;have b6:=hk.1;have b5:=hk.2;clear hb hc hk
  by_cases hx:k<x.length
  .by_cases hy:k<y.length
   .have a4:=Qa (show wr.ownsRow _ _ _ _ _ _ from a3.below' Hb.out);have b0:=Qa (show wr.ownsRow _ _ _ _ _ _ from a6.below' Hb.out);obtain⟨g1,rfl⟩:=eb a3.out (by omega);obtain⟨g2,rfl⟩:=eb a6.out (by omega);obtain⟨a,ha⟩:∃s,x[k]?=some s:=⟨_,Zd hx⟩;obtain⟨b,hb⟩:∃s,y[k]?=some s:=⟨_,Zd hy⟩;have c1:=aB a4.out rfl k (by omega);have c2:=aB b0.out rfl k (by omega);rw[List.getElem?_map,ha] at c1;rw[List.getElem?_map,hb] at c2;simp only[Option.map_some,iV] at c1 c2;have Ha:=Qa ha;have b8:=Qa hb;have b2:(k:Int)<x.length:=by omega
    have c0:(k:Int)<y.length:=by omega
    clear ha hb
    by_cases he:a=b
    .have b9:(a !=b)=false:=by simp[he]
     have Hs:=Qa (rJ Hc.out Ha.out b8.out he);clear he;go_wp2_with fail;go_quiet (fail);go_wp2_with fail;exact⟨⟨k+1,by omega,by go_num,av Hb.out _,Hs.out⟩,by simp[intOf];omega⟩
    .have b9:(a !=b)=true:=by simp[he]
     have Hs:=Qa (IE Hc.out Ha.out b8.out he);clear he;go_wp2_with fail;go_quiet (fail);go_wp2_with fail;refine aI (fun w'=>w'.cell? (no g1 k)=some (.int .i64 a)/\w'.cell? (no g2 k)=some (.int .i64 b)) (⟨c1,c2⟩) fun a1=>?_
     refine bw 0 1 2 a1 ?_;refine bw 3 4 5 a1 ?_;refine tH 6 a1 ?_;refine tH 7 a1 ?_;refine rH 8 fun K hK=>?_
     go_simp;refine dc.mono ?_;rintro e wz ⟨rfl,rfl⟩;refine hK _ _ (a1) (fun a1=>?_);clear hK K
     try simp only[Act.put,jP,jQ,jR]
     refine tH 9 a1 ?_;refine y5 ?_;go_wp2;go_ret;rw[a0.out,Hs.out];exact⟨rfl,a2.trans ((av Hb _).mono a2.size)⟩
   .have b2:(k:Int)<x.length:=by omega
    have c0:¬ (k:Int)<y.length:=by omega
    have Hs:=Qa (wT Hc.out ⟨b6,b5⟩ (by omega));go_wp2_with fail;refine dc.mono ?_;rintro e w3 ⟨rfl,rfl⟩;go_wp2;go_ret;rw[a0.out,Hs.out];exact⟨rfl,a2.trans (Hb.mono a2.size)⟩
  .have b2:¬ (k:Int)<x.length:=by omega
   have Hs:=Qa (wT Hc.out ⟨b6,b5⟩ (by omega));go_wp2_with fail;refine dc.mono ?_;rintro e w3 ⟨rfl,rfl⟩;go_wp2;go_ret;rw[a0.out,Hs.out];exact⟨rfl,a2.trans (Hb.mono a2.size)⟩
theorem rL {dn:Bool}{dd:Nc}{dx:Int}:Calls prog 125 #[.agg #[.bool dn,dd,(dx:Int)]] w (y4 (gS ⟨dn,dd,dx⟩:Int) w):=by
 have a0:=Qa (aa w (.cells #[.bool dn,dd,(dx:Int)] 71))
 by_cases hz:dd= ⟨#[48]⟩
 .have hs:=Qa (show gS ⟨dn,dd,dx⟩=0 by unfold gS;rw[if_pos hz]);have hd:(dd.toList == [48])=true:=by rw[show [48]= (⟨#[48]⟩:Nc).toList by simp,eF];simpa using hz
  clear hz;go_in;go_wp2;go_ret;rw[hs.out];exact⟨rfl,a0⟩
 .have hd:(dd.toList == [48])=false:=by rw[show [48]= (⟨#[48]⟩:Nc).toList by simp,eF];simpa using hz
  have hs:=Qa (show gS ⟨dn,dd,dx⟩=if dn then -1 else 1 by unfold gS;rw[if_neg hz]);clear hz
  cases dn
  all_goals
   go_in;go_wp2;go_ret;rw[hs.out];exact⟨rfl,a0⟩
def js (a b:Dc):Int:=if sg (a.digits.size+a.exp) (b.digits.size+b.exp)=0 then eS a.digits.data.toList b.digits.data.toList else sg (a.digits.size+a.exp) (b.digits.size+b.exp)
theorem BC {a b:Dc}(ha:rc a.digits.data.toList)(hb:rc b.digits.data.toList):js a b=lL a b:=by
 unfold js lL;rw[we ha hb,ByteArray.toList_eq,ByteArray.toList_eq]
theorem oD:∀l m:Na,-1<=eS l m/\eS l m<=1
 | [], []=>by rw[eS];omega
 | [],d::m=>by rw[eS];have:=oD [] m;(repeat' split) <;> omega
 |c::l, []=>by rw[eS];have:=oD l [];(repeat' split) <;> omega
 |c::l,d::m=>by rw[eS];have:=oD l m;(repeat' split) <;> omega
theorem FP (a b:Dc): -1<=js a b/\js a b<=1:=by
 unfold js
 split
 .exact oD _ _
 .unfold sg;(repeat' split) <;> omega
theorem Bg (l:Na)(i:Nat):lE l i<256:=UInt8.toNat_lt _
theorem td {s:Nc}(h:i<s.size)(w':Wd):(Instr.index 9 s (i:Int)).run prog w' =.ok (.int .u8 (lE s.data.toList i)) w':=by
 have hl:i<s.data.toList.length:=by simpa using h
 have hg:s.data.toList[i]?=some (s.data.toList.getD i 48):=by rw[List.getD_eq_getElem?_getD,Zd hl];rfl
 exact kn (k:=.i64) hg w'
theorem wH {s:Nc}(h:¬i<s.size):lE s.data.toList i=48:=by
 unfold lE;rw[List.getD_eq_getElem?_getD,List.getElem?_eq_none (by simp;omega)];rfl
def MT (w0:Wd)(l m:Na)(s7:Value)(wr:Wd):Prop:= ∃i:Nat,s7 =(i:Int)/\(i<=l.length\/i<=m.length)/\eS l m=eS (l.drop i) (m.drop i)/\w0=wr
theorem zr {ad bd:Nc}{ax bx:Int}(ha:uG ⟨an,ad,ax⟩)(hb:uG ⟨bn,bd,bx⟩):Calls prog 126 #[.agg #[.bool an,ad,(ax:Int)],.agg #[.bool bn,bd,(bx:Int)]] w (dR (js ⟨an,ad,ax⟩ ⟨bn,bd,bx⟩) w):=by
 obtain⟨a1,a2,a3⟩:=ha;obtain⟨b1,b2,b3⟩:=hb;simp only at a1 a2 a3 b1 b2 b3;have w1:=oC a1 a2 a3;have w2:=oC b1 b2 b3;obtain⟨H0,H1,Hw,-⟩:=ik w (Jd an ad ax) (Jd bn bd bx);have hq:js ⟨an,ad,ax⟩ ⟨bn,bd,bx⟩=if sg (ad.size+ax) (bd.size+bx)=0 then eS ad.data.toList bd.data.toList else sg (ad.size+ax) (bd.size+bx):=rfl
 have b0:ad.data.toList.length=ad.size:=by simp
 have a9:bd.data.toList.length=bd.size:=by simp
 by_cases h0:(ad.size:Int)+ax= (bd.size:Int)+bx
 .have b8:js ⟨an,ad,ax⟩ ⟨bn,bd,bx⟩=eS ad.data.toList bd.data.toList:=by rw[hq,if_pos (by unfold sg;rw[if_neg (by omega),if_neg (by omega)])]
  have Hq:=Qa b8;have c0:(((ad.size:Int)+ax) != ((bd.size:Int)+bx))=false:=by simp[h0]
  have a6:=Qa b0;have a5:=Qa a9;clear hq b8 h0 b0 a9;go_in;go_wp2_with fail;obtain⟨w0,b6⟩:=y7 ((w.alloc (Jd an ad ax)).alloc (Jd bn bd bx));rw[b6] at Hw H0 H1 ⊢;clear b6
  go_loopw [7,8,9] (fun s7 _ _ wr=>MT w0 ad.data.toList bd.data.toList s7 wr) (fun v _ _ _=>ad.size+bd.size+1 - (intOf v).toNat)
  case atStart=>exact⟨0,rfl,.inl (Zk _),rfl,rfl⟩
  case round=>
   obtain⟨i,rfl,hi,hc,rfl⟩:=hrel;rw[a6.out,a5.out] at hi;have ca:=ac H0.out (j:=1) (u:=.string ad) rfl;have cb:=ac H1.out (j:=1) (u:=.string bd) rfl;have c1:i<=1000000000000:=by omega
   have Hc:=Qa hc;clear hc
   by_cases hin:i<ad.size\/i<bd.size
   .have b5:=B3 ad.data.toList bd.data.toList i (by rw[a6.out,a5.out];exact hin);have a0:=Qa (Hc.trans b5);have hC:=Bg ad.data.toList i;have hD:=Bg bd.data.toList i;clear b5
    by_cases hA:i<ad.size
    .have b7:(i:Int)<ad.size:=by omega
     have iA:=td hA
     by_cases hB:i<bd.size
     .have b4:(i:Int)<bd.size:=by omega
      have iB:=td hB;generalize lE ad.data.toList i=C at *;generalize lE bd.data.toList i=D at *;rcases Nat.lt_trichotomy (C) (D) with ht|ht|ht
      .have Hv:=Qa (Hq.trans (a0.trans (if_pos ht)));have a4:((C:Nat):Int)< (D:Nat):=by omega
       go_wp2;go_ret;rw[Hv.out];exact⟨rfl,Hw⟩
      .have Hv:=Qa (a0.trans ((if_neg (by omega)).trans (if_neg (by omega))));have a4:¬ ((C:Nat):Int)< (D:Nat):=by omega
       have a7:¬ ((D:Nat):Int)< (C:Nat):=by omega
       go_wp2_with fail;exact⟨⟨i+1,by go_num,by rw[a6.out,a5.out];omega,Hv.out,rfl⟩,by simp[intOf];omega⟩
      .have Hv:=Qa (Hq.trans (a0.trans ((if_neg (by omega)).trans (if_pos ht))));have a4:¬ ((C:Nat):Int)< (D:Nat):=by omega
       have a7:((D:Nat):Int)< (C:Nat):=by omega
       go_wp2;go_ret;rw[Hv.out];exact⟨rfl,Hw⟩
     .have b4:¬ (i:Int)<bd.size:=by omega
      rw[wH hB] at a0 hD;generalize lE ad.data.toList i=C at *;rcases Nat.lt_trichotomy (C) (48) with ht|ht|ht
      .have Hv:=Qa (Hq.trans (a0.trans (if_pos ht)));have a4:((C:Nat):Int)< (48:Nat):=by omega
       go_wp2;go_ret;rw[Hv.out];exact⟨rfl,Hw⟩
      .have Hv:=Qa (a0.trans ((if_neg (by omega)).trans (if_neg (by omega))));have a4:¬ ((C:Nat):Int)< (48:Nat):=by omega
       have a7:¬ ((48:Nat):Int)< (C:Nat):=by omega
       go_wp2_with fail;exact⟨⟨i+1,by go_num,by rw[a6.out,a5.out];omega,Hv.out,rfl⟩,by simp[intOf];omega⟩
      .have Hv:=Qa (Hq.trans (a0.trans ((if_neg (by omega)).trans (if_pos ht))));have a4:¬ ((C:Nat):Int)< (48:Nat):=by omega
       have a7:((48:Nat):Int)< (C:Nat):=by omega
       go_wp2;go_ret;rw[Hv.out];exact⟨rfl,Hw⟩
    .have b7:¬ (i:Int)<ad.size:=by omega
     have hB:i<bd.size:=by omega
     have b4:(i:Int)<bd.size:=by omega
     have iB:=td hB;rw[wH hA] at a0 hC;generalize lE bd.data.toList i=D at *;rcases Nat.lt_trichotomy (48) (D) with ht|ht|ht
     .have Hv:=Qa (Hq.trans (a0.trans (if_pos ht)));have a4:((48:Nat):Int)< (D:Nat):=by omega
      go_wp2;go_ret;rw[Hv.out];exact⟨rfl,Hw⟩
     .have Hv:=Qa (a0.trans ((if_neg (by omega)).trans (if_neg (by omega))));have a4:¬ ((48:Nat):Int)< (D:Nat):=by omega
      have a7:¬ ((D:Nat):Int)< (48:Nat):=by omega
      go_wp2_with fail;exact⟨⟨i+1,by go_num,by rw[a6.out,a5.out];omega,Hv.out,rfl⟩,by simp[intOf];omega⟩
     .have Hv:=Qa (Hq.trans (a0.trans ((if_neg (by omega)).trans (if_pos ht))));have a4:¬ ((48:Nat):Int)< (D:Nat):=by omega
      have a7:((D:Nat):Int)< (48:Nat):=by omega
      go_wp2;go_ret;rw[Hv.out];exact⟨rfl,Hw⟩
   .have b7:¬ (i:Int)<ad.size:=by omega
    have b4:¬ (i:Int)<bd.size:=by omega
    have Hv:=Qa (Hq.trans (Hc.trans (D7 _ _ i (by rw[a6.out];omega) (by rw[a5.out];omega))));go_wp2;go_ret;rw[Hv.out];exact⟨rfl,Hw⟩
 .have c0:(((ad.size:Int)+ax) != ((bd.size:Int)+bx))=true:=by simp[h0]
  rcases Int.lt_or_gt_of_ne h0 with h2|h2
  .have Hq:=Qa (show js ⟨an,ad,ax⟩ ⟨bn,bd,bx⟩ = -1 by rw[hq];unfold sg;rw[if_pos h2];rfl);clear hq h0 b0 a9;go_in;go_wp2;go_ret;rw[Hq.out];exact⟨rfl,Hw⟩
  .have b9:¬ ((ad.size:Int)+ax)< ((bd.size:Int)+bx):=by omega
   have Hq:=Qa (show js ⟨an,ad,ax⟩ ⟨bn,bd,bx⟩=1 by rw[hq];unfold sg;rw[if_neg b9,if_pos h2];rfl);clear hq h0 b0 a9;go_in;go_wp2;go_ret;rw[Hq.out];exact⟨rfl,Hw⟩
theorem DH {a b:Dc}(ha:kt a)(hb:kt b):aA (eT a) (eT b)=if gS a=gS b then gS a*js a b else sg (gS a) (gS b):=by
 rw[vK]
 by_cases h:gS a=gS b
 .rw[if_pos h]
  by_cases h0:gS a=0
  .rw[if_neg (fun e=>e.2 h0),h0,Int.zero_mul,<-h,h0];rfl
  .rw[if_pos ⟨h,h0⟩,BC (rY ha h0) (rY hb (h▸h0))]
 .rw[if_neg h,if_neg (fun e=>h e.1)]
theorem Cj {ad bd:Nc}{ax bx:Int}(ha:uG ⟨an,ad,ax⟩)(hb:uG ⟨bn,bd,bx⟩)(na:kt ⟨an,ad,ax⟩)(nb:kt ⟨bn,bd,bx⟩):Calls prog 95 #[.agg #[.bool an,ad,(ax:Int)],.agg #[.bool bn,bd,(bx:Int)]] w fun e w'=>dR (aA (eT ⟨an,ad,ax⟩) (eT ⟨bn,bd,bx⟩)) w e w':=by
 have Hr:=Qa (DH na nb);obtain⟨H0,H1,Hw,-⟩:=ik w (Jd an ad ax) (Jd bn bd bx);have b4:=Qa (fun w'=>zr (w:=w') ha hb);have a5:=fW ⟨an,ad,ax⟩;have a7:=fW ⟨bn,bd,bx⟩;have hz:=FP ⟨an,ad,ax⟩ ⟨bn,bd,bx⟩;clear ha hb na nb;go_in;go_wp2_with fail;obtain⟨w0,b3⟩:=y7 ((w.alloc (Jd an ad ax)).alloc (Jd bn bd bx));rw[b3] at Hw H0 H1 ⊢;clear b3;refine rL.mono ?_;rintro e w1 ⟨rfl,a4⟩;have b0:=ac (al H1 a4) (j:=0) (u:=.bool bn) rfl;have b1:=ac (al H1 a4) (j:=1) (u:=.string bd) rfl;have b2:=ac (al H1 a4) (j:=2) (u:=(bx:Int)) rfl;have a9:=Qa a4;clear a4;go_wp2_with fail;refine rL.mono ?_;rintro e w2 ⟨rfl,b5⟩;have a3:=Qa (a9.trans (b5.mono a9.size));have a6:=Qa (Hw.trans (a3.mono Hw.size));have a0:=ac (al H0 a3) (j:=0) (u:=.bool an) rfl;have a1:=ac (al H0 a3) (j:=1) (u:=.string ad) rfl;have a2:=ac (al H0 a3) (j:=2) (u:=(ax:Int)) rfl;have b0:=ac (al H1 a3) (j:=0) (u:=.bool bn) rfl;have b1:=ac (al H1 a3) (j:=1) (u:=.string bd) rfl;have b2:=ac (al H1 a3) (j:=2) (u:=(bx:Int)) rfl;have b8:=Qa (b4 w2);clear b5 a9 Hw H0 H1 b4 a3;generalize gS ⟨an,ad,ax⟩=sa at *;generalize gS ⟨bn,bd,bx⟩=sb at *;generalize js ⟨an,ad,ax⟩ ⟨bn,bd,bx⟩=z at *
 by_cases he:sa=sb
 .subst he;have Hv:=Qa (Hr.trans (if_pos rfl));have c1:IntKind.i64.wrap (sa*z)=sa*z:=IntWalk.i64_in _ (by
   have h1:z = -1\/z=0\/z=1:=by omega
   rcases a5 with h|h|h <;> rcases h1 with k|k|k <;> rw[h,k] <;> omega)
  have c0:(sa !=sa)=false:=by simp
  clear Hr a5 a7 hz;go_wp2_with fail;refine Za b8 ?_;rintro e w3 ⟨rfl,b6⟩;have b7:=Qa (a6.trans (b6.mono a6.size));clear b6;go_wp2;go_ret;rw[Hv.out];exact⟨rfl,b7⟩
 .have Hv:=Qa (Hr.trans (if_neg he));have c0:(sa !=sb)=true:=by simp[he]
  rcases Int.lt_or_gt_of_ne he with h2|h2
  .have Hs:=Qa (show sg sa sb = -1 by unfold sg;rw[if_pos h2]);clear Hr a5 a7 hz he;go_wp2;go_ret;rw[Hv.out,Hs.out];exact⟨rfl,a6⟩
  .have b9:¬sa<sb:=by omega
   have Hs:=Qa (show sg sa sb=1 by unfold sg;rw[if_neg b9,if_pos h2]);clear Hr a5 a7 hz he;go_wp2;go_ret;rw[Hv.out,Hs.out];exact⟨rfl,a6⟩
def kq (j:JV)(w:Wd)(e:Ending)(w':Wd):Prop:= ∃A n q,e =.returned (.tuple #[.slice A n q,true])/\ge w w'/\bo (w.heap.size<= ·) w' 0 (.slice A n q) (j.flat 0)
def Dd (t:TypeId)(u:Value):Prop:= ∀ (x:Value) (W:Wd),(Instr.typeAssert (.iface t x) 35 54 true).run prog W =.ok (.tuple #[u,false]) W
def LT (t:TypeId):Prop:= ∀ (x:Value) (W:Wd),(Instr.typeAssert (.iface t x) 35 49 true).run prog W =.ok (.tuple #[.agg #[],false]) W
theorem Ia(x W):y6 54 x 35 54 x true W:=by show _=_;kernel_rfl
theorem IM(x W):y6 49 x 35 49 x true W:=by show _=_;kernel_rfl
theorem II:Dd 55 (.agg #[]):=fun x W=>by kernel_rfl
theorem JW:Dd 123 (.agg #[]):=fun x W=>by kernel_rfl
theorem GV:Dd 37 (.agg #[]):=fun x W=>by kernel_rfl
theorem Dx:Dd 49 (.agg #[]):=fun x W=>by kernel_rfl
theorem GS:Dd 52 (.agg #[]):=fun x W=>by kernel_rfl
theorem JC:Dd 126 (.agg #[]):=fun x W=>by kernel_rfl
theorem D2:LT 52:=fun x W=>by kernel_rfl
theorem Im:LT 126:=fun x W=>by kernel_rfl
theorem me {w3:Wd}{x:Nd}(h1:ge w w1)(h2:jk w1 x (.returned v) w2)(h3:ge w2 w3):∃A n q,v =.slice A n q/\ge w w3/\bo (w.heap.size<= ·) w3 0 (.slice A n q) [x]:=by
 obtain⟨v',e,hb,hf⟩:=h2;obtain rfl:v=v':=by injection e
 obtain⟨A,q,rfl,-⟩:=hf.form;have a0:=h1.trans (hb.mono h1.size);exact⟨A,_,q,rfl,a0.trans (h3.mono a0.size),((hf.below h3 (Zb _)).low (Zk _)).imp fun g hg _=>Zc h1.size hg⟩
theorem FZ {d:Nat}(hd:1<=d)(a2:d<=70000):Calls prog 31 #[.iface 54 (.agg #[]),(d:Int)] w (kq (.mk 1 false es jx [] []) w):=by
 have k1:=Ia;have h0:((d:Int)==0)=false:=by simp;omega
 have Hb:=Qa (aa w (.cells #[] 54));have HN:=Qa (fun w1=>nO w1);go_in;go_wp2_with fail;refine aI (fun _=>True) (trivial) fun a0=>?_
 refine tH 1 a0 ?_;refine rH 0 fun K hK=>?_
 go_simp;refine(HN _).mono ?_;rintro e w2 h1;obtain⟨v,rfl,-⟩:=id h1;have H1:=Qa h1;clear h1;refine hK _ _ (trivial) (fun a0=>?_);clear hK K
 try simp only[Act.put,jP,jQ,jR]
 refine rH 2 fun K hK=>?_
 go_simp;refine gw.mono ?_;rintro e w3 ⟨rfl,hb⟩;have H3:=Qa hb;clear hb;refine hK _ _ (trivial) (fun a0=>?_);clear hK K
 try simp only[Act.put,jP,jQ,jR]
 refine bw 3 4 5 a0 ?_;refine y5 ?_;clear a0;obtain⟨A,n,q,rfl,a1,hf⟩:=me Hb.drew H1.out H3.out;have H2:=NA a1 hf;clear a1 hf H1 H3;go_wp2_with fail;go_ret2;exact⟨A,n,q,rfl,H2⟩
theorem EL {d:Nat}(hd:1<=d)(a2:d<=70000):Calls prog 31 #[.iface 49 (.agg #[]),(d:Int)] w (kq (.mk 7 false es jx [] []) w):=by
 have k1:=Dx;unfold Dd at k1;have k2:=l8;have k3:=mY;have k4:=lH;have k5:=IM;have h0:((d:Int)==0)=false:=by simp;omega
 have Hb:=Qa (aa w (.cells #[] 49));have HN:=Qa (fun w1=>nM w1);go_in;go_wp2_with fail;refine aI (fun _=>True) (trivial) fun a0=>?_
 refine tH 1 a0 ?_;refine rH 0 fun K hK=>?_
 go_simp;refine(HN _).mono ?_;rintro e w2 h1;obtain⟨v,rfl,-⟩:=id h1;have H1:=Qa h1;clear h1;refine hK _ _ (trivial) (fun a0=>?_);clear hK K
 try simp only[Act.put,jP,jQ,jR]
 refine rH 2 fun K hK=>?_
 go_simp;refine ga.mono ?_;rintro e w3 ⟨rfl,hb⟩;have H3:=Qa hb;clear hb;refine hK _ _ (trivial) (fun a0=>?_);clear hK K
 try simp only[Act.put,jP,jQ,jR]
 refine bw 3 4 5 a0 ?_;refine y5 ?_;clear a0;obtain⟨A,n,q,rfl,a1,hf⟩:=me Hb.drew H1.out H3.out;have H2:=NA a1 hf;clear a1 hf H1 H3;go_wp2_with fail;go_ret2;exact⟨A,n,q,rfl,H2⟩
theorem yy (d:Dc):Calls prog 64 #[.agg #[.bool d.neg,d.digits,(d.exp:Int)]] w (y4 (Df d) w):=by
 obtain⟨a,b,c⟩:=d;have a0:=aa w (.cells #[.bool a,b,(c:Int)] 120);have Hb:=Qa (a0.alloc a0.size (.cells #[false,es,(0:Int)] 71));have HZ:=Qa (Zf (w.alloc (.cells #[.bool a,b,(c:Int)] 120)) (.cells #[false,es,(0:Int)] 71));rw[World.size_alloc] at HZ;clear a0;unfold Df;simp only;go_in;go_wp2_with (refine bQ HZ ?_);exact Zh (results_cell_row results64 _ _ (w.heap.size+1) 71 _ (0,0) _ (by simp) (setRow_heap _ _ _ _ _ _ HZ) underlying71 rfl (show(prog.info? 71).map (·.size)=some 3 by kernel_rfl)) rfl ⟨rfl,Hb.grown (aj ..) Hb.size (fun g e=>by cases e;omega)⟩
theorem IK {d:Nat}(x:Dc)(hd:1<=d)(a4:d<=70000):Calls prog 31 #[.iface 123 (.agg #[.bool x.neg,x.digits,(x.exp:Int)]),(d:Int)] w (kq (.mk 3 false es x [] []) w):=by
 have k1:=JW;unfold Dd at k1;have k2:=nz;have k3:=FI;have h0:((d:Int)==0)=false:=by simp;omega
 have Hb:=Qa (aa w (.cells #[.bool x.neg,x.digits,(x.exp:Int)] 123));have c0:=au w [.bool x.neg,x.digits,(x.exp:Int)] 123 0 _ rfl;have c1:=au w [.bool x.neg,x.digits,(x.exp:Int)] 123 1 _ rfl;have c2:=au w [.bool x.neg,x.digits,(x.exp:Int)] 123 2 _ rfl;have HC:=NB c0 c1 c2;have HN:=Qa (fun w1=>kF x w1);have HD:=Qa (fun w1=>yy (w:=w1) x);obtain⟨xa,xb,xc⟩:=x;clear c0 c1 c2;unfold Df at HN HD;simp only at HN HD HC Hb ⊢;go_in;go_wp2_with fail;refine aI (fun w'=>w'.cell? (nl w.heap.size)=some (.bool xa)/\w'.cell? (no w.heap.size 1)=some (.string xb)/\w'.cell? (no w.heap.size 2)=some (.int .i64 xc)) (HC.out) fun a0=>?_
 refine bw 0 1 4 a0 ?_;refine rH 2 fun K hK=>?_
 go_simp;refine(HD _).mono ?_;rintro e w2 ⟨rfl,h1⟩;have H1:=Qa h1;clear h1;refine hK _ _ (⟨Zg H1 a0.1,Zg H1 a0.2.1,Zg H1 a0.2.2⟩) (fun a0=>?_);clear hK K
 try simp only[Act.put,jP,jQ,jR]
 refine rH 3 fun K hK=>?_
 go_simp;refine(HN _).mono ?_;rintro e w3 h1;obtain⟨v,rfl,a3,-⟩:=id h1;have H2:=Qa h1;have a1:=Qa a3;clear h1 a3;refine hK _ _ (⟨Zg a1 a0.1,Zg a1 a0.2.1,Zg a1 a0.2.2⟩) (fun a0=>?_);clear hK K
 try simp only[Act.put,jP,jQ,jR]
 refine rH 5 fun K hK=>?_
 go_simp;refine iF.mono ?_;rintro e w4 ⟨rfl,hb⟩;have H3:=Qa hb;clear hb;refine hK _ _ (⟨Zg H3 a0.1,Zg H3 a0.2.1,Zg H3 a0.2.2⟩) (fun a0=>?_);clear hK K
 try simp only[Act.put,jP,jQ,jR]
 refine bw 6 7 8 a0 ?_;refine y5 ?_;clear a0;obtain⟨A,n,q,rfl,a2,hf⟩:=me (Hb.drew.trans (H1.mono (by simp))) H2.out H3.out;have H5:=NA a2 hf;clear a2 hf H1 H2 H3 a1;go_wp2_with fail;go_ret2;exact⟨A,n,q,rfl,H5⟩
theorem DM {d:Nat}(b:Bool)(hd:1<=d)(a1:d<=70000):Calls prog 31 #[.iface 55 (.bool b),(d:Int)] w (kq (.mk 2 b es jx [] []) w):=by
 have k1:=II;unfold Dd at k1;have k2:=Bb;have h0:((d:Int)==0)=false:=by simp;omega
 go_in;go_wp2_with fail;refine(nr b w).mono ?_;rintro e w1 h1;obtain⟨v,rfl,-⟩:=id h1;have H1:=Qa h1;clear h1;go_wp2_with fail;refine fZ.mono ?_;rintro e w2 ⟨rfl,hb⟩;obtain⟨A,n,q,rfl,a0,hf⟩:=me (Ze _ _) H1.out hb;have H2:=NA a0 hf;clear hb a0 hf H1;go_wp2_with fail;go_ret2;exact⟨A,n,q,rfl,H2⟩
theorem DA {d:Nat}(s:Nc)(hd:1<=d)(a1:d<=70000):Calls prog 31 #[.iface 37 s,(d:Int)] w (kq (.mk 4 false s jx [] []) w):=by
 have k1:=GV;unfold Dd at k1;have k2:=lR;have k3:=nH;have k4:=uf;have h0:((d:Int)==0)=false:=by simp;omega
 go_in;go_wp2_with fail;refine(nR s w).mono ?_;rintro e w1 h1;obtain⟨v,rfl,-⟩:=id h1;have H1:=Qa h1;clear h1;go_wp2_with fail;refine gj.mono ?_;rintro e w2 ⟨rfl,hb⟩;obtain⟨A,n,q,rfl,a0,hf⟩:=me (Ze _ _) H1.out hb;have H2:=NA a0 hf;clear hb a0 hf H1;go_wp2_with fail;go_ret2;exact⟨A,n,q,rfl,H2⟩
theorem Dv (h:cY P w A us ks)(i:Nat)(hu:us[i]?=some u):Calls prog 97 #[.pointer A,(i:Int)] w fun e w'=>e =.returned (.tuple #[u,true])/\w=w':=by
 have hi:=(List.getElem?_eq_some_iff.1 hu).1;rcases h with ⟨rfl,rfl,rfl⟩|⟨g,R,c,rfl,hg,hr,hl⟩
 .simp at hi
 .exact pQ hg hr i hi hu
theorem dO {k:Nat}{xs:Nb}(h:w.ownsRow base e k v n xs)(hg:w.grownBy w' v.ownBlock):aK (fun t=>t=e) w w':=
 aK.of_grown hg (fun g e' cs t z hh=>by obtain⟨-,cur,h'⟩:=am h e';rw[h'] at hh;injection hh with hh;injection hh with _ hh;exact hh.symm)
def MD (W:Wd)(ks:List JV)(s6 s7:Value)(wr:Wd):Prop:= ∃ (i:Nat) (vs:Nb) (A:OA) (q:Nat),s7 =(i:Int)/\i<=ks.length/\s6 =.slice A i q/\wr.ownsRow W.heap.size 27 1 (.slice A i q) i vs/\bC (fun v ns=>cS wr 0 v ns) vs ((ks.take i).map (JV.flat 0))/\ge W wr
theorem wM {d:Nat}{z:Int}(h:cY P w A us ks)(hz:IntKind.i64.wrap (z - 1)=d)(hsz:JV.sizes ks<=1000000)(hkl:∀t∈ks,∀x∈t.flat 0,x.names.length<=1000000/\∀q∈x.kids,q<=1000000)
  (H:∀ (i:Nat) v k,us[i]?=some v->ks[i]?=some k->∀w1,ge w w1->Calls prog 31 #[v,(d:Int)] w1 (kq k w1)) :
  Calls prog 70 #[.pointer A,(z:Int)] w (kq (.mk 5 false es jx [] ks) w):=by
 have hl:=h.len;have b7:=fT ks;have Hh:=Qa h;have HH:=Qa H;have b5:=Qa hkl;have b6:=Qa hsz;have a9:=Qa hl;have c0:us.length<=1000000:=by omega
 clear h H hkl hl b7 hsz;generalize hn:us.length=n at *;have Hn:=Qa hn;clear hn;go_in;go_wp2_with fail
 go_loopw [6,7,8,9,10,11] (fun s6 s7 _ _ _ _ wr=>MD w ks s6 s7 wr) (fun _ s7 _ _ _ _ _=>n - (intOf s7).toNat)
 case atStart=>exact⟨0, [],none,0,rfl,Zk _,rfl,⟨rfl,.inl ⟨rfl,rfl⟩⟩,by rw[List.take_zero];exact bC.nil _,Ze _ _⟩
 case round=>
  obtain⟨i,vs,A6,q6,rfl,hi,rfl,ho,ha,hb⟩:=hrel;have Ho:=NA ho ha;have Hb:=Qa hb;have Hi:=Qa hi;have a7:=Qa (dX (Hh.below hb));rw[Hn.out] at a7;clear ho ha hb hi;go_wp2_with fail;refine Za a7 ?_;rintro e w1 ⟨rfl,rfl⟩;clear a7
  by_cases hin:i<n
  .have a5:(i:Int)<n:=by omega
   obtain⟨v,hv⟩:=y8 us i (by have:=Hn.out;omega);obtain⟨k,hk⟩:=y8 ks i (by have:=a9.out;omega);have HA:=Qa (Dv (Hh.below Hb) i hv);have HV:=Qa (HH i v k hv hk wr Hb.out);have Ht:=Qa (show ks.take (i+1)=ks.take i ++ [k] by rw[List.take_add_one,hk];rfl);clear hv hk;go_wp2_with fail;refine Za HA ?_;rintro e w2 ⟨rfl,rfl⟩;go_wp2_with fail;refine Za HV ?_;rintro e w3 ⟨A3,n3,q3,rfl,a0,b4⟩;have a2:=aa w3 (.cells #[.slice A3 n3 q3] 27);have a4:=Hb.trans ((a0.trans (a2.mono a0.size)).mono Hb.size);have a6:=Qa (aq Ho.1 (a0.trans (a2.mono a0.size)) (Zb _));have b8:=Qa ((Ho.2.mono fun _ _ h=>h.below (a0.trans (a2.mono a0.size)) (Zb _)).snoc (b4.flat.below a2 (Zb _)));have b9:=Qa a4;have a1:=a4.size;clear a2 a0 b4 a4 HA HV Ho;go_wp2_with (at_builtin;refine ir ej a6.out (au w3 [.slice A3 n3 q3] 27) a1 ?_;intro v' w5 p1 p2 p3;have b0:=Qa p1;have b1:=Qa p2;clear p1 p2 p3);obtain⟨A5,q5,rfl,-⟩:=ai b0.out;refine⟨⟨i+1,vs ++ [.slice A3 n3 q3],A5,q5,by go_num,by have:=a9.out;omega,rfl,b0.out,?_,aD b9.out a6.out a1 b1.out⟩,by simp[intOf];omega⟩;rw[Ht.out,List.map_append];exact b8.mono fun _ _ h=>h.keeps (dO a6 b1) (by decide) (by decide) (by decide)
  .have a5:¬ (i:Int)<n:=by omega
   have b2:i=ks.length:=by have:=Hi.out;have:=a9.out;omega
   have HT:=Qa (show fQ wr (.slice A6 i q6) (ks.map (JV.flat 0)) by
    have h2:=Ho.2;rw[b2,List.take_length] at h2;exact⟨vs,Sl.of_own Ho.1,h2⟩)
   have HL:=Qa (mT HT.out b6.out b5.out);clear b2;go_wp2_with fail;refine Za HL ?_;rintro e w2 ⟨v,rfl,b3,a3⟩;obtain⟨A8,q8,rfl,-⟩:=a3.form;have H2:=NA b3 a3;clear b3 a3 HL;go_wp2_with fail;refine ey.mono ?_;rintro e w3 ⟨rfl,a0⟩;have H3:=Qa a0;clear a0;go_wp2_with fail;go_ret2;exact⟨_,_,_,rfl,Hb.trans ((H2.1.trans (H3.mono H2.1.size)).mono Hb.size),((H2.2.below H3 (Zb _)).low (Zk _)).imp fun g hg _=>Zc Hb.size hg⟩
def LZ (W:Wd)(ns:List Nc)(ks:List JV)(s6 s7 s8:Value)(wr:Wd):Prop:= ∃ (i:Nat) (us vs:Nb) (A B:OA) (p q:Nat),s8 =(i:Int)/\i<=ks.length/\s6 =.slice A i p/\s7 =.slice B i q/\wr.ownsRow W.heap.size 9 1 (.slice A i p) i ((ns.take i).map dy)/\wr.ownsRow W.heap.size 27 1 (.slice B i q) i vs/\bC (fun v ns=>bo (fun g=>(Value.slice A 0 0).ownBlock≠some g) wr 0 v ns) vs ((ks.take i).map (JV.flat 0))/\ge W wr
theorem CJ {a b d:Nat}{xs:Nb}{ns:List Nd}(ho:w.ownsRow base 9 1 (.slice A m a) n xs)(hg:w.grownBy w' (Value.slice A m a).ownBlock)(hc:(Value.slice A' b c).ownBlock= (Value.slice A m a).ownBlock\/(Value.slice A' b c).ownBlock=some w.heap.size)(h:bo (fun g=>(Value.slice A 0 0).ownBlock≠some g) w d u ns):bo (fun g=>(Value.slice A' 0 0).ownBlock≠some g) w' d u ns:=by
 have e1:(Value.slice A 0 0).ownBlock= (Value.slice A m a).ownBlock:=by cases A <;> rfl
 have e2:(Value.slice A' 0 0).ownBlock= (Value.slice A' b c).ownBlock:=by cases A' <;> rfl
 have h1:=h.imp (Q:=fun g=>(Value.slice A m a).ownBlock≠some g/\(Value.slice A' 0 0).ownBlock≠some g) fun g hp hl=>⟨e1▸hp,fun e=>by
  rw[e2] at e;rcases hc with hc|hc
  .rw[hc,<-e1] at e;exact hp e
  .rw[hc] at e;injection e with e;omega⟩
 exact(h1.grownStr hg (fun g e=>by obtain⟨-,cur,h'⟩:=am ho e;exact⟨cur,(0,0),h'⟩) fun g hp e=>hp.1 e).imp fun g hp _=>hp.2
theorem GN {d:Nat}{z:Int}(h:eQ P w A us ns ks)(hz:IntKind.i64.wrap (z - 1)=d)(hsz:JV.sizes ks<=1000000)(hkl:∀t∈ks,∀x∈t.flat 0,x.names.length<=1000000/\∀q∈x.kids,q<=1000000)
  (H:∀ (i:Nat) v k,us[i]?=some v->ks[i]?=some k->∀w1,ge w w1->Calls prog 31 #[v,(d:Int)] w1 (kq k w1)) :
  Calls prog 71 #[.pointer A,(z:Int)] w (kq (.mk 6 false es jx ns ks) w):=by
 have hl:us.length=ks.length/\ns.length=ks.length:=by obtain⟨g,R,c,-,-,-,h1,h2⟩:=id h;exact⟨h1,h2⟩
 have c7:=fT ks;have Hh:=Qa h;have HH:=Qa H;have c5:=Qa hkl;have c6:=Qa hsz;have a2:=Qa hl;have d0:us.length<=1000000:=by omega
 clear h H hkl hl c7 hsz;generalize hn:us.length=n at *;have Hn:=Qa hn;clear hn;go_in;go_wp2_with fail
 go_loopw [6,7,8,9,10,11,12] (fun s6 s7 s8 _ _ _ _ wr=>LZ w ns ks s6 s7 s8 wr) (fun _ _ s8 _ _ _ _ _=>n - (intOf s8).toNat)
 case atStart=>exact⟨0, [], [],none,none,0,0,rfl,Zk _,rfl,rfl,⟨rfl,.inl ⟨rfl,rfl⟩⟩,⟨rfl,.inl ⟨rfl,rfl⟩⟩,by rw[List.take_zero];exact bC.nil _,Ze _ _⟩
 case round=>
  obtain⟨i,ys,vs,A6,A7,p6,q7,rfl,hi,rfl,rfl,hs,ho,ha,hb⟩:=hrel;have Ho:=NA ho ha;have Hs:=Qa hs;have Hb:=Qa hb;have Hi:=Qa hi;have b5:=Qa (eP (Hh.below hb));rw[Hn.out] at b5;clear ho ha hb hi hs;go_wp2_with fail;refine Za b5 ?_;rintro e w1 ⟨rfl,rfl⟩;clear b5
  by_cases hin:i<n
  .have b4:(i:Int)<n:=by omega
   obtain⟨v,hv⟩:=y8 us i (by have:=Hn.out;omega);obtain⟨k,hk⟩:=y8 ks i (by have:=a2.out;omega);obtain⟨s,hs⟩:=y8 ns i (by have:=a2.out;omega);have HA:=Qa (eW (Hh.below Hb) i hv hs);have HV:=Qa (HH i v k hv hk);have Ht:=Qa (show ks.take (i+1)=ks.take i ++ [k]/\ns.take (i+1)=ns.take i ++ [s] from⟨by rw[List.take_add_one,hk];rfl,by rw[List.take_add_one,hs];rfl⟩);clear hv hk hs;go_wp2_with fail;refine Za HA ?_;rintro e w2 ⟨rfl,a4⟩;have c1:=Qa (HV w2 (Hb.trans (a4.mono Hb.size)));have b0:=Qa a4;clear a4 HV HA;go_wp2_with fail;refine Za c1 ?_;rintro e w3 ⟨A3,n3,q3,rfl,a5,c2⟩;have a0:=aa w3 (.cells #[s] 9);have hq:=(b0.trans (a5.mono b0.size)).trans (a0.mono (Zc b0.size a5.size));have b9:=Qa (Hb.trans (hq.mono Hb.size));have a6:=Qa (aq Hs.out hq (Zb _));have b7:=Qa (aq Ho.1 hq (Zb _));have b8:=Qa ((Ho.2.mono fun _ _ h=>h.below hq (Zb _)).snoc ((c2.below a0 (Zb _)).imp fun g hg _ e=>by have h1:=(World.ownsRow.lt Hs g (by cases A6 with|none=>cases e|some a=>exact e)).2;have:=b0.size;have:w2.heap.size<=g:=hg;omega));have a7:=b9.size;clear a0 a5 c2 hq c1 Ho Hs Hb b0;go_upto_region 11 with (at_builtin;refine ir uS a6.out (au w3 [s] 9) a7 ?_;intro v' w5 p1 p2 p3;have a3:=Qa p1;have a1:=Qa p2;have c3:=Qa p3;clear p1 p2 p3)
   obtain⟨A5,q5,rfl,-⟩:=ai a3.out;have c4:=dO a6.out a1.out;have b6:=aD b9.out a6.out a7 a1.out;have a0:=aa w5 (.cells #[.slice A3 n3 q3] 27);have c0:=Qa (b6.trans (a0.mono b6.size));have c8:=Qa (aq a3.out a0 (Zb _));have b2:=Qa (aq (ap b7 c4 (by decide)) a0 (Zb _));have c9:=Qa (b8.mono fun _ _ h=>(CJ a6 a1 c3 h).below a0 (Zb _));have a9:=c0.size;clear c4 b6 a0 b7 a6 b8 a3 a1 c3;go_wp2_with (at_builtin;refine ir ej b2.out (au w5 [.slice A3 n3 q3] 27) a9 ?_;intro v' w7 p1 p2 p3;have a3:=Qa p1;have a1:=Qa p2;clear p1 p2 p3);obtain⟨A7',q7',rfl,-⟩:=ai a3.out;refine⟨⟨i+1,ys,vs ++ [.slice A3 n3 q3],A5,A7',q5,q7',by go_num,by have:=a2.out;omega,rfl,rfl,?_,a3.out,?_,aD c0.out b2.out a9 a1.out⟩,by simp[intOf];omega⟩
   .rw[Ht.out.2,List.map_append];exact ap c8.out (dO b2 a1) (by decide)
   .rw[Ht.out.1,List.map_append];exact c9.mono fun _ _ h=>h.keeps (dO b2 a1) (by decide) (by decide) (by decide)
  .have b4:¬ (i:Int)<n:=by omega
   have b1:i=ks.length:=by have:=Hi.out;have:=a2.out;omega
   have HT:=Qa (show fQ wr (.slice A7 i q7) (ks.map (JV.flat 0))/\Sl wr (.slice A6 i p6) (ns.map dy) by
    have h2:=Ho.2;have h3:=Sl.of_own Hs.out;rw[b1,List.take_length] at h2;rw[b1,<-a2.out.2,List.take_length,a2.out.2,<-b1] at h3;exact⟨⟨vs,Sl.of_own Ho.1,h2.mono fun _ _ h=>h.flat⟩,h3⟩)
   have HL:=Qa (kL HT.2 HT.1 (by have:=a2.out;omega) c6.out c5.out);clear b1;go_wp2_with fail;refine Za HL ?_;rintro e w2 ⟨v,rfl,a4,b3⟩;obtain⟨A8,q8,rfl,-⟩:=b3.form;have H2:=NA a4 b3;clear a4 b3 HL;go_wp2_with fail;refine gO.mono ?_;rintro e w3 ⟨rfl,a5⟩;have H3:=Qa a5;clear a5;go_wp2_with fail;go_ret2;exact⟨_,_,_,rfl,Hb.trans ((H2.1.trans (H3.mono H2.1.size)).mono Hb.size),((H2.2.below H3 (Zb _)).low (Zk _)).imp fun g hg _=>Zc Hb.size hg⟩
theorem IW {d:Nat}(h1:0<d)(h2:d<=70000)(h:Calls prog 70 #[.pointer A,(d:Int)] w (kq j w)):Calls prog 31 #[.iface 52 (.pointer A),(d:Int)] w (kq j w):=by
 have k1:=GS;unfold Dd at k1;have k2:=lQ;have k3:=m7;have k4:=iU;have k5:=D2;unfold LT at k5;have k6:=lS;have h0:((d:Int)==0)=false:=by simp;omega
 have H:=Qa h;clear h;go_in;go_wp2_with fail;refine Za H ?_;rintro e w1 ⟨A,n,q,rfl,hb⟩;have Hb:=Qa hb;clear hb H;go_wp2_with fail;go_ret2;exact⟨A,n,q,rfl,Hb⟩
theorem KM {d:Nat}(h1:0<d)(h2:d<=70000)(h:Calls prog 71 #[.pointer A,(d:Int)] w (kq j w)):Calls prog 31 #[.iface 126 (.pointer A),(d:Int)] w (kq j w):=by
 have k1:=JC;unfold Dd at k1;have k2:=nu;have k3:=oR;have k4:=jB;have k5:=Im;unfold LT at k5;have k6:=nE;have k7:=pw;have h0:((d:Int)==0)=false:=by simp;omega
 have H:=Qa h;clear h;go_in;go_wp2_with fail;refine Za H ?_;rintro e w1 ⟨A,n,q,rfl,hb⟩;have Hb:=Qa hb;clear hb H;go_wp2_with fail;go_ret2;exact⟨A,n,q,rfl,Hb⟩
theorem tg (h:VW P W v j):Ok True (fun _=>True) j->∀ (d:Nat) (w:Wd),ge W w->j.size<=d->d<=70000->Calls prog 31 #[v,(d:Int)] w (kq j w):=by
 have kids:∀ {k:Int} {ns:List Nc} {ks:List JV} {d:Nat},(JV.mk k false es jx ns ks).size<=d->d<=70000->(∀u∈ks,Ok True (fun _=>True) u)->JV.sizes ks<=1000000/\∀t∈ks,∀x∈t.flat 0,x.names.length<=1000000/\∀q∈x.kids,q<=1000000:=fun {k ns ks d} h1 h2 h3=>by
  simp only[JV.size] at h1;refine⟨by omega,fun t ht x hx=>?_⟩;have h4:=fG ht;have h5:=wK (h3 t ht) 0 x hx;exact⟨by omega,fun q hq=>by have:=oI t 0 x hx q hq;omega⟩
 induction h with
 |null=>intro _ d w _ h1 h2;exact FZ (Zc (JV.size_pos _) h1) h2
 |bool b=>intro _ d w _ h1 h2;exact DM b (Zc (JV.size_pos _) h1) h2
 |num x=>intro _ d w _ h1 h2;exact IK x (Zc (JV.size_pos _) h1) h2
 |text s=>intro _ d w _ h1 h2;exact DA s (Zc (JV.size_pos _) h1) h2
 |hole=>intro _ d w _ h1 h2;exact EL (Zc (JV.size_pos _) h1) h2
 |bare=>
  intro a1 d w hb h1 h2;have hk:=kids (k:=5) (ns:= []) (ks:= []) h1 h2 (fun u hu=>by cases hu);obtain⟨c,rfl⟩:∃c,d=c+1:=⟨d - 1,by have:=Zc (JV.size_pos _) h1;omega⟩;refine IW (Nat.succ_pos _) h2 (wM (P:=P) (us:= []) (ks:= []) (d:=c) (.inl ⟨rfl,rfl,rfl⟩) (by rw[IntWalk.i64_in _ (by omega)];omega) hk.1 hk.2 fun i v k e1=>by simp at e1)
 |list g A c us ks hp hg hr hl hks ih=>
  intro a1 d w hb h1 h2;have a0:∀u∈ks,Ok True (fun _=>True) u:=by cases a1;assumption
  have hk:=kids (k:=5) (ns:= []) h1 h2 a0;obtain⟨d,rfl⟩:∃c,d=c+1:=⟨d - 1,by have:=Zc (JV.size_pos _) h1;omega⟩;refine IW (Nat.succ_pos _) h2 (wM (P:=P) (d:=d) (cY.below (.inr ⟨g,A,c,rfl,hg,hr,hl⟩) hb) (by rw[IntWalk.i64_in _ (by omega)];omega) hk.1 hk.2 fun i v k e1 e2 w1 a2=>?_);have hm:=Zl e2;have:=fG hm;simp only[JV.size] at h1;exact ih i v k e1 e2 (a0 k hm) d w1 (hb.trans (a2.mono hb.size)) (by omega) (by omega)
 |obj g A c us ns ks hp hg hr hl hn hks ih=>
  intro a1 d w hb h1 h2;have a0:∀u∈ks,Ok True (fun _=>True) u:=by cases a1;assumption
  have hk:=kids (k:=6) (ns:=ns) h1 h2 a0;obtain⟨d,rfl⟩:∃c,d=c+1:=⟨d - 1,by have:=Zc (JV.size_pos _) h1;omega⟩;refine KM (Nat.succ_pos _) h2 (GN (P:=P) (d:=d) (eQ.below ⟨g,A,c,rfl,hg,hr,hl,hn⟩ hb) (by rw[IntWalk.i64_in _ (by omega)];omega) hk.1 hk.2 fun i v k e1 e2 w1 a2=>?_);have hm:=Zl e2;have:=fG hm;simp only[JV.size] at h1;exact ih i v k e1 e2 (a0 k hm) d w1 (hb.trans (a2.mono hb.size)) (by omega) (by omega)
theorem tW (h:VW P w v j)(a0:Ok True (fun _=>True) j)(hs:j.size<=70000):Calls prog 9 #[v] w (kq j w):=by
 have H:=Qa (show Calls prog 31 #[v,(70000:Int)] w (fun e w'=>kq j w e w') from tg h a0 70000 w (Ze _ _) hs (Zb _));clear h a0;go_in;go_wp2_with fail;refine Za H ?_;rintro e w1 ⟨A,n,q,rfl,hb⟩;have Hb:=Qa hb;clear hb H;go_wp2_with fail;go_ret2;exact⟨A,n,q,rfl,Hb⟩
structure Fr.ok (N:Nc->Prop) (f:Fr):Prop where
 list:f.obj=false->f.mems = []/\f.name=none
 obj:f.obj=true->f.items = []
 names:∀m∈f.mems,N m.1
 nodup:(f.mems.map Prod.fst).Nodup
 name:∀s,f.name=some s->N s/\s∉f.mems.map Prod.fst
def cI (f:Fr):Bool:=f.obj&&f.name.isNone
def AC:Nat->List Fr->Option JV->Prop
 |0,frs,d=>d=none/\∀f fs,frs=f::fs->cI f=false
 |1,frs,d=>d=none/\∃f fs,frs=f::fs/\f.obj=false
 |2,frs,d=>d=none/\∃f fs,frs=f::fs/\f.obj=true/\f.name=none
 |3,frs,d=>d=none/\∃f fs,frs=f::fs/\f.obj=true/\f.name=none
 |4,frs,d=>d=none/\∃f fs,frs=f::fs/\f.obj=true/\f.name.isSome=true
 |5,frs,d=>d=none/\∃f fs,frs=f::fs/\f.obj=false
 |6,frs,d=>d=none/\∃f fs,frs=f::fs/\f.obj=true/\f.name=none
 |7,frs,d=>frs = []/\d.isSome=true
 |_,_,_=>False
structure dT.ok (N:Nc->Prop) (c:dT):Prop where
 frs:∀f∈c.frs,f.ok N
 rest:∀f∈c.frs.tail,cI f=false
 want:AC c.want c.frs c.done
theorem dT.ok.start (N:Nc->Prop):dT.ok N ⟨[],0,none⟩:=⟨by simp,by simp,rfl,by simp⟩
theorem iD (h:f.obj=true):dq (f::fs) j= ⟨{f with mems:=f.mems ++ [(f.name.getD ⟨#[]⟩,j)],name:=none}::fs,6,none⟩:=if_pos h
theorem gg (h:f.obj=false):dq (f::fs) j= ⟨{f with items:=f.items ++ [j]}::fs,5,none⟩:=if_neg (by rw[h];decide)
theorem oH {N:Nc->Prop}(h:∀f∈frs,f.ok N)(hr:∀f∈frs,cI f=false):(dq frs j).ok N:=by
 cases frs with
 |nil=>exact⟨by simp[dq],by simp[dq],rfl,rfl⟩
 |cons f fs=>
  have hf:=h f (by simp);have hw:=hr f (by simp)
  by_cases ho:f.obj=true
  .rw[iD ho];have hn:∃s,f.name=some s:=by
    simp only[cI,ho,Bool.true_and] at hw
    cases he:f.name with
    |none=>rw[he] at hw;cases hw
    |some s=>exact⟨s,rfl⟩
   obtain⟨s,hs⟩:=hn;obtain⟨n1,n2⟩:=hf.name s hs;refine⟨fun g hg=>?_,fun g hg=>hr g (Zm _ hg),rfl,_,_,rfl,ho,rfl⟩;rcases List.mem_cons.1 hg with rfl|hg
   .refine⟨fun e=>?_,fun _=>hf.obj ho,fun m hm=>?_,?_,fun s hs=>by cases hs⟩
    .simp only at e;rw[ho] at e;cases e
    .rcases List.mem_append.1 hm with hm|hm
     .exact hf.names m hm
     .obtain rfl:=List.mem_singleton.1 hm;simp only[hs,Option.getD_some];exact n1
    .simp only[hs,Option.getD_some,List.map_append,List.map_cons,List.map_nil];rw[List.nodup_append];refine⟨hf.nodup,by simp,fun a ha b hb=>?_⟩;obtain rfl:=List.mem_singleton.1 hb;exact fun e=>n2 (e▸ha)
   .exact h g (Zm _ hg)
  .have a0:f.obj=false:=by simpa using ho
   rw[gg a0];refine⟨fun g hg=>?_,fun g hg=>hr g (Zm _ hg),rfl,_,_,rfl,a0⟩;rcases List.mem_cons.1 hg with rfl|hg
   .exact⟨fun _=>hf.list a0,fun e=>(by simp only at e;rw[a0] at e;cases e),hf.names,hf.nodup,hf.name⟩
   .exact h g (Zm _ hg)
def IV (N:Nc->Prop):uE->Prop
 | .str s=>N s
 |_=>True
theorem dJ {w:Nat}{d:Option JV}(h:AC w frs d)(hw:w=0\/w=1):d=none/\∀f fs,frs=f::fs->cI f=false:=by
 rcases hw with rfl|rfl
 .exact h
 .obtain⟨h1,f,fs,rfl,h2⟩:=h;refine⟨h1,fun g gs e=>?_⟩;injection e with e _
  subst e;simp[cI,h2]
theorem oT (h1:∀f fs,frs=f::fs->cI f=false)(h2:∀f∈frs.tail,cI f=false):∀f∈frs,cI f=false:=by
 cases frs with
 |nil=>simp
 |cons g gs=>
  intro f hf;rcases List.mem_cons.1 hf with rfl|hf
  .exact h1 _ _ rfl
  .exact h2 f hf
theorem Fr.ok.new (N:Nc->Prop)(o:Bool):Fr.ok N ⟨o, [], [],none⟩:=⟨fun _=>⟨rfl,rfl⟩,fun _=>rfl,by simp,by simp,fun s h=>by cases h⟩
theorem FB {x:UInt8}(h:BH want x=true):(x=91\/x=123)/\(want=0\/want=1)\/x=93/\(want=1\/want=5)\/x=125/\(want=3\/want=6)\/x=58/\want=4\/x=44/\(want=5\/want=6):=by
 unfold BH at h
 split at h
 all_goals simp only[List.contains_eq_mem,List.mem_cons,List.not_mem_nil,or_false,decide_eq_true_eq] at h
 .rcases h with rfl|rfl <;> simp
 .rcases h with rfl|rfl|rfl <;> simp
 .subst h;simp
 .subst h;simp
 .rcases h with rfl|rfl <;> simp
 .rcases h with rfl|rfl <;> simp
theorem GY {N:Nc->Prop}{c c':dT}{t:uE}(h:c.ok N)(ht:IV N t)(hs:eh c t=some c'):c'.ok N:=by
 obtain⟨frs,want,done⟩:=c;obtain⟨h1,h2,h3⟩:=h;simp only at h1 h2 h3
 cases t with
 |leaf j=>
  simp only[eh] at hs
  split at hs
  .rename_i hw
   obtain rfl:=Zi hs;exact oH h1 (oT (dJ h3 hw).2 h2)
  .cases hs
 |str s=>
  simp only[eh] at hs
  split at hs
  .rename_i hw
   have h4:done=none/\∃f fs,frs=f::fs/\f.obj=true/\f.name=none:=by
    try simp only at hw
    rcases hw with rfl|rfl <;> exact h3
   obtain⟨rfl,f,fs,rfl,h5,h6⟩:=h4
   try simp only at hs
   split at hs
   .cases hs
   .rename_i hn
    obtain rfl:=Zi hs;have hf:=h1 f (by simp);refine⟨fun g hg=>?_,h2,rfl,_,_,rfl,h5,rfl⟩;rcases List.mem_cons.1 hg with rfl|hg
    .refine⟨fun e=>?_,hf.obj,hf.names,hf.nodup,fun s' e=>?_⟩
     .simp only at e;rw[h5] at e;cases e
     .obtain rfl:=Zi e;refine⟨ht,fun hm=>hn ?_⟩;obtain⟨m,hm,rfl⟩:=List.mem_map.1 hm;exact List.any_eq_true.2 ⟨m,hm,by simp⟩
    .exact h1 g (Zm _ hg)
  .split at hs
   .rename_i hw
    obtain rfl:=Zi hs;exact oH h1 (oT (dJ h3 hw).2 h2)
   .cases hs
 |mark x=>
  simp only[eh] at hs
  split at hs
  case isFalse=>cases hs
  rename_i hm
  try simp only at hm hs
  rcases FB hm with ⟨hx,hw⟩|⟨hx,hw⟩|⟨hx,hw⟩|⟨hx,hw⟩|⟨hx,hw⟩
  .obtain⟨hd,hq⟩:=dJ h3 hw;subst hd;have a0:=oT hq h2;rcases hx with rfl|rfl
   .rw[if_pos rfl] at hs;obtain rfl:=Zi hs;refine⟨fun g hg=>?_,a0,rfl,_,_,rfl,rfl⟩;rcases List.mem_cons.1 hg with rfl|hg
    .exact Fr.ok.new N false
    .exact h1 g hg
   .rw[if_neg (by decide),if_pos rfl] at hs;obtain rfl:=Zi hs;refine⟨fun g hg=>?_,a0,rfl,_,_,rfl,rfl,rfl⟩;rcases List.mem_cons.1 hg with rfl|hg
    .exact Fr.ok.new N true
    .exact h1 g hg
  .subst hx;rw[if_neg (by decide),if_neg (by decide)] at hs
   cases frs with
   |nil=>cases hs
   |cons f fs=>
    simp only[true_or,if_true] at hs;obtain rfl:=Zi hs;exact oH (fun g hg=>h1 g (Zm _ hg)) h2
  .subst hx;rw[if_neg (by decide),if_neg (by decide)] at hs
   cases frs with
   |nil=>cases hs
   |cons f fs=>
    simp only[or_true,if_true] at hs;obtain rfl:=Zi hs;exact oH (fun g hg=>h1 g (Zm _ hg)) h2
  .obtain⟨rfl,rfl⟩:=And.intro hx hw;rw[if_neg (by decide),if_neg (by decide)] at hs;obtain⟨rfl,f,fs,rfl,h5,h6⟩:=h3
   try simp only at hs
   rw[if_neg (by decide),if_neg (by decide)] at hs;obtain rfl:=Zi hs;refine⟨h1,h2,rfl,fun g gs e=>?_⟩;injection e with e _
   subst e;simp[cI,h5];exact h6
  .subst hx;rw[if_neg (by decide),if_neg (by decide)] at hs
   cases frs with
   |nil=>cases hs
   |cons f fs=>
    try simp only at hs
    rw[if_neg (by decide)] at hs;simp only[if_true] at hs;obtain rfl:=Zi hs;rcases hw with rfl|rfl
    .obtain⟨rfl,g,gs,e,h5⟩:=h3;injection e with e1 e2
     subst e1 e2;refine⟨h1,h2,?_⟩;simp only[h5];refine⟨rfl,fun g gs e=>?_⟩;injection e with e _
     subst e;simp[cI,h5]
    .obtain⟨rfl,g,gs,e,h5,h6⟩:=h3;injection e with e1 e2
     subst e1 e2;refine⟨h1,h2,?_⟩;simp only[h5];exact⟨rfl,_,_,rfl,h5,h6⟩
def Fr.cnt (f:Fr):Nat:=f.items.length+f.mems.length
def eD (frs:List Fr):Nat:=(frs.map fun f=>f.cnt+1).sum
theorem p7 (frs:List Fr)(j:JV):eD (dq frs j).frs<=eD frs+1:=by
 cases frs with
 |nil=>simp[dq,eD]
 |cons f fs=>
  by_cases ho:f.obj=true
  .rw[iD ho];simp[eD,Fr.cnt];omega
  .rw[gg (by simpa using ho)];simp[eD,Fr.cnt];omega
theorem Fi {c c':dT}{t:uE}(hs:eh c t=some c'):eD c'.frs<=eD c.frs+1:=by
 obtain⟨frs,want,done⟩:=c
 cases t with
 |leaf j=>
  simp only[eh] at hs
  split at hs
  .obtain rfl:=Zi hs;exact p7 _ _
  .cases hs
 |str s=>
  simp only[eh] at hs
  split at hs
  .cases frs with
   |nil=>cases hs
   |cons f fs=>
    try simp only at hs
    split at hs
    .cases hs
    .obtain rfl:=Zi hs;simp[eD,Fr.cnt]
  .split at hs
   .obtain rfl:=Zi hs;exact p7 _ _
   .cases hs
 |mark x=>
  simp only[eh] at hs
  split at hs
  case isFalse=>cases hs
  by_cases e1:x=91
  .rw[if_pos e1] at hs;obtain rfl:=Zi hs;simp[eD,Fr.cnt];omega
  rw[if_neg e1] at hs
  by_cases e2:x=123
  .rw[if_pos e2] at hs;obtain rfl:=Zi hs;simp[eD,Fr.cnt];omega
  rw[if_neg e2] at hs
  cases frs with
  |nil=>cases hs
  |cons f fs=>
   try simp only at hs
   split at hs
   .obtain rfl:=Zi hs;have:=p7 fs (et f);have e:eD (f::fs)=f.cnt+1+eD fs:=by simp[eD]
    rw[e];omega
   .split at hs <;> (obtain rfl:=Zi hs;simp)
theorem lV (frs:List Fr):frs.length<=eD frs:=by
 induction frs with
 |nil=>simp[eD]
 |cons f fs ih=>simp[eD] at ih ⊢;omega
theorem oJ (f:Fr)(fs:List Fr):f.items.length+f.mems.length+1+fs.length<=eD (f::fs):=by
 have:=lV fs;simp[eD,Fr.cnt] at this ⊢;omega
def Kp (T:TypeId->Prop)(w w':Wd):Prop:=w.heap.size<=w'.heap.size/\∀ (g:Nat) (o:Obj),w.heap[g]?=some o->(∀cs e z,o =.cells cs e z->¬T e)->w'.heap[g]?=some o
theorem Kp.refl (T:TypeId->Prop)(w:Wd):Kp T w w:=⟨Zb _,fun _ _ h _=>h⟩
theorem Kp.trans {a b c:Wd}(h:Kp T a b)(k:Kp T b c):Kp T a c:=⟨Zc h.1 k.1,fun g o hg ht=>k.2 g o (h.2 g o hg ht) ht⟩
theorem Kp.of_below (T:TypeId->Prop)(h:ge w w'):Kp T w w':=⟨h.size,fun g o hg _=>(h.block g (ah hg)).trans hg⟩
theorem Kp.of_chg (h:aV F w w')(hF:∀g,F g->g<w.heap.size->∃cs e z,w.heap[g]?=some (.cells cs e z)/\T e):Kp T w w':=by
 refine⟨h.size,fun g o hg ht=>(h.block g (ah hg) fun hf=>?_).trans hg⟩;obtain⟨cs,e,z,h1,h2⟩:=hF g hf (ah hg);rw[h1] at hg;injection hg with hg
 exact ht cs e z hg.symm h2
theorem Kp.keeps (h:Kp T w w'):aK T w w':=⟨h.1,fun g cs e z hg ht=>h.2 g _ hg (fun cs' e' z' he=>by injection he with _ he;subst he;exact ht)⟩
theorem Kp.imp (h:Kp T w w')(hT:∀e,T e->U e):Kp U w w':=⟨h.1,fun g o hg ht=>h.2 g o hg (fun cs e z he a0=>ht cs e z he (hT e a0))⟩
theorem Kp.heap (h:Kp T w w'){z:Nat×Nat}(hg:w.heap[g]?=some (.cells cs e z))(he:¬T e):w'.heap[g]?=some (.cells cs e z):=h.keeps.2 g cs e z hg he
def cF (u:Nb):List Nat:=(u.getD 1 undef).ownBlock.toList++ (u.getD 2 undef).ownBlock.toList
def Pb (B:Nat)(bs:List Nat)(g:Nat):Prop:=B<=g/\g∉bs
structure Mf (P:Nat->Prop) (B:Nat) (w:Wd) (u:Nb) (f:Fr) (iv mv:Value) (s:Nc) (us:Nb) (L:List (Nc×Value)):Prop where
 cells:u = [.int .i64 (if f.obj then 6 else 5),iv,mv,.string s,.bool f.name.isSome]
 name:∀t,f.name=some t->s=t
 items:w.ownsRow B 35 1 iv us.length us
 vals:bC (VW P w) us f.items
 mems:yC w B mv L
 names:L.map Prod.fst=f.mems.map Prod.fst
 mvals:bC (VW P w) (L.map Prod.snd) (f.mems.map Prod.snd)
 nilI:f.obj=true->iv =.slice none 0 0
 nilM:f.obj=false->mv =.slice none 0 0
def Jh (P:Nat->Prop)(B:Nat)(w:Wd)(u:Nb)(f:Fr):Prop:= ∃iv mv s us L,Mf P B w u f iv mv s us L
theorem Jh.len {u:Nb}(h:Jh P B w u f):u.length=5:=by obtain⟨_,_,_,_,_,h⟩:=h;rw[h.cells];rfl
def pN (P:Nat->Prop)(w:Wd)(dv:Value)(d:Option JV):Prop:=match d with|none=>dv =.nilIface|some j=>VW P w dv j
structure BJ (B:Nat) (w:Wd) (xb:Nat) (frs:List Fr) (done:Option JV) (pv dv:Value) (us:List (Nb)) (bs:List Nat):Prop where
 row:w.heap[xb]?=some (.cells #[pv,dv] 187 (0,0))
 low:B<=xb
 parts:w.ownsRow B 236 5 pv frs.length us.reverse.flatten
 frames:bC (fun u f=>Jh (Pb B bs) B w u f) us frs
 blocks:us.flatMap cF=bs
 nodup:bs.Nodup
 done:pN (Pb B bs) w dv done
def fY (B:Nat)(w:Wd)(xb:Nat)(frs:List Fr)(done:Option JV)(bs:List Nat):Prop:= ∃pv dv us,BJ B w xb frs done pv dv us bs
def Mv (top:List Nat)(w w':Wd):Prop:=w.heap.size<=w'.heap.size/\∀ (g:Nat) (cs:Array Value) (e:TypeId) (z:Nat×Nat),w.heap[g]?=some (.cells cs e z)->TV e->g∉top->w'.heap[g]?=some (.cells cs e z)
theorem Mv.of_below {top:List Nat}(h:ge w w'):Mv top w w':=⟨h.size,fun g cs e z hg _ _=>(h.block g (ah hg)).trans hg⟩
theorem Mv.of_kp {top:List Nat}(h:Kp T w w')(hT:∀e,TV e->¬T e):Mv top w w':=⟨h.1,fun g cs e z hg he _=>h.heap hg (hT e he)⟩
theorem Mv.trans {t:List Nat}{a b c:Wd}(h:Mv t a b)(k:Mv t b c):Mv t a c:=⟨Zc h.1 k.1,fun g cs e z hg he ht=>k.2 g cs e z (h.2 g cs e z hg he ht) he ht⟩
theorem Mv.of_chg {top:List Nat}(h:aV F w w')(hF:∀g,F g->g<w.heap.size->g∈top\/∃cs e z,w.heap[g]?=some (.cells cs e z)/\¬TV e):Mv top w w':=by
 refine⟨h.size,fun g cs e z hg he ht=>(h.block g (ah hg) fun hf=>?_).trans hg⟩;rcases hF g hf (ah hg) with h1|⟨cs',e',z',h1,h2⟩
 .exact ht h1
 .rw[h1] at hg;injection hg with hg
  injection hg with _ hg _
  subst hg;exact h2 he
theorem VW.move {bs top:List Nat}(h:VW (Pb B bs) w v j)(hm:Mv top w w')(ht:∀g∈top,g∈bs)(a0:∀g∈bs',g∈bs\/w.heap.size<=g):VW (Pb B bs') w' v j:=
 h.stay fun g o ⟨h1,h2⟩ hg ⟨cs,e,z,ho,he⟩=>by
  subst ho;refine⟨⟨h1,fun hb=>?_⟩,hm.2 g cs e z hg he (fun h=>h2 (ht g h))⟩;rcases a0 g hb with h3|h3
  .exact h2 h3
  .have:=ah hg;omega
theorem lK {k:Nat}{top:List Nat}{xs:Nb}(h:w.ownsRow B e k v n xs)(hm:Mv top w w')(he:TV e)(ht:∀g,v.ownBlock=some g->g∉top):w'.ownsRow B e k v n xs:=by
 refine bM h fun b hb=>?_
 obtain⟨_,cur,hg⟩:=am h hb;rw[hg];exact hm.2 b cur e _ hg he (ht b hb)
theorem Jh.move {bs top:List Nat}{u:Nb}(h:Jh (Pb B bs) B w u f)(hm:Mv top w w')(ht:∀g∈top,g∈bs)(a0:∀g∈bs',g∈bs\/w.heap.size<=g)(hu:∀g∈cF u,g∉top):Jh (Pb B bs') B w' u f:=by
 obtain⟨iv,mv,s,us,L,h1,h2,h3,h4,h5,h6,h7,h8,h9⟩:=h;subst h1;refine⟨iv,mv,s,us,L,rfl,h2,lK h3 hm (.inr (.inr (.inl rfl))) (fun g e=>hu g ?_),h4.mono fun _ _ h=>h.move hm ht a0,lK h5 hm (.inr (.inr (.inr rfl))) (fun g e=>hu g ?_),h6,h7.mono fun _ _ h=>h.move hm ht a0,h8,h9⟩
 .simp[cF,e]
 .simp[cF,e]
theorem pN.move {bs top:List Nat}{d:Option JV}(h:pN (Pb B bs) w dv d)(hm:Mv top w w')(ht:∀g∈top,g∈bs)(a0:∀g∈bs',g∈bs\/w.heap.size<=g):pN (Pb B bs') w' dv d:=by
 cases d with
 |none=>exact h
 |some j=>exact VW.move h hm ht a0
def TB (e:TypeId):Prop:=TV e\/e=187\/e=236
theorem fY.kp {done:Option JV}{bs:List Nat}(h:fY B w xb frs done bs)(hk:Kp T w w')(hT:∀e,TB e->¬T e):fY B w' xb frs done bs:=by
 obtain⟨pv,dv,us,h1,h2,h3,h4,h5,h6,h7⟩:=h;have hm:Mv [] w w':=Mv.of_kp hk (fun e he=>hT e (.inl he));have a0:∀g∈bs,g∈bs\/w.heap.size<=g:=fun g h=>.inl h
 exact⟨pv,dv,us,hk.heap h1 (hT _ (.inr (.inl rfl))),h2,ap h3 hk.keeps (hT _ (.inr (.inr rfl))),h4.mono fun _ _ h=>h.move hm (by simp) a0 (by simp),h5,h6,h7.move hm (by simp) a0⟩
theorem fY.below {done:Option JV}{bs:List Nat}(h:fY B w xb frs done bs)(hb:ge w w'):fY B w' xb frs done bs:=h.kp (T:=fun _=>False) (Kp.of_below _ hb) (fun _ _ h=>h)
theorem Fy:dH 185 236 (.agg #[(0:Int),(),(),ByteArray.empty,false]) 5 80:=⟨underlying185,by kernel_rfl,rfl,by decide⟩
structure Lk (w:Wd) (pv:Value) (m:Nat) (u:Nb) (pb q:Nat):Prop where
 pv:pv =.slice (some (nl pb)) (m+1) q
 cell:∀i v,u[i]?=some v->w.cell? ⟨pb,m*5+i,none⟩=some v
 typed:∃cur,w.heap[pb]?=some (.cells cur 236 (0,0))
 max:m+1<=maxLen
 cap:m+1<=q
theorem fj {u:Nb}{us:List (Nb)}(h:w.ownsRow B 236 5 pv (us.length+1) (u::us).reverse.flatten)(hl:∀x∈u::us,x.length=5):∃pb q,B<=pb/\Lk w pv us.length u pb q:=by
 rcases ce h with ⟨_,e,_⟩|⟨pb,q,rfl,hb,hc,hm⟩
 .omega
 .obtain⟨_,cur,a0⟩:=am h rfl;refine⟨pb,q,hb,rfl,fun i v hv=>?_,⟨cur,a0⟩,hm,hc⟩;have hi:=(List.getElem?_eq_some_iff.1 hv).1;have h5:=hl u (by simp);rw[World.ownsRow.cellAt h (us.length*5+i) (by omega),wu (k:=5) (fun x hx=>hl x (List.mem_reverse.1 hx)) us.length i (by omega)];rw[List.reverse_cons,List.getElem?_append_right (by simp),List.length_reverse,Nat.sub_self];simpa using hv
theorem CA {u:Nb}{us:List (Nb)}(h:w.ownsRow B 236 5 (.slice (some (nl pb)) (us.length+1) q) (us.length+1) (u::us).reverse.flatten)(hl:∀x∈u::us,x.length=5)(hu:u'.length=5)
  (hw:∃cur:Array Value,w'.heap[pb]?=some (.cells cur 236 (0,0))/\∀old,w.heap[pb]?=some (.cells old 236 (0,0))->cur.size=old.size/\(∀i,i<us.length*5->cur[i]?=old[i]?)/\∀i,i<5->cur[us.length*5+i]?=u'[i]?) :
  w'.ownsRow B 236 5 (.slice (some (nl pb)) (us.length+1) q) (us.length+1) (u'::us).reverse.flatten:=by
 obtain⟨hx,⟨e1,h0⟩|⟨g,cap,old,e1,hb,hg,h2,h3,h4,h5⟩⟩:=h
 .cases e1
 obtain⟨e2,-,rfl⟩:=Value.slice.inj e1;obtain rfl:pb=g:=by injection e2 with e2;injection e2
 obtain⟨cur,a1,a0⟩:=hw;obtain⟨c1,c2,c3⟩:=a0 old hg;have hlen:∀ (L:List (Nb)),(∀x∈L,x.length=5)->L.flatten.length=L.length*5:=fun L=>by
  induction L with
  |nil=>intro _;rfl
  |cons a L ih=>intro h;rw[List.flatten_cons,List.length_append,ih (fun x hx=>h x (Zm _ hx)),h a (by simp),List.length_cons];omega
 have a3:∀x∈us.reverse,x.length=5:=fun x hx=>hl x (Zm _ (List.mem_reverse.1 hx))
 have h6:=hlen us.reverse a3;rw[List.length_reverse] at h6;have a2:((u'::us).reverse.flatten).length= (us.length+1)*5:=by
  rw[List.reverse_cons,List.flatten_append,List.length_append,h6];simp[hu];omega
 refine⟨a2,.inr ⟨pb,q,cur,rfl,hb,a1,h2,h3,by rw[c1];exact h4,?_⟩⟩;apply List.ext_getElem?;intro i;rw[List.reverse_cons,List.flatten_append]
 by_cases hi:i< (us.length+1)*5
 .rw[List.getElem?_take_of_lt hi,Array.getElem?_toList]
  by_cases hi2:i<us.length*5
  .rw[c2 i hi2,List.getElem?_append_left (by omega)];have:=congrArg (·[i]?) h5;simp only[List.getElem?_take_of_lt hi,Array.getElem?_toList] at this;rw[this,List.reverse_cons,List.flatten_append,List.getElem?_append_left (by omega)]
  .rw[List.getElem?_append_right (by omega),h6];have:=c3 (i - us.length*5) (by omega);rw[show us.length*5+ (i - us.length*5)=i by omega] at this;rw[this];simp
 .rw[List.getElem?_eq_none (by simp;omega),List.getElem?_eq_none];rw[<-List.flatten_append,<-List.reverse_cons,a2];omega
theorem Me {u:Nb}{j:Nat}(v:Value)(hu:u.length=5)(hj:j<5):(u.set j v)[i]?=if i=j then some v else u[i]?:=by
 rw[List.getElem?_set]
 by_cases h:j=i
 .subst h;simp[hu,hj]
 .rw[if_neg h,if_neg (fun e=>h e.symm)]
theorem fC {u:Nb}{us:List (Nb)}(h:w.ownsRow B 236 5 (.slice (some (nl pb)) (us.length+1) q) (us.length+1) (u::us).reverse.flatten)(hl:∀x∈u::us,x.length=5){j:Nat}(hj:j<5)(v:Value) :
  (w.setCell ⟨pb,us.length*5+j,none⟩ v).ownsRow B 236 5 (.slice (some (nl pb)) (us.length+1) q) (us.length+1) (u.set j v::us).reverse.flatten:=by
 have hu:=hl u (by simp);obtain⟨pb',q',a1,hT⟩:=fj h hl;obtain⟨e,-,-⟩:=Value.slice.inj hT.pv;obtain rfl:pb=pb':=by injection e with e;injection e
 obtain⟨cur,a0⟩:=hT.typed;have hc:∀i,i<5->cur[us.length*5+i]?=u[i]?:=by
  intro i hi;obtain⟨x,hx⟩:=y8 u i;have:=hT.cell i x hx;unfold World.cell? at this;simp only[a0] at this;rw[hx];simpa using this
 refine CA h hl (by simp[hu]) ⟨cur.setIfInBounds (us.length*5+j) v,az a0 _ _,fun old ho=>?_⟩;rw[a0] at ho;obtain rfl:cur=old:=by injection ho with ho;injection ho
 refine⟨by simp,fun i hi=>by rw[Array.getElem?_setIfInBounds_ne (by omega)],fun i hi=>?_⟩;rw[Me v hu hj]
 by_cases h:i=j
 .subst h;have h1:=hc i hi;have:us.length*5+i<cur.size:=by
   rcases Nat.lt_or_ge (us.length*5+i) cur.size with h2|h2
   .exact h2
   .rw[Array.getElem?_eq_none h2,Zd (by omega)] at h1;cases h1
  rw[if_pos rfl,Array.getElem?_setIfInBounds_self_of_lt this]
 .rw[if_neg h,Array.getElem?_setIfInBounds_ne (by omega)];exact hc i hi
def nY (B xb:Nat)(c:dT)(w:Wd)(e:Ending)(w':Wd):Prop:=e =.returned (.tuple #[])/\Below B w w'/\Kp TB w w'/\∃bs,fY B w' xb c.frs c.done bs
theorem Fa {bs:List Nat}(h:fY B w xb [] none bs)(hv:VW (Pb B bs) w v j)(hB:B<=w.heap.size):Calls prog 136 #[.pointer (some (nl xb)),v] w (nY B xb (dq [] j) w):=by
 obtain⟨pv,dv,us,h1,h2,h3,h4,h5,h6,h7⟩:=id h;obtain⟨A,q,rfl,-⟩:=ai h3;have c0:=ac h1 (j:=0) (u:=.slice A ([]:List Fr).length q) rfl;have c1:=ac h1 (j:=1) rfl;have f1:=ao h1 1;have Hh:=Qa h;have H1:=Qa h1;have H3:=Qa h3;have H4:=Qa h4;have Hv:=Qa hv;have H5:=Qa h5;have H6:=Qa h6;have H2:=Qa h2;obtain⟨tv,xv,rfl⟩:=hv.iface;clear h h1 h2 h3 h4 h5 h6 h7 hv;simp only[List.length_nil] at c0;go_in;go_wp2_with fail;(try simp only[Exit.inBlock,Exit.then]);refine Zh (results_none rfl ..) rfl ?_;have a0:=aV.set (w:=w) xb 1 (.iface tv xv);have hk:Kp TB w (w.setCell (no xb 1) (.iface tv xv)):=Kp.of_chg a0 fun g e _=>by subst e;exact⟨_,_,_,H1,.inr (.inl rfl)⟩
 have hm:Mv [] w (w.setCell (no xb 1) (.iface tv xv)):=Mv.of_chg a0 fun g e _=>.inr (by subst e;exact⟨_,_,_,H1,by simp only[TV];decide⟩)
 obtain rfl:us = []:=List.eq_nil_of_length_eq_zero (by have:=H4.1;simpa using this);refine⟨rfl,a0.below hB (fun i e=>by rw[e];exact H2.out),hk,bs,.slice A 0 q,.iface tv xv, [],az H1.out 1 _,H2.out,ap H3.out (T:=fun e=>e=187) ?_ (by decide),bC.nil _,H5.out,H6.out,Hv.move hm (by simp) (fun g h=>.inl h)⟩;exact aK.setCell _ fun cs e z hg=>by
  have:=H1.symm.trans hg;injection this with this
  injection this with _ this _
  exact this.symm
theorem BJ.top {done:Option JV}{u:Nb}{us:List (Nb)}{bs:List Nat}(h:BJ B w xb (f::fs) done pv dv (u::us) bs)(hm:Mv (cF u) w w')(hx:w'.heap[xb]?=w.heap[xb]?)
  (hp:w'.ownsRow B 236 5 pv (fs.length+1) (u'::us).reverse.flatten) (hb:∀g∈cF u',g∈cF u\/w.heap.size<=g) (hn:(cF u').Nodup) (hf:Jh (Pb B (cF u'++us.flatMap cF)) B w' u' f'):BJ B w' xb (f'::fs) done pv dv (u'::us) (cF u'++us.flatMap cF):=by
 obtain⟨h1,h2,h3,h4,h5,h6,h7⟩:=h;have a1:bs=cF u++us.flatMap cF:=by rw[<-h5];rfl
 rw[a1] at h6;obtain⟨n1,n2,n3⟩:=List.nodup_append.1 h6;have hlt:∀g∈us.flatMap cF,g<w.heap.size:=by
  intro g hg;obtain⟨x,hx,a0⟩:=List.mem_flatMap.1 hg;obtain⟨i,hi,rfl⟩:=List.getElem_of_mem hx;have hl:=h4.1;simp only[List.length_cons] at hl;obtain⟨iv,mv,s,xs,L,q1,q2,q3,q4,q5,-⟩:=h4.2 (i+1) us[i] (fs[i]'(by omega)) (by simp[Zd hi]) (by simp);rw[q1] at a0;rcases List.mem_append.1 a0 with a0|a0
  .obtain⟨_,cur,hh⟩:=am q3 (g:=g) (by simpa using a0);exact ah hh
  .obtain⟨_,cur,hh⟩:=am q5 (g:=g) (by simpa using a0);exact ah hh
 have ht:∀g∈cF u,g∈bs:=fun g hg=>by rw[a1];exact List.mem_append_left _ hg
 have a2:∀g∈cF u'++us.flatMap cF,g∈bs\/w.heap.size<=g:=fun g hg=>by
  rcases List.mem_append.1 hg with hg|hg
  .exact(hb g hg).imp (ht g) id
  .exact .inl (by rw[a1];exact List.mem_append_right _ hg)
 refine⟨by rw[hx];exact h1,h2,hp,?_,rfl,List.nodup_append.2 ⟨hn,n2,fun a ha b a3 e=>?_⟩,h7.move hm ht a2⟩
 .have hl:=h4.1;refine⟨by simpa using hl,fun i a b h1 h2=>?_⟩
  cases i with
  |zero=>simp at h1 h2;subst h1 h2;exact hf
  |succ i=>
   simp only[List.getElem?_cons_succ] at h1 h2;have hq:=h4.2 (i+1) a b (by simpa using h1) (by simpa using h2);exact hq.move hm ht a2 (fun g hg a4=>n3 g a4 g (List.mem_flatMap.2 ⟨a,Zl h1,hg⟩) rfl)
 .subst e;rcases hb a ha with h|h
  .exact n3 a h a a3 rfl
  .have:=hlt a a3;omega
theorem aW {k:Nat}{e':TypeId}{xs:Nb}{z:Nat×Nat}(h:w.ownsRow B e k v n xs)(hg:w.heap[pb]?=some (.cells cur e' z))(hne:e≠e'):v.ownBlock≠some pb:=by
 intro hv;obtain⟨_,cur',a0⟩:=am h hv;rw[hg] at a0;injection a0 with a0
 injection a0 with _ a0 _
 exact hne a0.symm
theorem fX {o:Obj}(h':w'.heap[g]?=some o)(h:w.heap[g]?=some o)(j:Nat):w'.cell? (no g j)=w.cell? (no g j):=by
 unfold World.cell?;simp only[h,h']
theorem lB (a b c:Value)(A:OA)(n q:Nat):cF [a,.slice A n q,(),b,c]= (Value.slice A n q).ownBlock.toList:=List.append_nil _
theorem km (a b c:Value)(A:OA)(n q:Nat):cF [a,(),.slice A n q,b,c]= (Value.slice A n q).ownBlock.toList:=rfl
theorem mB (v:Value):v.ownBlock.toList.Nodup:=by cases v.ownBlock <;> simp
theorem t7 {w6:Wd}{done:Option JV}{u:Nb}{us:List (Nb)}{bs:List Nat}(h:BJ B w xb (f::fs) done (.slice (some (nl pb)) (us.length+1) q) dv (u::us) bs)(a0:w.heap[pb]?=some (.cells cur 236 (0,0)))(a5:B<=pb)(hB:B<=w.heap.size)
  (h5:aV (fun k=>k∈cF u) w w5) (h6:aV (fun k=>k=pb) w5 w6) (hp:w6.ownsRow B 236 5 (.slice (some (nl pb)) (us.length+1) q) (us.length+1) (u'::us).reverse.flatten) (hb:∀g∈cF u',g∈cF u\/w.heap.size<=g) (hn:(cF u').Nodup)
  (hf:Mv (cF u) w w6->(∀g∈cF u,g∈bs)->(∀g∈cF u'++us.flatMap cF,g∈bs\/w.heap.size<=g)->Jh (Pb B (cF u'++us.flatMap cF)) B w6 u' f'):Below B w w6/\Kp TB w w6/\fY B w6 xb (f'::fs) done (cF u'++us.flatMap cF):=by
 obtain⟨iv,mv,s,xs,L,hu,a7,a6,a3,a4,-⟩:=h.frames.2 0 u f rfl rfl;have a2:∀g∈cF u,B<=g/\∃c e z,w.heap[g]?=some (.cells c e z)/\(e=35\/e=107):=by
  intro g hg;rw[hu] at hg;rcases List.mem_append.1 hg with hg|hg
  .obtain⟨h1,c,h2⟩:=am a6 (g:=g) (by simpa using hg);exact⟨h1,c,_,_,h2,.inl rfl⟩
  .obtain⟨h1,c,h2⟩:=am a4 (g:=g) (by simpa using hg);exact⟨h1,c,_,_,h2,.inr rfl⟩
 have a1:aV (fun k=>k∈cF u\/k=pb) w w6:=(h5.mono fun _ h=>.inl h).trans h6 fun i hi=>.inl (.inr hi)
 have hm:Mv (cF u) w w6:=Mv.of_chg a1 fun g hg _=>hg.imp id fun e=>by subst e;exact⟨_,_,_,a0,by simp only[TV];decide⟩
 have ht:∀g∈cF u,g∈bs:=fun g hg=>by rw[<-h.blocks];exact List.mem_append_left _ hg
 refine⟨a1.below hB (fun i hi=>hi.elim (fun h=>(a2 i h).1) fun e=>by rw[e];exact a5),Kp.of_chg a1 fun g hg _=>?_,_,_,_,h.top hm ?_ (by rw[show fs.length=us.length by have:=h.frames.1;simp at this;omega];exact hp) hb hn (hf hm ht fun g hg=>?_)⟩
 .rcases hg with hg|rfl
  .obtain⟨-,c,e,z,h1,h2⟩:=a2 g hg;exact⟨c,e,z,h1,.inl (h2.elim (fun h=>.inr (.inr (.inl h))) fun h=>.inr (.inr (.inr h)))⟩
  .exact⟨_,_,_,a0,.inr (.inr rfl)⟩
 .refine a1.block xb (ah h.row) fun hx=>?_
  rcases hx with hx|rfl
  .obtain⟨-,c,e,z,h1,h2⟩:=a2 xb hx;rw[h.row] at h1;injection h1 with h1
   injection h1 with _ h1 _
   rw[<-h1] at h2;exact absurd h2 (by decide)
  .have h1:=h.row;rw[a0] at h1;injection h1 with h1
   injection h1 with _ h1 _
   exact absurd h1 (by decide)
 .rcases List.mem_append.1 hg with hg|hg
  .exact(hb g hg).imp (ht g) id
  .exact .inl (by rw[<-h.blocks];exact List.mem_append_right _ hg)
theorem nt {t:TypeId}{z:Nat×Nat}(hg:w.heap[g]?=some (.cells cs t z)){j:Nat}(h:i≠j)(u:Value):(w.setCell (no g i) u).cell? (no g j)=w.cell? (no g j):=by
 have h1:=az hg i u;unfold World.cell?;simp only[h1,hg,Array.getElem?_setIfInBounds_ne h]
theorem Fl {bs:List Nat}(h:fY B w xb (f::fs) none bs)(ho:f.obj=false)(hv:VW (Pb B bs) w v j)(hB:B<=w.heap.size)(hn:f.items.length<=4294967296)(e2:fs.length<=4294967296):Calls prog 136 #[.pointer (some (nl xb)),v] w fun e w'=>nY B xb (dq (f::fs) j) w e w':=by
 obtain⟨pv,dv,us,h⟩:=h;obtain⟨h1,h2,h3,h4,h5,h6,h7⟩:=id h
 cases us with
 |nil=>have:=h4.1;simp at this
 |cons u us=>
 have c6:us.length=fs.length:=by have:=h4.1;simpa using this
 have a2:∀x∈u::us,x.length=5:=fun x hx=>by
  obtain⟨i,hi,rfl⟩:=List.getElem_of_mem hx;exact(h4.2 i _ ((f::fs)[i]'(by have:=h4.1;omega)) (Zd hi) (Zd _)).len
 rw[List.length_cons,<-c6] at h3;obtain⟨pb,q,d3,hT⟩:=fj h3 a2;obtain⟨d5,a0,b3,b6,b4⟩:=hT;obtain⟨iv,mv,s,xs,L,hu,d0,b5,a3,c8,a9,a1,d6,c9⟩:=h4.2 0 u f rfl rfl;obtain rfl:=c9 ho;obtain⟨Ai,qi,rfl,-⟩:=ai b5;subst d5 hu;have c7:xs.length=f.items.length:=a3.1;obtain⟨m,hm⟩:∃m,m=us.length:=⟨_,rfl⟩;rw[<-hm] at a0 b6 b4;have c0:=ac h1 (j:=0) (u:=.slice (some (nl pb)) (m+1) q) (by rw[hm];rfl);have k0:=a0 0 _ rfl;have k1:=a0 1 _ rfl;rw[ho] at k0;simp only[Bool.false_eq_true,if_false] at k0;rw[Nat.add_zero] at k0;obtain⟨cur,a5⟩:=b3;have f1:=ao a5 (m*5+1);obtain⟨tv,xv,rfl⟩:=hv.iface;have s1:IntKind.i64.wrap (m:Int)= (m:Int):=IntWalk.i64_in _ (by omega);have d1:(((m+1:Nat):Int)==0)=false:=by simp only[beq_eq_false_iff_ne];omega
 have Hh:=Qa h;have Hv:=Qa hv;have d4:=Qa b5;have b1:=Qa a3;have a4:=Qa a5;have H1:=Qa h1;have H2:=Qa h2;have Hm:=Qa hm;have c5:=Qa c7;have Hl:=Qa a2;have H3:=Qa h3;have d7:=x7 c8 a9 a1 d0;clear h h1 h2 h3 h4 h5 h6 h7 hv b5 a3 c8 a9 a1 d6 c9 a0 a5 a2 d0 c6 hm c7;go_in;go_wp2_with fail;go_quiet (fail);have e1:w.heap.size<=(w.drewN nq).heap.size:=Zb _;obtain⟨wd,a6⟩:=y7 (w.drewN nq);have b0:ge w wd:=by rw[<-a6];exact av (Ze _ _) nq
 have hsz:wd.heap.size=w.heap.size:=by rw[<-a6];rfl
 have k0':=Zg b0 k0;have k1':=Zg b0 k1;have f1':wd.frozen? ⟨pb,m*5+1,none⟩=false:=by rw[<-a6];exact f1
 rw[a6];have a7:=Qa (aa wd (.cells #[.iface tv xv] 35));have c3:=Qa (aq (aq d4 b0 (Zb _)) a7.out (Zb _));have d2:=Qa (au wd [.iface tv xv] 35);have b7:=Qa b0;have b2:=Qa hsz;clear c0 k0 k1 f1 a6 e1 b0 hsz;have c4:=Qa (al (al a4 b7) a7.out);have e0:=Qa (aW c3.out c4.out (by decide));go_wp2_with (at_builtin;refine ir sv c3.out d2.out (by have:=b2.out;have:=a7.size;omega) ?_ (hlen:=(by unfold maxLen;have:=c5.out;omega)) (hby:=(by have:=c5.out;omega));intro v' w5 p1 p2 p3;obtain⟨A5,q5,rfl,-,-,-⟩:=ai p1;have g5:=aJ c4.out p2 e0.out;have f5:=ao g5 (m*5+1);have G5:=Qa g5;have HK:=Qa p1;have HG:=Qa p2;have HD:=Qa p3;have k5:w5.cell? ⟨pb,m*5+1,none⟩=wd.cell? ⟨pb,m*5+1,none⟩:=fX g5 (al a4 b7) _;rw[k1'] at k5;clear p1 p2 p3 g5);(try simp only[Exit.inBlock,Exit.then]);refine Zh (results_none rfl ..) rfl ?_;obtain rfl:=Hm.out;have b8:aV (fun k=>(Value.slice Ai xs.length qi).ownBlock=some k) w w5:=(aV.of_below ((b7.out).trans (a7.mono (by have:=b2.out;omega)))).trans (aV.grown HG) fun i hi=>.inl hi
 have d9:w5.ownsRow B 236 5 (.slice (some (nl pb)) (us.length+1) q) (us.length+1) (([(if f.obj=true then 6 else 5:Int),.slice Ai xs.length qi,(),s,.bool f.name.isSome]:Nb)::us).reverse.flatten:=by
  refine bM H3.out fun b hb=>?_
  obtain rfl:pb=b:=Zi hb;exact G5.trans a4.symm
 have c1:=fC d9 Hl.out (j:=1) (by decide) (.slice A5 (xs.length+1) q5);have b9:=t7 Hh.out a4.out d3 hB (b8.mono fun k hk=>by rw[lB];simpa using hk) (aV.set pb (us.length*5+1) (.slice A5 (xs.length+1) q5)) c1 (by
  intro g hg;have hg:g∈(Value.slice A5 (xs.length+1) q5).ownBlock.toList:=by rw[<-lB];exact hg
  rw[lB];rcases HD.out with e|e
  .left;rw[e] at hg;exact hg
  .right
   rw[e] at hg;have:=Zi (Option.mem_toList.1 hg);have:=a7.size;have:=b2.out;omega) (by
  show(cF [_,_,_,_,_]).Nodup
  rw[lB];exact mB _) (f':={f with items:=f.items ++ [j]}) (fun hm ht c2=>?_)
 .rw[gg ho];exact⟨rfl,b9.1,b9.2.1,_,b9.2.2⟩
 obtain⟨m1,m2,m3,m4⟩:=d7.out;have hne:=aW HK.out G5.out (by decide);refine⟨.slice A5 (xs.length+1) q5,(),s,xs ++ [.iface tv xv],L,rfl,m4,?_,?_,?_,m2,?_,fun e=>?_,fun _=>rfl⟩
 .rw[List.length_append];exact bM HK.out fun b hb=>(aV.set pb _ _).block b (ah (am HK hb).2.choose_spec) fun e=>hne (by rw[hb,e])
 .exact(b1.mono fun _ _ h=>h.move hm ht c2).snoc (Hv.move hm ht c2)
 .exact bM m1 fun b hb=>by cases hb
 .exact m3.mono fun _ _ h=>h.move hm ht c2
 .exact absurd (ho.symm.trans e) (by decide)
theorem Gc {bs:List Nat}(h:fY B w xb (f::fs) none bs)(ho:f.obj=true)(hv:VW (Pb B bs) w v j)(hB:B<=w.heap.size)(b4:f.name.isSome=true)(hn:f.mems.length<=4294967296)(d7:fs.length<=4294967296):Calls prog 136 #[.pointer (some (nl xb)),v] w fun e w'=>nY B xb (dq (f::fs) j) w e w':=by
 obtain⟨pv,dv,us,h⟩:=h;obtain⟨h1,h2,h3,h4,h5,h6,h7⟩:=id h
 cases us with
 |nil=>have:=h4.1;simp at this
 |cons u us=>
 have d3:us.length=fs.length:=by have:=h4.1;simpa using this
 have a3:∀x∈u::us,x.length=5:=fun x hx=>by
  obtain⟨i,hi,rfl⟩:=List.getElem_of_mem hx;exact(h4.2 i _ ((f::fs)[i]'(by have:=h4.1;omega)) (Zd hi) (Zd _)).len
 rw[List.length_cons,<-d3] at h3;obtain⟨pb,q,e8,hT⟩:=fj h3 a3;obtain⟨e2,a1,c6,b3,b2⟩:=hT;obtain⟨iv,mv,s,xs,L,hu,e1,d2,a6,c4,a7,a4,d4,e3⟩:=h4.2 0 u f rfl rfl;obtain rfl:=d4 ho;obtain⟨Ai,qi,rfl,-⟩:=ai c4;subst e2 hu;have d5:L.length=f.mems.length:=by have:=congrArg List.length a7;simpa using this
 obtain⟨nn,b4⟩:=Option.isSome_iff_exists.1 b4;obtain rfl:=e1 nn b4;obtain⟨m,hm⟩:∃m,m=us.length:=⟨_,rfl⟩;rw[<-hm] at a1 b3 b2;have c0:=ac h1 (j:=0) (u:=.slice (some (nl pb)) (m+1) q) (by rw[hm];rfl);have k0:=a1 0 _ rfl;have k2:=a1 2 _ rfl;have k3:=a1 3 _ rfl;have k4:=a1 4 _ rfl;rw[ho] at k0;simp only[if_true] at k0;rw[Nat.add_zero] at k0;obtain⟨cur,a5⟩:=c6;have f2:=ao a5 (m*5+2);have f4:=ao a5 (m*5+4);obtain⟨tv,xv,rfl⟩:=hv.iface;have s1:IntKind.i64.wrap (m:Int)= (m:Int):=IntWalk.i64_in _ (by omega);have e6:(((m+1:Nat):Int)==0)=false:=by simp only[beq_eq_false_iff_ne];omega
 have Hh:=Qa h;have Hv:=Qa hv;have c7:=Qa c4;have a2:=Qa a5;have K4:=Qa k4;have H1:=Qa h1;have H2:=Qa h2;have Hm:=Qa hm;have d1:=Qa d5;have Hl:=Qa a3;have H3:=Qa h3;have f0:=x7 d2 a7 a4 a6;have e5:=Qa b4;clear h h1 h2 h3 h4 h5 h6 h7 hv d2 a6 c4 a7 a4 d4 e3 a1 a5 a3 e1 d3 hm d5 b4 f2 f4 k4 b3 b2;go_in;go_wp2_with fail;go_quiet (fail);obtain⟨wd,b8⟩:=y7 (w.drewN nq);have b6:ge w wd:=by rw[<-b8];exact av (Ze _ _) nq
 have hsz:wd.heap.size=w.heap.size:=by rw[<-b8];rfl
 have k0':=Zg b6 k0;have k2':=Zg b6 k2;have k3':=Zg b6 k3;rw[b8];clear c0 k0 k2 k3 b8;go_wp2_with fail;obtain⟨wr,a9⟩:=y7 wd.drew;have c3:ge w wr:=by rw[<-a9];exact b6.drew
 have e0:wr.heap.size=w.heap.size:=by rw[<-a9];exact hsz
 have K2:=Qa (show wr.cell? ⟨pb,m*5+2,none⟩=some (.slice Ai L.length qi) by rw[<-a9];exact k2');have K3:=Qa (show wr.cell? ⟨pb,m*5+3,none⟩=some (.string s) by rw[<-a9];exact k3');have b0:=Qa (aa wr (.cells #[s,.iface tv xv] 107));have c9:=Qa (show yC (wr.alloc (.cells #[s,.iface tv xv] 107)) B (.slice Ai L.length qi) L from aq (aq c7 c3 (Zb _)) b0.out (Zb _));have e7:=Qa (au wr [s,.iface tv xv] 107);have b7:=Qa c3;have b9:=Qa e0;have d0:=Qa (al (al a2 b7) b0.out);have e4:=Qa (aW c9.out d0.out (by decide));clear k0' k2' k3' b6 hsz c3 e0;refine cJ (fun w'=>w'.cell? ⟨pb,m*5+2,none⟩=some (.slice Ai L.length qi)/\w'.cell? ⟨pb,m*5+3,none⟩=some (.string s)) 15 ((by rw[a9];exact⟨K2,K3⟩)) fun a0=>?_
 rw[a9] at a0 ⊢;clear a9;refine iz 0 1 2 a0 ?_;refine iz 3 4 5 a0 ?_;refine iz 6 7 8 a0 ?_;refine tZ 9 a0 ?_;refine tZ 10 a0 ?_;refine rZ 11 fun K hK=>?_
 go_simp;refine hK _ _ (fun _=>⟨Zg b0 a0.1,Zg b0 a0.2⟩) (fun a0=>?_);clear hK K;have a0:=a0 (by decide)
 try simp only[Act.put,jP,jQ,jR]
 refine rZ 12 fun K hK=>?_
 refine Ao AN c9.out e7.out (by have:=b9.out;have:=b0.size;omega) ?_ (hlen:=(by unfold maxLen;have:=d1.out;omega)) (hby:=(by have:=d1.out;omega));intro v' w5 p1 p2 p3;obtain⟨A5,q5,rfl,-,-,-⟩:=ai p1;have g5:=aJ d0.out p2 e4.out;have f5:=ao g5 (m*5+2);have G5:=Qa g5;have HK:=Qa p1;have HG:=Qa p2;have HD:=Qa p3;have k5:w5.cell? ⟨pb,m*5+2,none⟩=some (.slice Ai L.length qi):=(fX g5 (al a2 b7) _).trans K2.out;have k53:w5.cell? ⟨pb,m*5+3,none⟩=some (.string s):=(fX g5 (al a2 b7) _).trans K3.out;clear p1 p2 p3 g5;refine hK _ _ (fun _=>⟨k5,k53⟩) (fun a0=>?_);clear hK K;have a0:=a0 (by decide)
 try simp only[Act.put,jP,jQ,jR]
 refine rZ 13 fun K hK=>?_
 go_simp;refine hK _ _ (fun _=>a0) (fun a0=>?_);clear hK K;have a0:=a0 (by decide)
 try simp only[Act.put,jP,jQ,jR]
 refine tZ 14 a0 ?_;refine rZ 15 fun K hK=>?_
 go_simp;refine hK _ _ (fun h=>absurd rfl h) (fun _=>?_);clear hK K
 try simp only[Act.put,jP,jQ,jR]
 refine aR (by kernel_rfl) (NoPanic.normal ?_) _;clear a0 f5;have g6:=az G5.out (m*5+2) (.slice A5 (L.length+1) q5);have f6:=ao g6 (m*5+4);have k6:(w5.setCell ⟨pb,m*5+2,none⟩ (.slice A5 (L.length+1) q5)).cell? ⟨pb,m*5+4,none⟩=some (.bool f.name.isSome):=by
  rw[nt G5.out (by omega),fX G5.out a2.out];exact K4.out
 obtain⟨w6,c2⟩:=y7 (w5.setCell ⟨pb,m*5+2,none⟩ (.slice A5 (L.length+1) q5));rw[c2] at g6 f6 k6 ⊢;have d9:=Qa c2;have G6:=Qa g6;clear g6 c2;go_wp2;go_end0;obtain rfl:=Hm.out;have c1:aV (fun k=>(Value.slice Ai L.length qi).ownBlock=some k) w w5:=(aV.of_below ((b7.out).trans (b0.mono (by have:=b9.out;omega)))).trans (aV.grown HG) fun i hi=>.inl hi
 have f1:w5.ownsRow B 236 5 (.slice (some (nl pb)) (us.length+1) q) (us.length+1) (([(if f.obj=true then 6 else 5:Int),(),.slice Ai L.length qi,s,.bool f.name.isSome]:Nb)::us).reverse.flatten:=by
  refine bM H3.out fun b hb=>?_
  obtain rfl:pb=b:=Zi hb;exact G5.trans a2.symm
 have b5:=fC f1 Hl.out (j:=2) (by decide) (.slice A5 (L.length+1) q5);rw[d9.out] at b5;have b1:=fC b5 (fun x hx=>by rcases List.mem_cons.1 hx with rfl|hx;(· rfl);exact Hl x (Zm _ hx)) (j:=4) (by decide) false;have d6:aV (fun k=>k=pb) w5 (w6.setCell ⟨pb,us.length*5+4,none⟩ false):=by
  rw[<-d9.out];exact(aV.set pb _ _).trans (aV.set pb _ _) fun i h=>.inl h
 have c5:=t7 Hh.out a2.out e8 hB (c1.mono fun k hk=>by rw[km];simpa using hk) d6 b1 (by
  intro g hg;have hg:g∈(Value.slice A5 (L.length+1) q5).ownBlock.toList:=by rw[<-km];exact hg
  rw[km];rcases HD.out with e|e
  .left;rw[e] at hg;exact hg
  .right
   rw[e] at hg;have:=Zi (Option.mem_toList.1 hg);have:=b0.size;have:=b9.out;omega) (by
  show(cF [_,_,_,_,_]).Nodup
  rw[km];exact mB _) (f':={f with mems:=f.mems ++ [(f.name.getD ⟨#[]⟩,j)],name:=none}) (fun hm ht c8=>?_)
 .rw[iD ho];exact⟨rfl,c5.1,c5.2.1,_,c5.2.2⟩
 obtain⟨m1,m2,m3,m4⟩:=f0.out;have hne:=aW HK.out G5.out (by decide);have d7:gU (L ++ [(s,.iface tv xv)])=gU L ++ [.string s,.iface tv xv]:=by simp[gU]
 refine⟨.slice none 0 0,.slice A5 (L.length+1) q5,s,xs,L ++ [(s,.iface tv xv)],rfl,fun t e=>(by cases e),?_,?_,?_,?_,?_,fun _=>rfl,fun e=>?_⟩
 .exact bM m1 fun b hb=>by cases hb
 .exact m4.mono fun _ _ h=>h.move hm ht c8
 .unfold yC;rw[List.length_append,d7];exact bM HK.out fun b hb=>d6.block b (ah (am HK hb).2.choose_spec) fun e=>hne (by rw[hb,e])
 .rw[List.map_append,List.map_append,m2,e5.out];rfl
 .rw[List.map_append,List.map_append];exact(m3.mono fun _ _ h=>h.move hm ht c8).snoc (Hv.move hm ht c8)
 .exact absurd (ho.symm.trans e) (by decide)
structure LV (B:Nat) (w:Wd) (xb:Nat) (f:Fr) (m pb q:Nat):Prop where
 c0:w.cell? (nl xb)=some (.slice (some (nl pb)) (m+1) q)
 k0:w.cell? ⟨pb,m*5,none⟩=some (.int .i64 (if f.obj then 6 else 5))
 k4:w.cell? ⟨pb,m*5+4,none⟩=some (.bool f.name.isSome)
theorem fY.top {done:Option JV}{bs:List Nat}(h:fY B w xb (f::fs) done bs):∃pb q,LV B w xb f fs.length pb q:=by
 obtain⟨pv,dv,us,h⟩:=h;obtain⟨h1,h2,h3,h4,h5,h6,h7⟩:=id h
 cases us with
 |nil=>have:=h4.1;simp at this
 |cons u us=>
 have a2:us.length=fs.length:=by have:=h4.1;simpa using this
 have a1:∀x∈u::us,x.length=5:=fun x hx=>by
  obtain⟨i,hi,rfl⟩:=List.getElem_of_mem hx;exact(h4.2 i _ ((f::fs)[i]'(by have:=h4.1;omega)) (Zd hi) (Zd _)).len
 rw[List.length_cons,<-a2] at h3;obtain⟨pb,q,a7,hT⟩:=fj h3 a1;obtain⟨a6,a0,a3,a5,a4⟩:=hT;obtain⟨iv,mv,s,xs,L,hu,a9,-⟩:=h4.2 0 u f rfl rfl;subst a6 hu;rw[<-a2];exact⟨pb,q,ac h1 (j:=0) rfl,by have:=a0 0 _ rfl;rwa[Nat.add_zero] at this,a0 4 _ rfl⟩
theorem fY.nils {bs:List Nat}(h:fY B w xb frs none bs):w.cell? (no xb 1)=some .nilIface:=by
 obtain⟨pv,dv,us,h⟩:=h;have e:dv =.nilIface:=h.done;rw[<-e];exact ac h.row (j:=1) rfl
theorem fY.empty {done:Option JV}{bs:List Nat}(h:fY B w xb [] done bs):∃A q,w.cell? (nl xb)=some (.slice A 0 q):=by
 obtain⟨pv,dv,us,h⟩:=h;obtain⟨A,q,e,-⟩:=ai h.parts;exact⟨A,q,by rw[ac h.row (j:=0) rfl,e];rfl⟩
theorem mh {bs:List Nat}(h:fY B w xb frs none bs)(hw:∀f fs,frs=f::fs->cI f=false)(hl:frs.length<=4294967296):Calls prog 134 #[.pointer (some (nl xb)),((frs.length+1:Nat):Int)] w fun e w'=>e =.returned (.tuple #[])/\w=w':=by
 have c1:=h.nils
 cases frs with
 |nil=>
  obtain⟨A,q,c0⟩:=h.empty;clear h hw;simp only[List.length_nil,Nat.zero_add];go_in;go_wp2;go_end0;exact⟨rfl,rfl⟩
 |cons f fs=>
  obtain⟨pb,q,c0,k0,k4⟩:=h.top;have hw:=hw f fs rfl;rw[List.length_cons] at hl ⊢;obtain⟨m,hm⟩:=y7 fs.length;rw[hm] at c0 k0 k4 hl ⊢;have s1:IntKind.i64.wrap (m:Int)= (m:Int):=IntWalk.i64_in _ (by omega);have s2:=y9 ((m:Int)+1+1);have hpos:(0:Int)< (m:Int)+1:=by omega
  have a0:((m+1+1:Nat):Int)= (m:Int)+1+1:=by omega
  rw[a0];have ht:f.obj=true->f.name.isSome=true:=fun ho=>by
   simp only[cI,ho,Bool.true_and] at hw
   cases hn:f.name with
   |none=>rw[hn] at hw;cases hw
   |some _=>rfl
  have Ht:=Qa ht;clear h hw hm ht a0
  by_cases ho:f.obj=true
  .have hn:=Ht ho;rw[ho] at k0;rw[hn] at k4;simp only[if_true] at k0;clear hn ho;go_in;go_wp2;go_end0;exact⟨rfl,rfl⟩
  .rw[if_neg ho] at k0;clear ho k4;go_in;go_wp2;go_end0;exact⟨rfl,rfl⟩
theorem Ci {α β:Type}{f:α->β}{S L:List β}(hp:S.Perm L):∀ {Z:List α},Z.map f=L->∃Z':List α,Z'.Perm Z/\Z'.map f=S:=by
 induction hp with
 |nil=>intro Z h;exact⟨Z,List.Perm.refl _,h⟩
 |cons x _ ih=>
  intro Z h
  cases Z with
  |nil=>cases h
  |cons z Z=>
   rw[List.map_cons] at h;injection h with h1 h2
   obtain⟨Z',h3,h4⟩:=ih h2;exact⟨z::Z',h3.cons z,by rw[List.map_cons,h1,h4]⟩
 |swap x y l=>
  intro Z h
  match Z,h with
  |a::b::Z,h=>
   simp only[List.map_cons] at h;injection h with h1 h2
   injection h2 with h2 h3
   exact⟨b::a::Z,List.Perm.swap a b Z,by simp[h1,h2,h3]⟩
 |trans _ _ ih1 ih2=>
  intro Z h;obtain⟨Z1,h1,h2⟩:=ih2 h;obtain⟨Z2,h3,h4⟩:=ih1 h2;exact⟨Z2,h3.trans h1,h4⟩
theorem Jz (S:List (Nc×Value)):gU S=BE (S.map Prod.fst) (S.map Prod.snd):=by
 unfold gU BE
 congr 1
 induction S with
 |nil=>rfl
 |cons p S ih=>simp[<-ih]
theorem zV {ms:List (Nc×JV)}(hg:w.heap[g]?=some (.cells #[.slice A S.length c] 174 (0,0)))(hr:cM Q w 107 2 A S.length c (gU S))(hQ:Q g)(hp:S.Perm L)(hs:(S.map Prod.fst).Pairwise gH)
  (hn:L.map Prod.fst=ms.map Prod.fst) (hv:bC (VW Q w) (L.map Prod.snd) (ms.map Prod.snd)):VW Q w (.iface 126 (.pointer (some (nl g)))) (od (gX ms)):=by
 have hl:L.length=ms.length:=by have:=congrArg List.length hn;simpa using this
 have hz:(L.zip ms).map Prod.fst=L:=List.map_fst_zip (by omega);have a4:(L.zip ms).map Prod.snd=ms:=List.map_snd_zip (by omega);obtain⟨Z,hZ,a1⟩:=Ci hp hz;have a0:∀z∈L.zip ms,z.1.1=z.2.1/\VW Q w z.1.2 z.2.2:=by
  intro z hz;obtain⟨i,hi,rfl⟩:=List.getElem_of_mem hz;rw[List.length_zip] at hi;have h1:L[i]?=some L[i]:=Zd (by omega);have h2:ms[i]?=some ms[i]:=Zd (by omega);rw[List.getElem_zip];refine⟨?_,hv.2 i _ _ (by rw[List.getElem?_map,h1];rfl) (by rw[List.getElem?_map,h2];rfl)⟩;have:=congrArg (·[i]?) hn;simp only[List.getElem?_map,h1,h2,Option.map_some] at this;exact Zi this
 have a5:gX ms=Z.map Prod.snd:=by
  refine Ds ?_ ?_
  .have:=(hZ.map Prod.snd).symm
   rwa[a4] at this
  .have e:(Z.map Prod.snd).map Prod.fst=S.map Prod.fst:=by
    rw[<-a1,List.map_map,List.map_map];exact List.map_congr_left fun z hz=>(a0 z (hZ.mem_iff.1 hz)).1.symm
   rw[e];exact hs
 rw[a5];have a2:S.map Prod.fst= (Z.map Prod.snd).map Prod.fst:=by
  rw[<-a1,List.map_map,List.map_map];exact List.map_congr_left fun z hz=>(a0 z (hZ.mem_iff.1 hz)).1
 have a3:S.length=Z.length:=by rw[<-a1];simp
 unfold od;rw[<-a2];refine VW.obj g A c (S.map Prod.snd) (S.map Prod.fst) _ hQ (by rw[List.length_map];exact hg) (by rw[List.length_map,<-Jz];exact hr) (by simp[a3]) (by simp[a3]) fun i u k h1 h2=>?_
 rw[List.getElem?_map,<-a1,List.getElem?_map] at h1;rw[List.getElem?_map,List.getElem?_map] at h2
 cases hz3:Z[i]? with
 |none=>rw[hz3] at h1;cases h1
 |some z=>
  rw[hz3] at h1 h2;obtain rfl:=Zi h1;obtain rfl:=Zi h2;exact(a0 z (hZ.mem_iff.1 (Zl hz3))).2
theorem Bo (hg:w.heap[g]?=some (.cells #[.slice A us.length c] 169 (0,0)))(hr:cM Q w 35 1 A us.length c us)(hQ:Q g)(hv:bC (VW Q w) us ks):VW Q w (.iface 52 (.pointer (some (nl g)))) (ei ks):=
 VW.list g A c us ks hQ hg hr hv.1 fun i u k h1 h2=>hv.2 i u k h1 h2
theorem wU {done:Option JV}{pv':Value}{us:List (Nb)}{bs:List Nat}{o:Bool}(h:BJ B w xb frs done pv dv us bs)(hB:B<=w.heap.size)(h5:aV (fun k=>pv.ownBlock=some k) w w5)
  (hp:w5.ownsRow B 236 5 pv' (frs.length+1) (us.reverse.flatten ++ [.int .i64 (if o then 6 else 5),.slice none 0 0,.slice none 0 0,.string ⟨#[]⟩,.bool false])) (hg:w5.heap[xb]?=w.heap[xb]?) :
  Below B w (w5.setCell (nl xb) pv')/\Kp TB w (w5.setCell (nl xb) pv')/\fY B (w5.setCell (nl xb) pv') xb (⟨o, [], [],none⟩::frs) done bs:=by
 obtain⟨h1,h2,h3,h4,a4,h6,h7⟩:=h;have a1:w5.heap[xb]?=some (.cells #[pv,dv] 187 (0,0)):=hg.trans h1;have a0:aV (fun k=>pv.ownBlock=some k\/k=xb) w (w5.setCell (nl xb) pv'):=(h5.mono fun _ h=>.inl h).trans (aV.set xb 0 pv') fun i hi=>.inl (.inr hi)
 have a2:∀g,(pv.ownBlock=some g\/g=xb)->g<w.heap.size->∃cs e z,w.heap[g]?=some (.cells cs e z)/\(e=236\/e=187):=by
  intro g hg _;rcases hg with hg|rfl
  .obtain⟨_,cur,hh⟩:=am h3 hg;exact⟨_,_,_,hh,.inl rfl⟩
  .exact⟨_,_,_,h1,.inr rfl⟩
 have hm:Mv [] w (w5.setCell (nl xb) pv'):=Mv.of_chg a0 fun g hg hl=>by
  obtain⟨cs,e,z,q1,q2⟩:=a2 g hg hl;exact .inr ⟨cs,e,z,q1,by rcases q2 with rfl|rfl <;> (simp only[TV];decide)⟩
 have a3:∀g∈bs,g∈bs\/w.heap.size<=g:=fun g h=>.inl h
 refine⟨a0.below hB (fun i hi=>hi.elim (fun h=>(am h3 h).1) fun e=>by rw[e];exact h2),Kp.of_chg a0 fun g hg hl=>?_,pv',dv, [(if o then 6 else 5:Int),(),(),.string ⟨#[]⟩,false]::us,az a1 0 pv',h2,?_,?_,?_,h6,h7.move hm (by simp) a3⟩
 .obtain⟨cs,e,z,q1,q2⟩:=a2 g hg hl;exact⟨cs,e,z,q1,q2.elim (fun h=>.inr (.inr h)) fun h=>.inr (.inl h)⟩
 .rw[List.length_cons,List.reverse_cons,List.flatten_append];simp only[List.flatten_cons,List.flatten_nil,List.append_nil];have hne:=aW hp a1 (by decide);exact bM hp fun b hb=>(aV.set xb 0 pv').block b (ah (am hp hb).2.choose_spec) fun e=>hne (by rw[hb,e])
 .refine bC.cons ⟨.slice none 0 0,(),⟨#[]⟩, [], [],rfl,fun t e=>(by cases e),⟨rfl,.inl ⟨rfl,rfl⟩⟩,bC.nil _,⟨rfl,.inl ⟨rfl,rfl⟩⟩,rfl,bC.nil _,fun _=>rfl,fun _=>rfl⟩ ?_;exact h4.mono fun _ _ h=>h.move hm (by simp) a3 (by simp)
 .rw[List.flatMap_cons,a4];rfl
theorem AM(x W):y6 233 x 231 233 x true W:=by show _=_;kernel_rfl
theorem GD(x W):y6 238 x 231 238 x true W:=by show _=_;kernel_rfl
theorem tS(x W):y6 238 x 231 233 (.agg #[(0:Int),(0:Int)]) false W:=by show _=_;kernel_rfl
theorem GT(x W):y6 240 x 231 240 x true W:=by show _=_;kernel_rfl
theorem tM(x W):y6 240 x 231 233 (.agg #[(0:Int),(0:Int)]) false W:=by show _=_;kernel_rfl
theorem tC(x W):y6 240 x 231 238 (.agg #[(0:Int),.string ⟨#[]⟩]) false W:=by show _=_;kernel_rfl
theorem wt(x W):y6 241 x 231 241 x true W:=by show _=_;kernel_rfl
theorem kz(x W):y6 241 x 231 233 (.agg #[(0:Int),(0:Int)]) false W:=by show _=_;kernel_rfl
theorem kH(x W):y6 241 x 231 238 (.agg #[(0:Int),.string ⟨#[]⟩]) false W:=by show _=_;kernel_rfl
theorem ky(x W):y6 241 x 231 240 (.agg #[(0:Int),.nilIface]) false W:=by show _=_;kernel_rfl
theorem z8 {bs:List Nat}(b4:lv= (frs.length+1:Nat))(h:fY B w xb frs none bs)(hw:∀f fs,frs=f::fs->cI f=false)(hl:frs.length<=4294967296)(hB:B<=w.heap.size):Calls prog 103 #[.pointer (some (nl xb)),.iface 233 (.agg #[(lv:Int),(5:Int)])] w fun e w'=>nY B xb ⟨⟨false, [], [],none⟩::frs,0,none⟩ w e w':=by
 have b5:=Qa (mh (h.below (aa w (.cells #[(lv:Int),(5:Int)] 233))) hw hl);rw[<-b4] at b5;have H:=Qa (h.below (aa w (.cells #[(lv:Int),(5:Int)] 233)));have a6:=Qa (aa w (.cells #[(lv:Int),(5:Int)] 233));have a3:=Qa (Zf w (.cells #[(lv:Int),(5:Int)] 233));have HB:=Qa hB;obtain⟨m,hm⟩:=y7 frs.length;rw[hm] at hl;have Hm:=Qa hm;clear h b4 hw hB hm;have q1:=AM;go_in;go_wp2_with fail;refine Za b5 ?_;rintro e w' ⟨rfl,b6⟩;rw[b6] at H a6 a3;obtain⟨pv,dv,us,h⟩:=H.out;obtain⟨A,q,b2,-⟩:=ai h.parts;rw[Hm.out] at b2;subst b2;have c0:=ac h.row (j:=0) (u:=.slice A m q) rfl;have f0:=ao h.row 0;have e1:=ac a3.out (j:=1) rfl;have HA:=Qa h;clear h b6 H;go_wp2_with fail;obtain⟨wr,a4⟩:=y7 w'.drew;have a2:ge w' wr:=by rw[<-a4];exact(Ze _ _).drew
 have b3:wr.heap.size=w'.heap.size:=by rw[<-a4];rfl
 have C0:=Qa (Zg a2 c0);have E1:=Qa (Zg a2 e1);have a7:wr.heap[xb]?=some (.cells #[.slice A m q,dv] 187 (0,0)):=al HA.row a2;have a1:=Qa (aa wr (.cells #[(5:Int),(),(),.string ⟨#[]⟩,false] 236));have b9:=Qa (au wr [(5:Int),(),(),.string ⟨#[]⟩,false] 236);have a5:w'.ownsRow B 236 5 (.slice A m q) m us.reverse.flatten:=by have:=HA.parts;rwa[Hm.out] at this
 have a9:=Qa (aq (aq a5 a2 (Zb _)) a1.out (Zb _));have b7:=Qa (al a7 a1.out);have c2:=Qa (aW a9.out b7.out (by decide));have b0:=Qa a2;have b1:=Qa b3;clear c0 f0 e1 a2 b3 a7 a5;refine cJ (fun w2=>w2.cell? (nl xb)=some (.slice A m q)/\w2.cell? (no w.heap.size 1)=some (.int .i64 5)) 12 ((by rw[a4];exact⟨C0,E1⟩)) fun a0=>?_
 rw[a4] at a0 ⊢;clear a4;refine iz 0 1 2 a0 ?_;refine iz 3 4 5 a0 ?_;refine tZ 6 a0 ?_;refine tZ 7 a0 ?_;refine rZ 8 fun K hK=>?_
 go_simp;refine hK _ _ (fun _=>⟨Zg a1 a0.1,Zg a1 a0.2⟩) (fun a0=>?_);clear hK K;have a0:=a0 (by decide)
 try simp only[Act.put,jP,jQ,jR]
 refine rZ 9 fun K hK=>?_
 refine Ao Fy a9.out b9.out (by have:=b1.out;have:=a1.size;have:=a6.size;have:=HB.out;omega) ?_;intro v' w5 p1 p2 p3;obtain⟨A5,q5,rfl,-,-,-⟩:=ai p1;have g5:=aJ b7.out p2 c2.out;have f5:=ao g5 0;have k5:w5.cell? (nl xb)=some (.slice A m q):=ac g5 (j:=0) rfl;have k6:w5.cell? (no w.heap.size 1)=some (.int .i64 5):=(fX (aJ (al (al a3 b0) a1) p2 (aW a9 (al (al a3 b0) a1) (by decide))) a3.out _).trans (ac a3 (j:=1) rfl);have G5:=Qa g5;have HK:=Qa p1;have HG:=Qa p2;clear p1 p2 p3 g5;refine hK _ _ (fun _=>⟨k5,k6⟩) (fun a0=>?_);clear hK K;have a0:=a0 (by decide)
 try simp only[Act.put,jP,jQ,jR]
 refine rZ 10 fun K hK=>?_
 go_simp;refine hK _ _ (fun _=>a0) (fun a0=>?_);clear hK K;have a0:=a0 (by decide)
 try simp only[Act.put,jP,jQ,jR]
 refine tZ 11 a0 ?_;refine rZ 12 fun K hK=>?_
 go_simp;refine hK _ _ (fun h=>absurd rfl h) (fun _=>?_);clear hK K
 try simp only[Act.put,jP,jQ,jR]
 refine aR (by kernel_rfl) (NoPanic.normal ?_) _;go_end0;have b8:=HA.low;have c1:aV (fun k=>(Value.slice A m q).ownBlock=some k) w' w5:=(aV.of_below ((b0.out).trans (a1.mono (by have:=b1.out;omega)))).trans (aV.grown HG) fun i hi=>.inl hi
 obtain⟨r1,r2,r3⟩:=wU (o:=false) HA.out (by have:=a6.size;have:=HB.out;omega) c1 (by rw[Hm.out];exact HK.out) (G5.trans HA.row.symm);exact⟨rfl,(a6.mono HB).trans r1,(Kp.of_below TB a6).trans r2,_,r3⟩
theorem yb {bs:List Nat}(b4:lv= (frs.length+1:Nat))(h:fY B w xb frs none bs)(hw:∀f fs,frs=f::fs->cI f=false)(hl:frs.length<=4294967296)(hB:B<=w.heap.size):Calls prog 103 #[.pointer (some (nl xb)),.iface 233 (.agg #[(lv:Int),(6:Int)])] w fun e w'=>nY B xb ⟨⟨true, [], [],none⟩::frs,0,none⟩ w e w':=by
 have b5:=Qa (mh (h.below (aa w (.cells #[(lv:Int),(6:Int)] 233))) hw hl);rw[<-b4] at b5;have H:=Qa (h.below (aa w (.cells #[(lv:Int),(6:Int)] 233)));have a6:=Qa (aa w (.cells #[(lv:Int),(6:Int)] 233));have a3:=Qa (Zf w (.cells #[(lv:Int),(6:Int)] 233));have HB:=Qa hB;obtain⟨m,hm⟩:=y7 frs.length;rw[hm] at hl;have Hm:=Qa hm;clear h b4 hw hB hm;have q1:=AM;go_in;go_wp2_with fail;refine Za b5 ?_;rintro e w' ⟨rfl,b6⟩;rw[b6] at H a6 a3;obtain⟨pv,dv,us,h⟩:=H.out;obtain⟨A,q,b2,-⟩:=ai h.parts;rw[Hm.out] at b2;subst b2;have c0:=ac h.row (j:=0) (u:=.slice A m q) rfl;have f0:=ao h.row 0;have e1:=ac a3.out (j:=1) rfl;have HA:=Qa h;clear h b6 H;go_wp2_with fail;obtain⟨wr,a4⟩:=y7 w'.drew;have a2:ge w' wr:=by rw[<-a4];exact(Ze _ _).drew
 have b3:wr.heap.size=w'.heap.size:=by rw[<-a4];rfl
 have C0:=Qa (Zg a2 c0);have E1:=Qa (Zg a2 e1);have a7:wr.heap[xb]?=some (.cells #[.slice A m q,dv] 187 (0,0)):=al HA.row a2;have a1:=Qa (aa wr (.cells #[(6:Int),(),(),.string ⟨#[]⟩,false] 236));have b9:=Qa (au wr [(6:Int),(),(),.string ⟨#[]⟩,false] 236);have a5:w'.ownsRow B 236 5 (.slice A m q) m us.reverse.flatten:=by have:=HA.parts;rwa[Hm.out] at this
 have a9:=Qa (aq (aq a5 a2 (Zb _)) a1.out (Zb _));have b7:=Qa (al a7 a1.out);have c2:=Qa (aW a9.out b7.out (by decide));have b0:=Qa a2;have b1:=Qa b3;clear c0 f0 e1 a2 b3 a7 a5;refine cJ (fun w2=>w2.cell? (nl xb)=some (.slice A m q)/\w2.cell? (no w.heap.size 1)=some (.int .i64 6)) 12 ((by rw[a4];exact⟨C0,E1⟩)) fun a0=>?_
 rw[a4] at a0 ⊢;clear a4;refine iz 0 1 2 a0 ?_;refine iz 3 4 5 a0 ?_;refine tZ 6 a0 ?_;refine tZ 7 a0 ?_;refine rZ 8 fun K hK=>?_
 go_simp;refine hK _ _ (fun _=>⟨Zg a1 a0.1,Zg a1 a0.2⟩) (fun a0=>?_);clear hK K;have a0:=a0 (by decide)
 try simp only[Act.put,jP,jQ,jR]
 refine rZ 9 fun K hK=>?_
 refine Ao Fy a9.out b9.out (by have:=b1.out;have:=a1.size;have:=a6.size;have:=HB.out;omega) ?_;intro v' w5 p1 p2 p3;obtain⟨A5,q5,rfl,-,-,-⟩:=ai p1;have g5:=aJ b7.out p2 c2.out;have f5:=ao g5 0;have k5:w5.cell? (nl xb)=some (.slice A m q):=ac g5 (j:=0) rfl;have k6:w5.cell? (no w.heap.size 1)=some (.int .i64 6):=(fX (aJ (al (al a3 b0) a1) p2 (aW a9 (al (al a3 b0) a1) (by decide))) a3.out _).trans (ac a3 (j:=1) rfl);have G5:=Qa g5;have HK:=Qa p1;have HG:=Qa p2;clear p1 p2 p3 g5;refine hK _ _ (fun _=>⟨k5,k6⟩) (fun a0=>?_);clear hK K;have a0:=a0 (by decide)
 try simp only[Act.put,jP,jQ,jR]
 refine rZ 10 fun K hK=>?_
 go_simp;refine hK _ _ (fun _=>a0) (fun a0=>?_);clear hK K;have a0:=a0 (by decide)
 try simp only[Act.put,jP,jQ,jR]
 refine tZ 11 a0 ?_;refine rZ 12 fun K hK=>?_
 go_simp;refine hK _ _ (fun h=>absurd rfl h) (fun _=>?_);clear hK K
 try simp only[Act.put,jP,jQ,jR]
 refine aR (by kernel_rfl) (NoPanic.normal ?_) _;go_end0;have b8:=HA.low;have c1:aV (fun k=>(Value.slice A m q).ownBlock=some k) w' w5:=(aV.of_below ((b0.out).trans (a1.mono (by have:=b1.out;omega)))).trans (aV.grown HG) fun i hi=>.inl hi
 obtain⟨r1,r2,r3⟩:=wU (o:=true) HA.out (by have:=a6.size;have:=HB.out;omega) c1 (by rw[Hm.out];exact HK.out) (G5.trans HA.row.symm);exact⟨rfl,(a6.mono HB).trans r1,(Kp.of_below TB a6).trans r2,_,r3⟩
theorem Cd {bs:List Nat}{s:Nc}(e4:lv= (fs.length+1:Nat))(h:fY B w xb (f::fs) none bs)(ho:f.obj=true)(e2:f.name=none)(hl:fs.length<=4294967296)(hB:B<=w.heap.size):Calls prog 103 #[.pointer (some (nl xb)),.iface 238 (.agg #[(lv:Int),s])] w (nY B xb ⟨{f with name:=some s}::fs,4,none⟩ w):=by
 have b6:=aa w (.cells #[(lv:Int),s] 238);have d4:=h.below b6;have b5:=Qa (Zf w (.cells #[(lv:Int),s] 238));obtain⟨w1,c6⟩:=y7 (w.alloc (.cells #[(lv:Int),s] 238));rw[c6] at b6 d4 b5;obtain⟨pv,dv,us,h1⟩:=d4;obtain⟨d5,h2,h3,h4,h5,h6,h7⟩:=id h1
 cases us with
 |nil=>have:=h4.1;simp at this
 |cons u us=>
 have c9:us.length=fs.length:=by have:=h4.1;simpa using this
 have a4:∀x∈u::us,x.length=5:=fun x hx=>by
  obtain⟨i,hi,rfl⟩:=List.getElem_of_mem hx;exact(h4.2 i _ ((f::fs)[i]'(by have:=h4.1;omega)) (Zd hi) (Zd _)).len
 rw[List.length_cons,<-c9] at h3;obtain⟨pb,q,d7,hT⟩:=fj h3 a4;obtain⟨d9,a0,b7,b3,b2⟩:=hT;obtain⟨iv,mv,s0,xs,L,hu,e7,c8,a7,c2,b4,a3,d1,e5⟩:=h4.2 0 u f rfl rfl;obtain rfl:=d1 ho;obtain⟨Ai,qi,rfl,-⟩:=ai c2;subst d9 hu;obtain⟨m,hm⟩:∃m,m=us.length:=⟨_,rfl⟩;rw[<-hm] at a0 b3 b2;have c0:=ac d5 (j:=0) (u:=.slice (some (nl pb)) (m+1) q) (by rw[hm];rfl);have k0:=a0 0 _ rfl;have k3:=a0 3 _ rfl;have k4:=a0 4 _ rfl;rw[ho] at k0;rw[e2] at k4;simp only[if_true] at k0;rw[Nat.add_zero] at k0;obtain⟨cur,a9⟩:=b7;have f3:=ao a9 (m*5+3);have e0:=ac b5.out (j:=0) (u:=(lv:Int)) rfl;have e1:=ac b5.out (j:=1) (u:=.string s) rfl;have s1:IntKind.i64.wrap (m:Int)= (m:Int):=IntWalk.i64_in _ (by omega);have d6:(((m+1:Nat):Int)==0)=false:=by simp only[beq_eq_false_iff_ne];omega
 have a6:lv= (m:Int)+1:=by omega
 have f2:=Qa a6;have HA:=Qa h1;have a2:=Qa a9;have Hm:=Qa hm;have Hl:=Qa a4;have H3:=Qa h3;have f0:=x8 c8 a7 c2 b4 a3;have c1:=Qa b6;have HB:=Qa hB;have q1:=GD;have q2:=tS;have e3:(lv== (m:Int)+1)=true:=by rw[a6];simp
 have d0:(lv != (m:Int)+1)=false:=by rw[a6];simp
 clear h h1 d5 h2 h3 h4 h5 h6 h7 c8 a7 c2 b4 a3 d1 e5 a0 a9 a4 e7 c9 hm e4 a6 b6 hB b3 b2;go_in;go_wp2_with fail
 try rw[c6]
 obtain⟨wr,b8⟩:=y7 w1.drew;have a5:ge w1 wr:=by rw[<-b8];exact(Ze _ _).drew
 have C0:=Qa (Zg a5 c0);have E1:=Qa (Zg a5 e1);have k3r:=Zg a5 k3;have gr:=al a2.out a5;have f3r:=ao gr (m*5+3);have K4:=Qa (Zg a5 k4);have Gr:=Qa gr;have f5:=Qa (al HA.row a5);have f1:=Qa (al b5.out a5);have c3:=Qa a5;have d2:pb≠xb:=fun e=>by
  have:=HA.row;rw[<-e,a2.out] at this;injection this with this
  injection this with _ this _
  exact absurd this (by decide)
 have b0:pb≠w.heap.size:=fun e=>by
  have:=b5.out;rw[<-e,a2.out] at this;injection this with this
  injection this with _ this _
  exact absurd this (by decide)
 have b9:=Qa d2;have c4:=Qa b0;clear c0 k0 k3 k4 f3 e0 e1 gr a5 d2 b0 c6;refine aI (fun w2=>w2.cell? (nl xb)=some (.slice (some (nl pb)) (m+1) q)/\w2.cell? (no w.heap.size 1)=some (.string s)) ((by rw[b8];exact⟨C0,E1⟩)) fun a1=>?_
 refine bw 0 1 2 a1 ?_;refine bw 3 4 5 a1 ?_;refine bw 6 7 8 a1 ?_;refine bw 9 10 11 a1 ?_;refine bw 12 13 14 a1 ?_;refine tH 15 a1 ?_;refine rH 16 fun K hK=>?_
 rw[b8] at a1 ⊢;go_simp;refine hK _ _ (⟨(World.cell?_setCell_far _ _ _ _ b9.out).trans C0.out,(World.cell?_setCell_far _ _ _ _ c4.out).trans E1.out⟩) (fun a1=>?_);clear hK K
 try simp only[Act.put,jP,jQ,jR]
 refine tH 17 a1 ?_;refine tH 18 a1 ?_;refine rH 19 fun K hK=>?_
 have g4:=az Gr.out (m*5+3) s;have f4:=ao g4 (m*5+4);have k4:=(nt Gr (show m*5+3≠m*5+4 by omega) s).trans K4.out;go_simp;refine hK _ _ (⟨(World.cell?_setCell_far _ _ _ _ b9.out).trans ((World.cell?_setCell_far _ _ _ _ b9.out).trans C0.out),(World.cell?_setCell_far _ _ _ _ c4.out).trans ((World.cell?_setCell_far _ _ _ _ c4.out).trans E1.out)⟩) (fun a1=>?_);clear hK K
 try simp only[Act.put,jP,jQ,jR]
 refine y5 ?_;clear a1 k3r f3r;go_end0;obtain rfl:=Hm.out;have e6:wr.ownsRow B 236 5 (.slice (some (nl pb)) (us.length+1) q) (us.length+1) (([(if f.obj=true then 6 else 5:Int),(),.slice Ai L.length qi,s0,.bool f.name.isSome]:Nb)::us).reverse.flatten:=aq H3.out c3.out (Zb _);have c5:=fC e6 Hl.out (j:=3) (by decide) s;have b1:=fC c5 (fun x hx=>by rcases List.mem_cons.1 hx with rfl|hx;(· rfl);exact Hl x (Zm _ hx)) (j:=4) (by decide) true;have c7:aV (fun k=>k=pb) wr ((wr.setCell ⟨pb,us.length*5+3,none⟩ s).setCell ⟨pb,us.length*5+4,none⟩ true):=
  (aV.set pb _ _).trans (aV.set pb _ _) fun i h=>.inl h
 have e8:B<=w1.heap.size:=Zc HB.out c1.size;have b0:=t7 HA.out a2.out d7 e8 (aV.of_below c3) c7 b1 (fun g hg=>.inl (by
  have hg:g∈cF [(if f.obj=true then 6 else 5:Int),(),.slice Ai L.length qi,s,true]:=hg;rw[km] at hg ⊢;exact hg)) (by
  show(cF [_,_,_,_,_]).Nodup
  rw[km];exact mB _) (f':={f with name:=some s}) (fun hm ht d3=>?_)
 .exact⟨rfl,(c1.mono HB).trans b0.1,(Kp.of_below TB c1).trans b0.2.1,_,b0.2.2⟩
 obtain⟨m1,m2,m3,m4,m5⟩:=f0.out;have hne:=aW m3 a2.out (by decide);refine⟨.slice none 0 0,.slice Ai L.length qi,s,xs,L,rfl,fun t e=>Zi e,?_,?_,?_,m4,?_,fun _=>rfl,fun e=>?_⟩
 .exact bM m1 fun b hb=>by cases hb
 .exact m2.mono fun _ _ h=>h.move hm ht d3
 .exact bM m3 fun b hb=>((aV.of_below c3).trans c7 (fun i h=>.inl h)).block b (ah (am m3 hb).2.choose_spec) fun e=>hne (by rw[hb,e])
 .exact m5.mono fun _ _ h=>h.move hm ht d3
 .exact absurd (ho.symm.trans e) (by decide)
def mf (frs:List Fr):Prop:=frs.length<=4294967296/\∀f fs,frs=f::fs->cI f=false/\f.items.length<=4294967296/\f.mems.length<=4294967296
theorem ti {bs:List Nat}(h:fY B w xb frs none bs)(hT:mf frs)(hv:VW (Pb B bs) w v j)(hB:B<=w.heap.size):Calls prog 136 #[.pointer (some (nl xb)),v] w (nY B xb (dq frs j) w):=by
 cases frs with
 |nil=>exact Fa h hv hB
 |cons f fs=>
  obtain⟨h1,h2,h3⟩:=hT.2 f fs rfl;have hl:=hT.1;rw[List.length_cons] at hl
  by_cases ho:f.obj=true
  .have hn:f.name.isSome=true:=by
    simp only[cI,ho,Bool.true_and] at h1
    cases hn:f.name with
    |none=>rw[hn] at h1;cases h1
    |some _=>rfl
   exact Gc h ho hv hB hn h3 (by omega)
  .exact Fl h (by simpa using ho) hv hB h2 (by omega)
theorem sf {bs:List Nat}(a2:lv= (frs.length+1:Nat))(h:fY B w xb frs none bs)(hT:mf frs)(hv:VW (Pb B bs) w v j)(hB:B<=w.heap.size):Calls prog 103 #[.pointer (some (nl xb)),.iface 240 (.agg #[(lv:Int),v])] w (nY B xb (dq frs j) w):=by
 have a0:=aa w (.cells #[(lv:Int),v] 240);have a1:=h.below a0;have a4:=Qa (mh a1 (fun f fs e=>(hT.2 f fs e).1) hT.1);rw[<-a2] at a4;have a5:=Qa (ti a1 hT (hv.move (bs':=bs) (Mv.of_below (top:= []) a0) (by simp) (fun g hg=>.inl hg)) (Zc hB a0.size));have e1:=ac (Zf w (.cells #[(lv:Int),v] 240)) (j:=1) rfl;have a3:=Qa a0;have HB:=Qa hB;have q1:=GT;have q2:=tM;have q3:=tC;obtain⟨tv,xv,rfl⟩:=hv.iface;clear h a1 hT hv hB a2 a0;go_in;go_wp2_with fail;refine Za a4 ?_;rintro e w' ⟨rfl,rfl⟩;go_wp2_with fail;refine Za a5 ?_;rintro e w' ⟨rfl,h1,h2,h3⟩;have R:=NB h1 h2 h3;clear h1 h2 h3;go_wp2;go_end0;exact⟨rfl,(a3.mono HB).trans R.1,(Kp.of_below TB a3).trans R.2.1,R.2.2⟩
theorem lr {k:Nat}{xs ys:Nb}(h:w.ownsRow B e k (.slice A (n+1) q) (n+1) (xs++ys))(hx:xs.length=n*k):w.ownsRow B e k (.slice A n q) n xs:=by
 obtain⟨h1,⟨e1,h0⟩|⟨g,cap,cur,e1,hb,hg,h2,h3,h4,h5⟩⟩:=h
 .cases e1
 .obtain⟨rfl,-,rfl⟩:=Value.slice.inj e1;refine⟨hx,.inr ⟨g,q,cur,rfl,hb,hg,by omega,h3,h4,?_⟩⟩;have:=congrArg (List.take (n*k)) h5;rw[List.take_take,Nat.min_eq_left (Nat.mul_le_mul_right k (Nat.le_succ n)),List.take_left' hx] at this;exact this
theorem Jb:∀ (L:List (Nb)),(∀x∈L,x.length=5)->L.flatten.length=L.length*5
 | [],_=>rfl
 |a::L,h=>by rw[List.flatten_cons,List.length_append,Jb L (fun x hx=>h x (Zm _ hx)),h a (by simp),List.length_cons];omega
theorem Bi {done:Option JV}{u:Nb}{us:List (Nb)}{bs:List Nat}(h:BJ B w xb (f::fs) done (.slice (some (nl pb)) (us.length+1) q) dv (u::us) bs)(hB:B<=w.heap.size) :
  Below B w (w.setCell (nl xb) (.slice (some (nl pb)) us.length q))/\Kp (fun e=>e=187) w (w.setCell (nl xb) (.slice (some (nl pb)) us.length q))/\(∀g∈us.flatMap cF,g∈bs)/\fY B (w.setCell (nl xb) (.slice (some (nl pb)) us.length q)) xb fs done (us.flatMap cF):=by
 obtain⟨h1,h2,h3,h4,h5,h6,h7⟩:=h;have a3:=aV.set (w:=w) xb 0 (.slice (some (nl pb)) us.length q);have hk:Kp (fun e=>e=187) w (w.setCell (nl xb) (.slice (some (nl pb)) us.length q)):=Kp.of_chg a3 fun g e _=>by subst e;exact⟨_,_,_,h1,rfl⟩
 have hm:Mv [] w (w.setCell (nl xb) (.slice (some (nl pb)) us.length q)):=Mv.of_kp hk fun e he=>by rcases he with rfl|rfl|rfl|rfl <;> decide
 have a2:us.length=fs.length:=by have:=h4.1;simpa using this
 have a0:∀g∈us.flatMap cF,g∈bs:=fun g hg=>by rw[<-h5];exact List.mem_append_right _ hg
 have a4:∀g∈us.flatMap cF,g∈bs\/w.heap.size<=g:=fun g h=>.inl (a0 g h)
 have a1:∀x∈u::us,x.length=5:=fun x hx=>by
  obtain⟨i,hi,rfl⟩:=List.getElem_of_mem hx;exact(h4.2 i _ ((f::fs)[i]'(by have:=h4.1;omega)) (Zd hi) (Zd _)).len
 refine⟨a3.below hB (fun i e=>by rw[e];exact h2),hk,a0,.slice (some (nl pb)) us.length q,dv,us,az h1 0 _,h2,?_,⟨a2,fun i a b h1 h2=>?_⟩,rfl,?_,h7.move hm (by simp) a4⟩
 .rw[List.length_cons,<-a2,List.reverse_cons,List.flatten_append] at h3;rw[<-a2];refine ap (lr h3 ?_) hk.keeps (by decide);rw[Jb _ fun x hx=>a1 x (Zm _ (List.mem_reverse.1 hx)),List.length_reverse]
 .exact(h4.2 (i+1) a b (by simpa using h1) (by simpa using h2)).move hm (by simp) a4 (by simp)
 .rw[<-h5] at h6;exact(List.nodup_append.1 h6).2.1
