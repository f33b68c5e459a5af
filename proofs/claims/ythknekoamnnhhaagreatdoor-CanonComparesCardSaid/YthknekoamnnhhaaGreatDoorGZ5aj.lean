import Derived.Test.YthknekoamnnhhaaGreatDoorGZ5ai
import Derived.Sort.Grow
set_option linter.unusedVariables false
set_option linter.unusedSimpArgs false
set_option maxHeartbeats 64000000
set_option maxRecDepth 100000
namespace Go.Proofs.YthknekoamnnhhaaGreatDoor
open Go.RowKit
variable {t':Bool}{x':ByteArray}{n':Dc}{j j' x0:JV}{L:List (ByteArray×Value)}{ns ns':List ByteArray}{y:List Int}{ks ks':List JV}{us:List Value}{B base c g lo n p q:Nat}{P:Nat->Prop}{A:Option Addr}{e ty:TypeId}{T:TypeId->Prop}{u v v' vk vn z:Value}{W W' w w':World}
theorem fW {α:Type}{l:List α}{k:Nat}{x:α}(h:lo<=k)(hx:l[k]?=some x):(l.take (k+1)).drop lo= (l.take k).drop lo ++ [x]:=by
 rw[cf hx,List.drop_append_of_le_length (by rw[List.length_take];have:=(List.getElem?_eq_some_iff.1 hx).1;omega)]
theorem bu.snoc {ns:List Nd}{us:List (List Value)}{y:Nd}(h1:W.ownsRow base 78 8 v n us.flatten)(hn:n=ns.length)(h2:bB (ic W) us ns)(h3:nw P us)(hy:ic W (aB y vn vk) y)(hv:∀g,vn.ownBlock=some g->P g)
  (h4:W'.ownsRow base 78 8 v' (n+1) (us.flatten++aB y vn vk)) (hg:W.grownBy W' v.ownBlock):bu P W' base v' (ns ++ [y]):=by
 subst hn;have ht:=cm h1;refine⟨us ++ [aB y vn vk],by rw[List.length_append,List.flatten_append];simpa using h4,(h2.mono fun _ _ h=>fL hg ht h).snoc (fL hg ht hy),fun u hu g e=>?_⟩;rcases List.mem_append.1 hu with hu|hu
 ·exact h3 u hu g e
 ·rw[List.mem_singleton] at hu;subst hu;exact hv g (by simpa [aB] using e)
def J9 (w:World)(xk:Int)(xt:Bool)(xx:ByteArray)(xn1:Bool)(xn2:ByteArray)(xn3:Int)(xns:List ByteArray)(xks:List Nat)(f:Nat->Nat)(e:Ending)(w':World):Prop:= ∃ (An:Option Addr) (cn:Nat) (Ak:Option Addr) (ck:Nat),e =.returned (.agg #[.int .i64 xk,.bool xt,.string xx,.bool xn1,.string xn2,.int .i64 xn3,.slice An xns.length cn,.slice Ak xks.length ck])/\Below w.heap.size w w'/\cJ w' w.heap.size (.slice An xns.length cn) xns/\bK w' w.heap.size (.slice Ak xks.length ck) (xks.map f)
theorem sV {xk:Int}{xt:Bool}{xx:ByteArray}{xn1:Bool}{xn2:ByteArray}{xn3:Int}{xns:List ByteArray}{xks:List Nat}(hn:cJ w 0 vn xns)(hk:bK w 0 vk xks)(hnl:xns.length<=1000000)(hkl:xks.length<=1000000)(f:Nat->Nat)(from_ by_:Int)
  (hf:∀q∈xks,((f q:Nat):Int)= (if from_<=q then(q:Int)+by_ else q)/\q<=1000000/\f q<=2000000) :
  Calls Tryz.prog 120 #[.agg #[.int .i64 xk,.bool xt,.string xx,.bool xn1,.string xn2,.int .i64 xn3,vn,vk],.int .i64 from_,.int .i64 by_] w (J9 w xk xt xx xn1 xn2 xn3 xns xks f):=
 (BF (x:=⟨xk,xt,xx,⟨xn1,xn2,xn3⟩,xns,xks⟩) hn hk hnl hkl f from_ by_ hf).mono fun e w' ⟨An,cn,Ak,ck,he,hb,hs,hk⟩=>⟨An,cn,Ak,ck,by rw[he];simp[Nd.mv,aB],hb,hs,by simpa [Nd.mv] using hk⟩
def wU (w:World)(src:List Nd)(out:List Nd)(f:Nat->Nat)(lo hi:Nat)(s9 sI:Value)(wr:World):Prop:= ∃ (k:Nat) (A:Option Addr) (n q:Nat),lo<=k/\k<=hi/\sI =.int .i64 k/\s9 =.slice A n q/\Below w.heap.size w wr/\bu (w.heap.size<= ·) wr w.heap.size (.slice A n q) (out++ ((src.take k).drop lo).map (Nd.mv f))
theorem Du {u:JV}{a:Nat}(h:ul u j 0 a x0 j'):(([]++ (((j.flat 0).take a).drop 0).map (Nd.mv (mP (a+x0.size) x0.size u.size)))++ (((u.flat 0).take u.size).drop 0).map (Nd.mv (· + a)))++ (((j.flat 0).take j.size).drop (a+x0.size)).map (Nd.mv (mP (a+x0.size) x0.size u.size))=j'.flat 0:=by
 obtain⟨A,B,e1,e2,e3⟩:=h.flat;have hA:A.length=a:=by omega
 have hu:((u.flat 0).take u.size).map (Nd.mv (· + a))=u.flat a:=by
  rw[List.take_of_length_le (by rw[JV.flat_len];exact Za _)];exact zA u 0 a _ (fun q _ _=>by simp)
 have hj:(j.flat 0).take j.size=j.flat 0:=List.take_of_length_le (by rw[JV.flat_len];exact Za _);rw[hj,List.drop_zero,List.drop_zero,hu,e3,e1];have t1:(A++x0.flat a++B).take a=A:=by rw[List.append_assoc,<-hA,List.take_left]
 have t2:(A++x0.flat a++B).drop (a+x0.size)=B:=by
  have:(A++x0.flat a).length=a+x0.size:=by rw[List.length_append,hA,JV.flat_len]
  rw[<-this,List.drop_left]
 rw[t1,t2];simp
theorem CU {vu:Value}{u:JV}{a:Nat}(hf:dI w 0 v (j.flat 0))(hu:dI w 0 vu (u.flat 0))(hp:ul u j 0 a x0 j')(hsz:j.size<=400000)(g4:u.size<=400000)
  (f2:∀x∈j.flat 0,x.names.length<=1000000) (f1:∀x∈u.flat 0,x.names.length<=1000000):Calls Tryz.prog 89 #[v,.int .i64 (a:Int),vu] w (pY w (j'.flat 0)):=by
 obtain⟨A,cap,rfl,e6,hm,hA⟩:=hf.form;obtain⟨Au,capu,rfl,d4,e7,f0⟩:=hu.form;have hn:=j.size_pos;have g0:=u.size_pos;obtain⟨gt,rfl⟩:=hA (by rw[JV.flat_len];omega);obtain⟨gu,rfl⟩:=f0 (by rw[JV.flat_len];omega);have hend:=Dt hf hp.sits (by omega);have g6:=hp.sits.bd;have g5:=x0.size_pos;have Hf:=Qa hf;have Hu:=Qa hu;rw[JV.flat_len] at e6 hm Hf hend d4 e7 Hu;rw[JV.flat_len j,JV.flat_len u];have d1:=Qa hend;have Hp:=Qa hp;have d5:Hid (∀x∈j.flat 0,x.names.length<=1000000/\x.kids.length<=1000000/\∀q∈x.kids,((mP (a+x0.size) x0.size u.size q:Nat):Int)= (if(a:Int)+x0.size<=q then(q:Int)+ ((u.size:Int) - ((a:Int)+x0.size - a)) else q)/\q<=1000000/\mP (a+x0.size) x0.size u.size q<=2000000):=Qa (fun x hx=>⟨f2 x hx,Zb (m6 hx) (by omega),fun q hq=>by
  have:=ru j 0 x hx q hq;unfold mP
  by_cases h:a+x0.size<=q
  ·rw[if_pos h,if_pos (by omega)];omega
  ·rw[if_neg h,if_neg (by omega)];omega⟩)
 have e5:Hid (∀x∈u.flat 0,x.names.length<=1000000/\x.kids.length<=1000000/\∀q∈x.kids,(((· + a) q:Nat):Int)= (if(-1:Int)<=q then(q:Int)+ (a:Int) else q)/\q<=1000000/\(· + a) q<=2000000):=Qa (fun x hx=>⟨f1 x hx,Zb (m6 hx) (by omega),fun q hq=>by
  have:=ru u 0 x hx q hq;rw[if_pos (by omega)];dsimp only;omega⟩)
 unfold maxLen at hm e7;clear hf hu hA f0 hend hp f2 f1;go_enter Tryz.func89,Tryz.ntmps89;go_wp2_with fail;refine d1.out.mono ?_;rintro e w1 ⟨rfl,e0⟩;have e2:=Qa e0;have f4:=Qa (Hf.out.below e0 (Za _));have f9:=Qa (Hu.out.below e0 (Za _));clear e0 Hf Hu d1;obtain⟨out1,e8⟩:∃l:List Nd, []=l:=⟨_,rfl⟩;have Ho1:=Qa e8;have d0:=Qa (show out1.length<=0 by rw[<-e8];simp);go_wp2_with fail
 go_loopw [9,10] (fun s9 s10 wr=>wU w1 (j.flat 0) out1 (mP (a+x0.size) x0.size u.size) 0 a s9 s10 wr) (fun _ v _=>a - (intOf v).toNat)
 case atStart=>exact⟨0,none,0,0,Zj _,Zj _,rfl,rfl,Zd _ _,by rw[<-Ho1.out];exact⟨[],⟨rfl,.inl ⟨rfl,rfl⟩⟩,bB.nil _,fun u hu=>by simp at hu⟩⟩
 case round=>
  obtain⟨k,A9,n9,q9,f3,a5,rfl,rfl,b0,a9⟩:=hrel;have a7:Hid (n9= (out1++ (((j).flat 0).take k |>.drop 0).map (Nd.mv (mP (a+x0.size) x0.size u.size))).length):=Qa (by obtain⟨_,_,e,_⟩:=a9.form;injection e);have Hbr:=Qa b0;have Hfo:=Qa a9;have a3:=b0.size;clear b0 a9
  by_cases hlt:k<a
  ·obtain⟨x,hx⟩:∃x,((j).flat 0)[k]?=some x:=⟨_,Zc (by rw[JV.flat_len];omega)⟩;have a2:=(f4.out.below Hbr.out (Za _));obtain⟨vn,vk,h1,h2,h3⟩:=a2.node hx;have c0:=h3 0 _ rfl;rw[Nat.add_zero] at c0;have c1:=h3 1 _ rfl;have c2:=h3 2 _ rfl;have c3:=h3 3 _ rfl;have c4:=h3 4 _ rfl;have c5:=h3 5 _ rfl;have c6:=h3 6 _ rfl;have c7:=h3 7 _ rfl;have Hx:=Qa (fW (lo:=0) (by omega) hx);obtain⟨q1,q2,q3⟩:=d5.out x (Zk hx);obtain⟨xk,xt,xx,⟨xn1,xn2,xn3⟩,xns,xks⟩:=x;have b4:=sV h1 h2 q1 q2 (mP (a+x0.size) x0.size u.size) ((a:Int)+x0.size) ((u.size:Int) - ((a:Int)+x0.size - a)) q3 (xk:=xk) (xt:=xt) (xx:=xx) (xn1:=xn1) (xn2:=xn2) (xn3:=xn3)
   dsimp only at q1 q2
   obtain⟨Bn,bn,rfl,-,-,-⟩:=ah h1;obtain⟨Bk,bk,rfl,-,-,-⟩:=ah h2;simp only[aB] at c0 c1 c2 c3 c4 c5 c6 c7;have c9:=Qa b4;have hki:(k:Int)<a:=by omega
   have f5:k<j.size:=by omega
   clear h1 h2 h3 hx b4 a2 q3;go_wp2_with fail;(with_reducible refine c9.out.mono ?_);rintro e w2 ⟨An,cn,Ak,ck,rfl,a4,b2,a5⟩;have d3:=Qa a4;have b3:=Qa b2;have b8:=Qa a5;have a1:=a4.size;obtain⟨us,g1,g2,g3⟩:=Hfo.out.below a4 (Za _);rw[<-a7.out] at g1;have b6:n9<=2000000:=by rw[a7.out];simp;have:=d0.out;omega
   have a0:=ac w2 (.cells #[.int .i64 xk,.bool xt,.string xx,.bool xn1,.string xn2,.int .i64 xn3,.slice An xns.length cn,.slice Ak xks.length ck] 78);have a6:=Qa (g1.below' a0);have c8:=Qa (g2.mono fun _ _ h=>h.below a0 (Za _));have d2:=Qa g3;have d6:=Qa (ar w2 [.int .i64 xk,.bool xt,.string xx,.bool xn1,.string xn2,.int .i64 xn3,.slice An xns.length cn,.slice Ak xks.length ck] 78);clear c0 c1 c2 c3 c4 c5 c6 c7 a4 b2 a5 g1 g2 g3 a0;go_wp2_with (at_builtin;refine ju sf a6.out d6.out (by simp;omega) ?_ (h1:=(by intro u hu;simp at hu;rcases hu with rfl|rfl|rfl|rfl|rfl|rfl|rfl|rfl <;> rfl));intro v9 w5 p1 p2 p3;have b5:=Qa p1;have b1:=Qa p2;clear p1 p2 p3);obtain⟨A9',q9',rfl,-⟩:=ah b5.out;have a0:=ac w2 (.cells #[.int .i64 xk,.bool xt,.string xx,.bool xn1,.string xn2,.int .i64 xn3,.slice An xns.length cn,.slice Ak xks.length ck] 78);have b7:=bu.snoc (y:=⟨xk,xt,xx,⟨xn1,xn2,xn3⟩,xns,xks.map (mP (a+x0.size) x0.size u.size)⟩) a6.out a7.out c8.out d2.out ⟨_,_,by simp[aB],(b3.out.below a0 (Za _)).low (Zj _),(b8.out.below a0 (Za _)).low (Zj _)⟩ (fun g e=>Zb a3 (al b3.out e).1) b5.out b1.out;exact⟨⟨k+1,A9',n9+1,q9',by omega,by omega,by go_num,rfl,aL ((Hbr.out.trans (d3.out.mono a3)).alloc (Zb a3 a1) _) a6.out (Zb (Zb a3 a1) (by simp)) b1.out,by rw[Hx.out,List.map_append,<-List.append_assoc];exact b7⟩,by simp[intOf];omega⟩
  ·obtain rfl:a=k:=by omega
   obtain⟨wA,rfl⟩:∃wA:World,wA=wr:=⟨_,rfl⟩;obtain⟨out2,e1⟩:∃l:List Nd,(out1++ (((j.flat 0).take a).drop 0).map (Nd.mv (mP (a+x0.size) x0.size u.size)))=l:=⟨_,rfl⟩;have f6:=Qa e1;have b9:=Qa (show out2.length<=400000 by rw[<-e1];simp;have:=d0.out;omega);rw[e1] at Hfo;clear e1;go_wp2_with fail
   go_loopw [9,11] (fun s9 s11 wr=>wU w1 (u.flat 0) out2 (· + a) 0 u.size s9 s11 wr) (fun _ v _=>u.size - (intOf v).toNat)
   case atStart=>exact⟨0,A9,n9,q9,Za _,Zj _,rfl,rfl,Hbr.out,by simpa using Hfo.out⟩
   case round=>
    obtain⟨k,A9,n9,q9,f3,a5,rfl,rfl,b0,a9⟩:=hrel;have a7:Hid (n9= (out2++ (((u).flat 0).take k |>.drop 0).map (Nd.mv (· + a))).length):=Qa (by obtain⟨_,_,e,_⟩:=a9.form;injection e);have Hbr:=Qa b0;have Hfo:=Qa a9;have a3:=b0.size;clear b0 a9
    by_cases hlt:k<u.size
    ·obtain⟨x,hx⟩:∃x,((u).flat 0)[k]?=some x:=⟨_,Zc (by rw[JV.flat_len];omega)⟩;have a2:=(f9.out.below Hbr.out (Za _));obtain⟨vn,vk,h1,h2,h3⟩:=a2.node hx;have c0:=h3 0 _ rfl;rw[Nat.add_zero] at c0;have c1:=h3 1 _ rfl;have c2:=h3 2 _ rfl;have c3:=h3 3 _ rfl;have c4:=h3 4 _ rfl;have c5:=h3 5 _ rfl;have c6:=h3 6 _ rfl;have c7:=h3 7 _ rfl;have Hx:=Qa (fW (lo:=0) (by omega) hx);obtain⟨q1,q2,q3⟩:=e5.out x (Zk hx);obtain⟨xk,xt,xx,⟨xn1,xn2,xn3⟩,xns,xks⟩:=x;have b4:=sV h1 h2 q1 q2 (· + a) (-1) (a:Int) q3 (xk:=xk) (xt:=xt) (xx:=xx) (xn1:=xn1) (xn2:=xn2) (xn3:=xn3)
     dsimp only at q1 q2
     obtain⟨Bn,bn,rfl,-,-,-⟩:=ah h1;obtain⟨Bk,bk,rfl,-,-,-⟩:=ah h2;simp only[aB] at c0 c1 c2 c3 c4 c5 c6 c7;have c9:=Qa b4;have hki:(k:Int)<u.size:=by omega
     have f5:k<u.size:=by omega
     clear h1 h2 h3 hx b4 a2 q3;go_wp2_with fail;(with_reducible refine c9.out.mono ?_);rintro e w2 ⟨An,cn,Ak,ck,rfl,a4,b2,a5⟩;have d3:=Qa a4;have b3:=Qa b2;have b8:=Qa a5;have a1:=a4.size;obtain⟨us,g1,g2,g3⟩:=Hfo.out.below a4 (Za _);rw[<-a7.out] at g1;have b6:n9<=2000000:=by rw[a7.out];simp;have:=b9.out;omega
     have a0:=ac w2 (.cells #[.int .i64 xk,.bool xt,.string xx,.bool xn1,.string xn2,.int .i64 xn3,.slice An xns.length cn,.slice Ak xks.length ck] 78);have a6:=Qa (g1.below' a0);have c8:=Qa (g2.mono fun _ _ h=>h.below a0 (Za _));have d2:=Qa g3;have d6:=Qa (ar w2 [.int .i64 xk,.bool xt,.string xx,.bool xn1,.string xn2,.int .i64 xn3,.slice An xns.length cn,.slice Ak xks.length ck] 78);clear c0 c1 c2 c3 c4 c5 c6 c7 a4 b2 a5 g1 g2 g3 a0;go_wp2_with (at_builtin;refine ju sf a6.out d6.out (by simp;omega) ?_ (h1:=(by intro u hu;simp at hu;rcases hu with rfl|rfl|rfl|rfl|rfl|rfl|rfl|rfl <;> rfl));intro v9 w5 p1 p2 p3;have b5:=Qa p1;have b1:=Qa p2;clear p1 p2 p3);obtain⟨A9',q9',rfl,-⟩:=ah b5.out;have a0:=ac w2 (.cells #[.int .i64 xk,.bool xt,.string xx,.bool xn1,.string xn2,.int .i64 xn3,.slice An xns.length cn,.slice Ak xks.length ck] 78);have b7:=bu.snoc (y:=⟨xk,xt,xx,⟨xn1,xn2,xn3⟩,xns,xks.map (· + a)⟩) a6.out a7.out c8.out d2.out ⟨_,_,by simp[aB],(b3.out.below a0 (Za _)).low (Zj _),(b8.out.below a0 (Za _)).low (Zj _)⟩ (fun g e=>Zb a3 (al b3.out e).1) b5.out b1.out;exact⟨⟨k+1,A9',n9+1,q9',by omega,by omega,by go_num,rfl,aL ((Hbr.out.trans (d3.out.mono a3)).alloc (Zb a3 a1) _) a6.out (Zb (Zb a3 a1) (by simp)) b1.out,by rw[Hx.out,List.map_append,<-List.append_assoc];exact b7⟩,by simp[intOf];omega⟩
    ·obtain rfl:u.size=k:=by omega
     obtain⟨wB,rfl⟩:∃wB:World,wB=wr:=⟨_,rfl⟩;obtain⟨out3,d9⟩:∃l:List Nd,(out2++ (((u.flat 0).take u.size).drop 0).map (Nd.mv (· + a)))=l:=⟨_,rfl⟩;have f8:=Qa d9;have e4:=Qa (show out3.length<=800000 by rw[<-d9];simp;have:=b9.out;omega);rw[d9] at Hfo;clear d9;go_wp2_with fail
     go_loopw [9,12] (fun s9 s12 wr=>wU w1 (j.flat 0) out3 (mP (a+x0.size) x0.size u.size) (a+x0.size) j.size s9 s12 wr) (fun _ v _=>j.size - (intOf v).toNat)
     case atStart=>exact⟨a+x0.size,A9,n9,q9,Za _,by omega,by go_num,rfl,Hbr.out,by rw[List.drop_eq_nil_of_le (by rw[List.length_take];omega)];simpa using Hfo.out⟩
     case round=>
      obtain⟨k,A9,n9,q9,f3,a5,rfl,rfl,b0,a9⟩:=hrel;have a7:Hid (n9= (out3++ (((j).flat 0).take k |>.drop (a+x0.size)).map (Nd.mv (mP (a+x0.size) x0.size u.size))).length):=Qa (by obtain⟨_,_,e,_⟩:=a9.form;injection e);have Hbr:=Qa b0;have Hfo:=Qa a9;have a3:=b0.size;clear b0 a9
      by_cases hlt:k<j.size
      ·obtain⟨x,hx⟩:∃x,((j).flat 0)[k]?=some x:=⟨_,Zc (by rw[JV.flat_len];omega)⟩;have a2:=(f4.out.below Hbr.out (Za _));obtain⟨vn,vk,h1,h2,h3⟩:=a2.node hx;have c0:=h3 0 _ rfl;rw[Nat.add_zero] at c0;have c1:=h3 1 _ rfl;have c2:=h3 2 _ rfl;have c3:=h3 3 _ rfl;have c4:=h3 4 _ rfl;have c5:=h3 5 _ rfl;have c6:=h3 6 _ rfl;have c7:=h3 7 _ rfl;have Hx:=Qa (fW (lo:=(a+x0.size)) (by omega) hx);obtain⟨q1,q2,q3⟩:=d5.out x (Zk hx);obtain⟨xk,xt,xx,⟨xn1,xn2,xn3⟩,xns,xks⟩:=x;have b4:=sV h1 h2 q1 q2 (mP (a+x0.size) x0.size u.size) ((a:Int)+x0.size) ((u.size:Int) - ((a:Int)+x0.size - a)) q3 (xk:=xk) (xt:=xt) (xx:=xx) (xn1:=xn1) (xn2:=xn2) (xn3:=xn3)
       dsimp only at q1 q2
       obtain⟨Bn,bn,rfl,-,-,-⟩:=ah h1;obtain⟨Bk,bk,rfl,-,-,-⟩:=ah h2;simp only[aB] at c0 c1 c2 c3 c4 c5 c6 c7;have c9:=Qa b4;have hki:(k:Int)<j.size:=by omega
       have f5:k<j.size:=by omega
       clear h1 h2 h3 hx b4 a2 q3;go_wp2_with fail;(with_reducible refine c9.out.mono ?_);rintro e w2 ⟨An,cn,Ak,ck,rfl,a4,b2,a5⟩;have d3:=Qa a4;have b3:=Qa b2;have b8:=Qa a5;have a1:=a4.size;obtain⟨us,g1,g2,g3⟩:=Hfo.out.below a4 (Za _);rw[<-a7.out] at g1;have b6:n9<=2000000:=by rw[a7.out];simp;have:=e4.out;omega
       have a0:=ac w2 (.cells #[.int .i64 xk,.bool xt,.string xx,.bool xn1,.string xn2,.int .i64 xn3,.slice An xns.length cn,.slice Ak xks.length ck] 78);have a6:=Qa (g1.below' a0);have c8:=Qa (g2.mono fun _ _ h=>h.below a0 (Za _));have d2:=Qa g3;have d6:=Qa (ar w2 [.int .i64 xk,.bool xt,.string xx,.bool xn1,.string xn2,.int .i64 xn3,.slice An xns.length cn,.slice Ak xks.length ck] 78);clear c0 c1 c2 c3 c4 c5 c6 c7 a4 b2 a5 g1 g2 g3 a0;go_wp2_with (at_builtin;refine ju sf a6.out d6.out (by simp;omega) ?_ (h1:=(by intro u hu;simp at hu;rcases hu with rfl|rfl|rfl|rfl|rfl|rfl|rfl|rfl <;> rfl));intro v9 w5 p1 p2 p3;have b5:=Qa p1;have b1:=Qa p2;clear p1 p2 p3);obtain⟨A9',q9',rfl,-⟩:=ah b5.out;have a0:=ac w2 (.cells #[.int .i64 xk,.bool xt,.string xx,.bool xn1,.string xn2,.int .i64 xn3,.slice An xns.length cn,.slice Ak xks.length ck] 78);have b7:=bu.snoc (y:=⟨xk,xt,xx,⟨xn1,xn2,xn3⟩,xns,xks.map (mP (a+x0.size) x0.size u.size)⟩) a6.out a7.out c8.out d2.out ⟨_,_,by simp[aB],(b3.out.below a0 (Za _)).low (Zj _),(b8.out.below a0 (Za _)).low (Zj _)⟩ (fun g e=>Zb a3 (al b3.out e).1) b5.out b1.out;exact⟨⟨k+1,A9',n9+1,q9',by omega,by omega,by go_num,rfl,aL ((Hbr.out.trans (d3.out.mono a3)).alloc (Zb a3 a1) _) a6.out (Zb (Zb a3 a1) (by simp)) b1.out,by rw[Hx.out,List.map_append,<-List.append_assoc];exact b7⟩,by simp[intOf];omega⟩
      ·obtain rfl:j.size=k:=by omega
       have e3:=Hfo.out;go_wp2_with fail;go_ret;refine⟨_,rfl,e2.out.trans (Hbr.out.mono e2.out.size),?_⟩;have h:=(e3.low e2.out.size).imp (Q:=(w.heap.size<= ·)) (fun g a _=>Zb e2.out.size a)
       rwa[<-f8.out,<-f6.out,<-Ho1.out,Du Hp.out] at h
inductive Ok (h:Prop) (T:ByteArray->Prop):JV->Prop
 |null:Ok h T (.mk 1 false es kr [] [])
 |bool (b:Bool):Ok h T (.mk 2 b es kr [] [])
 |num (d:Dc):d.digits.size<=6000+1->jS d->Ok h T (.mk 3 false es d [] [])
 |text (s:ByteArray):T s->Ok h T (.mk 4 false s kr [] [])
 |hole:h->Ok h T (.mk 7 false es kr [] [])
 |list (ks:List JV):(∀u∈ks,Ok h T u)->Ok h T (.mk 5 false es kr [] ks)
 |obj (ns:List ByteArray) (ks:List JV):ns.length=ks.length->(∀s∈ns,i6 s)->gO ns->(∀u∈ks,Ok h T u)->Ok h T (.mk 6 false es kr ns ks)
theorem Ok.of_good {h:Prop}{T:ByteArray->Prop}(hT:∀s,i6 s->T s)(g:cK gO j):Ok h T j:=by
 induction g with
 |null=>exact .null
 |bool b=>exact .bool b
 |num d hd hn=>exact .num d hd hn
 |text s hs=>exact .text s (hT s hs)
 |list ks _ ih=>exact .list ks ih
 |obj ns ks h1 h2 h3 _ ih=>exact .obj ns ks h1 h2 h3 ih
theorem Ok.put {h:Prop}{T:ByteArray->Prop}{u v:JV}{a:Nat}{w v':JV}(hp:ul u v p a w v')(hv:Ok h T v)(hu:Ok h T u):Ok h T v':=by
 induction hp with
 |here v p=>exact hu
 | @down k t x n ns pre post u0 u1 p a w hp ih=>
  have hk:∀ {l:List JV},(∀z∈pre++u0::post,Ok h T z)->∀z∈pre++u1::post,Ok h T z:=fun hz z hm=>by
   rcases List.mem_append.1 hm with hm|hm
   ·exact hz z (by simp[hm])
   ·rcases List.mem_cons.1 hm with rfl|hm
    ·exact ih (hz u0 (by simp))
    ·exact hz z (by simp[hm])
  generalize hl:pre++u0::post=l at hv
  cases hv with
  |null=>simp at hl
  |bool b=>simp at hl
  |num d hd hn=>simp at hl
  |text s hs=>simp at hl
  |hole e=>simp at hl
  |list ks hks=>subst hl;exact .list _ (hk (l:= []) hks)
  |obj ns' ks h1 h2 h3 hks=>subst hl;exact .obj _ _ (by simpa using h1) h2 h3 (hk (l:= []) hks)
theorem DT {h:Prop}{T:ByteArray->Prop}{v:JV}(g:Ok h T v):∀p,∀x∈v.flat p,x.names.length<=v.size:=by
 have key:∀ (ks:List JV),(∀u∈ks,∀p,∀x∈u.flat p,x.names.length<=u.size)->∀p,∀y∈JV.flats p ks,y.names.length<=JV.sizes ks:=by
  intro ks
  induction ks with
  |nil=>intro _ p y h;simp[JV.flats] at h
  |cons v vs ih=>
   intro hu p y h;simp only[JV.flats,List.mem_append] at h;simp only[JV.sizes];rcases h with h|h
   ·have:=hu v (by simp) p y h;omega
   ·have:=ih (fun u hm=>hu u (Zl _ hm)) (p+v.size) y h;omega
 induction g with
 |null|bool b|num d _ _|text s _|hole _=>intro p x hx;simp[JV.flat,JV.flats,aV] at hx;subst hx;simp
 |list ks hks ih=>
  intro p x hx;simp only[JV.flat,List.mem_cons] at hx;simp only[JV.size];rcases hx with rfl|hx
  ·simp
  ·have:=key ks ih (p+1) x hx;omega
 |obj ns ks hl h8 ha hks ih=>
  intro p x hx;simp only[JV.flat,List.mem_cons] at hx;simp only[JV.size];rcases hx with rfl|hx
  ·have:=kT ks
   show ns.length<=_;omega
  ·have:=key ks ih (p+1) x hx;omega
abbrev C6:JV:=.mk 7 false es kr [] []
theorem AZ {T:ByteArray->Prop}{a:Nat}(hf:dI w 0 v (j.flat 0))(hp:ul C6 j 0 a x0 j')(hj:Ok True T j)(hsz:j.size<=400000):Calls Tryz.prog 52 #[v,.int .i64 (a:Int)] w (pY w (j'.flat 0)):=by
 have Hf:=Qa hf;have a6:∀x∈j.flat 0,x.names.length<=1000000:=fun x hx=>Zb (DT hj 0 x hx) (by omega)
 have Hp:=Qa hp;have Hn:=Qa a6;clear hf hp hj a6;go_enter Tryz.func52,Tryz.ntmps52;go_wp2_with fail;refine(vQ w).mono ?_;rintro e w1 ⟨vh,rfl,a2,a4⟩;have a0:=Qa a2;have a7:=Qa a4;clear a2 a4;go_wp2_with fail;refine(CU (u:=C6) (Hf.out.below a0.out (Za _)) ((a7.out.flat).low (Zj _)) Hp.out hsz (by decide) Hn.out (fun x hx=>by simp[JV.flat,JV.flats,aV] at hx;subst hx;simp)).mono ?_;rintro e w2 ⟨v2,rfl,a3,a5⟩;have a1:=Qa (show pY w (j'.flat 0) (.returned v2) w2 from⟨v2,rfl,a0.out.trans (a3.mono a0.out.size),(a5.low a0.out.size).imp (fun g a _=>Zb a0.out.size a)⟩);clear a3 a5;go_wp2_with fail;go_ret;exact a1.out
def iV (p:Int):Value:=.int .i64 p
def D9 (T:ByteArray->Prop)(w:World)(B n:Nat)(s0 s5:Value)(wr:World):Prop:= ∃ (i:Nat) (j:JV) (A:Option Addr) (m q:Nat),s5 =.int .i64 i/\i<=20/\s0 =.slice A m q/\bu (B<= ·) wr B (.slice A m q) (j.flat 0)/\Ok True T j/\j.size<=n/\Below w.heap.size w wr
def F9 (T:ByteArray->Prop)(w:World)(B n:Nat)(e:Ending)(w':World):Prop:= ∃ (j:JV) (A:Option Addr) (m q:Nat),e =.returned (.slice A m q)/\bu (B<= ·) w' B (.slice A m q) (j.flat 0)/\Ok True T j/\j.size<=n/\Below w.heap.size w w'
theorem xM {T:ByteArray->Prop}{vp:Value}{ps:List Int}(hB:B<=w.heap.size)(hf:bu (B<= ·) w B v (j.flat 0))(hj:Ok True T j)(hsz:j.size<=400000)(hp:Sl w vp (ps.map iV))(b9:∀p∈ps,-9223372036854775808<=p/\p<=9223372036854775807) :
  Calls Tryz.prog 28 #[v,vp] w (F9 T w B j.size):=by
 obtain⟨A,q,rfl,-,d1,-⟩:=hf.form;obtain⟨hm,Ap,cp,rfl,c9,a7⟩:=id hp;rw[List.length_map] at hm c9 a7 ⊢;have c4:=Qa a7;have Hf:=Qa hf;have Hj:=Qa hj;have c7:=Qa b9;clear hf hj hp b9 a7;go_enter Tryz.func28,Tryz.ntmps28;go_wp2_with fail
 go_loopw [0,5,6] (fun s0 s5 _ wr=>D9 T w B j.size s0 s5 wr) (fun _ v _ _=>20 - (intOf v).toNat)
 case atStart=>exact⟨0,j,A,_,q,rfl,by omega,rfl,Hf.out,Hj.out,Za _,Zd _ _⟩
 case round=>
  obtain⟨i,jc,A0,n0,q0,rfl,hi,rfl,b3,b4,b6,hb⟩:=hrel;have c6:n0=jc.size:=by obtain⟨_,_,e,_⟩:=b3.form;injection e with _ e;rw[e,JV.flat_len]
  subst c6;have a9:=Qa b3;have a5:=Qa b4;have Hb:=Qa hb;have c8:=jc.size_pos;have a1:=hb.size;clear b3 b4 hb
  by_cases hip:i<ps.length
  ·by_cases hi20:i<20
   ·obtain⟨gp,op,rfl,b7⟩:=c4.out (by omega);obtain⟨p,a6⟩:∃s,ps[i]?=some s:=⟨_,Zc hip⟩;have cpc:=Zf Hb.out (b7 i (iV p) (by rw[List.getElem?_map,a6];rfl));unfold iV at cpc;obtain⟨b1,b2⟩:=c7.out p (Zk a6);obtain⟨r,hr⟩:∃r,Int.tmod p (jc.size:Int)=r:=⟨_,rfl⟩;have d0: -(jc.size:Int)<r/\r<jc.size:=by
     rw[<-hr];have h1:=Int.lt_tmod_of_pos p (show(0:Int)<jc.size by omega);have h2:=Int.tmod_lt_of_pos p (show(0:Int)<jc.size by omega);omega
    obtain⟨m,d2⟩:∃m:Nat,Int.tmod (r+jc.size) (jc.size:Int)=m:=⟨(Int.tmod (r+jc.size) (jc.size:Int)).toNat,by
     have:=Int.tmod_nonneg (jc.size:Int) (show 0<=r+ (jc.size:Int) by omega);omega⟩
    have c1:m<jc.size:=by have h2:=Int.tmod_lt_of_pos (r+jc.size) (show(0:Int)<jc.size by omega);omega
    obtain⟨x0,hs⟩:=yY jc 0 m (Zj _) (by omega);obtain⟨j',a2⟩:=ul.of_sits hs C6;have a0:=Qa a2;have a4:(i:Int)<ps.length:=by omega
    have a3:(i:Int)<20:=by omega
    have b8:(0:Int)<jc.size:=by omega
    clear b7 a6 hs a2;go_wp2_with fail;refine(AZ (a9.out.flat.low (Zj _)) a0.out a5.out (by omega)).mono ?_;rintro e w2 ⟨v2,rfl,c0,b0⟩;obtain⟨A2,q2,rfl,-⟩:=b0.form;have b5:B<=wr.heap.size:=Zb hB a1;have c5:=Qa ((b0.low b5).imp (Q:=(B<= ·)) (fun g a _=>Zb b5 a));have c2:=Qa (Hb.out.trans (c0.mono a1));have c3:=Qa a0.out.size;have d3:=x0.size_pos;clear c0 b0;go_wp2_with fail;exact⟨⟨i+1,j',A2,_,q2,by go_num,by omega,rfl,c5.out,Ok.put a0.out a5.out (.hole trivial),by have:=c3.out;simp only[JV.size,JV.sizes] at this;omega,c2.out⟩,by simp[intOf];omega⟩
   ·have a3:¬ (i:Int)<20:=by omega
    have a4:(i:Int)<ps.length:=by omega
    go_wp2_with fail;go_ret;exact⟨jc,A0,_,q0,rfl,a9.out,a5.out,b6,Hb.out⟩
  ·have a4:¬ (i:Int)<ps.length:=by omega
   go_wp2_with fail;go_ret;exact⟨jc,A0,_,q0,rfl,a9.out,a5.out,b6,Hb.out⟩
def cv (P:Nat->Prop)(w:World)(e:TypeId)(k:Nat)(A:Option Addr)(n c:Nat)(xs:List Value):Prop:=
 xs.length=n*k/\n<=c/\c<=maxLen/\(0<n->∃g,A=some ⟨g,0,none⟩/\P g/\∃cur:Array Value,w.heap[g]?=some (.cells cur e (0,0))/\cur.toList.take (n*k)=xs)
def zT (ns:List ByteArray)(us:List Value):List Value:=(ns.zip us).flatMap fun p=> [.string p.1,p.2]
inductive VW (P:Nat->Prop) (w:World):Value->JV->Prop
 |null:VW P w (.iface 58 (.agg #[])) (.mk 1 false es ⟨false,es,0⟩ [] [])
 |bool (b:Bool):VW P w (.iface 59 (.bool b)) (.mk 2 b es ⟨false,es,0⟩ [] [])
 |num (d:Dc):VW P w (.iface 127 (.agg #[.bool d.neg,.string d.digits,.int .i64 d.exp])) (.mk 3 false es d [] [])
 |text (s:ByteArray):VW P w (.iface 40 (.string s)) (.mk 4 false s ⟨false,es,0⟩ [] [])
 |hole:VW P w (.iface 54 (.agg #[])) (.mk 7 false es ⟨false,es,0⟩ [] [])
 |bare:VW P w (.iface 57 (.pointer none)) (.mk 5 false es ⟨false,es,0⟩ [] [])
 |list (g:Nat) (A:Option Addr) (c:Nat) (us:List Value) (ks:List JV):P g->w.heap[g]?=some (.cells #[.slice A us.length c] 173 (0,0))->cv P w 32 1 A us.length c us->us.length=ks.length->
   (∀ (i:Nat) u k,us[i]?=some u->ks[i]?=some k->VW P w u k)->VW P w (.iface 57 (.pointer (some ⟨g,0,none⟩))) (.mk 5 false es ⟨false,es,0⟩ [] ks)
 |obj (g:Nat) (A:Option Addr) (c:Nat) (us:List Value) (ns:List ByteArray) (ks:List JV):P g->w.heap[g]?=some (.cells #[.slice A us.length c] 178 (0,0))->cv P w 111 2 A us.length c (zT ns us)->us.length=ks.length->ns.length=ks.length->
   (∀ (i:Nat) u k,us[i]?=some u->ks[i]?=some k->VW P w u k)->VW P w (.iface 130 (.pointer (some ⟨g,0,none⟩))) (.mk 6 false es ⟨false,es,0⟩ ns ks)
section
variable {P Q:Nat->Prop}{w w':World}{v:Value}{j:JV}
theorem cv.stay {k:Nat}{xs:List Value}(h:cv P w e k A n c xs)(hs:∀g o,P g->w.heap[g]?=some o->o.isCells=true->(∃cs z,o =.cells cs e z)->Q g/\w'.heap[g]?=some o):cv Q w' e k A n c xs:=by
 obtain⟨h1,h2,h3,h4⟩:=h;refine⟨h1,h2,h3,fun h0=>?_⟩;obtain⟨g,e1,hp,cur,hg,ht⟩:=h4 h0;obtain⟨hq,hw⟩:=hs g _ hp hg rfl ⟨_,_,rfl⟩;exact⟨g,e1,hq,cur,hw,ht⟩
def TV (e:TypeId):Prop:=e=173\/e=178\/e=32\/e=111
theorem VW.stay (h:VW P w v j)(hs:∀g o,P g->w.heap[g]?=some o->(∃cs e z,o =.cells cs e z/\TV e)->Q g/\w'.heap[g]?=some o):VW Q w' v j:=by
 induction h with
 |null=>exact .null
 |bool b=>exact .bool b
 |num d=>exact .num d
 |text s=>exact .text s
 |hole=>exact .hole
 |bare=>exact .bare
 |list g A c us ks hp hg hr hl _ ih=>
  obtain⟨h1,h2⟩:=hs g _ hp hg ⟨_,_,_,rfl,.inl rfl⟩;exact .list g A c us ks h1 h2 (hr.stay fun g o a b _ ⟨cs,z,e⟩=>hs g o a b ⟨cs,_,z,e,.inr (.inr (.inl rfl))⟩) hl (fun i u k h1 h2=>ih i u k h1 h2)
 |obj g A c us ns ks hp hg hr hl hn _ ih=>
  obtain⟨h1,h2⟩:=hs g _ hp hg ⟨_,_,_,rfl,.inr (.inl rfl)⟩;exact .obj g A c us ns ks h1 h2 (hr.stay fun g o a b _ ⟨cs,z,e⟩=>hs g o a b ⟨cs,_,z,e,.inr (.inr (.inr rfl))⟩) hl hn (fun i u k h1 h2=>ih i u k h1 h2)
theorem VW.imp (h:VW P w v j)(hq:∀g,P g->g<w.heap.size->Q g):VW Q w v j:=h.stay fun g _ hp hg _=>⟨hq g hp (ae hg),hg⟩
theorem VW.later (h:VW P w v j)(hb:Below w.heap.size w w'):VW P w' v j:=h.stay fun g _ hp hg _=>⟨hp,(hb.block g (ae hg)).trans hg⟩
theorem VW.keeps (h:VW P w v j)(hk:aJ T w w')(hT:∀e,TV e->¬T e):VW P w' v j:=h.stay fun g _ hp hg ⟨cs,e,z,ho,he⟩=>⟨hp,by subst ho;exact hk.2 g cs e z hg (hT e he)⟩
theorem VW.grown {row:Option Nat}(h:VW P w v j)(hg:w.grownBy w' row)(hr:∀g,row=some g->¬P g):VW P w' v j:=h.stay fun g _ hp hh _=>⟨hp,(hg.block g (ae hh) (fun e=>hr g e.symm hp)).trans hh⟩
theorem VW.set (h:VW P w v j){p:Addr}(u:Value)(hr:¬P p.block):VW P (w.setCell p u) v j:=h.stay fun g _ hp hh _=>⟨hp,(Below.heap_setCell w p u g (by rintro rfl;exact hr hp)).trans hh⟩
theorem VW.drewN (h:VW P w v j)(m:Nat):VW P (w.drewN m) v j:=h.stay fun _ _ hp hg _=>⟨hp,hg⟩
theorem VW.iface (h:VW P w v j):∃t x,v =.iface t x:=by cases h <;> exact⟨_,_,rfl⟩
theorem cv.of_own {k:Nat}{xs:List Value}(h:w.ownsRow base e k (.slice A n c) n xs):cv (base<= ·) w e k A n c xs:=by
 obtain⟨h1,⟨e1,h0⟩|⟨g,cap,cur,e1,hb,hg,h2,h3,h4,h5⟩⟩:=h
 ·obtain⟨rfl,rfl,rfl⟩:=Value.slice.inj e1;exact⟨h1,Za _,Zj _,fun h=>absurd h (Nat.lt_irrefl _)⟩
 ·obtain⟨rfl,-,rfl⟩:=Value.slice.inj e1;exact⟨h1,h2,h3,fun _=>⟨g,rfl,hb,cur,hg,h5⟩⟩
theorem cv.cell {k:Nat}{xs:List Value}(h:cv P w e k (some ⟨g,0,none⟩) n c xs)(j:Nat)(hj:j<n*k):w.cell? ⟨g,j,none⟩=xs[j]?:=by
 obtain⟨h1,-,-,h4⟩:=h;obtain⟨g',e1,-,cur,hg,ht⟩:=h4 (by rcases Nat.eq_zero_or_pos n with h|h;subst h;omega;exact h);obtain rfl:g=g':=by injection e1 with e1;injection e1
 rw[<-ht,List.getElem?_take_of_lt hj];simp[World.cell?,hg]
theorem cv.ptr {k:Nat}{xs:List Value}(h:cv P w e k A n c xs)(hn:0<n):∃g,A=some ⟨g,0,none⟩/\P g:=by
 obtain⟨-,-,-,h4⟩:=h;obtain⟨g,h1,h2,-⟩:=h4 hn;exact⟨g,h1,h2⟩
end
theorem zH:∀ (ns:List ByteArray) (us:List Value) (i:Nat) (n:ByteArray) (u:Value),ns[i]?=some n->us[i]?=some u->(zT ns us)[i*2]?=some (.string n)/\(zT ns us)[i*2+1]?=some u
 | [],_,i,n,u,h,_=>by simp at h
 |_::_, [],i,n,u,_,h=>by simp at h
 |a::ns,b::us,0,n,u,h1,h2=>by simp at h1 h2;subst h1 h2;exact⟨rfl,rfl⟩
 |a::ns,b::us,i+1,n,u,h1,h2=>by
  have ih:=zH ns us i n u (by simpa using h1) (by simpa using h2);rw[show(i+1)*2=i*2+2 by omega];exact ih
theorem uc (w:World):Calls Tryz.prog 82 #[.pointer none] w fun e w'=>e =.returned (.int .i64 0)/\w=w':=by
 go_enter Tryz.func82,Tryz.ntmps82;go_wp2_with fail;go_ret;exact⟨rfl,rfl⟩
theorem mx (hg:w.heap[g]?=some (.cells #[.slice A n c] 173 (0,0))):Calls Tryz.prog 82 #[.pointer (some ⟨g,0,none⟩)] w fun e w'=>e =.returned (.int .i64 n)/\w=w':=by
 have c0:w.cell? ⟨g,0,none⟩=some (.slice A n c):=aa hg (j:=0) rfl;clear hg;go_enter Tryz.func82,Tryz.ntmps82;go_wp2_with fail;go_ret;exact⟨rfl,rfl⟩
theorem nW (hg:w.heap[g]?=some (.cells #[.slice A n c] 178 (0,0))):Calls Tryz.prog 84 #[.pointer (some ⟨g,0,none⟩)] w fun e w'=>e =.returned (.int .i64 n)/\w=w':=by
 have c0:w.cell? ⟨g,0,none⟩=some (.slice A n c):=aa hg (j:=0) rfl;clear hg;go_enter Tryz.func84,Tryz.ntmps84;go_wp2_with fail;go_ret;exact⟨rfl,rfl⟩
theorem xS (hg:w.heap[g]?=some (.cells #[.slice A n c] 173 (0,0)))(hr:cv P w 32 1 A n c us)(i:Nat)(hi:i<n)(hu:us[i]?=some u) :
  Calls Tryz.prog 103 #[.pointer (some ⟨g,0,none⟩),.int .i64 i] w fun e w'=>e =.returned (.tuple #[u,.bool true])/\w=w':=by
 have c0:w.cell? ⟨g,0,none⟩=some (.slice A n c):=aa hg (j:=0) rfl;obtain⟨b,rfl,-⟩:=hr.ptr (by omega);have c1:=hr.cell i (by omega);rw[hu] at c1;have hm:=hr.2.2.1;unfold maxLen at hm;have Hl:=Qa (mx hg);clear hg hr hu;have h0:¬ (i:Int)<0:=by omega
 have h1:(i:Int)<n:=by omega
 go_enter Tryz.func103,Tryz.ntmps103;go_wp2_with fail;(with_reducible refine Hl.out.mono ?_);rintro e w' ⟨rfl,rfl⟩;go_wp2_with fail;go_ret2;exact⟨rfl,rfl⟩
theorem DX:Tryz.prog.underlying 32=some (.interface (Tryz.prog.methodsAt 32)):=by kernel_rfl
theorem rB (w:World)(t:TypeId)(x:Value):(binOp .eql 32 .nilIface (.iface t x)).run Tryz.prog w =.ok (.bool false) w:=run_eql_iface_nil_left w t x DX
theorem sB (w:World)(t:TypeId)(x:Value):(binOp .eql 32 (.iface t x) .nilIface).run Tryz.prog w =.ok (.bool false) w:=run_eql_held_nil w _ t x DX
theorem yZ:dE 39 32 .nilIface 1 16:=⟨Tryz.underlying39,by kernel_rfl,rfl,by decide⟩
theorem zx:dE 102 111 (.agg #[.string ByteArray.empty,.nilIface]) 2 32:=⟨Tryz.underlying102,by kernel_rfl,rfl,by decide⟩
def zd (k:Nat)(w:World)(v:Value)(n:Nat)(us:List Value):Prop:=us.length=n*k/\n<=9223372036854775807/\∃A c,v =.slice A n c/\n<=c/\(0<n->∃g o,A=some ⟨g,o,none⟩/\∀i u,us[i]?=some u->w.cell? ⟨g,o+i,none⟩=some u)
theorem Sl.k (h:Sl w v us):zd 1 w v us.length us:=⟨by omega,h.1,h.2⟩
theorem zd.below {k:Nat}(h:zd k w v n us)(hb:Below w.heap.size w w'):zd k w' v n us:=by
 obtain⟨h1,h2,A,c,e,hc,hA⟩:=h;refine⟨h1,h2,A,c,e,hc,fun h0=>?_⟩;obtain⟨g,o,e,a0⟩:=hA h0;exact⟨g,o,e,fun i u hu=>Zf hb (a0 i u hu)⟩
theorem zd.of_own {k:Nat}(h:w.ownsRow base e k v n us):zd k w v n us:=by
 obtain⟨A,c,rfl,hc,hm,hA⟩:=ah h;refine⟨h.1,by unfold maxLen at hm;omega,A,c,rfl,hc,fun h0=>?_⟩;obtain⟨g,rfl⟩:=hA h0;refine⟨g,0,rfl,fun i u hu=>?_⟩;have hi:=(List.getElem?_eq_some_iff.1 hu).1;rw[Nat.zero_add,World.ownsRow.cellAt h i (by rw[<-h.1];exact hi)];exact hu
theorem ip {t:TypeId}{k:Nat}(E:dE t e z k B){ops:Array Oper}{rest:List Oper}{o:Oper}{a:Act}{Q:Exit->Act->World->Prop}(a5:o.guard=none)(s x:Operand)
  (ho:o.op =.call {callee:=.builtin .append,args:= #[s,x],argTypes:= #[t,t]})
  (base:Nat) (v:Value) (n:Nat) (ad:Addr) (c m:Nat) (us news:List Value) (hs:a.eval s=v) (a1:w.ownsRow base e k v n us) (hx:a.eval x =.slice (some ad) m c) (a3:zd k w (.slice (some ad) m c) m news)
  (h1:∀u∈news,u.oneCell'=true) (hlen:n+m<=maxLen) (hby:(n+m)*B<=140737488355328) (a0:base<=w.heap.size)
  (h:∀v' w',w'.ownsRow base e k v' (n+m) (us++news)->w.grownBy w' v.ownBlock->(v'.ownBlock=v.ownBlock\/v'.ownBlock=some w.heap.size)->wpList Tryz.prog ops Q rest (a.put o.dst v') w'):wpList Tryz.prog ops Q (o::rest) a w:=by
 refine wpList_plain a5 fun K hK=>?_
 obtain⟨i0,hi,a9,a6,a4⟩:=info_parts E.hi;obtain⟨hl,_,A,c',e',_,hA⟩:=a3;injection e' with e1 e2 e3
 subst e1;obtain⟨v',w',a2,h2,h3,_,h5⟩:=run_append_own_at (P:=Tryz.prog) w base t o.type e i0 z k B E.ht hi a9 a6 a4 E.hz E.h0 v n us a1 ad m c news
  hl (fun j y hy=>by
   have hj:=(List.getElem?_eq_some_iff.1 hy).1;have hm:0<m:=by rcases Nat.eq_zero_or_pos m with h0|h0;(· subst h0;rw[hl] at hj;omega);exact h0
   obtain⟨g,off,e',a7⟩:=hA hm;obtain rfl:=Zh e';rw[Addr.add_lit];exact a7 j y hy) h1 hlen hby a0
 unfold Oper.wp execOp;simp only[ho,resolve,invoke,builtin,Sem.run_bind,Sem.run_pure,Result.andThen_ok,List.map_toArray,List.map_cons,List.map_nil,hs,hx,a2];exact hK _ _ (h v' w' h2 h3 h5)
def ET (u:Value):Prop:= ∃t v,u =.iface t v
theorem ET.one (h:ET u):u.oneCell'=true:=by obtain⟨t,v,rfl⟩:=h;rfl
def Gq (us:List Value)(w:World)(s8:Value)(wr:World):Prop:= ∃k:Nat,k<=us.length/\s8 =.int .i64 k/\w=wr
theorem vR (hv:Sl w v us)(hu:∀u∈us,ET u):Calls Tryz.prog 121 #[v,.nilIface] w fun e w'=>e =.returned (.int .i64 (-1))/\w=w':=by
 obtain⟨hm,A,cap,rfl,hc,hA⟩:=id hv;have HA:=Qa hA;have Hu:=Qa hu;clear hv hA hu;go_enter Tryz.func121,Tryz.ntmps121;go_wp2_with fail
 go_loopw [5,8] (fun _ s8 wr=>Gq us w s8 wr) (fun _ i _=>us.length - (intOf i).toNat)
 case atStart=>exact⟨0,Zj _,rfl,rfl⟩
 case round=>
  obtain⟨k,hk,rfl,rfl⟩:=hrel
  by_cases hlt:k<us.length
  ·obtain⟨g,o,rfl,a1⟩:=HA.out (by omega);obtain⟨u,hu⟩:∃s,us[k]?=some s:=⟨_,Zc hlt⟩;have cu:=a1 k u hu;have a0:=Qa (Zk hu);clear a1 hu;obtain⟨t,x,rfl⟩:=Hu.out u a0.out;have q1:=rB w t x;go_wp2_with fail;exact⟨⟨k+1,by omega,by go_num,rfl⟩,by simp[intOf];omega⟩
  ·obtain rfl:k=us.length:=by omega
   go_wp2_with fail;go_ret;exact⟨rfl,rfl⟩
theorem nB (hv:Sl w v us)(hu:∀u∈us,ET u):Calls Tryz.prog 90 #[v,.nilIface] w fun e w'=>e =.returned (.bool false)/\w=w':=by
 obtain⟨hm,A,cap,rfl,hc,hA⟩:=id hv;have Hc:=Qa (vR hv hu);clear hv hA hu;go_enter Tryz.func90,Tryz.ntmps90;go_wp2_with fail;(with_reducible refine Hc.out.mono ?_);rintro e w' ⟨rfl,rfl⟩;go_wp2_with fail;go_ret;exact⟨rfl,rfl⟩
def F0 (e:TypeId)(k:Nat)(w:World)(n:Nat)(us:List Value)(ed:Ending)(w':World):Prop:= ∃A c,ed =.returned (.slice A n c)/\Below w.heap.size w w'/\w'.ownsRow w.heap.size e k (.slice A n c) n us
theorem pt (hv:zd 1 w v n us)(hu:∀u∈us,u.oneCell'=true)(hn:n<=4294967296):Calls Tryz.prog 33 #[v] w (F0 32 1 w n us):=by
 obtain⟨hl,hm,A,cap,rfl,hc,hA⟩:=id hv;have Hv:=Qa hv;have Hu:=Qa hu;have Hl:=Qa hl;have hq:=fun (w:World) (a:Option Addr) (n c n' c':Nat)=>Lib.run_eql_slice_nil (P:=Tryz.prog) w _ _ a n c n' c' Tryz.underlying39
 cases A with
 |none=>
  have h0:n=0:=by
   rcases Nat.eq_zero_or_pos n with h0|h0
   ·exact h0
   ·obtain⟨_,_,e,_⟩:=hA h0;cases e
  subst h0;clear hv hu hl hA;go_enter Tryz.func33,Tryz.ntmps33;go_wp2_with fail;go_ret;have h0:=Hl.out;rw[Nat.zero_mul] at h0;obtain rfl:=List.eq_nil_of_length_eq_zero h0;exact⟨none,0,rfl,Zd _ _,⟨by simp,.inl ⟨rfl,rfl⟩⟩⟩
 |some ad=>
  clear hv hu hl hA;go_enter Tryz.func33,Tryz.ntmps33;go_wp2_with (at_builtin;refine ip yZ rfl (.tmp 5) (.tmp 6) rfl w.heap.size (.slice (some ⟨w.heap.size,0,none⟩) 0 0) 0 ad cap n [] us (by simp[Act.eval]) (dM (Ze w _) (Za _) (by unfold maxLen;omega) (by simp)) (by simp[Act.eval]) (Hv.out.below (ac _ _)) Hu.out (by unfold maxLen;omega) (by omega) (by simp) ?_;intro v' w1 h1 h2 h3;have Hp:=Qa h1;have Hg:=Qa h2;clear h1 h2 h3);go_ret;have ho:=Hp.out;rw[Nat.zero_add,List.nil_append] at ho;obtain⟨A',c',rfl,-⟩:=ah ho;exact⟨A',c',rfl,aL (ac w _) (dM (Ze w _) (Za _) (by unfold maxLen;omega) (by simp):(w.alloc (.cells #[] 32)).ownsRow w.heap.size 32 1 (.slice (some ⟨w.heap.size,0,none⟩) 0 0) 0 []) (by simp) Hg.out,ho⟩
theorem pm (hv:zd 2 w v n us)(hu:∀u∈us,u.oneCell'=true)(hn:n<=4294967296):Calls Tryz.prog 91 #[v] w (F0 111 2 w n us):=by
 obtain⟨hl,hm,A,cap,rfl,hc,hA⟩:=id hv;have Hv:=Qa hv;have Hu:=Qa hu;have Hl:=Qa hl;have hq:=fun (w:World) (a:Option Addr) (n c n' c':Nat)=>Lib.run_eql_slice_nil (P:=Tryz.prog) w _ _ a n c n' c' Tryz.underlying102
 cases A with
 |none=>
  have h0:n=0:=by
   rcases Nat.eq_zero_or_pos n with h0|h0
   ·exact h0
   ·obtain⟨_,_,e,_⟩:=hA h0;cases e
  subst h0;clear hv hu hl hA;go_enter Tryz.func91,Tryz.ntmps91;go_wp2_with fail;go_ret;have h0:=Hl.out;rw[Nat.zero_mul] at h0;obtain rfl:=List.eq_nil_of_length_eq_zero h0;exact⟨none,0,rfl,Zd _ _,⟨by simp,.inl ⟨rfl,rfl⟩⟩⟩
 |some ad=>
  clear hv hu hl hA;go_enter Tryz.func91,Tryz.ntmps91;go_wp2_with (at_builtin;refine ip zx rfl (.tmp 5) (.tmp 6) rfl w.heap.size (.slice (some ⟨w.heap.size,0,none⟩) 0 0) 0 ad cap n [] us (by simp[Act.eval]) (dM (Ze w _) (Za _) (by unfold maxLen;omega) (by simp)) (by simp[Act.eval]) (Hv.out.below (ac _ _)) Hu.out (by unfold maxLen;omega) (by omega) (by simp) ?_;intro v' w1 h1 h2 h3;have Hp:=Qa h1;have Hg:=Qa h2;clear h1 h2 h3);go_ret;have ho:=Hp.out;rw[Nat.zero_add,List.nil_append] at ho;obtain⟨A',c',rfl,-⟩:=ah ho;exact⟨A',c',rfl,aL (ac w _) (dM (Ze w _) (Za _) (by unfold maxLen;omega) (by simp):(w.alloc (.cells #[] 111)).ownsRow w.heap.size 111 2 (.slice (some ⟨w.heap.size,0,none⟩) 0 0) 0 []) (by simp) Hg.out,ho⟩
def Is (w:World)(n:Nat)(us:List Value)(e:Ending)(w':World):Prop:= ∃g A c,e =.returned (.tuple #[.pointer (some ⟨g,0,none⟩),.nilIface])/\Below w.heap.size w w'/\w.heap.size<=g/\w'.heap[g]?=some (.cells #[.slice A n c] 173 (0,0))/\cv (w.heap.size<= ·) w' 32 1 A n c us
theorem mC (hv:Sl w v us)(hu:∀u∈us,ET u)(hn:us.length<=4294967296):Calls Tryz.prog 54 #[v] w (Is w us.length us):=by
 obtain⟨hm,A,cap,rfl,hc,hA⟩:=id hv;have Hc:=Qa (nB hv hu);have Hk:=Qa (pt hv.k (fun u h=>(hu u h).one) hn);clear hv hA hu;go_enter Tryz.func54,Tryz.ntmps54;go_wp2_with fail;(with_reducible refine Hc.out.mono ?_);rintro e w' ⟨rfl,rfl⟩;go_wp2_with fail;(with_reducible refine Hk.out.mono ?_);rintro e w1 ⟨A1,c1,rfl,hb,ho⟩;have Ho:=Qa ho;have Hb:=Qa hb;clear ho hb;go_wp2_with fail;go_ret2;exact⟨w1.heap.size,A1,c1,rfl,bE Hb.out (ac _ _),Hb.out.size,Ze _ _,(cv.of_own Ho.out).stay fun g o hp hg _ _=>⟨hp,(Below.heap_alloc _ _ _ (ae hg)).trans hg⟩⟩
theorem rg {t:TypeId}{k:Nat}(E:dE t e z k B)(base:Nat)(v:Value)(n g c m:Nat)(us news:List Value)(a0:w.ownsRow base e k v n us)(hl:news.length=m*k)
  (hg:∀j u,news[j]?=some u->w.cell? ⟨g,j,none⟩=some u) (h1:∀u∈news,u.oneCell'=true) (hm:0<m)
  (hlen:n+m<=maxLen) (hby:(n+m)*B<=140737488355328) (a1:base<=w.heap.size) :
  ∃v' w',(Builtin.append_ #[t,t] ty #[v,.slice (some ⟨g,0,none⟩) m c]).run Tryz.prog w =.ok v' w'/\w'.ownsRow base e k v' (n+m) (us++news)/\w.grownBy w' v.ownBlock/\(v'.ownBlock=v.ownBlock\/v'.ownBlock=some w.heap.size)/\w.drawn<=w'.drawn:=by
 obtain⟨i0,hi,a5,b1,b0⟩:=info_parts E.hi;have a4:∀j u,news[j]?=some u->w.cell? ((⟨g,0,none⟩:Addr).add j)=some u:=fun j y hy=>by
  have:=hg j y hy;unfold Addr.add
  split
  ·rename_i h0;subst h0;exact this
  ·simpa using this
 obtain⟨v',w',hr,h2,h3,_,h5⟩:=run_append_own_at (P:=Tryz.prog) w base t ty e i0 z k B E.ht hi a5 b1 b0 E.hz E.h0 v n us a0 ⟨g,0,none⟩ m c news hl a4 h1 hlen hby a1;refine⟨v',w',hr,h2,h3,h5,?_⟩;have a7:n+m<=9223372036854775807:=by simp only[maxLen] at hlen;omega
 subst b1;subst b0;rcases a0.2 with ⟨rfl,rfl⟩|⟨b,cap,cur,rfl,b5,hb,b3,b4,b2,a9⟩
 ·have a3:=Go.run_append_nil (P:=Tryz.prog) w t ty e i0 z E.ht hi a5 ⟨g,0,none⟩ m c news hl a4 hm (by omega) (by simp only[Nat.zero_add] at hby;omega);rw[a3] at hr;injection hr with _ e
  rw[<-e];exact Nat.le_succ _
 ·by_cases hroom:n+m<=cap
  ·have a6:n*i0.size+news.length<=cur.size:=by rw[hl,b2,<-Nat.add_mul];exact Nat.mul_le_mul_right _ hroom
   have a3:=run_append_room (P:=Tryz.prog) w t ty e i0 E.ht hi b n cap cur hb ⟨g,0,none⟩ m c news hl a4 h1 hroom a6;rw[a3] at hr;injection hr with _ e
   rw[<-e];exact Za _
  ·have a2:∀j u,us[j]?=some u->w.cell? ((⟨b,0,none⟩:Addr).add j)=some u:=a0.cells (g:=b) rfl;have a3:=run_append_grow (P:=Tryz.prog) w t ty e i0 z E.ht hi a5 ⟨b,0,none⟩ n cap us a0.1 a2 ⟨g,0,none⟩ m c news hl a4 (by omega) (by omega) (growslice_fits (by omega) hby);rw[a3] at hr;injection hr with _ e
   rw[<-e];exact Nat.le_succ _
structure bX (w w':World):Prop where
 b:Below w.heap.size w w'
 d:w.drawn<=w'.drawn
theorem bX.refl (w:World):bX w w:=⟨Zd _ _,Za _⟩
theorem bX.trans {a b c:World}(h:bX a b)(k:bX b c):bX a c:=⟨bE h.b k.b,Zb h.d k.d⟩
theorem bX.drewN (w:World)(m:Nat):bX w (w.drewN m):=⟨az (Zd _ _) m,Nat.le_add_right _ _⟩
theorem bX.alloc (w:World)(o:Obj):bX w (w.alloc o):=⟨ac w o,Za _⟩
theorem bX.grow (h:bX w w'):∃q os,w'=Go.Sort.grow (w.drewN q) os:=by
 obtain⟨⟨h1,h2,h3,h4,h5⟩,h6⟩:=h;refine⟨w'.drawn - w.drawn,w'.heap.extract w.heap.size w'.heap.size,?_⟩;obtain⟨hp,tp,dr,o,out⟩:=w;obtain⟨a0,tp',dr',o',out'⟩:=w';simp only at h1 h2 h3 h4 h5 h6;subst h1 h2 h3;have e:a0=hp++a0.extract hp.size a0.size:=by
  apply Array.ext
  ·simp;omega
  ·intro i a1 a2
   by_cases h:i<hp.size
   ·have:=h5 i h;rw[Array.getElem?_eq_getElem a1,Array.getElem?_eq_getElem h] at this;rw[Array.getElem_append_left h];exact Zh this
   ·rw[Array.getElem_append_right (by omega)];simp only[Array.getElem_extract]
    congr 1;omega
 have e2:dr'=dr+ (dr' - dr):=by omega
 unfold Go.Sort.grow World.drewN;simp only;rw[<-e,<-e2]
def ga (L:List (ByteArray×Value)):List Value:=L.flatMap fun p=> [.string p.1,p.2]
theorem kM:∀L:List (ByteArray×Value),(ga L).length=L.length*2
 | []=>rfl
 |p::L=>by have:=kM L;simp only[ga,List.flatMap_cons,List.length_append,List.length_cons,List.length_nil] at this ⊢;omega
theorem rj:∀ (L:List (ByteArray×Value)) (i:Nat) (p:ByteArray×Value),L[i]?=some p->(ga L)[i*2]?=some (.string p.1)/\(ga L)[i*2+1]?=some p.2
 | [],i,p,h=>by simp at h
 |a::L,0,p,h=>by simp at h;subst h;exact⟨rfl,rfl⟩
 |a::L,i+1,p,h=>by
  have ih:=rj L i p (by simpa using h);rw[show(i+1)*2=i*2+2 by omega];exact ih
def II (w:World)(g:Nat)(L:List (ByteArray×Value)):Prop:= ∀ (i:Nat) (p:ByteArray×Value),L[i]?=some p->w.cell? ⟨g,i*2,none⟩=some (.string p.1)/\w.cell? ⟨g,i*2+1,none⟩=some p.2
theorem II.below (h:II w g L)(hb:Below w.heap.size w w'):II w' g L:=fun i p hp=>⟨Zf hb (h i p hp).1,Zf hb (h i p hp).2⟩
def xW (w:World)(base:Nat)(v:Value)(L:List (ByteArray×Value)):Prop:=w.ownsRow base 111 2 v L.length (ga L)
theorem xW.read (h:xW w base (.slice (some ⟨g,0,none⟩) n q) L):II w g L:=by
 intro i p hp;have hi:=(List.getElem?_eq_some_iff.1 hp).1;obtain⟨_,_,e,_,_,_⟩:=ah h;obtain⟨_,rfl,_⟩:=Value.slice.inj e;obtain⟨f1,f2⟩:=rj L i p hp
 constructor
 ·rw[aA h rfl (i*2) (by omega),f1]
 ·rw[aA h rfl (i*2+1) (by omega),f2]
def FY (x y:List Int):Prop:= ∃p a b s t,x=p++a::s/\y=p++b::t/\a≠b
def Pf (x y:List Int):Prop:=x=y\/FY x y
theorem FY.app {x:List Int}(h:FY x y)(s t:List Int):FY (x++s) (y++t):=by
 obtain⟨p,a,b,u,v,rfl,rfl,hne⟩:=h;exact⟨p,a,b,u++s,v++t,by simp,by simp,hne⟩
theorem FY.pre {x:List Int}(h:FY x y)(q:List Int):FY (q++x) (q++y):=by
 obtain⟨p,a,b,u,v,rfl,rfl,hne⟩:=h;exact⟨q++p,a,b,u,v,by simp,by simp,hne⟩
theorem Pf.app {x s t:List Int}(h:Pf x y)(h2:Pf s t):Pf (x++s) (y++t):=by
 rcases h with rfl|h
 ·rcases h2 with rfl|h2
  ·exact .inl rfl
  ·exact .inr (h2.pre _)
 ·exact .inr (h.app _ _)
theorem Pf.head {a b:Int}{s t:List Int}(h:a=b->Pf s t):Pf (a::s) (b::t):=by
 by_cases e:a=b
 ·subst e;exact Pf.app (x:= [a]) (y:= [a]) (.inl rfl) (h rfl)
 ·exact .inr ⟨[],a,b,s,t,rfl,rfl,e⟩
theorem aZ (a b:Int)(x y:List Int):ay (a::x) (b::y)=if a<b then -1 else if b<a then 1 else ay x y:=by
 conv=>lhs;unfold ay
theorem nR (q x y:List Int):ay (q++x) (q++y)=ay x y:=by
 induction q with
 |nil=>rfl
 |cons a q ih=>show ay (a:: (q++x)) (a:: (q++y))=_;rw[aZ,if_neg (by omega),if_neg (by omega),ih]
theorem tV {x:List Int}(h:FY x y)(s t:List Int):ay (x++s) (y++t)=ay x y/\ay x y≠0:=by
 obtain⟨p,a,b,u,v,rfl,rfl,hne⟩:=h;rw[List.append_assoc,List.append_assoc,nR,nR];simp only[List.cons_append,aZ]
 by_cases h1:a<b
 ·simp[h1]
 ·have h2:b<a:=by omega
  simp[h1,h2]
theorem n7 {x:List Int}(h:Pf x y)(s t:List Int):ay (x++s) (y++t)=if ay x y=0 then ay s t else ay x y:=by
 rcases h with rfl|h
 ·rw[nR,fD,if_pos rfl]
 ·obtain⟨h1,h2⟩:=tV h s t;rw[h1,if_neg h2]
theorem yD:∀ {x y:List Int},(∀c∈x,0<=c)->(∀c∈y,0<=c)->Pf (x ++ [-1]) (y ++ [-1])/\ay (x ++ [-1]) (y ++ [-1])=ay x y
 | [], [],_,_=>⟨.inl rfl,rfl⟩
 | [],b::y,_,hy=>by
  have:=hy b (by simp);refine⟨Pf.head fun e=>by omega,?_⟩
  show ay (-1:: []) (b:: (y ++ [-1])) = -1
  rw[aZ,if_pos (by omega)]
 |a::x, [],hx,_=>by
  have:=hx a (by simp);refine⟨Pf.head fun e=>by omega,?_⟩
  show ay (a:: (x ++ [-1])) (-1:: [])=1
  rw[aZ,if_neg (by omega),if_pos (by omega)]
 |a::x,b::y,hx,hy=>by
  have ih:=yD (x:=x) (y:=y) (fun c h=>hx c (Zl _ h)) (fun c h=>hy c (Zl _ h));refine⟨Pf.head fun _=>ih.1,?_⟩
  show ay (a:: (x ++ [-1])) (b:: (y ++ [-1]))=ay (a::x) (b::y)
  rw[aZ,aZ,ih.2]
theorem kx:∀ (f:Nat) (xs:List UInt8),∀c∈fi dD f xs,0<=c
 |0,_,c,h=>by simp[fi] at h
 |_+1, [],c,h=>by simp[fi] at h
 |f+1,x::t,c,h=>by
  unfold fi at h
  split at h
  ·rcases List.mem_cons.1 h with rfl|h
   ·exact Int.natCast_nonneg _
   ·exact kx f _ c h
  ·rcases List.mem_cons.1 h with rfl|h
   ·unfold dD;omega
   ·exact kx f _ c h
theorem qH (s:ByteArray):∀c∈nm s,0<=c:=kx _ _
def pI (s:ByteArray):List Int:=nm s ++ [-1]
theorem mV (s t:ByteArray):Pf (pI s) (pI t):=(yD (qH s) (qH t)).1
theorem uL (s t:ByteArray):ay (pI s) (pI t)=ay (nm s) (nm t):=(yD (qH s) (qH t)).2
theorem uQ {s t:ByteArray}(h:pI s=pI t):s=t:=Ed (List.append_cancel_right h)
def fY (d:Dc):Int:=if d.digits= ⟨#[48]⟩ then 0 else if d.neg then -1 else 1
def kZ (s:Int):List UInt8->List Int
 | []=> [0]
 |c::l=>s* (c.toNat+1)::kZ s l
def ey (d:Dc):List Int:=if fY d=0 then [0] else fY d::fY d* (d.digits.size+d.exp)::kZ (fY d) d.digits.data.toList
theorem zo {s:Int}(hs:s≠0):∀ (l m:List UInt8),Pf (kZ s l) (kZ s m)
 | [], []=>.inl rfl
 | [],c::m=>Pf.head fun e=>by
  have:=(Int.mul_eq_zero.1 e.symm).resolve_left hs;omega
 |c::l, []=>Pf.head fun e=>by
  have:=(Int.mul_eq_zero.1 e).resolve_left hs;omega
 |c::l,d::m=>Pf.head fun _=>zo hs l m
theorem tL {s:Int}(hs:s≠0):∀ {l m:List UInt8},kZ s l=kZ s m->l=m
 | [], [],_=>rfl
 | [],c::m,e=>by
  simp only[kZ,List.cons.injEq] at e;have:=(Int.mul_eq_zero.1 e.1.symm).resolve_left hs;omega
 |c::l, [],e=>by
  simp only[kZ,List.cons.injEq] at e;have:=(Int.mul_eq_zero.1 e.1).resolve_left hs;omega
 |c::l,d::m,e=>by
  simp only[kZ,List.cons.injEq] at e;have h1:=Int.eq_of_mul_eq_mul_left hs e.1;rw[tL hs e.2,show c=d from UInt8.toNat_inj.1 (by omega)]
theorem fH (d:Dc):fY d=0\/fY d = -1\/fY d=1:=by unfold fY;split;exact .inl rfl;split;exact .inr (.inl rfl);exact .inr (.inr rfl)
theorem Fg (a b:Dc):Pf (ey a) (ey b):=by
 unfold ey
 by_cases ha:fY a=0
 ·rw[if_pos ha]
  by_cases hb:fY b=0
  ·rw[if_pos hb];exact .inl rfl
  ·rw[if_neg hb];exact Pf.head fun e=>absurd e.symm hb
 ·rw[if_neg ha]
  by_cases hb:fY b=0
  ·rw[if_pos hb];exact Pf.head fun e=>absurd e ha
  ·rw[if_neg hb];exact Pf.head fun e=>Pf.head fun _=>by rw[e];exact zo hb _ _
def rI (d:Dc):Prop:=d.digits= ⟨#[48]⟩->d= ⟨false,⟨#[48]⟩,0⟩
theorem BN {a b:Dc}(ha:rI a)(hb:rI b)(h:ey a=ey b):a=b:=by
 unfold ey at h
 by_cases h1:fY a=0
 ·rw[if_pos h1] at h
  by_cases h2:fY b=0
  ·have e1:a.digits= ⟨#[48]⟩:=by unfold fY at h1;split at h1;assumption;split at h1 <;> simp at h1
   have e2:b.digits= ⟨#[48]⟩:=by unfold fY at h2;split at h2;assumption;split at h2 <;> simp at h2
   rw[ha e1,hb e2]
  ·rw[if_neg h2] at h;injection h with h;exact absurd h.symm h2
 ·rw[if_neg h1] at h
  by_cases h2:fY b=0
  ·rw[if_pos h2] at h;injection h with h;exact absurd h h1
  ·rw[if_neg h2] at h;injection h with e1 h
   injection h with e2 e3
   rw[e1] at e2 e3;have hd:a.digits=b.digits:=by
    have:=tL h2 e3
    cases ha':a.digits with|mk x=>cases hb':b.digits with|mk y=>rw[ha',hb'] at this;simp at this;rw[this]
   have hx:=Int.eq_of_mul_eq_mul_left h2 e2;have hn:a.neg=b.neg:=by
    unfold fY at e1 h1 h2
    split at h1
    ·exact absurd rfl h1
    ·split at h2
     ·exact absurd rfl h2
     ·rename_i g1 g2
      rw[if_neg g1,if_neg g2] at e1
      revert e1;cases a.neg <;> cases b.neg <;> simp
   obtain⟨an,ad,ax⟩:=a;obtain⟨bn,bd,bx⟩:=b;simp only at hd hn hx;subst hd hn;rw[show ax=bx by omega]
mutual
/-- What stands for a value. -/
def JV.key:JV->List Int
 | .mk k t x n ns ks=>k:: (if k=2 then [if t then 1 else 0] else if k=3 then ey n else if k=4 then pI x else JV.keys (k=6) ns ks)
def JV.keys:Bool->List ByteArray->List JV->List Int
 |_,_, []=> [0]
 |o,ns,v::vs=>1:: ((if o then pI (ns.headD ⟨#[]⟩) else [])++ (JV.key v++JV.keys o ns.tail vs))
end
theorem xe {us:List JV}(h:∀u∈us,∀w:JV,Pf u.key w.key)(o:Bool):∀ (ns ms:List ByteArray) (ws:List JV),Pf (JV.keys o ns us) (JV.keys o ms ws):=by
 induction us with
 |nil=>
  intro ns ms ws
  cases ws with
  |nil=>exact .inl rfl
  |cons w ws=>exact Pf.head fun e=>by omega
 |cons u us ih=>
  intro ns ms ws
  cases ws with
  |nil=>exact Pf.head fun e=>by omega
  |cons w ws=>
   refine Pf.head fun _=>Pf.app ?_ ((h u (by simp) w).app (ih (fun u hu=>h u (Zl _ hu)) ..))
   cases o
   ·exact .inl rfl
   ·exact mV _ _
theorem yq (u:JV):∀w:JV,Pf u.key w.key:=by
 refine JV.ind (P:=fun u=> ∀w:JV,Pf u.key w.key) (fun k t x n ns ks ih w=>?_) u;obtain⟨k',t',x',n',ns',ks'⟩:=w;unfold JV.key;refine Pf.head fun e=>?_
 subst e
 by_cases h2:k=2
 ·rw[if_pos h2,if_pos h2];exact Pf.head fun _=>.inl rfl
 ·rw[if_neg h2,if_neg h2]
  by_cases h3:k=3
  ·rw[if_pos h3,if_pos h3];exact Fg _ _
  ·rw[if_neg h3,if_neg h3]
   by_cases h4:k=4
   ·rw[if_pos h4,if_pos h4];exact mV _ _
   ·rw[if_neg h4,if_neg h4];exact xe ih _ _ _ _
def cX (u w:JV):Int:=ay u.key w.key
theorem qh {k k':Int}{t:Bool}{x:ByteArray}{n:Dc}(h:k≠k'):cX (.mk k t x n ns ks) (.mk k' t' x' n' ns' ks')=if k<k' then -1 else 1:=by
 unfold cX JV.key;rw[aZ]
 by_cases h1:k<k'
 ·rw[if_pos h1,if_pos h1]
 ·rw[if_neg h1,if_neg h1,if_pos (by omega)]
theorem pO (t t':Bool)(x x':ByteArray)(n n':Dc)(ns ns':List ByteArray)(ks ks':List JV):cX (.mk 2 t x n ns ks) (.mk 2 t' x' n' ns' ks')=if t=t' then 0 else if t then 1 else -1:=by
 unfold cX JV.key
 cases t <;> cases t' <;> rfl
theorem uV (t t':Bool)(x x':ByteArray)(n n':Dc)(ns ns':List ByteArray)(ks ks':List JV):cX (.mk 3 t x n ns ks) (.mk 3 t' x' n' ns' ks')=ay (ey n) (ey n'):=by
 unfold cX JV.key;rw[aZ,if_neg (by omega),if_neg (by omega)];simp
theorem qw (t t':Bool)(x x':ByteArray)(n n':Dc)(ns ns':List ByteArray)(ks ks':List JV):cX (.mk 4 t x n ns ks) (.mk 4 t' x' n' ns' ks')=ay (nm x) (nm x'):=by
 unfold cX JV.key;rw[aZ,if_neg (by omega),if_neg (by omega)];simp[uL]
theorem eH {k:Int}(h2:k≠2)(h3:k≠3)(h4:k≠4)(t t':Bool)(x x':ByteArray)(n n':Dc)(ns ns':List ByteArray)(ks ks':List JV):cX (.mk k t x n ns ks) (.mk k t' x' n' ns' ks')=ay (JV.keys (k=6) ns ks) (JV.keys (k=6) ns' ks'):=by
 unfold cX JV.key;rw[aZ,if_neg (by omega),if_neg (by omega)];simp[h2,h3,h4]
theorem pQ (ns ns':List ByteArray)(u w:JV)(us ws:List JV):ay (JV.keys false ns (u::us)) (JV.keys false ns' (w::ws))=if cX u w=0 then ay (JV.keys false ns.tail us) (JV.keys false ns'.tail ws) else cX u w:=by
 conv=>lhs;unfold JV.keys
 rw[aZ,if_neg (by omega),if_neg (by omega)];simp only[Bool.false_eq_true,if_false,List.nil_append];exact n7 (yq u w) _ _
theorem ur (a b:ByteArray)(ns ns':List ByteArray)(u w:JV)(us ws:List JV):ay (JV.keys true (a::ns) (u::us)) (JV.keys true (b::ns') (w::ws))=if ay (nm a) (nm b)=0 then(if cX u w=0 then ay (JV.keys true ns us) (JV.keys true ns' ws) else cX u w) else ay (nm a) (nm b):=by
 conv=>lhs;unfold JV.keys
 rw[aZ,if_neg (by omega),if_neg (by omega)];simp only[if_true,List.headD_cons,List.tail_cons];rw[n7 (mV a b),n7 (yq u w),uL];rfl
theorem ig (o:Bool)(ns ns':List ByteArray)(us ws:List JV)(h:us = []\/ws = []):ay (JV.keys o ns us) (JV.keys o ns' ws)=if us.length<ws.length then -1 else if ws.length<us.length then 1 else 0:=by
 cases us with
 |nil=>
  cases ws with
  |nil=>simp[JV.keys,ay]
  |cons w ws=>simp[JV.keys,ay]
 |cons u us=>
  obtain rfl:ws = []:=by simpa using h
  simp[JV.keys,ay]
inductive Vl:JV->Prop
 |null:Vl (.mk 1 false ⟨#[]⟩ ⟨false,⟨#[]⟩,0⟩ [] [])
 |bool (b:Bool):Vl (.mk 2 b ⟨#[]⟩ ⟨false,⟨#[]⟩,0⟩ [] [])
 |num (d:Dc):rI d->Vl (.mk 3 false ⟨#[]⟩ d [] [])
 |text (s:ByteArray):Vl (.mk 4 false s ⟨false,⟨#[]⟩,0⟩ [] [])
 |hole:Vl (.mk 7 false ⟨#[]⟩ ⟨false,⟨#[]⟩,0⟩ [] [])
 |list (ks:List JV):(∀u∈ks,Vl u)->Vl (.mk 5 false ⟨#[]⟩ ⟨false,⟨#[]⟩,0⟩ [] ks)
 |obj (ns:List ByteArray) (ks:List JV):ns.length=ks.length->(∀u∈ks,Vl u)->Vl (.mk 6 false ⟨#[]⟩ ⟨false,⟨#[]⟩,0⟩ ns ks)
theorem Pf.split {x s t:List Int}(h:Pf x y)(e:x++s=y++t):x=y/\s=t:=by
 rcases h with rfl|h
 ·exact⟨rfl,List.append_cancel_left e⟩
 ·have h1:=tV h s t;rw[e,fD] at h1;exact absurd h1.1.symm h1.2
theorem tY {us:List JV}(h:∀u∈us,∀w:JV,Vl w->u.key=w.key->u=w)(o:Bool):∀ (ns ms:List ByteArray) (ws:List JV),(∀w∈ws,Vl w)->JV.keys o ns us=JV.keys o ms ws->us=ws/\(o=true->ns.length=us.length->ms.length=ws.length->ns=ms):=by
 induction us with
 |nil=>
  intro ns ms ws hw e
  cases ws with
  |nil=>exact⟨rfl,fun _ h1 h2=>by rw[List.eq_nil_of_length_eq_zero h1,List.eq_nil_of_length_eq_zero h2]⟩
  |cons w ws=>simp[JV.keys] at e
 |cons u us ih=>
  intro ns ms ws hw e
  cases ws with
  |nil=>simp[JV.keys] at e
  |cons w ws=>
   simp only[JV.keys,List.cons.injEq,true_and] at e;have hp:Pf (if o then pI (ns.headD ⟨#[]⟩) else []) (if o then pI (ms.headD ⟨#[]⟩) else []):=by
    cases o
    ·exact .inl rfl
    ·exact mV _ _
   obtain⟨e1,e2⟩:=hp.split e;obtain⟨e3,e4⟩:=(yq u w).split e2;obtain rfl:=h u (by simp) w (hw w (by simp)) e3;obtain⟨rfl,h5⟩:=ih (fun u hu=>h u (Zl _ hu)) _ _ ws (fun w h=>hw w (Zl _ h)) e4;refine⟨rfl,fun ho h1 h2=>?_⟩;subst ho
   cases ns with
   |nil=>simp at h1
   |cons a ns=>
    cases ms with
    |nil=>simp at h2
    |cons b ms=>
     simp only[if_true,List.headD_cons] at e1;have h6:ns=ms:=h5 rfl (by simpa using h1) (by simpa using h2);rw[uQ e1,h6]
theorem Vl.inj {u:JV}(hu:Vl u):∀w:JV,Vl w->u.key=w.key->u=w:=by
 induction hu with
 |null=>intro w hw e;cases hw <;> simp[JV.key] at e ⊢
 |bool b=>intro w hw e;cases hw <;> simp[JV.key] at e ⊢;rename_i c;cases b <;> cases c <;> simp at e ⊢
 |num d hd=>
  intro w hw e
  cases hw with
  |num d' hd'=>simp[JV.key] at e;rw[BN hd hd' e]
  |null|bool|text|hole|list|obj=>simp[JV.key] at e
 |text s=>
  intro w hw e
  cases hw with
  |text s'=>simp[JV.key] at e;rw[uQ e]
  |null|bool|num|hole|list|obj=>simp[JV.key] at e
 |hole=>intro w hw e;cases hw <;> simp[JV.key] at e ⊢
 |list ks _ ih=>
  intro w hw e
  cases hw with
  |list ks' h'=>simp[JV.key] at e;rw[(tY ih false [] [] ks' h' e).1]
  |null|bool|num|hole|text|obj=>simp[JV.key] at e
 |obj ns ks hl _ ih=>
  intro w hw e
  cases hw with
  |obj ns' ks' hl' h'=>
   simp[JV.key] at e;obtain⟨h1,h2⟩:=tY ih true ns ns' ks' h' e;rw[h1,h2 rfl hl hl']
  |null|bool|num|hole|text|list=>simp[JV.key] at e
def Iv:Option JV->List Int
 |none=> [0]
 |some u=>u.key
def iU (a b:Option JV):Int:=ay (Iv a) (Iv b)
theorem Vl.kind {u:JV}(h:Vl u):1<=u.key.headD 0:=by cases h <;> simp[JV.key]
def cV (x:UInt8):Bool:=x==32||x==9||x==10||x==13
def dX (x:UInt8):Bool:=decide (97<=x.toNat/\x.toNat<=122\/65<=x.toNat/\x.toNat<=90)
def eI (x:UInt8):Bool:=decide (48<=x.toNat/\x.toNat<=57)
def Iw (x:UInt8):Bool:=x==44||x==58||x==91||x==93||x==123||x==125
def cD (x:UInt8):Nat:=if cV x then 1 else if Iw x then 2 else if dX x then 3 else if eI x||x==45 then 4 else if x==34 then 5 else 0
def bD (c:UInt8):Nat:=if c==45 then 0 else if c==43 then 1 else if c==48 then 2 else if decide (49<=c.toNat/\c.toNat<=57) then 3 else if c==46 then 4 else if c==101||c==69 then 5 else 6
def oO:List Nat:= [1,9,2,3,9,9,9,9,2,3,9,9,9,9,9,9,4,6,9,9,3,3,4,6,9,9,5,5,9,9,9,9,5,5,9,6,7,7,8,8,9,9,9,9,8,8,9,9,9,9,8,8,9,9]
def eQ (s k:Nat):Nat:=if k<6 then oO.getD (s*6+k) 9 else 9
structure NS where
 neg:Bool
 down:Bool
 digs:List UInt8
 part:Nat
 exps:List UInt8
 st:Nat
 n:Nat
def iE:NS:=⟨false,false, [],0, [],0,0⟩
def NS.next (t:NS)(c:UInt8):NS:=
 let s:=eQ t.st (bD c)
 {neg:=t.neg||s==1
  down:=if s=7 then c==45 else t.down
  digs:=if s=2\/s=3\/s=5 then t.digs ++ [c] else t.digs
  part:=if s=5 then t.part+1 else t.part
  exps:=if s=8 then t.exps ++ [c] else t.exps
  st:=s
  n:=t.n+1}
def aD:NS->List UInt8->NS
 |t, []=>t
 |t,c::xs=>if eQ t.st (bD c)=9 then t else aD (t.next c) xs
def ep (s:Nat):Bool:=s==2||s==3||s==5||s==8
def dT (l:List UInt8):List UInt8:=l.dropWhile (· == 48)
def oS (l:List UInt8):List UInt8:=(dT l.reverse).reverse
def jT (l:List UInt8):Nat:=l.foldl (fun a c=>a*10+ (c.toNat - 48)) 0
def f7 (t:NS):Int:=
 let e:=dT t.exps
 let n:Int:=if e.length<=12 then jT e else 1099511627776
 if t.down then -n else n
def oG (x:Int):Int:=max (-2199023255552) (min x 2199023255552)
def iT (neg:Bool)(digs:List UInt8)(exp more:Int):Option Dc:=
 let d:=dT digs
 if d = [] then some ⟨false,⟨#[48]⟩,0⟩ else
 let s:=oS d
 let x:=oG exp+more+ (d.length - s.length:Int)
 if -1000000000<=x/\x<=1000000000 then some ⟨neg,⟨s.toArray⟩,x⟩ else none
def o5 (xs:List UInt8):Option (Dc×Nat):=
 let t:=aD iE xs
 if ep t.st then(iT t.neg t.digs (f7 t) (-(t.part:Int))).map fun d=>(d,t.n) else none
def iJ (c:UInt8):Option Nat:=if 48<=c.toNat/\c.toNat<=57 then some (c.toNat - 48) else if 97<=c.toNat/\c.toNat<=102 then some (c.toNat - 87) else if 65<=c.toNat/\c.toNat<=70 then some (c.toNat - 55) else none
def cS:List UInt8->Option Nat
 |a::b::c::d::_=>do
  let a <-iJ a;let b <-iJ b;let c <-iJ c;let d <-iJ d
  return ((a*16+b)*16+c)*16+d
 |_=>none
def kB (xs:List UInt8):Option (Nat×Nat):=do
 let x <-cS xs
 if x<55296\/57343<x then return (x,6)
 match xs.drop 4 with
 |a::b::ys=>if x>56319\/a≠92\/b≠117 then none else do
  let y <-cS ys
  if y<56320\/57343<y then none else return (65536+ (x - 55296)*1024+ (y - 56320),12)
 |_=>none
def ti:List UInt8->Option (Nat×Nat)
 |98::_=>some (8,2)
 |116::_=>some (9,2)
 |110::_=>some (10,2)
 |102::_=>some (12,2)
 |114::_=>some (13,2)
 |34::_=>some (34,2)
 |92::_=>some (92,2)
 |47::_=>some (47,2)
 |117::xs=>kB xs
 |_=>none
def bW:List UInt8->Option (Option (Nat×Nat))
 | []=>none
 |x::xs=>if x=34 then some none else if x=92 then(ti xs).map some else if x.toNat<32 then none
  else if(bF (x::xs)).2.2=0 then some (some ((bF (x::xs)).1,(bF (x::xs)).2.1)) else none
def fZ:Nat->List UInt8->List UInt8->Nat->Option (List UInt8×Nat)
 |0,_,_,_=>none
 |f+1,xs,out,n=>match bW xs with
  |none=>none
  |some none=>some (out,n+1)
  |some (some (c,k))=>fZ f (xs.drop k) (out++bG c) (n+k)
def mT:List UInt8->Option (List UInt8×Nat)
 |34::xs=>fZ (xs.length+1) xs [] 1
 |_=>none
inductive sX where
 |mark (c:UInt8)
 |str (s:ByteArray)
 |leaf (j:JV)
def jY:JV:=.mk 1 false ⟨#[]⟩ ⟨false,⟨#[]⟩,0⟩ [] []
def fT (b:Bool):JV:=.mk 2 b ⟨#[]⟩ ⟨false,⟨#[]⟩,0⟩ [] []
def ef (d:Dc):JV:=.mk 3 false ⟨#[]⟩ d [] []
def eW (s:ByteArray):JV:=.mk 4 false s ⟨false,⟨#[]⟩,0⟩ [] []
def dU (ks:List JV):JV:=.mk 5 false ⟨#[]⟩ ⟨false,⟨#[]⟩,0⟩ [] ks
def mJ (ms:List (ByteArray×JV)):JV:=.mk 6 false ⟨#[]⟩ ⟨false,⟨#[]⟩,0⟩ (ms.map Prod.fst) (ms.map Prod.snd)
def vC (w:List UInt8):Option JV:=if w = [110,117,108,108] then some jY else if w = [116,114,117,101] then some (fT true) else if w = [102,97,108,115,101] then some (fT false) else none
def dC:List UInt8->Option (sX×Nat)
 | []=>none
 |x::xs=>match cD x with
  |2=>some (.mark x,1)
  |3=>(vC (x::xs.takeWhile dX)).map fun j=>(.leaf j,1+ (xs.takeWhile dX).length)
  |4=>(o5 (x::xs)).map fun p=>(.leaf (ef p.1),p.2)
  |5=>(mT (x::xs)).map fun p=>(.str ⟨p.1.toArray⟩,p.2)
  |_=>none
structure Fr where
 obj:Bool
 items:List JV
 mems:List (ByteArray×JV)
 name:Option ByteArray
structure dH where
 frs:List Fr
 want:Nat
 done:Option JV
def zQ (want:Nat)(c:UInt8):Bool:=(match want with
 |0=> [91,123]
 |1=> [91,123,93]
 |3=> [125]
 |4=> [58]
 |5=> [44,93]
 |6=> [44,125]
 |_=>([]:List UInt8)).contains c
def cW (frs:List Fr)(j:JV):dH:=match frs with
 | []=>⟨[],7,some j⟩
 |f::fs=>if f.obj then⟨{f with mems:=f.mems ++ [(f.name.getD ⟨#[]⟩,j)],name:=none}::fs,6,none⟩ else⟨{f with items:=f.items ++ [j]}::fs,5,none⟩
def sE (m:ByteArray×JV):List (ByteArray×JV)->List (ByteArray×JV)
 | []=> [m]
 |x::l=>if ay (nm m.1) (nm x.1)<0 then m::x::l else x::sE m l
def gw (l:List (ByteArray×JV)):List (ByteArray×JV):=l.foldr sE []
def dZ (f:Fr):JV:=if f.obj then mJ (gw f.mems) else dU f.items
def dV (c:dH):sX->Option dH
 | .mark x=>if zQ c.want x then
   (if x=91 then some ⟨⟨false, [], [],none⟩::c.frs,1,none⟩
   else if x=123 then some ⟨⟨true, [], [],none⟩::c.frs,3,none⟩
   else match c.frs with
    | []=>none
    |f::fs=>if x=93\/x=125 then some (cW fs (dZ f)) else if x=44 then some ⟨f::fs,if f.obj then 2 else 0,none⟩ else some ⟨f::fs,0,none⟩) else none
 | .str s=>if c.want=2\/c.want=3 then(match c.frs with
   | []=>none
   |f::fs=>if f.mems.any (fun p=>decide (p.1=s)) then none else some ⟨{f with name:=some s}::fs,4,none⟩)
  else if c.want=0\/c.want=1 then some (cW c.frs (eW s)) else none
 | .leaf j=>if c.want=0\/c.want=1 then some (cW c.frs j) else none
def CC:Nat->dH->List UInt8->Option JV
 |0,_,_=>none
 |f+1,c,xs=>match xs.dropWhile cV with
  | []=>if c.want=7 then c.done else none
  |y::ys=>match dC (y::ys) with
   |none=>none
   |some (t,n)=>match dV c t with
    |none=>none
    |some c'=>CC f c' ((y::ys).drop n)
def fp (xs:List UInt8):Option JV:=CC (xs.length+1) ⟨[],0,none⟩ xs
