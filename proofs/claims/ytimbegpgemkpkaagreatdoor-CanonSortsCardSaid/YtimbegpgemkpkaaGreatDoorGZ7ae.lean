import Derived.Test.YtimbegpgemkpkaaGreatDoorGZ7ad
import Derived.Lib.ItoaMem
set_option linter.unusedVariables false
set_option linter.unusedSimpArgs false
set_option maxHeartbeats 64000000
set_option maxRecDepth 100000
namespace Go.Proofs.YtimbegpgemkpkaaGreatDoor
open Go.Proofs.Tryz
open Go.RowKit
variable {t':Bool}{x':Nc}{d n':Dc}{j j' x0:JV}{L:List (Nc×Value)}{ns ns':List Nc}{y:List Int}{ks ks':List JV}{l xs xs' ys zs:Na}{us:Nb}{B base c g lo n p q want:Nat}{F P:Nat->Prop}{A:OA}{e ty:TypeId}{T:TypeId->Prop}{u v v' vk vn z:Value}{W W' w w':Wd}
theorem eN {α:Type}{l:List α}{k:Nat}{x:α}(h:lo<=k)(hx:l[k]?=some x):(l.take (k+1)).drop lo= (l.take k).drop lo ++ [x]:=by
 rw[cA hx,List.drop_append_of_le_length (by rw[List.length_take];have:=(List.getElem?_eq_some_iff.1 hx).1;omega)]
theorem bo.snoc {ns:List Nd}{us:List (Nb)}{y:Nd}(h1:W.ownsRow base 74 8 v n us.flatten)(hn:n=ns.length)(h2:bC (iE W) us ns)(h3:pB P us)(hy:iE W (aF y vn vk) y)(hv:∀g,vn.ownBlock=some g->P g)
  (h4:W'.ownsRow base 74 8 v' (n+1) (us.flatten++aF y vn vk)) (hg:W.grownBy W' v.ownBlock):bo P W' base v' (ns ++ [y]):=by
 subst hn;have ht:=cK h1;refine⟨us ++ [aF y vn vk],by rw[List.length_append,List.flatten_append];simpa using h4,(h2.mono fun _ _ h=>gL hg ht h).snoc (gL hg ht hy),fun u hu g e=>?_⟩;rcases List.mem_append.1 hu with hu|hu
 .exact h3 u hu g e
 .rw[List.mem_singleton] at hu;subst hu;exact hv g (by simpa [aF] using e)
def MY (w:Wd)(xk:Int)(xt:Bool)(xx:Nc)(xn1:Bool)(xn2:Nc)(xn3:Int)(xns:List Nc)(xks:List Nat)(f:Nat->Nat)(e:Ending)(w':Wd):Prop:= ∃ (An:OA) (cn:Nat) (Ak:OA) (ck:Nat),e =.returned (.agg #[(xk:Int),.bool xt,xx,.bool xn1,xn2,(xn3:Int),.slice An xns.length cn,.slice Ak xks.length ck])/\ge w w'/\cX w' w.heap.size (.slice An xns.length cn) xns/\bO w' w.heap.size (.slice Ak xks.length ck) (xks.map f)
theorem sO {xk:Int}{xt:Bool}{xx:Nc}{xn1:Bool}{xn2:Nc}{xn3:Int}{xns:List Nc}{xks:List Nat}(hn:cX w 0 vn xns)(hk:bO w 0 vk xks)(hnl:xns.length<=1000000)(hkl:xks.length<=1000000)(f:Nat->Nat)(from_ by_:Int)
  (hf:∀q∈xks,((f q:Nat):Int)= (if from_<=q then(q:Int)+by_ else q)/\q<=1000000/\f q<=2000000) :
  Calls prog 115 #[.agg #[(xk:Int),.bool xt,xx,.bool xn1,xn2,(xn3:Int),vn,vk],(from_:Int),(by_:Int)] w (MY w xk xt xx xn1 xn2 xn3 xns xks f):=
 (B0 (x:=⟨xk,xt,xx,⟨xn1,xn2,xn3⟩,xns,xks⟩) hn hk hnl hkl f from_ by_ hf).mono fun e w' ⟨An,cn,Ak,ck,he,hb,hs,hk⟩=>⟨An,cn,Ak,ck,by rw[he];simp[Nd.mv,aF],hb,hs,by simpa [Nd.mv] using hk⟩
def zA (w:Wd)(src:List Nd)(out:List Nd)(f:Nat->Nat)(lo hi:Nat)(s9 sI:Value)(wr:Wd):Prop:= ∃ (k:Nat) (A:OA) (n q:Nat),lo<=k/\k<=hi/\sI =(k:Int)/\s9 =.slice A n q/\ge w wr/\bo (w.heap.size<= ·) wr w.heap.size (.slice A n q) (out++ ((src.take k).drop lo).map (Nd.mv f))
theorem Ef {u:JV}{a:Nat}(h:uR u j 0 a x0 j'):(([]++ (((j.flat 0).take a).drop 0).map (Nd.mv (nW (a+x0.size) x0.size u.size)))++ (((u.flat 0).take u.size).drop 0).map (Nd.mv (· + a)))++ (((j.flat 0).take j.size).drop (a+x0.size)).map (Nd.mv (nW (a+x0.size) x0.size u.size))=j'.flat 0:=by
 obtain⟨A,B,e1,e2,e3⟩:=h.flat;have hA:A.length=a:=by omega
 have hu:((u.flat 0).take u.size).map (Nd.mv (· + a))=u.flat a:=by
  rw[List.take_of_length_le (by rw[JV.flat_len];exact Zb _)];exact AG u 0 a _ (fun q _ _=>by simp)
 have hj:(j.flat 0).take j.size=j.flat 0:=List.take_of_length_le (by rw[JV.flat_len];exact Zb _);rw[hj,List.drop_zero,List.drop_zero,hu,e3,e1];have t1:(A++x0.flat a++B).take a=A:=by rw[List.append_assoc,<-hA,List.take_left]
 have t2:(A++x0.flat a++B).drop (a+x0.size)=B:=by
  have:(A++x0.flat a).length=a+x0.size:=by rw[List.length_append,hA,JV.flat_len]
  rw[<-this,List.drop_left]
 rw[t1,t2];simp
theorem FH {vu:Value}{u:JV}{a:Nat}(hf:cS w 0 v (j.flat 0))(hu:cS w 0 vu (u.flat 0))(hp:uR u j 0 a x0 j')(hsz:j.size<=400000)(f8:u.size<=400000)
  (e6:∀x∈j.flat 0,x.names.length<=1000000) (f2:∀x∈u.flat 0,x.names.length<=1000000):Calls prog 84 #[v,(a:Int),vu] w (rU w (j'.flat 0)):=by
 obtain⟨A,cap,rfl,e3,hm,hA⟩:=hf.form;obtain⟨Au,capu,rfl,b7,f3,e8⟩:=hu.form;have hn:=j.size_pos;have g0:=u.size_pos;obtain⟨gt,rfl⟩:=hA (by rw[JV.flat_len];omega);obtain⟨gu,rfl⟩:=e8 (by rw[JV.flat_len];omega);have hend:=EX hf hp.sits (by omega);have g4:=hp.sits.bd;have f9:=x0.size_pos;have Hf:=Qa hf;have Hu:=Qa hu;rw[JV.flat_len] at e3 hm Hf hend b7 f3 Hu;rw[JV.flat_len j,JV.flat_len u];have d5:=Qa hend;have Hp:=Qa hp;have b9:Hid (∀x∈j.flat 0,x.names.length<=1000000/\x.kids.length<=1000000/\∀q∈x.kids,((nW (a+x0.size) x0.size u.size q:Nat):Int)= (if(a:Int)+x0.size<=q then(q:Int)+ ((u.size:Int) - ((a:Int)+x0.size - a)) else q)/\q<=1000000/\nW (a+x0.size) x0.size u.size q<=2000000):=Qa (fun x hx=>⟨e6 x hx,Zc (ow hx) (by omega),fun q hq=>by
  have:=oI j 0 x hx q hq;unfold nW
  by_cases h:a+x0.size<=q
  .rw[if_pos h,if_pos (by omega)];omega
  .rw[if_neg h,if_neg (by omega)];omega⟩)
 have e4:Hid (∀x∈u.flat 0,x.names.length<=1000000/\x.kids.length<=1000000/\∀q∈x.kids,(((· + a) q:Nat):Int)= (if(-1:Int)<=q then(q:Int)+ (a:Int) else q)/\q<=1000000/\(· + a) q<=2000000):=Qa (fun x hx=>⟨f2 x hx,Zc (ow hx) (by omega),fun q hq=>by
  have:=oI u 0 x hx q hq;rw[if_pos (by omega)];dsimp only;omega⟩)
 unfold maxLen at hm f3;clear hf hu hA e8 hend hp e6 f2;go_in;go_wp2_with fail;refine Za d5 ?_;rintro e w1 ⟨rfl,e1⟩;have d9:=Qa e1;have f4:=Qa (Hf.below e1 (Zb _));have f6:=Qa (Hu.below e1 (Zb _));clear e1 Hf Hu d5;obtain⟨out1,f0⟩:∃l:List Nd, []=l:=⟨_,rfl⟩;have Ho1:=Qa f0;have d3:=Qa (show out1.length<=0 by rw[<-f0];simp);go_wp2_with fail
 go_loopw [9,10] (fun s9 s10 wr=>zA w1 (j.flat 0) out1 (nW (a+x0.size) x0.size u.size) 0 a s9 s10 wr) (fun _ v _=>a - (intOf v).toNat)
 case atStart=>exact⟨0,none,0,0,Zk _,Zk _,rfl,rfl,Ze _ _,by rw[<-Ho1.out];exact⟨[],⟨rfl,.inl ⟨rfl,rfl⟩⟩,bC.nil _,fun u hu=>by simp at hu⟩⟩
 case round=>
  obtain⟨k,A9,n9,q9,f1,b0,rfl,rfl,a6,a7⟩:=hrel;have a5:Hid (n9= (out1++ (((j).flat 0).take k |>.drop 0).map (Nd.mv (nW (a+x0.size) x0.size u.size))).length):=Qa (by obtain⟨_,_,e,_⟩:=a7.form;injection e);have Hbr:=Qa a6;have Hfo:=Qa a7;have a3:=a6.size;clear a6 a7
  by_cases hlt:k<a
  .obtain⟨x,hx⟩:∃x,((j).flat 0)[k]?=some x:=⟨_,Zd (by rw[JV.flat_len];omega)⟩;have a1:=(f4.below Hbr (Zb _));obtain⟨vn,vk,h1,h2,h3⟩:=a1.node hx;have c0:=h3 0 _ rfl;rw[Nat.add_zero] at c0;have c1:=h3 1 _ rfl;have c2:=h3 2 _ rfl;have c3:=h3 3 _ rfl;have c4:=h3 4 _ rfl;have c5:=h3 5 _ rfl;have c6:=h3 6 _ rfl;have c7:=h3 7 _ rfl;have Hx:=Qa (eN (lo:=0) (by omega) hx);obtain⟨q1,q2,q3⟩:=b9 x (Zl hx);obtain⟨xk,xt,xx,⟨xn1,xn2,xn3⟩,xns,xks⟩:=x;have b4:=sO h1 h2 q1 q2 (nW (a+x0.size) x0.size u.size) ((a:Int)+x0.size) ((u.size:Int) - ((a:Int)+x0.size - a)) q3 (xk:=xk) (xt:=xt) (xx:=xx) (xn1:=xn1) (xn2:=xn2) (xn3:=xn3)
   dsimp only at q1 q2
   obtain⟨Bn,bn,rfl,-,-,-⟩:=ai h1;obtain⟨Bk,bk,rfl,-,-,-⟩:=ai h2;simp only[aF] at c0 c1 c2 c3 c4 c5 c6 c7;have d2:=Qa b4;have hki:(k:Int)<a:=by omega
   have e7:k<j.size:=by omega
   clear h1 h2 h3 hx b4 a1 q3;go_wp2_with fail;refine Za d2 ?_;rintro e w2 ⟨An,cn,Ak,ck,rfl,a4,b5,b0⟩;have d6:=Qa a4;have b6:=Qa b5;have d4:=Qa b0;have a2:=a4.size;obtain⟨us,g1,g2,g3⟩:=Hfo.below a4 (Zb _);rw[<-a5.out] at g1;have b3:n9<=2000000:=by rw[a5.out];simp;have:=d3.out;omega
   have a0:=aa w2 (.cells #[(xk:Int),.bool xt,xx,.bool xn1,xn2,(xn3:Int),.slice An xns.length cn,.slice Ak xks.length ck] 74);have a9:=Qa (g1.below' a0);have c9:=Qa (g2.mono fun _ _ h=>h.below a0 (Zb _));have b8:=Qa g3;have d1:=Qa (au w2 [(xk:Int),.bool xt,xx,.bool xn1,xn2,(xn3:Int),.slice An xns.length cn,.slice Ak xks.length ck] 74);clear c0 c1 c2 c3 c4 c5 c6 c7 a4 b5 b0 g1 g2 g3 a0;go_wp2_with (at_builtin;refine ir sG a9.out d1.out (by simp;omega) ?_ (h1:=(by intro u hu;simp at hu;rcases hu with rfl|rfl|rfl|rfl|rfl|rfl|rfl|rfl <;> rfl));intro v9 w5 p1 p2 p3;have b1:=Qa p1;have b2:=Qa p2;clear p1 p2 p3);obtain⟨A9',q9',rfl,-⟩:=ai b1.out;have a0:=aa w2 (.cells #[(xk:Int),.bool xt,xx,.bool xn1,xn2,(xn3:Int),.slice An xns.length cn,.slice Ak xks.length ck] 74);have d0:=bo.snoc (y:=⟨xk,xt,xx,⟨xn1,xn2,xn3⟩,xns,xks.map (nW (a+x0.size) x0.size u.size)⟩) a9.out a5.out c9.out b8.out ⟨_,_,by simp[aF],(b6.below a0 (Zb _)).low (Zk _),(d4.below a0 (Zb _)).low (Zk _)⟩ (fun g e=>Zc a3 (am b6 e).1) b1.out b2.out;exact⟨⟨k+1,A9',n9+1,q9',by omega,by omega,by go_num,rfl,aD ((Hbr.trans (d6.mono a3)).alloc (Zc a3 a2) _) a9.out (Zc (Zc a3 a2) (by simp)) b2.out,by rw[Hx.out,List.map_append,<-List.append_assoc];exact d0⟩,by simp[intOf];omega⟩
  .obtain rfl:a=k:=by omega
   obtain⟨wA,rfl⟩:∃wA:Wd,wA=wr:=⟨_,rfl⟩;obtain⟨out2,e0⟩:∃l:List Nd,(out1++ (((j.flat 0).take a).drop 0).map (Nd.mv (nW (a+x0.size) x0.size u.size)))=l:=⟨_,rfl⟩;have f7:=Qa e0;have c8:=Qa (show out2.length<=400000 by rw[<-e0];simp;have:=d3.out;omega);rw[e0] at Hfo;clear e0;go_wp2_with fail
   go_loopw [9,11] (fun s9 s11 wr=>zA w1 (u.flat 0) out2 (· + a) 0 u.size s9 s11 wr) (fun _ v _=>u.size - (intOf v).toNat)
   case atStart=>exact⟨0,A9,n9,q9,Zb _,Zk _,rfl,rfl,Hbr,by simpa using Hfo.out⟩
   case round=>
    obtain⟨k,A9,n9,q9,f1,b0,rfl,rfl,a6,a7⟩:=hrel;have a5:Hid (n9= (out2++ (((u).flat 0).take k |>.drop 0).map (Nd.mv (· + a))).length):=Qa (by obtain⟨_,_,e,_⟩:=a7.form;injection e);have Hbr:=Qa a6;have Hfo:=Qa a7;have a3:=a6.size;clear a6 a7
    by_cases hlt:k<u.size
    .obtain⟨x,hx⟩:∃x,((u).flat 0)[k]?=some x:=⟨_,Zd (by rw[JV.flat_len];omega)⟩;have a1:=(f6.below Hbr (Zb _));obtain⟨vn,vk,h1,h2,h3⟩:=a1.node hx;have c0:=h3 0 _ rfl;rw[Nat.add_zero] at c0;have c1:=h3 1 _ rfl;have c2:=h3 2 _ rfl;have c3:=h3 3 _ rfl;have c4:=h3 4 _ rfl;have c5:=h3 5 _ rfl;have c6:=h3 6 _ rfl;have c7:=h3 7 _ rfl;have Hx:=Qa (eN (lo:=0) (by omega) hx);obtain⟨q1,q2,q3⟩:=e4 x (Zl hx);obtain⟨xk,xt,xx,⟨xn1,xn2,xn3⟩,xns,xks⟩:=x;have b4:=sO h1 h2 q1 q2 (· + a) (-1) (a:Int) q3 (xk:=xk) (xt:=xt) (xx:=xx) (xn1:=xn1) (xn2:=xn2) (xn3:=xn3)
     dsimp only at q1 q2
     obtain⟨Bn,bn,rfl,-,-,-⟩:=ai h1;obtain⟨Bk,bk,rfl,-,-,-⟩:=ai h2;simp only[aF] at c0 c1 c2 c3 c4 c5 c6 c7;have d2:=Qa b4;have hki:(k:Int)<u.size:=by omega
     have e7:k<u.size:=by omega
     clear h1 h2 h3 hx b4 a1 q3;go_wp2_with fail;refine Za d2 ?_;rintro e w2 ⟨An,cn,Ak,ck,rfl,a4,b5,b0⟩;have d6:=Qa a4;have b6:=Qa b5;have d4:=Qa b0;have a2:=a4.size;obtain⟨us,g1,g2,g3⟩:=Hfo.below a4 (Zb _);rw[<-a5.out] at g1;have b3:n9<=2000000:=by rw[a5.out];simp;have:=c8.out;omega
     have a0:=aa w2 (.cells #[(xk:Int),.bool xt,xx,.bool xn1,xn2,(xn3:Int),.slice An xns.length cn,.slice Ak xks.length ck] 74);have a9:=Qa (g1.below' a0);have c9:=Qa (g2.mono fun _ _ h=>h.below a0 (Zb _));have b8:=Qa g3;have d1:=Qa (au w2 [(xk:Int),.bool xt,xx,.bool xn1,xn2,(xn3:Int),.slice An xns.length cn,.slice Ak xks.length ck] 74);clear c0 c1 c2 c3 c4 c5 c6 c7 a4 b5 b0 g1 g2 g3 a0;go_wp2_with (at_builtin;refine ir sG a9.out d1.out (by simp;omega) ?_ (h1:=(by intro u hu;simp at hu;rcases hu with rfl|rfl|rfl|rfl|rfl|rfl|rfl|rfl <;> rfl));intro v9 w5 p1 p2 p3;have b1:=Qa p1;have b2:=Qa p2;clear p1 p2 p3);obtain⟨A9',q9',rfl,-⟩:=ai b1.out;have a0:=aa w2 (.cells #[(xk:Int),.bool xt,xx,.bool xn1,xn2,(xn3:Int),.slice An xns.length cn,.slice Ak xks.length ck] 74);have d0:=bo.snoc (y:=⟨xk,xt,xx,⟨xn1,xn2,xn3⟩,xns,xks.map (· + a)⟩) a9.out a5.out c9.out b8.out ⟨_,_,by simp[aF],(b6.below a0 (Zb _)).low (Zk _),(d4.below a0 (Zb _)).low (Zk _)⟩ (fun g e=>Zc a3 (am b6 e).1) b1.out b2.out;exact⟨⟨k+1,A9',n9+1,q9',by omega,by omega,by go_num,rfl,aD ((Hbr.trans (d6.mono a3)).alloc (Zc a3 a2) _) a9.out (Zc (Zc a3 a2) (by simp)) b2.out,by rw[Hx.out,List.map_append,<-List.append_assoc];exact d0⟩,by simp[intOf];omega⟩
    .obtain rfl:u.size=k:=by omega
     obtain⟨wB,rfl⟩:∃wB:Wd,wB=wr:=⟨_,rfl⟩;obtain⟨out3,d7⟩:∃l:List Nd,(out2++ (((u.flat 0).take u.size).drop 0).map (Nd.mv (· + a)))=l:=⟨_,rfl⟩;have f5:=Qa d7;have e2:=Qa (show out3.length<=800000 by rw[<-d7];simp;have:=c8.out;omega);rw[d7] at Hfo;clear d7;go_wp2_with fail
     go_loopw [9,12] (fun s9 s12 wr=>zA w1 (j.flat 0) out3 (nW (a+x0.size) x0.size u.size) (a+x0.size) j.size s9 s12 wr) (fun _ v _=>j.size - (intOf v).toNat)
     case atStart=>exact⟨a+x0.size,A9,n9,q9,Zb _,by omega,by go_num,rfl,Hbr.out,by rw[List.drop_eq_nil_of_le (by rw[List.length_take];omega)];simpa using Hfo.out⟩
     case round=>
      obtain⟨k,A9,n9,q9,f1,b0,rfl,rfl,a6,a7⟩:=hrel;have a5:Hid (n9= (out3++ (((j).flat 0).take k |>.drop (a+x0.size)).map (Nd.mv (nW (a+x0.size) x0.size u.size))).length):=Qa (by obtain⟨_,_,e,_⟩:=a7.form;injection e);have Hbr:=Qa a6;have Hfo:=Qa a7;have a3:=a6.size;clear a6 a7
      by_cases hlt:k<j.size
      .obtain⟨x,hx⟩:∃x,((j).flat 0)[k]?=some x:=⟨_,Zd (by rw[JV.flat_len];omega)⟩;have a1:=(f4.below Hbr (Zb _));obtain⟨vn,vk,h1,h2,h3⟩:=a1.node hx;have c0:=h3 0 _ rfl;rw[Nat.add_zero] at c0;have c1:=h3 1 _ rfl;have c2:=h3 2 _ rfl;have c3:=h3 3 _ rfl;have c4:=h3 4 _ rfl;have c5:=h3 5 _ rfl;have c6:=h3 6 _ rfl;have c7:=h3 7 _ rfl;have Hx:=Qa (eN (lo:=(a+x0.size)) (by omega) hx);obtain⟨q1,q2,q3⟩:=b9 x (Zl hx);obtain⟨xk,xt,xx,⟨xn1,xn2,xn3⟩,xns,xks⟩:=x;have b4:=sO h1 h2 q1 q2 (nW (a+x0.size) x0.size u.size) ((a:Int)+x0.size) ((u.size:Int) - ((a:Int)+x0.size - a)) q3 (xk:=xk) (xt:=xt) (xx:=xx) (xn1:=xn1) (xn2:=xn2) (xn3:=xn3)
       dsimp only at q1 q2
       obtain⟨Bn,bn,rfl,-,-,-⟩:=ai h1;obtain⟨Bk,bk,rfl,-,-,-⟩:=ai h2;simp only[aF] at c0 c1 c2 c3 c4 c5 c6 c7;have d2:=Qa b4;have hki:(k:Int)<j.size:=by omega
       have e7:k<j.size:=by omega
       clear h1 h2 h3 hx b4 a1 q3;go_wp2_with fail;refine Za d2 ?_;rintro e w2 ⟨An,cn,Ak,ck,rfl,a4,b5,b0⟩;have d6:=Qa a4;have b6:=Qa b5;have d4:=Qa b0;have a2:=a4.size;obtain⟨us,g1,g2,g3⟩:=Hfo.below a4 (Zb _);rw[<-a5.out] at g1;have b3:n9<=2000000:=by rw[a5.out];simp;have:=e2.out;omega
       have a0:=aa w2 (.cells #[(xk:Int),.bool xt,xx,.bool xn1,xn2,(xn3:Int),.slice An xns.length cn,.slice Ak xks.length ck] 74);have a9:=Qa (g1.below' a0);have c9:=Qa (g2.mono fun _ _ h=>h.below a0 (Zb _));have b8:=Qa g3;have d1:=Qa (au w2 [(xk:Int),.bool xt,xx,.bool xn1,xn2,(xn3:Int),.slice An xns.length cn,.slice Ak xks.length ck] 74);clear c0 c1 c2 c3 c4 c5 c6 c7 a4 b5 b0 g1 g2 g3 a0;go_wp2_with (at_builtin;refine ir sG a9.out d1.out (by simp;omega) ?_ (h1:=(by intro u hu;simp at hu;rcases hu with rfl|rfl|rfl|rfl|rfl|rfl|rfl|rfl <;> rfl));intro v9 w5 p1 p2 p3;have b1:=Qa p1;have b2:=Qa p2;clear p1 p2 p3);obtain⟨A9',q9',rfl,-⟩:=ai b1.out;have a0:=aa w2 (.cells #[(xk:Int),.bool xt,xx,.bool xn1,xn2,(xn3:Int),.slice An xns.length cn,.slice Ak xks.length ck] 74);have d0:=bo.snoc (y:=⟨xk,xt,xx,⟨xn1,xn2,xn3⟩,xns,xks.map (nW (a+x0.size) x0.size u.size)⟩) a9.out a5.out c9.out b8.out ⟨_,_,by simp[aF],(b6.below a0 (Zb _)).low (Zk _),(d4.below a0 (Zb _)).low (Zk _)⟩ (fun g e=>Zc a3 (am b6 e).1) b1.out b2.out;exact⟨⟨k+1,A9',n9+1,q9',by omega,by omega,by go_num,rfl,aD ((Hbr.trans (d6.mono a3)).alloc (Zc a3 a2) _) a9.out (Zc (Zc a3 a2) (by simp)) b2.out,by rw[Hx.out,List.map_append,<-List.append_assoc];exact d0⟩,by simp[intOf];omega⟩
      .obtain rfl:j.size=k:=by omega
       have e5:=Hfo.out;go_wp2;go_ret;refine⟨_,rfl,d9.trans (Hbr.mono d9.size),?_⟩;have h:=(e5.low d9.size).imp (Q:=(w.heap.size<= ·)) (fun g a _=>Zc d9.size a)
       rwa[<-f5.out,<-f7.out,<-Ho1.out,Ef Hp.out] at h
inductive Ok (h:Prop) (T:Nc->Prop):JV->Prop
 |null:Ok h T (.mk 1 false es jx [] [])
 |bool (b:Bool):Ok h T (.mk 2 b es jx [] [])
 |num (d:Dc):d.digits.size<=6000+1->kt d->Ok h T (.mk 3 false es d [] [])
 |text (s:Nc):T s->Ok h T (.mk 4 false s jx [] [])
 |hole:h->Ok h T (.mk 7 false es jx [] [])
 |list (ks:List JV):(∀u∈ks,Ok h T u)->Ok h T (.mk 5 false es jx [] ks)
 |obj (ns:List Nc) (ks:List JV):ns.length=ks.length->(∀s∈ns,jL s)->ix ns->(∀u∈ks,Ok h T u)->Ok h T (.mk 6 false es jx ns ks)
theorem Ok.of_good {h:Prop}{T:Nc->Prop}(hT:∀s,jL s->T s)(g:cW ix j):Ok h T j:=by
 induction g with
 |null=>exact .null
 |bool b=>exact .bool b
 |num d hd hn=>exact .num d hd hn
 |text s hs=>exact .text s (hT s hs)
 |list ks _ ih=>exact .list ks ih
 |obj ns ks h1 h2 h3 _ ih=>exact .obj ns ks h1 h2 h3 ih
theorem Ok.put {h:Prop}{T:Nc->Prop}{u v:JV}{a:Nat}{w v':JV}(hp:uR u v p a w v')(hv:Ok h T v)(hu:Ok h T u):Ok h T v':=by
 induction hp with
 |here v p=>exact hu
 | @down k t x n ns pre post u0 u1 p a w hp ih=>
  have hk:∀ {l:List JV},(∀z∈pre++u0::post,Ok h T z)->∀z∈pre++u1::post,Ok h T z:=fun hz z hm=>by
   rcases List.mem_append.1 hm with hm|hm
   .exact hz z (by simp[hm])
   .rcases List.mem_cons.1 hm with rfl|hm
    .exact ih (hz u0 (by simp))
    .exact hz z (by simp[hm])
  generalize hl:pre++u0::post=l at hv
  cases hv with
  |null=>simp at hl
  |bool b=>simp at hl
  |num d hd hn=>simp at hl
  |text s hs=>simp at hl
  |hole e=>simp at hl
  |list ks hks=>subst hl;exact .list _ (hk (l:= []) hks)
  |obj ns' ks h1 h2 h3 hks=>subst hl;exact .obj _ _ (by simpa using h1) h2 h3 (hk (l:= []) hks)
theorem wK {h:Prop}{T:Nc->Prop}{v:JV}(g:Ok h T v):∀p,∀x∈v.flat p,x.names.length<=v.size:=by
 have key:∀ (ks:List JV),(∀u∈ks,∀p,∀x∈u.flat p,x.names.length<=u.size)->∀p,∀y∈JV.flats p ks,y.names.length<=JV.sizes ks:=by
  intro ks
  induction ks with
  |nil=>intro _ p y h;simp[JV.flats] at h
  |cons v vs ih=>
   intro hu p y h;simp only[JV.flats,List.mem_append] at h;simp only[JV.sizes];rcases h with h|h
   .have:=hu v (by simp) p y h;omega
   .have:=ih (fun u hm=>hu u (Zm _ hm)) (p+v.size) y h;omega
 induction g with
 |null|bool b|num d _ _|text s _|hole _=>intro p x hx;simp[JV.flat,JV.flats,aZ] at hx;subst hx;simp
 |list ks hks ih=>
  intro p x hx;simp only[JV.flat,List.mem_cons] at hx;simp only[JV.size];rcases hx with rfl|hx
  .simp
  .have:=key ks ih (p+1) x hx;omega
 |obj ns ks hl h8 ha hks ih=>
  intro p x hx;simp only[JV.flat,List.mem_cons] at hx;simp only[JV.size];rcases hx with rfl|hx
  .have:=fT ks
   show ns.length<=_;omega
  .have:=key ks ih (p+1) x hx;omega
abbrev EQ:JV:=.mk 7 false es jx [] []
theorem Bz {T:Nc->Prop}{a:Nat}(hf:cS w 0 v (j.flat 0))(hp:uR EQ j 0 a x0 j')(hj:Ok True T j)(hsz:j.size<=400000):Calls prog 47 #[v,(a:Int)] w (rU w (j'.flat 0)):=by
 have Hf:=Qa hf;have a5:∀x∈j.flat 0,x.names.length<=1000000:=fun x hx=>Zc (wK hj 0 x hx) (by omega)
 have Hp:=Qa hp;have Hn:=Qa a5;clear hf hp hj a5;go_in;go_wp2_with fail;refine(nM w).mono ?_;rintro e w1 ⟨vh,rfl,a6,a3⟩;have a0:=Qa a6;have a7:=Qa a3;clear a6 a3;go_wp2_with fail;refine(FH (u:=EQ) (Hf.below a0 (Zb _)) ((a7.flat).low (Zk _)) Hp.out hsz (by decide) Hn.out (fun x hx=>by simp[JV.flat,JV.flats,aZ] at hx;subst hx;simp)).mono ?_;rintro e w2 ⟨v2,rfl,a4,a2⟩;have a1:=Qa (show rU w (j'.flat 0) (.returned v2) w2 from⟨v2,rfl,a0.trans (a4.mono a0.size),(a2.low a0.size).imp (fun g a _=>Zc a0.size a)⟩);clear a4 a2;go_wp2;go_ret;exact a1.out
def iV (p:Int):Value:=(p:Int)
def EF (T:Nc->Prop)(w:Wd)(B n:Nat)(s0 s5:Value)(wr:Wd):Prop:= ∃ (i:Nat) (j:JV) (A:OA) (m q:Nat),s5 =(i:Int)/\i<=20/\s0 =.slice A m q/\bo (B<= ·) wr B (.slice A m q) (j.flat 0)/\Ok True T j/\j.size<=n/\ge w wr
def Ko (T:Nc->Prop)(w:Wd)(B n:Nat)(e:Ending)(w':Wd):Prop:= ∃ (j:JV) (A:OA) (m q:Nat),e =.returned (.slice A m q)/\bo (B<= ·) w' B (.slice A m q) (j.flat 0)/\Ok True T j/\j.size<=n/\ge w w'
theorem yh {T:Nc->Prop}{vp:Value}{ps:List Int}(hB:B<=w.heap.size)(hf:bo (B<= ·) w B v (j.flat 0))(hj:Ok True T j)(hsz:j.size<=400000)(hp:Sl w vp (ps.map iV))(b6:∀p∈ps,-9223372036854775808<=p/\p<=9223372036854775807) :
  Calls prog 24 #[v,vp] w (Ko T w B j.size):=by
 obtain⟨A,q,rfl,-,d1,-⟩:=hf.form;obtain⟨hm,Ap,cp,rfl,c5,b3⟩:=id hp;rw[List.length_map] at hm c5 b3 ⊢;have c2:=Qa b3;have Hf:=Qa hf;have Hj:=Qa hj;have c8:=Qa b6;clear hf hj hp b6 b3;go_in;go_wp2_with fail
 go_loopw [0,5,6] (fun s0 s5 _ wr=>EF T w B j.size s0 s5 wr) (fun _ v _ _=>20 - (intOf v).toNat)
 case atStart=>exact⟨0,j,A,_,q,rfl,by omega,rfl,Hf.out,Hj.out,Zb _,Ze _ _⟩
 case round=>
  obtain⟨i,jc,A0,n0,q0,rfl,hi,rfl,a7,b8,b9,hb⟩:=hrel;have c3:n0=jc.size:=by obtain⟨_,_,e,_⟩:=a7.form;injection e with _ e;rw[e,JV.flat_len]
  subst c3;have b0:=Qa a7;have a5:=Qa b8;have Hb:=Qa hb;have hpos:=jc.size_pos;have a4:=hb.size;clear a7 b8 hb
  by_cases hip:i<ps.length
  .by_cases hi20:i<20
   .obtain⟨gp,op,rfl,b5⟩:=c2 (by omega);obtain⟨p,a9⟩:∃s,ps[i]?=some s:=⟨_,Zd hip⟩;have cpc:=Zg Hb.out (b5 i (iV p) (by rw[List.getElem?_map,a9];rfl));unfold iV at cpc;obtain⟨b1,b2⟩:=c8 p (Zl a9);obtain⟨r,hr⟩:=y7 (Int.tmod p (jc.size:Int));have d2: -(jc.size:Int)<r/\r<jc.size:=by
     rw[<-hr];have h1:=Int.lt_tmod_of_pos p (show(0:Int)<jc.size by omega);have h2:=Int.tmod_lt_of_pos p (show(0:Int)<jc.size by omega);omega
    obtain⟨m,d0⟩:∃m:Nat,Int.tmod (r+jc.size) (jc.size:Int)=m:=⟨(Int.tmod (r+jc.size) (jc.size:Int)).toNat,by
     have:=Int.tmod_nonneg (jc.size:Int) (show 0<=r+ (jc.size:Int) by omega);omega⟩
    have c4:m<jc.size:=by have h2:=Int.tmod_lt_of_pos (r+jc.size) (show(0:Int)<jc.size by omega);omega
    obtain⟨x0,hs⟩:=Bq jc 0 m (Zk _) (by omega);obtain⟨j',a2⟩:=uR.of_sits hs EQ;have a0:=Qa a2;have a3:(i:Int)<ps.length:=by omega
    have a1:(i:Int)<20:=by omega
    have b4:(0:Int)<jc.size:=by omega
    clear b5 a9 hs a2;go_wp2_with fail;refine(Bz (b0.flat.low (Zk _)) a0 a5 (by omega)).mono ?_;rintro e w2 ⟨v2,rfl,c0,a6⟩;obtain⟨A2,q2,rfl,-⟩:=a6.form;have b7:B<=wr.heap.size:=Zc hB a4;have c6:=Qa ((a6.low b7).imp (Q:=(B<= ·)) (fun g a _=>Zc b7 a));have c7:=Qa (Hb.trans (c0.mono a4));have c1:=Qa a0.size;have c9:=x0.size_pos;clear c0 a6;go_wp2_with fail;exact⟨⟨i+1,j',A2,_,q2,by go_num,by omega,rfl,c6.out,Ok.put a0.out a5.out (.hole trivial),by have:=c1.out;simp only[JV.size,JV.sizes] at this;omega,c7.out⟩,by simp[intOf];omega⟩
   .have a1:¬ (i:Int)<20:=by omega
    have a3:(i:Int)<ps.length:=by omega
    go_wp2;go_ret;exact⟨jc,A0,_,q0,rfl,b0,a5,b9,Hb⟩
  .have a3:¬ (i:Int)<ps.length:=by omega
   go_wp2;go_ret;exact⟨jc,A0,_,q0,rfl,b0,a5,b9,Hb⟩
def cM (P:Nat->Prop)(w:Wd)(e:TypeId)(k:Nat)(A:OA)(n c:Nat)(xs:Nb):Prop:=
 xs.length=n*k/\n<=c/\c<=maxLen/\(0<n->∃g,A=some (nl g)/\P g/\∃cur:Array Value,w.heap[g]?=some (.cells cur e (0,0))/\cur.toList.take (n*k)=xs)
def BE (ns:List Nc)(us:Nb):Nb:=(ns.zip us).flatMap fun p=> [p.1,p.2]
inductive VW (P:Nat->Prop) (w:Wd):Value->JV->Prop
 |null:VW P w (.iface 54 (.agg #[])) (.mk 1 false es ⟨false,es,0⟩ [] [])
 |bool (b:Bool):VW P w (.iface 55 (.bool b)) (.mk 2 b es ⟨false,es,0⟩ [] [])
 |num (d:Dc):VW P w (.iface 123 (.agg #[.bool d.neg,.string d.digits,.int .i64 d.exp])) (.mk 3 false es d [] [])
 |text (s:Nc):VW P w (.iface 37 (.string s)) (.mk 4 false s ⟨false,es,0⟩ [] [])
 |hole:VW P w (.iface 49 (.agg #[])) (.mk 7 false es ⟨false,es,0⟩ [] [])
 |bare:VW P w (.iface 52 (.pointer none)) (.mk 5 false es ⟨false,es,0⟩ [] [])
 |list (g:Nat) (A:OA) (c:Nat) (us:Nb) (ks:List JV):P g->w.heap[g]?=some (.cells #[.slice A us.length c] 169 (0,0))->cM P w 35 1 A us.length c us->us.length=ks.length->
   (∀ (i:Nat) u k,us[i]?=some u->ks[i]?=some k->VW P w u k)->VW P w (.iface 52 (.pointer (some (nl g)))) (.mk 5 false es ⟨false,es,0⟩ [] ks)
 |obj (g:Nat) (A:OA) (c:Nat) (us:Nb) (ns:List Nc) (ks:List JV):P g->w.heap[g]?=some (.cells #[.slice A us.length c] 174 (0,0))->cM P w 107 2 A us.length c (BE ns us)->us.length=ks.length->ns.length=ks.length->
   (∀ (i:Nat) u k,us[i]?=some u->ks[i]?=some k->VW P w u k)->VW P w (.iface 126 (.pointer (some (nl g)))) (.mk 6 false es ⟨false,es,0⟩ ns ks)
section
variable {P Q:Nat->Prop}{w w':Wd}{v:Value}{j:JV}
theorem cM.stay {k:Nat}{xs:Nb}(h:cM P w e k A n c xs)(hs:∀g o,P g->w.heap[g]?=some o->o.isCells=true->(∃cs z,o =.cells cs e z)->Q g/\w'.heap[g]?=some o):cM Q w' e k A n c xs:=by
 obtain⟨h1,h2,h3,h4⟩:=h;refine⟨h1,h2,h3,fun h0=>?_⟩;obtain⟨g,e1,hp,cur,hg,ht⟩:=h4 h0;obtain⟨hq,hw⟩:=hs g _ hp hg rfl ⟨_,_,rfl⟩;exact⟨g,e1,hq,cur,hw,ht⟩
def TV (e:TypeId):Prop:=e=169\/e=174\/e=35\/e=107
theorem VW.stay (h:VW P w v j)(hs:∀g o,P g->w.heap[g]?=some o->(∃cs e z,o =.cells cs e z/\TV e)->Q g/\w'.heap[g]?=some o):VW Q w' v j:=by
 induction h with
 |null=>exact .null
 |bool b=>exact .bool b
 |num d=>exact .num d
 |text s=>exact .text s
 |hole=>exact .hole
 |bare=>exact .bare
 |list g A c us ks hp hg hr hl _ ih=>
  obtain⟨h1,h2⟩:=hs g _ hp hg ⟨_,_,_,rfl,.inl rfl⟩;exact .list g A c us ks h1 h2 (hr.stay fun g o a b _ ⟨cs,z,e⟩=>hs g o a b ⟨cs,_,z,e,.inr (.inr (.inl rfl))⟩) hl (fun i u k h1 h2=>ih i u k h1 h2)
 |obj g A c us ns ks hp hg hr hl hn _ ih=>
  obtain⟨h1,h2⟩:=hs g _ hp hg ⟨_,_,_,rfl,.inr (.inl rfl)⟩;exact .obj g A c us ns ks h1 h2 (hr.stay fun g o a b _ ⟨cs,z,e⟩=>hs g o a b ⟨cs,_,z,e,.inr (.inr (.inr rfl))⟩) hl hn (fun i u k h1 h2=>ih i u k h1 h2)
theorem VW.imp (h:VW P w v j)(hq:∀g,P g->g<w.heap.size->Q g):VW Q w v j:=h.stay fun g _ hp hg _=>⟨hq g hp (ah hg),hg⟩
theorem VW.later (h:VW P w v j)(hb:ge w w'):VW P w' v j:=h.stay fun g _ hp hg _=>⟨hp,(hb.block g (ah hg)).trans hg⟩
theorem VW.keeps (h:VW P w v j)(hk:aK T w w')(hT:∀e,TV e->¬T e):VW P w' v j:=h.stay fun g _ hp hg ⟨cs,e,z,ho,he⟩=>⟨hp,by subst ho;exact hk.2 g cs e z hg (hT e he)⟩
theorem VW.grown {row:Option Nat}(h:VW P w v j)(hg:w.grownBy w' row)(hr:∀g,row=some g->¬P g):VW P w' v j:=h.stay fun g _ hp hh _=>⟨hp,(hg.block g (ah hh) (fun e=>hr g e.symm hp)).trans hh⟩
theorem VW.set (h:VW P w v j){p:Addr}(u:Value)(hr:¬P p.block):VW P (w.setCell p u) v j:=h.stay fun g _ hp hh _=>⟨hp,(Below.heap_setCell w p u g (by rintro rfl;exact hr hp)).trans hh⟩
theorem VW.drewN (h:VW P w v j)(m:Nat):VW P (w.drewN m) v j:=h.stay fun _ _ hp hg _=>⟨hp,hg⟩
theorem VW.iface (h:VW P w v j):∃t x,v =.iface t x:=by cases h <;> exact⟨_,_,rfl⟩
theorem cM.of_own {k:Nat}{xs:Nb}(h:w.ownsRow base e k (.slice A n c) n xs):cM (base<= ·) w e k A n c xs:=by
 obtain⟨h1,⟨e1,h0⟩|⟨g,cap,cur,e1,hb,hg,h2,h3,h4,h5⟩⟩:=h
 .obtain⟨rfl,rfl,rfl⟩:=Value.slice.inj e1;exact⟨h1,Zb _,Zk _,fun h=>absurd h (Nat.lt_irrefl _)⟩
 .obtain⟨rfl,-,rfl⟩:=Value.slice.inj e1;exact⟨h1,h2,h3,fun _=>⟨g,rfl,hb,cur,hg,h5⟩⟩
theorem cM.cell {k:Nat}{xs:Nb}(h:cM P w e k (some (nl g)) n c xs)(j:Nat)(hj:j<n*k):w.cell? (no g j)=xs[j]?:=by
 obtain⟨h1,-,-,h4⟩:=h;obtain⟨g',e1,-,cur,hg,ht⟩:=h4 (by rcases Nat.eq_zero_or_pos n with h|h;subst h;omega;exact h);obtain rfl:g=g':=by injection e1 with e1;injection e1
 rw[<-ht,List.getElem?_take_of_lt hj];simp[World.cell?,hg]
theorem cM.ptr {k:Nat}{xs:Nb}(h:cM P w e k A n c xs)(hn:0<n):∃g,A=some (nl g)/\P g:=by
 obtain⟨-,-,-,h4⟩:=h;obtain⟨g,h1,h2,-⟩:=h4 hn;exact⟨g,h1,h2⟩
end
theorem AP:∀ (ns:List Nc) (us:Nb) (i:Nat) (n:Nc) (u:Value),ns[i]?=some n->us[i]?=some u->(BE ns us)[i*2]?=some (.string n)/\(BE ns us)[i*2+1]?=some u
 | [],_,i,n,u,h,_=>by simp at h
 |_::_, [],i,n,u,_,h=>by simp at h
 |a::ns,b::us,0,n,u,h1,h2=>by simp at h1 h2;subst h1 h2;exact⟨rfl,rfl⟩
 |a::ns,b::us,i+1,n,u,h1,h2=>by
  have ih:=AP ns us i n u (by simpa using h1) (by simpa using h2);rw[show(i+1)*2=i*2+2 by omega];exact ih
theorem uU (w:Wd):Calls prog 76 #[.pointer none] w fun e w'=>e = (0:Int)/\w=w':=by
 go_in;go_wp2;go_ret;exact⟨rfl,rfl⟩
theorem nL (hg:w.heap[g]?=some (.cells #[.slice A n c] 169 (0,0))):Calls prog 76 #[.pointer (some (nl g))] w fun e w'=>e = (n:Int)/\w=w':=by
 have c0:w.cell? (nl g)=some (.slice A n c):=ac hg (j:=0) rfl;clear hg;go_in;go_wp2;go_ret;exact⟨rfl,rfl⟩
theorem oU (hg:w.heap[g]?=some (.cells #[.slice A n c] 174 (0,0))):Calls prog 78 #[.pointer (some (nl g))] w fun e w'=>e = (n:Int)/\w=w':=by
 have c0:w.cell? (nl g)=some (.slice A n c):=ac hg (j:=0) rfl;clear hg;go_in;go_wp2;go_ret;exact⟨rfl,rfl⟩
theorem pQ (hg:w.heap[g]?=some (.cells #[.slice A n c] 169 (0,0)))(hr:cM P w 35 1 A n c us)(i:Nat)(hi:i<n)(hu:us[i]?=some u) :
  Calls prog 97 #[.pointer (some (nl g)),(i:Int)] w fun e w'=>e =.returned (.tuple #[u,true])/\w=w':=by
 have c0:w.cell? (nl g)=some (.slice A n c):=ac hg (j:=0) rfl;obtain⟨b,rfl,-⟩:=hr.ptr (by omega);have c1:=hr.cell i (by omega);rw[hu] at c1;have hm:=hr.2.2.1;unfold maxLen at hm;have Hl:=Qa (nL hg);clear hg hr hu;have h0:¬ (i:Int)<0:=by omega
 have h1:(i:Int)<n:=by omega
 go_in;go_wp2_with fail;refine Za Hl ?_;rintro e w' ⟨rfl,rfl⟩;go_wp2_with fail;go_ret2;exact⟨rfl,rfl⟩
theorem Ex:prog.underlying 35=some (.interface (prog.methodsAt 35)):=by kernel_rfl
theorem uC (w:Wd)(t:TypeId)(x:Value):(binOp .eql 35 .nilIface (.iface t x)).run prog w =.ok false w:=run_eql_iface_nil_left w t x Ex
theorem sB (w:Wd)(t:TypeId)(x:Value):(binOp .eql 35 (.iface t x) .nilIface).run prog w =.ok false w:=run_eql_held_nil w _ t x Ex
theorem sv:dH 25 35 .nilIface 1 16:=⟨underlying25,by kernel_rfl,rfl,by decide⟩
theorem AN:dH 98 107 (.agg #[ByteArray.empty,.nilIface]) 2 32:=⟨underlying98,by kernel_rfl,rfl,by decide⟩
def Bl (k:Nat)(w:Wd)(v:Value)(n:Nat)(us:Nb):Prop:=us.length=n*k/\n<=9223372036854775807/\∃A c,v =.slice A n c/\n<=c/\(0<n->∃g o,A=some (no g o)/\∀i u,us[i]?=some u->w.cell? ⟨g,o+i,none⟩=some u)
theorem Sl.k (h:Sl w v us):Bl 1 w v us.length us:=⟨by omega,h.1,h.2⟩
theorem Bl.below {k:Nat}(h:Bl k w v n us)(hb:ge w w'):Bl k w' v n us:=by
 obtain⟨h1,h2,A,c,e,hc,hA⟩:=h;refine⟨h1,h2,A,c,e,hc,fun h0=>?_⟩;obtain⟨g,o,e,a0⟩:=hA h0;exact⟨g,o,e,fun i u hu=>Zg hb (a0 i u hu)⟩
theorem Bl.of_own {k:Nat}(h:w.ownsRow base e k v n us):Bl k w v n us:=by
 obtain⟨A,c,rfl,hc,hm,hA⟩:=ai h;refine⟨h.1,by unfold maxLen at hm;omega,A,c,rfl,hc,fun h0=>?_⟩;obtain⟨g,rfl⟩:=hA h0;refine⟨g,0,rfl,fun i u hu=>?_⟩;have hi:=(List.getElem?_eq_some_iff.1 hu).1;rw[Nat.zero_add,World.ownsRow.cellAt h i (by rw[<-h.1];exact hi)];exact hu
theorem fi {t:TypeId}{k:Nat}(E:dH t e z k B){ops:Array Oper}{rest:List Oper}{o:Oper}{a:Act}{Q:Exit->Act->Wd->Prop}(a6:o.guard=none)(s x:Operand)
  (ho:o.op =.call {callee:=.builtin .append,args:= #[s,x],argTypes:= #[t,t]})
  (base:Nat) (v:Value) (n:Nat) (ad:Addr) (c m:Nat) (us news:Nb) (hs:a.eval s=v) (a2:w.ownsRow base e k v n us) (hx:a.eval x =.slice (some ad) m c) (a9:Bl k w (.slice (some ad) m c) m news)
  (h1:∀u∈news,u.oneCell'=true) (hlen:n+m<=maxLen) (hby:(n+m)*B<=140737488355328) (a0:base<=w.heap.size)
  (h:∀v' w',w'.ownsRow base e k v' (n+m) (us++news)->w.grownBy w' v.ownBlock->(v'.ownBlock=v.ownBlock\/v'.ownBlock=some w.heap.size)->wpList prog ops Q rest (a.put o.dst v') w'):wpList prog ops Q (o::rest) a w:=by
 refine wpList_plain a6 fun K hK=>?_
 obtain⟨i0,hi,a7,a4,a5⟩:=info_parts E.hi;obtain⟨hl,_,A,c',e',_,hA⟩:=a9;injection e' with e1 e2 e3
 subst e1;obtain⟨v',w',a1,h2,h3,_,h5⟩:=run_append_own_at (P:=prog) w base t o.type e i0 z k B E.ht hi a7 a4 a5 E.hz E.h0 v n us a2 ad m c news
  hl (fun j y hy=>by
   have hj:=(List.getElem?_eq_some_iff.1 hy).1;have hm:0<m:=by rcases Nat.eq_zero_or_pos m with h0|h0;(· subst h0;rw[hl] at hj;omega);exact h0
   obtain⟨g,off,e',a3⟩:=hA hm;obtain rfl:=Zi e';rw[Addr.add_lit];exact a3 j y hy) h1 hlen hby a0
 unfold Oper.wp execOp;simp only[ho,resolve,invoke,builtin,Sem.run_bind,Sem.run_pure,Result.andThen_ok,List.map_toArray,List.map_cons,List.map_nil,hs,hx,a1];exact hK _ _ (h v' w' h2 h3 h5)
def Ic (u:Value):Prop:= ∃t v,u =.iface t v
theorem Ic.one (h:Ic u):u.oneCell'=true:=by obtain⟨t,v,rfl⟩:=h;rfl
def Km (us:Nb)(w:Wd)(s8:Value)(wr:Wd):Prop:= ∃k:Nat,k<=us.length/\s8 =(k:Int)/\w=wr
theorem xl (hv:Sl w v us)(hu:∀u∈us,Ic u):Calls prog 116 #[v,.nilIface] w fun e w'=>e = (-1:Int)/\w=w':=by
 obtain⟨hm,A,cap,rfl,hc,hA⟩:=id hv;have HA:=Qa hA;have Hu:=Qa hu;clear hv hA hu;go_in;go_wp2_with fail
 go_loopw [5,8] (fun _ s8 wr=>Km us w s8 wr) (fun _ i _=>us.length - (intOf i).toNat)
 case atStart=>exact⟨0,Zk _,rfl,rfl⟩
 case round=>
  obtain⟨k,hk,rfl,rfl⟩:=hrel
  by_cases hlt:k<us.length
  .obtain⟨g,o,rfl,a1⟩:=HA (by omega);obtain⟨u,hu⟩:∃s,us[k]?=some s:=⟨_,Zd hlt⟩;have cu:=a1 k u hu;have a0:=Qa (Zl hu);clear a1 hu;obtain⟨t,x,rfl⟩:=Hu u a0.out;have q1:=uC w t x;go_wp2_with fail;exact⟨⟨k+1,by omega,by go_num,rfl⟩,by simp[intOf];omega⟩
  .obtain rfl:k=us.length:=by omega
   go_wp2;go_ret;exact⟨rfl,rfl⟩
theorem qk (hv:Sl w v us)(hu:∀u∈us,Ic u):Calls prog 85 #[v,.nilIface] w fun e w'=>e =.returned false/\w=w':=by
 obtain⟨hm,A,cap,rfl,hc,hA⟩:=id hv;have Hc:=Qa (xl hv hu);clear hv hA hu;go_in;go_wp2_with fail;refine Za Hc ?_;rintro e w' ⟨rfl,rfl⟩;go_wp2;go_ret;exact⟨rfl,rfl⟩
def Je (e:TypeId)(k:Nat)(w:Wd)(n:Nat)(us:Nb)(ed:Ending)(w':Wd):Prop:= ∃A c,ed =.returned (.slice A n c)/\ge w w'/\w'.ownsRow w.heap.size e k (.slice A n c) n us
theorem iy (hv:Bl 1 w v n us)(hu:∀u∈us,u.oneCell'=true)(hn:n<=4294967296):Calls prog 26 #[v] w (Je 35 1 w n us):=by
 obtain⟨hl,hm,A,cap,rfl,hc,hA⟩:=id hv;have Hv:=Qa hv;have Hu:=Qa hu;have Hl:=Qa hl;have hq:=fun (w:Wd) (a:OA) (n c n' c':Nat)=>Lib.run_eql_slice_nil (P:=prog) w _ _ a n c n' c' underlying25
 cases A with
 |none=>
  have h0:n=0:=by
   rcases Nat.eq_zero_or_pos n with h0|h0
   .exact h0
   .obtain⟨_,_,e,_⟩:=hA h0;cases e
  subst h0;clear hv hu hl hA;go_in;go_wp2;go_ret;have h0:=Hl.out;rw[Nat.zero_mul] at h0;obtain rfl:=List.eq_nil_of_length_eq_zero h0;exact⟨none,0,rfl,Ze _ _,⟨by simp,.inl ⟨rfl,rfl⟩⟩⟩
 |some ad=>
  clear hv hu hl hA;go_in;go_wp2_with (at_builtin;refine fi sv rfl (.tmp 5) (.tmp 6) rfl w.heap.size (.slice (some (nl w.heap.size)) 0 0) 0 ad cap n [] us (by simp[Act.eval]) (dA (Zf w _) (Zb _) (by unfold maxLen;omega) (by simp)) (by simp[Act.eval]) (Hv.below (aa _ _)) Hu.out (by unfold maxLen;omega) (by omega) (by simp) ?_;intro v' w1 h1 h2 h3;have Hp:=Qa h1;have Hg:=Qa h2;clear h1 h2 h3);go_ret;have ho:=Hp.out;rw[Nat.zero_add,List.nil_append] at ho;obtain⟨A',c',rfl,-⟩:=ai ho;exact⟨A',c',rfl,aD (aa w _) (dA (Zf w _) (Zb _) (by unfold maxLen;omega) (by simp):(w.alloc (.cells #[] 35)).ownsRow w.heap.size 35 1 (.slice (some (nl w.heap.size)) 0 0) 0 []) (by simp) Hg.out,ho⟩
theorem qY (hv:Bl 2 w v n us)(hu:∀u∈us,u.oneCell'=true)(hn:n<=4294967296):Calls prog 86 #[v] w (Je 107 2 w n us):=by
 obtain⟨hl,hm,A,cap,rfl,hc,hA⟩:=id hv;have Hv:=Qa hv;have Hu:=Qa hu;have Hl:=Qa hl;have hq:=fun (w:Wd) (a:OA) (n c n' c':Nat)=>Lib.run_eql_slice_nil (P:=prog) w _ _ a n c n' c' underlying98
 cases A with
 |none=>
  have h0:n=0:=by
   rcases Nat.eq_zero_or_pos n with h0|h0
   .exact h0
   .obtain⟨_,_,e,_⟩:=hA h0;cases e
  subst h0;clear hv hu hl hA;go_in;go_wp2;go_ret;have h0:=Hl.out;rw[Nat.zero_mul] at h0;obtain rfl:=List.eq_nil_of_length_eq_zero h0;exact⟨none,0,rfl,Ze _ _,⟨by simp,.inl ⟨rfl,rfl⟩⟩⟩
 |some ad=>
  clear hv hu hl hA;go_in;go_wp2_with (at_builtin;refine fi AN rfl (.tmp 5) (.tmp 6) rfl w.heap.size (.slice (some (nl w.heap.size)) 0 0) 0 ad cap n [] us (by simp[Act.eval]) (dA (Zf w _) (Zb _) (by unfold maxLen;omega) (by simp)) (by simp[Act.eval]) (Hv.below (aa _ _)) Hu.out (by unfold maxLen;omega) (by omega) (by simp) ?_;intro v' w1 h1 h2 h3;have Hp:=Qa h1;have Hg:=Qa h2;clear h1 h2 h3);go_ret;have ho:=Hp.out;rw[Nat.zero_add,List.nil_append] at ho;obtain⟨A',c',rfl,-⟩:=ai ho;exact⟨A',c',rfl,aD (aa w _) (dA (Zf w _) (Zb _) (by unfold maxLen;omega) (by simp):(w.alloc (.cells #[] 107)).ownsRow w.heap.size 107 2 (.slice (some (nl w.heap.size)) 0 0) 0 []) (by simp) Hg.out,ho⟩
def Lx (w:Wd)(n:Nat)(us:Nb)(e:Ending)(w':Wd):Prop:= ∃g A c,e =.returned (.tuple #[.pointer (some (nl g)),.nilIface])/\ge w w'/\w.heap.size<=g/\w'.heap[g]?=some (.cells #[.slice A n c] 169 (0,0))/\cM (w.heap.size<= ·) w' 35 1 A n c us
theorem nJ (hv:Sl w v us)(hu:∀u∈us,Ic u)(hn:us.length<=4294967296):Calls prog 49 #[v] w (Lx w us.length us):=by
 obtain⟨hm,A,cap,rfl,hc,hA⟩:=id hv;have Hc:=Qa (qk hv hu);have Hk:=Qa (iy hv.k (fun u h=>(hu u h).one) hn);clear hv hA hu;go_in;go_wp2_with fail;refine Za Hc ?_;rintro e w' ⟨rfl,rfl⟩;go_wp2_with fail;refine Za Hk ?_;rintro e w1 ⟨A1,c1,rfl,hb,ho⟩;have Ho:=Qa ho;have Hb:=Qa hb;clear ho hb;go_wp2_with fail;go_ret2;exact⟨w1.heap.size,A1,c1,rfl,bI Hb (aa _ _),Hb.size,Zf _ _,(cM.of_own Ho).stay fun g o hp hg _ _=>⟨hp,(Below.heap_alloc _ _ _ (ah hg)).trans hg⟩⟩
theorem tj {t:TypeId}{k:Nat}(E:dH t e z k B)(base:Nat)(v:Value)(n g c m:Nat)(us news:Nb)(a0:w.ownsRow base e k v n us)(hl:news.length=m*k)
  (hg:∀j u,news[j]?=some u->w.cell? (no g j)=some u) (h1:∀u∈news,u.oneCell'=true) (hm:0<m)
  (hlen:n+m<=maxLen) (hby:(n+m)*B<=140737488355328) (a2:base<=w.heap.size) :
  ∃v' w',(Builtin.append_ #[t,t] ty #[v,.slice (some (nl g)) m c]).run prog w =.ok v' w'/\w'.ownsRow base e k v' (n+m) (us++news)/\w.grownBy w' v.ownBlock/\(v'.ownBlock=v.ownBlock\/v'.ownBlock=some w.heap.size)/\w.drawn<=w'.drawn:=by
 obtain⟨i0,hi,a6,a9,b1⟩:=info_parts E.hi;have a4:∀j u,news[j]?=some u->w.cell? ((⟨g,0,none⟩:Addr).add j)=some u:=fun j y hy=>by
  have:=hg j y hy;unfold Addr.add
  split
  .rename_i h0;subst h0;exact this
  .simpa using this
 obtain⟨v',w',hr,h2,h3,_,h5⟩:=run_append_own_at (P:=prog) w base t ty e i0 z k B E.ht hi a6 a9 b1 E.hz E.h0 v n us a0 ⟨g,0,none⟩ m c news hl a4 h1 hlen hby a2;refine⟨v',w',hr,h2,h3,h5,?_⟩;have a7:n+m<=9223372036854775807:=by simp only[maxLen] at hlen;omega
 subst a9;subst b1;rcases a0.2 with ⟨rfl,rfl⟩|⟨b,cap,cur,rfl,b5,hb,b3,b4,b2,b0⟩
 .have a1:=Go.run_append_nil (P:=prog) w t ty e i0 z E.ht hi a6 ⟨g,0,none⟩ m c news hl a4 hm (by omega) (by simp only[Nat.zero_add] at hby;omega);rw[a1] at hr;injection hr with _ e
  rw[<-e];exact Nat.le_succ _
 .by_cases hroom:n+m<=cap
  .have a5:n*i0.size+news.length<=cur.size:=by rw[hl,b2,<-Nat.add_mul];exact Nat.mul_le_mul_right _ hroom
   have a1:=run_append_room (P:=prog) w t ty e i0 E.ht hi b n cap cur hb ⟨g,0,none⟩ m c news hl a4 h1 hroom a5;rw[a1] at hr;injection hr with _ e
   rw[<-e];exact Zb _
  .have a3:∀j u,us[j]?=some u->w.cell? ((⟨b,0,none⟩:Addr).add j)=some u:=a0.cells (g:=b) rfl;have a1:=run_append_grow (P:=prog) w t ty e i0 z E.ht hi a6 ⟨b,0,none⟩ n cap us a0.1 a3 ⟨g,0,none⟩ m c news hl a4 (by omega) (by omega) (growslice_fits (by omega) hby);rw[a1] at hr;injection hr with _ e
   rw[<-e];exact Nat.le_succ _
structure co (w w':Wd):Prop where
 b:ge w w'
 d:w.drawn<=w'.drawn
theorem co.refl (w:Wd):co w w:=⟨Ze _ _,Zb _⟩
theorem co.trans {a b c:Wd}(h:co a b)(k:co b c):co a c:=⟨bI h.b k.b,Zc h.d k.d⟩
theorem co.drewN (w:Wd)(m:Nat):co w (w.drewN m):=⟨av (Ze _ _) m,Nat.le_add_right _ _⟩
theorem co.alloc (w:Wd)(o:Obj):co w (w.alloc o):=⟨aa w o,Zb _⟩
theorem co.grow (h:co w w'):∃q os,w'=Go.Sort.grow (w.drewN q) os:=by
 obtain⟨⟨h1,h2,h3,h4,h5⟩,h6⟩:=h;refine⟨w'.drawn - w.drawn,w'.heap.extract w.heap.size w'.heap.size,?_⟩;obtain⟨hp,tp,dr,o,out⟩:=w;obtain⟨a0,tp',dr',o',out'⟩:=w';simp only at h1 h2 h3 h4 h5 h6;subst h1 h2 h3;have e:a0=hp++a0.extract hp.size a0.size:=by
  apply Array.ext
  .simp;omega
  .intro i a1 a2
   by_cases h:i<hp.size
   .have:=h5 i h;rw[Array.getElem?_eq_getElem a1,Array.getElem?_eq_getElem h] at this;rw[Array.getElem_append_left h];exact Zi this
   .rw[Array.getElem_append_right (by omega)];simp only[Array.getElem_extract]
    congr 1;omega
 have e2:dr'=dr+ (dr' - dr):=by omega
 unfold Go.Sort.grow World.drewN;simp only;rw[<-e,<-e2]
def gU (L:List (Nc×Value)):Nb:=L.flatMap fun p=> [p.1,p.2]
theorem lF:∀L:List (Nc×Value),(gU L).length=L.length*2
 | []=>rfl
 |p::L=>by have:=lF L;simp only[gU,List.flatMap_cons,List.length_append,List.length_cons,List.length_nil] at this ⊢;omega
theorem sZ:∀ (L:List (Nc×Value)) (i:Nat) (p:Nc×Value),L[i]?=some p->(gU L)[i*2]?=some (.string p.1)/\(gU L)[i*2+1]?=some p.2
 | [],i,p,h=>by simp at h
 |a::L,0,p,h=>by simp at h;subst h;exact⟨rfl,rfl⟩
 |a::L,i+1,p,h=>by
  have ih:=sZ L i p (by simpa using h);rw[show(i+1)*2=i*2+2 by omega];exact ih
def Lz (w:Wd)(g:Nat)(L:List (Nc×Value)):Prop:= ∀ (i:Nat) (p:Nc×Value),L[i]?=some p->w.cell? ⟨g,i*2,none⟩=some (.string p.1)/\w.cell? ⟨g,i*2+1,none⟩=some p.2
theorem Lz.below (h:Lz w g L)(hb:ge w w'):Lz w' g L:=fun i p hp=>⟨Zg hb (h i p hp).1,Zg hb (h i p hp).2⟩
def yC (w:Wd)(base:Nat)(v:Value)(L:List (Nc×Value)):Prop:=w.ownsRow base 107 2 v L.length (gU L)
theorem yC.read (h:yC w base (.slice (some (nl g)) n q) L):Lz w g L:=by
 intro i p hp;have hi:=(List.getElem?_eq_some_iff.1 hp).1;obtain⟨_,_,e,_,_,_⟩:=ai h;obtain⟨_,rfl,_⟩:=Value.slice.inj e;obtain⟨f1,f2⟩:=sZ L i p hp
 constructor
 .rw[aB h rfl (i*2) (by omega),f1]
 .rw[aB h rfl (i*2+1) (by omega),f2]
def I5 (x y:List Int):Prop:= ∃p a b s t,x=p++a::s/\y=p++b::t/\a≠b
def Pf (x y:List Int):Prop:=x=y\/I5 x y
theorem I5.app {x:List Int}(h:I5 x y)(s t:List Int):I5 (x++s) (y++t):=by
 obtain⟨p,a,b,u,v,rfl,rfl,hne⟩:=h;exact⟨p,a,b,u++s,v++t,by simp,by simp,hne⟩
theorem I5.pre {x:List Int}(h:I5 x y)(q:List Int):I5 (q++x) (q++y):=by
 obtain⟨p,a,b,u,v,rfl,rfl,hne⟩:=h;exact⟨q++p,a,b,u,v,by simp,by simp,hne⟩
theorem Pf.app {x s t:List Int}(h:Pf x y)(h2:Pf s t):Pf (x++s) (y++t):=by
 rcases h with rfl|h
 .rcases h2 with rfl|h2
  .exact .inl rfl
  .exact .inr (h2.pre _)
 .exact .inr (h.app _ _)
theorem Pf.head {a b:Int}{s t:List Int}(h:a=b->Pf s t):Pf (a::s) (b::t):=by
 by_cases e:a=b
 .subst e;exact Pf.app (x:= [a]) (y:= [a]) (.inl rfl) (h rfl)
 .exact .inr ⟨[],a,b,s,t,rfl,rfl,e⟩
theorem bi (a b:Int)(x y:List Int):aA (a::x) (b::y)=if a<b then -1 else if b<a then 1 else aA x y:=by
 conv=>lhs;unfold aA
theorem pE (q x y:List Int):aA (q++x) (q++y)=aA x y:=by
 induction q with
 |nil=>rfl
 |cons a q ih=>show aA (a:: (q++x)) (a:: (q++y))=_;rw[bi,if_neg (by omega),if_neg (by omega),ih]
theorem xL {x:List Int}(h:I5 x y)(s t:List Int):aA (x++s) (y++t)=aA x y/\aA x y≠0:=by
 obtain⟨p,a,b,u,v,rfl,rfl,hne⟩:=h;rw[List.append_assoc,List.append_assoc,pE,pE];simp only[List.cons_append,bi]
 by_cases h1:a<b
 .simp[h1]
 .have h2:b<a:=by omega
  simp[h1,h2]
theorem oM {x:List Int}(h:Pf x y)(s t:List Int):aA (x++s) (y++t)=if aA x y=0 then aA s t else aA x y:=by
 rcases h with rfl|h
 .rw[pE,eU,if_pos rfl]
 .obtain⟨h1,h2⟩:=xL h s t;rw[h1,if_neg h2]
theorem Ay:∀ {x y:List Int},(∀c∈x,0<=c)->(∀c∈y,0<=c)->Pf (x ++ [-1]) (y ++ [-1])/\aA (x ++ [-1]) (y ++ [-1])=aA x y
 | [], [],_,_=>⟨.inl rfl,rfl⟩
 | [],b::y,_,hy=>by
  have:=hy b (by simp);refine⟨Pf.head fun e=>by omega,?_⟩
  show aA (-1:: []) (b:: (y ++ [-1])) = -1
  rw[bi,if_pos (by omega)]
 |a::x, [],hx,_=>by
  have:=hx a (by simp);refine⟨Pf.head fun e=>by omega,?_⟩
  show aA (a:: (x ++ [-1])) (-1:: [])=1
  rw[bi,if_neg (by omega),if_pos (by omega)]
 |a::x,b::y,hx,hy=>by
  have ih:=Ay (x:=x) (y:=y) (fun c h=>hx c (Zm _ h)) (fun c h=>hy c (Zm _ h));refine⟨Pf.head fun _=>ih.1,?_⟩
  show aA (a:: (x ++ [-1])) (b:: (y ++ [-1]))=aA (a::x) (b::y)
  rw[bi,bi,ih.2]
theorem kQ:∀ (f:Nat) (xs:Na),∀c∈fJ dP f xs,0<=c
 |0,_,c,h=>by simp[fJ] at h
 |_+1, [],c,h=>by simp[fJ] at h
 |f+1,x::t,c,h=>by
  unfold fJ at h
  split at h
  .rcases List.mem_cons.1 h with rfl|h
   .exact Int.natCast_nonneg _
   .exact kQ f _ c h
  .rcases List.mem_cons.1 h with rfl|h
   .unfold dP;omega
   .exact kQ f _ c h
theorem tI (s:Nc):∀c∈nm s,0<=c:=kQ _ _
def rh (s:Nc):List Int:=nm s ++ [-1]
theorem oL (s t:Nc):Pf (rh s) (rh t):=(Ay (tI s) (tI t)).1
theorem uW (s t:Nc):aA (rh s) (rh t)=aA (nm s) (nm t):=(Ay (tI s) (tI t)).2
theorem xf {s t:Nc}(h:rh s=rh t):s=t:=Dh (List.append_cancel_right h)
def gS (d:Dc):Int:=if d.digits= ⟨#[48]⟩ then 0 else if d.neg then -1 else 1
def lY (s:Int):Na->List Int
 | []=> [0]
 |c::l=>s* (c.toNat+1)::lY s l
def eT (d:Dc):List Int:=if gS d=0 then [0] else gS d::gS d* (d.digits.size+d.exp)::lY (gS d) d.digits.data.toList
theorem Bj {s:Int}(hs:s≠0):∀ (l m:Na),Pf (lY s l) (lY s m)
 | [], []=>.inl rfl
 | [],c::m=>Pf.head fun e=>by
  have:=(Int.mul_eq_zero.1 e.symm).resolve_left hs;omega
 |c::l, []=>Pf.head fun e=>by
  have:=(Int.mul_eq_zero.1 e).resolve_left hs;omega
 |c::l,d::m=>Pf.head fun _=>Bj hs l m
theorem uP {s:Int}(hs:s≠0):∀ {l m:Na},lY s l=lY s m->l=m
 | [], [],_=>rfl
 | [],c::m,e=>by
  simp only[lY,List.cons.injEq] at e;have:=(Int.mul_eq_zero.1 e.1.symm).resolve_left hs;omega
 |c::l, [],e=>by
  simp only[lY,List.cons.injEq] at e;have:=(Int.mul_eq_zero.1 e.1).resolve_left hs;omega
 |c::l,d::m,e=>by
  simp only[lY,List.cons.injEq] at e;have h1:=Int.eq_of_mul_eq_mul_left hs e.1;rw[uP hs e.2,show c=d from UInt8.toNat_inj.1 (by omega)]
theorem fW (d:Dc):gS d=0\/gS d = -1\/gS d=1:=by unfold gS;split;exact .inl rfl;split;exact .inr (.inl rfl);exact .inr (.inr rfl)
theorem Id (a b:Dc):Pf (eT a) (eT b):=by
 unfold eT
 by_cases ha:gS a=0
 .rw[if_pos ha]
  by_cases hb:gS b=0
  .rw[if_pos hb];exact .inl rfl
  .rw[if_neg hb];exact Pf.head fun e=>absurd e.symm hb
 .rw[if_neg ha]
  by_cases hb:gS b=0
  .rw[if_pos hb];exact Pf.head fun e=>absurd e ha
  .rw[if_neg hb];exact Pf.head fun e=>Pf.head fun _=>by rw[e];exact Bj hb _ _
def sJ (d:Dc):Prop:=d.digits= ⟨#[48]⟩->d= ⟨false,⟨#[48]⟩,0⟩
theorem DX {a b:Dc}(ha:sJ a)(hb:sJ b)(h:eT a=eT b):a=b:=by
 unfold eT at h
 by_cases h1:gS a=0
 .rw[if_pos h1] at h
  by_cases h2:gS b=0
  .have e1:a.digits= ⟨#[48]⟩:=by unfold gS at h1;split at h1;assumption;split at h1 <;> simp at h1
   have e2:b.digits= ⟨#[48]⟩:=by unfold gS at h2;split at h2;assumption;split at h2 <;> simp at h2
   rw[ha e1,hb e2]
  .rw[if_neg h2] at h;injection h with h;exact absurd h.symm h2
 .rw[if_neg h1] at h
  by_cases h2:gS b=0
  .rw[if_pos h2] at h;injection h with h;exact absurd h h1
  .rw[if_neg h2] at h;injection h with e1 h
   injection h with e2 e3
   rw[e1] at e2 e3;have hd:a.digits=b.digits:=by
    have:=uP h2 e3
    cases ha':a.digits with|mk x=>cases hb':b.digits with|mk y=>rw[ha',hb'] at this;simp at this;rw[this]
   have hx:=Int.eq_of_mul_eq_mul_left h2 e2;have hn:a.neg=b.neg:=by
    unfold gS at e1 h1 h2
    split at h1
    .exact absurd rfl h1
    .split at h2
     .exact absurd rfl h2
     .rename_i g1 g2
      rw[if_neg g1,if_neg g2] at e1
      revert e1;cases a.neg <;> cases b.neg <;> simp
   obtain⟨an,ad,ax⟩:=a;obtain⟨bn,bd,bx⟩:=b;simp only at hd hn hx;subst hd hn;rw[show ax=bx by omega]
mutual
/-- What stands for a value. -/
def JV.key:JV->List Int
 | .mk k t x n ns ks=>k:: (if k=2 then [if t then 1 else 0] else if k=3 then eT n else if k=4 then rh x else JV.keys (k=6) ns ks)
def JV.keys:Bool->List Nc->List JV->List Int
 |_,_, []=> [0]
 |o,ns,v::vs=>1:: ((if o then rh (ns.headD ⟨#[]⟩) else [])++ (JV.key v++JV.keys o ns.tail vs))
end
theorem zl {us:List JV}(h:∀u∈us,∀w:JV,Pf u.key w.key)(o:Bool):∀ (ns ms:List Nc) (ws:List JV),Pf (JV.keys o ns us) (JV.keys o ms ws):=by
 induction us with
 |nil=>
  intro ns ms ws
  cases ws with
  |nil=>exact .inl rfl
  |cons w ws=>exact Pf.head fun e=>by omega
 |cons u us ih=>
  intro ns ms ws
  cases ws with
  |nil=>exact Pf.head fun e=>by omega
  |cons w ws=>
   refine Pf.head fun _=>Pf.app ?_ ((h u (by simp) w).app (ih (fun u hu=>h u (Zm _ hu)) ..))
   cases o
   .exact .inl rfl
   .exact oL _ _
theorem yW (u:JV):∀w:JV,Pf u.key w.key:=by
 refine JV.ind (P:=fun u=> ∀w:JV,Pf u.key w.key) (fun k t x n ns ks ih w=>?_) u;obtain⟨k',t',x',n',ns',ks'⟩:=w;unfold JV.key;refine Pf.head fun e=>?_
 subst e
 by_cases h2:k=2
 .rw[if_pos h2,if_pos h2];exact Pf.head fun _=>.inl rfl
 .rw[if_neg h2,if_neg h2]
  by_cases h3:k=3
  .rw[if_pos h3,if_pos h3];exact Id _ _
  .rw[if_neg h3,if_neg h3]
   by_cases h4:k=4
   .rw[if_pos h4,if_pos h4];exact oL _ _
   .rw[if_neg h4,if_neg h4];exact zl ih _ _ _ _
def du (u w:JV):Int:=aA u.key w.key
theorem rI {k k':Int}{t:Bool}{x:Nc}{n:Dc}(h:k≠k'):du (.mk k t x n ns ks) (.mk k' t' x' n' ns' ks')=if k<k' then -1 else 1:=by
 unfold du JV.key;rw[bi]
 by_cases h1:k<k'
 .rw[if_pos h1,if_pos h1]
 .rw[if_neg h1,if_neg h1,if_pos (by omega)]
theorem rp (t t':Bool)(x x':Nc)(n n':Dc)(ns ns':List Nc)(ks ks':List JV):du (.mk 2 t x n ns ks) (.mk 2 t' x' n' ns' ks')=if t=t' then 0 else if t then 1 else -1:=by
 unfold du JV.key
 cases t <;> cases t' <;> rfl
theorem xW (t t':Bool)(x x':Nc)(n n':Dc)(ns ns':List Nc)(ks ks':List JV):du (.mk 3 t x n ns ks) (.mk 3 t' x' n' ns' ks')=aA (eT n) (eT n'):=by
 unfold du JV.key;rw[bi,if_neg (by omega),if_neg (by omega)];simp
theorem rK (t t':Bool)(x x':Nc)(n n':Dc)(ns ns':List Nc)(ks ks':List JV):du (.mk 4 t x n ns ks) (.mk 4 t' x' n' ns' ks')=aA (nm x) (nm x'):=by
 unfold du JV.key;rw[bi,if_neg (by omega),if_neg (by omega)];simp[uW]
theorem eZ {k:Int}(h2:k≠2)(h3:k≠3)(h4:k≠4)(t t':Bool)(x x':Nc)(n n':Dc)(ns ns':List Nc)(ks ks':List JV):du (.mk k t x n ns ks) (.mk k t' x' n' ns' ks')=aA (JV.keys (k=6) ns ks) (JV.keys (k=6) ns' ks'):=by
 unfold du JV.key;rw[bi,if_neg (by omega),if_neg (by omega)];simp[h2,h3,h4]
theorem rQ (ns ns':List Nc)(u w:JV)(us ws:List JV):aA (JV.keys false ns (u::us)) (JV.keys false ns' (w::ws))=if du u w=0 then aA (JV.keys false ns.tail us) (JV.keys false ns'.tail ws) else du u w:=by
 conv=>lhs;unfold JV.keys
 rw[bi,if_neg (by omega),if_neg (by omega)];simp only[Bool.false_eq_true,if_false,List.nil_append];exact oM (yW u w) _ _
theorem vL (a b:Nc)(ns ns':List Nc)(u w:JV)(us ws:List JV):aA (JV.keys true (a::ns) (u::us)) (JV.keys true (b::ns') (w::ws))=if aA (nm a) (nm b)=0 then(if du u w=0 then aA (JV.keys true ns us) (JV.keys true ns' ws) else du u w) else aA (nm a) (nm b):=by
 conv=>lhs;unfold JV.keys
 rw[bi,if_neg (by omega),if_neg (by omega)];simp only[if_true,List.headD_cons,List.tail_cons];rw[oM (oL a b),oM (yW u w),uW];rfl
theorem iR (o:Bool)(ns ns':List Nc)(us ws:List JV)(h:us = []\/ws = []):aA (JV.keys o ns us) (JV.keys o ns' ws)=if us.length<ws.length then -1 else if ws.length<us.length then 1 else 0:=by
 cases us with
 |nil=>
  cases ws with
  |nil=>simp[JV.keys,aA]
  |cons w ws=>simp[JV.keys,aA]
 |cons u us=>
  obtain rfl:ws = []:=by simpa using h
  simp[JV.keys,aA]
inductive Vl:JV->Prop
 |null:Vl (.mk 1 false ⟨#[]⟩ ⟨false,⟨#[]⟩,0⟩ [] [])
 |bool (b:Bool):Vl (.mk 2 b ⟨#[]⟩ ⟨false,⟨#[]⟩,0⟩ [] [])
 |num (d:Dc):sJ d->Vl (.mk 3 false ⟨#[]⟩ d [] [])
 |text (s:Nc):Vl (.mk 4 false s ⟨false,⟨#[]⟩,0⟩ [] [])
 |hole:Vl (.mk 7 false ⟨#[]⟩ ⟨false,⟨#[]⟩,0⟩ [] [])
 |list (ks:List JV):(∀u∈ks,Vl u)->Vl (.mk 5 false ⟨#[]⟩ ⟨false,⟨#[]⟩,0⟩ [] ks)
 |obj (ns:List Nc) (ks:List JV):ns.length=ks.length->(∀u∈ks,Vl u)->Vl (.mk 6 false ⟨#[]⟩ ⟨false,⟨#[]⟩,0⟩ ns ks)
theorem Pf.split {x s t:List Int}(h:Pf x y)(e:x++s=y++t):x=y/\s=t:=by
 rcases h with rfl|h
 .exact⟨rfl,List.append_cancel_left e⟩
 .have h1:=xL h s t;rw[e,eU] at h1;exact absurd h1.1.symm h1.2
theorem vw {us:List JV}(h:∀u∈us,∀w:JV,Vl w->u.key=w.key->u=w)(o:Bool):∀ (ns ms:List Nc) (ws:List JV),(∀w∈ws,Vl w)->JV.keys o ns us=JV.keys o ms ws->us=ws/\(o=true->ns.length=us.length->ms.length=ws.length->ns=ms):=by
 induction us with
 |nil=>
  intro ns ms ws hw e
  cases ws with
  |nil=>exact⟨rfl,fun _ h1 h2=>by rw[List.eq_nil_of_length_eq_zero h1,List.eq_nil_of_length_eq_zero h2]⟩
  |cons w ws=>simp[JV.keys] at e
 |cons u us ih=>
  intro ns ms ws hw e
  cases ws with
  |nil=>simp[JV.keys] at e
  |cons w ws=>
   simp only[JV.keys,List.cons.injEq,true_and] at e;have hp:Pf (if o then rh (ns.headD ⟨#[]⟩) else []) (if o then rh (ms.headD ⟨#[]⟩) else []):=by
    cases o
    .exact .inl rfl
    .exact oL _ _
   obtain⟨e1,e2⟩:=hp.split e;obtain⟨e3,e4⟩:=(yW u w).split e2;obtain rfl:=h u (by simp) w (hw w (by simp)) e3;obtain⟨rfl,h5⟩:=ih (fun u hu=>h u (Zm _ hu)) _ _ ws (fun w h=>hw w (Zm _ h)) e4;refine⟨rfl,fun ho h1 h2=>?_⟩;subst ho
   cases ns with
   |nil=>simp at h1
   |cons a ns=>
    cases ms with
    |nil=>simp at h2
    |cons b ms=>
     simp only[if_true,List.headD_cons] at e1;have h6:ns=ms:=h5 rfl (by simpa using h1) (by simpa using h2);rw[xf e1,h6]
theorem Vl.inj {u:JV}(hu:Vl u):∀w:JV,Vl w->u.key=w.key->u=w:=by
 induction hu with
 |null=>intro w hw e;cases hw <;> simp[JV.key] at e ⊢
 |bool b=>intro w hw e;cases hw <;> simp[JV.key] at e ⊢;rename_i c;cases b <;> cases c <;> simp at e ⊢
 |num d hd=>
  intro w hw e
  cases hw with
  |num d' hd'=>simp[JV.key] at e;rw[DX hd hd' e]
  |null|bool|text|hole|list|obj=>simp[JV.key] at e
 |text s=>
  intro w hw e
  cases hw with
  |text s'=>simp[JV.key] at e;rw[xf e]
  |null|bool|num|hole|list|obj=>simp[JV.key] at e
 |hole=>intro w hw e;cases hw <;> simp[JV.key] at e ⊢
 |list ks _ ih=>
  intro w hw e
  cases hw with
  |list ks' h'=>simp[JV.key] at e;rw[(vw ih false [] [] ks' h' e).1]
  |null|bool|num|hole|text|obj=>simp[JV.key] at e
 |obj ns ks hl _ ih=>
  intro w hw e
  cases hw with
  |obj ns' ks' hl' h'=>
   simp[JV.key] at e;obtain⟨h1,h2⟩:=vw ih true ns ns' ks' h' e;rw[h1,h2 rfl hl hl']
  |null|bool|num|hole|text|list=>simp[JV.key] at e
def Gm:Option JV->List Int
 |none=> [0]
 |some u=>u.key
def bF (a b:Option JV):Int:=aA (Gm a) (Gm b)
theorem ri {x z:List Int}(h1:aA x y<=0)(h2:aA y z<=0):aA x z<=0:=by
 by_cases e1:aA x y=0
 .rw[lz e1];exact h2
 .by_cases e2:aA y z=0
  .rw[<-lz e2];exact h1
  .have:=k8 (show aA x y<0 by omega) (show aA y z<0 by omega);omega
theorem Vl.kind {u:JV}(h:Vl u):1<=u.key.headD 0:=by cases h <;> simp[JV.key]
theorem BG {a b:Option JV}(ha:∀u,a=some u->Vl u)(hb:∀u,b=some u->Vl u):bF a b=0↔a=b:=by
 refine⟨fun h=>?_,fun e=>by subst e;exact eU _⟩;have e:=lz h
 cases a with
 |none=>
  cases b with
  |none=>rfl
  |some w=>
   have:=(hb w rfl).kind;simp only[Gm] at e;rw[<-e] at this;simp at this
 |some u=>
  cases b with
  |none=>
   have:=(ha u rfl).kind;simp only[Gm] at e;rw[e] at this;simp at this
  |some w=>rw[(ha u rfl).inj w (hb w rfl) e]
def dm (x:UInt8):Bool:=x==32||x==9||x==10||x==13
def em (x:UInt8):Bool:=decide (97<=x.toNat/\x.toNat<=122\/65<=x.toNat/\x.toNat<=90)
def eV (x:UInt8):Bool:=decide (48<=x.toNat/\x.toNat<=57)
def Lc (x:UInt8):Bool:=x==44||x==58||x==91||x==93||x==123||x==125
def cO (x:UInt8):Nat:=if dm x then 1 else if Lc x then 2 else if em x then 3 else if eV x||x==45 then 4 else if x==34 then 5 else 0
def bH (c:UInt8):Nat:=if c==45 then 0 else if c==43 then 1 else if c==48 then 2 else if decide (49<=c.toNat/\c.toNat<=57) then 3 else if c==46 then 4 else if c==101||c==69 then 5 else 6
def px:List Nat:= [1,9,2,3,9,9,9,9,2,3,9,9,9,9,9,9,4,6,9,9,3,3,4,6,9,9,5,5,9,9,9,9,5,5,9,6,7,7,8,8,9,9,9,9,8,8,9,9,9,9,8,8,9,9]
def fm (s k:Nat):Nat:=if k<6 then px.getD (s*6+k) 9 else 9
structure NS where
 neg:Bool
 down:Bool
 digs:Na
 part:Nat
 exps:Na
 st:Nat
 n:Nat
def jn:NS:=⟨false,false, [],0, [],0,0⟩
def NS.next (t:NS)(c:UInt8):NS:=
 let s:=fm t.st (bH c)
 {neg:=t.neg||s==1
  down:=if s=7 then c==45 else t.down
  digs:=if s=2\/s=3\/s=5 then t.digs ++ [c] else t.digs
  part:=if s=5 then t.part+1 else t.part
  exps:=if s=8 then t.exps ++ [c] else t.exps
  st:=s
  n:=t.n+1}
def aG:NS->Na->NS
 |t, []=>t
 |t,c::xs=>if fm t.st (bH c)=9 then t else aG (t.next c) xs
def eG (s:Nat):Bool:=s==2||s==3||s==5||s==8
def ea (l:Na):Na:=l.dropWhile (· == 48)
def o8 (l:Na):Na:=(ea l.reverse).reverse
def ku (l:Na):Nat:=l.foldl (fun a c=>a*10+ (c.toNat - 48)) 0
def gT (t:NS):Int:=
 let e:=ea t.exps
 let n:Int:=if e.length<=12 then ku e else 1099511627776
 if t.down then -n else n
def pH (x:Int):Int:=max (-2199023255552) (min x 2199023255552)
def jv (neg:Bool)(digs:Na)(exp more:Int):Option Dc:=
 let d:=ea digs
 if d = [] then some ⟨false,⟨#[48]⟩,0⟩ else
 let s:=o8 d
 let x:=pH exp+more+ (d.length - s.length:Int)
 if -1000000000<=x/\x<=1000000000 then some ⟨neg,⟨s.toArray⟩,x⟩ else none
def pU (xs:Na):Option (Dc×Nat):=
 let t:=aG jn xs
 if eG t.st then(jv t.neg t.digs (gT t) (-(t.part:Int))).map fun d=>(d,t.n) else none
def jq (c:UInt8):Option Nat:=if 48<=c.toNat/\c.toNat<=57 then some (c.toNat - 48) else if 97<=c.toNat/\c.toNat<=102 then some (c.toNat - 87) else if 65<=c.toNat/\c.toNat<=70 then some (c.toNat - 55) else none
def dj:Na->Option Nat
 |a::b::c::d::_=>do
  let a <-jq a;let b <-jq b;let c <-jq c;let d <-jq d
  return ((a*16+b)*16+c)*16+d
 |_=>none
def lm (xs:Na):Option (Nat×Nat):=do
 let x <-dj xs
 if x<55296\/57343<x then return (x,6)
 match xs.drop 4 with
 |a::b::ys=>if x>56319\/a≠92\/b≠117 then none else do
  let y <-dj ys
  if y<56320\/57343<y then none else return (65536+ (x - 55296)*1024+ (y - 56320),12)
 |_=>none
def wR:Na->Option (Nat×Nat)
 |98::_=>some (8,2)
 |116::_=>some (9,2)
 |110::_=>some (10,2)
 |102::_=>some (12,2)
 |114::_=>some (13,2)
 |34::_=>some (34,2)
 |92::_=>some (92,2)
 |47::_=>some (47,2)
 |117::xs=>lm xs
 |_=>none
def cf:Na->Option (Option (Nat×Nat))
 | []=>none
 |x::xs=>if x=34 then some none else if x=92 then(wR xs).map some else if x.toNat<32 then none
  else if(bK (x::xs)).2.2=0 then some (some ((bK (x::xs)).1,(bK (x::xs)).2.1)) else none
def gV:Nat->Na->Na->Nat->Option (Na×Nat)
 |0,_,_,_=>none
 |f+1,xs,out,n=>match cf xs with
  |none=>none
  |some none=>some (out,n+1)
  |some (some (c,k))=>gV f (xs.drop k) (out++bL c) (n+k)
def oa:Na->Option (Na×Nat)
 |34::xs=>gV (xs.length+1) xs [] 1
 |_=>none
inductive uE where
 |mark (c:UInt8)
 |str (s:Nc)
 |leaf (j:JV)
def kC:JV:=.mk 1 false ⟨#[]⟩ ⟨false,⟨#[]⟩,0⟩ [] []
def gB (b:Bool):JV:=.mk 2 b ⟨#[]⟩ ⟨false,⟨#[]⟩,0⟩ [] []
def eC (d:Dc):JV:=.mk 3 false ⟨#[]⟩ d [] []
def fB (s:Nc):JV:=.mk 4 false s ⟨false,⟨#[]⟩,0⟩ [] []
def ei (ks:List JV):JV:=.mk 5 false ⟨#[]⟩ ⟨false,⟨#[]⟩,0⟩ [] ks
def od (ms:List (Nc×JV)):JV:=.mk 6 false ⟨#[]⟩ ⟨false,⟨#[]⟩,0⟩ (ms.map Prod.fst) (ms.map Prod.snd)
def uY (w:Na):Option JV:=if w = [110,117,108,108] then some kC else if w = [116,114,117,101] then some (gB true) else if w = [102,97,108,115,101] then some (gB false) else none
def dM:Na->Option (uE×Nat)
 | []=>none
 |x::xs=>match cO x with
  |2=>some (.mark x,1)
  |3=>(uY (x::xs.takeWhile em)).map fun j=>(.leaf j,1+ (xs.takeWhile em).length)
  |4=>(pU (x::xs)).map fun p=>(.leaf (eC p.1),p.2)
  |5=>(oa (x::xs)).map fun p=>(.str ⟨p.1.toArray⟩,p.2)
  |_=>none
structure Fr where
 obj:Bool
 items:List JV
 mems:List (Nc×JV)
 name:Option Nc
structure dT where
 frs:List Fr
 want:Nat
 done:Option JV
def BH (want:Nat)(c:UInt8):Bool:=(match want with
 |0=> [91,123]
 |1=> [91,123,93]
 |3=> [125]
 |4=> [58]
 |5=> [44,93]
 |6=> [44,125]
 |_=>([]:Na)).contains c
def dq (frs:List Fr)(j:JV):dT:=match frs with
 | []=>⟨[],7,some j⟩
 |f::fs=>if f.obj then⟨{f with mems:=f.mems ++ [(f.name.getD ⟨#[]⟩,j)],name:=none}::fs,6,none⟩ else⟨{f with items:=f.items ++ [j]}::fs,5,none⟩
def uA (m:Nc×JV):List (Nc×JV)->List (Nc×JV)
 | []=> [m]
 |x::l=>if aA (nm m.1) (nm x.1)<0 then m::x::l else x::uA m l
def gX (l:List (Nc×JV)):List (Nc×JV):=l.foldr uA []
def et (f:Fr):JV:=if f.obj then od (gX f.mems) else ei f.items
def eh (c:dT):uE->Option dT
 | .mark x=>if BH c.want x then
   (if x=91 then some ⟨⟨false, [], [],none⟩::c.frs,1,none⟩
   else if x=123 then some ⟨⟨true, [], [],none⟩::c.frs,3,none⟩
   else match c.frs with
    | []=>none
    |f::fs=>if x=93\/x=125 then some (dq fs (et f)) else if x=44 then some ⟨f::fs,if f.obj then 2 else 0,none⟩ else some ⟨f::fs,0,none⟩) else none
 | .str s=>if c.want=2\/c.want=3 then(match c.frs with
   | []=>none
   |f::fs=>if f.mems.any (fun p=>decide (p.1=s)) then none else some ⟨{f with name:=some s}::fs,4,none⟩)
  else if c.want=0\/c.want=1 then some (dq c.frs (fB s)) else none
 | .leaf j=>if c.want=0\/c.want=1 then some (dq c.frs j) else none
def FK:Nat->dT->Na->Option JV
 |0,_,_=>none
 |f+1,c,xs=>match xs.dropWhile dm with
  | []=>if c.want=7 then c.done else none
  |y::ys=>match dM (y::ys) with
   |none=>none
   |some (t,n)=>match eh c t with
    |none=>none
    |some c'=>FK f c' ((y::ys).drop n)
def fN (xs:Na):Option JV:=FK (xs.length+1) ⟨[],0,none⟩ xs
inductive ef:dT->Na->dT->Na->Prop
 |refl (c:dT) (xs:Na):ef c xs c xs
 |step {c c' c'':dT} {xs ys zs:Na} {y:UInt8} {t:uE} {n:Nat} (h1:xs.dropWhile dm=y::ys) (h2:dM (y::ys)=some (t,n)) (h3:eh c t=some c') (h4:ef c' ((y::ys).drop n) c'' zs):ef c xs c'' zs
theorem ef.trans {a b c:dT}(h:ef a xs b ys)(k:ef b ys c zs):ef a xs c zs:=by
 induction h with
 |refl=>exact k
 |step h1 h2 h3 _ ih=>exact .step h1 h2 h3 (ih k)
theorem ef.one {c c':dT}{y:UInt8}{t:uE}(h1:dm y=false)(h2:dM (y::ys)=some (t,n))(h3:eh c t=some c'):ef c (y::ys) c' ((y::ys).drop n):=
 .step (by rw[List.dropWhile_cons,if_neg (by simp[h1])]) h2 h3 (.refl _ _)
theorem qg:∀ (xs:Na) (t:NS),t.n<=(aG t xs).n/\(aG t xs).n<=t.n+xs.length
 | [],t=>⟨Zb _,Zb _⟩
 |c::xs,t=>by
  unfold aG
  split
  .exact⟨Zb _,by simp⟩
  .have:=qg xs (t.next c);simp only[NS.next,List.length_cons] at this ⊢;omega
theorem xh {x:UInt8}{p:Dc×Nat}(h:pU (x::xs)=some p):1<=p.2/\p.2<=xs.length+1:=by
 simp only[pU] at h
 split at h
 .rename_i hw
  rw[Option.map_eq_some_iff] at h;obtain⟨d,-,rfl⟩:=h;have hb:=qg (x::xs) jn;refine⟨?_,by simpa [jn] using hb.2⟩;unfold aG at hw ⊢
  split at hw
  .simp[jn,eG] at hw
  .rename_i h9
   rw[if_neg h9];have:=(qg xs (jn.next x)).1;simp only[NS.next,jn] at this ⊢;omega
 .cases h
theorem Ba:∀ (f:Nat) (xs out:Na) (n:Nat) (p:Na×Nat),gV f xs out n=some p->n+1<=p.2
 |0,_,_,_,_,h=>by cases h
 |f+1,xs,out,n,p,h=>by
  unfold gV at h
  split at h
  .cases h
  .injection h with h;subst h;exact Zb _
  .have:=Ba f _ _ _ p h;omega
theorem FV {t:uE}(h:dM xs=some (t,n)):1<=n/\xs≠ []:=by
 cases xs with
 |nil=>cases h
 |cons x xs=>
  refine⟨?_,by simp⟩;simp only[dM] at h
  split at h
  .injection h with h;injection h with _ h;omega
  .rw[Option.map_eq_some_iff] at h;obtain⟨j,-,h⟩:=h;injection h with _ h;omega
  .rw[Option.map_eq_some_iff] at h;obtain⟨p,hp,h⟩:=h;injection h with _ h
   have:=xh hp;omega
  .rw[Option.map_eq_some_iff] at h;obtain⟨p,hp,h⟩:=h;injection h with _ h
   unfold oa at hp
   split at hp
   .have:=Ba _ _ _ _ _ hp;omega
   .cases hp
  .cases h
theorem i1 (xs:Na):(xs.dropWhile dm).length<=xs.length:=(List.dropWhile_sublist _).length_le
theorem B7 (x:UInt8):((bH x:Nat):Int)=if(x.toNat:Int)=45 then 0 else if(x.toNat:Int)=43 then 1 else if(x.toNat:Int)=48 then 2 else if 49<=(x.toNat:Int)/\(x.toNat:Int)<=57 then 3 else if(x.toNat:Int)=46 then 4 else if(x.toNat:Int)=101\/(x.toNat:Int)=69 then 5 else 6:=by
 have h:∀n:Nat,n<256->((bH (UInt8.ofNat n):Nat):Int)=if(n:Int)=45 then 0 else if(n:Int)=43 then 1 else if(n:Int)=48 then 2 else if 49<=(n:Int)/\(n:Int)<=57 then 3 else if(n:Int)=46 then 4 else if(n:Int)=101\/(n:Int)=69 then 5 else 6:=by decide +kernel
 have:=h x.toNat x.toNat_lt
 rwa[UInt8.ofNat_toNat] at this
theorem wW (x:UInt8)(w:Wd):Calls prog 251 #[.int .u8 x.toNat] w fun e w'=>e = ((bH x:Nat):Int)/\w=w':=by
 rw[B7];have hx:=x.toNat_lt;obtain⟨c,hc⟩:=y7 ((x.toNat:Int):Int);have h0:0<=c:=by omega
 have h1:c<256:=by omega
 rw[hc];clear hx hc;go_in;go_wp2
 all_goals go_ret
 all_goals refine⟨AY ?_,rfl⟩
 all_goals (simp_all <;> omega)
theorem rV (t:NS)(vd ve:Value)(w:Wd):Calls prog 241 #[.agg #[.bool t.neg,.bool t.down,vd,(t.part:Int),ve,(t.st:Int),(t.n:Int)]] w (y4 (.bool (eG t.st)) w):=by
 obtain⟨neg,down,digs,part,exps,st,n⟩:=t
 dsimp only
 have hw:eG st= (decide ((st:Int)=2)||decide ((st:Int)=3)||decide ((st:Int)=5)||decide ((st:Int)=8)):=by
  unfold eG;rw[Bool.eq_iff_iff];simp;omega
 rw[hw];obtain⟨z,hz⟩:=y7 ((st:Int):Int);rw[hz];clear hz hw;have hb:=aa w (.cells #[.bool neg,.bool down,vd,(part:Int),ve,(z:Int),(n:Int)] 372);go_in;go_wp2
 all_goals go_ret
 all_goals refine⟨bP ?_,hb⟩
 all_goals (simp_all <;> omega)
theorem wI {p:UInt8->Bool}(h:∀n,n<256->p (UInt8.ofNat n)=true)(c:UInt8):p c=true:=by
 have:=h c.toNat c.toNat_lt
 rwa[UInt8.ofNat_toNat] at this
theorem xF {c:UInt8}(h:eV c=true):bH c=2\/bH c=3:=by
 have:=wI (p:=fun c=> !eV c||(bH c==2||bH c==3)) (by decide +kernel) c;simp[h] at this;exact this
theorem IS {c:UInt8}(h:eV c=true)(h0:c≠48):bH c=3:=by
 have:=wI (p:=fun c=> !eV c||(c==48||bH c==3)) (by decide +kernel) c;simpa [h,h0] using this
def rT (zs:Na):Prop:= ∀c l,zs=c::l->bH c=6
theorem kZ {t:NS}(h:rT zs):aG t zs=t:=by
 cases zs with
 |nil=>rfl
 |cons c l=>
  unfold aG;rw[h c l rfl,if_pos (by simp[fm])]
theorem DG {s:Nat}(hs:s=3\/s=5\/s=8){k:Nat}(hk:k=2\/k=3):fm s k=s:=by
 rcases hs with rfl|rfl|rfl <;> rcases hk with rfl|rfl <;> rfl
theorem ll {s:Nat}(hs:s=3\/s=5\/s=8):∀ (ds:Na) (t:NS) (zs:Na),t.st=s->(∀c∈ds,eV c=true)->
  aG t (ds++zs)=aG {neg:=t.neg,down:=t.down,digs:=if s=8 then t.digs else t.digs++ds,part:=if s=5 then t.part+ds.length else t.part,exps:=if s=8 then t.exps++ds else t.exps,st:=t.st,n:=t.n+ds.length} zs
 | [],t,zs,h,_=>by obtain⟨a,b,c,d,e,f,g⟩:=t;simp
 |c::ds,t,zs,h,hd=>by
  have hk:=DG hs (xF (hd c (by simp)));rw[<-h] at hk;have h1:aG t (c::ds++zs)=aG (t.next c) (ds++zs):=by
   show aG t (c:: (ds++zs))=_
   conv=>lhs;unfold aG
   rw[hk,h,if_neg (by omega)]
  have hn:(t.next c).st=s:=by show fm t.st (bH c)=s;rw[hk,h]
  rw[h1,ll hs ds _ zs hn (fun c hc=>hd c (Zm _ hc))];obtain⟨a,b,c',d,e,f,g⟩:=t;simp only at h hk;subst h;simp only[NS.next,hk,List.length_cons];rcases hs with rfl|rfl|rfl <;> simp[Nat.add_assoc,Nat.add_comm 1]
theorem lj {c:UInt8}(h:c≠48):ea (c::l)=c::l:=by
 unfold ea;rw[List.dropWhile_cons,if_neg (by simpa using h)]
theorem zh (h:∀c,l.getLast?=some c->c≠48):o8 l=l:=by
 unfold o8
 cases hr:l.reverse with
 |nil=>simp[ea];simpa using hr.symm
 |cons c m=>
  rw[lj (h c (by rw[List.getLast?_eq_head?_reverse,hr];rfl)),<-hr,List.reverse_reverse]
theorem rX (l:Na)(c:UInt8):ku (l ++ [c])=ku l*10+ (c.toNat - 48):=by
 unfold ku;rw[List.foldl_append];rfl
theorem GG {k:Nat}(h:k<10):(UInt8.ofNat (48+k)).toNat=48+k:=bY _ (by omega)
theorem Bt {k:Nat}(h:k<10):eV (UInt8.ofNat (48+k))=true:=by unfold eV;rw[GG h];simp;omega
theorem qS (u:Nat):∀c∈Lib.decDigits u,eV c=true:=by
 induction u using Nat.strongRecOn with
 |ind u ih=>
  rw[Lib.decDigits]
  split
  .rename_i h
   intro c hc;rw[List.mem_singleton.1 hc];exact Bt h
  .intro c hc;rcases List.mem_append.1 hc with hc|hc
   .exact ih (u/10) (by omega) c hc
   .rw[List.mem_singleton.1 hc];exact Bt (by omega)
theorem En (u:Nat):ku (Lib.decDigits u)=u:=by
 induction u using Nat.strongRecOn with
 |ind u ih=>
  rw[Lib.decDigits]
  split
  .rename_i h
   show 0*10+ ((UInt8.ofNat (48+u)).toNat - 48)=u
   rw[GG h];omega
  .rw[rX,ih (u/10) (by omega),GG (by omega)];omega
theorem o7 (u:Nat):∃c l,Lib.decDigits u=c::l/\(0<u->c≠48):=by
 induction u using Nat.strongRecOn with
 |ind u ih=>
  rw[Lib.decDigits]
  split
  .rename_i h
   refine⟨_, [],rfl,fun h0 e=>?_⟩;have:=congrArg UInt8.toNat e;rw[GG h] at this;simp at this;omega
  .obtain⟨c,l,h1,h2⟩:=ih (u/10) (by omega);rw[h1];exact⟨c,_,rfl,fun _=>h2 (by omega)⟩
theorem iq {u:Nat}(h:u<=1000000000):(Lib.decDigits u).length<=10:=by
 rw[Lib.decDigits_length];rw[Lib.nDigits];split
 .omega
 rw[Lib.nDigits];split
 .omega
 rw[Lib.nDigits];split
 .omega
 rw[Lib.nDigits];split
 .omega
 rw[Lib.nDigits];split
 .omega
 rw[Lib.nDigits];split
 .omega
 rw[Lib.nDigits];split
 .omega
 rw[Lib.nDigits];split
 .omega
 rw[Lib.nDigits];split
 .omega
 rw[Lib.nDigits];split
 .omega
 .omega
def gW (x:Int):Na:=if x=0 then [] else 101::Lib.itoa x
def fL (d:Dc):Na:=(if d.neg then [45] else [])++ (d.digits.data.toList++gW d.exp)
structure KZ (l:Na):Prop where
 dig:∀c∈l,eV c=true
 ne:l≠ []
 first:∀c,l.head?=some c->c≠48
 nU:∀c,l.getLast?=some c->c≠48
def kA (d:Dc):Prop:=d= ⟨false,⟨#[48]⟩,0⟩\/(KZ d.digits.data.toList/\ -1000000000<=d.exp/\d.exp<=1000000000)
theorem Ck {t:NS}(ht:t.st=3\/t.st=2)(h0:t.exps = [])(hd:t.down=false)(x:Int)(hx: -1000000000<=x/\x<=1000000000)(hz:rT zs) :
  ∃t',aG t (gW x++zs)=t'/\t'.neg=t.neg/\t'.digs=t.digs/\t'.part=t.part/\t'.n=t.n+ (gW x).length/\eG t'.st=true/\gT t'=x:=by
 unfold gW
 by_cases h:x=0
 .subst h;rw[if_pos rfl,List.nil_append,kZ hz];refine⟨t,rfl,rfl,rfl,rfl,rfl,?_,?_⟩
  .rcases ht with h|h <;> rw[h] <;> rfl
  .unfold gT;rw[h0,hd];simp[ea,ku]
 .rw[if_neg h];have e1:aG t (101::Lib.itoa x++zs)=aG (t.next 101) (Lib.itoa x++zs):=by
   show aG t (101:: (Lib.itoa x++zs))=_
   conv=>lhs;unfold aG
   rw[if_neg (by rcases ht with h|h <;> rw[h] <;> decide)]
  have s1:(t.next 101).st=6:=by simp only[NS.next];rcases ht with h|h <;> rw[h] <;> rfl
  have q1:(t.next 101).neg=t.neg/\(t.next 101).digs=t.digs/\(t.next 101).part=t.part/\(t.next 101).n=t.n+1/\(t.next 101).exps = []/\(t.next 101).down=false:=by
   have s1':=s1;simp only[NS.next] at s1' ⊢;rw[s1'];simp[h0,hd]
  rw[e1];generalize t.next 101=u at s1 q1;obtain⟨k1,k2,k3,k4,k5,k6⟩:=q1
  -- the digits
  have main:∀ (v:NS) (m:Nat),(v.st=6\/v.st=7)->v.exps = []->0<m->m<=1000000000->∃t',aG v (Lib.decDigits m++zs)=t'/\t'.neg=v.neg/\t'.digs=v.digs/\t'.part=v.part/\t'.n=v.n+ (Lib.decDigits m).length/\eG t'.st=true/\gT t'=if v.down then -(m:Int) else m:=by
   intro v m hv he hm a3;obtain⟨c,l,hc,a2⟩:=o7 m;have a0:=qS m;rw[hc] at a0;have hk:=xF (a0 c (by simp));have g8:fm v.st (bH c)=8:=by rcases hv with h|h <;> rcases hk with h'|h' <;> rw[h,h'] <;> rfl
   have e2:aG v (Lib.decDigits m++zs)=aG (v.next c) (l++zs):=by
    rw[hc]
    show aG v (c:: (l++zs))=_
    conv=>lhs;unfold aG
    rw[g8,if_neg (by omega)]
   have s2:(v.next c).st=8:=by simp only[NS.next];exact g8
   refine⟨_,rfl,?_⟩;rw[e2,ll (.inr (.inr rfl)) l _ zs s2 (fun c h=>a0 c (Zm _ h)),kZ hz];have hlen:=iq a3;rw[hc] at hlen;have a4:v.exps ++ [c]++l=Lib.decDigits m:=by rw[he,hc];rfl
   have a1:(v.next c).exps++l=Lib.decDigits m:=by simp only[NS.next,g8];simpa [he] using hc.symm
   refine⟨by simp[NS.next,g8],by simp[NS.next,g8],by simp[NS.next,g8],by simp[NS.next,hc];omega,by show eG (v.next c).st=true;rw[s2];rfl,?_⟩;unfold gT;simp only[if_true,a1];have e4:(if(c::l).length<=12 then((ku (c::l):Nat):Int) else 1099511627776)=m:=by rw[if_pos (by omega),<-hc,En]
   rw[hc,lj (a2 hm),e4];simp[NS.next,g8]
  by_cases hn:x<0
  .obtain⟨m,rfl⟩:∃m:Nat,x = -(m:Int):=⟨x.natAbs,by omega⟩;rw[Lib.itoa_neg m (by omega)];have e3:aG u (45::Lib.decDigits m++zs)=aG (u.next 45) (Lib.decDigits m++zs):=by
    show aG u (45:: (Lib.decDigits m++zs))=_
    conv=>lhs;unfold aG
    rw[s1,if_neg (by decide)]
   have g7:fm u.st (bH 45)=7:=by rw[s1];rfl
   obtain⟨t',r1,r2,r3,r4,r5,r6,r7⟩:=main (u.next 45) m (by simp[NS.next,g7]) (by simp[NS.next,g7,k5]) (by omega) (by omega);refine⟨t',by rw[e3,r1],?_,?_,?_,?_,r6,?_⟩
   .rw[r2,<-k1];simp[NS.next,g7]
   .rw[r3,<-k2];simp[NS.next,g7]
   .rw[r4,<-k3];simp[NS.next,g7]
   .rw[r5,show(u.next 45).n=u.n+1 from rfl,k4];simp;omega
   .rw[r7];simp[NS.next,g7]
  .obtain⟨m,rfl⟩:∃m:Nat,x= (m:Int):=⟨x.natAbs,by omega⟩;rw[Lib.itoa_nonneg m];obtain⟨t',r1,r2,r3,r4,r5,r6,r7⟩:=main u m (.inl s1) k5 (by omega) (by omega);exact⟨t',r1,r2.trans k1,r3.trans k2,r4.trans k3,by rw[r5,k4];simp;omega,r6,by rw[r7,k6];simp⟩
theorem xp {x:Int}(h: -1000000000<=x/\x<=1000000000):pH x=x:=by unfold pH;omega
theorem Fp (h:kA d)(hz:rT zs):pU (fL d++zs)=some (d,(fL d).length):=by
 rcases h with rfl|⟨hl,hx⟩
 .have e:fL ⟨false,⟨#[48]⟩,0⟩++zs=48::zs:=rfl;have e1:aG jn (48::zs)=jn.next 48:=by
   conv=>lhs;unfold aG
   rw[if_neg (by decide),kZ hz]
  simp only[pU,e,e1];rfl
 .obtain⟨neg,⟨⟨ds⟩⟩,x⟩:=d;simp only[fL] at hl hx ⊢;obtain⟨hd,hne,hf,a1⟩:=hl
  cases ds with
  |nil=>exact absurd rfl hne
  |cons c l=>
   have a0:=hf c rfl;have hk:=IS (hd c (by simp)) a0;have key:∀v:NS,(v.st=0\/v.st=1)->v.exps = []->v.down=false->v.digs = []->v.part=0->∃t',aG v ((c::l++gW x)++zs)=t'/\t'.neg=v.neg/\t'.digs=c::l/\t'.part=0/\t'.n=v.n+ (c::l++gW x).length/\eG t'.st=true/\gT t'=x:=by
    intro v hv h1 h2 h3 h4;have g3:fm v.st (bH c)=3:=by rcases hv with h|h <;> rw[h,hk] <;> rfl
    have e2:aG v ((c::l++gW x)++zs)=aG (v.next c) (l++ (gW x++zs)):=by
     rw[List.append_assoc]
     show aG v (c:: (l++ (gW x++zs)))=_
     conv=>lhs;unfold aG
     rw[g3,if_neg (by omega)]
    have s2:(v.next c).st=3:=by simp only[NS.next];exact g3
    rw[e2,ll (.inl rfl) l _ _ s2 (fun c h=>hd c (Zm _ h))];obtain⟨t',r1,r2,r3,r4,r5,r6,r7⟩:=Ck (t:={neg:=(v.next c).neg,down:=(v.next c).down,digs:=if 3=8 then(v.next c).digs else(v.next c).digs++l,part:=if 3=5 then(v.next c).part+l.length else(v.next c).part,exps:=if 3=8 then(v.next c).exps++l else(v.next c).exps,st:=(v.next c).st,n:=(v.next c).n+l.length}) (.inl s2) (by simp[NS.next,g3,h1]) (by simp[NS.next,g3,h2]) x hx hz;refine⟨t',r1,?_,?_,?_,?_,r6,r7⟩
    .rw[r2];simp[NS.next,g3]
    .rw[r3];simp[NS.next,g3,h3]
    .rw[r4];simp[NS.next,g3,h4]
    .rw[r5];simp[NS.next];omega
   have fin:∀t':NS,t'.neg=neg->t'.digs=c::l->t'.part=0->eG t'.st=true->gT t'=x->(if eG t'.st then(jv t'.neg t'.digs (gT t') (-(t'.part:Int))).map fun d=>(d,t'.n) else none)=some (⟨neg,⟨(c::l).toArray⟩,x⟩,t'.n):=by
    intro t' h1 h2 h3 h4 h5;rw[if_pos h4,h1,h2,h3,h5];simp only[jv,lj a0,zh a1,xp hx];simp[hx]
   cases neg with
   |false=>
    obtain⟨t',r1,r2,r3,r4,r5,r6,r7⟩:=key jn (.inl rfl) rfl rfl rfl rfl;simp only[pU,Bool.false_eq_true,if_false,List.nil_append,r1];rw[fin t' r2 r3 r4 r6 r7,r5];simp[jn]
   |true=>
    have e3:aG jn (([45]++ (c::l++gW x))++zs)=aG (jn.next 45) ((c::l++gW x)++zs):=by
     show aG jn (45:: ((c::l++gW x)++zs))=_
     conv=>lhs;unfold aG
     rw[if_neg (by decide)]
    obtain⟨t',r1,r2,r3,r4,r5,r6,r7⟩:=key (jn.next 45) (.inr rfl) rfl rfl rfl rfl;simp only[pU,if_true,e3,r1];rw[fin t' r2 r3 r4 r6 r7,r5];simp[jn,NS.next];omega
def qX (n:Nat):UInt8:=if n<10 then UInt8.ofNat (48+n) else UInt8.ofNat (87+n)
def de (c:Int):Na:=
 if c=34 then [92,34] else if c=92 then [92,92] else if c=8 then [92,98] else if c=9 then [92,116] else if c=10 then [92,110] else if c=12 then [92,102] else if c=13 then [92,114]
 else if c<32 then [92,117,48,48,qX (c.toNat/16),qX (c.toNat % 16)] else bL c
def mR (cs:List Int):Na:=34:: (cs.flatMap de ++ [34])
def eK (s:Nc):Na:=mR (nm s)
theorem EH (h:dY c=true)(a1:32<=c)(a0:c≠34)(a2:c≠92):∃x l,bL c=x::l/\x≠34/\x≠92/\¬x.toNat<32:=by
 have hr:=h;rw[cP] at h;simp at h
 by_cases h1:c<128
 .refine⟨_, [],mV c h1,?_,?_,?_⟩
  .intro e;have:=congrArg UInt8.toNat e;rw[bY _ (by omega)] at this;simp at this;omega
  .intro e;have:=congrArg UInt8.toNat e;rw[bY _ (by omega)] at this;simp at this;omega
  .rw[bY _ (by omega)];omega
 .have key:∃n l,bL c=UInt8.ofNat n::l/\128<=n/\n<256:=by
   by_cases h2:c<2048
   .exact⟨_,_,rF c ⟨by omega,h2⟩,by omega,by omega⟩
   .by_cases h3:c<65536
    .exact⟨_,_,pY c ⟨by omega,h3⟩ (by omega),by omega,by omega⟩
    .exact⟨_,_,r9 c ⟨by omega,by omega⟩,by omega,by omega⟩
  obtain⟨n,l,e,h3,h4⟩:=key;refine⟨_,l,e,?_,?_,?_⟩
  .intro e;have:=congrArg UInt8.toNat e;rw[bY _ h4] at this;simp at this;omega
  .intro e;have:=congrArg UInt8.toNat e;rw[bY _ h4] at this;simp at this;omega
  .rw[bY _ h4];omega
theorem CS (h:dY c=true)(a1:32<=c)(a0:c≠34)(a2:c≠92)(zs:Na):cf (bL c++zs)=some (some (c,(bL c).length)):=by
 obtain⟨x,l,e,h1,h2,h3⟩:=EH h a1 a0 a2;have hd:=jr c h zs;rw[e] at hd ⊢;rw[List.cons_append] at hd ⊢;simp only[cf];rw[if_neg h1,if_neg h2,if_neg h3,hd];rfl
theorem rD (n:Nat)(h:n<16):jq (qX n)=some n:=by
 have:∀n,n<16->jq (qX n)=some n:=by decide +kernel
 exact this n h
theorem rO (h:dY c=true)(zs:Na):cf (de c++zs)=some (some (c,(de c).length)):=by
 unfold de
 by_cases h34:(c:Int)=34
 .rw[if_pos h34];obtain rfl:c=34:=by omega
  rfl
 rw[if_neg h34]
 by_cases h92:(c:Int)=92
 .rw[if_pos h92];obtain rfl:c=92:=by omega
  rfl
 rw[if_neg h92]
 by_cases h8:(c:Int)=8
 .rw[if_pos h8];obtain rfl:c=8:=by omega
  rfl
 rw[if_neg h8]
 by_cases h9:(c:Int)=9
 .rw[if_pos h9];obtain rfl:c=9:=by omega
  rfl
 rw[if_neg h9]
 by_cases h10:(c:Int)=10
 .rw[if_pos h10];obtain rfl:c=10:=by omega
  rfl
 rw[if_neg h10]
 by_cases h12:(c:Int)=12
 .rw[if_pos h12];obtain rfl:c=12:=by omega
  rfl
 rw[if_neg h12]
 by_cases h13:(c:Int)=13
 .rw[if_pos h13];obtain rfl:c=13:=by omega
  rfl
 rw[if_neg h13]
 by_cases h32:(c:Int)<32
 .rw[if_pos h32];have e1:=rD (c/16) (by omega);have e2:=rD (c % 16) (by omega);have e3:dj (48::48::qX (c/16)::qX (c % 16)::zs)=some c:=by
   simp only[dj,e1,e2,show jq 48=some 0 from rfl,bind,pure,Option.bind]
   congr 1;omega
  show cf (92::117::48::48::qX (c/16)::qX (c % 16)::zs)=some (some (c,6))
  simp only[cf];rw[if_neg (by decide),if_pos trivial]
  show(lm (48::48::qX (c/16)::qX (c % 16)::zs)).map some=_
  unfold lm;simp only[e3,bind,pure,Option.bind];rw[if_pos (by omega)];rfl
 .rw[if_neg h32];exact CS h (by omega) (by omega) (by omega) zs
theorem D8 (h:dY c=true):1<=(de c).length:=by
 have:=rO h [];rcases hl:de c with _|⟨x,l⟩
 .rw[hl] at this;simp[cf] at this
 .simp
theorem vX:∀ (cs:List Int) (f:Nat) (out:Na) (n:Nat) (zs:Na),(∀c∈cs,dY c=true)->cs.length<f->gV f (cs.flatMap de++34::zs) out n=some (out++cs.flatMap bL,n+ (cs.flatMap de).length+1)
 | [],0,_,_,_,_,h=>absurd h (Nat.not_lt_zero _)
 | [],f+1,out,n,zs,_,_=>by
  show gV (f+1) (34::zs) out n=_
  simp[gV,cf]
 |c::cs,0,_,_,_,_,h=>absurd h (Nat.not_lt_zero _)
 |c::cs,f+1,out,n,zs,hc,h=>by
  have h0:=hc c (by simp);obtain⟨k,rfl⟩:∃k:Nat,c=k:=⟨c.toNat,by have:=eJ h0;omega⟩;have hp:=rO h0 (cs.flatMap de++34::zs);have e:(((k:Int)::cs).flatMap de++34::zs)=de k++ (cs.flatMap de++34::zs):=by simp
  rw[e];unfold gV;rw[hp];simp only[List.drop_left];rw[vX cs f _ _ zs (fun c h=>hc c (Zm _ h)) (by simpa using h)];simp[Nat.add_assoc]
theorem EA {cs:List Int}(hc:∀c∈cs,dY c=true)(zs:Na):oa (mR cs++zs)=some (cs.flatMap bL,(mR cs).length):=by
 have hl:∀ {cs:List Int},(∀c∈cs,dY c=true)->cs.length<=(cs.flatMap de).length:=by
  intro cs
  induction cs with
  |nil=>intro _;simp
  |cons c cs ih=>
   intro hc;have h0:=hc c (by simp);obtain⟨k,rfl⟩:∃k:Nat,c=k:=⟨c.toNat,by have:=eJ h0;omega⟩;have:=D8 h0;have:=ih (fun c h=>hc c (Zm _ h));rw[List.flatMap_cons,List.length_append,List.length_cons];omega
 have e:mR cs++zs=34:: (cs.flatMap de++34::zs):=by simp[mR]
 rw[e]
 show gV _ _ [] 1=_
 rw[vX cs _ [] 1 zs hc (by have:=hl hc;rw[List.length_append];omega)];simp[mR];omega
def dS (s:Nc):Prop:= ∃cs:List Int,(∀c∈cs,dY c=true)/\s.data.toList=cs.flatMap bL
theorem dS.nm {s:Nc}(h:dS s):(∀c∈nm s,dY c=true)/\(nm s).flatMap bL=s.data.toList:=by
 obtain⟨cs,h1,h2⟩:=h;have e:Proofs.YtimbegpgemkpkaaGreatDoor.nm s=cs:=by unfold Proofs.YtimbegpgemkpkaaGreatDoor.nm;rw[h2];exact jm dP h1
 rw[e];exact⟨h1,h2.symm⟩
theorem xm {s:Nc}(h:dS s)(zs:Na):dM (eK s++zs)=some (.str s,(eK s).length):=by
 have hq:=EA h.nm.1 zs;have e:eK s++zs=34:: ((Proofs.YtimbegpgemkpkaaGreatDoor.nm s).flatMap de ++ [34]++zs):=by simp[eK,mR]
 have e2:mR (Proofs.YtimbegpgemkpkaaGreatDoor.nm s)++zs=34:: ((Proofs.YtimbegpgemkpkaaGreatDoor.nm s).flatMap de ++ [34]++zs):=by simp[mR]
 rw[e2] at hq;rw[e];have hk:cO 34=5:=by decide
 simp only[dM,hk,hq,Option.map_some,h.nm.2];rfl
mutual
def JV.txt:JV->Na
 | .mk k t x n ns ks=>if k=1 then [110,117,108,108] else if k=2 then(if t then [116,114,117,101] else [102,97,108,115,101]) else if k=3 then fL n else if k=4 then eK x
  else if k=5 then 91:: (JV.txts false true ns ks ++ [93]) else if k=6 then 123:: (JV.txts true true ns ks ++ [125]) else []
def JV.txts:Bool->Bool->List Nc->List JV->Na
 |_,_,_, []=> []
 |o,first,ns,v::vs=>(if first then [] else [44])++ ((if o then eK (ns.headD ⟨#[]⟩) ++ [58] else [])++ (JV.txt v++JV.txts o false ns.tail vs))
end
inductive Tx:JV->Prop
 |null:Tx kC
 |bool (b:Bool):Tx (gB b)
 |num (d:Dc):kA d->Tx (eC d)
 |text (s:Nc):dS s->Tx (fB s)
 |list (ks:List JV):(∀u∈ks,Tx u)->Tx (ei ks)
 |obj (ns:List Nc) (ks:List JV):ns.length=ks.length->(∀s∈ns,dS s)->ix ns->(∀u∈ks,Tx u)->Tx (.mk 6 false ⟨#[]⟩ ⟨false,⟨#[]⟩,0⟩ ns ks)
theorem kA.zero (h:kA d):sJ d:=by
 intro e;rcases h with h|⟨h,-⟩
 .exact h
 .rw[e] at h;exact absurd rfl (h.first 48 rfl)
theorem Tx.vl (h:Tx j):Vl j:=by
 induction h with
 |null=>exact .null
 |bool b=>exact .bool b
 |num d hd=>exact .num d hd.zero
 |text s _=>exact .text s
 |list ks _ ih=>exact .list ks ih
 |obj ns ks h1 _ _ _ ih=>exact .obj ns ks h1 ih
theorem ls:∀ {l:List (Nc×JV)},(l.map Prod.fst).Pairwise gH->gX l=l
 | [],_=>rfl
 |m::l,h=>by
  rw[List.map_cons,List.pairwise_cons] at h;have ih:=ls h.2
  show uA m (gX l)=_
  rw[ih]
  cases l with
  |nil=>rfl
  |cons x l=>
   have:aA (nm m.1) (nm x.1)<0:=h.1 x.1 (by simp);rw[uA,if_pos this]
theorem fe {c c':dT}{x:UInt8}(hk:cO x=2)(h:eh c (.mark x)=some c'):ef c (x::zs) c' zs:=by
 have hb:dm x=false:=by
  cases hx:dm x with
  |false=>rfl
  |true=>simp[cO,hx] at hk
 exact .one (n:=1) hb (by simp only[dM,hk]) h
theorem kd {frs:List Fr}(hw:want=0\/want=1)(hb:∀y ys,xs++zs=y::ys->dm y=false)(hx:dM (xs++zs)=some (.leaf j,xs.length)):ef ⟨frs,want,none⟩ (xs++zs) (dq frs j) zs:=by
 cases he:xs++zs with
 |nil=>rw[he] at hx;cases hx
 |cons y ys=>
  have h1:=hb y ys he;rw[he] at hx;have h2:=ef.one (c:=⟨frs,want,none⟩) (c':=dq frs j) h1 hx (by rcases hw with rfl|rfl <;> rfl);rw[<-he,List.drop_left] at h2
  rwa[he] at h2
theorem rN (h:kA d):∃c l,fL d=c::l/\cO c=4:=by
 rcases h with rfl|⟨hl,-⟩
 .exact⟨48, [],rfl,by decide⟩
 .obtain⟨neg,⟨⟨ds⟩⟩,x⟩:=d
  cases neg with
  |true=>exact⟨45,_,rfl,by decide⟩
  |false=>
   cases ds with
   |nil=>exact absurd rfl hl.ne
   |cons c l=>
    refine⟨c,_,rfl,?_⟩;have:=wI (p:=fun c=> !eV c||cO c==4) (by decide +kernel) c;simpa [hl.dig c (by simp)] using this
theorem IJ {x:UInt8}{k:Nat}(h:cO x=k)(hk:k≠1):dm x=false:=by
 cases hx:dm x with
 |false=>rfl
 |true=>simp[cO,hx] at h;omega
theorem EY (h:kA d)(hz:rT zs):dM (fL d++zs)=some (.leaf (eC d),(fL d).length):=by
 have hn:=Fp h hz;obtain⟨c,l,e,hk⟩:=rN h;rw[e,List.cons_append] at hn ⊢;simp only[dM,hk,hn];rfl
theorem CW (hz:rT zs)(a0:∀c l,zs=c::l->em c=false):zs.takeWhile em = []:=by
 cases zs with
 |nil=>rfl
 |cons c l=>rw[List.takeWhile_cons,if_neg (by rw[a0 c l rfl];decide)]
def Cy (zs:Na):Prop:= ∀c l,zs=c::l->bH c=6/\em c=false
theorem Cy.stop (h:Cy zs):rT zs:=fun c l e=>(h c l e).1
theorem Bd {c:UInt8}(h:bH c=6/\em c=false):Cy (c::l):=by
 intro a m e;injection e with e _
 rw[<-e];exact h
theorem mL {w:Na}(hw:(w,j)∈ [([110,117,108,108],kC),([116,114,117,101],gB true),([102,97,108,115,101],gB false)])(hz:Cy zs):dM (w++zs)=some (.leaf j,w.length):=by
 have h0:zs.takeWhile em = []:=CW hz.stop (fun c l e=>(hz c l e).2);simp only[List.mem_cons,List.mem_nil_iff,or_false,Prod.mk.injEq] at hw;have hl:∀ (x:UInt8) (l:Na),(∀c∈l,em c=true)->(l++zs).takeWhile em=l:=by
  intro x l
  induction l with
  |nil=>intro _;exact h0
  |cons c l ih=>intro h;rw[List.cons_append,List.takeWhile_cons,if_pos (h c (by simp)),ih (fun c hc=>h c (Zm _ hc))]
 rcases hw with ⟨rfl,rfl⟩|⟨rfl,rfl⟩|⟨rfl,rfl⟩
 .have:=hl 0 [117,108,108] (by decide)
  show dM (110:: ([117,108,108]++zs))=_
  simp only[dM,this,show cO 110=3 from by decide];rfl
 .have:=hl 0 [114,117,101] (by decide)
  show dM (116:: ([114,117,101]++zs))=_
  simp only[dM,this,show cO 116=3 from by decide];rfl
 .have:=hl 0 [97,108,115,101] (by decide)
  show dM (102:: ([97,108,115,101]++zs))=_
  simp only[dM,this,show cO 102=3 from by decide];rfl
def DC (j:JV):Prop:= ∀ (frs:List Fr) (want:Nat) (zs:Na),(want=0\/want=1)->Cy zs->ef ⟨frs,want,none⟩ (j.txt++zs) (dq frs j) zs
theorem sx (o:Bool)(ns:List Nc)(ks:List JV)(c:UInt8)(zs:Na)(hc:bH c=6/\em c=false):Cy (JV.txts o false ns ks++c::zs):=by
 cases ks with
 |nil=>exact Bd hc
 |cons v vs=>
  have:JV.txts o false ns (v::vs)++c::zs=44:: (((if o then eK (ns.headD ⟨#[]⟩) ++ [58] else [])++ (JV.txt v++JV.txts o false ns.tail vs))++c::zs):=by simp[JV.txts]
  rw[this];exact Bd (by decide)
theorem zG (h:∀u∈ks,DC u):∀ (frs:List Fr) (its:List JV) (first:Bool) (ns:List Nc) (zs:Na),∃w,(w=1\/w=5)/\ef ⟨⟨false,its, [],none⟩::frs,if first then 1 else 5,none⟩ (JV.txts false first ns ks++93::zs) ⟨⟨false,its++ks, [],none⟩::frs,w,none⟩ (93::zs):=by
 induction ks with
 |nil=>intro frs its first ns zs;exact⟨if first then 1 else 5,by cases first <;> simp,by simpa [JV.txts] using ef.refl _ _⟩
 |cons v vs ih=>
  intro frs its first ns zs;have hv:=h v (by simp);have he:=sx false ns.tail vs 93 zs (by decide);obtain⟨w,hw,hr⟩:=ih (fun u hu=>h u (Zm _ hu)) frs (its ++ [v]) false ns.tail zs;refine⟨w,hw,?_⟩;have e2:its++v::vs=its ++ [v]++vs:=by simp
  rw[e2]
  cases first with
  |true=>
   have e:JV.txts false true ns (v::vs)++93::zs=v.txt++ (JV.txts false false ns.tail vs++93::zs):=by simp[JV.txts]
   rw[e];exact(hv _ 1 _ (.inr rfl) he).trans hr
  |false=>
   have e:JV.txts false false ns (v::vs)++93::zs=44:: (v.txt++ (JV.txts false false ns.tail vs++93::zs)):=by simp[JV.txts]
   rw[e];refine ef.trans (fe (c':=⟨⟨false,its, [],none⟩::frs,0,none⟩) (by decide) rfl) ?_;exact(hv _ 0 _ (.inl rfl) he).trans hr
theorem rA {f:Fr}{frs:List Fr}{s:Nc}(hw:want=2\/want=3)(hs:dS s)(hn:f.mems.any (fun p=>decide (p.1=s))=false)(zs:Na):ef ⟨f::frs,want,none⟩ (eK s++58::zs) ⟨{f with name:=some s}::frs,0,none⟩ zs:=by
 have hx:=xm hs (58::zs);have e:eK s++58::zs=34:: ((Proofs.YtimbegpgemkpkaaGreatDoor.nm s).flatMap de ++ [34]++58::zs):=by simp[eK,mR]
 have h1:ef ⟨f::frs,want,none⟩ (eK s++58::zs) ⟨{f with name:=some s}::frs,4,none⟩ (58::zs):=by
  rw[e] at hx ⊢;have h2:=ef.one (c:=⟨f::frs,want,none⟩) (c':=⟨{f with name:=some s}::frs,4,none⟩) (by decide) hx (by rcases hw with rfl|rfl <;> simp[eh,hn]);rw[<-e,List.drop_left] at h2
  rwa[e] at h2
 exact h1.trans (fe (by decide) rfl)
theorem CK (h:∀u∈ks,DC u):∀ (frs:List Fr) (ms:List (Nc×JV)) (first:Bool) (ns:List Nc) (zs:Na),ns.length=ks.length->(∀s∈ns,dS s)->(ms.map Prod.fst++ns).Pairwise gH->∃w,(w=3\/w=6)/\ef ⟨⟨true, [],ms,none⟩::frs,if first then 3 else 6,none⟩ (JV.txts true first ns ks++125::zs) ⟨⟨true, [],ms++ns.zip ks,none⟩::frs,w,none⟩ (125::zs):=by
 induction ks with
 |nil=>intro frs ms first ns zs hl _ _;exact⟨if first then 3 else 6,by cases first <;> simp,by obtain rfl:=List.eq_nil_of_length_eq_zero hl;simpa [JV.txts] using ef.refl _ _⟩
 |cons v vs ih=>
  intro frs ms first ns zs hl hs hp
  cases ns with
  |nil=>simp at hl
  |cons a ns=>
   have hv:=h v (by simp);have he:=sx true ns vs 125 zs (by decide);obtain⟨w,hw,hr⟩:=ih (fun u hu=>h u (Zm _ hu)) frs (ms ++ [(a,v)]) false ns zs (by simpa using hl) (fun s h=>hs s (Zm _ h)) (by simpa using hp);refine⟨w,hw,?_⟩;have e2:ms++ (a::ns).zip (v::vs)=ms ++ [(a,v)]++ns.zip vs:=by simp
   rw[e2];have hc:ms.any (fun p=>decide (p.1=a))=false:=by
    rw[List.pairwise_append] at hp;rw[List.any_eq_false];intro p hm;have:=pl (hp.2.2 p.1 (List.mem_map_of_mem hm) a (by simp));simpa using this
   cases first with
   |true=>
    have e:JV.txts true true (a::ns) (v::vs)++125::zs=eK a++58:: (v.txt++ (JV.txts true false ns vs++125::zs)):=by simp[JV.txts]
    rw[e];exact((rA (.inr rfl) (hs a (by simp)) hc _).trans (hv _ 0 _ (.inl rfl) he)).trans hr
   |false=>
    have e:JV.txts true false (a::ns) (v::vs)++125::zs=44:: (eK a++58:: (v.txt++ (JV.txts true false ns vs++125::zs))):=by simp[JV.txts]
    rw[e];refine ef.trans (fe (c':=⟨⟨true, [],ms,none⟩::frs,2,none⟩) (by decide) rfl) ?_;exact((rA (.inl rfl) (hs a (by simp)) hc _).trans (hv _ 0 _ (.inl rfl) he)).trans hr
theorem Tx.goes (h:Tx j):DC j:=by
 induction h with
 |null=>exact fun frs want zs hw hz=>kd (xs:= [110,117,108,108]) hw (fun y ys e=>by injection e with e _;subst e;rfl) (mL (by simp) hz)
 |bool b=>
  intro frs want zs hw hz
  cases b with
  |true=>exact kd (xs:= [116,114,117,101]) hw (fun y ys e=>by injection e with e _;subst e;rfl) (mL (by simp) hz)
  |false=>exact kd (xs:= [102,97,108,115,101]) hw (fun y ys e=>by injection e with e _;subst e;rfl) (mL (by simp) hz)
 |num d hd=>
  intro frs want zs hw hz;have e:(eC d).txt=fL d:=by simp[eC,JV.txt]
  rw[e];refine kd hw (fun y ys e=>?_) (EY hd hz.stop);obtain⟨c,l,hc,hk⟩:=rN hd;rw[hc] at e;injection e with e _
  subst e;exact IJ hk (by omega)
 |text s hs=>
  intro frs want zs hw hz;have e:(fB s).txt=eK s:=by simp[fB,JV.txt]
  rw[e];have hx:=xm hs zs;have e:eK s++zs=34:: ((Proofs.YtimbegpgemkpkaaGreatDoor.nm s).flatMap de ++ [34]++zs):=by simp[eK,mR]
  rw[e] at hx ⊢;have h2:=ef.one (c:=⟨frs,want,none⟩) (c':=dq frs (fB s)) (by decide) hx (by rcases hw with rfl|rfl <;> rfl);rw[<-e,List.drop_left] at h2
  rwa[e] at h2
 |list ks _ ih=>
  intro frs want zs hw hz;have e:(ei ks).txt++zs=91:: (JV.txts false true [] ks++93::zs):=by simp[ei,JV.txt]
  rw[e];refine ef.trans (fe (c':=⟨⟨false, [], [],none⟩::frs,1,none⟩) (by decide) (by rcases hw with rfl|rfl <;> rfl)) ?_;obtain⟨w,a0,hr⟩:=zG ih frs [] true [] zs;refine hr.trans (fe (by decide) ?_);rcases a0 with rfl|rfl <;> rfl
 |obj ns ks hl hs hp _ ih=>
  intro frs want zs hw hz;have e:(JV.mk 6 false ⟨#[]⟩ ⟨false,⟨#[]⟩,0⟩ ns ks).txt++zs=123:: (JV.txts true true ns ks++125::zs):=by simp[JV.txt]
  rw[e];refine ef.trans (fe (c':=⟨⟨true, [], [],none⟩::frs,3,none⟩) (by decide) (by rcases hw with rfl|rfl <;> rfl)) ?_;obtain⟨w,a0,hr⟩:=CK ih frs [] true ns zs hl hs (by simpa [ix] using hp);refine hr.trans (fe (by decide) ?_);have h1:et ⟨true, [], []++ns.zip ks,none⟩ =.mk 6 false ⟨#[]⟩ ⟨false,⟨#[]⟩,0⟩ ns ks:=by
   have hf:(ns.zip ks).map Prod.fst=ns:=List.map_fst_zip (by omega);have a1:(ns.zip ks).map Prod.snd=ks:=List.map_snd_zip (by omega)
   show od (gX (ns.zip ks))=_
   rw[ls (by rw[hf];exact hp),od,hf,a1]
  rw[List.nil_append] at h1;rcases a0 with rfl|rfl <;> simp only[eh,BH] <;> simp[h1]
def Shut:JV->Prop
 | .mk k _ _ _ _ _=>k=4\/k=5\/k=6
def kK (xs ys:Na):Prop:=xs.dropWhile dm=ys.dropWhile dm
theorem kK.refl (xs:Na):kK xs xs:=rfl
theorem kK.trans (h:kK xs ys)(k:kK ys zs):kK xs zs:=Eq.trans h k
theorem ef.same {c c':dT}(h:ef c xs c' ys)(hs:kK xs' xs):∃ys',kK ys' ys/\ef c xs' c' ys':=by
 cases h with
 |refl=>exact⟨xs',hs,.refl _ _⟩
 |step h1 h2 h3 h4=>exact⟨ys,rfl,.step (Eq.trans hs h1) h2 h3 h4⟩
theorem ef.then {a b c:dT}{ys':Na}(h:ef a xs b ys')(hs:kK ys' ys)(k:ef b ys c zs):∃zs',kK zs' zs/\ef a xs c zs':=by
 obtain⟨z,h1,h2⟩:=k.same hs;exact⟨z,h1,h.trans h2⟩
theorem mo (m:Nc×JV):∀l,(uA m l).Perm (m::l)
 | []=>List.Perm.refl _
 |x::l=>by
  unfold uA
  split
  .exact List.Perm.refl _
  .exact((mo m l).cons x).trans (List.Perm.swap m x l)
theorem lu:∀l,(gX l).Perm l
 | []=>List.Perm.refl _
 |m::l=>(mo m (gX l)).trans ((lu l).cons m)
theorem rq {m:Nc×JV}:∀ {l:List (Nc×JV)},(l.map Prod.fst).Pairwise gH->(∀x∈l,x.1≠m.1)->((uA m l).map Prod.fst).Pairwise gH
 | [],_,_=>by simp[uA]
 |x::l,h,hn=>by
  unfold uA;rw[List.map_cons,List.pairwise_cons] at h
  split
  .rename_i hlt
   rw[List.map_cons,List.map_cons,List.pairwise_cons,List.pairwise_cons];refine⟨fun b hb=>?_,h⟩;rcases List.mem_cons.1 hb with rfl|hb
   .exact hlt
   .exact iC hlt (h.1 b hb)
  .rename_i hlt
   have hx:gH x.1 m.1:=kj hlt (fun e=>hn x (by simp) e.symm);rw[List.map_cons,List.pairwise_cons];refine⟨fun b hb=>?_,rq h.2 (fun y hy=>hn y (Zm _ hy))⟩;obtain⟨y,hy,rfl⟩:=List.mem_map.1 hb;rcases List.mem_cons.1 ((mo m l).mem_iff.1 hy) with rfl|hy
   .exact hx
   .exact h.1 y.1 (List.mem_map_of_mem hy)
theorem pP:∀ {l:List (Nc×JV)},(l.map Prod.fst).Nodup->((gX l).map Prod.fst).Pairwise gH
 | [],_=>List.Pairwise.nil
 |m::l,h=>by
  rw[List.map_cons,List.nodup_cons] at h;refine rq (pP h.2) fun x hx e=>h.1 ?_
  rw[<-e];exact List.mem_map_of_mem ((lu l).mem_iff.1 hx)
theorem Ds {l m:List (Nc×JV)}(hp:l.Perm m)(hr:(m.map Prod.fst).Pairwise gH):gX l=m:=by
 have hn:(l.map Prod.fst).Nodup:=((hp.map Prod.fst).nodup_iff).2 (hr.imp fun h=>pl h);exact rC ((lu l).trans hp) (pP hn) hr
def L5:Na:= [123,32,34,98,34,32,58,32,91,49,46,53,48,44,32,49,101,50,93,44,32,34,97,92,117,48,48,54,50,34,32,58,32,110,117,108,108,32,125]
def KD:JV:=.mk 6 false ⟨#[]⟩ ⟨false,⟨#[]⟩,0⟩ [⟨#[97,98]⟩,⟨#[98]⟩] [kC,ei [eC ⟨false,⟨#[49,53]⟩,-1⟩,eC ⟨false,⟨#[49]⟩,2⟩]]
theorem FG:fN L5=some KD:=by rfl
theorem Fh:KD.txt = [123,34,97,98,34,58,110,117,108,108,44,34,98,34,58,91,49,53,101,45,49,44,49,101,50,93,125]:=by
 have e1:gW (-1) = [101,45,49]:=by
  unfold gW;rw[if_neg (by decide),show(-1:Int) = -((1:Nat):Int) from rfl,Lib.itoa_neg 1 (by decide),Lib.decDigits_one (by decide)];rfl
 have e2:gW 2 = [101,50]:=by
  unfold gW;rw[if_neg (by decide),show(2:Int)= ((2:Nat):Int) from rfl,Lib.itoa_nonneg 2,Lib.decDigits_one (by decide)];rfl
 simp only[KD,JV.txt,JV.txts,kC,ei,eC,fL,e1,e2];rfl
theorem CN:fN [49]=some (eC ⟨false,⟨#[49]⟩,0⟩):=by rfl
theorem Ac:fN [49,46,48]=some (eC ⟨false,⟨#[49]⟩,0⟩):=by rfl
theorem BL:fN [91,49,44,50,93]=some (ei [eC ⟨false,⟨#[49]⟩,0⟩,eC ⟨false,⟨#[50]⟩,0⟩]):=by rfl
theorem Cq:fN [91,49,44,32,50,93]=some (ei [eC ⟨false,⟨#[49]⟩,0⟩,eC ⟨false,⟨#[50]⟩,0⟩]):=by rfl
theorem oB:(ei [eC ⟨false,⟨#[49]⟩,0⟩,eC ⟨false,⟨#[50]⟩,0⟩]).txt = [91,49,44,50,93]:=by rfl
theorem Jq:Tx KD:=by
 have hu:∀l:Na,(∀c∈l,c.toNat<128)->dS ⟨l.toArray⟩:=by
  intro l hl;refine⟨l.map fun c=>(c.toNat:Int),?_,?_⟩
  .intro c hc;obtain⟨x,hx,rfl⟩:=List.mem_map.1 hc;have:=hl x hx;rw[cP];simp;omega
  .show l=_
   induction l with
   |nil=>rfl
   |cons x l ih=>
    rw[List.map_cons,List.flatMap_cons,<-ih (fun c hc=>hl c (Zm _ hc)),mV _ (hl x (by simp)),UInt8.ofNat_toNat];rfl
 have hn:∀ (l:Na) (x:Int),(∀c∈l,eV c=true)->l≠ []->(∀c,l.head?=some c->c≠48)->(∀c,l.getLast?=some c->c≠48)->(-1000000000<=x/\x<=1000000000)->Tx (eC ⟨false,⟨l.toArray⟩,x⟩):=fun l x h1 h2 h3 h4 h5=>.num _ (.inr ⟨⟨h1,h2,h3,h4⟩,h5⟩)
 refine .obj _ _ rfl ?_ ?_ ?_
 .intro s hs;simp only[List.mem_cons,List.mem_nil_iff,or_false] at hs;rcases hs with rfl|rfl
  .exact hu [97,98] (by decide)
  .exact hu [98] (by decide)
 .refine List.pairwise_cons.2 ⟨?_,List.pairwise_cons.2 ⟨by simp,List.Pairwise.nil⟩⟩;intro b hb;obtain rfl:=List.mem_singleton.1 hb
  show aA (nm _) (nm _)<0
  rw[show aA (nm ⟨#[97,98]⟩) (nm ⟨#[98]⟩) = -1 from rfl]
  decide
 .intro u hu;simp only[List.mem_cons,List.mem_nil_iff,or_false] at hu;rcases hu with rfl|rfl
  .exact .null
  .refine .list _ fun u hu=>?_
   simp only[List.mem_cons,List.mem_nil_iff,or_false] at hu;rcases hu with rfl|rfl
   .exact hn [49,53] (-1) (by decide) (by decide) (by decide) (by decide) (by decide)
   .exact hn [49] 2 (by decide) (by decide) (by decide) (by decide) (by decide)
def qp (w:Wd):Prop:= ∀i,i<54->w.cell? (no 15 i)=some (.int .u8 (px.getD i 9:Nat))
theorem qp.below (h:qp w)(hb:ge w w'):qp w':=fun i hi=>Zg hb (h i hi)
def M8 (w:Wd)(g base:Nat)(t:NS):Prop:= ∃vd ve,w.heap[g]?=some (.cells #[.bool t.neg,.bool t.down,vd,(t.part:Int),ve,(t.st:Int),(t.n:Int)] 372 (0,0))/\aw w base vd t.digs/\aw w base ve t.exps/\(∀b,vd.ownBlock=some b->ve.ownBlock≠some b)
def uw (t:NS)(w:Wd)(e:Ending)(w':Wd):Prop:= ∃vd ve,e =.returned (.agg #[.bool t.neg,.bool t.down,vd,(t.part:Int),ve,(t.st:Int),(t.n:Int)])/\ge w w'/\aw w' w.heap.size vd t.digs/\aw w' w.heap.size ve t.exps
def J1:Obj:=.cells #[false,false,(),(0:Int),(),(0:Int),(0:Int)] 372 (0,0)
def Ip (xs:Na)(w:Wd)(m:Nat)(wr:Wd):Prop:= ∃t:NS,t.n+m=xs.length/\t.part<=t.n/\t.digs.length<=t.n/\t.exps.length<=t.n/\t.st<=8/\aG t (xs.drop t.n)=aG jn xs/\M8 wr (w.heap.size+1) (w.heap.size+2) t/\wr.heap[w.heap.size]?=some J1/\ge w wr
theorem aw.blk (h:aw w base v ys)(h2:v.ownBlock=some g):base<=g/\g<w.heap.size:=by
 obtain⟨h1,cur,hg⟩:=am h h2;exact⟨h1,ah hg⟩
theorem aw.stayB (h:aw w base v ys)(hc:aV F w w')(hf:∀b,v.ownBlock=some b->¬F b):aw w' base v ys:=
 bM h (fun b hb=>by obtain⟨_,cur,hg⟩:=am h hb;exact hc.block b (ah hg) (hf b hb))
theorem mA (w:Wd)(xs:Na)(hm:xs.length<=9223372036854775807):Bs (w.alloc (.cells (iK xs).toArray 5)) (.slice (some (nl w.heap.size)) xs.length xs.length) xs:=
 tT xs hm (Zb _) (Zf _ _)
theorem zI:(prog.info? 372).map (·.size)=some 7:=by kernel_rfl
theorem Kr {s k:Nat}(h:fm s k≠9)(hs:s<=8)(hk:k<=6):fm s k=1\/fm s k=2\/fm s k=3\/fm s k=4\/fm s k=5\/fm s k=6\/fm s k=7\/fm s k=8:=by
 have key:∀s,s<9->∀k,k<7->fm s k≠9->1<=fm s k/\fm s k<=8:=by decide +kernel
 have:=key s (by omega) k (by omega) h;omega
theorem uV (c:UInt8):bH c<=6:=by
 have:=wI (p:=fun c=>decide (bH c<=6)) (by decide +kernel) c;simpa using this
theorem fv {t:NS}{c:UInt8}(h:fm t.st (bH c)≠9):aG t (c::xs)=aG (t.next c) xs:=by
 conv=>lhs;unfold aG
 rw[if_neg h]
theorem sh {t:NS}{c:UInt8}(h:fm t.st (bH c)=9):aG t (c::xs)=t:=by
 unfold aG;rw[if_pos h]
theorem My (c:UInt8):(c==45)= ((c.toNat:Int)==45):=by
 have h:∀n,n<256->(UInt8.ofNat n==45)= ((n:Int)==45):=by decide +kernel
 have:=h c.toNat c.toNat_lt
 rwa[UInt8.ofNat_toNat] at this
theorem vj (hb:Bs w v xs)(hl:xs.length<=1000000000)(hG:qp w):Calls prog 240 #[v] w (uw (aG jn xs) w):=by
 obtain⟨hm,A,cap,rfl,g2,d4⟩:=id hb;have Hb:=Qa hb;have HG:=Qa hG;have d9:=Qa d4;clear hb hG d4;go_in;go_wp2_with fail;have h0:=Zf w (.cells #[false,false,(),(0:Int),(),(0:Int),(0:Int)] 372);have h1:=Zf (w.alloc (.cells #[false,false,(),(0:Int),(),(0:Int),(0:Int)] 372)) (.cells #[false,false,(),(0:Int),(),(0:Int),(0:Int)] 372);have f8:ge w ((w.alloc (.cells #[false,false,(),(0:Int),(),(0:Int),(0:Int)] 372)).alloc (.cells #[false,false,(),(0:Int),(),(0:Int),(0:Int)] 372)):=((Ze _ _).alloc (Zb _) _).alloc (by simp) _;have e8:=(Below.heap_alloc (w.alloc (.cells #[false,false,(),(0:Int),(),(0:Int),(0:Int)] 372)) (.cells #[false,false,(),(0:Int),(),(0:Int),(0:Int)] 372) w.heap.size (by simp)).trans h0;rw[World.size_alloc] at h1;generalize (w.alloc (.cells #[false,false,(),(0:Int),(),(0:Int),(0:Int)] 372)).alloc (.cells #[false,false,(),(0:Int),(),(0:Int),(0:Int)] 372)=w0 at *;have Hb2:=Qa f8;have H1:=Qa h1;have H0:=Qa e8;clear h0 h1 f8 e8
 go_loopg [4,5] xs.length (fun m _ _ wr=>Ip xs w m wr)
 case atStart=>exact⟨jn,Nat.zero_add _,Zb _,Zb _,Zb _,Zk _,rfl,⟨_,_,H1,aw.nil _ _,aw.nil _ _,fun b h=>by cases h⟩,H0.out,Hb2.out⟩
 case round=>
  clear Hb2 H1 H0;obtain⟨t,hn,hp,g6,g5,f9,hr,⟨vd,ve,hg,hd,he,hne⟩,hz,hb⟩:=hrel;obtain⟨tneg,tdown,tdigs,tpart,texps,tst,tn⟩:=t
  dsimp only at *
  obtain⟨Ad,nd,qd,rfl⟩:∃A n q,vd =.slice A n q:=by obtain⟨A,c,e,_⟩:=ai hd;exact⟨A,_,c,e⟩
  obtain⟨Ae,ne,qe,rfl⟩:∃A n q,ve =.slice A n q:=by obtain⟨A,c,e,_⟩:=ai he;exact⟨A,_,c,e⟩
  have Hg:=Qa hg;have Hd:=Qa hd;have He:=Qa he;have Hne:=Qa hne;have b0:=Qa hb;have Hr:=Qa hr;have HZ:=Qa hz;have Hn:=Qa hn;have e4:=ah hg;have e1:=Qa e4;have hnl:tn<=xs.length:=by omega
  have c0:=ac hg (j:=0) (u:=.bool tneg) rfl;have c1:=ac hg (j:=1) (u:=.bool tdown) rfl;have c2:=ac hg (j:=2) (u:=.slice Ad nd qd) rfl;have c3:=ac hg (j:=3) (u:=(tpart:Int)) rfl;have c4:=ac hg (j:=4) (u:=.slice Ae ne qe) rfl;have c5:=ac hg (j:=5) (u:=(tst:Int)) rfl;have c6:=ac hg (j:=6) (u:=(tn:Int)) rfl;have f0:=ao hg 0;have f1:=ao hg 1;have f2:=ao hg 2;have f3:=ao hg 3;have f4:=ao hg 4;have f5:=ao hg 5;have f6:=ao hg 6
  by_cases hlt:tn<xs.length
  .obtain⟨b,o,rfl,f7⟩:=d9 (by omega);obtain⟨c,rest,hc⟩:∃c rest,xs.drop tn=c::rest:=⟨_,_,List.drop_eq_getElem_cons hlt⟩;have e5:ar xs tn=c.toNat:=by
    have:=jG xs tn 0;rw[hc] at this;exact this.symm
   have cc:=Zg b0.out (f7 tn hlt);rw[e5] at cc;have d3:xs.drop (tn+1)=rest:=by rw[<-List.drop_drop,hc];rfl
   have a2:=Qa d3;have e3:=hr;rw[hc] at e3;have d2:=Qa e3;have g3:(tn:Int)<xs.length:=by omega
   clear hc e5 f7 d3 hg hd he hne hb hr hz e3 hn;go_wp2_with fail;refine(wW c wr).mono ?_;rintro e w' ⟨rfl,rfl⟩;have g1:=uV c;obtain⟨k,hk⟩:=y7 (bH c);have Hk:=Qa hk;rw[hk] at g1 ⊢;clear hk
   by_cases h6:k=6
   .subst h6;have c9:=Qa (d2.symm.trans (sh (t:=⟨tneg,tdown,tdigs,tpart,texps,tst,tn⟩) (c:=c) (xs:=rest) (by show fm tst (bH c)=9;rw[Hk.out];rfl)));have b7:=aj wr w.heap.size #[.bool tneg,.bool tdown,.slice Ad nd qd,(tpart:Int),.slice Ae ne qe,(tst:Int),(tn:Int)];have a9:uw (aG jn xs) w (.returned (.agg #[.bool tneg,.bool tdown,.slice Ad nd qd,(tpart:Int),.slice Ae ne qe,(tst:Int),(tn:Int)])) (wr.setRow w.heap.size #[.bool tneg,.bool tdown,.slice Ad nd qd,(tpart:Int),.slice Ae ne qe,(tst:Int),(tn:Int)]):=by
     rw[c9.out];exact⟨.slice Ad nd qd,.slice Ae ne qe,rfl,b0.grown b7 b0.size (fun g e=>by cases e;exact Zb _),(Hd.low (by omega)).grown b7 (fun g e e2=>by injection e2 with e2;have:=(aw.blk Hd e).1;omega),(He.low (by omega)).grown b7 (fun g e e2=>by injection e2 with e2;have:=(aw.blk He e).1;omega)⟩
    have c8:=Qa a9;clear a9 b7;have h4:=HZ.out;go_wp2_with (refine bQ h4 ?_);exact Zh (results_cell_row results240 _ _ w.heap.size 372 #[.bool tneg,.bool tdown,.slice Ad nd qd,(tpart:Int),.slice Ae ne qe,(tst:Int),(tn:Int)] (0,0) _ (by simp) (setRow_heap _ _ _ _ _ _ HZ) underlying372 rfl zI) rfl c8.out
   .have g7:(k:Int)<6:=by omega
    have g4:((k:Int)==6)=false:=by simp;omega
    have g0:(tst:Int)<9:=by omega
    have ct:=Zg b0.out (HG (tst*6+k) (by omega));have e7:px.getD (tst*6+k) 9=fm tst k:=by unfold fm;rw[if_pos (by omega)]
    rw[e7] at ct;clear e7 h6
    by_cases h9:fm tst k=9
    .rw[h9] at ct;have c9:=Qa (d2.symm.trans (sh (t:=⟨tneg,tdown,tdigs,tpart,texps,tst,tn⟩) (c:=c) (xs:=rest) (by show fm tst (bH c)=9;rw[Hk.out,h9])));clear h9;have b7:=aj wr w.heap.size #[.bool tneg,.bool tdown,.slice Ad nd qd,(tpart:Int),.slice Ae ne qe,(tst:Int),(tn:Int)];have a9:uw (aG jn xs) w (.returned (.agg #[.bool tneg,.bool tdown,.slice Ad nd qd,(tpart:Int),.slice Ae ne qe,(tst:Int),(tn:Int)])) (wr.setRow w.heap.size #[.bool tneg,.bool tdown,.slice Ad nd qd,(tpart:Int),.slice Ae ne qe,(tst:Int),(tn:Int)]):=by
      rw[c9.out];exact⟨.slice Ad nd qd,.slice Ae ne qe,rfl,b0.grown b7 b0.size (fun g e=>by cases e;exact Zb _),(Hd.low (by omega)).grown b7 (fun g e e2=>by injection e2 with e2;have:=(aw.blk Hd e).1;omega),(He.low (by omega)).grown b7 (fun g e e2=>by injection e2 with e2;have:=(aw.blk He e).1;omega)⟩
     have c8:=Qa a9;clear a9 b7;have h4:=HZ.out;go_wp2_with (refine bQ h4 ?_);exact Zh (results_cell_row results240 _ _ w.heap.size 372 #[.bool tneg,.bool tdown,.slice Ad nd qd,(tpart:Int),.slice Ae ne qe,(tst:Int),(tn:Int)] (0,0) _ (by simp) (setRow_heap _ _ _ _ _ _ HZ) underlying372 rfl zI) rfl c8.out
    .rcases Kr h9 f9 (by omega) with hS|hS|hS|hS|hS|hS|hS|hS
     .
      have a0:fm tst k=1:=hS;clear hS;have b5:=Qa (fv (t:=⟨tneg,tdown,tdigs,tpart,texps,tst,tn⟩) (c:=c) (xs:=rest) (by show fm tst (bH c)≠9;rw[Hk.out,a0];decide));have Hs:=Qa (show fm tst (bH c)=1 by rw[Hk.out];exact a0);rw[a0] at ct;clear a0;have b6:=Qa (show(⟨tneg,tdown,tdigs,tpart,texps,tst,tn⟩:NS).next c= ⟨true,tdown,tdigs,tpart,texps,1,tn+1⟩ by simp[NS.next,Hs.out]);have Hrd:=Qa (show aG ⟨true,tdown,tdigs,tpart,texps,1,tn+1⟩ (xs.drop (tn+1))=aG jn xs by rw[a2.out,<-b6.out,<-b5.out];exact d2.out);have HgF:=Qa (az (az (az Hg 5 (1:Int)) 0 true) 6 ((tn:Int)+1:Int));have HzF:=Qa (ay _ w.heap.size (w.heap.size+1) 6 ((tn:Int)+1:Int) _ _ (by omega) (ay _ w.heap.size (w.heap.size+1) 0 true _ _ (by omega) (ay wr w.heap.size (w.heap.size+1) 5 (1:Int) _ _ (by omega) HZ.out)));have HbF:=Qa (((b0.setCell (p:=⟨w.heap.size+1,5,none⟩) (Nat.le_succ _) (1:Int)).setCell (p:=⟨w.heap.size+1,0,none⟩) (Nat.le_succ _) true).setCell (p:=⟨w.heap.size+1,6,none⟩) (Nat.le_succ _) ((tn:Int)+1:Int));have a1:aV (fun i=>i=w.heap.size+1) wr (((wr.setCell ⟨w.heap.size+1,5,none⟩ (1:Int)).setCell ⟨w.heap.size+1,0,none⟩ true).setCell ⟨w.heap.size+1,6,none⟩ ((tn:Int)+1:Int)):=((aV.set (w:=wr) (w.heap.size+1) 5 (1:Int)).trans (aV.set (w.heap.size+1) 0 true) (fun i h=>.inl h)).trans (aV.set (w.heap.size+1) 6 ((tn:Int)+1:Int)) (fun i h=>.inl h);have HdF:=Qa (Hd.stayB a1 (fun b hb=>by have:=(aw.blk Hd hb).1;omega));have HeF:=Qa (He.stayB a1 (fun b hb=>by have:=(aw.blk He hb).1;omega));clear a1;go_wp2_with fail;go_roundg (gk - 1)
      case measure=>have:=Hn.out;omega
      case rel=>exact⟨⟨true,tdown,tdigs,tpart,texps,1,tn+1⟩,by have:=Hn.out;dsimp only;omega,by dsimp only;omega,by simp;omega,by simp;omega,by dsimp only;omega,Hrd.out,⟨_,_,by simpa using HgF.out,HdF.out,HeF.out,Hne.out⟩,HzF.out,HbF.out⟩
     .
      have a0:fm tst k=2:=hS;clear hS;have b5:=Qa (fv (t:=⟨tneg,tdown,tdigs,tpart,texps,tst,tn⟩) (c:=c) (xs:=rest) (by show fm tst (bH c)≠9;rw[Hk.out,a0];decide));have Hs:=Qa (show fm tst (bH c)=2 by rw[Hk.out];exact a0);rw[a0] at ct;clear a0;have b6:=Qa (show(⟨tneg,tdown,tdigs,tpart,texps,tst,tn⟩:NS).next c= ⟨tneg,tdown,(tdigs ++ [c]),tpart,texps,2,tn+1⟩ by simp[NS.next,Hs.out]);have Hrd:=Qa (show aG ⟨tneg,tdown,(tdigs ++ [c]),tpart,texps,2,tn+1⟩ (xs.drop (tn+1))=aG jn xs by rw[a2.out,<-b6.out,<-b5.out];exact d2.out);have a6:=az Hg.out 5 (2:Int);have hza:=ay wr w.heap.size (w.heap.size+1) 5 (2:Int) _ _ (by omega) HZ.out;have b4:=b0.setCell (p:=⟨w.heap.size+1,5,none⟩) (Nat.le_succ _) (2:Int);have a7:aV (fun i=>i=w.heap.size+1) wr (wr.setCell ⟨w.heap.size+1,5,none⟩ (2:Int)):=aV.set (w:=wr) (w.heap.size+1) 5 (2:Int);have hsa:(wr.setCell ⟨w.heap.size+1,5,none⟩ (2:Int)).heap.size=wr.heap.size:=by simp
      go_upto_region 17 with fail
      obtain⟨wa,hwa⟩:=y7 (wr.setCell ⟨w.heap.size+1,5,none⟩ (2:Int));rw[hwa] at a6 hza b4 a7 hsa ⊢;clear hwa c0 c1 c2 c3 c4 c5 c6 f0 f1 f2 f3 f4 f5 f6;have b8:=Qa a6;have c7:=Qa hza;have b1:=Qa b4;have d5:=Qa hsa;have a5:=Qa (Hd.stayB a7 (fun b hb=>by have:=(aw.blk Hd hb).1;omega));have d1:=Qa (He.stayB a7 (fun b hb=>by have:=(aw.blk He hb).1;omega));have d7:=Qa (mA wa [c] (by simp));have cx:=ac a6 (j:=2) (u:=.slice Ad nd qd) rfl;clear a6 hza b4 a7 hsa;go_wp2_with (at_builtin;refine su (a5.below (aa wa _) (Zb _)) d7.out (by simp;omega) (by rw[World.size_alloc];have:=e1.out;have:=d5.out;omega) ?_;intro v' w3 h1 h2 h3;obtain⟨A',q',rfl,-⟩:=ai h1;have HK:=Qa h1;have b3:=Qa h2;have HO:=Qa h3;have a4:=Qa (aJ ((Below.heap_alloc wa _ _ (ah b8)).trans b8.out) h2 (fun e=>by have:=(aw.blk a5 e).1;omega));have d0:=ac a4.out (j:=2) rfl;have d6:=ac a4.out (j:=6) rfl;have e0:=ao a4.out 2;have e6:=ao a4.out 6;clear h1 h2 h3);have HgF:=Qa (az (az a4 2 (.slice A' (tdigs.length+1) q')) 6 ((tn:Int)+1:Int));have hle:(tdigs ++ [c]).length=tdigs.length+1:=by simp
      rw[hle] at HK HO;clear hle;have a3:=aJ ((Below.heap_alloc wa (.cells (iK [c]).toArray 5) _ (ah c7)).trans c7.out) b3.out (fun e=>by have:=(aw.blk a5 e).1;omega);have HzF:=Qa (ay _ w.heap.size (w.heap.size+1) 6 ((tn:Int)+1:Int) _ _ (by omega) (ay _ w.heap.size (w.heap.size+1) 2 (.slice A' (tdigs.length+1) q') _ _ (by omega) a3));have b9:=(b1.alloc b1.size (.cells (iK [c]).toArray 5)).grown b3.out (by rw[World.size_alloc];have:=b1.size;omega) (fun b e=>by have:=(aw.blk a5 e).1;omega);have HbF:=Qa ((b9.setCell (p:=⟨w.heap.size+1,2,none⟩) (Nat.le_succ _) (.slice A' (tdigs.length+1) q')).setCell (p:=⟨w.heap.size+1,6,none⟩) (Nat.le_succ _) ((tn:Int)+1:Int));have a1:=(aV.set (w:=w3) (w.heap.size+1) 2 (.slice A' (tdigs.length+1) q')).trans (aV.set (w.heap.size+1) 6 ((tn:Int)+1:Int)) (fun i h=>.inl h);have HmF:=Qa (aw.stayB HK.out a1 (fun b hb=>by have:=(aw.blk HK hb).1;omega));have b2:=(d1.below (aa wa (.cells (iK [c]).toArray 5)) (Zb _)).grown b3.out (fun b hb e=>Hne b e hb);have HoF:=Qa (b2.stayB a1 (fun b hb=>by have:=(aw.blk b2 hb).1;omega));have HnF:Hid (∀b,(Value.slice A' (tdigs.length+1) q').ownBlock=some b->(Value.slice Ae ne qe).ownBlock≠some b):=Qa (fun b hb e2=>by rcases HO.out with e|e;(· exact Hne b (e.symm.trans hb) e2);(· rw[e] at hb;injection hb with hb;have:=(aw.blk d1 e2).2;rw[World.size_alloc] at hb;omega));clear a3 b9 a1 b2;go_roundg (gk - 1)
      case measure=>have:=Hn.out;omega
      case rel=>exact⟨⟨tneg,tdown,(tdigs ++ [c]),tpart,texps,2,tn+1⟩,by have:=Hn.out;dsimp only;omega,by dsimp only;omega,by simp;omega,by simp;omega,by dsimp only;omega,Hrd.out,⟨_,_,by simpa using HgF.out,HmF.out,HoF.out,HnF.out⟩,HzF.out,HbF.out⟩
     .
      have a0:fm tst k=3:=hS;clear hS;have b5:=Qa (fv (t:=⟨tneg,tdown,tdigs,tpart,texps,tst,tn⟩) (c:=c) (xs:=rest) (by show fm tst (bH c)≠9;rw[Hk.out,a0];decide));have Hs:=Qa (show fm tst (bH c)=3 by rw[Hk.out];exact a0);rw[a0] at ct;clear a0;have b6:=Qa (show(⟨tneg,tdown,tdigs,tpart,texps,tst,tn⟩:NS).next c= ⟨tneg,tdown,(tdigs ++ [c]),tpart,texps,3,tn+1⟩ by simp[NS.next,Hs.out]);have Hrd:=Qa (show aG ⟨tneg,tdown,(tdigs ++ [c]),tpart,texps,3,tn+1⟩ (xs.drop (tn+1))=aG jn xs by rw[a2.out,<-b6.out,<-b5.out];exact d2.out);have a6:=az Hg.out 5 (3:Int);have hza:=ay wr w.heap.size (w.heap.size+1) 5 (3:Int) _ _ (by omega) HZ.out;have b4:=b0.setCell (p:=⟨w.heap.size+1,5,none⟩) (Nat.le_succ _) (3:Int);have a7:aV (fun i=>i=w.heap.size+1) wr (wr.setCell ⟨w.heap.size+1,5,none⟩ (3:Int)):=aV.set (w:=wr) (w.heap.size+1) 5 (3:Int);have hsa:(wr.setCell ⟨w.heap.size+1,5,none⟩ (3:Int)).heap.size=wr.heap.size:=by simp
      go_upto_region 17 with fail
      obtain⟨wa,hwa⟩:=y7 (wr.setCell ⟨w.heap.size+1,5,none⟩ (3:Int));rw[hwa] at a6 hza b4 a7 hsa ⊢;clear hwa c0 c1 c2 c3 c4 c5 c6 f0 f1 f2 f3 f4 f5 f6;have b8:=Qa a6;have c7:=Qa hza;have b1:=Qa b4;have d5:=Qa hsa;have a5:=Qa (Hd.stayB a7 (fun b hb=>by have:=(aw.blk Hd hb).1;omega));have d1:=Qa (He.stayB a7 (fun b hb=>by have:=(aw.blk He hb).1;omega));have d7:=Qa (mA wa [c] (by simp));have cx:=ac a6 (j:=2) (u:=.slice Ad nd qd) rfl;clear a6 hza b4 a7 hsa;go_wp2_with (at_builtin;refine su (a5.below (aa wa _) (Zb _)) d7.out (by simp;omega) (by rw[World.size_alloc];have:=e1.out;have:=d5.out;omega) ?_;intro v' w3 h1 h2 h3;obtain⟨A',q',rfl,-⟩:=ai h1;have HK:=Qa h1;have b3:=Qa h2;have HO:=Qa h3;have a4:=Qa (aJ ((Below.heap_alloc wa _ _ (ah b8)).trans b8.out) h2 (fun e=>by have:=(aw.blk a5 e).1;omega));have d0:=ac a4.out (j:=2) rfl;have d6:=ac a4.out (j:=6) rfl;have e0:=ao a4.out 2;have e6:=ao a4.out 6;clear h1 h2 h3);have HgF:=Qa (az (az a4 2 (.slice A' (tdigs.length+1) q')) 6 ((tn:Int)+1:Int));have hle:(tdigs ++ [c]).length=tdigs.length+1:=by simp
      rw[hle] at HK HO;clear hle;have a3:=aJ ((Below.heap_alloc wa (.cells (iK [c]).toArray 5) _ (ah c7)).trans c7.out) b3.out (fun e=>by have:=(aw.blk a5 e).1;omega);have HzF:=Qa (ay _ w.heap.size (w.heap.size+1) 6 ((tn:Int)+1:Int) _ _ (by omega) (ay _ w.heap.size (w.heap.size+1) 2 (.slice A' (tdigs.length+1) q') _ _ (by omega) a3));have b9:=(b1.alloc b1.size (.cells (iK [c]).toArray 5)).grown b3.out (by rw[World.size_alloc];have:=b1.size;omega) (fun b e=>by have:=(aw.blk a5 e).1;omega);have HbF:=Qa ((b9.setCell (p:=⟨w.heap.size+1,2,none⟩) (Nat.le_succ _) (.slice A' (tdigs.length+1) q')).setCell (p:=⟨w.heap.size+1,6,none⟩) (Nat.le_succ _) ((tn:Int)+1:Int));have a1:=(aV.set (w:=w3) (w.heap.size+1) 2 (.slice A' (tdigs.length+1) q')).trans (aV.set (w.heap.size+1) 6 ((tn:Int)+1:Int)) (fun i h=>.inl h);have HmF:=Qa (aw.stayB HK.out a1 (fun b hb=>by have:=(aw.blk HK hb).1;omega));have b2:=(d1.below (aa wa (.cells (iK [c]).toArray 5)) (Zb _)).grown b3.out (fun b hb e=>Hne b e hb);have HoF:=Qa (b2.stayB a1 (fun b hb=>by have:=(aw.blk b2 hb).1;omega));have HnF:Hid (∀b,(Value.slice A' (tdigs.length+1) q').ownBlock=some b->(Value.slice Ae ne qe).ownBlock≠some b):=Qa (fun b hb e2=>by rcases HO.out with e|e;(· exact Hne b (e.symm.trans hb) e2);(· rw[e] at hb;injection hb with hb;have:=(aw.blk d1 e2).2;rw[World.size_alloc] at hb;omega));clear a3 b9 a1 b2;go_roundg (gk - 1)
      case measure=>have:=Hn.out;omega
      case rel=>exact⟨⟨tneg,tdown,(tdigs ++ [c]),tpart,texps,3,tn+1⟩,by have:=Hn.out;dsimp only;omega,by dsimp only;omega,by simp;omega,by simp;omega,by dsimp only;omega,Hrd.out,⟨_,_,by simpa using HgF.out,HmF.out,HoF.out,HnF.out⟩,HzF.out,HbF.out⟩
     .
      have a0:fm tst k=4:=hS;clear hS;have b5:=Qa (fv (t:=⟨tneg,tdown,tdigs,tpart,texps,tst,tn⟩) (c:=c) (xs:=rest) (by show fm tst (bH c)≠9;rw[Hk.out,a0];decide));have Hs:=Qa (show fm tst (bH c)=4 by rw[Hk.out];exact a0);rw[a0] at ct;clear a0;have b6:=Qa (show(⟨tneg,tdown,tdigs,tpart,texps,tst,tn⟩:NS).next c= ⟨tneg,tdown,tdigs,tpart,texps,4,tn+1⟩ by simp[NS.next,Hs.out]);have Hrd:=Qa (show aG ⟨tneg,tdown,tdigs,tpart,texps,4,tn+1⟩ (xs.drop (tn+1))=aG jn xs by rw[a2.out,<-b6.out,<-b5.out];exact d2.out);have HgF:=Qa (az (az Hg 5 (4:Int)) 6 ((tn:Int)+1:Int));have HzF:=Qa (ay _ w.heap.size (w.heap.size+1) 6 ((tn:Int)+1:Int) _ _ (by omega) (ay wr w.heap.size (w.heap.size+1) 5 (4:Int) _ _ (by omega) HZ.out));have HbF:=Qa ((b0.setCell (p:=⟨w.heap.size+1,5,none⟩) (Nat.le_succ _) (4:Int)).setCell (p:=⟨w.heap.size+1,6,none⟩) (Nat.le_succ _) ((tn:Int)+1:Int));have a1:aV (fun i=>i=w.heap.size+1) wr ((wr.setCell ⟨w.heap.size+1,5,none⟩ (4:Int)).setCell ⟨w.heap.size+1,6,none⟩ ((tn:Int)+1:Int)):=(aV.set (w:=wr) (w.heap.size+1) 5 (4:Int)).trans (aV.set (w.heap.size+1) 6 ((tn:Int)+1:Int)) (fun i h=>.inl h);have HdF:=Qa (Hd.stayB a1 (fun b hb=>by have:=(aw.blk Hd hb).1;omega));have HeF:=Qa (He.stayB a1 (fun b hb=>by have:=(aw.blk He hb).1;omega));clear a1;go_wp2_with fail;go_roundg (gk - 1)
      case measure=>have:=Hn.out;omega
      case rel=>exact⟨⟨tneg,tdown,tdigs,tpart,texps,4,tn+1⟩,by have:=Hn.out;dsimp only;omega,by dsimp only;omega,by simp;omega,by simp;omega,by dsimp only;omega,Hrd.out,⟨_,_,by simpa using HgF.out,HdF.out,HeF.out,Hne.out⟩,HzF.out,HbF.out⟩
     .
      have a0:fm tst k=5:=hS;clear hS;have b5:=Qa (fv (t:=⟨tneg,tdown,tdigs,tpart,texps,tst,tn⟩) (c:=c) (xs:=rest) (by show fm tst (bH c)≠9;rw[Hk.out,a0];decide));have Hs:=Qa (show fm tst (bH c)=5 by rw[Hk.out];exact a0);rw[a0] at ct;clear a0;have b6:=Qa (show(⟨tneg,tdown,tdigs,tpart,texps,tst,tn⟩:NS).next c= ⟨tneg,tdown,(tdigs ++ [c]),(tpart+1),texps,5,tn+1⟩ by simp[NS.next,Hs.out]);have Hrd:=Qa (show aG ⟨tneg,tdown,(tdigs ++ [c]),(tpart+1),texps,5,tn+1⟩ (xs.drop (tn+1))=aG jn xs by rw[a2.out,<-b6.out,<-b5.out];exact d2.out);have a6:=az (az Hg 5 (5:Int)) 3 ((tpart:Int)+1:Int);have hza:=ay _ w.heap.size (w.heap.size+1) 3 ((tpart:Int)+1:Int) _ _ (by omega) (ay wr w.heap.size (w.heap.size+1) 5 (5:Int) _ _ (by omega) HZ.out);have b4:=(b0.setCell (p:=⟨w.heap.size+1,5,none⟩) (Nat.le_succ _) (5:Int)).setCell (p:=⟨w.heap.size+1,3,none⟩) (Nat.le_succ _) ((tpart:Int)+1:Int);have a7:aV (fun i=>i=w.heap.size+1) wr ((wr.setCell ⟨w.heap.size+1,5,none⟩ (5:Int)).setCell ⟨w.heap.size+1,3,none⟩ ((tpart:Int)+1:Int)):=(aV.set (w:=wr) (w.heap.size+1) 5 (5:Int)).trans (aV.set (w.heap.size+1) 3 ((tpart:Int)+1:Int)) (fun i h=>.inl h);have hsa:((wr.setCell ⟨w.heap.size+1,5,none⟩ (5:Int)).setCell ⟨w.heap.size+1,3,none⟩ ((tpart:Int)+1:Int)).heap.size=wr.heap.size:=by simp
      go_upto_region 17 with fail
      obtain⟨wa,hwa⟩:=y7 ((wr.setCell ⟨w.heap.size+1,5,none⟩ (5:Int)).setCell ⟨w.heap.size+1,3,none⟩ ((tpart:Int)+1:Int));rw[hwa] at a6 hza b4 a7 hsa ⊢;clear hwa c0 c1 c2 c3 c4 c5 c6 f0 f1 f2 f3 f4 f5 f6;have b8:=Qa a6;have c7:=Qa hza;have b1:=Qa b4;have d5:=Qa hsa;have a5:=Qa (Hd.stayB a7 (fun b hb=>by have:=(aw.blk Hd hb).1;omega));have d1:=Qa (He.stayB a7 (fun b hb=>by have:=(aw.blk He hb).1;omega));have d7:=Qa (mA wa [c] (by simp));have cx:=ac a6 (j:=2) (u:=.slice Ad nd qd) rfl;clear a6 hza b4 a7 hsa;go_wp2_with (at_builtin;refine su (a5.below (aa wa _) (Zb _)) d7.out (by simp;omega) (by rw[World.size_alloc];have:=e1.out;have:=d5.out;omega) ?_;intro v' w3 h1 h2 h3;obtain⟨A',q',rfl,-⟩:=ai h1;have HK:=Qa h1;have b3:=Qa h2;have HO:=Qa h3;have a4:=Qa (aJ ((Below.heap_alloc wa _ _ (ah b8)).trans b8.out) h2 (fun e=>by have:=(aw.blk a5 e).1;omega));have d0:=ac a4.out (j:=2) rfl;have d6:=ac a4.out (j:=6) rfl;have e0:=ao a4.out 2;have e6:=ao a4.out 6;clear h1 h2 h3);have HgF:=Qa (az (az a4 2 (.slice A' (tdigs.length+1) q')) 6 ((tn:Int)+1:Int));have hle:(tdigs ++ [c]).length=tdigs.length+1:=by simp
      rw[hle] at HK HO;clear hle;have a3:=aJ ((Below.heap_alloc wa (.cells (iK [c]).toArray 5) _ (ah c7)).trans c7.out) b3.out (fun e=>by have:=(aw.blk a5 e).1;omega);have HzF:=Qa (ay _ w.heap.size (w.heap.size+1) 6 ((tn:Int)+1:Int) _ _ (by omega) (ay _ w.heap.size (w.heap.size+1) 2 (.slice A' (tdigs.length+1) q') _ _ (by omega) a3));have b9:=(b1.alloc b1.size (.cells (iK [c]).toArray 5)).grown b3.out (by rw[World.size_alloc];have:=b1.size;omega) (fun b e=>by have:=(aw.blk a5 e).1;omega);have HbF:=Qa ((b9.setCell (p:=⟨w.heap.size+1,2,none⟩) (Nat.le_succ _) (.slice A' (tdigs.length+1) q')).setCell (p:=⟨w.heap.size+1,6,none⟩) (Nat.le_succ _) ((tn:Int)+1:Int));have a1:=(aV.set (w:=w3) (w.heap.size+1) 2 (.slice A' (tdigs.length+1) q')).trans (aV.set (w.heap.size+1) 6 ((tn:Int)+1:Int)) (fun i h=>.inl h);have HmF:=Qa (aw.stayB HK.out a1 (fun b hb=>by have:=(aw.blk HK hb).1;omega));have b2:=(d1.below (aa wa (.cells (iK [c]).toArray 5)) (Zb _)).grown b3.out (fun b hb e=>Hne b e hb);have HoF:=Qa (b2.stayB a1 (fun b hb=>by have:=(aw.blk b2 hb).1;omega));have HnF:Hid (∀b,(Value.slice A' (tdigs.length+1) q').ownBlock=some b->(Value.slice Ae ne qe).ownBlock≠some b):=Qa (fun b hb e2=>by rcases HO.out with e|e;(· exact Hne b (e.symm.trans hb) e2);(· rw[e] at hb;injection hb with hb;have:=(aw.blk d1 e2).2;rw[World.size_alloc] at hb;omega));clear a3 b9 a1 b2;go_roundg (gk - 1)
      case measure=>have:=Hn.out;omega
      case rel=>exact⟨⟨tneg,tdown,(tdigs ++ [c]),(tpart+1),texps,5,tn+1⟩,by have:=Hn.out;dsimp only;omega,by dsimp only;omega,by simp;omega,by simp;omega,by dsimp only;omega,Hrd.out,⟨_,_,by simpa using HgF.out,HmF.out,HoF.out,HnF.out⟩,HzF.out,HbF.out⟩
     .
      have a0:fm tst k=6:=hS;clear hS;have b5:=Qa (fv (t:=⟨tneg,tdown,tdigs,tpart,texps,tst,tn⟩) (c:=c) (xs:=rest) (by show fm tst (bH c)≠9;rw[Hk.out,a0];decide));have Hs:=Qa (show fm tst (bH c)=6 by rw[Hk.out];exact a0);rw[a0] at ct;clear a0;have b6:=Qa (show(⟨tneg,tdown,tdigs,tpart,texps,tst,tn⟩:NS).next c= ⟨tneg,tdown,tdigs,tpart,texps,6,tn+1⟩ by simp[NS.next,Hs.out]);have Hrd:=Qa (show aG ⟨tneg,tdown,tdigs,tpart,texps,6,tn+1⟩ (xs.drop (tn+1))=aG jn xs by rw[a2.out,<-b6.out,<-b5.out];exact d2.out);have HgF:=Qa (az (az Hg 5 (6:Int)) 6 ((tn:Int)+1:Int));have HzF:=Qa (ay _ w.heap.size (w.heap.size+1) 6 ((tn:Int)+1:Int) _ _ (by omega) (ay wr w.heap.size (w.heap.size+1) 5 (6:Int) _ _ (by omega) HZ.out));have HbF:=Qa ((b0.setCell (p:=⟨w.heap.size+1,5,none⟩) (Nat.le_succ _) (6:Int)).setCell (p:=⟨w.heap.size+1,6,none⟩) (Nat.le_succ _) ((tn:Int)+1:Int));have a1:aV (fun i=>i=w.heap.size+1) wr ((wr.setCell ⟨w.heap.size+1,5,none⟩ (6:Int)).setCell ⟨w.heap.size+1,6,none⟩ ((tn:Int)+1:Int)):=(aV.set (w:=wr) (w.heap.size+1) 5 (6:Int)).trans (aV.set (w.heap.size+1) 6 ((tn:Int)+1:Int)) (fun i h=>.inl h);have HdF:=Qa (Hd.stayB a1 (fun b hb=>by have:=(aw.blk Hd hb).1;omega));have HeF:=Qa (He.stayB a1 (fun b hb=>by have:=(aw.blk He hb).1;omega));clear a1;go_wp2_with fail;go_roundg (gk - 1)
      case measure=>have:=Hn.out;omega
      case rel=>exact⟨⟨tneg,tdown,tdigs,tpart,texps,6,tn+1⟩,by have:=Hn.out;dsimp only;omega,by dsimp only;omega,by simp;omega,by simp;omega,by dsimp only;omega,Hrd.out,⟨_,_,by simpa using HgF.out,HdF.out,HeF.out,Hne.out⟩,HzF.out,HbF.out⟩
     .
      have a0:fm tst k=7:=hS;clear hS;have b5:=Qa (fv (t:=⟨tneg,tdown,tdigs,tpart,texps,tst,tn⟩) (c:=c) (xs:=rest) (by show fm tst (bH c)≠9;rw[Hk.out,a0];decide));have Hs:=Qa (show fm tst (bH c)=7 by rw[Hk.out];exact a0);rw[a0] at ct;clear a0;have b6:=Qa (show(⟨tneg,tdown,tdigs,tpart,texps,tst,tn⟩:NS).next c= ⟨tneg,((c.toNat:Int)==45),tdigs,tpart,texps,7,tn+1⟩ by simp[NS.next,Hs.out,My]);have Hrd:=Qa (show aG ⟨tneg,((c.toNat:Int)==45),tdigs,tpart,texps,7,tn+1⟩ (xs.drop (tn+1))=aG jn xs by rw[a2.out,<-b6.out,<-b5.out];exact d2.out);have HgF:=Qa (az (az (az Hg 5 (7:Int)) 1 (.bool ((c.toNat:Int)==45))) 6 ((tn:Int)+1:Int));have HzF:=Qa (ay _ w.heap.size (w.heap.size+1) 6 ((tn:Int)+1:Int) _ _ (by omega) (ay _ w.heap.size (w.heap.size+1) 1 (.bool ((c.toNat:Int)==45)) _ _ (by omega) (ay wr w.heap.size (w.heap.size+1) 5 (7:Int) _ _ (by omega) HZ.out)));have HbF:=Qa (((b0.setCell (p:=⟨w.heap.size+1,5,none⟩) (Nat.le_succ _) (7:Int)).setCell (p:=⟨w.heap.size+1,1,none⟩) (Nat.le_succ _) (.bool ((c.toNat:Int)==45))).setCell (p:=⟨w.heap.size+1,6,none⟩) (Nat.le_succ _) ((tn:Int)+1:Int));have a1:aV (fun i=>i=w.heap.size+1) wr (((wr.setCell ⟨w.heap.size+1,5,none⟩ (7:Int)).setCell ⟨w.heap.size+1,1,none⟩ (.bool ((c.toNat:Int)==45))).setCell ⟨w.heap.size+1,6,none⟩ ((tn:Int)+1:Int)):=((aV.set (w:=wr) (w.heap.size+1) 5 (7:Int)).trans (aV.set (w.heap.size+1) 1 (.bool ((c.toNat:Int)==45))) (fun i h=>.inl h)).trans (aV.set (w.heap.size+1) 6 ((tn:Int)+1:Int)) (fun i h=>.inl h);have HdF:=Qa (Hd.stayB a1 (fun b hb=>by have:=(aw.blk Hd hb).1;omega));have HeF:=Qa (He.stayB a1 (fun b hb=>by have:=(aw.blk He hb).1;omega));clear a1;go_wp2_with fail;go_roundg (gk - 1)
      case measure=>have:=Hn.out;omega
      case rel=>exact⟨⟨tneg,((c.toNat:Int)==45),tdigs,tpart,texps,7,tn+1⟩,by have:=Hn.out;dsimp only;omega,by dsimp only;omega,by simp;omega,by simp;omega,by dsimp only;omega,Hrd.out,⟨_,_,by simpa using HgF.out,HdF.out,HeF.out,Hne.out⟩,HzF.out,HbF.out⟩
     .
      have a0:fm tst k=8:=hS;clear hS;have b5:=Qa (fv (t:=⟨tneg,tdown,tdigs,tpart,texps,tst,tn⟩) (c:=c) (xs:=rest) (by show fm tst (bH c)≠9;rw[Hk.out,a0];decide));have Hs:=Qa (show fm tst (bH c)=8 by rw[Hk.out];exact a0);rw[a0] at ct;clear a0;have b6:=Qa (show(⟨tneg,tdown,tdigs,tpart,texps,tst,tn⟩:NS).next c= ⟨tneg,tdown,tdigs,tpart,(texps ++ [c]),8,tn+1⟩ by simp[NS.next,Hs.out]);have Hrd:=Qa (show aG ⟨tneg,tdown,tdigs,tpart,(texps ++ [c]),8,tn+1⟩ (xs.drop (tn+1))=aG jn xs by rw[a2.out,<-b6.out,<-b5.out];exact d2.out);have a6:=az Hg.out 5 (8:Int);have hza:=ay wr w.heap.size (w.heap.size+1) 5 (8:Int) _ _ (by omega) HZ.out;have b4:=b0.setCell (p:=⟨w.heap.size+1,5,none⟩) (Nat.le_succ _) (8:Int);have a7:aV (fun i=>i=w.heap.size+1) wr (wr.setCell ⟨w.heap.size+1,5,none⟩ (8:Int)):=aV.set (w:=wr) (w.heap.size+1) 5 (8:Int);have hsa:(wr.setCell ⟨w.heap.size+1,5,none⟩ (8:Int)).heap.size=wr.heap.size:=by simp
      go_upto_region 19 with fail
      obtain⟨wa,hwa⟩:=y7 (wr.setCell ⟨w.heap.size+1,5,none⟩ (8:Int));rw[hwa] at a6 hza b4 a7 hsa ⊢;clear hwa c0 c1 c2 c3 c4 c5 c6 f0 f1 f2 f3 f4 f5 f6;have b8:=Qa a6;have c7:=Qa hza;have b1:=Qa b4;have d5:=Qa hsa;have a5:=Qa (He.stayB a7 (fun b hb=>by have:=(aw.blk He hb).1;omega));have d1:=Qa (Hd.stayB a7 (fun b hb=>by have:=(aw.blk Hd hb).1;omega));have d7:=Qa (mA wa [c] (by simp));have cx:=ac a6 (j:=4) (u:=.slice Ae ne qe) rfl;clear a6 hza b4 a7 hsa;go_wp2_with (at_builtin;refine su (a5.below (aa wa _) (Zb _)) d7.out (by simp;omega) (by rw[World.size_alloc];have:=e1.out;have:=d5.out;omega) ?_;intro v' w3 h1 h2 h3;obtain⟨A',q',rfl,-⟩:=ai h1;have HK:=Qa h1;have b3:=Qa h2;have HO:=Qa h3;have a4:=Qa (aJ ((Below.heap_alloc wa _ _ (ah b8)).trans b8.out) h2 (fun e=>by have:=(aw.blk a5 e).1;omega));have d0:=ac a4.out (j:=4) rfl;have d6:=ac a4.out (j:=6) rfl;have e0:=ao a4.out 4;have e6:=ao a4.out 6;clear h1 h2 h3);have HgF:=Qa (az (az a4 4 (.slice A' (texps.length+1) q')) 6 ((tn:Int)+1:Int));have hle:(texps ++ [c]).length=texps.length+1:=by simp
      rw[hle] at HK HO;clear hle;have a3:=aJ ((Below.heap_alloc wa (.cells (iK [c]).toArray 5) _ (ah c7)).trans c7.out) b3.out (fun e=>by have:=(aw.blk a5 e).1;omega);have HzF:=Qa (ay _ w.heap.size (w.heap.size+1) 6 ((tn:Int)+1:Int) _ _ (by omega) (ay _ w.heap.size (w.heap.size+1) 4 (.slice A' (texps.length+1) q') _ _ (by omega) a3));have b9:=(b1.alloc b1.size (.cells (iK [c]).toArray 5)).grown b3.out (by rw[World.size_alloc];have:=b1.size;omega) (fun b e=>by have:=(aw.blk a5 e).1;omega);have HbF:=Qa ((b9.setCell (p:=⟨w.heap.size+1,4,none⟩) (Nat.le_succ _) (.slice A' (texps.length+1) q')).setCell (p:=⟨w.heap.size+1,6,none⟩) (Nat.le_succ _) ((tn:Int)+1:Int));have a1:=(aV.set (w:=w3) (w.heap.size+1) 4 (.slice A' (texps.length+1) q')).trans (aV.set (w.heap.size+1) 6 ((tn:Int)+1:Int)) (fun i h=>.inl h);have HmF:=Qa (aw.stayB HK.out a1 (fun b hb=>by have:=(aw.blk HK hb).1;omega));have b2:=(d1.below (aa wa (.cells (iK [c]).toArray 5)) (Zb _)).grown b3.out (fun b hb e=>Hne b hb e);have HoF:=Qa (b2.stayB a1 (fun b hb=>by have:=(aw.blk b2 hb).1;omega));have HnF:Hid (∀b,(Value.slice Ad nd qd).ownBlock=some b->(Value.slice A' (texps.length+1) q').ownBlock≠some b):=Qa (fun b hb e2=>by rcases HO.out with e|e;(· exact Hne b hb (e.symm.trans e2));(· rw[e] at e2;injection e2 with e2;have:=(aw.blk d1 hb).2;rw[World.size_alloc] at e2;omega));clear a3 b9 a1 b2;go_roundg (gk - 1)
      case measure=>have:=Hn.out;omega
      case rel=>exact⟨⟨tneg,tdown,tdigs,tpart,(texps ++ [c]),8,tn+1⟩,by have:=Hn.out;dsimp only;omega,by dsimp only;omega,by simp;omega,by simp;omega,by dsimp only;omega,Hrd.out,⟨_,_,by simpa using HgF.out,HoF.out,HmF.out,HnF.out⟩,HzF.out,HbF.out⟩
  .have g3:¬ (tn:Int)<xs.length:=by omega
   have c9:=Qa (show aG jn xs= ⟨tneg,tdown,tdigs,tpart,texps,tst,tn⟩ by rw[<-hr,List.drop_of_length_le (by omega)];rfl);clear hg hd he hne hb hr hz hn;have b7:=aj wr w.heap.size #[.bool tneg,.bool tdown,.slice Ad nd qd,(tpart:Int),.slice Ae ne qe,(tst:Int),(tn:Int)];have a9:uw (aG jn xs) w (.returned (.agg #[.bool tneg,.bool tdown,.slice Ad nd qd,(tpart:Int),.slice Ae ne qe,(tst:Int),(tn:Int)])) (wr.setRow w.heap.size #[.bool tneg,.bool tdown,.slice Ad nd qd,(tpart:Int),.slice Ae ne qe,(tst:Int),(tn:Int)]):=by
    rw[c9.out];exact⟨.slice Ad nd qd,.slice Ae ne qe,rfl,b0.grown b7 b0.size (fun g e=>by cases e;exact Zb _),(Hd.low (by omega)).grown b7 (fun g e e2=>by injection e2 with e2;have:=(aw.blk Hd e).1;omega),(He.low (by omega)).grown b7 (fun g e e2=>by injection e2 with e2;have:=(aw.blk He e).1;omega)⟩
   have c8:=Qa a9;clear a9 b7;have h4:=HZ.out;go_wp2_with (refine bQ h4 ?_);exact Zh (results_cell_row results240 _ _ w.heap.size 372 #[.bool tneg,.bool tdown,.slice Ad nd qd,(tpart:Int),.slice Ae ne qe,(tst:Int),(tn:Int)] (0,0) _ (by simp) (setRow_heap _ _ _ _ _ _ HZ) underlying372 rfl zI) rfl c8.out
