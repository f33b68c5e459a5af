/- ReportBack holds for every argument within the bound of its Upto form: a report's text is read as a report of the same outcome and entries, its entries and its lines make the same text again, and a text with one byte turned is refused or is another report. -/
import Derived.Test.YtgkkffeagolnpaaGreatDoorGZ16br
import Derived.Lay
import Derived.Deep.OwnShut
import Derived.Deep.DeepHandedRow
import Derived.Test.YtgkkffeagolnpaaGreatDoorCards
import Derived.Test.YtgkkffeagolnpaaGreatDoorTie
set_option linter.unusedVariables false
set_option linter.unusedSimpArgs false
set_option maxRecDepth 100000
namespace Go.Proofs.YtgkkffeagolnpaaGreatDoor
open Go.ChangeShapes Go.WideShapes Go.ChangeAt Go.WideMaps Go.WideElems Go.RowKit
variable {args:Array Value}{t' t'' t3 t4:TypeId}{v v':Value}{W W':World}
theorem Tryz.laidOut:laidOutB Tryz.prog=true:=by kernel_rfl
theorem Tryz.own:ownKnob Tryz.prog.godebug=none:=by kernel_rfl
theorem Kn:mapsRowed Tryz.prog=true:=by kernel_rfl
theorem JF:Tryz.prog.stopsHeard=true:=by kernel_rfl
theorem Jt:Tryz.prog.mayEnter=true:=by kernel_rfl
theorem dc {a b:Bool}(ha:a=true)(hb:b=true):(a&&b)=true:=by rw[ha,hb];rfl
section
variable {H:Type}{enc:TypeId×Value->H}
theorem IA {t:TypeId}(hr:Tryz.prog.readableRec t=true)(a1:t<Tryz.prog.types.size){d:DataW H}{ps before:List MemPlace}
  (h:DataW.Trod enc Tryz.prog W 0 (fun _=>true) true t v d ps) (hb:Below W.heap.size W W') (hlt:∀x∈ps,x.block<W.heap.size) (sp:Nat->Bool) (a0:∀x∈ps,x∈before) (a2:∀p∈before,sp p.block=true) :
  DataW.Trod enc Tryz.prog W' 0 sp true t v d ps:=
 Trod_stays Tryz.laidOut hr a1 h (fun x hx=>hb.same (hlt x hx)) (fun x hx=>a2 x (a0 x hx))
end
section
variable {H:Type}{enc:TypeId×Value->H}{P:Program}
theorem nx {f:Func}{s:ChangeSpec}{apart fresh a0 again:Bool}{ds gs:List (DataW H)}{before pa pv:List MemPlace}
  (hW:DataW.Whole enc P f.params.toList s.vars apart W args.toList ds gs before)
  (a3:∀ (b:Nat) (sp:Nat->Bool) (hd:Bool),DataW.TrodAll enc P W' b sp hd f.resultTypes.toList (v.resultList f.resultTypes.size) (s.fn H (ds++gs)).results [])
  (a1:∀sp:Nat->Bool,(∀p∈before,sp p.block=true)->DataW.TrodAll enc P W' 0 sp true f.params.toList args.toList (s.fn H (ds++gs)).args pa)
  (a2:∀sp:Nat->Bool,(∀p∈before,sp p.block=true)->DataW.TrodVars enc P W' sp s.vars (s.fn H (ds++gs)).vars pv)
  (a5:before=pa++pv) (hb:Below W.heap.size W W')
  (a9:∀ (j:Nat) (t:TypeId) (r:Value),f.resultTypes[j]?=some t->(v.resultList f.resultTypes.size)[j]?=some r->Value.okWide P W' .any 0 t r) :
  s.post enc P f apart fresh a0 again W args v W':=by
 have hlt:∀p∈before,p.block<W.heap.size:=fun p hp=>hW.lt p hp
 have a4:∀p∈before,(fun b=>decide (b<W.heap.size)) p.block=true:=fun p hp=>by simpa using hlt p hp
 refine⟨ds,gs,before, [],pa,pv,hW,a3 _ _ _,a1 _ a4,a2 _ a4,World.keptBut_mono (fun p hp=>⟨hp,?_⟩) (hb.frame (· ∈before)),fun _=>?_⟩
 ·rw[a5,List.mem_append] at hp;exact Or.inr hp
 ·obtain⟨_,_,_,_,_,hz,hn⟩:=hW;refine⟨a9,_,_,([]++pa)++pv,⟨[]++pa,pv,trodAll_append (a1 _ (fun _ _=>rfl)) (a3 ..),a2 _ (fun _ _=>rfl),rfl,?_,?_⟩,?_⟩
  ·intro b off hp;have hin:MemPlace.cell b off∈before:=by rw[a5];simpa using hp
   rw[hb.frozen (hlt _ hin)];exact hz b off hin
  ·intro ha;have:=hn ha;rw[a5] at this;simpa using this
  ·intro p hp _;rw[a5];simpa using hp
end
theorem Di (os:Os)(args:Array Value):laidMetH Tryz.prog dP ((World.laidAll Tryz.prog os dP).forCall (fun _ _=>0) ⟨#[],args, []⟩).memory:=by
 rw[MakeChecks.laidMetH_plain _ _ _ (by kernel_rfl)];exact laidMet_laidAll _ (by kernel_rfl) (by kernel_rfl)
theorem El:(Rows.reportBackUptoRow.wf (OpenSpec.ofChange (Rows.OpenSpec.upto Rows.reportBackSpec).bare))=true:=by kernel_rfl
theorem FI:(Tryz.f3.params.all (Tryz.prog.readableRec ·))=true:=by kernel_rfl
theorem Fv:(namedTie Tryz.prog Rows.reportBackUptoRow.named (Rows.OpenSpec.upto Rows.reportBackSpec).bare.vars)=true:=by kernel_rfl
theorem D3:((Rows.reportBackUptoRow.stops == []))=true:=by kernel_rfl
theorem FE:((Tryz.prog.stops == []))=true:=by kernel_rfl
theorem EZ:((Rows.reportBackUptoRow.knobs == []))=true:=by kernel_rfl
theorem D2:((Tryz.prog.stopKnobs == []))=true:=by kernel_rfl
theorem E8:((Rows.reportBackUptoRow.inPlace==Tryz.prog.inPlace 3))=true:=by kernel_rfl
theorem AU:((Rows.reportBackUptoRow.unfollowed==Tryz.prog.unfollowed 3))=true:=by kernel_rfl
theorem Bk:((Rows.reportBackUptoRow.recurses==Tryz.prog.recurses 3))=true:=by kernel_rfl
theorem Ao:((Rows.reportBackUptoRow.named==Tryz.prog.varsNamed 3))=true:=by kernel_rfl
theorem Ap:((Rows.reportBackUptoRow.maps== (Tryz.f3.params.toList++ (Rows.OpenSpec.upto Rows.reportBackSpec).bare.plain.varTypes Tryz.prog).any (Tryz.prog.mapsRec ·)))=true:=by kernel_rfl
theorem AY:((Rows.reportBackUptoRow.ifaces== (Tryz.f3.params.toList++ (Rows.OpenSpec.upto Rows.reportBackSpec).bare.plain.varTypes Tryz.prog).any (Tryz.prog.ifacesRec ·)))=true:=by kernel_rfl
theorem BT:((Rows.reportBackUptoRow.mapsOut==Tryz.prog.mapsAmong Tryz.f3.resultTypes.toList))=true:=by kernel_rfl
theorem Ah:((Rows.reportBackUptoRow.loops== (Tryz.f3.params.toList++ (Rows.OpenSpec.upto Rows.reportBackSpec).bare.plain.varTypes Tryz.prog).any (Tryz.prog.loopsFrom ·)))=true:=by kernel_rfl
theorem AK:((Rows.reportBackUptoRow.wideKeys== (Tryz.f3.params.toList++ (Rows.OpenSpec.upto Rows.reportBackSpec).bare.plain.varTypes Tryz.prog++Tryz.f3.resultTypes.toList).any (Tryz.prog.wideKeysFrom ·)))=true:=by kernel_rfl
theorem Cj:((Rows.OpenSpec.upto Rows.reportBackSpec).bare.vars.all (Tryz.prog.varReadable ·))=true:=by kernel_rfl
theorem BB:(Tryz.f3.resultTypes.all (fun t=>Tryz.prog.readableRec t&&decide (t<Tryz.prog.types.size)))=true:=by kernel_rfl
theorem AB:((Rows.reportBackUptoRow.ifacesOut==Tryz.f3.resultTypes.toList.any (Tryz.prog.ifacesRec ·)))=true:=by kernel_rfl
theorem Dd:((Rows.reportBackUptoRow.loopsOut==Tryz.f3.resultTypes.toList.any (Tryz.prog.loopsFrom ·)))=true:=by kernel_rfl
theorem BF:((Rows.reportBackUptoRow.plainKeys==Tryz.prog.plainKeys))=true:=by kernel_rfl
theorem Cy:(Rows.reportBackUptoRow.shortTexts.isNone)=true:=by kernel_rfl
theorem AP:((Rows.reportBackUptoRow.lifted==Tryz.prog.liftsFinal))=true:=by kernel_rfl
theorem BS:((Tryz.prog.make==some Rows.reportBackUptoRow.make))=true:=by kernel_rfl
theorem BM:((Rows.reportBackUptoRow.kinds== (if Rows.reportBackUptoRow.domain.isEmpty then [] else Tryz.f3.params.toList.map fun t=>match Tryz.prog.underlying t with|some (.int k)=>some k|_=>none)))=true:=by kernel_rfl
theorem AA:((Rows.reportBackUptoRow.pinned==Rows.reportBackUptoRow.pinnedBy))=true:=by kernel_rfl
theorem Ci:((Rows.reportBackUptoRow.veiled== (Tryz.f3.params.toList++ (Rows.OpenSpec.upto Rows.reportBackSpec).bare.plain.varTypes Tryz.prog++Tryz.f3.resultTypes.toList).any (Tryz.prog.veiledRec ·)))=true:=by kernel_rfl
theorem zV:(Rows.reportBackUptoRow.veiledFits Tryz.prog Tryz.f3.params.toList (Tryz.f3.params.toList++ (Rows.OpenSpec.upto Rows.reportBackSpec).bare.plain.varTypes Tryz.prog++Tryz.f3.resultTypes.toList))=true:=by kernel_rfl
theorem xL:Tryz.prog.funcNamed Rows.reportBackUptoRow.func=some 3:=by kernel_rfl
theorem qQ:joinedFacts Tryz.prog 3 Tryz.f3 (Rows.OpenSpec.upto Rows.reportBackSpec).bare Rows.reportBackUptoRow=true:=dc (dc (dc (dc (dc (dc (dc (dc (dc (dc (dc (dc (dc (dc (dc (dc (dc (dc (dc (dc (dc (dc (dc (dc (dc (dc (dc (dc (dc (dc (dc El Tryz.laidOut) Kn) FI) Fv) D3) FE) EZ) D2) E8) AU) Bk) Ao) Ap) AY) BT) Ah) AK) Cj) BB) AB) Dd) BF) Cy) JF) Jt) AP) BS) BM) AA) Ci) zV
section
variable {H:Type}{enc:TypeId×Value->H}{P:Program}{w:World}{base:Nat}{spare:Nat->Bool}{held:Bool}
theorem pP {t:TypeId}{ds:List (DataW H)}{ps:List MemPlace}(h:DataW.TrodAll enc P w base spare held [t,t',t'',t3,t4] args.toList ds ps) :
  ∃v v' v'' v3 v4 d d' d'' d3 d4 p p' p'' p3 p4,args = #[v,v',v'',v3,v4]/\ds = [d,d',d'',d3,d4]/\ps=p++p'++p''++p3++p4/\DataW.Trod enc P w base spare held t v d p/\DataW.Trod enc P w base spare held t' v' d' p'/\DataW.Trod enc P w base spare held t'' v'' d'' p''/\DataW.Trod enc P w base spare held t3 v3 d3 p3/\DataW.Trod enc P w base spare held t4 v4 d4 p4:=by
 obtain⟨v,vs,d,ds',p,q,a1,rfl,rfl,hd,a0⟩:=trodAll_cons h;obtain⟨v',v'',v3,v4,d',d'',d3,d4,p',p'',p3,p4,e,rfl,rfl,h1,h2,h3,h4⟩:=trodAll_four (args:=vs.toArray) a0;have e2:vs = [v',v'',v3,v4]:=congrArg Array.toList e;subst e2;exact⟨v,v',v'',v3,v4,d,d',d'',d3,d4,p,p',p'',p3,p4,by cases args;simp_all,rfl,by simp,hd,h1,h2,h3,h4⟩
theorem sK {t:TypeId}{v'' v3 v4:Value}{d d' d'' d3 d4:DataW H}{p p' p'' p3 p4:List MemPlace}(h:DataW.Trod enc P w base spare held t v d p)(h':DataW.Trod enc P w base spare held t' v' d' p')
  (a0:DataW.Trod enc P w base spare held t'' v'' d'' p'') (h3:DataW.Trod enc P w base spare held t3 v3 d3 p3) (h4:DataW.Trod enc P w base spare held t4 v4 d4 p4):DataW.TrodAll enc P w base spare held [t,t',t'',t3,t4] [v,v',v'',v3,v4] [d,d',d'',d3,d4] (p++ (p'++ (p''++ (p3++p4)))):=⟨p,p'++ (p''++ (p3++p4)),h,trodAll_mk4 h' a0 h3 h4,rfl⟩
end
theorem EL (h:laidMetH Tryz.prog dP W):gY W:=by
 rw[MakeChecks.laidMetH_plain _ _ _ (by kernel_rfl)] at h;exact⟨dA (g:=18) (cr h (n:= "wicket/api.ErrToken") (d:=Rows.laid_wicket_api_ErrToken) (by kernel_rfl)) (by kernel_rfl) (by kernel_rfl),dA (g:=5) (cr h (n:= "wicket/api.ErrSyntax") (d:=Rows.laid_wicket_api_ErrSyntax) (by kernel_rfl)) (by kernel_rfl) (by kernel_rfl),dA (g:=6) (cr h (n:= "wicket/api.ErrTwice") (d:=Rows.laid_wicket_api_ErrTwice) (by kernel_rfl)) (by kernel_rfl) (by kernel_rfl)⟩
theorem uO {H:Type}{d0 d1 d2 d3 d4:DataW H}(h:Rows.uptoSmall H [d0,d1,d2,d3,d4]=true):Rows.uptoBulk d1+Rows.uptoBulk d2<=1048576:=by
 have h1:Rows.uptoBulkAll (H:=H) [d0,d1,d2,d3,d4]<=1048576:=of_decide_eq_true h;simp only[Rows.uptoBulkAll] at h1;omega
theorem tK (os:Os)(started:os.Started)(H:Type)(enc:TypeId×Value->H)(F:Stop.Interp) :
  ReturnsInHanded {} Tryz.checked os 3 .any ((Rows.OpenSpec.upto Rows.reportBackSpec).preRow enc Tryz.prog Tryz.f3 Rows.reportBackUptoRow.domain false Rows.reportBackUptoRow.laid) (((Rows.OpenSpec.upto Rows.reportBackSpec).at F).post enc Tryz.prog Tryz.f3 false true false false):=by
 obtain⟨places,hx⟩:∃places,DataW.whole enc Tryz.prog ((World.laidAll Tryz.prog os dP).forCall (fun _ _=>0) ⟨#[],#[.int .i64 0,.slice none 0 0,.slice none 0 0,.int .i64 0,.int .u8 0], []⟩).memory Tryz.f3.params.toList Rows.reportBackSpec.vars false (#[.int .i64 0,.slice none 0 0,.slice none 0 0,.int .i64 0,.int .u8 0]:Array Value).toList 8=some ([.lit (.int .i64 0),.nil,.nil,.lit (.int .i64 0),.lit (.int .u8 0)], [],places):=⟨[],by kernel_rfl⟩;have a3:Input.okWideB Tryz.checked.prog ((World.laidAll Tryz.prog os dP).forCall (fun _ _=>0) ⟨#[],#[.int .i64 0,.slice none 0 0,.slice none 0 0,.int .i64 0,.int .u8 0], []⟩) 3 ⟨#[],#[.int .i64 0,.slice none 0 0,.slice none 0 0,.int .i64 0,.int .u8 0], []⟩=true:=by kernel_rfl
 refine returnsInHanded_of_row (C:=Tryz.checked) (s:=Rows.OpenSpec.upto Rows.reportBackSpec) Tryz.own started (by kernel_rfl) Tryz.func3
  ⟨World.laidAll Tryz.prog os dP,fun _ _=>0,⟨#[],#[.int .i64 0,.slice none 0 0,.slice none 0 0,.int .i64 0,.int .u8 0], []⟩,rfl,World.shaped_of_ZipB (by kernel_rfl) (by kernel_rfl),(Input.okWide_of_okWideB (base:=0) a3).1,(Input.okWide_of_okWideB a3).2,
   OpenSpec.preRow_of_cond 8 hx (by kernel_rfl) (fun k hk=>by cases hk;kernel_rfl) (by kernel_rfl) (Di os _),by
   simp only[Assume.holds];exact⟨by simp,by simp,fun _=>Modest.zero,by simp,by simp⟩⟩ ?_
 intro W base args ds gs before a1 hW _ hk _ hL b0 _;have a0:∀ (j:Nat) t v,Tryz.f3.params[j]?=some t->args[j]?=some v->Value.okWide Tryz.prog W .any base t v:=a1;have hm:j2 W:=cell_of_shapedOpen_int (P:=Tryz.prog) (g:=14) (t:=3) (zero:= #[.int .i64 0]) b0 (of_decide_eq_true (by kernel_rfl)) (by kernel_rfl) rfl (by kernel_rfl) (by kernel_rfl) Tryz.underlying3;have a4:=hW;have hlt:∀p∈before,p.block<W.heap.size:=fun p hp=>hW.lt p hp
 obtain⟨p,q,a9,hV,rfl,b3,b1⟩:=hW;have hA:DataW.TrodAll enc Tryz.prog W 0 (fun _=>true) true Tryz.f3.params.toList args.toList ds p:=a9;rw[Tryz.params3] at hA a0;obtain⟨v0,v1,v2,v3,v4,d0,d1,d2,d3,d4,p0,p1,p2,p3,p4,rfl,rfl,rfl,h0,h1,h2,h3,h4⟩:=pP hA;obtain⟨rfl,rfl⟩:=trodVars_none hV;have b2:=uO (hk _ rfl);obtain⟨c0,rfl,rfl,rfl,w0⟩:=open_int Tryz.underlying3 (a0 0 3 v0 rfl rfl) h0;obtain⟨x,bx,sx⟩:=oZ (a0 1 22 v1 rfl rfl) h1;obtain⟨y,bby,sy⟩:=o8 (a0 2 23 v2 rfl rfl) h2;obtain⟨c3,rfl,rfl,rfl,w3⟩:=open_int Tryz.underlying3 (a0 3 3 v3 rfl rfl) h3;obtain⟨c4,rfl,rfl,rfl,w4⟩:=open_int Tryz.underlying5 (a0 4 5 v4 rfl rfl) h4;have a5:0<=c4/\c4<256:=by
  have hw:=w4;simp[Lit.wf,IntKind.min,IntKind.max,IntKind.signed,IntKind.bits] at hw;omega
 clear a9 a1;simp only[List.append_nil,List.nil_append] at a4 hlt;refine(l8 (ES hL hm) (EL hL) (sx (by omega)) (sy (by omega)) (by omega) a5.1 a5.2).mono fun e W' ⟨he,hb⟩=>?_
 subst he;exact⟨_,rfl,nx (pa:=p1++p2) (pv:= []) a4 (fun _ _ _=>trodAll_mk1 (shut_bool Tryz.underlying4 true))
  (fun sp a2=>by
   have:=sK (shut_int Tryz.underlying3 w0) (IA (by kernel_rfl) (of_decide_eq_true (by kernel_rfl)) h1 hb (fun x hx=>hlt x (by simp[hx])) sp (fun x hx=>by simp[hx]) a2) (IA (by kernel_rfl) (of_decide_eq_true (by kernel_rfl)) h2 hb (fun x hx=>hlt x (by simp[hx])) sp (fun x hx=>by simp[hx]) a2) (shut_int Tryz.underlying3 w3) (shut_int Tryz.underlying5 w4)
   try simp only[List.append_nil,List.nil_append] at this
   exact this)
   (fun _ _=>rfl) (by simp) hb (ok_one (by kernel_rfl) rfl (okWide_bool_mk Tryz.underlying4 true))⟩
theorem Bm:Rows.ReportBackUptoSaid:=
 OpenClaim.holds_of_cond 3 Tryz.f3 rfl rfl rfl rfl rfl rfl rfl ⟨rfl,rfl,rfl,rfl,rfl⟩ rfl rfl rfl rfl rfl xL Tryz.func3 qQ
  (of_decide_eq_true (by kernel_rfl)) (by unfold Func.isWrapper;rw[if_neg (of_decide_eq_false (by kernel_rfl))];exact⟨rfl,rfl⟩)
  (fun os started H enc _ F=>by rw[OpenClaim.pre_eq_preRow];exact tK os started H enc F)
open Go
theorem ub (f:FuncId)(fn:Func)(hf:Tryz.pinned.checked.prog.funcNamed "wicket/wicketlaw20.ReportBack" = some f)(a1:Tryz.pinned.checked.prog.funcs[f]?=some fn) :
  true=Tryz.pinned.checked.prog.looks []/\∀ (j:Nat) t,fn.params[j]?=some t->Tryz.pinned.checked.prog.wantsStandIn t=false:=by
 obtain rfl:f=3:=Zi ((show Tryz.prog.funcNamed "wicket/wicketlaw20.ReportBack" = some 3 by kernel_rfl).symm.trans hf) |>.symm;obtain rfl:fn=Tryz.f3:=(Zi (Tryz.func3.symm.trans a1)).symm;refine⟨by kernel_rfl,fun j t ht=>?_⟩;rw[Tryz.params3] at ht;have hm:t∈ [3,22,23,3,5]:=by simpa using Array.mem_of_getElem? ht
 have a0:([3,22,23,3,5].all fun u=> !Tryz.prog.wantsStandIn u)=true:=by kernel_rfl
 exact(show Tryz.prog.wantsStandIn t=false by simpa using List.all_eq_true.1 a0 t hm)
theorem back_card:Rows.ReportBackUptoCardSaid:=
 Claim7.holds_tied_plain_at .later [] _ _ _ _ Bm (fun _ h=>by cases h) (by kernel_rfl) (fun _ h=>by cases h) reportBackUpto_row_tie rfl ⟨rfl,rfl⟩ (by kernel_rfl) rfl ub (by kernel_rfl)
#print axioms back_card
