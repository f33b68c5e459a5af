/- The tied card of wicketlaw8.CanonOne is proved: whatever the two Docs, the call returns true, and they read afterwards as before. Condition: the listed package-level variables read as their text lays them (the card ties them). -/
import Derived.Test.YtpkdfmjdhmpopaaGreatDoorGZ3bw
set_option linter.unusedVariables false
set_option linter.unusedSimpArgs false
set_option maxRecDepth 100000
namespace Go.Proofs.YtpkdfmjdhmpopaaGreatDoor
open Go.ChangeShapes Go.WideShapes Go.ChangeAt Go.WideMaps Go.WideElems Go.RowKit
theorem Fm: (Rows.canonOneRow.wf (OpenSpec.ofChange Rows.canonOneSpec))=true:=by kernel_rfl
theorem EX: (Tryz.f3.params.all (Tryz.prog.readableRec ·))=true:=by kernel_rfl
theorem FW: (namedTie Tryz.prog Rows.canonOneRow.named Rows.canonOneSpec.vars)=true:=by kernel_rfl
theorem FS: ((Rows.canonOneRow.stops == []))=true:=by kernel_rfl
theorem FJ: ((Tryz.prog.stops == []))=true:=by kernel_rfl
theorem FK: ((Rows.canonOneRow.knobs == []))=true:=by kernel_rfl
theorem EO: ((Tryz.prog.stopKnobs == []))=true:=by kernel_rfl
theorem EV: ((Rows.canonOneRow.inPlace==Tryz.prog.inPlace 3))=true:=by kernel_rfl
theorem DW: ((Rows.canonOneRow.unfollowed==Tryz.prog.unfollowed 3))=true:=by kernel_rfl
theorem Db: ((Rows.canonOneRow.recurses==Tryz.prog.recurses 3))=true:=by kernel_rfl
theorem DV: ((Rows.canonOneRow.named==Tryz.prog.varsNamed 3))=true:=by kernel_rfl
theorem DU: ((Rows.canonOneRow.maps== (Tryz.f3.params.toList++Rows.canonOneSpec.plain.varTypes Tryz.prog).any (Tryz.prog.mapsRec ·)))=true:=by kernel_rfl
theorem Da: ((Rows.canonOneRow.ifaces== (Tryz.f3.params.toList++Rows.canonOneSpec.plain.varTypes Tryz.prog).any (Tryz.prog.ifacesRec ·)))=true:=by kernel_rfl
theorem CZ: ((Rows.canonOneRow.mapsOut==Tryz.prog.mapsAmong Tryz.f3.resultTypes.toList))=true:=by kernel_rfl
theorem DD: ((Rows.canonOneRow.loops== (Tryz.f3.params.toList++Rows.canonOneSpec.plain.varTypes Tryz.prog).any (Tryz.prog.loopsFrom ·)))=true:=by kernel_rfl
theorem DX: ((Rows.canonOneRow.wideKeys== (Tryz.f3.params.toList++Rows.canonOneSpec.plain.varTypes Tryz.prog++Tryz.f3.resultTypes.toList).any (Tryz.prog.wideKeysFrom ·)))=true:=by kernel_rfl
theorem CO: (Rows.canonOneSpec.vars.all (Tryz.prog.varReadable ·))=true:=by kernel_rfl
theorem Dm: (Tryz.f3.resultTypes.all (fun t=>Tryz.prog.readableRec t&&decide (t<Tryz.prog.types.size)))=true:=by kernel_rfl
theorem D8: ((Rows.canonOneRow.ifacesOut==Tryz.f3.resultTypes.toList.any (Tryz.prog.ifacesRec ·)))=true:=by kernel_rfl
theorem DP: ((Rows.canonOneRow.loopsOut==Tryz.f3.resultTypes.toList.any (Tryz.prog.loopsFrom ·)))=true:=by kernel_rfl
theorem DO: ((Rows.canonOneRow.plainKeys==Tryz.prog.plainKeys))=true:=by kernel_rfl
theorem Em: (Rows.canonOneRow.shortTexts.isNone)=true:=by kernel_rfl
theorem Cy: ((Rows.canonOneRow.lifted==Tryz.prog.liftsFinal))=true:=by kernel_rfl
theorem C5: ((Tryz.prog.make==some Rows.canonOneRow.make))=true:=by kernel_rfl
theorem Dt: ((Rows.canonOneRow.kinds== (if Rows.canonOneRow.domain.isEmpty then [] else Tryz.f3.params.toList.map fun t=>match Tryz.prog.underlying t with | some (.int k)=>some k | _=>none)))=true:=by kernel_rfl
theorem Dy: ((Rows.canonOneRow.pinned==Rows.canonOneRow.pinnedBy))=true:=by kernel_rfl
theorem Dg: ((Rows.canonOneRow.veiled== (Tryz.f3.params.toList++Rows.canonOneSpec.plain.varTypes Tryz.prog++Tryz.f3.resultTypes.toList).any (Tryz.prog.veiledRec ·)))=true:=by kernel_rfl
theorem CS: (Rows.canonOneRow.veiledFits Tryz.prog Tryz.f3.params.toList (Tryz.f3.params.toList++Rows.canonOneSpec.plain.varTypes Tryz.prog++Tryz.f3.resultTypes.toList))=true:=by kernel_rfl
theorem zP:Tryz.prog.funcNamed Rows.canonOneRow.func=some 3:=by kernel_rfl
theorem vh:joinedFacts Tryz.prog 3 Tryz.f3 Rows.canonOneSpec Rows.canonOneRow=true:=dR (dR (dR (dR (dR (dR (dR (dR (dR (dR (dR (dR (dR (dR (dR (dR (dR (dR (dR (dR (dR (dR (dR (dR (dR (dR (dR (dR (dR (dR (dR Fm Tryz.laidOut) IJ) EX) FW) FS) FJ) FK) EO) EV) DW) Db) DV) DU) Da) CZ) DD) DX) CO) Dm) D8) DP) DO) Em) GZ) If) Cy) C5) Dt) Dy) Dg) CS
theorem vO (os:Os)(started:os.Started)(H:Type)(enc:TypeId×Value->H) :
  ReturnsInHanded {} Tryz.checked os 3 .any (fun w args=>(Rows.canonOneSpec.pre enc Tryz.prog Tryz.f3 [] false w args/\laidMetH Tryz.prog fH w)/\sizedMet enc Tryz.prog Tryz.f3 (OpenSpec.ofChange Rows.canonOneSpec) false w args)
   (Rows.canonOneSpec.post enc Tryz.prog Tryz.f3 false true false false):=by
 refine returnsInHanded_of_change_and (C:=Tryz.checked) (X:=fun w _=>laidMetH Tryz.prog fH w) (fun _ _ _ hh h=>h.of_heap hh) Tryz.own started (by kernel_rfl) Tryz.func3
  (ChangeSpec.witness_shaped (enc:=enc) (C:=Tryz.checked) (os:=os) (X:=fun w _=>laidMetH Tryz.prog fH w) false (World.laidAll Tryz.prog os fH) #[.agg #[.slice none 0 0, .slice none 0 0, .slice none 0 0], .agg #[.slice none 0 0, .slice none 0 0, .slice none 0 0]] 8 rfl (World.shaped_of_ZipB (by kernel_rfl) (by kernel_rfl)) (by kernel_rfl) (by kernel_rfl) (by kernel_rfl) (zF os _)) ?_
 intro W base args ds gs before a0 hW _ _ hL _;have a1:∀ (j:Nat) t v,Tryz.f3.params[j]?=some t->args[j]?=some v->Value.okWide Tryz.prog W .any base t v:=a0;have a3:=hW;have hlt:∀p∈before,p.block<W.heap.size:=fun p hp=>hW.lt p hp
 obtain⟨p,q,a2,hV,rfl,a6,a7⟩:=hW;have hA:DataW.TrodAll enc Tryz.prog W 0 (fun _=>true) true Tryz.f3.params.toList args.toList ds p:=a2;rw [Tryz.params3] at hA a1;obtain⟨v0,v1,d0,d1,p0,p1,rfl,rfl,rfl,h0,h1⟩:=trodAll_two hA;obtain⟨rfl,rfl⟩:=trodVars_none hV;obtain⟨xs0,a5,bs0,s0⟩:=lT (a1 0 25 v0 rfl rfl) h0;obtain⟨xs1,a9,bs1,s1⟩:=lT (a1 1 25 v1 rfl rfl) h1;clear a2 a0;simp only [List.append_nil,List.nil_append] at a3 hlt;refine(EM (FG hL) s0 s1).mono fun e W' ⟨he,hb⟩=> ?_
 subst he;exact⟨_,rfl,oE (pa:=p0++p1) (pv:= []) a3 (fun _ _ _=>trodAll_mk1 (shut_bool Tryz.underlying4 true))
  (fun sp a4=>by
   have:=trodAll_mk2 (Ga (by kernel_rfl) (of_decide_eq_true (by kernel_rfl)) h0 hb (fun x hx=>hlt x (by simp [hx])) sp (fun x hx=>by simp [hx]) a4) (Ga (by kernel_rfl) (of_decide_eq_true (by kernel_rfl)) h1 hb (fun x hx=>hlt x (by simp [hx])) sp (fun x hx=>by simp [hx]) a4)
   try simp only [List.append_nil,List.nil_append] at this
   exact this)
   (fun _ _=>rfl) (by simp) hb (ok_one (by kernel_rfl) rfl (okWide_bool_mk Tryz.underlying4 true))⟩
theorem DY:Rows.CanonOneSaid:=
 OpenClaim.holds_of_wide 3 Tryz.f3 rfl rfl rfl rfl rfl rfl rfl ⟨rfl,rfl,rfl,rfl,rfl⟩ rfl rfl rfl rfl rfl zP Tryz.func3 vh
  (of_decide_eq_true (by kernel_rfl)) (by unfold Func.isWrapper;rw [if_neg (of_decide_eq_false (by kernel_rfl))];exact⟨rfl,rfl⟩)
  (fun os started H enc _=>vO os started H enc)
open Go
theorem yi (f:FuncId)(fn:Func)(hf:Tryz.pinned.checked.prog.funcNamed "wicket/wicketlaw8.CanonOne" = some f)(a1:Tryz.pinned.checked.prog.funcs[f]?=some fn) :
  true=Tryz.pinned.checked.prog.looks []/\∀ (j:Nat) t,fn.params[j]?=some t->Tryz.pinned.checked.prog.wantsStandIn t=false:=by
 obtain rfl:f=3:=Zh ((show Tryz.prog.funcNamed "wicket/wicketlaw8.CanonOne" = some 3 by kernel_rfl).symm.trans hf) |>.symm;obtain rfl:fn=Tryz.f3:=(Zh (Tryz.func3.symm.trans a1)).symm;refine⟨by kernel_rfl,fun j t ht=> ?_⟩;rw [Tryz.params3] at ht;have hm:t∈ [25,25]:=by simpa using Array.mem_of_getElem? ht
 have a0: ([25,25].all fun u=> !Tryz.prog.wantsStandIn u)=true:=by kernel_rfl
 exact(show Tryz.prog.wantsStandIn t=false by simpa using List.all_eq_true.1 a0 t hm)
theorem one_card:Rows.CanonOneCardSaid:=
 Claim7.holds_tied_plain_at .later [] _ _ _ _ DY (fun _ h=>by cases h) (by kernel_rfl) (fun _ h=>by cases h) canonOne_row_tie rfl ⟨rfl,rfl⟩ (by kernel_rfl) rfl yi (by kernel_rfl)
#print axioms one_card
