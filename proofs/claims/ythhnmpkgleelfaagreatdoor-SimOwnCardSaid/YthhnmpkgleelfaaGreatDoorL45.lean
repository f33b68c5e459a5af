import Derived.Test.YthhnmpkgleelfaaGreatDoorL29
import Derived.Test.YthhnmpkgleelfaaGreatDoorRows
import Derived.ProofKit
import Derived.LaidMore
import Derived.LaidOnce
import Derived.Lib.LaidTab
import Derived.Lib.LaidU8T
import Derived.Test.YthhnmpkgleelfaaGreatDoorL44
import Derived.Test.YthhnmpkgleelfaaGreatDoorL26
import Derived.OpenShut
import Derived.ChangeMaps5
import Derived.Stop.Joined
import Derived.Lay
import Derived.Test.YthhnmpkgleelfaaGreatDoorCards
import Derived.Test.YthhnmpkgleelfaaGreatDoorTie
import Derived.SevenTiedAt
import Derived.Test.YthhnmpkgleelfaaGreatDoorL37
import Derived.Test.YthhnmpkgleelfaaGreatDoorL23
import Derived.Deep.Strs
import Derived.Deep.OwnShut
set_option linter.unusedVariables false
set_option linter.unusedSimpArgs false
namespace Go.Proofs.YthhnmpkgleelfaaGreatDoor
open Go.RowKit Go.Shelf Go.Lib
abbrev laidS : List (String × DataW Unit) := [("math/bits.deBruijn32tab", Rows.laid_math_bits_deBruijn32tab), ("math/bits.deBruijn64tab", Rows.laid_math_bits_deBruijn64tab), ("internal/strconv.uint64pow10", Rows.laid_internal_strconv_uint64pow10), ("unicode/utf8.acceptRanges", Rows.laid_unicode_utf8_acceptRanges), ("wicket/api.ErrUTF", Rows.laid_wicket_api_ErrUTF), ("wicket/api.ErrNil", Rows.laid_wicket_api_ErrNil), ("wicket/api.ErrPattern", Rows.laid_wicket_api_ErrPattern), ("wicket/api.ErrRepeat", Rows.laid_wicket_api_ErrRepeat), ("wicket/api.ErrRange", Rows.laid_wicket_api_ErrRange), ("unicode/utf8.first", Rows.laid_unicode_utf8_first)]
theorem tab_of_reads {W : World} {name : String} {k : IntKind} {zs : List Int} {g : Nat} {t e : TypeId} {n : Nat} (hg : Tryz.prog.globalNamed name = some g) (hty : (Tryz.prog.globals[g]?).map (·.type) = some t) (ht : Tryz.prog.underlying t = some (.array n e)) (he : Tryz.prog.underlying e = some (.int k)) (hce : Tryz.prog.cellsOf e = 1) (hct : Tryz.prog.cellsOf t = n) (h : VarReads Tryz.prog W name (tabData k zs)) : TabIs Tryz.prog W name k zs := by
 obtain ⟨g', t', cs, fuel, p, hg', ht', hvar, hd⟩ := h
 obtain rfl := Option.some.inj (hg.symm.trans hg')
 obtain rfl := Option.some.inj (hty.symm.trans ht')
 unfold TabIs
 rw [hvar, ← cells_of_tab ht he hce hct hd]
theorem tabs_of_laid {W : World} (h : laidMetH Tryz.prog laidS W) : Tabs W := by
 rw [MakeChecks.laidMetH_plain _ _ _ (by kernel_rfl)] at h
 have h1 := laidMet.reads (l := laidS) h (n := "unicode/utf8.first") (d := Rows.laid_unicode_utf8_first) (by simp [laidS])
 have h2 := laidMet.reads (l := laidS) h (n := "unicode/utf8.acceptRanges") (d := Rows.laid_unicode_utf8_acceptRanges) (by simp [laidS])
 have h3 := laidMet.reads (l := laidS) h (n := "internal/strconv.uint64pow10") (d := Rows.laid_internal_strconv_uint64pow10) (by simp [laidS])
 rw [show Rows.laid_unicode_utf8_first = firstData by kernel_rfl] at h1
 rw [show (Rows.laid_unicode_utf8_acceptRanges : DataW Unit) = acceptData by kernel_rfl] at h2
 rw [show (Rows.laid_internal_strconv_uint64pow10 : DataW Unit) = tabData .u64 pow10Tab by kernel_rfl] at h3
 refine ⟨utf8Tabs_of_readsT (U8Types.of196 lays196) ⟨by kernel_rfl, by kernel_rfl, by kernel_rfl, by kernel_rfl, by kernel_rfl, by kernel_rfl, by kernel_rfl⟩ h1 h2, ?_⟩
 exact tab_of_reads (g := 8) (t := 279) (e := 138) (n := 20) (by kernel_rfl) (by kernel_rfl) Tryz.underlying279 Tryz.underlying138 (by kernel_rfl) (by kernel_rfl) h3
end Go.Proofs.YthhnmpkgleelfaaGreatDoor
namespace Go.Proofs.YthhnmpkgleelfaaGreatDoor
open Go.ChangeShapes Go.WideShapes Go.ChangeAt Go.WideMaps Go.WideElems Go.RowKit
section
variable {H : Type} {enc : TypeId × Value → H} {P : Program}
theorem post_of_below {f : Func} {s : ChangeSpec} {apart fresh handsOn again : Bool} {W W' : World} {args : Array Value} {v : Value} {ds gs : List (DataW H)} {before pa pv : List MemPlace}
  (hW : DataW.Whole enc P f.params.toList s.vars apart W args.toList ds gs before)
  (hres : ∀ (b : Nat) (sp : Nat → Bool) (hd : Bool), DataW.TrodAll enc P W' b sp hd f.resultTypes.toList (v.resultList f.resultTypes.size) (s.fn H (ds ++ gs)).results [])
  (hargs : ∀ sp : Nat → Bool, (∀ p ∈ before, sp p.block = true) → DataW.TrodAll enc P W' 0 sp true f.params.toList args.toList (s.fn H (ds ++ gs)).args pa)
  (hvars : ∀ sp : Nat → Bool, (∀ p ∈ before, sp p.block = true) → DataW.TrodVars enc P W' sp s.vars (s.fn H (ds ++ gs)).vars pv)
  (hps : before = pa ++ pv) (hb : Below W.heap.size W W')
  (hok : ∀ (j : Nat) (t : TypeId) (r : Value), f.resultTypes[j]? = some t → (v.resultList f.resultTypes.size)[j]? = some r → Value.okWide P W' .any 0 t r) :
  s.post enc P f apart fresh handsOn again W args v W' := by
 have hlt : ∀ p ∈ before, p.block < W.heap.size := fun p hp => hW.lt p hp
 have hold : ∀ p ∈ before, (fun b => decide (b < W.heap.size)) p.block = true := fun p hp => by simpa using hlt p hp
 refine ⟨ds, gs, before, [], pa, pv, hW, hres _ _ _, hargs _ hold, hvars _ hold, World.keptBut_mono (fun p hp => ⟨hp, ?_⟩) (hb.frame (· ∈ before)), fun _ => ?_⟩
 ·rw [hps, List.mem_append] at hp
  exact Or.inr hp
 ·obtain ⟨_, _, _, _, _, hz, hn⟩ := hW
  refine ⟨hok, _, _, ([] ++ pa) ++ pv, ⟨[] ++ pa, pv, trodAll_append (hargs _ (fun _ _ => rfl)) (hres _ _ _), hvars _ (fun _ _ => rfl), rfl, ?_, ?_⟩, ?_⟩
  ·intro b off hp
   have hin : MemPlace.cell b off ∈ before := by rw [hps]; simpa using hp
   rw [hb.frozen (hlt _ hin)]
   exact hz b off hin
  ·intro ha
   have := hn ha
   rw [hps] at this
   simpa using this
  ·intro p hp _
   rw [hps]
   simpa using hp
end
theorem Tryz.own : ownKnob Tryz.prog.godebug = none := by kernel_rfl
theorem door_met (os : Os) (args : Array Value) : laidMetH Tryz.prog laidS ((World.laidAll Tryz.prog os laidS).forCall (fun _ _ => 0) ⟨#[], args, []⟩).memory := by
 rw [MakeChecks.laidMetH_plain _ _ _ (by kernel_rfl)]
 exact laidMet_laidAll _ (by kernel_rfl) (by kernel_rfl)
theorem Tryz.laidOut : laidOutB Tryz.prog = true := by kernel_rfl
theorem cellsI32 : Tryz.prog.cellsOf 21 = 1 := by kernel_rfl
section
variable {H : Type} {enc : TypeId × Value → H}
theorem stay {t : TypeId} (hr : Tryz.prog.readableRec t = true) (hrow : t < Tryz.prog.types.size) {W W' : World} {v : Value} {d : DataW H} {ps before : List MemPlace}
  (h : DataW.Trod enc Tryz.prog W 0 (fun _ => true) true t v d ps) (hb : Below W.heap.size W W') (hlt : ∀ x ∈ ps, x.block < W.heap.size) (sp : Nat → Bool) (hsub : ∀ x ∈ ps, x ∈ before) (hsp : ∀ p ∈ before, sp p.block = true) :
  DataW.Trod enc Tryz.prog W' 0 sp true t v d ps :=
 Trod_stays Tryz.laidOut hr hrow h (fun x hx => hb.same (hlt x hx)) (fun x hx => hsp x (hsub x hx))
theorem sl_of_cells {W : World} {a : Addr} {len cap n : Nat} {us : List Value} (hlen : us.length = len) (hl : len ≤ cap) (hm : len ≤ 9223372036854775807) (h : ∀ i u, us[i]? = some u → W.cell? (a.add i) = some u) (hn : len ≤ n) : Sl W (.slice (some a) len cap) us := by
 refine ⟨by omega, some a, cap, by rw [hlen], by omega, fun h0 => ?_⟩
 obtain ⟨u0, hu0⟩ : ∃ u, us[0]? = some u := ⟨_, List.getElem?_eq_getElem h0⟩
 have h00 := h 0 u0 hu0
 obtain ⟨b, o, sp⟩ := a
 have hsp : sp = none := by
  cases sp with
  | none => rfl
  | some s => exfalso; simp [Addr.add, World.cell?] at h00; split at h00 <;> simp at h00
 subst hsp
 refine ⟨b, o, rfl, fun i u hi => ?_⟩
 have h1 := h i u hi
 have e1 : (⟨b, o, none⟩ : Addr).add i = ⟨b, o + i, none⟩ := by unfold Addr.add; split <;> simp_all
 rwa [e1] at h1
set_option maxRecDepth 100000 in
theorem runes_of_trod {W : World} {v : Value} {d : DataW H} {ps : List MemPlace} {base : Nat} (hv : Value.okWide Tryz.prog W .any base 37 v) (hj : DataW.Trod enc Tryz.prog W 0 (fun _ => true) true 37 v d ps) :
  ∃ xs : List Int, Sl W v (xs.map runeV) := by
 obtain ⟨a0, len, cap, rfl⟩ := okWide_slice Tryz.underlying37 hv
 obtain ⟨fuel, hf⟩ := hj
 rcases open_ints Tryz.underlying37 Tryz.underlying21 cellsI32 hf with ⟨hcs, hx⟩ | ⟨a, len', cap', zs, hcs, _, hl, hm, hz, hx, hcell, hwz⟩
 ·simp [Value.cells] at hcs
  obtain ⟨rfl, rfl, rfl⟩ := hcs
  exact ⟨[], Nat.zero_le _, none, 0, rfl, Nat.le_refl _, fun h => by simp at h⟩
 ·simp [Value.cells] at hcs
  obtain ⟨rfl, rfl, rfl⟩ := hcs
  simp only [if_true] at hz
  have hl2 : (zs.take len).length = len := by simp; omega
  have hplain : ∀ i, i < zs.length → W.cell? (a.add i) = some (.int .i32 (zs.getD i 0)) := hcell
  refine ⟨zs.take len, sl_of_cells (n := len) (by rw [List.length_map]; exact hl2) hl (by unfold maxLen at hm; omega) (fun i u hi => ?_) (Nat.le_refl _)⟩
  have hlt := (List.getElem?_eq_some_iff.1 hi).1
  rw [List.length_map, hl2] at hlt
  have h1 := hplain i (by omega)
  rw [h1]
  rw [List.getElem?_map, List.getElem?_take, if_pos hlt, List.getElem?_eq_getElem (by omega)] at hi
  rw [List.getD_eq_getElem?_getD, List.getElem?_eq_getElem (by omega)]
  simpa [runeV] using hi
end
end Go.Proofs.YthhnmpkgleelfaaGreatDoor
