import Derived.Test.YtjnpfpaigedpbaaDoorF1
import Derived.Test.YtjnpfpaigedpbaaDoorE2
import Derived.SizedLaws
namespace Go.Proofs.YtjnpfpaigedpbaaDoor
open Go.ChangeShapes Go.WideShapes Go.ChangeAt Go.WideMaps Go.WideElems Go.RowKit

theorem Tryd.laidOut : laidOutB Tryd.prog = true := by kernel_rfl
theorem cells5 : Tryd.prog.cellsOf 5 = 1 := by kernel_rfl
theorem bytes5 : Tryd.prog.bytesOf 5 = 1 := by kernel_rfl
section
variable {H : Type} {enc : TypeId × Value → H}
/-- An argument reads behind the call as it read before. -/
theorem stay {t : TypeId} (hr : Tryd.prog.readableRec t = true) (hrow : t < Tryd.prog.types.size) {W W' : World} {v : Value} {d : DataW H} {ps before : List MemPlace}
    (h : DataW.Trod enc Tryd.prog W 0 (fun _ => true) true t v d ps) (hb : Below W.heap.size W W') (hlt : ∀ x ∈ ps, x.block < W.heap.size) (sp : Nat → Bool) (hsub : ∀ x ∈ ps, x ∈ before) (hsp : ∀ p ∈ before, sp p.block = true) :
    DataW.Trod enc Tryd.prog W' 0 sp true t v d ps :=
  Trod_stays Tryd.laidOut hr hrow h (fun x hx => hb.same (hlt x hx)) (fun x hx => hsp x (hsub x hx))

/-- A slice of bytes that came in reads as bytes. -/
theorem bs_of_trod {W : World} {v : Value} {d : DataW H} {ps : List MemPlace} {base : Nat} (hv : Value.okWide Tryd.prog W .any base 24 v) (hj : DataW.Trod enc Tryd.prog W 0 (fun _ => true) true 24 v d ps) :
    ∃ xs, Bs W v xs ∧ (xs = [] ∨ ∃ el sp, d = .slice el sp ∧ el.length = xs.length) := by
  obtain ⟨a0, len, cap, rfl⟩ := okWide_slice Tryd.underlying24 hv
  obtain ⟨fuel, hf⟩ := hj
  rcases open_ints Tryd.underlying24 Tryd.underlying5 cells5 hf with ⟨hcs, hx⟩ | ⟨a, len', cap', zs, hcs, _, hl, hm, hz, hx, hcell, hwz⟩
  · simp [Value.cells] at hcs
    obtain ⟨rfl, rfl, rfl⟩ := hcs
    exact ⟨[], ⟨by simp, none, 0, rfl, Nat.le_refl _, fun h => by simp at h⟩, .inl rfl⟩
  · simp [Value.cells] at hcs
    obtain ⟨rfl, rfl, rfl⟩ := hcs
    simp only [if_true] at hz
    injection hx with hx1 hx2
    have hl2 : ((zs.take len).map fun z => UInt8.ofNat z.toNat).length = len := by simp; omega
    have hplain : ∀ i, i < zs.length → W.cell? (a.add i) = some (.int .u8 (zs.getD i 0)) := hcell
    refine ⟨(zs.take len).map fun z => UInt8.ofNat z.toNat, ⟨by rw [hl2]; unfold maxLen at hm; omega, some a, cap, by rw [hl2], by rw [hl2]; exact hl, fun h0 => ?_⟩, .inr ⟨_, _, hx1, by rw [hl2]; simp [lits]; omega⟩⟩
    rw [hl2] at h0
    have h00 := hcell 0 (by omega)
    obtain ⟨b, o, sp⟩ := a
    have hsp : sp = none := by
      cases sp with
      | none => rfl
      | some s => exfalso; simp [Addr.add, World.cell?] at h00; split at h00 <;> simp at h00
    subst hsp
    refine ⟨b, o, rfl, fun i hi => ?_⟩
    rw [hl2] at hi
    have h1 := hcell i (by omega)
    have e1 : (⟨b, o, none⟩ : Addr).add i = ⟨b, o + i, none⟩ := by unfold Addr.add; split <;> simp_all
    rw [e1] at h1
    rw [h1]
    have hw := hwz (zs.getD i 0) (by rw [List.getD_eq_getElem?_getD, List.getElem?_eq_getElem (show i < zs.length by omega)]; exact List.getElem_mem _)
    have hw' : 0 ≤ zs.getD i 0 ∧ zs.getD i 0 ≤ 255 := bounds_u8 hw
    have e2 : (((byteAt ((zs.take len).map fun z => UInt8.ofNat z.toNat) i : Nat)) : Int) = zs.getD i 0 := by
      unfold byteAt
      have : ((zs.take len).map fun z => UInt8.ofNat z.toNat).getD i 0 = UInt8.ofNat (zs.getD i 0).toNat := by
        simp [List.getElem?_take, hi, List.getElem?_eq_getElem (show i < zs.length by omega)]
      rw [this]
      exact ofNat_toNat8 _ (by omega)
    rw [e2]
end

set_option maxRecDepth 100000 in
theorem back_lifted (os : Os) (started : os.Started) (H : Type) (enc : TypeId × Value → H) :
    ReturnsInHanded {} Tryd.checked os 6 .any (fun w args => (Rows.utfBackSpec.pre enc Tryd.prog Tryd.f6 [] false w args ∧ laidMetH Tryd.prog laid3 w) ∧ sizedMet enc Tryd.prog Tryd.f6 (OpenSpec.ofChange Rows.utfBackSpec) false w args)
      (Rows.utfBackSpec.post enc Tryd.prog Tryd.f6 false true false false) := by
  refine returnsInHanded_of_change_and (C := Tryd.checked) (X := fun w _ => laidMetH Tryd.prog laid3 w) (fun _ _ _ hh h => h.of_heap hh) Tryd.own started (by kernel_rfl) Tryd.func6
    (ChangeSpec.witness_shaped (enc := enc) (C := Tryd.checked) (os := os) (X := fun w _ => laidMetH Tryd.prog laid3 w) false (World.doorLaid Tryd.prog 52 os) #[.int .i32 0, .int .i32 0, .slice none 0 0] 8 rfl (World.shaped_of_RefB (by kernel_rfl) (by kernel_rfl)) (by kernel_rfl) (by kernel_rfl) (by kernel_rfl) (door_met os _)) ?_
  intro W base args ds gs before hval0 hW _ hsz0 hL _
  have hsz : (DataW.weightsEach Tryd.prog (Tryd.f6.params.toList ++ Rows.utfBackSpec.plain.varTypes Tryd.prog) (ds ++ gs)).all (· ≤ reachBytes) = true := hsz0
  have hval : ∀ (j : Nat) t v, Tryd.f6.params[j]? = some t → args[j]? = some v → Value.okWide Tryd.prog W .any base t v := hval0
  have hW' := hW
  have hlt : ∀ p ∈ before, p.block < W.heap.size := fun p hp => hW.lt p hp
  obtain ⟨p, q, hA0, hV, rfl, hfz, hnd⟩ := hW
  have hA : DataW.TrodAll enc Tryd.prog W 0 (fun _ => true) true Tryd.f6.params.toList args.toList ds p := hA0
  rw [Tryd.params6] at hA hval hsz
  obtain ⟨v0, v1, v2, d0, d1, d2, p0, p1, p2, rfl, rfl, rfl, h0, h1, h2⟩ := trodAll_three hA
  obtain ⟨rfl, rfl⟩ := trodVars_none hV
  obtain ⟨xs, hbs, hlen⟩ := bs_of_trod (hval 2 24 v2 rfl rfl) h2
  obtain ⟨c, rfl, rfl, rfl, wc⟩ := open_int Tryd.underlying21 (hval 0 21 v0 rfl rfl) h0
  obtain ⟨d, rfl, rfl, rfl, wd⟩ := open_int Tryd.underlying21 (hval 1 21 v1 rfl rfl) h1
  obtain ⟨aU, aE, hg⟩ := glob_of_laid hL
  have hreach : xs.length ≤ 140737488351232 := by
    rcases hlen with rfl | ⟨el, sp, rfl, hel⟩
    · simp
    · have := sized_slice hsz (j := 2) (t := 24) (e := 5) rfl rfl Tryd.underlying24
      rw [bytes5] at this
      simp only [reachBytes] at this
      omega
  clear hA0 hval0
  simp only [List.append_nil, List.nil_append] at hW' hlt
  refine (back_any c d v2 xs hbs hg hreach).mono fun e W' ⟨he, hb⟩ => ?_
  subst he
  exact ⟨_, rfl, post_of_below (pa := p2) (pv := []) hW' (fun _ _ _ => trodAll_mk1 (shut_bool Tryd.underlying4 true))
    (fun sp hsp => trodAll_mk3 (p := []) (p' := []) (shut_int Tryd.underlying21 wc) (shut_int Tryd.underlying21 wd) (stay (by kernel_rfl) (of_decide_eq_true (by kernel_rfl)) h2 hb hlt sp (fun _ h => h) hsp)) (fun _ _ => rfl) (by simp) hb (ok_one (by kernel_rfl) rfl (okWide_bool_mk Tryd.underlying4 true))⟩

theorem back_row : Rows.UtfBackSaid :=
  OpenClaim.holds_of_wide 6 Tryd.f6 rfl rfl rfl rfl rfl rfl rfl ⟨rfl, rfl, rfl, rfl, rfl⟩ rfl rfl rfl rfl rfl (by kernel_rfl) Tryd.func6 (by kernel_rfl)
    (of_decide_eq_true (by kernel_rfl)) (by unfold Func.isWrapper; rw [if_neg (of_decide_eq_false (by kernel_rfl))]; exact ⟨rfl, rfl⟩)
    (fun os started H enc _ => back_lifted os started H enc)
end Go.Proofs.YtjnpfpaigedpbaaDoor
