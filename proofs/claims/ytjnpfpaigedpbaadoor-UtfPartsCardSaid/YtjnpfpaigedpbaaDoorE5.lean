import Derived.Test.YtjnpfpaigedpbaaDoorP5
namespace Go.Proofs.YtjnpfpaigedpbaaDoor
open Go.RowKit

/-- A slice of numbers of 32 bits. -/
def Rs (w : World) (v : Value) (cs : List Int) : Prop :=
  cs.length ≤ 9223372036854775807 ∧ ∃ A c, v = .slice A cs.length c ∧ cs.length ≤ c ∧ (0 < cs.length → ∃ b o, A = some ⟨b, o, none⟩ ∧ ∀ i, i < cs.length → w.cell? ⟨b, o + i, none⟩ = some (.int .i32 (cs.getD i 0)))
def Charred (w : World) (e : Ending) (w' : World) : Prop :=
  ∃ v cs, allR cs ∧ cs.length ≤ 1000 ∧ e = .returned (.tuple #[v, .int .i64 (cs.length : Nat)]) ∧ Bs w' v (cat cs) ∧ Below w.heap.size w w'
def CharRel (w : World) (len : Nat) (b n i : Value) (wr : World) : Prop :=
  ∃ (k : Nat) (cs : List Nat), k ≤ 1000 ∧ k ≤ len ∧ i = .int .i64 k ∧ cs.length ≤ k ∧ allR cs ∧ n = .int .i64 (cs.length : Nat) ∧ OwnB wr w.heap.size b (cat cs) ∧ Below w.heap.size w wr

set_option maxHeartbeats 1000000 in
theorem chars_any {w : World} {aU aE : Addr} {v : Value} {l : List Int} (hl : Rs w v l) (hg : Glob w aU aE) :
    Calls Tryd.prog 24 #[v] w fun e w' => Charred w e w' := by
  obtain ⟨hm, A, cap, rfl, hcap, hcell⟩ := hl
  have Hg := Lib.hid hg
  have Hcell := Lib.hid hcell
  clear hg hcell
  go_enter Tryd.func24, Tryd.ntmps24
  go_wp2_with fail
  go_loopw [4, 5, 6] (CharRel w l.length) (fun _ _ i _ => 1000 - (intOf i).toNat)
  case atStart => exact ⟨0, [], by omega, by omega, rfl, by simp, fun c hc => by simp at hc, rfl, OwnB.nil w _, Below.refl _ _⟩
  case round =>
    obtain ⟨k, cs, hk1, hk2, rfl, hck, hall, rfl, hown, hb⟩ := hrel
    have Hall := Lib.hid hall
    have Hown := Lib.hid hown
    have Hb := Lib.hid hb
    clear hall hown hb
    by_cases hgo : k < l.length ∧ k < 1000
    · obtain ⟨hk, hk3⟩ := hgo
      obtain ⟨b, o, rfl, hc⟩ := Hcell.out (by omega)
      have hx := cell_later Hb.out (hc k hk)
      clear hc
      generalize l.getD k 0 = c at *
      have hk3i : (k : Int) < 1000 := by omega
      go_wp2_with fail
      refine (lform_any c (Hg.out.below Hb.out)).mono ?_
      rintro e w2 ⟨v2, rfl, hb2, hv2⟩
      have Hv2 := Lib.hid hv2
      have Hb2 := Lib.hid hb2
      have hl4 := frm_len c
      obtain ⟨-, A2, n2, rfl, hn2, -⟩ := id hv2
      clear hv2 hb2
      by_cases hr : isR c = true
      · have hcn : ((c.toNat : Nat) : Int) = c := by have := isR_pos hr; omega
        have hpos : 0 < (frm c).length := List.length_pos_iff.2 (frm_ne hr)
        have hlen := (cat_len Hall.out).2
        have Hcn := Lib.hid hcn
        have Hr := Lib.hid hr
        clear hcn hr
        go_wp2_with (at_builtin; refine wpList_append_bs rfl (.tmp 26) (.tmp 27) rfl w.heap.size _ _ (cat cs) (frm c) (by simp [Act.eval]) (Hown.out.below Hb2.out (Nat.le_refl _)) (by simp [Act.eval]) Hv2.out (by omega) (Nat.le_trans Hb.out.size Hb2.out.size) ?_; intro v5 w5 h51 h52 h53; have Ho5 := Lib.hid h51; have Hg5 := Lib.hid h52; clear h51 h52 h53)
        refine ⟨⟨k + 1, cs ++ [c.toNat], by omega, by omega, by go_num, by simp; omega, ?_, by simp, ?_, ?_⟩, by simp [intOf]; omega⟩
        · intro x hx
          simp only [List.mem_append, List.mem_singleton] at hx
          rcases hx with hx | rfl
          · exact Hall.out x hx
          · rw [Hcn.out]; exact Hr.out
        · rw [cat_append]; simp only [cat, List.append_nil]; rw [Hcn.out]; exact Ho5.out
        · exact own_grown (Hb.out.trans (Hb2.out.mono Hb.out.size)) (Hown.out.below Hb2.out (Nat.le_refl _)) Hg5.out
      · have hr' : isR c = false := by simpa using hr
        have hpos : ¬ 0 < (frm c).length := by rw [frm_nil hr']; simp
        have Hr := Lib.hid hr'
        clear hr hr'
        go_wp2_with fail
        exact ⟨⟨k + 1, cs, by omega, by omega, by go_num, by omega, Hall.out, rfl, Hown.out.below Hb2.out (Nat.le_refl _), Hb.out.trans (Hb2.out.mono Hb.out.size)⟩, by simp [intOf]; omega⟩
    · have hstop : k = l.length ∨ (k < l.length ∧ k = 1000) := by omega
      clear hgo
      rcases hstop with rfl | ⟨hk, rfl⟩
      · go_wp2
        go_ret2
        exact ⟨_, cs, Hall.out, by omega, rfl, Hown.out.bs, Hb.out⟩
      · go_wp2
        go_ret2
        exact ⟨_, cs, Hall.out, by omega, rfl, Hown.out.bs, Hb.out⟩

/-- Count of forms. -/
theorem count_cat {w : World} {v : Value} {cs : List Nat} {aU aE : Addr} (hc : allR cs) (hb : Bs w v (cat cs)) (hg : Glob w aU aE) :
    Calls Tryd.prog 25 #[v] w fun e w' => e = .returned (.tuple #[.int .i64 (cs.length : Nat), .nilIface]) ∧ Below w.heap.size w w' := by
  have h := each_of_cat cs hc [] (by simp [dec])
  rw [List.append_nil] at h
  refine (count_any hb hg).mono ?_
  rintro e w' ⟨hb', ⟨_, rfl⟩ | ⟨h', _⟩⟩
  · exact ⟨by rw [h.1], hb'⟩
  · rw [posAfter_each _ hb.1, h.2] at h'; omega
theorem valid_cat {w : World} {v : Value} {cs : List Nat} {aU aE : Addr} (hc : allR cs) (hb : Bs w v (cat cs)) (hg : Glob w aU aE) :
    Calls Tryd.prog 26 #[v] w fun e w' => e = .returned .nilIface ∧ Below w.heap.size w w' := by
  have h := each_of_cat cs hc [] (by simp [dec])
  rw [List.append_nil] at h
  refine (valid_any hb hg).mono ?_
  rintro e w' ⟨hb', ⟨_, rfl⟩ | ⟨h', _⟩⟩
  · exact ⟨rfl, hb'⟩
  · rw [posAfter_each _ hb.1, h.2] at h'; omega
/-- Count of forms with a fault behind them. -/
theorem count_bad {w : World} {v : Value} {cs : List Nat} {t : List UInt8} {code : Nat} {aU aE : Addr} (hc : allR cs) (ht : t ≠ []) (hd : dec t = (0, 0, code)) (h0 : code ≠ 0) (hb : Bs w v (cat cs ++ t)) (hg : Glob w aU aE) :
    Calls Tryd.prog 25 #[v] w fun e w' => ∃ g : Nat, e = .returned (.tuple #[.int .i64 0, .iface 53 (.pointer (some ⟨g, 0, none⟩))]) ∧ w'.heap[g]? = some (.cells #[.int .i64 (cat cs).length, errOf (errS aU) (errS aE) code] 56 (0, 0)) ∧ Below w.heap.size w w' := by
  have h := each_of_cat cs hc t (by rw [hd]; exact h0)
  have hl : 0 < t.length := List.length_pos_iff.2 ht
  refine (count_any hb hg).mono ?_
  rintro e w' ⟨hb', ⟨h', _⟩ | ⟨_, g, rfl, hh, _⟩⟩
  · rw [posAfter_each _ hb.1, h.2] at h'; simp at h'; omega
  · refine ⟨g, rfl, ?_, hb'⟩
    rw [hh, posAfter_each _ hb.1, h.2, Int.toNat_natCast]
    simp [hd]
end Go.Proofs.YtjnpfpaigedpbaaDoor
