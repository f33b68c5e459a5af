import Derived.Test.YtjnpfpaigedpbaaDoorE5
namespace Go.Proofs.YtjnpfpaigedpbaaDoor
open Go.RowKit

/-- What the law asks of a cut. -/
theorem cut_law (cs : List Nat) (hc : allR cs) (p : Nat) (hp : p < (cat cs).length) :
    (∃ a b, allR a ∧ allR b ∧ (cat cs).take p = cat a ∧ (cat cs).drop p = cat b ∧ a.length + b.length = cs.length) ∨
    (∃ a t s, allR a ∧ t ≠ [] ∧ s ≠ [] ∧ (cat cs).take p = cat a ++ t ∧ dec t = (0, 0, 1) ∧ (cat cs).drop p = s ∧ dec s = (0, 0, 2) ∧ (cat a).length < p ∧ p < (cat a).length + 4) := by
  obtain ⟨a, c, b, r, e, hr, hk⟩ := cat_split cs hc p hp
  have ha : allR a := fun x hx => hc x (by rw [e]; simp [hx])
  have hb : allR b := fun x hx => hc x (by rw [e]; simp [hx])
  have hcc := hc c (by rw [e]; simp)
  have e1 : cat cs = cat a ++ (frm c ++ cat b) := by rw [e, cat_append]; rfl
  have hr' : r ≤ (frm c).length := Nat.le_of_lt hr
  have et : (cat cs).take p = cat a ++ (frm c).take r := by
    rw [e1, hk, List.take_length_add_append, List.take_append_of_le_length hr']
  have ed : (cat cs).drop p = (frm c).drop r ++ cat b := by
    rw [e1, hk, List.drop_length_add_append, List.drop_append_of_le_length hr']
  by_cases h0 : r = 0
  · subst h0
    refine .inl ⟨a, c :: b, ha, ?_, by rw [et]; simp, by rw [ed]; rfl, by rw [e]; simp⟩
    intro x hx
    simp only [List.mem_cons] at hx
    rcases hx with rfl | hx
    · exact hcc
    · exact hb x hx
  · have h4 := frm_len c
    refine .inr ⟨a, (frm c).take r, (frm c).drop r ++ cat b, ha, ?_, ?_, et, dec_cut c hcc r (by omega) hr, ed, dec_rest c hcc r (by omega) hr _, by omega, by omega⟩
    · exact List.ne_nil_of_length_pos (by rw [List.length_take]; omega)
    · exact List.ne_nil_of_length_pos (by rw [List.length_append, List.length_drop]; omega)

set_option maxRecDepth 100000 in
set_option maxHeartbeats 2000000 in
theorem parts_any {w : World} {aU aE : Addr} (v : Value) (l : List Int) (cut : Int) (hl : Rs w v l) (hcut : -9223372036854775808 ≤ cut ∧ cut ≤ 9223372036854775807) (hg : Glob w aU aE) :
    Calls Tryd.prog 7 #[v, .int .i64 cut] w fun e w' => LawTrue w e w' := by
  have hmm := hl.1
  obtain ⟨-, A0, c0, rfl, -, hcell0⟩ := id hl
  have hl0 : ∀ w', Below w.heap.size w w' → Rs w' (.slice A0 l.length c0) l := fun w' hb => by
    refine ⟨hl.1, A0, c0, rfl, by obtain ⟨-, A, c, e, h, -⟩ := id hl; injection e with _ _ e3; rw [e3]; exact h, fun h => ?_⟩
    obtain ⟨b, o, e, hc⟩ := hcell0 h
    exact ⟨b, o, e, fun i hi => cell_later hb (hc i hi)⟩
  have Hl := Lib.hid hl0
  have Hg := Lib.hid hg
  clear hg hl hl0 hcell0
  go_enter Tryd.func7, Tryd.ntmps7
  go_wp2_with fail
  refine (first_any Hg.out).mono ?_
  rintro e w1 ⟨rfl, hb1⟩
  have Hb1 := Lib.hid hb1
  clear hb1
  go_wp2_with fail
  refine (chars_any (Hl.out _ Hb1.out) (Hg.out.below Hb1.out)).mono ?_
  rintro e w2 ⟨v2, cs, hall, hcs, rfl, hv2, hb2⟩
  have Hall := Lib.hid hall
  have Hv2 := Lib.hid hv2
  have Hb2 := Lib.hid (bthen Hb1.out hb2)
  clear hall hv2 hb2 Hb1 Hl
  have hcl := (cat_len Hall.out).2
  obtain ⟨-, A, cap, rfl, hcap, -⟩ := id Hv2.out
  go_wp2_with fail
  refine (count_cat Hall.out Hv2.out (Hg.out.below Hb2.out)).mono ?_
  rintro e w3 ⟨rfl, hb3⟩
  have Hv3 := Lib.hid (Hv2.out.below hb3)
  have Hb3 := Lib.hid (bthen Hb2.out hb3)
  clear hb3 Hv2 Hb2
  go_wp2_with fail
  refine (valid_cat Hall.out Hv3.out (Hg.out.below Hb3.out)).mono ?_
  rintro e w4 ⟨rfl, hb4⟩
  have Hv4 := Lib.hid (Hv3.out.below hb4)
  have Hb4 := Lib.hid (bthen Hb3.out hb4)
  clear hb4 Hv3 Hb3
  by_cases h0 : (cat cs).length = 0
  · have h0' : (((cat cs).length : Int) == 0) = true := by rw [h0]; rfl
    have H0 := Lib.hid h0
    clear h0
    go_wp2
    go_ret
    exact ⟨rfl, Hb4.out⟩
  · have h0' : (((cat cs).length : Int) == 0) = false := beq_eq_false_iff_ne.2 (by omega)
    obtain ⟨p, hp, hpl⟩ : ∃ p : Nat, (cut.tmod (cat cs).length + (cat cs).length) % (cat cs).length = p ∧ p < (cat cs).length := by
      have h1 := Int.emod_nonneg (cut.tmod (cat cs).length + (cat cs).length) (show ((cat cs).length : Int) ≠ 0 by omega)
      have h2 := Int.emod_lt_of_pos (cut.tmod (cat cs).length + (cat cs).length) (show 0 < ((cat cs).length : Int) by omega)
      exact ⟨((cut.tmod (cat cs).length + (cat cs).length) % (cat cs).length).toNat, by omega, by omega⟩
    have t1 : -((cat cs).length : Int) < cut.tmod (cat cs).length := Int.neg_lt_of_neg_lt (by have := Int.tmod_lt_of_pos (-cut) (show 0 < ((cat cs).length : Int) by omega); rw [Int.neg_tmod] at this; exact this)
    have t2 : cut.tmod (cat cs).length < (cat cs).length := Int.tmod_lt_of_pos _ (by omega)
    have hlaw := cut_law cs Hall.out p hpl
    have hcapp : ¬ cap = p := by omega
    obtain ⟨-, A', cap', e', -, hcl4⟩ := id Hv4.out
    injection e' with e1 e2 e3
    subst e1 e3
    obtain ⟨b0, o0, rfl, -⟩ := hcl4 (by omega)
    have ht := Lib.hid (Hv4.out.take (k := p) (by omega))
    have hd := Lib.hid (Hv4.out.cut (k := p) (by omega))
    clear hcl4 e2
    go_wp2_with fail
    rw [hp]
    rcases hlaw with ⟨a, b, ha, hb, ea, eb, eab⟩ | ⟨a, t, s, ha, ht0, hs0, ea, et, eb, es, ep1, ep2⟩
    · rw [ea] at ht
      rw [eb] at hd
      refine (count_cat ha ht.out (Hg.out.below Hb4.out)).mono ?_
      rintro e w5 ⟨rfl, hb5⟩
      have hd5 := Lib.hid (hd.out.below hb5)
      have Hb5 := Lib.hid (bthen Hb4.out hb5)
      clear hd ht hb5
      go_wp2_with fail
      refine (count_cat hb hd5.out (Hg.out.below Hb5.out)).mono ?_
      rintro e w6 ⟨rfl, hb6⟩
      have Hb6 := Lib.hid (bthen Hb5.out hb6)
      clear hb6 hd5
      have eab' : ((a.length : Int) + b.length == cs.length) = true := by rw [← eab]; simp
      go_wp2
      go_ret
      exact ⟨rfl, Hb6.out⟩
    · rw [ea] at ht
      rw [eb] at hd
      refine (count_bad ha ht0 et (by omega) ht.out (Hg.out.below Hb4.out)).mono ?_
      rintro e w5 ⟨g1, rfl, hh1, hb5⟩
      have hd5 := Lib.hid (hd.out.below hb5)
      have Hb5 := Lib.hid (bthen Hb4.out hb5)
      have Hh1 := Lib.hid hh1
      clear hd ht hb5 hh1
      go_wp2_with fail
      refine (count_bad (cs := []) (by intro c hc; simp at hc) hs0 es (by omega) (by simpa [cat] using hd5.out) (Hg.out.below Hb5.out)).mono ?_
      rintro e w6 ⟨g2, rfl, hh2, hb6⟩
      have Hb6 := Lib.hid (bthen Hb5.out hb6)
      have Hh2 := Lib.hid hh2
      have Hh3 := Lib.hid ((hb6.block _ (lt_of_heap Hh1.out)).trans Hh1.out)
      clear hb6 hd5 hh2 Hh1
      have Hg6 := Lib.hid (Hg.out.below Hb6.out)
      have a1 := assert_at ⟨g1, 0, none⟩ w6
      have a2 := assert_at ⟨g2, 0, none⟩ w6
      have c0 : w6.cell? ⟨g1, 0, none⟩ = some (.int .i64 ((cat a).length : Nat)) := by simp [World.cell?, Hh3.out]
      have c1 : w6.cell? ⟨g1, 1, none⟩ = some (errS aE) := by simp [World.cell?, Hh3.out, errOf]
      have c2 : w6.cell? ⟨g2, 0, none⟩ = some (.int .i64 0) := by simp [World.cell?, Hh2.out, cat]
      have c3 : w6.cell? ⟨g2, 1, none⟩ = some (errS aU) := by simp [World.cell?, Hh2.out, errOf]
      have gE := Hg6.out.e
      have gU := Hg6.out.u
      have q1 := fun n => run_eql_err_same aE (w6.drewN n)
      have q2 := fun n => run_eql_err_same aU (w6.drewN n)
      have ep3 : ((cat a).length : Int) < p := by omega
      have ep4 : (p : Int) < (cat a).length + 4 := by omega
      go_wp2_with fail
      go_quiet (fail)
      go_wp2
      go_ret
      exact ⟨rfl, blw_drewN Hb6.out _⟩
end Go.Proofs.YtjnpfpaigedpbaaDoor
