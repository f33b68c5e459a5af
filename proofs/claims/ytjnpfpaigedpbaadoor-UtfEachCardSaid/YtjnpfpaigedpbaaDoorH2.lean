import Derived.Test.YtjnpfpaigedpbaaDoorH1
import Derived.Test.YtjnpfpaigedpbaaDoorE4
namespace Go.Proofs.YtjnpfpaigedpbaaDoor
open Go.RowKit

theorem wrap32_of {x : Int} (h0 : 0 ≤ x) (h1 : x < 2147483648) : wrap32 x = x := by
  unfold wrap32; omega
theorem isR_le {c : Int} (h : isR c = true) : c ≤ 1114111 := by
  simp only [isR, Bool.and_eq_true, decide_eq_true_eq] at h; exact h.1.2
/-- wicketref2.Decode: the same character and length as Decode's; its error's code is 0 where there is none. -/
def RDec (r : Nat × Nat × Nat) (w : World) (e : Ending) (w' : World) : Prop := (∃ code : Int, e = .returned (.tuple #[.int .i32 r.1, .int .i64 r.2.1, .int .i64 code]) ∧ (code = 0 ↔ r.2.2 = 0)) ∧ Below w.heap.size w w'
def GoodRel (w : World) (xs : List UInt8) (n : Nat) (s6 s7 : Value) (wr : World) : Prop := ∃ k : Nat, 1 ≤ k ∧ k ≤ n ∧ s6 = .bool (goodK xs (k - 1)) ∧ s7 = .int .i64 k ∧ w = wr
set_option maxRecDepth 100000 in
set_option maxHeartbeats 1000000 in
theorem refdec_any {w : World} {v : Value} {xs : List UInt8} (hb : Bs w v xs) : Calls Tryd.prog 27 #[v] w fun e w' => RDec (dec xs) w e w' := by
  obtain ⟨hm, A, cap, rfl, hcap, hcell⟩ := id hb
  have Hcell := Lib.hid hcell
  have Hb := Lib.hid hb
  clear hcell hb
  by_cases h0 : xs.length = 0
  · obtain rfl : xs = [] := List.eq_nil_of_length_eq_zero h0
    go_enter Tryd.func27, Tryd.ntmps27
    go_wp2
    go_ret3
    exact ⟨⟨103, rfl, by simp [dec]⟩, Below.refl _ _⟩
  have h0' : (((xs.length : Nat) : Int) == 0) = false := beq_eq_false_iff_ne.2 (by omega)
  obtain ⟨b, o, rfl, hcl⟩ := Hcell.out (by omega)
  have c0 := hcl 0 (by omega)
  rw [Nat.add_zero] at c0
  have hx := byteAt_lt xs 0
  have Hcl := Lib.hid hcl
  clear hcl Hcell
  have hcls := classI_cases (byteAt xs 0) hx
  have Hq := Lib.hid (refc_eq (byteAt xs 0) hx)
  go_enter Tryd.func27, Tryd.ntmps27
  go_wp2_with fail
  refine (refclass_any _ _).mono ?_
  rintro e w' ⟨rfl, rfl⟩
  rw [Hq.out]
  by_cases hc1 : classI (byteAt xs 0) < 1
  · have hd := Lib.hid (dec_0 (by omega) hc1)
    go_wp2
    go_ret3
    exact ⟨⟨101, by rw [hd.out]; rfl, by rw [hd.out]; simp⟩, Below.refl _ _⟩
  obtain ⟨n, hn, hn1, hn4⟩ : ∃ n : Nat, classI (byteAt xs 0) = n ∧ 1 ≤ n ∧ n ≤ 4 := by
    rcases hcls with h | h | h | h | h
    · omega
    · exact ⟨1, h, by omega, by omega⟩
    · exact ⟨2, h, by omega, by omega⟩
    · exact ⟨3, h, by omega, by omega⟩
    · exact ⟨4, h, by omega, by omega⟩
  rw [hn]
  have Hback := Lib.hid (fun h => ref_back (xs := xs) h)
  have Hyes := Lib.hid (fun (c : Int) hr hb => ref_yes (xs := xs) hn (c := c) hr hb)
  have Hn := Lib.hid hn
  clear hcls hc1 hn
  by_cases hlen : n ≤ xs.length
  · go_wp2_with fail
    go_loopw [6, 7] (GoodRel w xs n) (fun _ i _ => n - (intOf i).toNat)
    case atStart => exact ⟨1, by omega, by omega, rfl, rfl, rfl⟩
    case round =>
      obtain ⟨k, hk1, hk2, rfl, rfl, rfl⟩ := hrel
      by_cases hlt : k < n
      · have c1 := Hcl.out k (by omega)
        have hb3 := byteAt_lt xs k
        have hg := Lib.hid (show goodK xs k = (goodK xs (k - 1) && (decide (128 ≤ byteAt xs k) && decide (byteAt xs k ≤ 191))) from by obtain ⟨j, rfl⟩ : ∃ j, k = j + 1 := ⟨k - 1, by omega⟩; rfl)
        cases hgk : goodK xs (k - 1)
        · have hg2 := Lib.hid (show goodK xs k = false by rw [hg.out, hgk]; rfl)
          clear hgk
          go_wp2_with fail
          exact ⟨⟨k + 1, by omega, by omega, by rw [show k + 1 - 1 = k by omega, hg2.out], by go_num, rfl⟩, by simp [intOf]; omega⟩
        · by_cases t1 : 128 ≤ byteAt xs k
          · have t1' : 128 ≤ ((byteAt xs k : Nat) : Int) := by omega
            by_cases t2 : byteAt xs k ≤ 191
            · have t2' : ((byteAt xs k : Nat) : Int) ≤ 191 := by omega
              have hg2 := Lib.hid (show goodK xs k = true by rw [hg.out, hgk]; simp [t1, t2])
              clear hgk
              go_wp2_with fail
              exact ⟨⟨k + 1, by omega, by omega, by rw [show k + 1 - 1 = k by omega, hg2.out], by go_num, rfl⟩, by simp [intOf]; omega⟩
            · have t2' : ¬ ((byteAt xs k : Nat) : Int) ≤ 191 := by omega
              have hg2 := Lib.hid (show goodK xs k = false by rw [hg.out, hgk]; simp [t2])
              clear hgk
              go_wp2_with fail
              exact ⟨⟨k + 1, by omega, by omega, by rw [show k + 1 - 1 = k by omega, hg2.out], by go_num, rfl⟩, by simp [intOf]; omega⟩
          · have t1' : ¬ 128 ≤ ((byteAt xs k : Nat) : Int) := by omega
            have hg2 := Lib.hid (show goodK xs k = false by rw [hg.out, hgk]; simp [t1])
            clear hgk
            go_wp2_with fail
            exact ⟨⟨k + 1, by omega, by omega, by rw [show k + 1 - 1 = k by omega, hg2.out], by go_num, rfl⟩, by simp [intOf]; omega⟩
      · obtain hkn : k = n := by omega
        subst hkn
        go_wp2_with fail
        refine (number_any Hb.out (by omega) k hk1 hn4 0 (by omega)).mono ?_
        rintro e w' ⟨rfl, rfl⟩
        have hbk : (dec xs).2.2 = 0 → goodK xs (k - 1) = true ∧ wrap32 (numK xs k 0 (k - 1)) = (dec xs).1 ∧ isR (dec xs).1 = true ∧ xs.take (frm (dec xs).1).length = frm (dec xs).1 := fun h => by
          obtain ⟨m, hm1, hm4, hm, hgd, hnum, hr, htk⟩ := Hback.out h
          obtain rfl : m = k := by have := Hn.out; omega
          refine ⟨hgd, ?_, hr, htk⟩
          rw [hnum]
          exact wrap32_of (by have := isR_pos hr; omega) (by have := isR_le hr; omega)
        have Hbk := Lib.hid hbk
        clear hbk
        obtain ⟨c, hc⟩ : ∃ c, wrap32 (numK xs k 0 (k - 1)) = c := ⟨_, rfl⟩
        go_upto_region 13 with fail
        rw [hc] at Hbk ⊢
        clear hc
        have hno : goodK xs (k - 1) = false ∨ isR c = false ∨ (xs.take (frm c).length == frm c) = false → (dec xs).2.2 ≠ 0 := fun h e => by
          obtain ⟨h1, h2, h3, h4⟩ := Hbk.out e
          subst h2
          rcases h with h | h | h
          · rw [h1] at h; cases h
          · rw [h3] at h; cases h
          · rw [h4] at h; simp at h
        have Hno := Lib.hid hno
        clear hno
        cases hgk : goodK xs (k - 1)
        · have hn0 := Lib.hid (Hno.out (.inl hgk))
          clear hgk
          go_wp2
          go_ret3
          exact ⟨⟨101, by rw [dec_err hn0.out]; rfl, by rw [dec_err hn0.out]; simp [hn0.out]⟩, Below.refl _ _⟩
        · clear hgk
          go_wp2_with fail
          refine (refis_any c w).mono ?_
          rintro e w' ⟨rfl, rfl⟩
          cases hr : isR c
          · have hn0 := Lib.hid (Hno.out (.inr (.inl hr)))
            clear hr
            go_wp2
            go_ret3
            exact ⟨⟨101, by rw [dec_err hn0.out]; rfl, by rw [dec_err hn0.out]; simp [hn0.out]⟩, Below.refl _ _⟩
          · have Hr := Lib.hid hr
            clear hr
            go_wp2_with fail
            refine (refform_any c Hr.out).mono ?_
            rintro e w1 ⟨vf, rfl, hb1, hf1⟩
            have Hb1 := Lib.hid hb1
            have Hf1 := Lib.hid hf1
            clear hb1 hf1
            go_wp2_with fail
            refine (begins_any (Hb.out.below Hb1.out) Hf1.out).mono ?_
            rintro e w' ⟨rfl, m, rfl⟩
            cases ht : (xs.take (frm c).length == frm c)
            · have hn0 := Lib.hid (Hno.out (.inr (.inr ht)))
              clear ht
              go_wp2
              go_ret3
              exact ⟨⟨101, by rw [dec_err hn0.out]; rfl, by rw [dec_err hn0.out]; simp [hn0.out]⟩, blw_drewN Hb1.out m⟩
            · have hd := Lib.hid (Hyes.out c Hr.out (by simpa using ht))
              have hcn := Lib.hid (show ((c.toNat : Nat) : Int) = c by have := isR_pos Hr.out; omega)
              clear ht
              go_wp2
              go_ret3
              exact ⟨⟨0, by rw [hd.out, hcn.out]; rfl, by rw [hd.out]; simp⟩, blw_drewN Hb1.out m⟩
  · have hno : Hid ((dec xs).2.2 ≠ 0) := Lib.hid (fun h => by
      obtain ⟨m, hm1, hm4, hm, hgd, hnum, hr, htk⟩ := Hback.out h
      obtain rfl : m = n := by have := Hn.out; omega
      have hd := Hyes.out _ hr htk
      have := dec_le xs
      rw [hd] at this
      simp at this
      omega)
    go_wp2_with fail
    refine (cut_any Hb.out (by omega) n hn4 (by omega)).mono ?_
    rintro e w' ⟨⟨bb, rfl⟩, hbl⟩
    cases bb
    all_goals
      go_wp2
      go_ret3
      exact ⟨⟨_, by rw [dec_err hno.out]; rfl, by rw [dec_err hno.out]; simp [hno.out]⟩, hbl⟩
end Go.Proofs.YtjnpfpaigedpbaaDoor
