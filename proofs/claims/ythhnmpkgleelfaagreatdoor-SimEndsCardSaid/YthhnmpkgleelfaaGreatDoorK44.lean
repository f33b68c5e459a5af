import Derived.Test.YthhnmpkgleelfaaGreatDoorK43
import Derived.Test.YthhnmpkgleelfaaGreatDoorK8
import Derived.Lib.OthersKept
import Derived.LoopN
set_option linter.unusedVariables false
set_option linter.unusedSimpArgs false
namespace Go.Proofs.YthhnmpkgleelfaaGreatDoor
open Go.RowKit Go.Shelf
def RuP (M : List St) (st mg : Nat) (S : List Int) (w : World) (e : Ending) (w' : World) : Prop :=
 ∃ (g pg : Nat) (vs ve : Value), e = .returned (.pointer (some ⟨g, 0, none⟩)) ∧ RunR M st mg w.heap.size g pg S true vs ve w' ∧ Below w.heap.size w w'
def RuL (M : List St) (st mg g pg j : Nat) (s : ByteArray) (w : World) (m : Nat) (wr : World) : Prop :=
 ∃ (p : Nat) (pre : List Int) (vs ve : Value), p + m = s.size ∧ wr.heap[j]? = some (.stringIter s p) ∧ RunR M st mg w.heap.size g pg pre false vs ve wr ∧ runes badR s.data.toList = pre ++ runes badR (s.data.toList.drop p) ∧ pre.length ≤ p ∧ Below w.heap.size w wr ∧ ∀ k, Foot g pg vs ve k → k ≠ j
theorem Chg.iter {w : World} {j p q : Nat} {s : ByteArray} : Chg (fun k => k = j) w (w.iterAt j s q) := ⟨rfl, rfl, rfl, by rw [Lib.iterAt_size]; exact Nat.le_refl _, fun k _ hk => Lib.iterAt_other w j k s q hk⟩
theorem RuL.fed {M : List St} {st mg g pg j p l m2 : Nat} {s : ByteArray} {w wi w' : World} {c : Int} {pre : List Int} {vs ve : Value} {e : Ending} (hj : w.heap.size ≤ j) (hi : wi.heap[j]? = some (.stringIter s (p + l))) (hb : Below w.heap.size w wi) (hr : RunR M st mg w.heap.size g pg pre false vs ve wi) (hne : ∀ k, Foot g pg vs ve k → k ≠ j)
  (hs : runes badR s.data.toList = pre ++ kn c :: runes badR (s.data.toList.drop (p + l))) (hp : pre.length ≤ p) (hl : 1 ≤ l) (hm : p + l + m2 = s.size) (hf : FdP M st mg w.heap.size g pg (pre ++ [kn c]) false vs ve wi e w') : RuL M st mg g pg j s w m2 w' := by
 obtain ⟨_, vs', ve', h1, h2, h3⟩ := hf
 have hjl := lt_of_heap hi
 refine ⟨p + l, pre ++ [kn c], vs', ve', hm, (h2.block j hjl (fun h => hne j h rfl)).trans hi, h1, by rw [hs]; simp, by rw [List.length_append]; simp; omega, hb.trans (h2.below hb.size (fun i hF => (hr.foot hF).1)), fun k hk => ?_⟩
 rcases h3 k hk with h4 | h4
 ·exact hne k h4
 ·omega
theorem index_at {s : ByteArray} {p : Nat} {x : UInt8} {t : List UInt8} (h : s.data.toList.drop p = x :: t) {i c : Int} (hi : i = (p : Int)) (hc : ((x.toNat : Nat) : Int) = c) : ∀ w' : World, (Instr.index 9 (.string s) (.int .i64 i)).run Tryz.prog w' = .ok (.int .u8 c) w' := by
 intro w'
 subst hi hc
 have hg : s.data.toList[p]? = some x := by
  have h1 : (s.data.toList.drop p)[0]? = some x := by rw [h]; rfl
  rwa [List.getElem?_drop, Nat.add_zero] at h1
 have hlt : p < s.size := by
  have h2 := (List.getElem?_eq_some_iff.1 hg).1
  rw [Array.length_toList] at h2
  exact h2
 rw [run_index_string w' 9 s .i64 (p : Int) Tryz.underlying9, dif_pos ⟨Int.natCast_nonneg _, by omega⟩]
 have h3 : s[((p : Nat) : Int).toNat]'(by simpa using hlt) = x := by
  simp only [Int.toNat_natCast]
  have h4 : s.data[p]? = some x := by rw [← Array.getElem?_toList]; exact hg
  have h5 := (Array.getElem?_eq_some_iff.1 h4).2
  exact h5
 rw [h3]
theorem drop_next {s : ByteArray} {p : Nat} {x : UInt8} {t : List UInt8} (h : s.data.toList.drop p = x :: t) : s.data.toList.drop (p + 1) = t := by
 rw [← List.drop_drop, h]; rfl
set_option maxHeartbeats 16000000 in
set_option maxRecDepth 100000 in
theorem run_any {M : List St} {st mg : Nat} {s : ByteArray} {w : World} (hmo : MOk M st) (h : Mch w mg M st) (hs : s.size ≤ 4000) : Calls Tryz.prog 39 #[.pointer (some ⟨mg, 0, none⟩), .string s] w fun e w' => RuP M st mg (runes badR s.data.toList) w e w' := by
 have Hmo := Lib.hid hmo
 have Hn := Lib.hid (new_any hmo h)
 clear hmo h
 go_enter Tryz.func39, Tryz.ntmps39
 go_wp2_with fail
 (with_reducible refine Hn.out.mono ?_)
 rintro e w1 ⟨g, pg, vs, ve, rfl, hr1, hb1⟩
 have hal := alloc_below w1 (.stringIter s 0)
 have Hr := Lib.hid (hr1.stay (Chg.of_below (F := fun _ => False) hal) (fun _ h => h.elim) (fun _ _ h => h))
 have Hb := Lib.hid (hb1.trans (hal.mono hb1.size))
 have Hi := Lib.hid (heap_alloc_new w1 (.stringIter s 0))
 have Hf := Lib.hid (fun k (hk : Foot g pg vs ve k) => Nat.ne_of_lt (hr1.foot hk).2)
 have hs1 := hb1.size
 clear hr1 hb1 hal Hn
 go_wp2_with fail
 generalize w1.heap.size = j at *
 go_loopg [6, 7] s.size (fun m _ _ wr => RuL M st mg g pg j s w m wr)
 case atStart => exact ⟨0, [], vs, ve, Nat.zero_add _, Hi.out, Hr.out, rfl, Nat.le_refl _, Hb.out, Hf.out⟩
 case round =>
  clear Hr Hb Hi Hf
  obtain ⟨p, pre, vs, ve, hpm, hi, hr, he, hpl, hb, hf⟩ := hrel
  have Hr := Lib.hid hr
  have He := Lib.hid he
  have Hb := Lib.hid hb
  have Hf := Lib.hid hf
  have Hi := Lib.hid hi
  by_cases hlt : p < s.size
  case neg =>
   have hnx : ∀ ty, (Instr.next (.pointer (some ⟨j, 0, none⟩)) true ty).run Tryz.prog wr = .ok (.tuple #[.bool false]) wr := fun ty => Lib.run_next_end_at wr j s p ty hi hlt
   have Hs := Lib.hid (show runes badR s.data.toList = pre by rw [He.out, List.drop_of_length_le (by rw [Array.length_toList]; have : s.size = s.data.size := rfl; omega), runes_nil, List.append_nil])
   clear hr he hb hf hi
   go_wp2_with fail
   (with_reducible refine (end_any Hmo.out Hr.out (by omega)).mono ?_)
   rintro e w3 ⟨rfl, vs3, ve3, h3, hc3, -⟩
   have H3 := Lib.hid h3
   have B3 := Lib.hid (Hb.out.trans (hc3.below Hb.out.size (fun i hF => (Hr.out.foot hF).1)))
   clear h3 hc3
   go_wp2_with fail
   go_ret
   exact ⟨g, pg, vs3, ve3, rfl, by rw [Hs.out]; exact H3.out, B3.out⟩
  case pos =>
   have hnx : ∀ ty, (Instr.next (.pointer (some ⟨j, 0, none⟩)) true ty).run Tryz.prog wr = .ok (.tuple #[.bool true, .int .i64 p, .int .i32 (Utf8.decode s p).1]) (wr.iterAt j s (p + (Utf8.decode s p).2)) := fun ty => Lib.run_next_any_at wr j s p ty hi hlt
   rw [decode_dec s p hlt] at hnx
   obtain ⟨x, t, hxt⟩ : ∃ x t, s.data.toList.drop p = x :: t := by
    cases hd : s.data.toList.drop p with
    | nil => have := congrArg List.length hd; rw [List.length_drop, Array.length_toList] at this; have : s.size = s.data.size := rfl; simp at *; omega
    | cons x t => exact ⟨x, t, rfl⟩
   rw [hxt] at hnx he
   have Hxt := Lib.hid hxt
   have hsz : s.size = s.data.toList.length := by rw [Array.length_toList]; rfl
   have hlen := congrArg List.length hxt
   rw [List.length_drop, ← hsz, List.length_cons] at hlen
   by_cases hd : (dec (x :: t)).2.2 = 0
   ·rw [if_pos hd] at hnx
    rw [runes_good (by simp) hd] at he
    have hp1 := dec_pos hd
    have hbd := (dec_bd (x :: t)).1
    have hfr := (dec_frm hd).2
    have hff := dec_fffd hd
    have hle : (dec (x :: t)).2.1 ≤ (x :: t).length := by
     rcases nx_cases (x :: t) with ⟨h, _⟩ | ⟨_, _, _, h2, _⟩ | ⟨_, h1, _⟩
     ·cases h
     ·rw [← h2]; exact nl_le _
     ·exact absurd hd h1
    rw [List.length_cons] at hle
    generalize (dec (x :: t)).1 = c0 at *
    generalize (dec (x :: t)).2.1 = l at *
    obtain ⟨c, hc⟩ : ∃ c : Int, ((c0 : Nat) : Int) = c := ⟨_, rfl⟩
    have Hm2 := Lib.hid (show p + l + (gk - l) = s.size by omega)
    have hms : gk - l < gk := by omega
    have Hs := Lib.hid (show runes badR s.data.toList = pre ++ kn c :: runes badR (s.data.toList.drop (p + l)) by rw [← hc, kn_ok hfr, he, ← List.drop_drop, hxt])
    have hitr := Chg.iter (w := wr) (j := j) (p := p) (q := p + l) (s := s)
    have HrI := Lib.hid (hr.stay hitr (fun k hk => by rw [hk]; exact hs1) (fun k hk => hf k hk))
    have HiI := Lib.hid (Lib.iterAt_heap wr j s p (p + l) hi)
    have HbI := Lib.hid (hb.trans (hitr.below hb.size (fun k hk => by rw [hk]; exact hs1)))
    have hcb : 0 ≤ c ∧ c ≤ 1114111 := by rw [← hc]; exact ⟨Int.natCast_nonneg _, ((isR_iff _).1 hfr).2.1⟩
    rw [hc] at hnx
    by_cases h65 : c0 = 65533
    ·have hff := hff h65
     obtain rfl : c = 65533 := by omega
     have Hff := Lib.hid hff
     obtain ⟨t2, rfl, rfl⟩ : ∃ t2, x = 239 ∧ t = 191 :: 189 :: t2 := by
      rcases t with _ | ⟨a, _ | ⟨b, t2⟩⟩
      ·simp at hff
      ·simp at hff
      ·simp only [List.take_succ_cons, List.take_zero, List.cons.injEq, and_true] at hff
       exact ⟨t2, hff.1, by rw [hff.2.1, hff.2.2]⟩
     have ix0 := index_at hxt (i := p) (c := 239) rfl (by decide)
     have ix1 := index_at (drop_next hxt) (i := (p : Int) + 1) (c := 191) (by omega) (by decide)
     have ix2 := index_at (drop_next (drop_next hxt)) (i := (p : Int) + 2) (c := 189) (by omega) (by decide)
     simp only [List.length_cons] at hlen
     have n3 : ¬ (s.size : Int) < (p : Int) + 3 := by omega
     clear hpm hsz hlen hle
     clear hr he hb hf hi hitr hc hd hfr hff hxt Hff
     go_wp2_with fail
     (with_reducible refine (feed_any Hmo.out HrI.out (by omega) 65533).mono ?_)
     rintro e w3 hf3
     have Hk := Lib.hid hf3
     obtain rfl : e = .returned (.tuple #[]) := hf3.1
     clear hf3
     go_wp2_with fail
     go_roundg (gk - l)
     case measure => exact hms
     case rel => exact RuL.fed hs1 HiI.out HbI.out HrI.out Hf.out Hs.out hpl hp1 Hm2.out Hk.out
    ·have n1 : (c == 65533) = false := by simp only [beq_eq_false_iff_ne]; omega
     clear hpm hsz hlen hle
     clear hr he hb hf hi hitr hc hd hfr hff hxt h65
     go_wp2_with fail
     (with_reducible refine (feed_any Hmo.out HrI.out (by omega) c).mono ?_)
     rintro e w3 hf3
     have Hk := Lib.hid hf3
     obtain rfl : e = .returned (.tuple #[]) := hf3.1
     clear hf3
     go_wp2_with fail
     go_roundg (gk - l)
     case measure => exact hms
     case rel => exact RuL.fed hs1 HiI.out HbI.out HrI.out Hf.out Hs.out hpl hp1 Hm2.out Hk.out
   ·rw [if_neg hd] at hnx
    have hnf := dec_not_fffd hd
    have hbd := runes_bad (bad := badR) hd
    rw [hbd] at he
    have Hs := Lib.hid (show runes badR s.data.toList = pre ++ kn (-1) :: runes badR (s.data.toList.drop (p + 1)) by rw [drop_next hxt]; exact he)
    have hitr := Chg.iter (w := wr) (j := j) (p := p) (q := p + 1) (s := s)
    have HrI := Lib.hid (hr.stay hitr (fun k hk => by rw [hk]; exact hs1) (fun k hk => hf k hk))
    have HiI := Lib.hid (Lib.iterAt_heap wr j s p (p + 1) hi)
    have HbI := Lib.hid (hb.trans (hitr.below hb.size (fun k hk => by rw [hk]; exact hs1)))
    have hp1 : 1 ≤ 1 := Nat.le_refl _
    have Hm2 := Lib.hid (show p + 1 + (gk - 1) = s.size by omega)
    have hms : gk - 1 < gk := by omega
    obtain ⟨c, hc⟩ : ∃ c : Int, ((x.toNat : Nat) : Int) = c := ⟨_, rfl⟩
    have hcb : 0 ≤ c ∧ c < 256 := by have := x.toNat_lt; omega
    have ix0 := index_at hxt (i := p) (c := c) rfl hc
    by_cases hx : c = 239
    ·have n0 : (c != 239) = false := by simp [hx]
     by_cases h3 : (s.size : Int) < (p : Int) + 3
     ·clear hr he hb hf hi hitr hc hd hbd hnf hxt hx hpm hsz hlen
      go_wp2_with fail
      (with_reducible refine (feed_any Hmo.out HrI.out (by omega) (-1)).mono ?_)
      rintro e w3 hf3
      have Hk := Lib.hid hf3
      obtain rfl : e = .returned (.tuple #[]) := hf3.1
      clear hf3
      go_wp2_with fail
      go_roundg (gk - 1)
      case measure => exact hms
      case rel => exact RuL.fed hs1 HiI.out HbI.out HrI.out Hf.out Hs.out hpl hp1 Hm2.out Hk.out
     ·rcases t with _ | ⟨a, _ | ⟨b, t2⟩⟩
      ·simp only [List.length_nil] at hlen; omega
      ·simp only [List.length_nil, List.length_cons] at hlen; omega
      ·obtain ⟨ca, hca⟩ : ∃ c : Int, ((a.toNat : Nat) : Int) = c := ⟨_, rfl⟩
       obtain ⟨cb, hcb2⟩ : ∃ c : Int, ((b.toNat : Nat) : Int) = c := ⟨_, rfl⟩
       have hcab : 0 ≤ ca ∧ ca < 256 := by have := a.toNat_lt; omega
       have hcbb : 0 ≤ cb ∧ cb < 256 := by have := b.toNat_lt; omega
       have ix1 := index_at (drop_next hxt) (i := (p : Int) + 1) (c := ca) (by omega) hca
       have ix2 := index_at (drop_next (drop_next hxt)) (i := (p : Int) + 2) (c := cb) (by omega) hcb2
       by_cases ha : ca = 191
       ·have n1 : (ca != 191) = false := by simp [ha]
        have n2 : (cb != 189) = true := by
         simp only [bne_iff_ne]
         intro hb9
         apply hnf
         have e1 : x = 239 := UInt8.toNat_inj.1 (by have : (239 : UInt8).toNat = 239 := rfl; omega)
         have e2 : a = 191 := UInt8.toNat_inj.1 (by have : (191 : UInt8).toNat = 191 := rfl; omega)
         have e3 : b = 189 := UInt8.toNat_inj.1 (by have : (189 : UInt8).toNat = 189 := rfl; omega)
         rw [e1, e2, e3]; rfl
        clear hr he hb hf hi hitr hc hd hbd hnf hxt hx hca hcb2 ha hpm hsz hlen
        go_wp2_with fail
        (with_reducible refine (feed_any Hmo.out HrI.out (by omega) (-1)).mono ?_)
        rintro e w3 hf3
        have Hk := Lib.hid hf3
        obtain rfl : e = .returned (.tuple #[]) := hf3.1
        clear hf3
        go_wp2_with fail
        go_roundg (gk - 1)
        case measure => exact hms
        case rel => exact RuL.fed hs1 HiI.out HbI.out HrI.out Hf.out Hs.out hpl hp1 Hm2.out Hk.out
       ·have n1 : (ca != 191) = true := by simpa using ha
        clear hr he hb hf hi hitr hc hd hbd hnf hxt hx hca hcb2 ha hpm hsz hlen
        go_wp2_with fail
        (with_reducible refine (feed_any Hmo.out HrI.out (by omega) (-1)).mono ?_)
        rintro e w3 hf3
        have Hk := Lib.hid hf3
        obtain rfl : e = .returned (.tuple #[]) := hf3.1
        clear hf3
        go_wp2_with fail
        go_roundg (gk - 1)
        case measure => exact hms
        case rel => exact RuL.fed hs1 HiI.out HbI.out HrI.out Hf.out Hs.out hpl hp1 Hm2.out Hk.out
    ·have n0 : (c != 239) = true := by simpa using hx
     clear hr he hb hf hi hitr hc hd hbd hnf hxt hx hpm hsz hlen
     go_wp2_with fail
     (with_reducible refine (feed_any Hmo.out HrI.out (by omega) (-1)).mono ?_)
     rintro e w3 hf3
     have Hk := Lib.hid hf3
     obtain rfl : e = .returned (.tuple #[]) := hf3.1
     clear hf3
     go_wp2_with fail
     go_roundg (gk - 1)
     case measure => exact hms
     case rel => exact RuL.fed hs1 HiI.out HbI.out HrI.out Hf.out Hs.out hpl hp1 Hm2.out Hk.out
def SnP (M : List St) (st : Nat) (S : List Int) (w : World) (e : Ending) (w' : World) : Prop := ∃ z, EndsAt M st S true z ∧ IntsC w (idx 0 z) e w'
def SmP (M : List St) (st : Nat) (S : List Int) (w : World) (e : Ending) (w' : World) : Prop := ∃ z, EndsAt M st S true z ∧ e = .returned (.tuple #[.bool (decide (0 < (idx 0 z).length)), .int .i64 ((M.length * (S.length + 1) : Nat) : Int)]) ∧ Below w.heap.size w w'
theorem runes_sz (s : ByteArray) (hs : s.size ≤ 4000) : (runes badR s.data.toList).length ≤ 4000 := by
 have h1 := runes_len badR s.data.toList.length s.data.toList (Nat.le_refl _)
 have h2 : s.data.toList.length = s.size := by rw [Array.length_toList]; rfl
 omega
set_option maxHeartbeats 4000000 in
theorem sends_any {M : List St} {st mg : Nat} {s : ByteArray} {w : World} (hmo : MOk M st) (h : Mch w mg M st) (hs : s.size ≤ 4000) : Calls Tryz.prog 14 #[.pointer (some ⟨mg, 0, none⟩), .string s] w fun e w' => SnP M st (runes badR s.data.toList) w e w' := by
 have Hr := Lib.hid (run_any hmo h hs)
 have Hz := Lib.hid (runes_sz s hs)
 clear hmo h
 go_enter Tryz.func14, Tryz.ntmps14
 go_wp2_with fail
 (with_reducible refine Hr.out.mono ?_)
 rintro e w1 ⟨g, pg, vs, ve, rfl, hr1, hb1⟩
 obtain ⟨z, hz, he⟩ := hr1.ends
 have He := Lib.hid he
 have Hb1 := Lib.hid hb1
 have Hn := Lib.hid (rends_any hr1 he (by have := Hz.out; omega))
 clear hr1 hb1 hz he
 go_wp2_with fail
 (with_reducible refine Hn.out.mono ?_)
 rintro e w2 ⟨A, rfl, hb2, q, ho2⟩
 have Hb2 := Lib.hid (Hb1.out.trans (hb2.mono Hb1.out.size))
 have Ho2 := Lib.hid (Ints.low ho2 Hb1.out.size)
 clear hb2 ho2
 go_wp2_with fail
 go_ret
 exact ⟨z, He.out, A, rfl, Hb2.out, q, Ho2.out⟩
set_option maxHeartbeats 4000000 in
theorem smatch_any {M : List St} {st mg : Nat} {s : ByteArray} {w : World} (hmo : MOk M st) (h : Mch w mg M st) (hs : s.size ≤ 4000) : Calls Tryz.prog 16 #[.pointer (some ⟨mg, 0, none⟩), .string s] w fun e w' => SmP M st (runes badR s.data.toList) w e w' := by
 have Hr := Lib.hid (run_any hmo h hs)
 have Hz := Lib.hid (runes_sz s hs)
 have hM := hmo.len
 clear hmo h
 go_enter Tryz.func16, Tryz.ntmps16
 go_wp2_with fail
 (with_reducible refine Hr.out.mono ?_)
 rintro e w1 ⟨g, pg, vs, ve, rfl, hr1, hb1⟩
 obtain ⟨z, hz, he⟩ := hr1.ends
 have He := Lib.hid he
 have Hb1 := Lib.hid hb1
 have Hh := Lib.hid (hit_any hr1 he)
 have Hs := Lib.hid (steps_any hr1 hM (by have := Hz.out; omega))
 clear hr1 hb1 hz he
 go_wp2_with fail
 (with_reducible refine Hh.out.mono ?_)
 rintro e w2 ⟨rfl, rfl⟩
 go_wp2_with fail
 (with_reducible refine Hs.out.mono ?_)
 rintro e w3 ⟨rfl, rfl⟩
 go_wp2_with fail
 go_ret2
 exact ⟨z, He.out, rfl, Hb1.out⟩
end Go.Proofs.YthhnmpkgleelfaaGreatDoor
