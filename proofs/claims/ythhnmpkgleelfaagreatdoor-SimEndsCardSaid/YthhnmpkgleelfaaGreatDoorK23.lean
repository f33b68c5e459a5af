import Derived.Test.YthhnmpkgleelfaaGreatDoorK22
import Derived.Deep.Cut
import Derived.Deep.CutBlock
set_option linter.unusedVariables false
set_option linter.unusedSimpArgs false
namespace Go.Proofs.YthhnmpkgleelfaaGreatDoor
open Go.RowKit
theorem XRow.grown {w w' : World} {base base2 n2 : Nat} {v v2 : Value} {xs : List Ex} {us2 : List Value} (h : XRow w base v xs) (ho : w.ownsRow base2 26 1 v2 n2 us2) (hg : w.grownBy w' v2.ownBlock) : XRow w' base v xs := by
 refine World.ownsRow.kept h hg ?_
 cases hb : v.ownBlock with
 | none => exact .inl rfl
 | some g' =>
  refine .inr (fun e' => ?_)
  obtain ⟨_, cur, h1⟩ := ownsRow_block h hb
  obtain ⟨_, cur2, h2⟩ := ownsRow_block ho e'.symm
  rw [h1] at h2
  injection h2 with h2
  injection h2 with _ h2 _
  cases h2
theorem ElP.rd {rb : Nat} {w w' : World} {u : Value} {ys : List Ex} (h : ElP w u ys) (hg : Fr rb w w') (ht : Typed w rb 98) : ElP w' u ys := ⟨h.1.rd hg ht, h.2⟩
theorem ElP.slice {w : World} {u : Value} {ys : List Ex} (h : ElP w u ys) : u.oneCell' = true ∧ ∀ x, u ≠ .int .u8 x := by
 obtain ⟨A, q, rfl, _⟩ := h.1.form
 exact ⟨rfl, fun x e => by cases e⟩
theorem us_u8 {w : World} {us : List Value} {Ls : List (List Ex)} (h : All2 (ElP w) us Ls) : ∀ u ∈ us, ∀ x, u ≠ .int .u8 x := by
 intro u hu x e
 obtain ⟨i, hi⟩ := List.getElem?_of_mem hu
 have hlt := (List.getElem?_eq_some_iff.1 hi).1
 obtain ⟨y, hy⟩ : ∃ y, Ls[i]? = some y := ⟨_, List.getElem?_eq_getElem (by have := h.1; omega)⟩
 exact (h.2 i u y hi hy).slice.2 x e
theorem own_rdr {rb base n : Nat} {w w' : World} {v : Value} {us : List Value} (h : w.ownsRow base 26 1 v n us) (hg : Fr rb w w') (ht : Typed w rb 98) : w'.ownsRow base 26 1 v n us := own_rd h hg ht (by decide)
theorem totX_flat (l : List Rx) : totX (l.map fun r => r.flat 0) = tot l := by
 induction l with
 | nil => rfl
 | cons x l ih => rw [List.map_cons, totX_cons, tot_cons, ih, x.flat_len]
theorem AltAt.mono {xs : List UInt8} {K M : Nat} (h : AltAt xs K) (hm : K ≤ M) : AltAt xs M := fun rb k w hk hr => h rb k w (Nat.le_trans hm hk) hr
theorem tot_append (l m : List Rx) : tot (l ++ m) = tot l + tot m := by simp [tot]
def SeqP (xs : List UInt8) (rb k : Nat) (w : World) (e : Ending) (w' : World) : Prop := ∃ (A : Option Addr) (q : Nat) (ys : List Ex) (k' : Nat) (c : Int), e = .returned (.slice A ys.length q) ∧ Rd xs rb w' k' c ∧ Fr rb w w' ∧ XRow w' 0 (.slice A ys.length q) ys ∧ OkX ys ∧ ys.length ≤ 2000 ∧ (c = 0 → k ≤ k' ∧ ∃ l, SeqL (xs.drop k) l (xs.drop k') ∧ ys = (joinR .cat l).flat 0) ∧ (c ≠ 0 → NoSeq (xs.drop k))
def LsRel (w : World) (A : Option Addr) (q : Nat) (us : List Value) (Ls : List (List Ex)) (rb : Nat) (wr : World) : Prop := Fr rb w wr ∧ wr.ownsRow w.heap.size 26 1 (.slice A us.length q) us.length us ∧ All2 (ElP wr) us Ls
theorem LsRel.rd {w wr w' : World} {A : Option Addr} {q rb : Nat} {us : List Value} {Ls : List (List Ex)} (h : LsRel w A q us Ls rb wr) (hg : Fr rb wr w') (ht : Typed wr rb 98) : LsRel w A q us Ls rb w' := ⟨h.1.then hg, own_rdr h.2.1 hg ht, h.2.2.mono fun _ _ x => x.rd hg ht⟩
def SqRel (xs : List UInt8) (rb k : Nat) (w : World) (s3 : Value) (wr : World) : Prop := ∃ (A : Option Addr) (q : Nat) (us : List Value) (Ls : List (List Ex)) (k2 : Nat) (c : Int), s3 = .slice A us.length q ∧ Rd xs rb wr k2 c ∧ LsRel w A q us Ls rb wr ∧ (c = 0 → us.length = 0 → A = none) ∧ totX Ls ≤ 2000 ∧
 (c = 0 → ∃ l : List Rx, Ls = l.map (fun r => r.flat 0) ∧ tot l + 2 * (xs.length - k2) ≤ 2 * (xs.length - k) ∧ k ≤ k2 ∧ ∀ l' zs, SeqL (xs.drop k2) l' zs → SeqL (xs.drop k) (l ++ l') zs) ∧ (c ≠ 0 → NoSeq (xs.drop k)) ∧ (c = 0 → NoSeq (xs.drop k2) → NoSeq (xs.drop k))
theorem LsRel.snoc {w w3 w4 : World} {A A4 : Option Addr} {q q4 rb : Nat} {us : List Value} {Ls : List (List Ex)} {ys : List Ex} {u : Value} (h : LsRel w A q us Ls rb w3) (hu : ElP w3 u ys) (ho : w4.ownsRow w.heap.size 26 1 (.slice A4 (us.length + 1) q4) (us.length + 1) (us ++ [u])) (hg : w3.grownBy w4 (Value.slice A us.length q).ownBlock) : LsRel w A4 q4 (us ++ [u]) (Ls ++ [ys]) rb w4 := by
 refine ⟨h.1.own h.2.1 (Nat.le_refl _) hg, ?_, ?_⟩
 ·rw [List.length_append]; exact ho
 ·exact (h.2.2.mono fun _ _ x => (⟨x.1.grown h.2.1 hg, x.2⟩ : ElP w4 _ _)).snoc ⟨hu.1.grown h.2.1 hg, hu.2⟩
theorem LsRel.below {w wr w' : World} {A : Option Addr} {q rb : Nat} {us : List Value} {Ls : List (List Ex)} (h : LsRel w A q us Ls rb wr) (hb : Below wr.heap.size wr w') : LsRel w A q us Ls rb w' := ⟨h.1.then (Fr.of_below hb), ownsRow_below h.2.1 hb (Nat.le_refl _), h.2.2.mono fun _ _ x => x.below hb⟩
theorem LsRel.rows {w wr : World} {A : Option Addr} {q rb : Nat} {us : List Value} {Ls : List (List Ex)} (h : LsRel w A q us Ls rb wr) : XRows wr 0 (.slice A us.length q) us Ls := ⟨ownsRow_low h.2.1 (Nat.zero_le _), h.2.2⟩
theorem LsRel.ok {w wr : World} {A : Option Addr} {q rb : Nat} {us : List Value} {Ls : List (List Ex)} (h : LsRel w A q us Ls rb wr) : ∀ x ∈ Ls, OkX x := by
 intro x hx
 obtain ⟨i, hi⟩ := List.getElem?_of_mem hx
 obtain ⟨u, _, hr⟩ := h.2.2.get hi
 exact hr.2
theorem len_tot (Ls : List (List Ex)) : Ls.length ≤ totX Ls := by
 induction Ls with
 | nil => simp
 | cons x l ih => rw [totX_cons, List.length_cons]; omega
def SqEnd (xs : List UInt8) (rb k : Nat) (w : World) (s3 : Value) (wr : World) : Prop := ∃ (A : Option Addr) (q : Nat) (us : List Value) (Ls : List (List Ex)) (k2 : Nat) (c : Int), s3 = .slice A us.length q ∧ Rd xs rb wr k2 c ∧ LsRel w A q us Ls rb wr ∧ totX Ls ≤ 2000 ∧ (c = 0 → k ≤ k2 ∧ ∃ l : List Rx, Ls = l.map (fun r => r.flat 0) ∧ SeqL (xs.drop k) l (xs.drop k2)) ∧ (c ≠ 0 → NoSeq (xs.drop k))
def AlRel (xs : List UInt8) (rb k : Nat) (w : World) (s3 : Value) (wr : World) : Prop := ∃ (A : Option Addr) (q : Nat) (us : List Value) (Ls : List (List Ex)) (k2 : Nat) (c : Int), s3 = .slice A us.length q ∧ Rd xs rb wr k2 c ∧ LsRel w A q us Ls rb wr ∧ 0 < us.length ∧ totX Ls ≤ 4000 ∧
 (c = 0 → ∃ l : List Rx, Ls = l.map (fun r => r.flat 0) ∧ tot l + 2 * (xs.length - k2) ≤ 2 * (xs.length - k) + 2 ∧ k ≤ k2 ∧ (nx (xs.drop k2) ≠ 124 → AltL (xs.drop k) l (xs.drop k2)) ∧ ∀ ys m zs, xs.drop k2 = 124 :: ys → AltL ys m zs → AltL (xs.drop k) (l ++ m) zs) ∧ (c ≠ 0 → NoAlt (xs.drop k)) ∧ (c = 0 → ∀ ys, xs.drop k2 = 124 :: ys → NoAlt ys → NoAlt (xs.drop k))
def AlEnd (xs : List UInt8) (rb k : Nat) (w : World) (s3 : Value) (wr : World) : Prop := ∃ (A : Option Addr) (q : Nat) (us : List Value) (Ls : List (List Ex)) (k2 : Nat) (c : Int), s3 = .slice A us.length q ∧ Rd xs rb wr k2 c ∧ LsRel w A q us Ls rb wr ∧ 0 < us.length ∧ totX Ls ≤ 4000 ∧ (c = 0 → ∃ l : List Rx, Ls = l.map (fun r => r.flat 0) ∧ AltL (xs.drop k) l (xs.drop k2)) ∧ (c ≠ 0 → NoAlt (xs.drop k))
set_option maxHeartbeats 16000000 in
set_option maxRecDepth 100000 in
theorem rseq_any {xs : List UInt8} {rb k : Nat} {w : World} (h : Rd xs rb w k 0) (hl : xs.length ≤ 400) (ha : AltAt xs (k + 1)) : Calls Tryz.prog 86 #[.pointer (some ⟨rb, 0, none⟩)] w fun e w' => SeqP xs rb k w e w' := by
 have H := Lib.hid h
 have Ha := Lib.hid ha
 have hk := h.le
 clear h ha
 go_enter Tryz.func86, Tryz.ntmps86
 go_upto_block 0 with fail
 go_cut [3, 4, 5] (fun s3 _ _ wx => SqEnd xs rb k w s3 wx)
 case first =>
  go_wp2_with fail
  go_loopw [3, 4, 5] (fun s3 _ _ wr => SqRel xs rb k w s3 wr) (fun _ _ _ wr => rdMu xs.length rb wr)
  case atStart => exact ⟨none, 0, [], [], k, 0, rfl, H.out, ⟨Fr.refl _ _, ⟨rfl, .inl ⟨rfl, rfl⟩⟩, All2.nil _⟩, fun _ _ => rfl, by simp [totX], fun _ => ⟨[], rfl, by simp [tot], Nat.le_refl _, fun l' zs h => h⟩, fun e => absurd rfl e, fun _ h => h⟩
  case round =>
   obtain ⟨A, q, us, Ls, k2, c9, rfl, hr, hls, hA, htot, hok, hno, hnx⟩ := hrel
   have Hno := Lib.hid hno
   have Hnx := Lib.hid hnx
   clear hno hnx
   have Hr := Lib.hid hr
   have Hls := Lib.hid hls
   have HA := Lib.hid hA
   have Hok := Lib.hid hok
   have Hf := Lib.hid hls.1
   have hk2 := hr.le
   have hul : us.length ≤ 4000 := by have h1 := len_tot Ls; have h2 := hls.2.2.1; omega
   obtain ⟨pbr, capr, -, c0r, c1r, c2r, f1r⟩ := hr.cells
   clear hr hls hA hok
   go_wp2_with fail
   (with_reducible refine (good_any Hr.out).mono ?_)
   rintro e w' ⟨rfl, rfl⟩
   by_cases hq : c9 = 0
   case neg =>
    have hq' : decide (c9 = 0) = false := by simpa using hq
    have Hq := Lib.hid hq
    clear hq
    go_wp2_with fail
    go_meet
    case rel => exact ⟨A, q, us, Ls, k2, c9, rfl, Hr.out, Hls.out, by omega, fun e => absurd e Hq.out, fun h => Hno.out h⟩
   subst hq
   have Hnxx := Lib.hid (Hnx.out rfl)
   clear Hno Hnx
   obtain ⟨l, rfl, htl, hkk, hit⟩ := Hok.out rfl
   rw [totX_flat] at htot
   have Hit := Lib.hid hit
   clear hit Hok
   go_wp2_with fail
   (with_reducible refine (lookz_any Hr.out _ (k2) (by omega) (by omega)).mono ?_)
   rintro e w2 ⟨rfl, hb⟩
   have Hls2 := Lib.hid (Hls.out.below hb)
   have F2 := Lib.hid (Hf.out.then (Fr.of_below hb))
   have h2 := Hr.out.below hb
   clear hb c0r c1r c2r f1r
   obtain ⟨pb2, cap2, -, c02, c12, c22, f12⟩ := h2.cells
   have H2 := Lib.hid h2
   obtain ⟨c, hc⟩ : ∃ c, nx (xs.drop (k2)) = c := ⟨_, rfl⟩
   rw [hc]
   have hbc := nx_le (xs.drop (k2))
   rw [hc] at hbc
   obtain ⟨hbc1, hbc2⟩ := hbc
   obtain ⟨nc, hnc⟩ : ∃ n : Int, ((nl (xs.drop (k2)) : Nat) : Int) = n := ⟨_, rfl⟩
   rw [hnc]
   have Hc := Lib.hid hc
   have Hnc := Lib.hid hnc
   clear h2 hc hnc
   by_cases e1 : c = -1
   ·subst e1
    have Hdone := Lib.hid (Hit.out [] (xs.drop k2) (SeqL.done (.inl Hc.out)))
    rw [List.append_nil] at Hdone
    go_wp2_with fail
    go_meet
    case rel => exact ⟨A, q, us, _, k2, 0, rfl, H2.out, Hls2.out, by rw [totX_flat]; omega, fun _ => ⟨hkk, l, rfl, Hdone.out⟩, fun e => absurd rfl e⟩
   have n1 : (c == -1) = false := by simpa using e1
   by_cases e124 : c = 124
   ·subst e124
    have Hdone := Lib.hid (Hit.out [] (xs.drop k2) (SeqL.done (.inr (.inl Hc.out))))
    rw [List.append_nil] at Hdone
    go_wp2_with fail
    go_meet
    case rel => exact ⟨A, q, us, _, k2, 0, rfl, H2.out, Hls2.out, by rw [totX_flat]; omega, fun _ => ⟨hkk, l, rfl, Hdone.out⟩, fun e => absurd rfl e⟩
   have n124 : (c == 124) = false := by simpa using e124
   by_cases e41 : c = 41
   ·subst e41
    have Hdone := Lib.hid (Hit.out [] (xs.drop k2) (SeqL.done (.inr (.inr Hc.out))))
    rw [List.append_nil] at Hdone
    go_wp2_with fail
    go_meet
    case rel => exact ⟨A, q, us, _, k2, 0, rfl, H2.out, Hls2.out, by rw [totX_flat]; omega, fun _ => ⟨hkk, l, rfl, Hdone.out⟩, fun e => absurd rfl e⟩
   have n41 : (c == 41) = false := by simpa using e41
   have Hne := Lib.hid (show nx (xs.drop k2) ≠ -1 ∧ nx (xs.drop k2) ≠ 124 ∧ nx (xs.drop k2) ≠ 41 by rw [Hc.out]; exact ⟨e1, e124, e41⟩)
   clear e1 e124 e41
   go_wp2_with fail
   (with_reducible refine (rpiece_any H2.out hk2 hl (Ha.out.mono (by omega))).mono ?_)
   rintro e w3 ⟨A3, q3, ys, k3, c3, rfl, h3, hf3, hx3, hok3, hl3, hr3⟩
   have H3 := Lib.hid h3
   have Hls3 := Lib.hid (Hls2.out.rd hf3 H2.out.typed)
   have Hel := Lib.hid (show ElP w3 (.slice A3 ys.length q3) ys from ⟨hx3, hok3⟩)
   have Hr3 := Lib.hid hr3
   clear h3 hf3 hx3 hok3 hr3 c02 c12 c22 f12
   have Hal := Lib.hid (alloc_below w3 (.cells #[.slice A3 ys.length q3] 26))
   have Hcn := Lib.hid (cells_new w3 [.slice A3 ys.length q3] 26)
   have Hlsa := Lib.hid (Hls3.out.below Hal.out)
   have Hoa := Lib.hid Hlsa.out.2.1
   have hsa : w.heap.size ≤ (w3.alloc (.cells #[.slice A3 ys.length q3] 26)).heap.size := Hlsa.out.1.size
   go_wp2_with (at_builtin; refine wpList_append_k elExs rfl (.tmp 27) (.tmp 30) rfl w.heap.size (.slice A us.length q) us.length w3.heap.size 1 1 us [.slice A3 ys.length q3] (by simp [Act.eval]) Hoa.out (by simp [Act.eval]) rfl Hcn.out (by simp [Value.oneCell']) (by unfold maxLen; omega) (by omega) hsa ?_; intro v' w4 h1 h2 h3; have Hp := Lib.hid h1; have Hg := Lib.hid h2; clear h1 h2 h3)
   obtain ⟨A4, q4, rfl, -, -, -⟩ := ownsRow_slice Hp.out
   have hr4 := (H3.out.below Hal.out).own Hoa.out (by decide) (fun h0 => by rw [HA.out (by trivial) h0]; rfl) (us_u8 Hlsa.out.2.2) Hg.out
   have hls4 := Hlsa.out.snoc (Hel.out.below Hal.out) Hp.out Hg.out
   refine ⟨⟨A4, q4, us ++ [.slice A3 ys.length q3], _, k3, c3, by simp, hr4, hls4, fun _ h0 => by simp at h0, ?_, ?_, fun h => Hnxx.out (noseq_piece Hne.out (Hr3.out.2 h)), fun h0 hn => by obtain ⟨r, hp, _⟩ := Hr3.out.1 h0; exact Hnxx.out (noseq_more Hne.out hp hn)⟩, ?_⟩
   ·rw [totX_append, totX_flat, totX_cons]; simp [totX]; omega
   ·intro h0
    obtain ⟨r, hp, rfl⟩ := Hr3.out.1 h0
    have h1 := hp.size
    have h2 := hp.suf.2
    simp only [List.length_drop] at h1 h2
    refine ⟨l ++ [r], by simp, ?_, by omega, fun l' zs hz => ?_⟩
    ·rw [tot_append, tot_cons]; simp only [tot, List.map_nil, List.sum_nil] at htl ⊢; omega
    ·rw [List.append_assoc]; exact Hit.out _ _ (SeqL.more Hne.out hp hz)
   ·rw [hr4.mu, Hr.out.mu]
    have hk3l := hr4.le
    by_cases h0 : c3 = 0
    ·obtain ⟨r, hp, _⟩ := Hr3.out.1 h0
     have h2 := hp.suf.2
     simp only [List.length_drop] at h2
     rw [if_pos h0, if_pos rfl]; omega
    ·rw [if_neg h0, if_pos rfl]; omega
 case rest =>
  obtain ⟨A, q, us, Ls, k2, c9, rfl, hr, hls, htot, hok, hno⟩ := hcut
  have Hno := Lib.hid hno
  clear hno
  have Hr := Lib.hid hr
  have Hls := Lib.hid hls
  have Hok := Lib.hid hok
  have Hlu := Lib.hid hls.2.2.1
  clear hr hls hok
  by_cases h0 : us.length = 0
  case pos =>
   have h0i : ((us.length : Int) == 0) = true := by simp [h0]
   obtain rfl : Ls = [] := List.eq_nil_of_length_eq_zero (by have := Hlu.out; omega)
   go_wp2_with fail
   (with_reducible refine (one_any 1 wc).mono ?_)
   rintro e w2 ⟨A2, n2, q2, rfl, hb2, hx2⟩
   obtain rfl : n2 = [oneX 1 0].length := by obtain ⟨_, _, e, _⟩ := hx2.form; exact (Value.slice.inj e).2.1
   have Hb2 := Lib.hid hb2
   have Hx2 := Lib.hid hx2
   clear hb2 hx2
   go_wp2_with fail
   go_ret
   refine ⟨A2, q2, [oneX 1 0], k2, c9, rfl, Hr.out.below Hb2.out, Hls.out.1.then (Fr.of_below Hb2.out), Hx2.out.low (Nat.zero_le _), OkX.one _ _, by simp, fun e => ?_, Hno.out⟩
   obtain ⟨h1, l, h2, h3⟩ := Hok.out e
   obtain rfl : l = [] := by simpa using h2.symm
   exact ⟨h1, [], h3, rfl⟩
  have hne : Ls ≠ [] := by intro e; have h1 := Hlu.out; rw [e] at h1; exact h0 h1
  have h0i : ((us.length : Int) == 0) = false := by simpa using h0
  have hgl := grpX_len 7 Ls hne
  have Hne := Lib.hid hne
  clear hne h0
  go_wp2_with fail
  (with_reducible refine (grouped_any 7 Hls.out.rows Hne.out (by omega)).mono ?_)
  rintro e w2 ⟨A2, q2, rfl, hb2, hx2⟩
  have Hb2 := Lib.hid hb2
  have Hx2 := Lib.hid hx2
  clear hb2 hx2
  go_wp2_with fail
  go_ret
  refine ⟨A2, q2, grpX 7 Ls, k2, c9, rfl, Hr.out.below Hb2.out, Hls.out.1.then (Fr.of_below Hb2.out), Hx2.out, grpX_ok 7 Ls Hls.out.ok, by omega, fun e => ?_, Hno.out⟩
  obtain ⟨h1, l, rfl, h3⟩ := Hok.out e
  exact ⟨h1, l, h3, grpX_flat 7 .cat (fun a b => two_flat.1) l (fun e => by subst e; exact Hne.out rfl)⟩
set_option maxHeartbeats 16000000 in
set_option maxRecDepth 100000 in
theorem ralt_step {xs : List UInt8} {rb k : Nat} {w : World} (h : Rd xs rb w k 0) (hl : xs.length ≤ 400) (ha : AltAt xs (k + 1)) : Calls Tryz.prog 59 #[.pointer (some ⟨rb, 0, none⟩)] w fun e w' => AltP xs rb k w e w' := by
 have H := Lib.hid h
 have Ha := Lib.hid ha
 have hk := h.le
 clear h ha
 go_enter Tryz.func59, Tryz.ntmps59
 go_wp2_with fail
 (with_reducible refine (rseq_any H.out hl Ha.out).mono ?_)
 rintro e w3 ⟨A3, q3, ys, k3, c3, rfl, h3, hf3, hx3, hok3, hl3, hr3⟩
 have H3 := Lib.hid h3
 have F3 := Lib.hid hf3
 have Hel := Lib.hid (show ElP w3 (.slice A3 ys.length q3) ys from ⟨hx3, hok3⟩)
 have Hr3 := Lib.hid hr3
 clear h3 hf3 hx3 hok3 hr3
 go_upto_block 0 with fail
 go_cut [3, 4, 5] (fun s3 _ _ wx => AlEnd xs rb k w s3 wx)
 case first =>
  have Hal := Lib.hid (alloc_below w3 (.cells #[.slice A3 ys.length q3] 26))
  have Hst : Hid (AlRel xs rb k w (.slice (some ⟨w3.heap.size, 0, none⟩) 1 1) (w3.alloc (.cells #[.slice A3 ys.length q3] 26))) := Lib.hid (by
   refine ⟨some ⟨w3.heap.size, 0, none⟩, 1, [.slice A3 ys.length q3], [ys], k3, c3, rfl, H3.out.below Hal.out, ⟨F3.out.then (Fr.of_below Hal.out), ?_, ?_⟩, by simp, by simp [totX]; omega, ?_, fun h => noalt_seq (Hr3.out.2 h), fun h0 ys' hd hn => by obtain ⟨_, l, hs, _⟩ := Hr3.out.1 h0; rw [hd] at hs; exact noalt_more hs hn⟩
   ·exact ownsRow_lit (n := 1) (cur := #[.slice A3 ys.length q3]) (heap_alloc_new _ _) F3.out.size (by unfold maxLen; omega) rfl
   ·exact (All2.nil _).snoc (Hel.out.below Hal.out)
   ·intro h0
    obtain ⟨hkk, l, hs, hy⟩ := Hr3.out.1 h0
    have h1 := hs.tot
    simp only [List.length_drop] at h1
    refine ⟨[joinR .cat l], by rw [hy]; rfl, ?_, hkk, fun hn => AltL.one hs hn, fun ys m zs hd hm => ?_⟩
    ·have := cat_le2 l
     rw [tot_cons, show tot [] = 0 from rfl]; omega
    ·rw [hd] at hs; exact AltL.more hs hm)
  clear Hel Hr3 F3
  go_wp2_with fail
  go_loopw [3, 4, 5] (fun s3 _ _ wr => AlRel xs rb k w s3 wr) (fun _ _ _ wr => rdMu xs.length rb wr)
  case atStart => exact Hst.out
  case round =>
   obtain ⟨A, q, us, Ls, k2, c9, rfl, hr, hls, hA, htot, hok, hno, hnx⟩ := hrel
   have Hno := Lib.hid hno
   have Hnx := Lib.hid hnx
   clear hno hnx
   have Hr := Lib.hid hr
   have Hls := Lib.hid hls
   have HA := Lib.hid hA
   have Hok := Lib.hid hok
   have Hf := Lib.hid hls.1
   have hk2 := hr.le
   have hul : us.length ≤ 4000 := by have h1 := len_tot Ls; have h2 := hls.2.2.1; omega
   obtain ⟨pbr, capr, -, c0r, c1r, c2r, f1r⟩ := hr.cells
   clear hr hls hA hok
   go_wp2_with fail
   (with_reducible refine (good_any Hr.out).mono ?_)
   rintro e w' ⟨rfl, rfl⟩
   by_cases hq : c9 = 0
   case neg =>
    have hq' : decide (c9 = 0) = false := by simpa using hq
    have Hq := Lib.hid hq
    clear hq
    go_wp2_with fail
    go_meet
    case rel => exact ⟨A, q, us, Ls, k2, c9, rfl, Hr.out, Hls.out, HA.out, by omega, fun e => absurd e Hq.out, fun h => Hno.out h⟩
   subst hq
   have Hnxx := Lib.hid (Hnx.out rfl)
   clear Hno Hnx
   obtain ⟨l, rfl, htl, hkk, hdn, hmo⟩ := Hok.out rfl
   have htot2 := htot
   rw [totX_flat] at htot2
   have Hdn := Lib.hid hdn
   have Hmo := Lib.hid hmo
   clear hdn hmo Hok
   go_wp2_with fail
   (with_reducible refine (lookz_any Hr.out _ (k2) (by omega) (by omega)).mono ?_)
   rintro e w2 ⟨rfl, hb⟩
   have Hls2 := Lib.hid (Hls.out.below hb)
   have F2 := Lib.hid (Hf.out.then (Fr.of_below hb))
   have h2 := Hr.out.below hb
   clear hb c0r c1r c2r f1r
   obtain ⟨pb2, cap2, -, c02, c12, c22, f12⟩ := h2.cells
   have H2 := Lib.hid h2
   obtain ⟨c, hc⟩ : ∃ c, nx (xs.drop (k2)) = c := ⟨_, rfl⟩
   rw [hc]
   have hbc := nx_le (xs.drop (k2))
   rw [hc] at hbc
   obtain ⟨hbc1, hbc2⟩ := hbc
   obtain ⟨nc, hnc⟩ : ∃ n : Int, ((nl (xs.drop (k2)) : Nat) : Int) = n := ⟨_, rfl⟩
   rw [hnc]
   have Hc := Lib.hid hc
   have Hnc := Lib.hid hnc
   clear h2 hc hnc
   by_cases e124 : c = 124
   case neg =>
    have n124 : (c != 124) = true := by simpa using e124
    have Hdone := Lib.hid (Hdn.out (by rw [Hc.out]; exact e124))
    clear e124
    go_wp2_with fail
    go_meet
    case rel => exact ⟨A, q, us, _, k2, 0, rfl, H2.out, Hls2.out, HA.out, htot, fun _ => ⟨l, rfl, Hdone.out⟩, fun e => absurd rfl e⟩
   subst e124
   have hd := nx_drop Hc.out (by omega) (by omega)
   have hk3 : k2 + 1 ≤ xs.length := by have := hd.1; omega
   have Hdd := Lib.hid (show xs.drop k2 = 124 :: xs.drop (k2 + 1) from hd.2.2)
   clear hd
   obtain ⟨wz, hwz⟩ : ∃ wz, w2.setCell ⟨rb, 1, none⟩ (.int .i64 ((k2 : Int) + 1)) = wz := ⟨_, rfl⟩
   have hz := H2.out.setz (z := (k2 : Int) + 1) (m := k2 + 1) (by omega) (by omega)
   have fz2 := Fr.set rb 1 w2 (.int .i64 ((k2 : Int) + 1))
   rw [hwz] at hz fz2
   have Hlsz := Lib.hid (Hls2.out.rd fz2 H2.out.typed)
   have Hz := Lib.hid hz
   have Hwz := Lib.hid hwz
   clear hz hwz fz2
   go_wp2_with fail
   rw [Hwz.out]
   (with_reducible refine (rseq_any (k := k2 + 1) Hz.out hl (Ha.out.mono (by omega))).mono ?_)
   rintro e w3 ⟨A3, q3, ys, k3, c3, rfl, h3, hf3, hx3, hok3, hl3, hr3⟩
   have H3 := Lib.hid h3
   have Hls3 := Lib.hid (Hlsz.out.rd hf3 Hz.out.typed)
   have Hel := Lib.hid (show ElP w3 (.slice A3 ys.length q3) ys from ⟨hx3, hok3⟩)
   have Hr3 := Lib.hid hr3
   clear h3 hf3 hx3 hok3 hr3 c02 c12 c22 f12
   have Hal := Lib.hid (alloc_below w3 (.cells #[.slice A3 ys.length q3] 26))
   have Hcn := Lib.hid (cells_new w3 [.slice A3 ys.length q3] 26)
   have Hlsa := Lib.hid (Hls3.out.below Hal.out)
   have Hoa := Lib.hid Hlsa.out.2.1
   have hsa : w.heap.size ≤ (w3.alloc (.cells #[.slice A3 ys.length q3] 26)).heap.size := Hlsa.out.1.size
   go_wp2_with (at_builtin; refine wpList_append_k elExs rfl (.tmp 30) (.tmp 33) rfl w.heap.size (.slice A us.length q) us.length w3.heap.size 1 1 us [.slice A3 ys.length q3] (by simp [Act.eval]) Hoa.out (by simp [Act.eval]) rfl Hcn.out (by simp [Value.oneCell']) (by unfold maxLen; omega) (by omega) hsa ?_; intro v' w4 h1 h2 h3; have Hp := Lib.hid h1; have Hg := Lib.hid h2; clear h1 h2 h3)
   obtain ⟨A4, q4, rfl, -, -, -⟩ := ownsRow_slice Hp.out
   have hr4 := (H3.out.below Hal.out).own Hoa.out (by decide) (fun h0 => by have := HA.out; omega) (us_u8 Hlsa.out.2.2) Hg.out
   have hls4 := Hlsa.out.snoc (Hel.out.below Hal.out) Hp.out Hg.out
   refine ⟨⟨A4, q4, us ++ [.slice A3 ys.length q3], _, k3, c3, by simp, hr4, hls4, by simp, ?_, ?_, fun h => Hnxx.out _ Hdd.out (noalt_seq (Hr3.out.2 h)), fun h0 ys' hd hn => by obtain ⟨_, ln, hs, _⟩ := Hr3.out.1 h0; rw [hd] at hs; exact Hnxx.out _ Hdd.out (noalt_more hs hn)⟩, ?_⟩
   ·rw [totX_append, totX_flat, totX_cons]; simp [totX]; omega
   ·intro h0
    obtain ⟨hk4, ln, hs, hy⟩ := Hr3.out.1 h0
    have h1 := hs.tot
    simp only [List.length_drop] at h1
    refine ⟨l ++ [joinR .cat ln], by rw [hy]; simp, ?_, by omega, fun hn => ?_, fun ys m zs hd hm => ?_⟩
    ·have := cat_le2 ln
     rw [tot_append, tot_cons, show tot [] = 0 from rfl]; omega
    ·exact Hmo.out _ _ _ Hdd.out (AltL.one hs hn)
    ·rw [hd] at hs; rw [List.append_assoc]; exact Hmo.out _ _ _ Hdd.out (AltL.more hs hm)
   ·rw [hr4.mu, Hr.out.mu]
    have hk3l := hr4.le
    by_cases h0 : c3 = 0
    ·obtain ⟨hk4, _⟩ := Hr3.out.1 h0
     rw [if_pos h0, if_pos rfl]; omega
    ·rw [if_neg h0, if_pos rfl]; omega
 case rest =>
  obtain ⟨A, q, us, Ls, k2, c9, rfl, hr, hls, hpos, htot, hok, hno⟩ := hcut
  have Hno := Lib.hid hno
  clear hno
  have Hr := Lib.hid hr
  have Hls := Lib.hid hls
  have Hok := Lib.hid hok
  have hne : Ls ≠ [] := by intro e; have h1 := hls.2.2.1; rw [e] at h1; simp at h1; rw [h1] at hpos; simp at hpos
  clear hr hls hok
  have hgl := grpX_len 8 Ls hne
  have Hne := Lib.hid hne
  clear hne
  go_wp2_with fail
  (with_reducible refine (grouped_any 8 Hls.out.rows Hne.out (by omega)).mono ?_)
  rintro e w2 ⟨A2, q2, rfl, hb2, hx2⟩
  have Hb2 := Lib.hid hb2
  have Hx2 := Lib.hid hx2
  clear hb2 hx2
  go_wp2_with fail
  go_ret
  refine ⟨A2, q2, grpX 8 Ls, k2, c9, rfl, Hr.out.below Hb2.out, Hls.out.1.then (Fr.of_below Hb2.out), Hx2.out, grpX_ok 8 Ls Hls.out.ok, fun e => ?_, Hno.out⟩
  obtain ⟨l, rfl, h3⟩ := Hok.out e
  exact ⟨l, h3, grpX_flat 8 .alt (fun a b => two_flat.2) l (fun e => by subst e; exact Hne.out rfl)⟩
theorem alt_at {xs : List UInt8} (hl : xs.length ≤ 400) : ∀ n K : Nat, xs.length + 2 ≤ K + n → AltAt xs K
 | 0, K, h => fun rb k w hk hr => by have := hr.le; omega
 | n + 1, K, h => fun rb k w hk hr => ralt_step hr hl ((alt_at hl n (K + 1) (by omega)).mono (by omega))
theorem ralt_any {xs : List UInt8} {rb k : Nat} {w : World} (h : Rd xs rb w k 0) (hl : xs.length ≤ 400) : Calls Tryz.prog 59 #[.pointer (some ⟨rb, 0, none⟩)] w fun e w' => AltP xs rb k w e w' := alt_at hl (xs.length + 2) 0 (by omega) rb k w (Nat.zero_le _) h
end Go.Proofs.YthhnmpkgleelfaaGreatDoor
