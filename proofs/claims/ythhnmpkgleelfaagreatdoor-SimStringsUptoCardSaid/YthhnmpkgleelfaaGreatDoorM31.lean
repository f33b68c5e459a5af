import Derived.Test.YthhnmpkgleelfaaGreatDoorM30
import Derived.Defers
import Derived.Recover
import Derived.Laws.Pointers
set_option linter.unusedVariables false
set_option linter.unusedSimpArgs false
namespace Go.Proofs.YthhnmpkgleelfaaGreatDoor
open Go.RowKit Go.Shelf
def StrP (w : World) (e : Ending) (w' : World) : Prop := ∃ s : ByteArray, e = .returned (.tuple #[.string s, .nilIface]) ∧ Below w.heap.size w w'
theorem bstring_any {w : World} {B b n : Nat} (h : Bd w B b n) (hB : B ≤ w.heap.size) : Calls Tryz.prog 117 #[.pointer (some ⟨b, 0, none⟩)] w fun e w' => ∃ s : ByteArray, e = .returned (.string s) ∧ Below B w w' := by
 obtain ⟨l, h, _⟩ := h
 refine (Any.Builder_String_any_k lays169 bx169 B b l w h hB).mono ?_
 rintro e w' ⟨rfl, _, hb, _⟩
 exact ⟨_, rfl, hb⟩
theorem bd_new {w w1 : World} (hb : w.heap.size ≤ w1.heap.size) : Bd (w1.alloc (.cells #[.pointer none, .slice none 0 0] 197)) w.heap.size w1.heap.size 0 :=
 ⟨[], .inl ⟨hb, _, heap_alloc_new w1 _, ⟨rfl, .inl ⟨rfl, rfl⟩⟩, by simp [Value.ownBlock]⟩, Nat.le_refl _⟩
set_option maxHeartbeats 4000000 in
theorem told_any {r : Rx} (ho : r.ok) (hx : r.nox) {w : World} (hT : Tabs w) (hl : wlen r ≤ 10000000000000) : Calls Tryz.prog 105 #[nodeV r] w fun e w' => StrP w e w' := by
 have Hm := Lib.hid (pmay_all r ho hx)
 have Hw := Lib.hid (pwr_all r ho)
 have HT := Lib.hid hT
 obtain ⟨tr, xr, hv⟩ := nodeV_iface r
 rw [hv]
 have Hv := Lib.hid hv
 clear hv ho hx hT
 go_enter Tryz.func105, Tryz.ntmps105
 go_wp2_with fail
 rw [← Hv.out]
 (with_reducible refine (Hm.out.go HT.out).mono ?_)
 rw [Hv.out]
 rintro e w1 ⟨rfl, hb1⟩
 have Hb1 := Lib.hid hb1
 have hs1 := hb1.size
 have Hd := Lib.hid (bd_new hs1)
 have HT2 := Lib.hid ((Tb.start HT.out).then (hb1.trans ((alloc_below w1 (.cells #[.pointer none, .slice none 0 0] 197)).mono hs1)))
 have Hb2 := Lib.hid (hb1.trans ((alloc_below w1 (.cells #[.pointer none, .slice none 0 0] 197)).mono hs1))
 clear hb1
 go_wp2_with fail
 generalize w1.alloc (.cells #[.pointer none, .slice none 0 0] 197) = w2 at *
 rw [← Hv.out]
 (with_reducible refine (Hw.out.go Hd.out HT2.out (by omega)).mono ?_)
 rw [Hv.out]
 rintro e w3 ⟨rfl, hb3⟩
 have Hb3 := Lib.hid hb3
 have hs3 := hb3.2.1.size
 have hs2 := Hb2.out.size
 clear hb3
 go_wp2_with fail
 (with_reducible refine (bstring_any Hb3.out.bd (Nat.le_trans hs2 hs3)).mono ?_)
 rintro e w4 ⟨s, rfl, hb4⟩
 have Hb4 := Lib.hid (Hb2.out.trans (Hb3.out.2.1.trans hb4))
 clear hb4
 go_wp2_with fail
 go_ret2
 exact ⟨s, rfl, Hb4.out⟩
set_option maxHeartbeats 4000000 in
theorem print_any {r : Rx} (ho : r.ok) (hx : r.nox) {w : World} (hT : Tabs w) (hl : wlen r ≤ 10000000000000) : Calls Tryz.prog 95 #[nodeV r] w fun e w' => StrP w e w' := by
 have Hd := Lib.hid (told_any ho hx hT hl)
 obtain ⟨tr, xr, hv⟩ := nodeV_iface r
 rw [hv] at Hd ⊢
 clear hv ho hx hT
 go_enter Tryz.func95, Tryz.ntmps95
 go_wp2_with fail
 (with_reducible refine Hd.out.mono ?_)
 rintro e w1 ⟨s, rfl, hb1⟩
 have Hb1 := Lib.hid hb1
 clear hb1
 go_wp2_with fail
 go_ret2
 exact ⟨s, rfl, Hb1.out⟩
theorem states1_idle (p q : Value) (w : World) : CallsD Tryz.prog 93 #[p, q] .returning w fun e u' w' => e = .returned (.tuple #[]) ∧ u' = .returning ∧ w' = w := by
 refine callsD_of_wpS Tryz.func93 rfl fun c₀ cs hu => ?_
 apply wpS_seq
 apply wpS_region
 simp [wpOpsS, go_sem, recoverD, hu, Tryz.ntmps93, Exit.thenS]
 apply wpS_seq
 apply wpS_region
 simp [wpOpsS, go_sem, Exit.thenS]
 refine wpS_cond (t := false) (by simp [Act.eval, Array.replicate]) ?_
 simp only [Bool.false_eq_true, if_false]
 refine wpS_of_wp (wp_skip ?_)
 cases c₀
 simp_all [bodyPostS, results, Tryz.results93]
theorem states_any {r : Rx} (ho : r.ok) (hx : r.nox) {w : World} (hT : Tabs w) (hl : wlen r ≤ 10000000000000) : Calls Tryz.prog 65 #[nodeV r] w fun e w' => e = .returned (.tuple #[.int .i64 (statesF r), .nilIface]) ∧ Below w.heap.size w w' := by
 have Hp := Lib.hid (fun w0 (hT : Tabs w0) => print_any ho hx hT hl)
 have Hw := Lib.hid (pwh_all r)
 have Hn := Lib.hid (pnd_all r ho)
 obtain ⟨n1, n2⟩ := needF_bd r ho
 have HT := Lib.hid hT
 have Hst := Lib.hid (show statesF r = adS (needF r) 1 from rfl)
 obtain ⟨tr, xr, hv⟩ := nodeV_iface r
 rw [hv] at Hp ⊢
 have Hv := Lib.hid hv
 clear hv ho hx hT
 have hmf : ∀ (fn : Fn) (first cap : Array Value) (w : World), (Instr.makeFunc fn first cap).run Tryz.prog w = .ok (.func fn first cap) w := fun _ _ _ _ => rfl
 go_enter_defers Tryz.func65, Tryz.ntmps65
 go_wp2_with fail
 have hb1 : Below w.heap.size w ((w.alloc (.cells #[.int .i64 0] 3)).alloc (.cells #[.nilIface] 73)) := ((Below.refl _ _).alloc (Nat.le_refl _) _).alloc (by simp) _
 have ha : ((w.alloc (.cells #[.int .i64 0] 3)).alloc (.cells #[.nilIface] 73)).heap[w.heap.size]? = some (.cells #[.int .i64 0] 3 (0, 0)) := (Below.heap_alloc _ _ _ (by simp)).trans (heap_alloc_new w _)
 have hc : ((w.alloc (.cells #[.int .i64 0] 3)).alloc (.cells #[.nilIface] 73)).heap[w.heap.size + 1]? = some (.cells #[.nilIface] 73 (0, 0)) := by
  have := heap_alloc_new (w.alloc (.cells #[.int .i64 0] 3)) (.cells #[.nilIface] 73)
  rwa [World.size_alloc] at this
 generalize (w.alloc (.cells #[.int .i64 0] 3)).alloc (.cells #[.nilIface] 73) = w1 at *
 have Hb1 := Lib.hid hb1
 have Hha := Lib.hid ha
 have Hhc := Lib.hid hc
 have hs1 := hb1.size
 clear hb1 ha hc
 rw [← Hv.out]
 (with_reducible refine (Hw.out.go w1).mono ?_)
 rw [Hv.out]
 rintro e w2 ⟨rfl, hb2⟩
 have Hb2 := Lib.hid (Hb1.out.trans (hb2.mono hs1))
 have Hha := Lib.hid (quiet_heap Hha.out hb2)
 have Hhc := Lib.hid (quiet_heap Hhc.out hb2)
 have hs2 := Hb2.out.size
 clear hb2
 go_wp2_with fail
 (with_reducible refine (Hp.out w2 (HT.out.below Hb2.out)).mono ?_)
 rintro e w3 ⟨s, rfl, hb3⟩
 have Hb3 := Lib.hid (Hb2.out.trans (hb3.mono hs2))
 have Hha := Lib.hid (quiet_heap Hha.out hb3)
 have Hhc := Lib.hid (quiet_heap Hhc.out hb3)
 have hs3 := Hb3.out.size
 clear hb3
 go_wp2_with fail
 rw [← Hv.out]
 (with_reducible refine (Hn.out.go w3).mono ?_)
 rw [Hv.out]
 rintro e w4 ⟨rfl, hb4⟩
 have Hb4 := Lib.hid (Hb3.out.trans (hb4.mono hs3))
 have Hha := Lib.hid (quiet_heap Hha.out hb4)
 have Hhc := Lib.hid (quiet_heap Hhc.out hb4)
 clear hb4
 go_wp2_with fail
 (with_reducible refine (madd_any _ 1 n1 n2 (by decide) (by decide) w4).mono ?_)
 rintro e w5 ⟨rfl, rfl⟩
 rw [← Hst.out]
 have d0 := row_cell Hha.out (j := 0) rfl
 have d1 := row_cell Hhc.out (j := 0) rfl
 have f0 := row_frozen Hha.out 0
 have f1 := row_frozen Hhc.out 0
 go_wp2_with fail
 have hx0 := row_set Hha.out 0 (.int .i64 (statesF r))
 have hx1 : (w4.setCell ⟨w.heap.size, 0, none⟩ (.int .i64 (statesF r))).heap[w.heap.size + 1]? = some (.cells #[.nilIface] 73 (0, 0)) := (Below.heap_setCell w4 _ _ _ (by simp)).trans Hhc.out
 have hy1 := row_set hx1 0 .nilIface
 have hy0 := (Below.heap_setCell (w4.setCell ⟨w.heap.size, 0, none⟩ (.int .i64 (statesF r))) ⟨w.heap.size + 1, 0, none⟩ .nilIface w.heap.size (by simp)).trans hx0
 have hb6 : Below w.heap.size w ((w4.setCell ⟨w.heap.size, 0, none⟩ (.int .i64 (statesF r))).setCell ⟨w.heap.size + 1, 0, none⟩ .nilIface) := (Hb4.out.setCell (p := ⟨w.heap.size, 0, none⟩) (Nat.le_refl _) _).setCell (p := ⟨w.heap.size + 1, 0, none⟩) (Nat.le_succ _) _
 generalize (w4.setCell ⟨w.heap.size, 0, none⟩ (.int .i64 (statesF r))).setCell ⟨w.heap.size + 1, 0, none⟩ .nilIface = w6 at *
 have c0 := row_cell hy0 (j := 0) (u := .int .i64 (statesF r)) rfl
 have c1 := row_cell hy1 (j := 0) (u := .nilIface) rfl
 refine leaves_cons (f := 93) (args := #[.pointer (some ⟨w.heap.size, 0, none⟩), .pointer (some ⟨w.heap.size + 1, 0, none⟩)]) (by simp) (by simp [go_sem]) ?_
 refine (states1_idle _ _ _).mono ?_
 rintro e u' w'' ⟨rfl, rfl, rfl⟩
 simp [Leaves, settle, results, Tryz.results65, go_sem, c0, c1]
 exact hb6
theorem elSt : ElemK 119 124 .nilIface 1 16 := ⟨Tryz.underlying119, by kernel_rfl, rfl, by decide⟩
def Mk (w : World) (B g : Nat) (L : List St) : Prop := B ≤ g ∧ ∃ (A : Option Addr) (q : Nat), w.heap[g]? = some (.cells #[.slice A L.length q, .int .i64 0] 121 (0, 0)) ∧ w.ownsRow B 124 1 (.slice A L.length q) L.length (L.map stV)
def OthM (g : Nat) (w w' : World) : Prop := ∀ (k : Nat) (cs : Array Value) (t : TypeId) (z : Nat × Nat), w.heap[k]? = some (.cells cs t z) → k ≠ g → t ≠ 124 → w'.heap[k]? = some (.cells cs t z)
def MkP (w : World) (B g : Nat) (L : List St) (w' : World) : Prop := Mk w' B g L ∧ Below B w w' ∧ OthM g w w'
theorem Mk.lt {w : World} {B g : Nat} {L : List St} (h : Mk w B g L) : g < w.heap.size := by obtain ⟨_, _, _, h, _⟩ := h; exact lt_of_heap h
theorem Mk.below {w w' : World} {B g : Nat} {L : List St} (h : Mk w B g L) (hb : Below w.heap.size w w') : Mk w' B g L := by
 obtain ⟨h0, A, q, h1, h2⟩ := h
 exact ⟨h0, A, q, (hb.block _ (lt_of_heap h1)).trans h1, h2.below' hb⟩
theorem OthM.refl (g : Nat) (w : World) : OthM g w w := fun _ _ _ _ h _ _ => h
theorem OthM.trans {g : Nat} {w w1 w2 : World} (h : OthM g w w1) (k : OthM g w1 w2) : OthM g w w2 := fun i cs t z hi hg ht => k i cs t z (h i cs t z hi hg ht) hg ht
theorem OthM.quiet {g : Nat} {w w' : World} (hb : Below w.heap.size w w') : OthM g w w' := fun _ _ _ _ h _ _ => (hb.block _ (lt_of_heap h)).trans h
theorem MkP.start {w : World} {B g : Nat} {L : List St} (h : Mk w B g L) : MkP w B g L w := ⟨h, Below.refl _ _, OthM.refl _ _⟩
theorem MkP.trans {w w1 w2 : World} {B g : Nat} {L L' : List St} (h : MkP w B g L w1) (k : MkP w1 B g L' w2) : MkP w B g L' w2 := ⟨k.1, h.2.1.trans k.2.1, h.2.2.trans k.2.2⟩
theorem MkP.quiet {w w1 w2 : World} {B g : Nat} {L : List St} (h : MkP w B g L w1) (hb : Below w1.heap.size w1 w2) (hB : B ≤ w.heap.size) : MkP w B g L w2 :=
 ⟨h.1.below hb, h.2.1.trans (hb.mono (Nat.le_trans hB h.2.1.size)), h.2.2.trans (OthM.quiet hb)⟩
theorem MkP.mk {w w1 : World} {B g : Nat} {L : List St} (h : MkP w B g L w1) : Mk w1 B g L := h.1
theorem MkP.hB {w w1 : World} {B g : Nat} {L : List St} (h : MkP w B g L w1) (hB : B ≤ w.heap.size) : B ≤ w1.heap.size := Nat.le_trans hB h.2.1.size
theorem MkP.heap {w w1 : World} {B g k : Nat} {L : List St} {cs : Array Value} {t : TypeId} {z : Nat × Nat} (h : MkP w B g L w1) (hk : w.heap[k]? = some (.cells cs t z)) (hg : k ≠ g) (ht : t ≠ 124) : w1.heap[k]? = some (.cells cs t z) := h.2.2 k cs t z hk hg ht
theorem own_ne {w : World} {base k n g : Nat} {e t : TypeId} {v : Value} {us : List Value} {cs : Array Value} {z : Nat × Nat} (h : w.ownsRow base e k v n us) (hg : w.heap[g]? = some (.cells cs t z)) (ht : t ≠ e) : v.ownBlock ≠ some g := by
 intro hb
 obtain ⟨_, cur, hc⟩ := ownsRow_block h hb
 rw [hg] at hc
 injection hc with hc
 injection hc with _ hc _
 exact ht hc
def AddP (w : World) (B g : Nat) (L : List St) (n : Nat) (e : Ending) (w' : World) : Prop := e = .returned (.int .i64 n) ∧ MkP w B g L w'
theorem stV_iface (z : St) : ∃ t x, stV z = .iface t x := by cases z <;> exact ⟨_, _, rfl⟩
set_option maxHeartbeats 4000000 in
theorem add_any {w : World} {B g : Nat} {L : List St} (h : Mk w B g L) (z : St) (hl : L.length ≤ 1000000) (hB : B ≤ w.heap.size) : Calls Tryz.prog 97 #[.pointer (some ⟨g, 0, none⟩), stV z] w fun e w' => AddP w B g (L ++ [z]) L.length e w' := by
 obtain ⟨h0, A, q, h1, h2⟩ := h
 have c0 := row_cell h1 (j := 0) (u := .slice A L.length q) rfl
 obtain ⟨tz, xz, hv⟩ := stV_iface z
 rw [hv]
 have Hv := Lib.hid hv
 have H1 := Lib.hid h1
 have H2 := Lib.hid h2
 have hg := lt_of_heap h1
 clear h1 h2 hv
 have Hal := Lib.hid (alloc_below w (.cells #[.iface tz xz] 124))
 have Hoa := Lib.hid (H2.out.below' Hal.out)
 have Hcn := Lib.hid (cells_new w [.iface tz xz] 124)
 have Hx1 := Lib.hid (quiet_heap H1.out Hal.out)
 go_enter Tryz.func97, Tryz.ntmps97
 go_wp2_with (at_builtin; refine wpList_append_k elSt rfl (.tmp 9) (.tmp 11) rfl B (.slice A L.length q) L.length w.heap.size 1 1 (L.map stV) [.iface tz xz] (by simp [Act.eval]) Hoa.out (by simp [Act.eval]) rfl Hcn.out (by simp [Value.oneCell']) (by unfold maxLen; omega) (by omega) (by simp; omega) ?_; intro v' w5 h1 h2 h3; have Hp := Lib.hid h1; have Hg := Lib.hid h2; obtain ⟨A5, q5, rfl, -, -, -⟩ := ownsRow_slice h1; have hx5 := (h2.block g (by simp; omega) (Ne.symm (own_ne Hoa.out Hx1.out (by decide)))).trans Hx1.out; have Hx5 := Lib.hid hx5; have d0 := row_cell hx5 (j := 0) (u := .slice A L.length q) rfl; have f0 := row_frozen hx5 0; clear h1 h2 h3 hx5 c0)
 go_ret
 have hne5 := own_ne Hp.out Hx5.out (by decide)
 have hrow := row_set Hx5.out 0 (.slice A5 (L.length + 1) q5)
 have hown := World.ownsRow.kept Hp.out (Fr.set g 0 w5 (.slice A5 (L.length + 1) q5)) (.inr hne5)
 have hlen : (L ++ [z]).length = L.length + 1 := by simp
 refine ⟨rfl, ⟨h0, A5, q5, ?_, ?_⟩, ?_, ?_⟩
 ·rw [hlen]; exact hrow
 ·rw [hlen, List.map_append]
  have : [z].map stV = [.iface tz xz] := by rw [List.map_cons, List.map_nil, Hv.out]
  rw [this]
  exact hown
 ·exact (own_below ((alloc_below w (.cells #[.iface tz xz] 124)).mono hB) Hoa.out (by simp; omega) Hg.out).setCell (p := ⟨g, 0, none⟩) h0 _
 ·intro k cs t u hk hg' ht
  have a1 := quiet_heap hk Hal.out
  have a2 := (Hg.out.block k (lt_of_heap a1) (Ne.symm (own_ne Hoa.out a1 ht))).trans a1
  exact (Below.heap_setCell w5 _ _ _ (fun e => hg' e)).trans a2
def PLay (r : Rx) : Prop := ∀ (w : World) (B g t : Nat) (L : List St), Mk w B g L → B ≤ w.heap.size → Wf L → t < L.length → (layF r t L).2.length ≤ 100000 → Calls Tryz.prog 66 #[.pointer (some ⟨g, 0, none⟩), nodeV r, .int .i64 t] w fun e w' => AddP w B g (layF r t L).2 (layF r t L).1 e w'
theorem PLay.go {r : Rx} (h : PLay r) {w : World} {B g t : Nat} {L : List St} (h1 : Mk w B g L) (h2 : B ≤ w.heap.size) (h3 : Wf L) (h4 : t < L.length) (h5 : (layF r t L).2.length ≤ 100000) : Calls Tryz.prog 66 #[.pointer (some ⟨g, 0, none⟩), nodeV r, .int .i64 t] w fun e w' => AddP w B g (layF r t L).2 (layF r t L).1 e w' := h w B g t L h1 h2 h3 h4 h5
theorem it_le {P : List St → Nat → Nat → Prop} {f : Nat → List St → Nat × List St} (h : LayOk P f) (n t : Nat) (L : List St) : L.length ≤ (itF f n t L).2.length := by
 obtain ⟨T, e⟩ := h.it_pre n t L
 rw [e, List.length_append]; omega
theorem opt_le {P : List St → Nat → Nat → Prop} {f : Nat → List St → Nat × List St} (h : LayOk P f) (t n a : Nat) (L : List St) : L.length ≤ (itF (optF f t) n a L).2.length := by
 obtain ⟨T, e⟩ := h.opt_pre t n a L
 rw [e, List.length_append]; omega
theorem Mk.set {w : World} {B g : Nat} {L : List St} (h : Mk w B g L) (at_ : Nat) (z : St) (hl : at_ < L.length) : ∃ b q v, w.heap[g]? = some (.cells #[.slice (some ⟨b, 0, none⟩) L.length q, .int .i64 0] 121 (0, 0)) ∧ w.cell? ⟨b, at_, none⟩ = some v ∧ w.frozen? ⟨b, at_, none⟩ = false ∧ MkP w B g (L.set at_ z) (w.setCell ⟨b, at_, none⟩ (stV z)) := by
 obtain ⟨h0, A, q, h1, h2⟩ := h
 obtain ⟨A', q', e, _, _, hA⟩ := ownsRow_slice h2
 obtain ⟨rfl, _, rfl⟩ := Value.slice.inj e
 obtain ⟨b, rfl⟩ := hA (by omega)
 have hc := ownsRow_cell h2 rfl at_ (by omega)
 obtain ⟨hbb, cur, hcur⟩ := ownsRow_block h2 rfl
 have hne : b ≠ g := fun e => own_ne h2 h1 (by decide) (by rw [← e]; rfl)
 have hst := World.ownsRow.stored h2 at_ (stV z)
 refine ⟨b, q, stV (L[at_]), h1, ?_, row_frozen hcur at_, ⟨h0, some ⟨b, 0, none⟩, q, ?_, ?_⟩, ?_, ?_⟩
 ·rw [hc, List.getElem?_map, List.getElem?_eq_getElem hl]; rfl
 ·rw [List.length_set]
  exact (Below.heap_setCell w _ _ _ (fun e => hne e.symm)).trans h1
 ·rw [List.length_set, List.map_set]
  exact hst.1
 ·exact (Below.refl B w).setCell (p := ⟨b, at_, none⟩) hbb _
 ·intro k cs t u hk hg ht
  refine (Below.heap_setCell w _ _ _ (fun e => ?_)).trans hk
  have e : k = b := e
  subst e
  rw [hcur] at hk
  injection hk with hk
  injection hk with _ hk _
  exact ht hk.symm
def RpBox (w : World) (g : Nat) (ta : TypeId) (xa : Value) (mn mx : Int) : Prop := w.heap[g]? = some (repC ta xa mn mx)
theorem RpBox.cells {w : World} {g : Nat} {ta : TypeId} {xa : Value} {mn mx : Int} (h : RpBox w g ta xa mn mx) : w.cell? ⟨g, 0, none⟩ = some (.iface ta xa) ∧ w.cell? ⟨g, 1, none⟩ = some (.int .i64 mn) ∧ w.cell? ⟨g, 2, none⟩ = some (.int .i64 mx) :=
 ⟨row_cell h (j := 0) rfl, row_cell h (j := 1) rfl, row_cell h (j := 2) rfl⟩
theorem RpBox.kept {w w' : World} {B g k : Nat} {L : List St} {ta : TypeId} {xa : Value} {mn mx : Int} (h : RpBox w k ta xa mn mx) (hm : MkP w B g L w') (hg : k ≠ g) : RpBox w' k ta xa mn mx := hm.heap h hg (by decide)
def LyRel (f : Nat → List St → Nat × List St) (w : World) (B g k : Nat) (ta : TypeId) (xa : Value) (mn mx : Int) (n t : Nat) (L : List St) (s7 sc : Value) (wr : World) : Prop :=
 ∃ (i a : Nat) (L' : List St), i ≤ n ∧ sc = .int .i64 i ∧ s7 = .int .i64 a ∧ MkP w B g L' wr ∧ RpBox wr k ta xa mn mx ∧ Wf L' ∧ a < L'.length ∧ L.length ≤ L'.length ∧ itF f (n - i) a L' = itF f n t L
theorem addfork_any {w : World} {B g : Nat} {L : List St} (h : Mk w B g L) (a b : Nat) (hl : L.length ≤ 1000000) (hB : B ≤ w.heap.size) : Calls Tryz.prog 97 #[.pointer (some ⟨g, 0, none⟩), .iface 143 (.agg #[.int .i64 a, .int .i64 b])] w fun e w' => AddP w B g (L ++ [.fork a b]) L.length e w' := add_any h (.fork a b) hl hB
theorem Wf.set {L : List St} {i : Nat} {z : St} (h : Wf L) (hz : z.lt L.length) : Wf (L.set i z) := by
 intro y hy
 rw [List.length_set]
 rcases List.mem_or_eq_of_mem_set hy with hy | rfl
 ·exact h y hy
 ·exact hz
def RpCut (w : World) (B g k : Nat) (ta : TypeId) (xa : Value) (mn mx : Int) (f : Nat → List St → Nat × List St) (R : Nat × List St) (s7 : Value) (wr : World) : Prop :=
 ∃ (a : Nat) (L' : List St), s7 = .int .i64 a ∧ MkP w B g L' wr ∧ RpBox wr k ta xa mn mx ∧ Wf L' ∧ a < L'.length ∧ itF f mn.toNat a L' = R
set_option maxHeartbeats 8000000 in
set_option maxRecDepth 100000 in
theorem prep_any {x : Rx} (hx : PLay x) {mn mx : Int} (h1 : 0 ≤ mn) (h2 : mn ≤ 1000) (h3 : mx = -1 ∨ (mn ≤ mx ∧ mx ≤ 1000)) {w : World} {B g t : Nat} {L : List St} (hm : Mk w B g L) (hB : B ≤ w.heap.size) (hw : Wf L) (ht : t < L.length) (hl : (layF (.rep x mn mx) t L).2.length ≤ 100000) : Calls Tryz.prog 98 #[.pointer (some ⟨g, 0, none⟩), .agg #[nodeV x, .int .i64 mn, .int .i64 mx], .int .i64 t] w fun e w' => AddP w B g (layF (.rep x mn mx) t L).2 (layF (.rep x mn mx) t L).1 e w' := by
 have hF : LayOk (fun M st t => Laid M x st t) (layF x) := lay_ok x
 have hW : WfF (layF x) := lay_wf x
 have hL0 : L.length ≤ 100000 := by
  have := (lay_ok (.rep x mn mx)).len t L
  omega
 have HF := Lib.hid hF
 have HW := Lib.hid hW
 have Hx := Lib.hid hx
 have hR := layF_rep x mn mx t L
 obtain ⟨R, hRe⟩ : ∃ R, layF (.rep x mn mx) t L = R := ⟨_, rfl⟩
 rw [hRe] at hR hl ⊢
 have HR := Lib.hid hR
 have Hl := Lib.hid hl
 have Hwf := Lib.hid hw
 have Hk := Lib.hid (show w.heap.size ≠ g by have := hm.lt; omega)
 obtain ⟨ta, xa, hv⟩ := nodeV_iface x
 rw [hv]
 have Hv := Lib.hid hv
 have hal := alloc_below w (.cells #[.iface ta xa, .int .i64 mn, .int .i64 mx] 174)
 have Hb := Lib.hid (show RpBox (w.alloc (.cells #[.iface ta xa, .int .i64 mn, .int .i64 mx] 174)) w.heap.size ta xa mn mx from heap_alloc_new w _)
 have Hm := Lib.hid ((MkP.start hm).quiet hal hB)
 clear hF hW hx hR hl hv hal hm hRe hw
 obtain ⟨k, hk⟩ : ∃ k, w.heap.size = k := ⟨_, rfl⟩
 go_enter Tryz.func98, Tryz.ntmps98
 go_upto_if 13 with fail
 generalize w.alloc (.cells #[.iface ta xa, .int .i64 mn, .int .i64 mx] 174) = w1 at *
 rw [hk] at Hk Hb
 clear hk
 have HB := Lib.hid (Hm.out.hB hB)
 go_cut [7] (fun s7 wx => RpCut w B g k ta xa mn mx (layF x) R s7 wx)
 case first =>
  obtain ⟨d0, d1, d2⟩ := Hb.out.cells
  by_cases hneg : mx < 0
  ·have hmx : mx = -1 := by omega
   subst hmx
   have HRn := Lib.hid (show R = itF (layF x) mn.toNat L.length ((layF x L.length (L ++ [.fork t t])).2.set L.length (.fork (layF x L.length (L ++ [.fork t t])).1 t)) by rw [HR.out]; unfold repA; rw [if_pos (by decide)])
   have hl1 : (layF x L.length (L ++ [.fork t t])).2.length ≤ 100000 := by
    have h4 := it_le HF.out mn.toNat L.length ((layF x L.length (L ++ [.fork t t])).2.set L.length (.fork (layF x L.length (L ++ [.fork t t])).1 t))
    rw [List.length_set, ← HRn.out] at h4
    have := Hl.out
    omega
   have hwf1 : Wf (L ++ [.fork t t]) := Hwf.out.snoc ⟨by omega, by omega⟩
   have hlt1 : L.length < (L ++ [St.fork t t]).length := by simp
   obtain ⟨g1, g2, g3⟩ := HW.out L.length _ hlt1 hwf1
   have Hl1 := Lib.hid hl1
   have Hwf1 := Lib.hid hwf1
   have Hlt1 := Lib.hid hlt1
   have G := Lib.hid (And.intro g1 (And.intro g2 g3))
   clear hl1 hwf1 hlt1 g1 g2 g3
   go_wp2_with fail
   clear d0 d1 d2
   (with_reducible refine (addfork_any Hm.out.mk t t (by omega) HB.out).mono ?_)
   rintro e w2 ⟨rfl, hm2⟩
   have Hm2 := Lib.hid (Hm.out.trans hm2)
   have Hb2 := Lib.hid (Hb.out.kept hm2 Hk.out)
   have HB2 := Lib.hid (Hm2.out.hB hB)
   obtain ⟨d0, d1, d2⟩ := Hb2.out.cells
   clear hm2
   go_wp2_with fail
   clear d0 d1 d2
   rw [← Hv.out]
   (with_reducible refine (Hx.out.go Hm2.out.mk HB2.out Hwf1.out Hlt1.out Hl1.out).mono ?_)
   rw [Hv.out]
   rintro e w3 ⟨rfl, hm3⟩
   have Hm3 := Lib.hid (Hm2.out.trans hm3)
   have Hb3 := Lib.hid (Hb2.out.kept hm3 Hk.out)
   clear hm3
   generalize hP : layF x L.length (L ++ [.fork t t]) = P at *
   obtain ⟨bg, L3⟩ := P
   have Hlt3 := Lib.hid (show L.length < L3.length by have := G.out.2.2; simp at this; omega)
   obtain ⟨rb, q, v, e1, e2, e3, hm4⟩ := Hm3.out.mk.set L.length (.fork bg t) Hlt3.out
   have Hm4 := Lib.hid (Hm3.out.trans hm4)
   have Hb4 := Lib.hid (Hb3.out.kept hm4 Hk.out)
   have d0 := row_cell e1 (j := 0) rfl
   have hlt3 := Hlt3.out
   clear e1 hm4 hP
   go_wp2_with fail
   go_meet
   case rel => exact ⟨L.length, L3.set L.length (.fork bg t), rfl, Hm4.out, Hb4.out, Wf.set G.out.1 ⟨G.out.2.1, by have := Hlt3.out; omega⟩, by rw [List.length_set]; exact Hlt3.out, HRn.out.symm⟩
  ·obtain ⟨n, hn⟩ : ∃ n : Nat, (mx - mn).toNat = n := ⟨_, rfl⟩
   have hn1 : (n : Int) ≤ mx - mn := by omega
   have hn2 : mx - mn ≤ n := by omega
   have HRn := Lib.hid (show R = itF (layF x) mn.toNat (itF (optF (layF x) t) n t L).1 (itF (optF (layF x) t) n t L).2 by rw [HR.out]; unfold repA; rw [if_neg hneg, hn])
   have Hl1 := Lib.hid (show (itF (optF (layF x) t) n t L).2.length ≤ 100000 by
    have h4 := it_le HF.out mn.toNat (itF (optF (layF x) t) n t L).1 (itF (optF (layF x) t) n t L).2
    rw [← HRn.out] at h4
    have := Hl.out
    omega)
   clear hn
   have h5 : mn ≤ mx ∧ mx ≤ 1000 := by omega
   obtain ⟨h5, h6⟩ := h5
   go_wp2_with fail
   clear d0 d1 d2
   go_loopw [7, 40] (fun s7 s40 wr => LyRel (optF (layF x) t) w B g k ta xa mn mx n t L s7 s40 wr) (fun _ v _ => n - (intOf v).toNat)
   case atStart => exact ⟨0, t, L, Nat.zero_le _, rfl, rfl, Hm.out, Hb.out, Hwf.out, ht, Nat.le_refl _, rfl⟩
   case round =>
    obtain ⟨i, a, L', hi, rfl, rfl, hm, hb, hw, ha, hll, hit⟩ := hrel
    have Hmr := Lib.hid hm
    have Hbr := Lib.hid hb
    have Hwr := Lib.hid hw
    have Hit := Lib.hid hit
    have HBr := Lib.hid (hm.hB hB)
    obtain ⟨d0, d1, d2⟩ := hb.cells
    have hL' : L'.length ≤ 100000 := by
     have h4 := opt_le HF.out t (n - i) a L'
     rw [hit] at h4
     have := Hl1.out
     omega
    by_cases hlt : i < n
    ·obtain ⟨g1, g2, g3⟩ := HW.out a L' ha hw
     have hsu : n - i = (n - (i + 1)) + 1 := by omega
     have hit2 : itF (optF (layF x) t) (n - (i + 1)) (optF (layF x) t a L').1 (optF (layF x) t a L').2 = itF (optF (layF x) t) n t L := by rw [← hit, hsu, itF]
     have h4 := opt_le HF.out t (n - (i + 1)) (optF (layF x) t a L').1 (optF (layF x) t a L').2
     rw [hit2] at h4
     have Hl2 := Lib.hid (show (layF x a L').2.length ≤ 99999 by
      have e : (optF (layF x) t a L').2.length = (layF x a L').2.length + 1 := by unfold optF; simp
      have := Hl1.out
      omega)
     have Hit2 := Lib.hid (show itF (optF (layF x) t) (n - (i + 1)) (layF x a L').2.length ((layF x a L').2 ++ [.fork (layF x a L').1 t]) = itF (optF (layF x) t) n t L from hit2)
     have G := Lib.hid (And.intro g1 (And.intro g2 g3))
     have hlt' : (i : Int) < mx - mn := by omega
     clear hm hb hw hit g1 g2 g3 hsu hit2 h4 Hit
     go_wp2_with fail
     clear d0 d1 d2
     rw [← Hv.out]
     (with_reducible refine (Hx.out.go Hmr.out.mk HBr.out Hwr.out ha (by have := Hl2.out; omega)).mono ?_)
     rw [Hv.out]
     rintro e w3 ⟨rfl, hm3⟩
     have Hm3 := Lib.hid (Hmr.out.trans hm3)
     have Hb3 := Lib.hid (Hbr.out.kept hm3 Hk.out)
     have HB3 := Lib.hid (Hm3.out.hB hB)
     clear hm3
     generalize layF x a L' = P at *
     obtain ⟨bg, L3⟩ := P
     have hl3 : L3.length ≤ 99999 := Hl2.out
     go_wp2_with fail
     (with_reducible refine (addfork_any Hm3.out.mk bg t (by omega) HB3.out).mono ?_)
     rintro e w4 ⟨rfl, hm4⟩
     have Hm4 := Lib.hid (Hm3.out.trans hm4)
     have Hb4 := Lib.hid (Hb3.out.kept hm4 Hk.out)
     clear hm4
     go_wp2_with fail
     have g2 := G.out.2.1
     have g3 := G.out.2.2
     exact ⟨⟨i + 1, L3.length, L3 ++ [.fork bg t], by omega, by go_num, rfl, Hm4.out, Hb4.out, G.out.1.snoc (z := .fork bg t) ⟨by omega, by omega⟩, by simp, by simp; omega, Hit2.out⟩, by simp [intOf]; omega⟩
    ·obtain rfl : i = n := by omega
     have hlt' : ¬ (i : Int) < mx - mn := by omega
     have Hfi := Lib.hid (show itF (layF x) mn.toNat a L' = R by
      rw [Nat.sub_self] at hit
      have hit : (a, L') = itF (optF (layF x) t) i t L := hit
      rw [HRn.out, ← hit])
     clear hm hb hw hit
     go_wp2_with fail
     go_meet
     case rel => exact ⟨a, L', rfl, Hmr.out, Hbr.out, Hwr.out, ha, Hfi.out⟩
 case rest =>
  obtain ⟨a0, L0, rfl, hm0, hb0, hw0, ha0, hR0⟩ := hcut
  obtain ⟨n, rfl⟩ : ∃ n : Nat, mn = n := ⟨mn.toNat, by omega⟩
  rw [Int.toNat_natCast] at hR0
  have Hm0 := Lib.hid hm0
  have Hb0 := Lib.hid hb0
  have Hw0 := Lib.hid hw0
  have HR0 := Lib.hid hR0
  obtain ⟨d0, d1, d2⟩ := hb0.cells
  clear hm0 hb0 hw0 hR0 Hm Hb
  obtain ⟨wo, hwo⟩ : ∃ wo : World, wc = wo := ⟨_, rfl⟩
  subst hwo
  go_wp2_with fail
  clear d0 d1 d2
  go_loopw [7, 56] (fun s7 s56 wr => LyRel (layF x) w B g k ta xa n mx n a0 L0 s7 s56 wr) (fun _ v _ => n - (intOf v).toNat)
  case atStart => exact ⟨0, a0, L0, Nat.zero_le _, rfl, rfl, Hm0.out, Hb0.out, Hw0.out, ha0, Nat.le_refl _, rfl⟩
  case round =>
   obtain ⟨i, a, L', hi, rfl, rfl, hm, hb, hw, ha, hll, hit⟩ := hrel
   have Hmr := Lib.hid hm
   have Hbr := Lib.hid hb
   have Hwr := Lib.hid hw
   have HBr := Lib.hid (hm.hB hB)
   obtain ⟨d0, d1, d2⟩ := hb.cells
   by_cases hlt : i < n
   ·obtain ⟨g1, g2, g3⟩ := HW.out a L' ha hw
    have hsu : n - i = (n - (i + 1)) + 1 := by omega
    have hit2 : itF (layF x) (n - (i + 1)) (layF x a L').1 (layF x a L').2 = itF (layF x) n a0 L0 := by rw [← hit, hsu, itF]
    have h4 := it_le HF.out (n - (i + 1)) (layF x a L').1 (layF x a L').2
    rw [hit2, HR0.out] at h4
    have Hl2 := Lib.hid (Nat.le_trans h4 Hl.out)
    have Hit2 := Lib.hid hit2
    have G := Lib.hid (And.intro g1 (And.intro g2 g3))
    have hL' : L'.length ≤ 100000 := by have := Hl2.out; omega
    clear hm hb hw hit g1 g2 g3 hsu hit2 h4
    go_wp2_with fail
    clear d0 d1 d2
    rw [← Hv.out]
    (with_reducible refine (Hx.out.go Hmr.out.mk HBr.out Hwr.out ha Hl2.out).mono ?_)
    rw [Hv.out]
    rintro e w3 ⟨rfl, hm3⟩
    have Hm3 := Lib.hid (Hmr.out.trans hm3)
    have Hb3 := Lib.hid (Hbr.out.kept hm3 Hk.out)
    clear hm3
    generalize layF x a L' = P at *
    obtain ⟨bg, L3⟩ := P
    go_wp2_with fail
    have g3 := G.out.2.2
    exact ⟨⟨i + 1, bg, L3, by omega, by go_num, rfl, Hm3.out, Hb3.out, G.out.1, G.out.2.1, by omega, Hit2.out⟩, by simp [intOf]; omega⟩
   ·obtain rfl : i = n := by omega
    have Hfi := Lib.hid (show (a, L') = R by
     rw [Nat.sub_self] at hit
     have hit : (a, L') = itF (layF x) i a0 L0 := hit
     rw [hit, HR0.out])
    clear hm hb hw hit
    go_wp2_with fail
    go_ret
    rw [← Hfi.out]
    exact ⟨rfl, Hmr.out⟩
end Go.Proofs.YthhnmpkgleelfaaGreatDoor
