/- Texts of the rings, together. -/
import Derived.Test.YtflioeiklcnncaaGreatDoorRc
import Derived.Laws.EntriesVeiled
import Derived.Deep.RegionHeld3
import Derived.Test.YtflioeiklcnncaaGreatDoorWLast
set_option linter.unusedVariables false
set_option linter.unusedSimpArgs false
namespace Go.Proofs.YtflioeiklcnncaaGreatDoor.Ri
open Go.RowKit Go.Maps Go.Sort Go.Proofs.YtflioeiklcnncaaGreatDoorW.PrintLast Go.Proofs.YtflioeiklcnncaaGreatDoorW.PrintWords Go.Proofs.YtflioeiklcnncaaGreatDoor.PRing

structure Good (s : St) : Prop extends SmlG s where
  sp : Srt s.P
  sg : Srt s.G
  dj : ∀ x, ahas s.P x = true → ahas s.G x = false
def RefPost (W : World) (ok : Nat → Prop) (q : Nat) (x : Int × St) (e : Ending) (w' : World) : Prop :=
  e = .returned (.int .i64 x.1) ∧ RefAt w' ok q x.2 ∧ Turn (· = q) W w'
theorem idx_some {V : Type} {l : List (B × V)} {nm : B} (h : ahas l nm = true) : ∃ i, idx l nm = (i : Nat) ∧ ∃ hi : i < l.length, l[i].1 = nm := by
  unfold idx
  cases e : l.findIdx? (fun p => p.1 == nm) with
  | none =>
    rw [List.findIdx?_eq_none_iff] at e
    obtain ⟨p, hp, hk⟩ := ahas_iff.1 h
    have := e p hp
    simp [hk] at this
  | some i =>
    obtain ⟨hi, hp, _⟩ := List.findIdx?_eq_some_iff_getElem.1 e
    exact ⟨i, rfl, hi, by simpa using hp⟩
theorem adel_erase {V : Type} {l : List (B × V)} (h : Srt l) {i : Nat} (hi : i < l.length) : adel l l[i].1 = l.take i ++ l.drop (i + 1) := by
  unfold adel
  have hp : ∀ j (hj : j < l.length), j ≠ i → l[j].1 ≠ l[i].1 := fun j hj hne e => by
    unfold Srt at h
    rw [List.pairwise_iff_getElem] at h
    rcases Nat.lt_or_ge j i with h1 | h1
    · exact bb_ne (h j i hj hi h1) e
    · exact bb_ne (h i j hi hj (by omega)) e.symm
  have e1 : l = l.take i ++ l[i] :: l.drop (i + 1) := by
    rw [← List.drop_eq_getElem_cons hi, List.take_append_drop]
  have f1 : (l.take i).filter (fun p => !(p.1 == l[i].1)) = l.take i := by
    rw [List.filter_eq_self]
    intro p hp'
    obtain ⟨j, hj, rfl⟩ := List.mem_iff_getElem.1 hp'
    rw [List.getElem_take]
    have hj' : j < i := by simp at hj; omega
    simpa using hp j (by omega) (by omega)
  have f2 : (l.drop (i + 1)).filter (fun p => !(p.1 == l[i].1)) = l.drop (i + 1) := by
    rw [List.filter_eq_self]
    intro p hp'
    obtain ⟨j, hj, rfl⟩ := List.mem_iff_getElem.1 hp'
    rw [List.getElem_drop]
    have hj' : i + 1 + j < l.length := by simp at hj; omega
    simpa using hp (i + 1 + j) hj' (by omega)
  generalize hk : l[i].1 = key at f1 f2 ⊢
  have hx : (l[i]).1 = key := hk
  generalize l[i] = x at e1 hx
  conv => lhs; rw [e1]
  rw [List.filter_append, List.filter_cons, f1, f2, hx]
  simp
theorem frozen_alloc {w : World} {a : Addr} {v : Value} (o : Obj) (h : w.cell? a = some v) : (w.alloc o).frozen? a = w.frozen? a := by
  have h1 := World.block_lt_of_cell? w a h
  have e : (w.alloc o).heap[a.block]? = w.heap[a.block]? := by
    rw [show (w.alloc o).heap = w.heap.push o from rfl, Array.getElem?_push, if_neg (by omega)]
  simp [World.frozen?, e]
theorem slice_from (T e : TypeId) (hT : Tryz.prog.underlying T = some (.slice e)) {sz : Nat} (hs : ∀ w, (sizeOf e).run Tryz.prog w = .ok sz w) (A : Option Addr) (n c i : Nat) (hi : i ≤ n) (w : World) (x : Int) (hx : x = (i : Int)) :
    (Instr.slice T (.slice A n c) (some (.int .i64 x)) none none).run Tryz.prog w = .ok (.slice (if c = i then A else A.map (·.add (i * sz))) (n - i) (c - i)) w := by
  subst hx
  have h1 : (0 : Int) ≤ (i : Int) ∧ (i : Int) ≤ (n : Int) := by omega
  go_simp
theorem sz50 (w : World) : (sizeOf 50).run Tryz.prog w = .ok 2 w := by kernel_rfl
theorem sz46 (w : World) : (sizeOf 46).run Tryz.prog w = .ok 2 w := by kernel_rfl
theorem keep_q {w w1 : World} {row : Option Nat} {q : Nat} {j : Nat} {v : Value} (hg : w.grownBy w1 row) (h : w.cell? ⟨q, j, none⟩ = some v ∧ w.frozen? ⟨q, j, none⟩ = false) (hne : row ≠ some q) : w1.cell? ⟨q, j, none⟩ = some v ∧ w1.frozen? ⟨q, j, none⟩ = false := by
  have h1 := hg.block q (World.block_lt_of_cell? w _ h.1) (fun e => hne e.symm)
  exact ⟨(World.cell?_of_block (a := ⟨q, j, none⟩) h1).trans h.1, (World.frozen?_of_block (a := ⟨q, j, none⟩) h1).trans h.2⟩
/-- A cell that is told at each world by a function of the world: what it holds is known where it was not written. -/
theorem held_cell {W : World} {q j : Nat} {v : Value} (h : W.cell? ⟨q, j, none⟩ = some v) (hf : W.frozen? ⟨q, j, none⟩ = false) : ∃ fq : World → Value, (∀ n, fq (W.drewN n) = v) ∧
    (∀ n, (W.drewN n).drew.cell? ⟨q, j, none⟩ = some (fq (W.drewN n).drew) ∧ (W.drewN n).drew.frozen? ⟨q, j, none⟩ = false) ∧
    (∀ (w : World) (o : Obj), (w.cell? ⟨q, j, none⟩ = some (fq w) ∧ w.frozen? ⟨q, j, none⟩ = false) → ((w.alloc o).cell? ⟨q, j, none⟩ = some (fq (w.alloc o)) ∧ (w.alloc o).frozen? ⟨q, j, none⟩ = false)) ∧
    (∀ (w : World) (u : Value), (w.cell? ⟨q, j, none⟩ = some (fq w) ∧ w.frozen? ⟨q, j, none⟩ = false) → ((w.setCell ⟨q, j, none⟩ u).cell? ⟨q, j, none⟩ = some (fq (w.setCell ⟨q, j, none⟩ u)) ∧ (w.setCell ⟨q, j, none⟩ u).frozen? ⟨q, j, none⟩ = false)) ∧
    (∀ {w w1 : World} {row : Option Nat}, w.grownBy w1 row → row ≠ some q → (w.cell? ⟨q, j, none⟩ = some (fq w) ∧ w.frozen? ⟨q, j, none⟩ = false) → (w1.cell? ⟨q, j, none⟩ = some (fq w1) ∧ w1.frozen? ⟨q, j, none⟩ = false)) := by
  have key : ∀ (w : World) (u : Value), w.cell? ⟨q, j, none⟩ = some u → w.cell? ⟨q, j, none⟩ = some ((w.cell? ⟨q, j, none⟩).getD v) := fun w u h => by rw [h]; rfl
  refine ⟨fun w => (w.cell? ⟨q, j, none⟩).getD v, fun n => by simp [h], fun n => ⟨key _ v h, hf⟩, fun w o hw => ?_, fun w u hw => ?_, fun hg hne hw => ?_⟩
  · have e := frozen_alloc o hw.1
    have e2 : (w.alloc o).cell? ⟨q, j, none⟩ = w.cell? ⟨q, j, none⟩ := by
      have h1 := World.block_lt_of_cell? w _ hw.1
      exact World.cell?_of_block (a := ⟨q, j, none⟩) (by rw [show (w.alloc o).heap = w.heap.push o from rfl, Array.getElem?_push, if_neg (by simpa using Nat.ne_of_lt h1)])
    exact ⟨key _ _ (e2.trans hw.1), e.trans hw.2⟩
  · refine ⟨key _ u (World.cell?_setCell_same' w _ u (by rw [hw.1]; rfl)), ?_⟩
    rw [World.frozen?_setCell]
    exact hw.2
  · have h1 := keep_q hg hw hne
    exact ⟨key _ _ h1.1, h1.2⟩
theorem n_slice {α : Type} {d : Kd α} {e base : Nat} {w : World} {ok : Nat → Prop} {v : Value} {xs : List α} (h : Kd.N d e w base ok v xs) : ∃ A c m, v = .slice A m c := by
  obtain ⟨A, c, h1⟩ := Kd.N_slice h
  exact ⟨A, c, _, h1⟩
theorem set_blk0 {w : World} {b t : Nat} {v v' : Value} (h : w.heap[b]? = some (.cells #[v, v'] t (0, 0))) (u : Value) : (w.setCell ⟨b, 0, none⟩ u).heap[b]? = some (.cells #[u, v'] t (0, 0)) := by
  simp only [World.setCell, Array.getElem?_modify]
  simp [h]
theorem set_blk1 {w : World} {b t : Nat} {v v' : Value} (h : w.heap[b]? = some (.cells #[v, v'] t (0, 0))) (u : Value) : (w.setCell ⟨b, 1, none⟩ u).heap[b]? = some (.cells #[v, u] t (0, 0)) := by
  simp only [World.setCell, Array.getElem?_modify]
  simp [h]
theorem cell_al {w : World} {a : Addr} {v : Value} (o : Obj) (h : w.cell? a = some v) : (w.alloc o).cell? a = some v := by
  have h1 := World.block_lt_of_cell? w a h
  exact (World.cell?_of_block (by rw [show (w.alloc o).heap = w.heap.push o from rfl, Array.getElem?_push, if_neg (by omega)])).trans h
theorem cell_gr {w w1 : World} {row : Option Nat} {q j : Nat} {v : Value} (hg : w.grownBy w1 row) (hne : row ≠ some q) (h : w.cell? ⟨q, j, none⟩ = some v) : w1.cell? ⟨q, j, none⟩ = some v :=
  (World.cell?_of_block (a := ⟨q, j, none⟩) (hg.block q (World.block_lt_of_cell? w _ h) (fun e => hne e.symm))).trans h
theorem keep_heap {w w1 : World} {q j : Nat} {v : Value} (hq : w1.heap[q]? = w.heap[q]?) (h : w.cell? ⟨q, j, none⟩ = some v) : w1.cell? ⟨q, j, none⟩ = some v := (World.cell?_of_block (a := ⟨q, j, none⟩) hq).trans h
theorem keep_heap_fz {w w1 : World} {q j : Nat} (hq : w1.heap[q]? = w.heap[q]?) (h : w.frozen? ⟨q, j, none⟩ = false) : w1.frozen? ⟨q, j, none⟩ = false := (World.frozen?_of_block (a := ⟨q, j, none⟩) hq).trans h
theorem k46_empty {w : World} {g base : Nat} {ok : Nat → Prop} (h : w.heap[g]? = some (.cells #[] 46 (0, 0))) (hb : base ≤ g) (hg : ok g) : Kd.N k46 46 w base ok (.slice (some ⟨g, 0, none⟩) 0 0) [] :=
  Kd.R_N ⟨fun k hk => by simp only [Value.ownBlock, Option.some.injEq] at hk; rw [← hk]; exact hg, [], ⟨rfl, .inr ⟨g, 0, #[], rfl, hb, h, Nat.le_refl _, Nat.zero_le _, rfl, rfl⟩⟩, ⟨rfl, fun j p hj => by simp at hj⟩⟩
theorem f_take {α β : Type} {d : Kd β} {f : α → β} {W : World} {ok : Nat → Prop} {A : Option Addr} {l : List α} (h : Kd.F d W ok A (l.map f).length (l.map f)) {i : Nat} (hi : i ≤ l.length) : Kd.F d W (fun k => ok k ∧ k < W.heap.size) A i ((l.take i).map f) := by
  have := Kd.F_bound (Kd.F_take (m := i) h (by simpa using hi))
  rw [← List.map_take, List.length_map, List.length_take, Nat.min_eq_left hi] at this
  exact this
theorem f_drop {α β : Type} {d : Kd β} {f : α → β} {W : World} {ok : Nat → Prop} {A : Option Addr} {l : List α} {c : Nat} (h : Kd.F d W ok A (l.map f).length (l.map f)) {i : Nat} (hi : i ≤ l.length) (hc : l.length ≤ c) : Kd.F d W (fun k => ok k ∧ k < W.heap.size) (if c = i then A else A.map (·.add (i * d.sz))) (l.length - i) ((l.drop i).map f) := by
  have := Kd.F_bound (Kd.F_cut (m := i) (c := c) h (by simpa using hi) (by simpa using hc))
  rw [← List.map_drop, List.length_map, List.length_drop] at this
  exact this
theorem k50_empty {w : World} {g base : Nat} {ok : Nat → Prop} (h : w.heap[g]? = some (.cells #[] 50 (0, 0))) (hb : base ≤ g) (hg : ok g) : Kd.N k50 50 w base ok (.slice (some ⟨g, 0, none⟩) 0 0) [] :=
  Kd.R_N ⟨fun k hk => by simp only [Value.ownBlock, Option.some.injEq] at hk; rw [← hk]; exact hg, [], ⟨rfl, .inr ⟨g, 0, #[], rfl, hb, h, Nat.le_refl _, Nat.zero_le _, rfl, rfl⟩⟩, ⟨rfl, fun j p hj => by simp at hj⟩⟩
set_option maxRecDepth 100000 in
set_option maxHeartbeats 4000000 in
theorem Drop28 {W : World} {ok : Nat → Prop} {q : Nat} {s : St} (h : RefAt W ok q s) (hS : Good s) (hfresh : ∀ k, W.heap.size ≤ k → ok k) (nm : B) :
    Calls Tryz.prog 28 #[.pointer (some ⟨q, 0, none⟩), .string (mkS nm)] W (RefPost W ok q (drop1 s nm)) := by
  have hth := there34 h hS.p hS.g nm
  have h36 := person36 h hS.p nm
  have h35 := group35 h hS.g nm
  by_cases h1 : there s nm = false
  · have hx : drop1 s nm = (4, s) := by unfold drop1; rw [if_pos h1]
    rw [h1] at hth
    have HX := Aside0.mk hx
    have HTH := Aside0.mk hth
    have HR := Aside0.mk h
    clear hx h1 hth h h36 h35
    go_enter Tryz.func28, Tryz.ntmps28
    go_wp2_with fail
    refine HTH.out.mono ?_
    rintro e w' ⟨rfl, rfl⟩
    go_wp2_with fail
    go_ret
    exact ⟨by rw [HX.out]; rfl, by rw [HX.out]; exact HR.out, Turn.refl _ _⟩
  have h1' : there s nm = true := by simpa using h1
  rw [h1'] at hth
  obtain ⟨vp, vg, hb, ⟨A, c, rfl, hl, hf⟩, ⟨A2, c2, rfl, hl2, hf2⟩⟩ := h.blk
  obtain ⟨c0, c1, f0, f1⟩ := two_cells hb
  rw [List.length_map] at c0 hl
  rw [List.length_map] at c1 hl2
  have HTH := Aside0.mk hth
  have HR := Aside0.mk h
  have HF2 := Aside0.mk hf2
  have HF := Aside0.mk hf
  have H1 := Aside0.mk h1'
  have H36 := Aside0.mk h36
  have H35 := Aside0.mk h35
  have HS := Aside0.mk hS
  have hg1 : s.G.length ≤ 1000 := hS.g
  have hp1 : s.P.length ≤ 1000 := hS.p
  have HFR := Aside0.mk hfresh
  have HBK := Aside0.mk hb
  clear hth h hf hf2 h1 h1' h36 h35 hS hfresh hb
  go_enter Tryz.func28, Tryz.ntmps28
  go_wp2_with fail
  refine HTH.out.mono ?_
  rintro e w' ⟨rfl, hw⟩
  obtain rfl := hw.symm
  go_wp2_with fail
  go_loopw [5] (fun i wr => ∃ k n : Nat, k ≤ s.G.length ∧ i = .int .i64 k ∧ (∀ p ∈ s.G.take k, nm ∉ p.2) ∧ wr = W.drewN n) (fun i _ => s.G.length - (intOf i).toNat)
  case atStart => exact ⟨0, 0, Nat.zero_le _, rfl, by simp, rfl⟩
  case round =>
    obtain ⟨k, n, hk, rfl, hno, rfl⟩ := hrel
    have HNO := Aside0.mk hno
    clear hno
    by_cases hlt : k < s.G.length
    · obtain ⟨ad, A1, c1', rfl, hc0, hc1, hv⟩ := grp_at HF2.out hlt
      have hin := in19 (W := W.drewN n) (Kd.V_below hv (pw_below_drewN (Below.refl _ _) n)) (mkS nm)
      rw [bz_mkS] at hin
      have HIN := Aside0.mk hin
      clear hv hin
      by_cases he : nm ∈ s.G[k].2
      · have hx : drop1 s nm = (1, s) := by
          unfold drop1
          rw [if_neg (by rw [H1.out]; simp), if_pos (List.any_eq_true.2 ⟨_, List.getElem_mem hlt, decide_eq_true he⟩)]
        have HX := Aside0.mk hx
        have hdt : decide (nm ∈ s.G[k].2) = true := decide_eq_true he
        clear hx he
        as_aux_lemma =>
        go_wp2_with fail
        refine HIN.out.mono ?_
        rintro e w2 ⟨rfl, ⟨n2, rfl⟩⟩
        go_wp2_with fail
        go_ret
        refine ⟨by rw [HX.out]; rfl, ?_, ?_⟩
        · rw [HX.out]; exact HR.out.below (pw_below_drewN (Below.refl _ _) (n + n2))
        · exact .of_below (pw_below_drewN (Below.refl _ _) (n + n2))
      · have HE := Aside0.mk he
        have hdt : decide (nm ∈ s.G[k].2) = false := decide_eq_false he
        clear he
        as_aux_lemma =>
        go_wp2_with fail
        refine HIN.out.mono ?_
        rintro e w2 ⟨rfl, ⟨n2, rfl⟩⟩
        go_wp2_with fail
        refine ⟨⟨k + 1, n + n2, by omega, by go_num, fun p hp => ?_, by simp⟩, by simp [intOf]; omega⟩
        rw [List.take_succ_eq_append_getElem hlt] at hp
        rcases List.mem_append.1 hp with hp | hp
        · exact HNO.out p hp
        · rw [List.mem_singleton.1 hp]; exact HE.out
    · obtain rfl : k = s.G.length := by omega
      have hno := HNO.out
      rw [List.take_length] at hno
      have hx : drop1 s nm = (0, ⟨adel s.P nm, adel s.G nm⟩) := by
        unfold drop1
        rw [if_neg (by rw [H1.out]; simp), if_neg (fun e => by
          obtain ⟨p, hp, hd⟩ := List.any_eq_true.1 e
          exact hno p hp (of_decide_eq_true hd))]
      have HX := Aside0.mk hx
      have hR := HR.out.below (pw_below_drewN (Below.refl _ _) n)
      have h36 := person36 hR HS.out.p nm
      have h35 := group35 hR HS.out.g nm
      have HRN := Aside0.mk hR
      have H36' := Aside0.mk h36
      have H35' := Aside0.mk h35
      clear hno hx hR h36 h35 H36 H35 HNO HTH
      by_cases hp : ahas s.P nm = true
      · obtain ⟨i, hi, hil, hik⟩ := idx_some hp
        rw [hi] at H36'
        have hadP : adel s.P nm = s.P.take i ++ s.P.drop (i + 1) := by rw [← hik]; exact adel_erase HS.out.sp hil
        have hadG : adel s.G nm = s.G := adel_none (HS.out.dj nm hp)
        have HADP := Aside0.mk hadP
        have HADG := Aside0.mk hadG
        clear hp hi hik hadP hadG H35'
        as_aux_lemma =>
        go_wp2_with fail
        refine H36'.out.mono ?_
        rintro e w' ⟨rfl, hw⟩
        obtain rfl := hw.symm
        go_wp2_with fail
        obtain ⟨ad, rfl, _⟩ := (Kd.F_now HF.out).2.2 (by simp; omega)
        have hic : 0 ≤ (i : Int) ∧ (i : Int) ≤ (c : Int) := by omega
        have hic1 : 0 ≤ (i : Int) + 1 ∧ (i : Int) + 1 ≤ (s.P.length : Int) := by omega
        have hwr1 : IntKind.i64.wrap ((i : Int) + 1) = (i : Int) + 1 := by rw [IntKind.wrap_i64]; omega
        have htn : ((i : Int) + 1).toNat = i + 1 := by omega
        have hql : q < W.heap.size := (Array.getElem?_eq_some_iff.1 HBK.out).1
        have HFT := Aside0.mk (f_take (i := i) HF.out (by omega))
        have HFD := Aside0.mk (f_drop (i := i + 1) (c := c) HF.out (by omega) (by omega))
        obtain ⟨w0, hw0⟩ : ∃ w0, w0 = W.drewN n := ⟨_, rfl⟩
        have hb0 : Below W.heap.size W w0 := by rw [hw0]; exact pw_below_drewN (Below.refl _ _) n
        have hs0 : w0.heap.size = W.heap.size := by rw [hw0]; rfl
        have c0w : w0.drew.cell? ⟨q, 0, none⟩ = some (.slice (some ad) s.P.length c) := by rw [hw0]; exact c0
        rw [← hw0]
        have HS0 := Aside0.mk hs0
        have HB0 := Aside0.mk hb0
        have HW0 := Aside0.mk hw0
        clear hs0 hb0 hw0
        refine start_ (n := 20) (S := fun w' => w'.cell? ⟨q, 0, none⟩ = some (.slice (some ad) s.P.length c)) (ds := [19]) #[false, false, false, false, false, false, false, false, false, false, false, false, false, false, false, false, false, false, false, false] (by kernel_rfl) rfl rfl (c0w) (fun hHeld => ?_)
        refine pure_ (i := 0) (N := some 35) (v := ?_) (a' := ?_) #[true, false, false, false, false, false, false, false, false, false, false, false, false, false, false, false, false, false, false, false] rfl rfl (by kernel_rfl) (fun _ _ _ h => h) (Or.inl ⟨by rfl, ?_⟩) ?_ ?_
        rotate_left
        · intro w'
          go_simp
          with_reducible rfl
        rotate_left
        · simp only [Act.put, List.setIfInBounds_toArray, List.set_cons_zero, List.set_cons_succ, i64_w, i32_w]
          rfl
        refine pure_ (i := 2) (N := some 37) (v := ?_) (a' := ?_) #[true, false, true, false, false, false, false, false, false, false, false, false, false, false, false, false, false, false, false, false] rfl rfl (by kernel_rfl) (fun _ _ _ h => h) (Or.inl ⟨by rfl, ?_⟩) ?_ ?_
        rotate_left
        · intro w'
          go_simp
          with_reducible rfl
        rotate_left
        · simp only [Act.put, List.setIfInBounds_toArray, List.set_cons_zero, List.set_cons_succ, i64_w, i32_w]
          rfl
        refine pure_ (i := 3) (N := some 38) (v := ?_) (a' := ?_) #[true, false, true, true, false, false, false, false, false, false, false, false, false, false, false, false, false, false, false, false] rfl rfl (by kernel_rfl) (fun _ _ _ h => h) (Or.inl ⟨by rfl, ?_⟩) ?_ ?_
        rotate_left
        · intro w'
          go_simp
          with_reducible rfl
        rotate_left
        · simp only [Act.put, List.setIfInBounds_toArray, List.set_cons_zero, List.set_cons_succ, i64_w, i32_w]
          rfl
        refine pure_ (i := 4) (N := some 39) (v := ?_) (a' := ?_) #[true, false, true, true, true, false, false, false, false, false, false, false, false, false, false, false, false, false, false, false] rfl rfl (by kernel_rfl) (fun _ _ _ h => h) (Or.inl ⟨by rfl, ?_⟩) ?_ ?_
        rotate_left
        · intro w'
          go_simp
          with_reducible rfl
        rotate_left
        · simp only [Act.put, List.setIfInBounds_toArray, List.set_cons_zero, List.set_cons_succ, i64_w, i32_w]
          rfl
        refine pure_ (i := 6) (N := some 41) (v := ?_) (a' := ?_) #[true, false, true, true, true, false, true, false, false, false, false, false, false, false, false, false, false, false, false, false] rfl rfl (by kernel_rfl) (fun _ _ _ h => h) (Or.inl ⟨by rfl, ?_⟩) ?_ ?_
        rotate_left
        · intro w'
          go_simp
          with_reducible rfl
        rotate_left
        · simp only [Act.put, List.setIfInBounds_toArray, List.set_cons_zero, List.set_cons_succ, i64_w, i32_w]
          rfl
        refine pure_ (i := 9) (N := some 44) (v := ?_) (a' := ?_) #[true, false, true, true, true, false, true, false, false, true, false, false, false, false, false, false, false, false, false, false] rfl rfl (by kernel_rfl) (fun _ _ _ h => h) (Or.inl ⟨by rfl, ?_⟩) ?_ ?_
        rotate_left
        · intro w'
          go_simp
          with_reducible rfl
        rotate_left
        · simp only [Act.put, List.setIfInBounds_toArray, List.set_cons_zero, List.set_cons_succ, i64_w, i32_w]
          rfl
        refine pure_ (i := 10) (N := some 45) (v := ?_) (a' := ?_) #[true, false, true, true, true, false, true, false, false, true, true, false, false, false, false, false, false, false, false, false] rfl rfl (by kernel_rfl) (fun _ _ _ h => h) (Or.inl ⟨by rfl, ?_⟩) ?_ ?_
        rotate_left
        · intro w'
          go_simp
          with_reducible rfl
        rotate_left
        · simp only [Act.put, List.setIfInBounds_toArray, List.set_cons_zero, List.set_cons_succ, i64_w, i32_w]
          rfl
        refine pure_ (i := 11) (N := some 46) (v := ?_) (a' := ?_) #[true, false, true, true, true, false, true, false, false, true, true, true, false, false, false, false, false, false, false, false] rfl rfl (by kernel_rfl) (fun _ _ _ h => h) (Or.inl ⟨by rfl, ?_⟩) ?_ ?_
        rotate_left
        · intro w'
          go_simp
          with_reducible rfl
        rotate_left
        · simp only [Act.put, List.setIfInBounds_toArray, List.set_cons_zero, List.set_cons_succ, i64_w, i32_w]
          rfl
        refine pure_ (i := 13) (N := some 48) (v := ?_) (a' := ?_) #[true, false, true, true, true, false, true, false, false, true, true, true, false, true, false, false, false, false, false, false] rfl rfl (by kernel_rfl) (fun _ _ _ h => h) (Or.inl ⟨by rfl, ?_⟩) ?_ ?_
        rotate_left
        · intro w'
          go_simp
          with_reducible rfl
        rotate_left
        · simp only [Act.put, List.setIfInBounds_toArray, List.set_cons_zero, List.set_cons_succ, i64_w, i32_w]
          rfl
        refine pure_ (i := 14) (N := some 49) (v := ?_) (a' := ?_) #[true, false, true, true, true, false, true, false, false, true, true, true, false, true, true, false, false, false, false, false] rfl rfl (by kernel_rfl) (fun _ _ _ h => h) (Or.inl ⟨by rfl, ?_⟩) ?_ ?_
        rotate_left
        · intro w'
          go_simp
          with_reducible rfl
        rotate_left
        · simp only [Act.put, List.setIfInBounds_toArray, List.set_cons_zero, List.set_cons_succ, i64_w, i32_w]
          rfl
        refine take_ (i := 5) (N := some 40) (v := ?_) (a' := ?_) #[true, false, true, true, true, true, true, false, false, true, true, true, false, true, true, false, false, false, false, false] rfl rfl (by kernel_rfl) (fun _ _ _ h => h) (Or.inl ⟨by rfl, ?_⟩) hHeld ?_ ?_
        rotate_left
        · intro w' s0
          go_simp
          with_reducible rfl
        rotate_left
        · simp only [Act.put, List.setIfInBounds_toArray, List.set_cons_zero, List.set_cons_succ, i64_w, i32_w]
          rfl
        refine pure_ (i := 7) (N := some 42) (v := ?_) (a' := ?_) #[true, false, true, true, true, true, true, true, false, true, true, true, false, true, true, false, false, false, false, false] rfl rfl (by kernel_rfl) (fun _ _ _ h => h) (Or.inl ⟨by rfl, ?_⟩) ?_ ?_
        rotate_left
        · intro w'
          go_simp
          with_reducible rfl
        rotate_left
        · simp only [Act.put, List.setIfInBounds_toArray, List.set_cons_zero, List.set_cons_succ, i64_w, i32_w]
          rfl
        refine take_ (i := 12) (N := some 47) (v := ?_) (a' := ?_) #[true, false, true, true, true, true, true, true, false, true, true, true, true, true, true, false, false, false, false, false] rfl rfl (by kernel_rfl) (fun _ _ _ h => h) (Or.inl ⟨by rfl, ?_⟩) hHeld ?_ ?_
        rotate_left
        · intro w' s0
          go_simp
          with_reducible rfl
        rotate_left
        · simp only [Act.put, List.setIfInBounds_toArray, List.set_cons_zero, List.set_cons_succ, i64_w, i32_w]
          rfl
        refine pure_ (i := 15) (N := some 50) (v := ?_) (a' := ?_) #[true, false, true, true, true, true, true, true, false, true, true, true, true, true, true, true, false, false, false, false] rfl rfl (by kernel_rfl) (fun _ _ _ h => h) (Or.inl ⟨by rfl, ?_⟩) ?_ ?_
        rotate_left
        · intro w'
          go_simp
          with_reducible rfl
        rotate_left
        · simp only [Act.put, List.setIfInBounds_toArray, List.set_cons_zero, List.set_cons_succ, i64_w, i32_w]
          rfl
        refine one_ (i := 1) (N := some 36) #[true, true, true, true, true, true, true, true, false, true, true, true, true, true, true, true, false, false, false, false] rfl rfl (by kernel_rfl) (by decide) (fun K hK => ?_)
        refine value_ (w1 := ?_) (v := ?_) (by rfl) rfl ?_ ?_
        rotate_left 2
        · go_simp
          constructor
          · rfl
          · rfl
        obtain ⟨wa, hwa⟩ : ∃ wa, wa = (w0.alloc (.cells #[] 50)).drew := ⟨_, rfl⟩
        have hsa : wa.heap.size = w0.heap.size + 1 := by rw [hwa]; exact al_size _ rfl
        have hga : wa.heap[w0.heap.size]? = some (.cells #[] 50 (0, 0)) := by rw [hwa]; exact al_new (w := w0) _ rfl
        have hba : Below w0.heap.size w0 wa := by rw [hwa]; exact below_drew (al_below _ (Below.refl _ _))
        have hca : wa.cell? ⟨q, 0, none⟩ = some (.slice (some ad) s.P.length c) := by rw [hwa]; exact cell_al _ hHeld
        rw [← hwa]
        clear hwa
        refine hK.out _ _ (hca) (fun hHeld => ?_)
        clear hK K
        refine norm_ (a' := ?_) ?_ ?_
        rotate_left
        · show Act.put _ (some 36) _ = _
          simp only [Act.put, List.setIfInBounds_toArray, List.set_cons_zero, List.set_cons_succ, i64_w, i32_w]
          rfl
        refine one_ (i := 8) (N := some 43) #[true, true, true, true, true, true, true, true, true, true, true, true, true, true, true, true, false, false, false, false] rfl rfl (by kernel_rfl) (by decide) (fun K hK => ?_)
        refine Kd.N_append_rows_step k50 (w0 := w0) w0.heap.size (by rfl) (.tmp 36) (.tmp 42) 30 50 _ 40 (by rfl) Tryz.underlying30 info50 (by rfl) (by decide) (by decide) (.slice (some ⟨w0.heap.size, 0, none⟩) 0 0) [] ((s.P.take i).map person) (some ad) i c ok (fun k => ok k ∧ k < W.heap.size) (by rfl) (by rfl) (k50_empty hga (Nat.le_refl _) (HFR.out _ (Nat.le_of_eq HS0.out.symm))) (Kd.F_below HFT.out (HB0.out.trans (hba.mono (Nat.le_of_eq HS0.out.symm)))) (fun k hk => ⟨hk.1, fun e => by have h2 := hk.2; have e' : k = w0.heap.size := Option.some.inj e; have h3 := HS0.out; omega⟩) (fun k hk => HFR.out k (by have := HS0.out; omega)) hba (by omega) (by simp; omega) ?_
        intro v1 w1 hN1 hB1 hg1 hat1
        refine hK.out _ _ (cell_gr hg1 (fun e => by have e' : w0.heap.size = q := Option.some.inj e; have := HS0.out; omega) hHeld) (fun hHeld => ?_)
        clear hK K
        refine norm_ (a' := ?_) ?_ ?_
        rotate_left
        · show Act.put _ (some 43) _ = _
          simp only [Act.put, List.setIfInBounds_toArray, List.set_cons_zero, List.set_cons_succ, i64_w, i32_w]
          rfl
        refine one_ (i := 16) (N := some 51) #[true, true, true, true, true, true, true, true, true, true, true, true, true, true, true, true, true, false, false, false] rfl rfl (by kernel_rfl) (by decide) (fun K hK => ?_)
        refine Kd.N_append_rows_step k50 (w0 := w0) w0.heap.size (by rfl) (.tmp 43) (.tmp 50) 30 50 _ 40 (by rfl) Tryz.underlying30 info50 (by rfl) (by decide) (by decide) v1 _ ((s.P.drop (i + 1)).map person) _ (s.P.length - (i + 1)) _ ok (fun k => ok k ∧ k < W.heap.size) (by rfl) (by rfl) hN1 (Kd.F_below HFD.out (HB0.out.trans (hB1.mono (Nat.le_of_eq HS0.out.symm)))) (fun k hk => ⟨hk.1, fun e => by have := Kd.N_base hN1 k e.symm; have := hk.2; have := HS0.out; omega⟩) (fun k hk => HFR.out k (Nat.le_trans (Nat.le_trans (Nat.le_of_eq HS0.out.symm) hB1.size) hk)) hB1 hB1.size (by simp; omega) ?_
        intro v2 w2 hN2 hB2 hg2 hat2
        obtain ⟨A3, c3, m3, rfl⟩ := n_slice hN2
        have hq2 : w2.heap[q]? = W.heap[q]? := (hB2.block q (by have := HS0.out; omega)).trans (HB0.out.block q hql)
        have hc2 := keep_heap hq2 c0
        have hf2 := keep_heap_fz hq2 f0
        refine hK.out _ _ (cell_gr hg2 (fun e => by have := Kd.N_base hN1 q e; have := HS0.out; omega) hHeld) (fun hHeld => ?_)
        clear hK K
        refine norm_ (a' := ?_) ?_ ?_
        rotate_left
        · show Act.put _ (some 51) _ = _
          simp only [Act.put, List.setIfInBounds_toArray, List.set_cons_zero, List.set_cons_succ, i64_w, i32_w]
          rfl
        refine pure_ (i := 17) (N := some 52) (v := ?_) (a' := ?_) #[true, true, true, true, true, true, true, true, true, true, true, true, true, true, true, true, true, true, false, false] rfl rfl (by kernel_rfl) (fun _ _ _ h => h) (Or.inl ⟨by rfl, ?_⟩) ?_ ?_
        rotate_left
        · intro w'
          go_simp
          with_reducible rfl
        rotate_left
        · simp only [Act.put, List.setIfInBounds_toArray, List.set_cons_zero, List.set_cons_succ, i64_w, i32_w]
          rfl
        refine pure_ (i := 18) (N := some 53) (v := ?_) (a' := ?_) #[true, true, true, true, true, true, true, true, true, true, true, true, true, true, true, true, true, true, true, false] rfl rfl (by kernel_rfl) (fun _ _ _ h => h) (Or.inl ⟨by rfl, ?_⟩) ?_ ?_
        rotate_left
        · intro w'
          go_simp
          with_reducible rfl
        rotate_left
        · simp only [Act.put, List.setIfInBounds_toArray, List.set_cons_zero, List.set_cons_succ, i64_w, i32_w]
          rfl
        refine last_ (i := 19) (N := none) #[true, true, true, true, true, true, true, true, true, true, true, true, true, true, true, true, true, true, true, true] rfl rfl (by kernel_rfl) (by decide) (fun K hK => ?_)
        refine skip_ (w1 := ?_) (by rfl) rfl ?_ ?_
        rotate_left
        · go_simp
          rfl
        refine hK.out _ _ ?_
        clear hK K
        refine done_ (by kernel_rfl) ?_
        have hq0 : W.heap[q]? = some (.cells #[.slice (some ad) s.P.length c, .slice A2 s.G.length c2] 33 (0, 0)) := by
          have := HBK.out
          rwa [List.length_map, List.length_map] at this
        have hq3 := set_blk0 (hq2.trans hq0) (.slice A3 m3 c3)
        have hT : Turn (fun k => k = q) W (w2.setCell ⟨q, 0, none⟩ (.slice A3 m3 c3)) :=
          (Turn.of_below (HB0.out.trans (hB2.mono (Nat.le_of_eq HS0.out.symm)))).trans (Turn.of_set w2 ⟨q, 0, none⟩ _)
        have hR2 := HR.out.blk
        have HQ3 := Aside0.mk hq3
        have HT := Aside0.mk hT
        have HN2 := Aside0.mk hN2
        clear hq3 hT hN2 hq2 hc2 hf2 hHeld hg2 hat2 hB2 hN1 hB1 hg1 hat1
        go_wp2_with fail
        all_goals go_ret
        all_goals
          refine ⟨by rw [HX.out]; rfl, ?_, ?_⟩
          · rw [HX.out, HADP.out, HADG.out]
            obtain ⟨A5, c5, e5, hl5, hf5⟩ := Kd.N_V (base' := 0) HN2.out
            rw [List.nil_append, ← List.map_append] at e5 hl5 hf5
            refine ⟨⟨_, _, HQ3.out, ⟨A5, c5, e5, hl5, ?_⟩, ?_⟩, HR.out.qok⟩
            · exact Kd.F_far hf5 (fun k hk e => HR.out.qok (by rw [← show k = q from e]; exact hk)) _
            · exact ⟨A2, c2, by rw [List.length_map], by rw [List.length_map]; exact hl2, Kd.F_step HF2.out (fun k hk hlt => HT.out.block k hlt (fun e => HR.out.qok (by rw [← e]; exact hk)))⟩
          · exact HT.out
      · have hp' : ahas s.P nm = false := by simpa using hp
        have hpi : idx s.P nm = -1 := idx_none (ahas_false.1 hp')
        rw [hpi] at H36'
        have hg : ahas s.G nm = true := by
          have := H1.out
          unfold there at this
          rw [hp'] at this
          simpa using this
        obtain ⟨i, hi, hil, hik⟩ := idx_some hg
        rw [hi] at H35'
        have hadG : adel s.G nm = s.G.take i ++ s.G.drop (i + 1) := by rw [← hik]; exact adel_erase HS.out.sg hil
        have hadP : adel s.P nm = s.P := adel_none hp'
        have HADP := Aside0.mk hadP
        have HADG := Aside0.mk hadG
        clear hp hp' hpi hg hi hik hadP hadG
        as_aux_lemma =>
        go_wp2_with fail
        refine H36'.out.mono ?_
        rintro e w' ⟨rfl, hw⟩
        obtain rfl := hw.symm
        go_wp2_with fail
        refine H35'.out.mono ?_
        rintro e w' ⟨rfl, hw⟩
        obtain rfl := hw.symm
        go_wp2_with fail
        obtain ⟨ad, rfl, _⟩ := (Kd.F_now HF2.out).2.2 (by simp; omega)
        have hic : 0 ≤ (i : Int) ∧ (i : Int) ≤ (c2 : Int) := by omega
        have hic1 : 0 ≤ (i : Int) + 1 ∧ (i : Int) + 1 ≤ (s.G.length : Int) := by omega
        have hwr1 : IntKind.i64.wrap ((i : Int) + 1) = (i : Int) + 1 := by rw [IntKind.wrap_i64]; omega
        have htn : ((i : Int) + 1).toNat = i + 1 := by omega
        have hql : q < W.heap.size := (Array.getElem?_eq_some_iff.1 HBK.out).1
        have HFT := Aside0.mk (f_take (i := i) HF2.out (by omega))
        have HFD := Aside0.mk (f_drop (i := i + 1) (c := c2) HF2.out (by omega) (by omega))
        obtain ⟨w0, hw0⟩ : ∃ w0, w0 = W.drewN n := ⟨_, rfl⟩
        have hb0 : Below W.heap.size W w0 := by rw [hw0]; exact pw_below_drewN (Below.refl _ _) n
        have hs0 : w0.heap.size = W.heap.size := by rw [hw0]; rfl
        have c1w : w0.drew.cell? ⟨q, 1, none⟩ = some (.slice (some ad) s.G.length c2) := by rw [hw0]; exact c1
        rw [← hw0]
        have HS0 := Aside0.mk hs0
        have HB0 := Aside0.mk hb0
        have HW0 := Aside0.mk hw0
        clear hs0 hb0 hw0
        refine start_ (n := 20) (S := fun w' => w'.cell? ⟨q, 1, none⟩ = some (.slice (some ad) s.G.length c2)) (ds := [19]) #[false, false, false, false, false, false, false, false, false, false, false, false, false, false, false, false, false, false, false, false] (by kernel_rfl) rfl rfl (c1w) (fun hHeld => ?_)
        refine pure_ (i := 0) (N := some 57) (v := ?_) (a' := ?_) #[true, false, false, false, false, false, false, false, false, false, false, false, false, false, false, false, false, false, false, false] rfl rfl (by kernel_rfl) (fun _ _ _ h => h) (Or.inl ⟨by rfl, ?_⟩) ?_ ?_
        rotate_left
        · intro w'
          go_simp
          with_reducible rfl
        rotate_left
        · simp only [Act.put, List.setIfInBounds_toArray, List.set_cons_zero, List.set_cons_succ, i64_w, i32_w]
          rfl
        refine pure_ (i := 2) (N := some 59) (v := ?_) (a' := ?_) #[true, false, true, false, false, false, false, false, false, false, false, false, false, false, false, false, false, false, false, false] rfl rfl (by kernel_rfl) (fun _ _ _ h => h) (Or.inl ⟨by rfl, ?_⟩) ?_ ?_
        rotate_left
        · intro w'
          go_simp
          with_reducible rfl
        rotate_left
        · simp only [Act.put, List.setIfInBounds_toArray, List.set_cons_zero, List.set_cons_succ, i64_w, i32_w]
          rfl
        refine pure_ (i := 3) (N := some 60) (v := ?_) (a' := ?_) #[true, false, true, true, false, false, false, false, false, false, false, false, false, false, false, false, false, false, false, false] rfl rfl (by kernel_rfl) (fun _ _ _ h => h) (Or.inl ⟨by rfl, ?_⟩) ?_ ?_
        rotate_left
        · intro w'
          go_simp
          with_reducible rfl
        rotate_left
        · simp only [Act.put, List.setIfInBounds_toArray, List.set_cons_zero, List.set_cons_succ, i64_w, i32_w]
          rfl
        refine pure_ (i := 4) (N := some 61) (v := ?_) (a' := ?_) #[true, false, true, true, true, false, false, false, false, false, false, false, false, false, false, false, false, false, false, false] rfl rfl (by kernel_rfl) (fun _ _ _ h => h) (Or.inl ⟨by rfl, ?_⟩) ?_ ?_
        rotate_left
        · intro w'
          go_simp
          with_reducible rfl
        rotate_left
        · simp only [Act.put, List.setIfInBounds_toArray, List.set_cons_zero, List.set_cons_succ, i64_w, i32_w]
          rfl
        refine pure_ (i := 6) (N := some 63) (v := ?_) (a' := ?_) #[true, false, true, true, true, false, true, false, false, false, false, false, false, false, false, false, false, false, false, false] rfl rfl (by kernel_rfl) (fun _ _ _ h => h) (Or.inl ⟨by rfl, ?_⟩) ?_ ?_
        rotate_left
        · intro w'
          go_simp
          with_reducible rfl
        rotate_left
        · simp only [Act.put, List.setIfInBounds_toArray, List.set_cons_zero, List.set_cons_succ, i64_w, i32_w]
          rfl
        refine pure_ (i := 9) (N := some 66) (v := ?_) (a' := ?_) #[true, false, true, true, true, false, true, false, false, true, false, false, false, false, false, false, false, false, false, false] rfl rfl (by kernel_rfl) (fun _ _ _ h => h) (Or.inl ⟨by rfl, ?_⟩) ?_ ?_
        rotate_left
        · intro w'
          go_simp
          with_reducible rfl
        rotate_left
        · simp only [Act.put, List.setIfInBounds_toArray, List.set_cons_zero, List.set_cons_succ, i64_w, i32_w]
          rfl
        refine pure_ (i := 10) (N := some 67) (v := ?_) (a' := ?_) #[true, false, true, true, true, false, true, false, false, true, true, false, false, false, false, false, false, false, false, false] rfl rfl (by kernel_rfl) (fun _ _ _ h => h) (Or.inl ⟨by rfl, ?_⟩) ?_ ?_
        rotate_left
        · intro w'
          go_simp
          with_reducible rfl
        rotate_left
        · simp only [Act.put, List.setIfInBounds_toArray, List.set_cons_zero, List.set_cons_succ, i64_w, i32_w]
          rfl
        refine pure_ (i := 11) (N := some 68) (v := ?_) (a' := ?_) #[true, false, true, true, true, false, true, false, false, true, true, true, false, false, false, false, false, false, false, false] rfl rfl (by kernel_rfl) (fun _ _ _ h => h) (Or.inl ⟨by rfl, ?_⟩) ?_ ?_
        rotate_left
        · intro w'
          go_simp
          with_reducible rfl
        rotate_left
        · simp only [Act.put, List.setIfInBounds_toArray, List.set_cons_zero, List.set_cons_succ, i64_w, i32_w]
          rfl
        refine pure_ (i := 13) (N := some 70) (v := ?_) (a' := ?_) #[true, false, true, true, true, false, true, false, false, true, true, true, false, true, false, false, false, false, false, false] rfl rfl (by kernel_rfl) (fun _ _ _ h => h) (Or.inl ⟨by rfl, ?_⟩) ?_ ?_
        rotate_left
        · intro w'
          go_simp
          with_reducible rfl
        rotate_left
        · simp only [Act.put, List.setIfInBounds_toArray, List.set_cons_zero, List.set_cons_succ, i64_w, i32_w]
          rfl
        refine pure_ (i := 14) (N := some 71) (v := ?_) (a' := ?_) #[true, false, true, true, true, false, true, false, false, true, true, true, false, true, true, false, false, false, false, false] rfl rfl (by kernel_rfl) (fun _ _ _ h => h) (Or.inl ⟨by rfl, ?_⟩) ?_ ?_
        rotate_left
        · intro w'
          go_simp
          with_reducible rfl
        rotate_left
        · simp only [Act.put, List.setIfInBounds_toArray, List.set_cons_zero, List.set_cons_succ, i64_w, i32_w]
          rfl
        refine take_ (i := 5) (N := some 62) (v := ?_) (a' := ?_) #[true, false, true, true, true, true, true, false, false, true, true, true, false, true, true, false, false, false, false, false] rfl rfl (by kernel_rfl) (fun _ _ _ h => h) (Or.inl ⟨by rfl, ?_⟩) hHeld ?_ ?_
        rotate_left
        · intro w' s0
          go_simp
          with_reducible rfl
        rotate_left
        · simp only [Act.put, List.setIfInBounds_toArray, List.set_cons_zero, List.set_cons_succ, i64_w, i32_w]
          rfl
        refine pure_ (i := 7) (N := some 64) (v := ?_) (a' := ?_) #[true, false, true, true, true, true, true, true, false, true, true, true, false, true, true, false, false, false, false, false] rfl rfl (by kernel_rfl) (fun _ _ _ h => h) (Or.inl ⟨by rfl, ?_⟩) ?_ ?_
        rotate_left
        · intro w'
          go_simp
          with_reducible rfl
        rotate_left
        · simp only [Act.put, List.setIfInBounds_toArray, List.set_cons_zero, List.set_cons_succ, i64_w, i32_w]
          rfl
        refine take_ (i := 12) (N := some 69) (v := ?_) (a' := ?_) #[true, false, true, true, true, true, true, true, false, true, true, true, true, true, true, false, false, false, false, false] rfl rfl (by kernel_rfl) (fun _ _ _ h => h) (Or.inl ⟨by rfl, ?_⟩) hHeld ?_ ?_
        rotate_left
        · intro w' s0
          go_simp
          with_reducible rfl
        rotate_left
        · simp only [Act.put, List.setIfInBounds_toArray, List.set_cons_zero, List.set_cons_succ, i64_w, i32_w]
          rfl
        refine pure_ (i := 15) (N := some 72) (v := ?_) (a' := ?_) #[true, false, true, true, true, true, true, true, false, true, true, true, true, true, true, true, false, false, false, false] rfl rfl (by kernel_rfl) (fun _ _ _ h => h) (Or.inl ⟨by rfl, ?_⟩) ?_ ?_
        rotate_left
        · intro w'
          go_simp
          with_reducible rfl
        rotate_left
        · simp only [Act.put, List.setIfInBounds_toArray, List.set_cons_zero, List.set_cons_succ, i64_w, i32_w]
          rfl
        refine one_ (i := 1) (N := some 58) #[true, true, true, true, true, true, true, true, false, true, true, true, true, true, true, true, false, false, false, false] rfl rfl (by kernel_rfl) (by decide) (fun K hK => ?_)
        refine value_ (w1 := ?_) (v := ?_) (by rfl) rfl ?_ ?_
        rotate_left 2
        · go_simp
          constructor
          · rfl
          · rfl
        obtain ⟨wa, hwa⟩ : ∃ wa, wa = (w0.alloc (.cells #[] 46)).drew := ⟨_, rfl⟩
        have hsa : wa.heap.size = w0.heap.size + 1 := by rw [hwa]; exact al_size _ rfl
        have hga : wa.heap[w0.heap.size]? = some (.cells #[] 46 (0, 0)) := by rw [hwa]; exact al_new (w := w0) _ rfl
        have hba : Below w0.heap.size w0 wa := by rw [hwa]; exact below_drew (al_below _ (Below.refl _ _))
        have hca : wa.cell? ⟨q, 1, none⟩ = some (.slice (some ad) s.G.length c2) := by rw [hwa]; exact cell_al _ hHeld
        rw [← hwa]
        clear hwa
        refine hK.out _ _ (hca) (fun hHeld => ?_)
        clear hK K
        refine norm_ (a' := ?_) ?_ ?_
        rotate_left
        · show Act.put _ (some 58) _ = _
          simp only [Act.put, List.setIfInBounds_toArray, List.set_cons_zero, List.set_cons_succ, i64_w, i32_w]
          rfl
        refine one_ (i := 8) (N := some 65) #[true, true, true, true, true, true, true, true, true, true, true, true, true, true, true, true, false, false, false, false] rfl rfl (by kernel_rfl) (by decide) (fun K hK => ?_)
        refine Kd.N_append_rows_step k46 (w0 := w0) w0.heap.size (by rfl) (.tmp 58) (.tmp 64) 31 46 _ 40 (by rfl) Tryz.underlying31 info46 (by rfl) (by decide) (by decide) (.slice (some ⟨w0.heap.size, 0, none⟩) 0 0) [] ((s.G.take i).map group) (some ad) i c2 ok (fun k => ok k ∧ k < W.heap.size) (by rfl) (by rfl) (k46_empty hga (Nat.le_refl _) (HFR.out _ (Nat.le_of_eq HS0.out.symm))) (Kd.F_below HFT.out (HB0.out.trans (hba.mono (Nat.le_of_eq HS0.out.symm)))) (fun k hk => ⟨hk.1, fun e => by have h2 := hk.2; have e' : k = w0.heap.size := Option.some.inj e; have h3 := HS0.out; omega⟩) (fun k hk => HFR.out k (by have := HS0.out; omega)) hba (by omega) (by simp; omega) ?_
        intro v1 w1 hN1 hB1 hg1 hat1
        refine hK.out _ _ (cell_gr hg1 (fun e => by have e' : w0.heap.size = q := Option.some.inj e; have := HS0.out; omega) hHeld) (fun hHeld => ?_)
        clear hK K
        refine norm_ (a' := ?_) ?_ ?_
        rotate_left
        · show Act.put _ (some 65) _ = _
          simp only [Act.put, List.setIfInBounds_toArray, List.set_cons_zero, List.set_cons_succ, i64_w, i32_w]
          rfl
        refine one_ (i := 16) (N := some 73) #[true, true, true, true, true, true, true, true, true, true, true, true, true, true, true, true, true, false, false, false] rfl rfl (by kernel_rfl) (by decide) (fun K hK => ?_)
        refine Kd.N_append_rows_step k46 (w0 := w0) w0.heap.size (by rfl) (.tmp 65) (.tmp 72) 31 46 _ 40 (by rfl) Tryz.underlying31 info46 (by rfl) (by decide) (by decide) v1 _ ((s.G.drop (i + 1)).map group) _ (s.G.length - (i + 1)) _ ok (fun k => ok k ∧ k < W.heap.size) (by rfl) (by rfl) hN1 (Kd.F_below HFD.out (HB0.out.trans (hB1.mono (Nat.le_of_eq HS0.out.symm)))) (fun k hk => ⟨hk.1, fun e => by have := Kd.N_base hN1 k e.symm; have := hk.2; have := HS0.out; omega⟩) (fun k hk => HFR.out k (Nat.le_trans (Nat.le_trans (Nat.le_of_eq HS0.out.symm) hB1.size) hk)) hB1 hB1.size (by simp; omega) ?_
        intro v2 w2 hN2 hB2 hg2 hat2
        obtain ⟨A3, c3, m3, rfl⟩ := n_slice hN2
        have hq2 : w2.heap[q]? = W.heap[q]? := (hB2.block q (by have := HS0.out; omega)).trans (HB0.out.block q hql)
        have hc2 := keep_heap hq2 c1
        have hf2 := keep_heap_fz hq2 f1
        refine hK.out _ _ (cell_gr hg2 (fun e => by have := Kd.N_base hN1 q e; have := HS0.out; omega) hHeld) (fun hHeld => ?_)
        clear hK K
        refine norm_ (a' := ?_) ?_ ?_
        rotate_left
        · show Act.put _ (some 73) _ = _
          simp only [Act.put, List.setIfInBounds_toArray, List.set_cons_zero, List.set_cons_succ, i64_w, i32_w]
          rfl
        refine pure_ (i := 17) (N := some 74) (v := ?_) (a' := ?_) #[true, true, true, true, true, true, true, true, true, true, true, true, true, true, true, true, true, true, false, false] rfl rfl (by kernel_rfl) (fun _ _ _ h => h) (Or.inl ⟨by rfl, ?_⟩) ?_ ?_
        rotate_left
        · intro w'
          go_simp
          with_reducible rfl
        rotate_left
        · simp only [Act.put, List.setIfInBounds_toArray, List.set_cons_zero, List.set_cons_succ, i64_w, i32_w]
          rfl
        refine pure_ (i := 18) (N := some 75) (v := ?_) (a' := ?_) #[true, true, true, true, true, true, true, true, true, true, true, true, true, true, true, true, true, true, true, false] rfl rfl (by kernel_rfl) (fun _ _ _ h => h) (Or.inl ⟨by rfl, ?_⟩) ?_ ?_
        rotate_left
        · intro w'
          go_simp
          with_reducible rfl
        rotate_left
        · simp only [Act.put, List.setIfInBounds_toArray, List.set_cons_zero, List.set_cons_succ, i64_w, i32_w]
          rfl
        refine last_ (i := 19) (N := none) #[true, true, true, true, true, true, true, true, true, true, true, true, true, true, true, true, true, true, true, true] rfl rfl (by kernel_rfl) (by decide) (fun K hK => ?_)
        refine skip_ (w1 := ?_) (by rfl) rfl ?_ ?_
        rotate_left
        · go_simp
          rfl
        refine hK.out _ _ ?_
        clear hK K
        refine done_ (by kernel_rfl) ?_
        have hq0 : W.heap[q]? = some (.cells #[.slice A s.P.length c, .slice (some ad) s.G.length c2] 33 (0, 0)) := by
          have := HBK.out
          rwa [List.length_map, List.length_map] at this
        have hq3 := set_blk1 (hq2.trans hq0) (.slice A3 m3 c3)
        have hT : Turn (fun k => k = q) W (w2.setCell ⟨q, 1, none⟩ (.slice A3 m3 c3)) :=
          (Turn.of_below (HB0.out.trans (hB2.mono (Nat.le_of_eq HS0.out.symm)))).trans (Turn.of_set w2 ⟨q, 1, none⟩ _)
        have hR2 := HR.out.blk
        have HQ3 := Aside0.mk hq3
        have HT := Aside0.mk hT
        have HN2 := Aside0.mk hN2
        clear hq3 hT hN2 hq2 hc2 hf2 hHeld hg2 hat2 hB2 hN1 hB1 hg1 hat1
        go_wp2_with fail
        all_goals go_ret
        all_goals
          refine ⟨by rw [HX.out]; rfl, ?_, ?_⟩
          · rw [HX.out, HADP.out, HADG.out]
            obtain ⟨A5, c5, e5, hl5, hf5⟩ := Kd.N_V (base' := 0) HN2.out
            rw [List.nil_append, ← List.map_append] at e5 hl5 hf5
            refine ⟨⟨_, _, HQ3.out, ?_, ⟨A5, c5, e5, hl5, ?_⟩⟩, HR.out.qok⟩
            · exact ⟨A, c, by rw [List.length_map], by rw [List.length_map]; exact hl, Kd.F_step HF.out (fun k hk hlt => HT.out.block k hlt (fun e => HR.out.qok (by rw [← e]; exact hk)))⟩
            · exact Kd.F_far hf5 (fun k hk e => HR.out.qok (by rw [← show k = q from e]; exact hk)) _
          · exact HT.out
end Go.Proofs.YtflioeiklcnncaaGreatDoor.Ri

set_option linter.unusedVariables false
set_option linter.unusedSimpArgs false
namespace Go.Proofs.YtflioeiklcnncaaGreatDoor.Ri
open Go.RowKit Go.Maps Go.Sort Go.Proofs.YtflioeiklcnncaaGreatDoorW.PrintLast Go.Proofs.YtflioeiklcnncaaGreatDoorW.PrintWords Go.Proofs.YtflioeiklcnncaaGreatDoor.PRing

/-! ### two chains of new rows that are made in any order -/
/-- A new empty row. -/
def E1 (T : TypeId) (w : World) (lo g : Nat) : Prop := w.heap[g]? = some (.cells #[] T (0, 0)) ∧ lo ≤ g
/-- A row that grew out of it. -/
def E2 {α : Type} (d : Kd α) (T : TypeId) (w : World) (lo : Nat) (old S : Nat → Prop) (v : Value) (xs : List α) : Prop :=
  Kd.N d T w lo (fun k => old k ∨ S k) v xs ∧ (∀ k, S k → lo ≤ k ∧ k < w.heap.size) ∧ ∃ A c m, v = .slice A m c
/-- A row of one, the element just built. -/
def E3 {α : Type} (d : Kd α) (w : World) (lo : Nat) (S : Nat → Prop) (A : Option Addr) (x : α) : Prop :=
  Kd.F d w S A 1 [x] ∧ ∀ k, S k → lo ≤ k ∧ k < w.heap.size
theorem E1.turn {R : Nat → Prop} {T : TypeId} {w w' : World} {lo g : Nat} (h : E1 T w lo g) (ht : Turn R w w') (hR : ¬ R g) : E1 T w' lo g :=
  ⟨by rw [ht.block g (Array.getElem?_eq_some_iff.1 h.1).1 hR]; exact h.1, h.2⟩
theorem E1.lt {T : TypeId} {w : World} {lo g : Nat} (h : E1 T w lo g) : g < w.heap.size := (Array.getElem?_eq_some_iff.1 h.1).1
theorem E2.turn {R : Nat → Prop} {α : Type} {d : Kd α} {T : TypeId} {w w' : World} {lo : Nat} {old S : Nat → Prop} {v : Value} {xs : List α} (h : E2 d T w lo old S v xs) (ht : Turn R w w') (hR : ∀ k, R k → ¬ S k) (ho : ∀ k, old k → ¬ R k) : E2 d T w' lo old S v xs := by
  refine ⟨Kd.N_step h.1 (fun k hk hlt => ht.block k hlt (fun e => ?_)), fun k hk => ⟨(h.2.1 k hk).1, Nat.lt_of_lt_of_le (h.2.1 k hk).2 ht.size⟩, h.2.2⟩
  rcases hk with hk | hk
  · exact ho k hk e
  · exact hR k e hk
theorem E3.turn {R : Nat → Prop} {α : Type} {d : Kd α} {w w' : World} {lo : Nat} {S : Nat → Prop} {A : Option Addr} {x : α} (h : E3 d w lo S A x) (ht : Turn R w w') (hR : ∀ k, R k → ¬ S k) : E3 d w' lo S A x :=
  ⟨Kd.F_step h.1 (fun k hk hlt => ht.block k hlt (fun e => hR k e hk)), fun k hk => ⟨(h.2 k hk).1, Nat.lt_of_lt_of_le (h.2 k hk).2 ht.size⟩⟩
theorem E1.new {T : TypeId} {w : World} {lo : Nat} (hlo : lo ≤ w.heap.size) : E1 T (w.alloc (.cells #[] T)).drew lo w.heap.size :=
  ⟨al_new (w := w) _ rfl, hlo⟩
theorem al_turn (w : World) (o : Obj) : Turn (fun _ => False) w (w.alloc o).drew := Turn.of_below (below_drew (al_below o (Below.refl _ w)))
/-- Behind the first append: the row is the chain's own. -/
theorem E2.grow {α : Type} {d : Kd α} {T : TypeId} {w w' : World} {lo g : Nat} {old : Nat → Prop} {v : Value} {xs : List α} (hg : E1 T w lo g) (hN : Kd.N d T w' lo (fun k => old k ∨ k = g ∨ w.heap.size ≤ k) v ([] ++ xs)) (hgr : w.grownBy w' (some g)) (ho : ∀ k, old k → k < lo) (hlo : lo ≤ w.heap.size) :
    E2 d T w' lo old (fun k => k = g ∨ (w.heap.size ≤ k ∧ k < w'.heap.size)) v xs := by
  obtain ⟨A, c, m, e⟩ := n_slice hN
  refine ⟨Kd.N_mono (Kd.N_bound hN) (fun k hk => ?_), fun k hk => ?_, A, c, m, e⟩
  · rcases hk.1 with h | h | h
    · exact .inl h
    · exact .inr (.inl h)
    · exact .inr (.inr ⟨h, hk.2⟩)
  · rcases hk with h | h
    · rw [h]; exact ⟨hg.2, Nat.lt_of_lt_of_le hg.lt hgr.size⟩
    · exact ⟨Nat.le_trans hlo h.1, h.2⟩
theorem d_new {w w' : World} {g : Nat} {S : Nat → Prop} (hS : ∀ k, S k → k < w.heap.size) (hg : ¬ S g) : ∀ k, (k = g ∨ (w.heap.size ≤ k ∧ k < w'.heap.size)) → ¬ S k := fun k hk e => by
  rcases hk with h | h
  · rw [h] at e; exact hg e
  · have := hS k e; omega
theorem row1 {α : Type} {d : Kd α} {w : World} {ok : Nat → Prop} {x : α} {cs : List Value} {g : Nat} {T : TypeId} (h : Kd.FK d w ok x cs) (hb : w.heap[g]? = some (.cells cs.toArray T (0, 0))) : Kd.F d w (fun k => ok k ∨ k = g) (some ⟨g, 0, none⟩) 1 [x] := fun W' hW => by
  have hb' : W'.heap[g]? = some (.cells cs.toArray T (0, 0)) := (hW g (.inr rfl) (Array.getElem?_eq_some_iff.1 hb).1).trans hb
  have hK := h W' (fun k hk hlt => hW k (.inl hk) hlt)
  refine ⟨rfl, by decide, fun _ => ⟨_, rfl, fun j p hj => ?_⟩⟩
  cases j with
  | succ j => simp at hj
  | zero =>
    simp only [List.getElem?_cons_zero, Option.some.injEq] at hj
    subst hj
    refine ⟨cs, d.K_len hK, hK, fun i u hu => ?_⟩
    rw [add_plain]
    simp only [World.cell?, hb', Nat.zero_mul, Nat.zero_add]
    simpa using hu
theorem E1.new' {T : TypeId} {w : World} {lo : Nat} (hlo : lo ≤ w.heap.size) : E1 T (w.alloc (.cells #[] T)) lo w.heap.size := ⟨al_new (w := w) _ rfl, hlo⟩
theorem al_turn' (w : World) (o : Obj) : Turn (fun _ => False) w (w.alloc o) := Turn.of_below (al_below o (Below.refl _ w))
theorem E2.grow' {α : Type} {d : Kd α} {T : TypeId} {w w' : World} {lo g : Nat} {old : Nat → Prop} {v : Value} {xs : List α} (hg : E1 T w lo g) (hN : Kd.N d T w' lo (fun k => old k ∨ k = g ∨ w.heap.size ≤ k) v ([] ++ xs)) (hgr : w.grownBy w' (some g)) (ho : ∀ k, old k → k < lo) (hlo : lo ≤ w.heap.size) :
    ∃ S, E2 d T w' lo old S v xs ∧ ∀ k, S k → k = g ∨ w.heap.size ≤ k := ⟨_, E2.grow hg hN hgr ho hlo, fun k hk => by
      rcases hk with h | h
      · exact .inl h
      · exact .inr h.1⟩
theorem person_row {w : World} {lo : Nat} {nm : ByteArray} {pt : B} {S : Nat → Prop} {v : Value} (h : E2 (Kd.int .u8) 5 w lo (fun _ => False) S v (ints pt)) (hlo : lo ≤ w.heap.size) :
    E3 k50 (w.alloc (.cells #[.string nm, v] 50)).drew lo (fun k => S k ∨ k = w.heap.size) (some ⟨w.heap.size, 0, none⟩) (⟨nm, ints pt⟩ : S50) := by
  obtain ⟨hN, hS, _⟩ := h
  obtain ⟨A, c, e, hl, hf⟩ := Kd.N_V (base' := 0) hN
  subst e
  have hf2 : Kd.F (Kd.int .u8) (w.alloc (.cells #[.string nm, .slice A (ints pt).length c] 50)).drew S A (ints pt).length (ints pt) := Kd.F_mono (Kd.F_below hf (below_drew (al_below _ (Below.refl _ w)))) (fun k hk => by
    rcases hk with h | h
    · exact h.elim
    · exact h)
  have hk := k50_mkF _ S (⟨nm, ints pt⟩ : S50) hl hf2
  refine ⟨row1 hk (al_new (w := w) _ rfl), fun k hk => ?_⟩
  have hsz : (w.alloc (.cells #[.string nm, .slice A (ints pt).length c] 50)).drew.heap.size = w.heap.size + 1 := al_size (w := w) _ rfl
  rcases hk with h | h
  · have := hS k h; omega
  · omega
theorem group_row {w : World} {lo : Nat} {nm : ByteArray} {ms : List B} {S : Nat → Prop} {v : Value} (h : E2 Kd.string 9 w lo (fun _ => False) S v (ms.map mkS)) (hlo : lo ≤ w.heap.size) :
    E3 k46 (w.alloc (.cells #[.string nm, v] 46)).drew lo (fun k => S k ∨ k = w.heap.size) (some ⟨w.heap.size, 0, none⟩) (⟨nm, ms.map mkS⟩ : S46) := by
  obtain ⟨hN, hS, _⟩ := h
  obtain ⟨A, c, e, hl, hf⟩ := Kd.N_V (base' := 0) hN
  subst e
  have hf2 : Kd.F Kd.string (w.alloc (.cells #[.string nm, .slice A (ms.map mkS).length c] 46)).drew S A (ms.map mkS).length (ms.map mkS) := Kd.F_mono (Kd.F_below hf (below_drew (al_below _ (Below.refl _ w)))) (fun k hk => by
    rcases hk with h | h
    · exact h.elim
    · exact h)
  have hk := k46_mkF _ S (⟨nm, ms.map mkS⟩ : S46) hl hf2
  refine ⟨row1 hk (al_new (w := w) _ rfl), fun k hk => ?_⟩
  have hsz : (w.alloc (.cells #[.string nm, .slice A (ms.map mkS).length c] 46)).drew.heap.size = w.heap.size + 1 := al_size (w := w) _ rfl
  rcases hk with h | h
  · have := hS k h; omega
  · omega
/-- An empty row of one's own, to grow. -/
theorem E1.int {w : World} {lo g : Nat} {ok : Nat → Prop} (h : E1 5 w lo g) (hg : ok g) : Kd.N (Kd.int .u8) 5 w lo ok (.slice (some ⟨g, 0, none⟩) 0 0) [] :=
  Kd.R_N ⟨fun k hk => by simp only [Value.ownBlock, Option.some.injEq] at hk; rw [← hk]; exact hg, [], ⟨rfl, .inr ⟨g, 0, #[], rfl, h.2, h.1, Nat.le_refl _, Nat.zero_le _, rfl, rfl⟩⟩, ⟨rfl, fun j p hj => by simp at hj⟩⟩
theorem E1.str {w : World} {lo g : Nat} {ok : Nat → Prop} (h : E1 9 w lo g) (hg : ok g) : Kd.N Kd.string 9 w lo ok (.slice (some ⟨g, 0, none⟩) 0 0) [] :=
  Kd.R_N ⟨fun k hk => by simp only [Value.ownBlock, Option.some.injEq] at hk; rw [← hk]; exact hg, [], ⟨rfl, .inr ⟨g, 0, #[], rfl, h.2, h.1, Nat.le_refl _, Nat.zero_le _, rfl, rfl⟩⟩, ⟨rfl, fun j p hj => by simp at hj⟩⟩
theorem info5 : (Tryz.prog.info? 5).map (fun i => (i.zero, i.size, i.bytes)) = some (some (.int .u8 0), 1, 1) := by kernel_rfl

structure Inv (W w : World) (SA SB : Nat → Prop) : Prop where
  a : ∀ k, SA k → k < w.heap.size
  b : ∀ k, SB k → k < w.heap.size
  d : ∀ k, SA k → ¬ SB k
  below : Below W.heap.size W w
theorem Inv.symm {W w : World} {SA SB : Nat → Prop} (h : Inv W w SA SB) : Inv W w SB SA := ⟨h.b, h.a, fun k h1 h2 => h.d k h2 h1, h.below⟩
theorem Inv.step {R : Nat → Prop} {W w w' : World} {SA SB SA' : Nat → Prop} (h : Inv W w SA SB) (ht : Turn R w w') (hR : ∀ k, R k → W.heap.size ≤ k) (hS : ∀ k, SA' k → SA k ∨ w.heap.size ≤ k) (hb : ∀ k, SA' k → k < w'.heap.size) : Inv W w' SA' SB :=
  ⟨hb, fun k hk => Nat.lt_of_lt_of_le (h.b k hk) ht.size, fun k hk e => by
    rcases hS k hk with h1 | h1
    · exact h.d k h1 e
    · have := h.b k e; omega, h.below.trans (ht.below hR h.below.size)⟩
theorem Inv.start {W w : World} (h : Below W.heap.size W w) : Inv W w (fun _ => False) (fun _ => False) := ⟨fun _ e => e.elim, fun _ e => e.elim, fun _ e => e.elim, h⟩
/-- The stages of a chain, each with the blocks that are its own. -/
def P0 (_ : World) (S : Nat → Prop) : Prop := ∀ k, ¬ S k
def P1 (T : TypeId) (lo g : Nat) (w : World) (S : Nat → Prop) : Prop := E1 T w lo g ∧ ∀ k, S k ↔ k = g
def P2 {α : Type} (d : Kd α) (T : TypeId) (lo : Nat) (old : Nat → Prop) (v : Value) (xs : List α) (w : World) (S : Nat → Prop) : Prop := E2 d T w lo old S v xs
def P3 {α : Type} (d : Kd α) (lo : Nat) (A : Option Addr) (x : α) (w : World) (S : Nat → Prop) : Prop := E3 d w lo S A x
theorem P0.turn {R : Nat → Prop} {w w' : World} {S : Nat → Prop} (h : P0 w S) (ht : Turn R w w') (hR : ∀ k, R k → ¬ S k) (lo : Nat) (ho : ∀ k, R k → lo ≤ k) : P0 w' S := h
theorem P1.turn {R : Nat → Prop} {T : TypeId} {lo g : Nat} {w w' : World} {S : Nat → Prop} (h : P1 T lo g w S) (ht : Turn R w w') (hR : ∀ k, R k → ¬ S k) (lo' : Nat) (ho : ∀ k, R k → lo' ≤ k) : P1 T lo g w' S := ⟨h.1.turn ht (fun e => hR g e ((h.2 g).2 rfl)), h.2⟩
theorem P2.turn {R : Nat → Prop} {α : Type} {d : Kd α} {T : TypeId} {lo : Nat} {okk : Nat → Prop} {v : Value} {xs : List α} {w w' : World} {S : Nat → Prop} (h : P2 d T lo (fun k => okk k ∧ k < lo) v xs w S) (ht : Turn R w w') (hR : ∀ k, R k → ¬ S k) (lo' : Nat) (ho : ∀ k, R k → lo ≤ k) : P2 d T lo (fun k => okk k ∧ k < lo) v xs w' S :=
  E2.turn h ht hR (fun k hk e => by have := hk.2; have := ho k e; omega)
theorem P2.turnF {R : Nat → Prop} {α : Type} {d : Kd α} {T : TypeId} {lo : Nat} {v : Value} {xs : List α} {w w' : World} {S : Nat → Prop} (h : P2 d T lo (fun _ => False) v xs w S) (ht : Turn R w w') (hR : ∀ k, R k → ¬ S k) (lo' : Nat) (ho : ∀ k, R k → lo' ≤ k) : P2 d T lo (fun _ => False) v xs w' S := E2.turn h ht hR (fun k hk e => hk.elim)
theorem P3.turn {R : Nat → Prop} {α : Type} {d : Kd α} {lo : Nat} {A : Option Addr} {x : α} {w w' : World} {S : Nat → Prop} (h : P3 d lo A x w S) (ht : Turn R w w') (hR : ∀ k, R k → ¬ S k) (lo' : Nat) (ho : ∀ k, R k → lo' ≤ k) : P3 d lo A x w' S := E3.turn h ht hR
/-- A new empty row: the chain begins. -/
theorem P1.make {T : TypeId} {W w w' : World} {SB : Nat → Prop} {g : Nat} (I : Inv W w (fun _ => False) SB) (hw : w'.heap = w.heap.push (.cells #[] T)) (hg : g = w.heap.size) (ht : Turn (fun _ => False) w w') : P1 T W.heap.size g w' (fun k => k = g) ∧ Inv W w' (fun k => k = g) SB := by
  subst hg
  have hs : w'.heap.size = w.heap.size + 1 := by rw [hw]; simp
  refine ⟨⟨⟨?_, I.below.size⟩, fun k => Iff.rfl⟩, I.step ht (fun _ e => e.elim) (fun k hk => .inr (Nat.le_of_eq (show k = w.heap.size from hk).symm)) (fun k hk => by rw [show k = w.heap.size from hk, hs]; omega)⟩
  rw [hw, Array.getElem?_push, if_pos rfl]
/-- It grows. -/
theorem P2.make {α : Type} {d : Kd α} {T : TypeId} {W w w' : World} {SA SB : Nat → Prop} {g : Nat} {old : Nat → Prop} {v : Value} {xs : List α} (I : Inv W w SA SB) (h : P1 T W.heap.size g w SA) (hN : Kd.N d T w' W.heap.size (fun k => old k ∨ k = g ∨ w.heap.size ≤ k) v ([] ++ xs)) (hgr : w.grownBy w' (some g)) (ho : ∀ k, old k → k < W.heap.size) :
    ∃ S, P2 d T W.heap.size old v xs w' S ∧ Inv W w' S SB ∧ Turn (fun k => k = g) w w' ∧ (∀ k, k = g → ¬ SB k) ∧ (∀ k, k = g → W.heap.size ≤ k) ∧ ∃ A c m, v = .slice A m c := by
  obtain ⟨S, h1, h2⟩ := E2.grow' h.1 hN hgr ho I.below.size
  have ht : Turn (fun k => k = g) w w' := (turn_grown hgr).mono (fun k hk => (Option.some.inj hk).symm)
  have hg : ∀ k, k = g → W.heap.size ≤ k := fun k hk => by rw [hk]; exact h.1.2
  refine ⟨S, h1, I.step ht hg (fun k hk => ?_) (fun k hk => (h1.2.1 k hk).2), ht, fun k hk => ?_, hg, h1.2.2⟩
  · rcases h2 k hk with h3 | h3
    · exact .inl ((h.2 k).2 h3)
    · exact .inr h3
  · rw [hk]; exact I.d g ((h.2 g).2 rfl)
/-- The element is built. -/
theorem P3.person {W w w' : World} {nm : ByteArray} {pt : B} {SB SA : Nat → Prop} {v : Value} {g : Nat} (I : Inv W w SB SA) (h : P2 (Kd.int .u8) 5 W.heap.size (fun _ => False) v (ints pt) w SB) (hw : w' = (w.alloc (.cells #[.string nm, v] 50)).drew ∨ w' = w.alloc (.cells #[.string nm, v] 50)) (hg : g = w.heap.size) (ht : Turn (fun _ => False) w w') :
    ∃ S, P3 k50 W.heap.size (some ⟨g, 0, none⟩) (⟨nm, ints pt⟩ : S50) w' S ∧ Inv W w' S SA := by
  subst hg
  have h1 : E3 k50 w' W.heap.size (fun k => SB k ∨ k = w.heap.size) (some ⟨w.heap.size, 0, none⟩) (⟨nm, ints pt⟩ : S50) := by
    have := person_row (nm := nm) (pt := pt) h I.below.size
    rcases hw with hw | hw
    · rw [hw]; exact this
    · rw [hw]; exact this.turn (R := fun _ => False) (Turn.of_below ⟨rfl, rfl, rfl, Nat.le_refl _, fun _ _ => rfl⟩) (fun _ e => e.elim)
  exact ⟨_, h1, I.step ht (fun _ e => e.elim) (fun k hk => by
    rcases hk with hk | hk
    · exact .inl hk
    · exact .inr (Nat.le_of_eq hk.symm)) (fun k hk => (h1.2 k hk).2)⟩
theorem P2.tightI {T : TypeId} {lo : Nat} {old : Nat → Prop} {v : Value} {xs : List Int} {w : World} {S : Nat → Prop} (h : P2 (Kd.int .u8) T lo old v xs w S) (ho : ∀ k, old k → k < lo) : P2 (Kd.int .u8) T lo (fun _ => False) v xs w S := by
  obtain ⟨hN, h1, h2⟩ := h
  have hb := Kd.N_base hN
  obtain ⟨h0, rows, hl, hR, hf⟩ := hN
  refine ⟨⟨fun k hk => ?_, rows, hl, hR, fun j x c hx hc => ?_⟩, h1, h2⟩
  · rcases h0 k hk with h3 | h3
    · have := hb k hk; have := ho k h3; omega
    · exact .inr h3
  · have h4 := Kd.FK_now (hf j x c hx hc)
    exact fun W' _ => h4
theorem P2.tightS {T : TypeId} {lo : Nat} {old : Nat → Prop} {v : Value} {xs : List ByteArray} {w : World} {S : Nat → Prop} (h : P2 Kd.string T lo old v xs w S) (ho : ∀ k, old k → k < lo) : P2 Kd.string T lo (fun _ => False) v xs w S := by
  obtain ⟨hN, h1, h2⟩ := h
  have hb := Kd.N_base hN
  obtain ⟨h0, rows, hl, hR, hf⟩ := hN
  refine ⟨⟨fun k hk => ?_, rows, hl, hR, fun j x c hx hc => ?_⟩, h1, h2⟩
  · rcases h0 k hk with h3 | h3
    · have := hb k hk; have := ho k h3; omega
    · exact .inr h3
  · have h4 := Kd.FK_now (hf j x c hx hc)
    exact fun W' _ => h4
theorem P3.group {W w w' : World} {nm : ByteArray} {ms : List B} {SB SA : Nat → Prop} {v : Value} {g : Nat} (I : Inv W w SB SA) (h : P2 Kd.string 9 W.heap.size (fun _ => False) v (ms.map mkS) w SB) (hw : w' = (w.alloc (.cells #[.string nm, v] 46)).drew ∨ w' = w.alloc (.cells #[.string nm, v] 46)) (hg : g = w.heap.size) (ht : Turn (fun _ => False) w w') :
    ∃ S, P3 k46 W.heap.size (some ⟨g, 0, none⟩) (⟨nm, ms.map mkS⟩ : S46) w' S ∧ Inv W w' S SA := by
  subst hg
  have h1 : E3 k46 w' W.heap.size (fun k => SB k ∨ k = w.heap.size) (some ⟨w.heap.size, 0, none⟩) (⟨nm, ms.map mkS⟩ : S46) := by
    have := group_row (nm := nm) (ms := ms) h I.below.size
    rcases hw with hw | hw
    · rw [hw]; exact this
    · rw [hw]; exact this.turn (R := fun _ => False) (Turn.of_below ⟨rfl, rfl, rfl, Nat.le_refl _, fun _ _ => rfl⟩) (fun _ e => e.elim)
  exact ⟨_, h1, I.step ht (fun _ e => e.elim) (fun k hk => by
    rcases hk with hk | hk
    · exact .inl hk
    · exact .inr (Nat.le_of_eq hk.symm)) (fun k hk => (h1.2 k hk).2)⟩
end Go.Proofs.YtflioeiklcnncaaGreatDoor.Ri

set_option linter.unusedVariables false
set_option linter.unusedSimpArgs false
namespace Go.Proofs.YtflioeiklcnncaaGreatDoor.Ri
open Go.RowKit Go.Maps Go.Sort Go.Proofs.YtflioeiklcnncaaGreatDoorW.PrintLast Go.Proofs.YtflioeiklcnncaaGreatDoorW.PrintWords Go.Proofs.YtflioeiklcnncaaGreatDoor.PRing

theorem ins_split {V : Type} {nm : B} {x : V} : ∀ {l : List (B × V)} {k : Nat}, (∀ p ∈ l.take k, bytesBefore p.1 nm = true) → (k = l.length ∨ ∃ h : k < l.length, bytesBefore l[k].1 nm = false) → (∀ p ∈ l, p.1 ≠ nm) → ains (nm, x) l = l.take k ++ (nm, x) :: l.drop k
  | [], k, _, h, _ => by
    rcases h with h | ⟨h, _⟩
    · simp at h; subst h; rfl
    · simp at h
  | y :: r, 0, _, h, hn => by
    rcases h with h | ⟨h, h2⟩
    · simp at h
    · simp only [List.getElem_cons_zero] at h2
      have h3 : bytesBefore nm y.1 = true := by
        rcases bb_total y.1 nm with h4 | h4 | h4
        · rw [h4] at h2; cases h2
        · exact absurd h4 (hn y (by simp))
        · exact h4
      simp [ains, h3]
  | y :: r, k + 1, h1, h, hn => by
    have hy : bytesBefore y.1 nm = true := h1 y (by simp)
    have ih := ins_split (x := x) (l := r) (k := k) (fun p hp => h1 p (by simp [hp])) (by
      rcases h with h | ⟨h, h2⟩
      · left; simpa using h
      · right; exact ⟨by simpa using h, by simpa using h2⟩) (fun p hp => hn p (by simp [hp]))
    simp only [ains, bb_asymm hy, Bool.false_eq_true, if_false, ih, List.take_succ_cons, List.drop_succ_cons, List.cons_append]
theorem empty_eq (x : B) : (mkS x).toList.isEmpty = decide (x = []) := by
  rw [mkS_toList]
  cases x <;> simp
set_option maxRecDepth 100000 in
set_option maxHeartbeats 4000000 in
theorem Person26 {W : World} {ok ok' : Nat → Prop} {q : Nat} {s : St} (h : RefAt W ok q s) (hS : Good s) (hfresh : ∀ k, W.heap.size ≤ k → ok k) (nm : B) (hnm : nm.length ≤ 1000) {pv : Value} {pt : B} (hp : Bts W ok' pv pt) (hpl : pt.length ≤ 1000) :
    Calls Tryz.prog 26 #[.pointer (some ⟨q, 0, none⟩), .string (mkS nm), pv] W (RefPost W ok q (person1 s nm pt)) := by
  have HNM := Aside0.mk (fun W' : World => name55 (mkS nm) (by rw [mkS_size]; omega) W')
  have HLS := Aside0.mk (fun (a : B) (ha : a.length ≤ 1000) (W' : World) => less56 (mkS a) (mkS nm) (by rw [mkS_size]; omega) W')
  have HTH := Aside0.mk (fun (W' : World) (h' : RefAt W' ok q s) => there34 h' hS.p hS.g nm)
  have HWH := Aside0.mk (fun (W' : World) (h' : RefAt W' ok q s) (hp' : Bts W' ok' pv pt) => who17 h' hS.p (fun p hp => (hS.ps p hp).2) hp')
  have HR := Aside0.mk h
  have HPV := Aside0.mk hp
  obtain ⟨Ap, cp, rfl, hlp, hfp⟩ := hp
  obtain ⟨vp, vg, hb, ⟨A, c, rfl, hl, hf⟩, ⟨A2, c2, rfl, hl2, hf2⟩⟩ := h.blk
  obtain ⟨c0, c1, f0, f1⟩ := two_cells hb
  rw [List.length_map] at c0 hl
  rw [List.length_map] at c1 hl2
  rw [ints_length] at hlp hfp
  have e1 : (Value.slice Ap (ints pt).length cp) = .slice Ap pt.length cp := by rw [ints_length]
  rw [e1] at HPV HWH ⊢
  have HF := Aside0.mk hf
  have HF2 := Aside0.mk hf2
  have HFP := Aside0.mk hfp
  have HS := Aside0.mk hS
  have HBK := Aside0.mk hb
  have HFR := Aside0.mk hfresh
  have hp1 : s.P.length ≤ 1000 := hS.p
  clear h hf hf2 hfp hS hb e1 hfresh
  by_cases h1 : nameOK nm = false
  · have hx : person1 s nm pt = (1, s) := by unfold person1; rw [if_pos (.inl h1)]
    have HX := Aside0.mk hx
    have H1 := Aside0.mk h1
    clear hx h1
    as_aux_lemma =>
    go_enter Tryz.func26, Tryz.ntmps26
    go_wp2_with fail
    have hc := HNM.out W
    rw [bz_mkS, H1.out] at hc
    refine hc.mono ?_
    rintro e w1 ⟨rfl, ⟨n, rfl⟩⟩
    clear hc
    go_wp2_with fail
    go_ret
    exact ⟨by rw [HX.out]; rfl, by rw [HX.out]; exact HR.out.below (pw_below_drewN (Below.refl _ _) n), .of_below (pw_below_drewN (Below.refl _ _) n)⟩
  have h1' : nameOK nm = true := by simpa using h1
  have HNM1 := Aside0.mk (show ∀ W' : World, Calls Tryz.prog 55 #[.string (mkS nm)] W' fun e w' => e = .returned (.bool true) ∧ Drawn0 W' w' from fun W' => by have := HNM.out W'; rwa [bz_mkS, h1'] at this)
  by_cases h2 : pt.length = 32
  case neg =>
    have hx : person1 s nm pt = (1, s) := by unfold person1; rw [if_pos (.inr h2)]
    have HX := Aside0.mk hx
    have h2i : ¬ (pt.length : Int) = 32 := by omega
    clear hx h1 h1'
    as_aux_lemma =>
    go_enter Tryz.func26, Tryz.ntmps26
    go_wp2_with fail
    refine (HNM1.out W).mono ?_
    rintro e w1 ⟨rfl, ⟨n, rfl⟩⟩
    go_wp2_with fail
    go_ret
    exact ⟨by rw [HX.out]; rfl, by rw [HX.out]; exact HR.out.below (pw_below_drewN (Below.refl _ _) n), .of_below (pw_below_drewN (Below.refl _ _) n)⟩
  have h2i : (pt.length : Int) = 32 := by omega
  have H2 := Aside0.mk h2
  clear h2
  by_cases h3 : there s nm = true
  · have hx : person1 s nm pt = (5, s) := by unfold person1; rw [if_neg (by rw [h1', H2.out]; simp), if_pos (.inl h3)]
    have HX := Aside0.mk hx
    have H3 := Aside0.mk h3
    clear hx h1 h1' h3
    as_aux_lemma =>
    go_enter Tryz.func26, Tryz.ntmps26
    go_wp2_with fail
    refine (HNM1.out W).mono ?_
    rintro e w1 ⟨rfl, ⟨n, rfl⟩⟩
    have hth := HTH.out _ (HR.out.below (pw_below_drewN (Below.refl _ W) n))
    rw [H3.out] at hth
    have HT := Aside0.mk hth
    clear hth
    go_wp2_with fail
    refine HT.out.mono ?_
    rintro e w' ⟨rfl, hw⟩
    obtain rfl := hw.symm
    go_wp2_with fail
    go_ret
    exact ⟨by rw [HX.out]; rfl, by rw [HX.out]; exact HR.out.below (pw_below_drewN (Below.refl _ _) n), .of_below (pw_below_drewN (Below.refl _ _) n)⟩
  have h3' : there s nm = false := by simpa using h3
  have HTH1 := Aside0.mk (show ∀ (W' : World) (h' : RefAt W' ok q s), Calls Tryz.prog 34 #[.pointer (some ⟨q, 0, none⟩), .string (mkS nm)] W' fun e w' => e = .returned (.bool false) ∧ w' = W' from fun W' h' => by have := HTH.out W' h'; rwa [h3'] at this)
  by_cases h4 : who s pt = []
  case neg =>
    have hx : person1 s nm pt = (5, s) := by unfold person1; rw [if_neg (by rw [h1', H2.out]; simp), if_pos (.inr h4)]
    have HX := Aside0.mk hx
    have hcmp := empty_eq (who s pt)
    rw [decide_eq_false h4] at hcmp
    clear hx h1 h1' h3 h3' h4
    as_aux_lemma =>
    go_enter Tryz.func26, Tryz.ntmps26
    go_wp2_with fail
    refine (HNM1.out W).mono ?_
    rintro e w1 ⟨rfl, ⟨n, rfl⟩⟩
    have HT := Aside0.mk (HTH1.out _ (HR.out.below (pw_below_drewN (Below.refl _ W) n)))
    have HW := Aside0.mk (HWH.out _ (HR.out.below (pw_below_drewN (Below.refl _ W) n)) (Kd.V_below HPV.out (pw_below_drewN (Below.refl _ _) n)))
    go_wp2_with fail
    refine HT.out.mono ?_
    rintro e w' ⟨rfl, hw⟩
    obtain rfl := hw.symm
    go_wp2_with fail
    refine HW.out.mono ?_
    rintro e w' ⟨rfl, n2, hw⟩
    obtain rfl := hw
    go_wp2_with fail
    go_ret
    exact ⟨by rw [HX.out]; rfl, by rw [HX.out]; exact HR.out.below (pw_below_drewN (Below.refl _ _) (n + n2)), .of_below (pw_below_drewN (Below.refl _ _) (n + n2))⟩
  have hcmp := empty_eq (who s pt)
  rw [decide_eq_true h4] at hcmp
  by_cases h5 : 32 ≤ s.P.length
  · have hx : person1 s nm pt = (3, s) := by unfold person1; rw [if_neg (by rw [h1', H2.out]; simp), if_neg (by rw [h3', h4]; simp), if_pos h5]
    have HX := Aside0.mk hx
    have h5i : (32 : Int) ≤ (s.P.length : Int) := by omega
    clear hx h1 h1' h3 h3' h4
    as_aux_lemma =>
    go_enter Tryz.func26, Tryz.ntmps26
    go_wp2_with fail
    refine (HNM1.out W).mono ?_
    rintro e w1 ⟨rfl, ⟨n, rfl⟩⟩
    have HT := Aside0.mk (HTH1.out _ (HR.out.below (pw_below_drewN (Below.refl _ W) n)))
    have HW := Aside0.mk (HWH.out _ (HR.out.below (pw_below_drewN (Below.refl _ W) n)) (Kd.V_below HPV.out (pw_below_drewN (Below.refl _ _) n)))
    go_wp2_with fail
    refine HT.out.mono ?_
    rintro e w' ⟨rfl, hw⟩
    obtain rfl := hw.symm
    go_wp2_with fail
    refine HW.out.mono ?_
    rintro e w' ⟨rfl, n2, hw⟩
    obtain rfl := hw
    go_wp2_with fail
    go_ret
    exact ⟨by rw [HX.out]; rfl, by rw [HX.out]; exact HR.out.below (pw_below_drewN (Below.refl _ _) (n + n2)), .of_below (pw_below_drewN (Below.refl _ _) (n + n2))⟩
  have hno : ∀ p ∈ s.P, p.1 ≠ nm := by
    unfold there at h3'
    rw [Bool.or_eq_false_iff] at h3'
    exact ahas_false.1 h3'.1
  have hx : person1 s nm pt = (0, { s with P := ains (nm, pt) s.P }) := by
    unfold person1
    rw [if_neg (by rw [h1', H2.out]; simp), if_neg (by rw [h3', h4]; simp), if_neg h5]
    unfold aput
    rw [adel_none (ahas_false.2 hno)]
  have HX := Aside0.mk hx
  have HNO := Aside0.mk hno
  have h5i : ¬ (32 : Int) ≤ (s.P.length : Int) := by omega
  clear hx h1 h1' h3 h3' h4 hno
  go_enter Tryz.func26, Tryz.ntmps26
  go_wp2_with fail
  refine (HNM1.out W).mono ?_
  rintro e w1 ⟨rfl, ⟨n, rfl⟩⟩
  have HT := Aside0.mk (HTH1.out _ (HR.out.below (pw_below_drewN (Below.refl _ W) n)))
  have HW := Aside0.mk (HWH.out _ (HR.out.below (pw_below_drewN (Below.refl _ W) n)) (Kd.V_below HPV.out (pw_below_drewN (Below.refl _ _) n)))
  go_wp2_with fail
  refine HT.out.mono ?_
  rintro e w' ⟨rfl, hw⟩
  obtain rfl := hw.symm
  go_wp2_with fail
  refine HW.out.mono ?_
  rintro e w' ⟨rfl, n2, hw⟩
  obtain rfl := hw
  go_wp2_with fail
  go_loopw [7] (fun i wr => ∃ k m : Nat, k ≤ s.P.length ∧ i = .int .i64 k ∧ (∀ p ∈ s.P.take k, bytesBefore p.1 nm = true) ∧ wr = W.drewN m) (fun i _ => s.P.length - (intOf i).toNat)
  case atStart => exact ⟨0, n + n2, Nat.zero_le _, rfl, by simp, by simp⟩
  case round =>
    obtain ⟨k, m, hk, rfl, hbf, rfl⟩ := hrel
    have HBF := Aside0.mk hbf
    clear hbf
    by_cases hlt : k < s.P.length
    · obtain ⟨ad, A1, c1', rfl, hc0, hc1, hv⟩ := ppl_at HF.out hlt
      have hpk : s.P[k].1.length ≤ 1000 := (HS.out.ps _ (List.getElem_mem hlt)).1
      have hle := HLS.out s.P[k].1 hpk (W.drewN m)
      rw [bz_mkS, bz_mkS] at hle
      generalize hbb : bytesBefore s.P[k].1 nm = bb at hle
      have HBB := Aside0.mk hbb
      have HLE := Aside0.mk hle
      clear hbb hle hv hpk
      cases bb with
      | true =>
        as_aux_lemma =>
        go_wp2_with fail
        refine HLE.out.mono ?_
        rintro e w1 ⟨rfl, ⟨m2, rfl⟩⟩
        go_wp2_with fail
        refine ⟨⟨k + 1, m + m2, by omega, by go_num, fun p hp => ?_, by simp⟩, by simp [intOf]; omega⟩
        rw [List.take_succ_eq_append_getElem hlt] at hp
        rcases List.mem_append.1 hp with hp | hp
        · exact HBF.out p hp
        · rw [List.mem_singleton.1 hp]; exact HBB.out
      | false =>
        have hins := ins_split (x := pt) HBF.out (.inr ⟨hlt, HBB.out⟩) HNO.out
        have HINS := Aside0.mk hins
        clear hins
        go_wp2_with fail
        refine HLE.out.mono ?_
        rintro e w1 ⟨rfl, ⟨m2, rfl⟩⟩
        go_wp2_with fail
        have hic : 0 ≤ (k : Int) ∧ (k : Int) ≤ (c : Int) := by omega
        have hic1 : 0 ≤ (k : Int) ∧ (k : Int) ≤ (s.P.length : Int) := by omega
        have hql : q < W.heap.size := (Array.getElem?_eq_some_iff.1 HBK.out).1
        have HFT := Aside0.mk (f_take (i := k) HF.out (by omega))
        have HFD := Aside0.mk (f_drop (i := k) (c := c) HF.out (by omega) (by omega))
        have HFP := Aside0.mk (Kd.F_bound HFP.out)
        obtain ⟨w0, hw0⟩ : ∃ w0, w0 = W.drewN (m + m2) := ⟨_, rfl⟩
        have hb0 : Below W.heap.size W w0 := by rw [hw0]; exact pw_below_drewN (Below.refl _ _) _
        have c0w : w0.drew.cell? ⟨q, 0, none⟩ = some (.slice (some ad) s.P.length c) := by rw [hw0]; exact c0
        rw [← hw0]
        have HB0 := Aside0.mk hb0
        clear hb0 hw0
        refine start_ (n := 26) (S := fun w' => w'.cell? ⟨q, 0, none⟩ = some (.slice (some ad) s.P.length c)) (ds := [25]) #[false, false, false, false, false, false, false, false, false, false, false, false, false, false, false, false, false, false, false, false, false, false, false, false, false, false] (by kernel_rfl) rfl rfl (c0w) (fun hHeld => ?_)
        refine pure_ (i := 0) (N := some 52) (v := ?_) (a' := ?_) #[true, false, false, false, false, false, false, false, false, false, false, false, false, false, false, false, false, false, false, false, false, false, false, false, false, false] rfl rfl (by kernel_rfl) (fun _ _ _ h => h) (Or.inl ⟨by rfl, ?_⟩) ?_ ?_
        rotate_left
        · intro w'
          go_simp
          with_reducible rfl
        rotate_left
        · simp only [Act.put, List.setIfInBounds_toArray, List.set_cons_zero, List.set_cons_succ, i64_w, i32_w]
          rfl
        refine pure_ (i := 2) (N := some 54) (v := ?_) (a' := ?_) #[true, false, true, false, false, false, false, false, false, false, false, false, false, false, false, false, false, false, false, false, false, false, false, false, false, false] rfl rfl (by kernel_rfl) (fun _ _ _ h => h) (Or.inl ⟨by rfl, ?_⟩) ?_ ?_
        rotate_left
        · intro w'
          go_simp
          with_reducible rfl
        rotate_left
        · simp only [Act.put, List.setIfInBounds_toArray, List.set_cons_zero, List.set_cons_succ, i64_w, i32_w]
          rfl
        refine pure_ (i := 3) (N := some 55) (v := ?_) (a' := ?_) #[true, false, true, true, false, false, false, false, false, false, false, false, false, false, false, false, false, false, false, false, false, false, false, false, false, false] rfl rfl (by kernel_rfl) (fun _ _ _ h => h) (Or.inl ⟨by rfl, ?_⟩) ?_ ?_
        rotate_left
        · intro w'
          go_simp
          with_reducible rfl
        rotate_left
        · simp only [Act.put, List.setIfInBounds_toArray, List.set_cons_zero, List.set_cons_succ, i64_w, i32_w]
          rfl
        refine pure_ (i := 4) (N := some 56) (v := ?_) (a' := ?_) #[true, false, true, true, true, false, false, false, false, false, false, false, false, false, false, false, false, false, false, false, false, false, false, false, false, false] rfl rfl (by kernel_rfl) (fun _ _ _ h => h) (Or.inl ⟨by rfl, ?_⟩) ?_ ?_
        rotate_left
        · intro w'
          go_simp
          with_reducible rfl
        rotate_left
        · simp only [Act.put, List.setIfInBounds_toArray, List.set_cons_zero, List.set_cons_succ, i64_w, i32_w]
          rfl
        refine pure_ (i := 6) (N := some 58) (v := ?_) (a' := ?_) #[true, false, true, true, true, false, true, false, false, false, false, false, false, false, false, false, false, false, false, false, false, false, false, false, false, false] rfl rfl (by kernel_rfl) (fun _ _ _ h => h) (Or.inl ⟨by rfl, ?_⟩) ?_ ?_
        rotate_left
        · intro w'
          go_simp
          with_reducible rfl
        rotate_left
        · simp only [Act.put, List.setIfInBounds_toArray, List.set_cons_zero, List.set_cons_succ, i64_w, i32_w]
          rfl
        refine pure_ (i := 9) (N := some 61) (v := ?_) (a' := ?_) #[true, false, true, true, true, false, true, false, false, true, false, false, false, false, false, false, false, false, false, false, false, false, false, false, false, false] rfl rfl (by kernel_rfl) (fun _ _ _ h => h) (Or.inl ⟨by rfl, ?_⟩) ?_ ?_
        rotate_left
        · intro w'
          go_simp
          with_reducible rfl
        rotate_left
        · simp only [Act.put, List.setIfInBounds_toArray, List.set_cons_zero, List.set_cons_succ, i64_w, i32_w]
          rfl
        refine pure_ (i := 11) (N := some 63) (v := ?_) (a' := ?_) #[true, false, true, true, true, false, true, false, false, true, false, true, false, false, false, false, false, false, false, false, false, false, false, false, false, false] rfl rfl (by kernel_rfl) (fun _ _ _ h => h) (Or.inl ⟨by rfl, ?_⟩) ?_ ?_
        rotate_left
        · intro w'
          go_simp
          with_reducible rfl
        rotate_left
        · simp only [Act.put, List.setIfInBounds_toArray, List.set_cons_zero, List.set_cons_succ, i64_w, i32_w]
          rfl
        refine pure_ (i := 16) (N := some 68) (v := ?_) (a' := ?_) #[true, false, true, true, true, false, true, false, false, true, false, true, false, false, false, false, true, false, false, false, false, false, false, false, false, false] rfl rfl (by kernel_rfl) (fun _ _ _ h => h) (Or.inl ⟨by rfl, ?_⟩) ?_ ?_
        rotate_left
        · intro w'
          go_simp
          with_reducible rfl
        rotate_left
        · simp only [Act.put, List.setIfInBounds_toArray, List.set_cons_zero, List.set_cons_succ, i64_w, i32_w]
          rfl
        refine pure_ (i := 17) (N := some 69) (v := ?_) (a' := ?_) #[true, false, true, true, true, false, true, false, false, true, false, true, false, false, false, false, true, true, false, false, false, false, false, false, false, false] rfl rfl (by kernel_rfl) (fun _ _ _ h => h) (Or.inl ⟨by rfl, ?_⟩) ?_ ?_
        rotate_left
        · intro w'
          go_simp
          with_reducible rfl
        rotate_left
        · simp only [Act.put, List.setIfInBounds_toArray, List.set_cons_zero, List.set_cons_succ, i64_w, i32_w]
          rfl
        refine pure_ (i := 18) (N := some 70) (v := ?_) (a' := ?_) #[true, false, true, true, true, false, true, false, false, true, false, true, false, false, false, false, true, true, true, false, false, false, false, false, false, false] rfl rfl (by kernel_rfl) (fun _ _ _ h => h) (Or.inl ⟨by rfl, ?_⟩) ?_ ?_
        rotate_left
        · intro w'
          go_simp
          with_reducible rfl
        rotate_left
        · simp only [Act.put, List.setIfInBounds_toArray, List.set_cons_zero, List.set_cons_succ, i64_w, i32_w]
          rfl
        refine pure_ (i := 20) (N := some 72) (v := ?_) (a' := ?_) #[true, false, true, true, true, false, true, false, false, true, false, true, false, false, false, false, true, true, true, false, true, false, false, false, false, false] rfl rfl (by kernel_rfl) (fun _ _ _ h => h) (Or.inl ⟨by rfl, ?_⟩) ?_ ?_
        rotate_left
        · intro w'
          go_simp
          with_reducible rfl
        rotate_left
        · simp only [Act.put, List.setIfInBounds_toArray, List.set_cons_zero, List.set_cons_succ, i64_w, i32_w]
          rfl
        refine take_ (i := 5) (N := some 57) (v := ?_) (a' := ?_) #[true, false, true, true, true, true, true, false, false, true, false, true, false, false, false, false, true, true, true, false, true, false, false, false, false, false] rfl rfl (by kernel_rfl) (fun _ _ _ h => h) (Or.inl ⟨by rfl, ?_⟩) hHeld ?_ ?_
        rotate_left
        · intro w' s0
          go_simp
          with_reducible rfl
        rotate_left
        · simp only [Act.put, List.setIfInBounds_toArray, List.set_cons_zero, List.set_cons_succ, i64_w, i32_w]
          rfl
        refine pure_ (i := 7) (N := some 59) (v := ?_) (a' := ?_) #[true, false, true, true, true, true, true, true, false, true, false, true, false, false, false, false, true, true, true, false, true, false, false, false, false, false] rfl rfl (by kernel_rfl) (fun _ _ _ h => h) (Or.inl ⟨by rfl, ?_⟩) ?_ ?_
        rotate_left
        · intro w'
          go_simp
          with_reducible rfl
        rotate_left
        · simp only [Act.put, List.setIfInBounds_toArray, List.set_cons_zero, List.set_cons_succ, i64_w, i32_w]
          rfl
        refine take_ (i := 19) (N := some 71) (v := ?_) (a' := ?_) #[true, false, true, true, true, true, true, true, false, true, false, true, false, false, false, false, true, true, true, true, true, false, false, false, false, false] rfl rfl (by kernel_rfl) (fun _ _ _ h => h) (Or.inl ⟨by rfl, ?_⟩) hHeld ?_ ?_
        rotate_left
        · intro w' s0
          go_simp
          with_reducible rfl
        rotate_left
        · simp only [Act.put, List.setIfInBounds_toArray, List.set_cons_zero, List.set_cons_succ, i64_w, i32_w]
          rfl
        refine pure_ (i := 21) (N := some 73) (v := ?_) (a' := ?_) #[true, false, true, true, true, true, true, true, false, true, false, true, false, false, false, false, true, true, true, true, true, true, false, false, false, false] rfl rfl (by kernel_rfl) (fun _ _ _ h => h) (Or.inl ⟨by rfl, ?_⟩) ?_ ?_
        rotate_left
        · intro w'
          go_simp
          with_reducible rfl
        rotate_left
        · simp only [Act.put, List.setIfInBounds_toArray, List.set_cons_zero, List.set_cons_succ, i64_w, i32_w]
          rfl
        refine join_ (σ := Nat × (Option Addr × Nat × Nat) × Nat) 8 #[true, true, true, true, true, true, true, true, true, true, true, true, false, false, false, false, true, true, true, true, true, true, false, false, false, false] (fun t => [(53, .slice (some ⟨t.1, 0, none⟩) 0 0), (60, .slice t.2.1.1 t.2.1.2.1 t.2.1.2.2), (62, .slice (some ⟨t.2.2, 0, none⟩) 0 0)]) (fun t w' => ∃ SA SB, P2 k50 50 W.heap.size (fun k => ok k ∧ k < W.heap.size) (.slice t.2.1.1 t.2.1.2.1 t.2.1.2.2) ((s.P.take k).map person) w' SA ∧ P1 5 W.heap.size t.2.2 w' SB ∧ Inv W w' SA SB ∧ w'.cell? ⟨q, 0, none⟩ = some (.slice (some ad) s.P.length c)) ?_ ?_
        rotate_left
        · intro hCont
          refine two_ (i := 1) (j := 10) (Ni := some 53) (Nj := some 62) #[true, true, true, true, true, true, true, true, false, true, false, true, false, false, false, false, true, true, true, true, true, true, false, false, false, false] #[true, false, true, true, true, true, true, true, false, true, true, true, false, false, false, false, true, true, true, true, true, true, false, false, false, false] rfl rfl rfl rfl (by kernel_rfl) (by decide) (by decide) (fun K hK => ?_) (fun K hK => ?_)
          · skip
            refine value_ (w1 := ?_) (v := ?_) (by rfl) rfl ?_ ?_
            rotate_left 2
            · go_simp
              constructor
              · rfl
              · rfl
            obtain ⟨wA1, hwA1⟩ : ∃ w, w = (w0.alloc (.cells #[] 50)).drew := ⟨_, rfl⟩
            have hcaA1 : wA1.cell? ⟨q, 0, none⟩ = some (.slice (some ad) s.P.length c) := by rw [hwA1]; exact cell_al _ hHeld
            have htA1 : Turn (fun _ => False) w0 wA1 := by rw [hwA1]; exact al_turn _ _
            obtain ⟨gA, hgA⟩ : ∃ g, g = w0.heap.size := ⟨_, rfl⟩
            obtain ⟨hAA1, hJA1⟩ := P1.make (Inv.start HB0.out) (show wA1.heap = w0.heap.push (.cells #[] 50) by rw [hwA1]; rfl) hgA htA1
            have hIA1 := hJA1
            rw [← hwA1]
            simp only [← hgA]
            clear hwA1 hgA
            refine hK.out _ _ (hcaA1) (fun hHeld => ?_)
            clear hK K
            refine norm_ (a' := ?_) ?_ ?_
            rotate_left
            · show Act.put _ (some 53) _ = _
              simp only [Act.put, List.setIfInBounds_toArray, List.set_cons_zero, List.set_cons_succ, i64_w, i32_w]
              rfl
            refine two_ (i := 8) (j := 10) (Ni := some 60) (Nj := some 62) #[true, true, true, true, true, true, true, true, true, true, false, true, false, false, false, false, true, true, true, true, true, true, false, false, false, false] #[true, true, true, true, true, true, true, true, false, true, true, true, false, false, false, false, true, true, true, true, true, true, false, false, false, false] rfl rfl rfl rfl (by kernel_rfl) (by decide) (by decide) (fun K hK => ?_) (fun K hK => ?_)
            · skip
              refine Kd.N_append_rows_step k50 (w0 := W) W.heap.size (by rfl) (.tmp 53) (.tmp 59) 30 50 _ 40 (by rfl) Tryz.underlying30 info50 (by rfl) (by decide) (by decide) (.slice (some ⟨gA, 0, none⟩) 0 0) [] ((s.P.take k).map person) ((some ad)) k c (fun k => (ok k ∧ k < W.heap.size) ∨ k = gA ∨ wA1.heap.size ≤ k) (fun k => ok k ∧ k < W.heap.size) (by rfl) (by rfl) (k50_empty hAA1.1.1 hAA1.1.2 (.inr (.inl rfl))) (Kd.F_below HFT.out hIA1.below) (fun k hk => ⟨.inl hk, fun e => by have h2 := hk.2; have e' : k = gA := Option.some.inj e; have h3 := hAA1.1.2; omega⟩) (fun k hk => .inr (.inr hk)) hIA1.below hIA1.below.size (by simp; omega) ?_
              intro vA wA1A2 hNA1A2 hblA1A2 hgA1A2 hatA1A2
              obtain ⟨SA1A2, hAA1A2, hJA1A2, htA1A2, hxA1A2, hyA1A2, ⟨AAq, cAq, mAq, rfl⟩⟩ := P2.make hIA1 hAA1 hNA1A2 hgA1A2 (fun k hk => hk.2)
              skip
              have hIA1A2 := hJA1A2
              have hcaA1A2 : wA1A2.cell? ⟨q, 0, none⟩ = some (.slice (some ad) s.P.length c) := cell_gr hgA1A2 (fun e => by have e' : gA = q := Option.some.inj e; have h3 := hAA1.1.2; omega) hHeld
              refine hK.out _ _ (hcaA1A2) (fun hHeld => ?_)
              clear hK K
              refine norm_ (a' := ?_) ?_ ?_
              rotate_left
              · show Act.put _ (some 60) _ = _
                simp only [Act.put, List.setIfInBounds_toArray, List.set_cons_zero, List.set_cons_succ, i64_w, i32_w]
                rfl
              refine one_ (i := 10) (N := some 62) #[true, true, true, true, true, true, true, true, true, true, true, true, false, false, false, false, true, true, true, true, true, true, false, false, false, false] rfl rfl (by kernel_rfl) (by decide) (fun K hK => ?_)
              refine value_ (w1 := ?_) (v := ?_) (by rfl) rfl ?_ ?_
              rotate_left 2
              · go_simp
                constructor
                · rfl
                · rfl
              obtain ⟨wA1A2B1, hwA1A2B1⟩ : ∃ w, w = (wA1A2.alloc (.cells #[] 5)) := ⟨_, rfl⟩
              have hcaA1A2B1 : wA1A2B1.cell? ⟨q, 0, none⟩ = some (.slice (some ad) s.P.length c) := by rw [hwA1A2B1]; exact cell_al _ hHeld
              have htA1A2B1 : Turn (fun _ => False) wA1A2 wA1A2B1 := by rw [hwA1A2B1]; exact al_turn' _ _
              obtain ⟨gB, hgB⟩ : ∃ g, g = wA1A2.heap.size := ⟨_, rfl⟩
              obtain ⟨hBA1A2B1, hJA1A2B1⟩ := P1.make hIA1A2.symm (show wA1A2B1.heap = wA1A2.heap.push (.cells #[] 5) by rw [hwA1A2B1]; rfl) hgB htA1A2B1
              have hIA1A2B1 := hJA1A2B1.symm
              have hAA1A2B1 := hAA1A2.turn htA1A2B1 (fun k e => e.elim) W.heap.size (fun k e => e.elim)
              rw [← hwA1A2B1]
              simp only [← hgB]
              clear hwA1A2B1 hgB
              refine hK.out _ _ (hcaA1A2B1) (fun hHeld => ?_)
              clear hK K
              refine norm_ (a' := ?_) ?_ ?_
              rotate_left
              · show Act.put _ (some 62) _ = _
                simp only [Act.put, List.setIfInBounds_toArray, List.set_cons_zero, List.set_cons_succ, i64_w, i32_w]
                rfl
              exact norm_ (by simp only [putAll, Act.put, List.setIfInBounds_toArray, List.set_cons_zero, List.set_cons_succ]) (hCont (gA, (AAq, mAq, cAq), gB) _ ⟨SA1A2, (fun k => k = gB), hAA1A2B1, hBA1A2B1, hIA1A2B1, hcaA1A2B1⟩)
            · skip
              refine value_ (w1 := ?_) (v := ?_) (by rfl) rfl ?_ ?_
              rotate_left 2
              · go_simp
                constructor
                · rfl
                · rfl
              obtain ⟨wA1B1, hwA1B1⟩ : ∃ w, w = (wA1.alloc (.cells #[] 5)) := ⟨_, rfl⟩
              have hcaA1B1 : wA1B1.cell? ⟨q, 0, none⟩ = some (.slice (some ad) s.P.length c) := by rw [hwA1B1]; exact cell_al _ hHeld
              have htA1B1 : Turn (fun _ => False) wA1 wA1B1 := by rw [hwA1B1]; exact al_turn' _ _
              obtain ⟨gB, hgB⟩ : ∃ g, g = wA1.heap.size := ⟨_, rfl⟩
              obtain ⟨hBA1B1, hJA1B1⟩ := P1.make hIA1.symm (show wA1B1.heap = wA1.heap.push (.cells #[] 5) by rw [hwA1B1]; rfl) hgB htA1B1
              have hIA1B1 := hJA1B1.symm
              have hAA1B1 := hAA1.turn htA1B1 (fun k e => e.elim) W.heap.size (fun k e => e.elim)
              rw [← hwA1B1]
              simp only [← hgB]
              clear hwA1B1 hgB
              refine hK.out _ _ (hcaA1B1) (fun hHeld => ?_)
              clear hK K
              refine norm_ (a' := ?_) ?_ ?_
              rotate_left
              · show Act.put _ (some 62) _ = _
                simp only [Act.put, List.setIfInBounds_toArray, List.set_cons_zero, List.set_cons_succ, i64_w, i32_w]
                rfl
              refine one_ (i := 8) (N := some 60) #[true, true, true, true, true, true, true, true, true, true, true, true, false, false, false, false, true, true, true, true, true, true, false, false, false, false] rfl rfl (by kernel_rfl) (by decide) (fun K hK => ?_)
              refine Kd.N_append_rows_step k50 (w0 := W) W.heap.size (by rfl) (.tmp 53) (.tmp 59) 30 50 _ 40 (by rfl) Tryz.underlying30 info50 (by rfl) (by decide) (by decide) (.slice (some ⟨gA, 0, none⟩) 0 0) [] ((s.P.take k).map person) ((some ad)) k c (fun k => (ok k ∧ k < W.heap.size) ∨ k = gA ∨ wA1B1.heap.size ≤ k) (fun k => ok k ∧ k < W.heap.size) (by rfl) (by rfl) (k50_empty hAA1B1.1.1 hAA1B1.1.2 (.inr (.inl rfl))) (Kd.F_below HFT.out hIA1B1.below) (fun k hk => ⟨.inl hk, fun e => by have h2 := hk.2; have e' : k = gA := Option.some.inj e; have h3 := hAA1B1.1.2; omega⟩) (fun k hk => .inr (.inr hk)) hIA1B1.below hIA1B1.below.size (by simp; omega) ?_
              intro vA wA1B1A2 hNA1B1A2 hblA1B1A2 hgA1B1A2 hatA1B1A2
              obtain ⟨SA1B1A2, hAA1B1A2, hJA1B1A2, htA1B1A2, hxA1B1A2, hyA1B1A2, ⟨AAq, cAq, mAq, rfl⟩⟩ := P2.make hIA1B1 hAA1B1 hNA1B1A2 hgA1B1A2 (fun k hk => hk.2)
              skip
              have hIA1B1A2 := hJA1B1A2
              have hcaA1B1A2 : wA1B1A2.cell? ⟨q, 0, none⟩ = some (.slice (some ad) s.P.length c) := cell_gr hgA1B1A2 (fun e => by have e' : gA = q := Option.some.inj e; have h3 := hAA1B1.1.2; omega) hHeld
              have hBA1B1A2 := hBA1B1.turn htA1B1A2 hxA1B1A2 W.heap.size hyA1B1A2
              refine hK.out _ _ (hcaA1B1A2) (fun hHeld => ?_)
              clear hK K
              refine norm_ (a' := ?_) ?_ ?_
              rotate_left
              · show Act.put _ (some 60) _ = _
                simp only [Act.put, List.setIfInBounds_toArray, List.set_cons_zero, List.set_cons_succ, i64_w, i32_w]
                rfl
              exact norm_ (by simp only [putAll, Act.put, List.setIfInBounds_toArray, List.set_cons_zero, List.set_cons_succ]) (hCont (gA, (AAq, mAq, cAq), gB) _ ⟨SA1B1A2, (fun k => k = gB), hAA1B1A2, hBA1B1A2, hIA1B1A2, hcaA1B1A2⟩)
          · skip
            refine value_ (w1 := ?_) (v := ?_) (by rfl) rfl ?_ ?_
            rotate_left 2
            · go_simp
              constructor
              · rfl
              · rfl
            obtain ⟨wB1, hwB1⟩ : ∃ w, w = (w0.alloc (.cells #[] 5)).drew := ⟨_, rfl⟩
            have hcaB1 : wB1.cell? ⟨q, 0, none⟩ = some (.slice (some ad) s.P.length c) := by rw [hwB1]; exact cell_al _ hHeld
            have htB1 : Turn (fun _ => False) w0 wB1 := by rw [hwB1]; exact al_turn _ _
            obtain ⟨gB, hgB⟩ : ∃ g, g = w0.heap.size := ⟨_, rfl⟩
            obtain ⟨hBB1, hJB1⟩ := P1.make (Inv.start HB0.out).symm (show wB1.heap = w0.heap.push (.cells #[] 5) by rw [hwB1]; rfl) hgB htB1
            have hIB1 := hJB1.symm
            rw [← hwB1]
            simp only [← hgB]
            clear hwB1 hgB
            refine hK.out _ _ (hcaB1) (fun hHeld => ?_)
            clear hK K
            refine norm_ (a' := ?_) ?_ ?_
            rotate_left
            · show Act.put _ (some 62) _ = _
              simp only [Act.put, List.setIfInBounds_toArray, List.set_cons_zero, List.set_cons_succ, i64_w, i32_w]
              rfl
            refine one_ (i := 1) (N := some 53) #[true, true, true, true, true, true, true, true, false, true, true, true, false, false, false, false, true, true, true, true, true, true, false, false, false, false] rfl rfl (by kernel_rfl) (by decide) (fun K hK => ?_)
            refine value_ (w1 := ?_) (v := ?_) (by rfl) rfl ?_ ?_
            rotate_left 2
            · go_simp
              constructor
              · rfl
              · rfl
            obtain ⟨wB1A1, hwB1A1⟩ : ∃ w, w = (wB1.alloc (.cells #[] 50)) := ⟨_, rfl⟩
            have hcaB1A1 : wB1A1.cell? ⟨q, 0, none⟩ = some (.slice (some ad) s.P.length c) := by rw [hwB1A1]; exact cell_al _ hHeld
            have htB1A1 : Turn (fun _ => False) wB1 wB1A1 := by rw [hwB1A1]; exact al_turn' _ _
            obtain ⟨gA, hgA⟩ : ∃ g, g = wB1.heap.size := ⟨_, rfl⟩
            obtain ⟨hAB1A1, hJB1A1⟩ := P1.make hIB1 (show wB1A1.heap = wB1.heap.push (.cells #[] 50) by rw [hwB1A1]; rfl) hgA htB1A1
            have hIB1A1 := hJB1A1
            have hBB1A1 := hBB1.turn htB1A1 (fun k e => e.elim) W.heap.size (fun k e => e.elim)
            rw [← hwB1A1]
            simp only [← hgA]
            clear hwB1A1 hgA
            refine hK.out _ _ (hcaB1A1) (fun hHeld => ?_)
            clear hK K
            refine norm_ (a' := ?_) ?_ ?_
            rotate_left
            · show Act.put _ (some 53) _ = _
              simp only [Act.put, List.setIfInBounds_toArray, List.set_cons_zero, List.set_cons_succ, i64_w, i32_w]
              rfl
            refine one_ (i := 8) (N := some 60) #[true, true, true, true, true, true, true, true, true, true, true, true, false, false, false, false, true, true, true, true, true, true, false, false, false, false] rfl rfl (by kernel_rfl) (by decide) (fun K hK => ?_)
            refine Kd.N_append_rows_step k50 (w0 := W) W.heap.size (by rfl) (.tmp 53) (.tmp 59) 30 50 _ 40 (by rfl) Tryz.underlying30 info50 (by rfl) (by decide) (by decide) (.slice (some ⟨gA, 0, none⟩) 0 0) [] ((s.P.take k).map person) ((some ad)) k c (fun k => (ok k ∧ k < W.heap.size) ∨ k = gA ∨ wB1A1.heap.size ≤ k) (fun k => ok k ∧ k < W.heap.size) (by rfl) (by rfl) (k50_empty hAB1A1.1.1 hAB1A1.1.2 (.inr (.inl rfl))) (Kd.F_below HFT.out hIB1A1.below) (fun k hk => ⟨.inl hk, fun e => by have h2 := hk.2; have e' : k = gA := Option.some.inj e; have h3 := hAB1A1.1.2; omega⟩) (fun k hk => .inr (.inr hk)) hIB1A1.below hIB1A1.below.size (by simp; omega) ?_
            intro vA wB1A1A2 hNB1A1A2 hblB1A1A2 hgB1A1A2 hatB1A1A2
            obtain ⟨SB1A1A2, hAB1A1A2, hJB1A1A2, htB1A1A2, hxB1A1A2, hyB1A1A2, ⟨AAq, cAq, mAq, rfl⟩⟩ := P2.make hIB1A1 hAB1A1 hNB1A1A2 hgB1A1A2 (fun k hk => hk.2)
            skip
            have hIB1A1A2 := hJB1A1A2
            have hcaB1A1A2 : wB1A1A2.cell? ⟨q, 0, none⟩ = some (.slice (some ad) s.P.length c) := cell_gr hgB1A1A2 (fun e => by have e' : gA = q := Option.some.inj e; have h3 := hAB1A1.1.2; omega) hHeld
            have hBB1A1A2 := hBB1A1.turn htB1A1A2 hxB1A1A2 W.heap.size hyB1A1A2
            refine hK.out _ _ (hcaB1A1A2) (fun hHeld => ?_)
            clear hK K
            refine norm_ (a' := ?_) ?_ ?_
            rotate_left
            · show Act.put _ (some 60) _ = _
              simp only [Act.put, List.setIfInBounds_toArray, List.set_cons_zero, List.set_cons_succ, i64_w, i32_w]
              rfl
            exact norm_ (by simp only [putAll, Act.put, List.setIfInBounds_toArray, List.set_cons_zero, List.set_cons_succ]) (hCont (gA, (AAq, mAq, cAq), gB) _ ⟨SB1A1A2, (fun k => k = gB), hAB1A1A2, hBB1A1A2, hIB1A1A2, hcaB1A1A2⟩)
        rintro ⟨gA, ⟨AAq, mAq, cAq⟩, gB⟩ wJ ⟨SAJ, SBJ, hAJ, hBJ, hIJ, hHeld⟩
        simp only at hAJ hBJ
        refine norm_ (a' := ?_) ?_ ?_
        rotate_left
        · simp only [putAll, Act.put, List.setIfInBounds_toArray, List.set_cons_zero, List.set_cons_succ]
          rfl
        refine one_ (i := 12) (N := some 64) #[true, true, true, true, true, true, true, true, true, true, true, true, true, false, false, false, true, true, true, true, true, true, false, false, false, false] rfl rfl (by kernel_rfl) (by decide) (fun K hK => ?_)
        refine Kd.N_append_rows_step (Kd.int .u8) (w0 := W) W.heap.size (by rfl) (.tmp 62) (.tmp 63) 24 5 _ 1 (by rfl) Tryz.underlying24 info5 (by rfl) (by decide) (by decide) (.slice (some ⟨gB, 0, none⟩) 0 0) [] (ints pt) Ap pt.length cp (fun k => (ok' k ∧ k < W.heap.size) ∨ k = gB ∨ wJ.heap.size ≤ k) (fun k => ok' k ∧ k < W.heap.size) (by rfl) (by rfl) (E1.int hBJ.1 (.inr (.inl rfl))) (Kd.F_below HFP.out hIJ.below) (fun k hk => ⟨.inl hk, fun e => by have e' : k = gB := Option.some.inj e; have h2 := hk.2; have h3 := hBJ.1.2; omega⟩) (fun k hk => .inr (.inr hk)) hIJ.below hIJ.below.size (by simp; omega) ?_
        intro vB wJB2 hNJB2 hblJB2 hgJB2 hatJB2
        obtain ⟨SJB2, hBJB2, hJJB2, htJB2, hxJB2, hyJB2, ⟨AB, cB, mB, rfl⟩⟩ := P2.make hIJ.symm hBJ hNJB2 hgJB2 (fun k hk => hk.2)
        have hBJB2 := P2.tightI hBJB2 (fun k hk => hk.2)
        have hIJB2 := hJJB2.symm
        have hcaJB2 : wJB2.cell? ⟨q, 0, none⟩ = some (.slice (some ad) s.P.length c) := cell_gr hgJB2 (fun e => by have e' : gB = q := Option.some.inj e; have h3 := hBJ.1.2; omega) hHeld
        have hAJB2 := hAJ.turn htJB2 hxJB2 W.heap.size hyJB2
        refine hK.out _ _ (hcaJB2) (fun hHeld => ?_)
        clear hK K
        refine norm_ (a' := ?_) ?_ ?_
        rotate_left
        · show Act.put _ (some 64) _ = _
          simp only [Act.put, List.setIfInBounds_toArray, List.set_cons_zero, List.set_cons_succ, i64_w, i32_w]
          rfl
        refine pure_ (i := 13) (N := some 65) (v := ?_) (a' := ?_) #[true, true, true, true, true, true, true, true, true, true, true, true, true, true, false, false, true, true, true, true, true, true, false, false, false, false] rfl rfl (by kernel_rfl) (fun _ _ _ h => h) (Or.inl ⟨by rfl, ?_⟩) ?_ ?_
        rotate_left
        · intro w'
          go_simp
          with_reducible rfl
        rotate_left
        · simp only [Act.put, List.setIfInBounds_toArray, List.set_cons_zero, List.set_cons_succ, i64_w, i32_w]
          rfl
        refine one_ (i := 14) (N := some 66) #[true, true, true, true, true, true, true, true, true, true, true, true, true, true, true, false, true, true, true, true, true, true, false, false, false, false] rfl rfl (by kernel_rfl) (by decide) (fun K hK => ?_)
        refine value_ (w1 := ?_) (v := ?_) (by rfl) rfl ?_ ?_
        rotate_left 2
        · go_simp
          constructor
          · rfl
          · rfl
        obtain ⟨wJB2C, hwJB2C⟩ : ∃ w, w = (wJB2.alloc (.cells #[.string (mkS nm), .slice AB mB cB] 50)) := ⟨_, rfl⟩
        have hcaJB2C : wJB2C.cell? ⟨q, 0, none⟩ = some (.slice (some ad) s.P.length c) := by rw [hwJB2C]; exact cell_al _ hHeld
        have htJB2C : Turn (fun _ => False) wJB2 wJB2C := by rw [hwJB2C]; exact al_turn' _ _
        obtain ⟨gC, hgC⟩ : ∃ g, g = wJB2.heap.size := ⟨_, rfl⟩
        obtain ⟨SJB2C, hBJB2C, hJJB2C⟩ := P3.person (nm := mkS nm) hIJB2.symm hBJB2 (.inr hwJB2C) hgC htJB2C
        have hIJB2C := hJJB2C.symm
        have hAJB2C := hAJB2.turn htJB2C (fun k e => e.elim) W.heap.size (fun k e => e.elim)
        rw [← hwJB2C]
        simp only [← hgC]
        clear hwJB2C hgC
        refine hK.out _ _ (hcaJB2C) (fun hHeld => ?_)
        clear hK K
        refine norm_ (a' := ?_) ?_ ?_
        rotate_left
        · show Act.put _ (some 66) _ = _
          simp only [Act.put, List.setIfInBounds_toArray, List.set_cons_zero, List.set_cons_succ, i64_w, i32_w]
          rfl
        refine one_ (i := 15) (N := some 67) #[true, true, true, true, true, true, true, true, true, true, true, true, true, true, true, true, true, true, true, true, true, true, false, false, false, false] rfl rfl (by kernel_rfl) (by decide) (fun K hK => ?_)
        refine Kd.N_append_rows_step k50 (w0 := W) W.heap.size (by rfl) (.tmp 60) (.tmp 66) 30 50 _ 40 (by rfl) Tryz.underlying30 info50 (by rfl) (by decide) (by decide) (.slice AAq mAq cAq) ((s.P.take k).map person) [(⟨mkS nm, ints pt⟩ : S50)] (some ⟨gC, 0, none⟩) 1 1 ok SJB2C (by rfl) (by rfl) (Kd.N_mono hAJB2C.1 (fun k hk => by
                     rcases hk with hk | hk
                     · exact hk.1
                     · exact HFR.out k (hAJB2C.2.1 k hk).1)) hBJB2C.1 (fun k hk => ⟨HFR.out k (hBJB2C.2 k hk).1, fun e => by
                     have h2 := hAJB2C.1.1 k e.symm
                     rcases h2 with h2 | h2
                     · have := (hBJB2C.2 k hk).1; have := h2.2; omega
                     · exact hIJB2C.d k h2 hk⟩) (fun k hk => HFR.out k (Nat.le_trans hIJB2C.below.size hk)) hIJB2C.below hIJB2C.below.size (by simp; omega) ?_
        intro v1 w1 hN1 hB1 hg1 hat1
        refine hK.out _ _ (cell_gr hg1 (fun e => by have := Kd.N_base hAJB2C.1 q e; omega) hHeld) (fun hHeld => ?_)
        clear hK K
        refine norm_ (a' := ?_) ?_ ?_
        rotate_left
        · show Act.put _ (some 67) _ = _
          simp only [Act.put, List.setIfInBounds_toArray, List.set_cons_zero, List.set_cons_succ, i64_w, i32_w]
          rfl
        refine one_ (i := 22) (N := some 74) #[true, true, true, true, true, true, true, true, true, true, true, true, true, true, true, true, true, true, true, true, true, true, true, false, false, false] rfl rfl (by kernel_rfl) (by decide) (fun K hK => ?_)
        refine Kd.N_append_rows_step k50 (w0 := W) W.heap.size (by rfl) (.tmp 67) (.tmp 73) 30 50 _ 40 (by rfl) Tryz.underlying30 info50 (by rfl) (by decide) (by decide) v1 _ ((s.P.drop k).map person) _ (s.P.length - k) _ ok (fun k => ok k ∧ k < W.heap.size) (by rfl) (by rfl) hN1 (Kd.F_below HFD.out hB1) (fun k hk => ⟨hk.1, fun e => by have h1 := Kd.N_base hN1 k e.symm; have h2 := hk.2; omega⟩) (fun k hk => HFR.out k (Nat.le_trans hB1.size hk)) hB1 hB1.size (by simp; omega) ?_
        intro v2 w2 hN2 hB2 hg2 hat2
        obtain ⟨A3, c3, m3, rfl⟩ := n_slice hN2
        have hq2 : w2.heap[q]? = W.heap[q]? := hB2.block q hql
        have hc2 := keep_heap hq2 c0
        have hf2 := keep_heap_fz hq2 f0
        refine hK.out _ _ (cell_gr hg2 (fun e => by have := Kd.N_base hN1 q e; omega) hHeld) (fun hHeld => ?_)
        clear hK K
        refine norm_ (a' := ?_) ?_ ?_
        rotate_left
        · show Act.put _ (some 74) _ = _
          simp only [Act.put, List.setIfInBounds_toArray, List.set_cons_zero, List.set_cons_succ, i64_w, i32_w]
          rfl
        refine pure_ (i := 23) (N := some 75) (v := ?_) (a' := ?_) #[true, true, true, true, true, true, true, true, true, true, true, true, true, true, true, true, true, true, true, true, true, true, true, true, false, false] rfl rfl (by kernel_rfl) (fun _ _ _ h => h) (Or.inl ⟨by rfl, ?_⟩) ?_ ?_
        rotate_left
        · intro w'
          go_simp
          with_reducible rfl
        rotate_left
        · simp only [Act.put, List.setIfInBounds_toArray, List.set_cons_zero, List.set_cons_succ, i64_w, i32_w]
          rfl
        refine pure_ (i := 24) (N := some 76) (v := ?_) (a' := ?_) #[true, true, true, true, true, true, true, true, true, true, true, true, true, true, true, true, true, true, true, true, true, true, true, true, true, false] rfl rfl (by kernel_rfl) (fun _ _ _ h => h) (Or.inl ⟨by rfl, ?_⟩) ?_ ?_
        rotate_left
        · intro w'
          go_simp
          with_reducible rfl
        rotate_left
        · simp only [Act.put, List.setIfInBounds_toArray, List.set_cons_zero, List.set_cons_succ, i64_w, i32_w]
          rfl
        refine last_ (i := 25) (N := none) #[true, true, true, true, true, true, true, true, true, true, true, true, true, true, true, true, true, true, true, true, true, true, true, true, true, true] rfl rfl (by kernel_rfl) (by decide) (fun K hK => ?_)
        refine skip_ (w1 := ?_) (by rfl) rfl ?_ ?_
        rotate_left
        · go_simp
          rfl
        refine hK.out _ _ ?_
        clear hK K
        refine done_ (by kernel_rfl) ?_
        have hq0 : W.heap[q]? = some (.cells #[.slice (some ad) s.P.length c, .slice A2 s.G.length c2] 33 (0, 0)) := by
          have := HBK.out
          rwa [List.length_map, List.length_map] at this
        have hq3 := set_blk0 (hq2.trans hq0) (.slice A3 m3 c3)
        have hT : Turn (fun k => k = q) W (w2.setCell ⟨q, 0, none⟩ (.slice A3 m3 c3)) := (Turn.of_below hB2).trans (Turn.of_set w2 ⟨q, 0, none⟩ _)
        have HQ3 := Aside0.mk hq3
        have HT3 := Aside0.mk hT
        have HN2 := Aside0.mk hN2
        clear hq3 hT hN2 hq2 hc2 hf2 hHeld hg2 hat2 hB2 hN1 hB1 hg1 hat1
        go_wp2_with fail
        all_goals go_ret
        all_goals
          refine ⟨by rw [HX.out]; rfl, ?_, HT3.out⟩
          rw [HX.out, HINS.out]
          obtain ⟨A5, c5, e5, hl5, hf5⟩ := Kd.N_V (base' := 0) HN2.out
          have e6 : ((s.P.take k).map person ++ [(⟨mkS nm, ints pt⟩ : S50)]) ++ (s.P.drop k).map person = (s.P.take k ++ (nm, pt) :: s.P.drop k).map person := by simp [person]
          rw [e6] at e5 hl5 hf5
          exact ⟨⟨_, _, HQ3.out, ⟨A5, c5, e5, hl5, Kd.F_far hf5 (fun k hk e => HR.out.qok (by rw [← show k = q from e]; exact hk)) _⟩, ⟨A2, c2, by rw [List.length_map], by rw [List.length_map]; exact hl2, Kd.F_step HF2.out (fun k hk hlt => HT3.out.block k hlt (fun e => HR.out.qok (by rw [← e]; exact hk)))⟩⟩, HR.out.qok⟩
    · have hins := ins_split (x := pt) HBF.out (.inl (by omega : k = s.P.length)) HNO.out
      have HINS := Aside0.mk hins
      clear hins
      go_wp2_with fail
      have hic : 0 ≤ (k : Int) ∧ (k : Int) ≤ (c : Int) := by omega
      have hic1 : 0 ≤ (k : Int) ∧ (k : Int) ≤ (s.P.length : Int) := by omega
      have hql : q < W.heap.size := (Array.getElem?_eq_some_iff.1 HBK.out).1
      have HFT := Aside0.mk (f_take (i := k) HF.out (by omega))
      have HFD := Aside0.mk (f_drop (i := k) (c := c) HF.out (by omega) (by omega))
      have HFP := Aside0.mk (Kd.F_bound HFP.out)
      obtain ⟨w0, hw0⟩ : ∃ w0, w0 = W.drewN (m) := ⟨_, rfl⟩
      have hb0 : Below W.heap.size W w0 := by rw [hw0]; exact pw_below_drewN (Below.refl _ _) _
      have c0w : w0.drew.cell? ⟨q, 0, none⟩ = some (.slice (A) s.P.length c) := by rw [hw0]; exact c0
      rw [← hw0]
      have HB0 := Aside0.mk hb0
      clear hb0 hw0
      refine start_ (n := 26) (S := fun w' => w'.cell? ⟨q, 0, none⟩ = some (.slice (A) s.P.length c)) (ds := [25]) #[false, false, false, false, false, false, false, false, false, false, false, false, false, false, false, false, false, false, false, false, false, false, false, false, false, false] (by kernel_rfl) rfl rfl (c0w) (fun hHeld => ?_)
      refine pure_ (i := 0) (N := some 52) (v := ?_) (a' := ?_) #[true, false, false, false, false, false, false, false, false, false, false, false, false, false, false, false, false, false, false, false, false, false, false, false, false, false] rfl rfl (by kernel_rfl) (fun _ _ _ h => h) (Or.inl ⟨by rfl, ?_⟩) ?_ ?_
      rotate_left
      · intro w'
        go_simp
        with_reducible rfl
      rotate_left
      · simp only [Act.put, List.setIfInBounds_toArray, List.set_cons_zero, List.set_cons_succ, i64_w, i32_w]
        rfl
      refine pure_ (i := 2) (N := some 54) (v := ?_) (a' := ?_) #[true, false, true, false, false, false, false, false, false, false, false, false, false, false, false, false, false, false, false, false, false, false, false, false, false, false] rfl rfl (by kernel_rfl) (fun _ _ _ h => h) (Or.inl ⟨by rfl, ?_⟩) ?_ ?_
      rotate_left
      · intro w'
        go_simp
        with_reducible rfl
      rotate_left
      · simp only [Act.put, List.setIfInBounds_toArray, List.set_cons_zero, List.set_cons_succ, i64_w, i32_w]
        rfl
      refine pure_ (i := 3) (N := some 55) (v := ?_) (a' := ?_) #[true, false, true, true, false, false, false, false, false, false, false, false, false, false, false, false, false, false, false, false, false, false, false, false, false, false] rfl rfl (by kernel_rfl) (fun _ _ _ h => h) (Or.inl ⟨by rfl, ?_⟩) ?_ ?_
      rotate_left
      · intro w'
        go_simp
        with_reducible rfl
      rotate_left
      · simp only [Act.put, List.setIfInBounds_toArray, List.set_cons_zero, List.set_cons_succ, i64_w, i32_w]
        rfl
      refine pure_ (i := 4) (N := some 56) (v := ?_) (a' := ?_) #[true, false, true, true, true, false, false, false, false, false, false, false, false, false, false, false, false, false, false, false, false, false, false, false, false, false] rfl rfl (by kernel_rfl) (fun _ _ _ h => h) (Or.inl ⟨by rfl, ?_⟩) ?_ ?_
      rotate_left
      · intro w'
        go_simp
        with_reducible rfl
      rotate_left
      · simp only [Act.put, List.setIfInBounds_toArray, List.set_cons_zero, List.set_cons_succ, i64_w, i32_w]
        rfl
      refine pure_ (i := 6) (N := some 58) (v := ?_) (a' := ?_) #[true, false, true, true, true, false, true, false, false, false, false, false, false, false, false, false, false, false, false, false, false, false, false, false, false, false] rfl rfl (by kernel_rfl) (fun _ _ _ h => h) (Or.inl ⟨by rfl, ?_⟩) ?_ ?_
      rotate_left
      · intro w'
        go_simp
        with_reducible rfl
      rotate_left
      · simp only [Act.put, List.setIfInBounds_toArray, List.set_cons_zero, List.set_cons_succ, i64_w, i32_w]
        rfl
      refine pure_ (i := 9) (N := some 61) (v := ?_) (a' := ?_) #[true, false, true, true, true, false, true, false, false, true, false, false, false, false, false, false, false, false, false, false, false, false, false, false, false, false] rfl rfl (by kernel_rfl) (fun _ _ _ h => h) (Or.inl ⟨by rfl, ?_⟩) ?_ ?_
      rotate_left
      · intro w'
        go_simp
        with_reducible rfl
      rotate_left
      · simp only [Act.put, List.setIfInBounds_toArray, List.set_cons_zero, List.set_cons_succ, i64_w, i32_w]
        rfl
      refine pure_ (i := 11) (N := some 63) (v := ?_) (a' := ?_) #[true, false, true, true, true, false, true, false, false, true, false, true, false, false, false, false, false, false, false, false, false, false, false, false, false, false] rfl rfl (by kernel_rfl) (fun _ _ _ h => h) (Or.inl ⟨by rfl, ?_⟩) ?_ ?_
      rotate_left
      · intro w'
        go_simp
        with_reducible rfl
      rotate_left
      · simp only [Act.put, List.setIfInBounds_toArray, List.set_cons_zero, List.set_cons_succ, i64_w, i32_w]
        rfl
      refine pure_ (i := 16) (N := some 68) (v := ?_) (a' := ?_) #[true, false, true, true, true, false, true, false, false, true, false, true, false, false, false, false, true, false, false, false, false, false, false, false, false, false] rfl rfl (by kernel_rfl) (fun _ _ _ h => h) (Or.inl ⟨by rfl, ?_⟩) ?_ ?_
      rotate_left
      · intro w'
        go_simp
        with_reducible rfl
      rotate_left
      · simp only [Act.put, List.setIfInBounds_toArray, List.set_cons_zero, List.set_cons_succ, i64_w, i32_w]
        rfl
      refine pure_ (i := 17) (N := some 69) (v := ?_) (a' := ?_) #[true, false, true, true, true, false, true, false, false, true, false, true, false, false, false, false, true, true, false, false, false, false, false, false, false, false] rfl rfl (by kernel_rfl) (fun _ _ _ h => h) (Or.inl ⟨by rfl, ?_⟩) ?_ ?_
      rotate_left
      · intro w'
        go_simp
        with_reducible rfl
      rotate_left
      · simp only [Act.put, List.setIfInBounds_toArray, List.set_cons_zero, List.set_cons_succ, i64_w, i32_w]
        rfl
      refine pure_ (i := 18) (N := some 70) (v := ?_) (a' := ?_) #[true, false, true, true, true, false, true, false, false, true, false, true, false, false, false, false, true, true, true, false, false, false, false, false, false, false] rfl rfl (by kernel_rfl) (fun _ _ _ h => h) (Or.inl ⟨by rfl, ?_⟩) ?_ ?_
      rotate_left
      · intro w'
        go_simp
        with_reducible rfl
      rotate_left
      · simp only [Act.put, List.setIfInBounds_toArray, List.set_cons_zero, List.set_cons_succ, i64_w, i32_w]
        rfl
      refine pure_ (i := 20) (N := some 72) (v := ?_) (a' := ?_) #[true, false, true, true, true, false, true, false, false, true, false, true, false, false, false, false, true, true, true, false, true, false, false, false, false, false] rfl rfl (by kernel_rfl) (fun _ _ _ h => h) (Or.inl ⟨by rfl, ?_⟩) ?_ ?_
      rotate_left
      · intro w'
        go_simp
        with_reducible rfl
      rotate_left
      · simp only [Act.put, List.setIfInBounds_toArray, List.set_cons_zero, List.set_cons_succ, i64_w, i32_w]
        rfl
      refine take_ (i := 5) (N := some 57) (v := ?_) (a' := ?_) #[true, false, true, true, true, true, true, false, false, true, false, true, false, false, false, false, true, true, true, false, true, false, false, false, false, false] rfl rfl (by kernel_rfl) (fun _ _ _ h => h) (Or.inl ⟨by rfl, ?_⟩) hHeld ?_ ?_
      rotate_left
      · intro w' s0
        go_simp
        with_reducible rfl
      rotate_left
      · simp only [Act.put, List.setIfInBounds_toArray, List.set_cons_zero, List.set_cons_succ, i64_w, i32_w]
        rfl
      refine pure_ (i := 7) (N := some 59) (v := ?_) (a' := ?_) #[true, false, true, true, true, true, true, true, false, true, false, true, false, false, false, false, true, true, true, false, true, false, false, false, false, false] rfl rfl (by kernel_rfl) (fun _ _ _ h => h) (Or.inl ⟨by rfl, ?_⟩) ?_ ?_
      rotate_left
      · intro w'
        go_simp
        with_reducible rfl
      rotate_left
      · simp only [Act.put, List.setIfInBounds_toArray, List.set_cons_zero, List.set_cons_succ, i64_w, i32_w]
        rfl
      refine take_ (i := 19) (N := some 71) (v := ?_) (a' := ?_) #[true, false, true, true, true, true, true, true, false, true, false, true, false, false, false, false, true, true, true, true, true, false, false, false, false, false] rfl rfl (by kernel_rfl) (fun _ _ _ h => h) (Or.inl ⟨by rfl, ?_⟩) hHeld ?_ ?_
      rotate_left
      · intro w' s0
        go_simp
        with_reducible rfl
      rotate_left
      · simp only [Act.put, List.setIfInBounds_toArray, List.set_cons_zero, List.set_cons_succ, i64_w, i32_w]
        rfl
      refine pure_ (i := 21) (N := some 73) (v := ?_) (a' := ?_) #[true, false, true, true, true, true, true, true, false, true, false, true, false, false, false, false, true, true, true, true, true, true, false, false, false, false] rfl rfl (by kernel_rfl) (fun _ _ _ h => h) (Or.inl ⟨by rfl, ?_⟩) ?_ ?_
      rotate_left
      · intro w'
        go_simp
        with_reducible rfl
      rotate_left
      · simp only [Act.put, List.setIfInBounds_toArray, List.set_cons_zero, List.set_cons_succ, i64_w, i32_w]
        rfl
      refine join_ (σ := Nat × (Option Addr × Nat × Nat) × Nat) 8 #[true, true, true, true, true, true, true, true, true, true, true, true, false, false, false, false, true, true, true, true, true, true, false, false, false, false] (fun t => [(53, .slice (some ⟨t.1, 0, none⟩) 0 0), (60, .slice t.2.1.1 t.2.1.2.1 t.2.1.2.2), (62, .slice (some ⟨t.2.2, 0, none⟩) 0 0)]) (fun t w' => ∃ SA SB, P2 k50 50 W.heap.size (fun k => ok k ∧ k < W.heap.size) (.slice t.2.1.1 t.2.1.2.1 t.2.1.2.2) ((s.P.take k).map person) w' SA ∧ P1 5 W.heap.size t.2.2 w' SB ∧ Inv W w' SA SB ∧ w'.cell? ⟨q, 0, none⟩ = some (.slice (A) s.P.length c)) ?_ ?_
      rotate_left
      · intro hCont
        refine two_ (i := 1) (j := 10) (Ni := some 53) (Nj := some 62) #[true, true, true, true, true, true, true, true, false, true, false, true, false, false, false, false, true, true, true, true, true, true, false, false, false, false] #[true, false, true, true, true, true, true, true, false, true, true, true, false, false, false, false, true, true, true, true, true, true, false, false, false, false] rfl rfl rfl rfl (by kernel_rfl) (by decide) (by decide) (fun K hK => ?_) (fun K hK => ?_)
        · skip
          refine value_ (w1 := ?_) (v := ?_) (by rfl) rfl ?_ ?_
          rotate_left 2
          · go_simp
            constructor
            · rfl
            · rfl
          obtain ⟨wA1, hwA1⟩ : ∃ w, w = (w0.alloc (.cells #[] 50)).drew := ⟨_, rfl⟩
          have hcaA1 : wA1.cell? ⟨q, 0, none⟩ = some (.slice (A) s.P.length c) := by rw [hwA1]; exact cell_al _ hHeld
          have htA1 : Turn (fun _ => False) w0 wA1 := by rw [hwA1]; exact al_turn _ _
          obtain ⟨gA, hgA⟩ : ∃ g, g = w0.heap.size := ⟨_, rfl⟩
          obtain ⟨hAA1, hJA1⟩ := P1.make (Inv.start HB0.out) (show wA1.heap = w0.heap.push (.cells #[] 50) by rw [hwA1]; rfl) hgA htA1
          have hIA1 := hJA1
          rw [← hwA1]
          simp only [← hgA]
          clear hwA1 hgA
          refine hK.out _ _ (hcaA1) (fun hHeld => ?_)
          clear hK K
          refine norm_ (a' := ?_) ?_ ?_
          rotate_left
          · show Act.put _ (some 53) _ = _
            simp only [Act.put, List.setIfInBounds_toArray, List.set_cons_zero, List.set_cons_succ, i64_w, i32_w]
            rfl
          refine two_ (i := 8) (j := 10) (Ni := some 60) (Nj := some 62) #[true, true, true, true, true, true, true, true, true, true, false, true, false, false, false, false, true, true, true, true, true, true, false, false, false, false] #[true, true, true, true, true, true, true, true, false, true, true, true, false, false, false, false, true, true, true, true, true, true, false, false, false, false] rfl rfl rfl rfl (by kernel_rfl) (by decide) (by decide) (fun K hK => ?_) (fun K hK => ?_)
          · skip
            refine Kd.N_append_rows_step k50 (w0 := W) W.heap.size (by rfl) (.tmp 53) (.tmp 59) 30 50 _ 40 (by rfl) Tryz.underlying30 info50 (by rfl) (by decide) (by decide) (.slice (some ⟨gA, 0, none⟩) 0 0) [] ((s.P.take k).map person) ((A)) k c (fun k => (ok k ∧ k < W.heap.size) ∨ k = gA ∨ wA1.heap.size ≤ k) (fun k => ok k ∧ k < W.heap.size) (by rfl) (by rfl) (k50_empty hAA1.1.1 hAA1.1.2 (.inr (.inl rfl))) (Kd.F_below HFT.out hIA1.below) (fun k hk => ⟨.inl hk, fun e => by have h2 := hk.2; have e' : k = gA := Option.some.inj e; have h3 := hAA1.1.2; omega⟩) (fun k hk => .inr (.inr hk)) hIA1.below hIA1.below.size (by simp; omega) ?_
            intro vA wA1A2 hNA1A2 hblA1A2 hgA1A2 hatA1A2
            obtain ⟨SA1A2, hAA1A2, hJA1A2, htA1A2, hxA1A2, hyA1A2, ⟨AAq, cAq, mAq, rfl⟩⟩ := P2.make hIA1 hAA1 hNA1A2 hgA1A2 (fun k hk => hk.2)
            skip
            have hIA1A2 := hJA1A2
            have hcaA1A2 : wA1A2.cell? ⟨q, 0, none⟩ = some (.slice (A) s.P.length c) := cell_gr hgA1A2 (fun e => by have e' : gA = q := Option.some.inj e; have h3 := hAA1.1.2; omega) hHeld
            refine hK.out _ _ (hcaA1A2) (fun hHeld => ?_)
            clear hK K
            refine norm_ (a' := ?_) ?_ ?_
            rotate_left
            · show Act.put _ (some 60) _ = _
              simp only [Act.put, List.setIfInBounds_toArray, List.set_cons_zero, List.set_cons_succ, i64_w, i32_w]
              rfl
            refine one_ (i := 10) (N := some 62) #[true, true, true, true, true, true, true, true, true, true, true, true, false, false, false, false, true, true, true, true, true, true, false, false, false, false] rfl rfl (by kernel_rfl) (by decide) (fun K hK => ?_)
            refine value_ (w1 := ?_) (v := ?_) (by rfl) rfl ?_ ?_
            rotate_left 2
            · go_simp
              constructor
              · rfl
              · rfl
            obtain ⟨wA1A2B1, hwA1A2B1⟩ : ∃ w, w = (wA1A2.alloc (.cells #[] 5)) := ⟨_, rfl⟩
            have hcaA1A2B1 : wA1A2B1.cell? ⟨q, 0, none⟩ = some (.slice (A) s.P.length c) := by rw [hwA1A2B1]; exact cell_al _ hHeld
            have htA1A2B1 : Turn (fun _ => False) wA1A2 wA1A2B1 := by rw [hwA1A2B1]; exact al_turn' _ _
            obtain ⟨gB, hgB⟩ : ∃ g, g = wA1A2.heap.size := ⟨_, rfl⟩
            obtain ⟨hBA1A2B1, hJA1A2B1⟩ := P1.make hIA1A2.symm (show wA1A2B1.heap = wA1A2.heap.push (.cells #[] 5) by rw [hwA1A2B1]; rfl) hgB htA1A2B1
            have hIA1A2B1 := hJA1A2B1.symm
            have hAA1A2B1 := hAA1A2.turn htA1A2B1 (fun k e => e.elim) W.heap.size (fun k e => e.elim)
            rw [← hwA1A2B1]
            simp only [← hgB]
            clear hwA1A2B1 hgB
            refine hK.out _ _ (hcaA1A2B1) (fun hHeld => ?_)
            clear hK K
            refine norm_ (a' := ?_) ?_ ?_
            rotate_left
            · show Act.put _ (some 62) _ = _
              simp only [Act.put, List.setIfInBounds_toArray, List.set_cons_zero, List.set_cons_succ, i64_w, i32_w]
              rfl
            exact norm_ (by simp only [putAll, Act.put, List.setIfInBounds_toArray, List.set_cons_zero, List.set_cons_succ]) (hCont (gA, (AAq, mAq, cAq), gB) _ ⟨SA1A2, (fun k => k = gB), hAA1A2B1, hBA1A2B1, hIA1A2B1, hcaA1A2B1⟩)
          · skip
            refine value_ (w1 := ?_) (v := ?_) (by rfl) rfl ?_ ?_
            rotate_left 2
            · go_simp
              constructor
              · rfl
              · rfl
            obtain ⟨wA1B1, hwA1B1⟩ : ∃ w, w = (wA1.alloc (.cells #[] 5)) := ⟨_, rfl⟩
            have hcaA1B1 : wA1B1.cell? ⟨q, 0, none⟩ = some (.slice (A) s.P.length c) := by rw [hwA1B1]; exact cell_al _ hHeld
            have htA1B1 : Turn (fun _ => False) wA1 wA1B1 := by rw [hwA1B1]; exact al_turn' _ _
            obtain ⟨gB, hgB⟩ : ∃ g, g = wA1.heap.size := ⟨_, rfl⟩
            obtain ⟨hBA1B1, hJA1B1⟩ := P1.make hIA1.symm (show wA1B1.heap = wA1.heap.push (.cells #[] 5) by rw [hwA1B1]; rfl) hgB htA1B1
            have hIA1B1 := hJA1B1.symm
            have hAA1B1 := hAA1.turn htA1B1 (fun k e => e.elim) W.heap.size (fun k e => e.elim)
            rw [← hwA1B1]
            simp only [← hgB]
            clear hwA1B1 hgB
            refine hK.out _ _ (hcaA1B1) (fun hHeld => ?_)
            clear hK K
            refine norm_ (a' := ?_) ?_ ?_
            rotate_left
            · show Act.put _ (some 62) _ = _
              simp only [Act.put, List.setIfInBounds_toArray, List.set_cons_zero, List.set_cons_succ, i64_w, i32_w]
              rfl
            refine one_ (i := 8) (N := some 60) #[true, true, true, true, true, true, true, true, true, true, true, true, false, false, false, false, true, true, true, true, true, true, false, false, false, false] rfl rfl (by kernel_rfl) (by decide) (fun K hK => ?_)
            refine Kd.N_append_rows_step k50 (w0 := W) W.heap.size (by rfl) (.tmp 53) (.tmp 59) 30 50 _ 40 (by rfl) Tryz.underlying30 info50 (by rfl) (by decide) (by decide) (.slice (some ⟨gA, 0, none⟩) 0 0) [] ((s.P.take k).map person) ((A)) k c (fun k => (ok k ∧ k < W.heap.size) ∨ k = gA ∨ wA1B1.heap.size ≤ k) (fun k => ok k ∧ k < W.heap.size) (by rfl) (by rfl) (k50_empty hAA1B1.1.1 hAA1B1.1.2 (.inr (.inl rfl))) (Kd.F_below HFT.out hIA1B1.below) (fun k hk => ⟨.inl hk, fun e => by have h2 := hk.2; have e' : k = gA := Option.some.inj e; have h3 := hAA1B1.1.2; omega⟩) (fun k hk => .inr (.inr hk)) hIA1B1.below hIA1B1.below.size (by simp; omega) ?_
            intro vA wA1B1A2 hNA1B1A2 hblA1B1A2 hgA1B1A2 hatA1B1A2
            obtain ⟨SA1B1A2, hAA1B1A2, hJA1B1A2, htA1B1A2, hxA1B1A2, hyA1B1A2, ⟨AAq, cAq, mAq, rfl⟩⟩ := P2.make hIA1B1 hAA1B1 hNA1B1A2 hgA1B1A2 (fun k hk => hk.2)
            skip
            have hIA1B1A2 := hJA1B1A2
            have hcaA1B1A2 : wA1B1A2.cell? ⟨q, 0, none⟩ = some (.slice (A) s.P.length c) := cell_gr hgA1B1A2 (fun e => by have e' : gA = q := Option.some.inj e; have h3 := hAA1B1.1.2; omega) hHeld
            have hBA1B1A2 := hBA1B1.turn htA1B1A2 hxA1B1A2 W.heap.size hyA1B1A2
            refine hK.out _ _ (hcaA1B1A2) (fun hHeld => ?_)
            clear hK K
            refine norm_ (a' := ?_) ?_ ?_
            rotate_left
            · show Act.put _ (some 60) _ = _
              simp only [Act.put, List.setIfInBounds_toArray, List.set_cons_zero, List.set_cons_succ, i64_w, i32_w]
              rfl
            exact norm_ (by simp only [putAll, Act.put, List.setIfInBounds_toArray, List.set_cons_zero, List.set_cons_succ]) (hCont (gA, (AAq, mAq, cAq), gB) _ ⟨SA1B1A2, (fun k => k = gB), hAA1B1A2, hBA1B1A2, hIA1B1A2, hcaA1B1A2⟩)
        · skip
          refine value_ (w1 := ?_) (v := ?_) (by rfl) rfl ?_ ?_
          rotate_left 2
          · go_simp
            constructor
            · rfl
            · rfl
          obtain ⟨wB1, hwB1⟩ : ∃ w, w = (w0.alloc (.cells #[] 5)).drew := ⟨_, rfl⟩
          have hcaB1 : wB1.cell? ⟨q, 0, none⟩ = some (.slice (A) s.P.length c) := by rw [hwB1]; exact cell_al _ hHeld
          have htB1 : Turn (fun _ => False) w0 wB1 := by rw [hwB1]; exact al_turn _ _
          obtain ⟨gB, hgB⟩ : ∃ g, g = w0.heap.size := ⟨_, rfl⟩
          obtain ⟨hBB1, hJB1⟩ := P1.make (Inv.start HB0.out).symm (show wB1.heap = w0.heap.push (.cells #[] 5) by rw [hwB1]; rfl) hgB htB1
          have hIB1 := hJB1.symm
          rw [← hwB1]
          simp only [← hgB]
          clear hwB1 hgB
          refine hK.out _ _ (hcaB1) (fun hHeld => ?_)
          clear hK K
          refine norm_ (a' := ?_) ?_ ?_
          rotate_left
          · show Act.put _ (some 62) _ = _
            simp only [Act.put, List.setIfInBounds_toArray, List.set_cons_zero, List.set_cons_succ, i64_w, i32_w]
            rfl
          refine one_ (i := 1) (N := some 53) #[true, true, true, true, true, true, true, true, false, true, true, true, false, false, false, false, true, true, true, true, true, true, false, false, false, false] rfl rfl (by kernel_rfl) (by decide) (fun K hK => ?_)
          refine value_ (w1 := ?_) (v := ?_) (by rfl) rfl ?_ ?_
          rotate_left 2
          · go_simp
            constructor
            · rfl
            · rfl
          obtain ⟨wB1A1, hwB1A1⟩ : ∃ w, w = (wB1.alloc (.cells #[] 50)) := ⟨_, rfl⟩
          have hcaB1A1 : wB1A1.cell? ⟨q, 0, none⟩ = some (.slice (A) s.P.length c) := by rw [hwB1A1]; exact cell_al _ hHeld
          have htB1A1 : Turn (fun _ => False) wB1 wB1A1 := by rw [hwB1A1]; exact al_turn' _ _
          obtain ⟨gA, hgA⟩ : ∃ g, g = wB1.heap.size := ⟨_, rfl⟩
          obtain ⟨hAB1A1, hJB1A1⟩ := P1.make hIB1 (show wB1A1.heap = wB1.heap.push (.cells #[] 50) by rw [hwB1A1]; rfl) hgA htB1A1
          have hIB1A1 := hJB1A1
          have hBB1A1 := hBB1.turn htB1A1 (fun k e => e.elim) W.heap.size (fun k e => e.elim)
          rw [← hwB1A1]
          simp only [← hgA]
          clear hwB1A1 hgA
          refine hK.out _ _ (hcaB1A1) (fun hHeld => ?_)
          clear hK K
          refine norm_ (a' := ?_) ?_ ?_
          rotate_left
          · show Act.put _ (some 53) _ = _
            simp only [Act.put, List.setIfInBounds_toArray, List.set_cons_zero, List.set_cons_succ, i64_w, i32_w]
            rfl
          refine one_ (i := 8) (N := some 60) #[true, true, true, true, true, true, true, true, true, true, true, true, false, false, false, false, true, true, true, true, true, true, false, false, false, false] rfl rfl (by kernel_rfl) (by decide) (fun K hK => ?_)
          refine Kd.N_append_rows_step k50 (w0 := W) W.heap.size (by rfl) (.tmp 53) (.tmp 59) 30 50 _ 40 (by rfl) Tryz.underlying30 info50 (by rfl) (by decide) (by decide) (.slice (some ⟨gA, 0, none⟩) 0 0) [] ((s.P.take k).map person) ((A)) k c (fun k => (ok k ∧ k < W.heap.size) ∨ k = gA ∨ wB1A1.heap.size ≤ k) (fun k => ok k ∧ k < W.heap.size) (by rfl) (by rfl) (k50_empty hAB1A1.1.1 hAB1A1.1.2 (.inr (.inl rfl))) (Kd.F_below HFT.out hIB1A1.below) (fun k hk => ⟨.inl hk, fun e => by have h2 := hk.2; have e' : k = gA := Option.some.inj e; have h3 := hAB1A1.1.2; omega⟩) (fun k hk => .inr (.inr hk)) hIB1A1.below hIB1A1.below.size (by simp; omega) ?_
          intro vA wB1A1A2 hNB1A1A2 hblB1A1A2 hgB1A1A2 hatB1A1A2
          obtain ⟨SB1A1A2, hAB1A1A2, hJB1A1A2, htB1A1A2, hxB1A1A2, hyB1A1A2, ⟨AAq, cAq, mAq, rfl⟩⟩ := P2.make hIB1A1 hAB1A1 hNB1A1A2 hgB1A1A2 (fun k hk => hk.2)
          skip
          have hIB1A1A2 := hJB1A1A2
          have hcaB1A1A2 : wB1A1A2.cell? ⟨q, 0, none⟩ = some (.slice (A) s.P.length c) := cell_gr hgB1A1A2 (fun e => by have e' : gA = q := Option.some.inj e; have h3 := hAB1A1.1.2; omega) hHeld
          have hBB1A1A2 := hBB1A1.turn htB1A1A2 hxB1A1A2 W.heap.size hyB1A1A2
          refine hK.out _ _ (hcaB1A1A2) (fun hHeld => ?_)
          clear hK K
          refine norm_ (a' := ?_) ?_ ?_
          rotate_left
          · show Act.put _ (some 60) _ = _
            simp only [Act.put, List.setIfInBounds_toArray, List.set_cons_zero, List.set_cons_succ, i64_w, i32_w]
            rfl
          exact norm_ (by simp only [putAll, Act.put, List.setIfInBounds_toArray, List.set_cons_zero, List.set_cons_succ]) (hCont (gA, (AAq, mAq, cAq), gB) _ ⟨SB1A1A2, (fun k => k = gB), hAB1A1A2, hBB1A1A2, hIB1A1A2, hcaB1A1A2⟩)
      rintro ⟨gA, ⟨AAq, mAq, cAq⟩, gB⟩ wJ ⟨SAJ, SBJ, hAJ, hBJ, hIJ, hHeld⟩
      simp only at hAJ hBJ
      refine norm_ (a' := ?_) ?_ ?_
      rotate_left
      · simp only [putAll, Act.put, List.setIfInBounds_toArray, List.set_cons_zero, List.set_cons_succ]
        rfl
      refine one_ (i := 12) (N := some 64) #[true, true, true, true, true, true, true, true, true, true, true, true, true, false, false, false, true, true, true, true, true, true, false, false, false, false] rfl rfl (by kernel_rfl) (by decide) (fun K hK => ?_)
      refine Kd.N_append_rows_step (Kd.int .u8) (w0 := W) W.heap.size (by rfl) (.tmp 62) (.tmp 63) 24 5 _ 1 (by rfl) Tryz.underlying24 info5 (by rfl) (by decide) (by decide) (.slice (some ⟨gB, 0, none⟩) 0 0) [] (ints pt) Ap pt.length cp (fun k => (ok' k ∧ k < W.heap.size) ∨ k = gB ∨ wJ.heap.size ≤ k) (fun k => ok' k ∧ k < W.heap.size) (by rfl) (by rfl) (E1.int hBJ.1 (.inr (.inl rfl))) (Kd.F_below HFP.out hIJ.below) (fun k hk => ⟨.inl hk, fun e => by have e' : k = gB := Option.some.inj e; have h2 := hk.2; have h3 := hBJ.1.2; omega⟩) (fun k hk => .inr (.inr hk)) hIJ.below hIJ.below.size (by simp; omega) ?_
      intro vB wJB2 hNJB2 hblJB2 hgJB2 hatJB2
      obtain ⟨SJB2, hBJB2, hJJB2, htJB2, hxJB2, hyJB2, ⟨AB, cB, mB, rfl⟩⟩ := P2.make hIJ.symm hBJ hNJB2 hgJB2 (fun k hk => hk.2)
      have hBJB2 := P2.tightI hBJB2 (fun k hk => hk.2)
      have hIJB2 := hJJB2.symm
      have hcaJB2 : wJB2.cell? ⟨q, 0, none⟩ = some (.slice (A) s.P.length c) := cell_gr hgJB2 (fun e => by have e' : gB = q := Option.some.inj e; have h3 := hBJ.1.2; omega) hHeld
      have hAJB2 := hAJ.turn htJB2 hxJB2 W.heap.size hyJB2
      refine hK.out _ _ (hcaJB2) (fun hHeld => ?_)
      clear hK K
      refine norm_ (a' := ?_) ?_ ?_
      rotate_left
      · show Act.put _ (some 64) _ = _
        simp only [Act.put, List.setIfInBounds_toArray, List.set_cons_zero, List.set_cons_succ, i64_w, i32_w]
        rfl
      refine pure_ (i := 13) (N := some 65) (v := ?_) (a' := ?_) #[true, true, true, true, true, true, true, true, true, true, true, true, true, true, false, false, true, true, true, true, true, true, false, false, false, false] rfl rfl (by kernel_rfl) (fun _ _ _ h => h) (Or.inl ⟨by rfl, ?_⟩) ?_ ?_
      rotate_left
      · intro w'
        go_simp
        with_reducible rfl
      rotate_left
      · simp only [Act.put, List.setIfInBounds_toArray, List.set_cons_zero, List.set_cons_succ, i64_w, i32_w]
        rfl
      refine one_ (i := 14) (N := some 66) #[true, true, true, true, true, true, true, true, true, true, true, true, true, true, true, false, true, true, true, true, true, true, false, false, false, false] rfl rfl (by kernel_rfl) (by decide) (fun K hK => ?_)
      refine value_ (w1 := ?_) (v := ?_) (by rfl) rfl ?_ ?_
      rotate_left 2
      · go_simp
        constructor
        · rfl
        · rfl
      obtain ⟨wJB2C, hwJB2C⟩ : ∃ w, w = (wJB2.alloc (.cells #[.string (mkS nm), .slice AB mB cB] 50)) := ⟨_, rfl⟩
      have hcaJB2C : wJB2C.cell? ⟨q, 0, none⟩ = some (.slice (A) s.P.length c) := by rw [hwJB2C]; exact cell_al _ hHeld
      have htJB2C : Turn (fun _ => False) wJB2 wJB2C := by rw [hwJB2C]; exact al_turn' _ _
      obtain ⟨gC, hgC⟩ : ∃ g, g = wJB2.heap.size := ⟨_, rfl⟩
      obtain ⟨SJB2C, hBJB2C, hJJB2C⟩ := P3.person (nm := mkS nm) hIJB2.symm hBJB2 (.inr hwJB2C) hgC htJB2C
      have hIJB2C := hJJB2C.symm
      have hAJB2C := hAJB2.turn htJB2C (fun k e => e.elim) W.heap.size (fun k e => e.elim)
      rw [← hwJB2C]
      simp only [← hgC]
      clear hwJB2C hgC
      refine hK.out _ _ (hcaJB2C) (fun hHeld => ?_)
      clear hK K
      refine norm_ (a' := ?_) ?_ ?_
      rotate_left
      · show Act.put _ (some 66) _ = _
        simp only [Act.put, List.setIfInBounds_toArray, List.set_cons_zero, List.set_cons_succ, i64_w, i32_w]
        rfl
      refine one_ (i := 15) (N := some 67) #[true, true, true, true, true, true, true, true, true, true, true, true, true, true, true, true, true, true, true, true, true, true, false, false, false, false] rfl rfl (by kernel_rfl) (by decide) (fun K hK => ?_)
      refine Kd.N_append_rows_step k50 (w0 := W) W.heap.size (by rfl) (.tmp 60) (.tmp 66) 30 50 _ 40 (by rfl) Tryz.underlying30 info50 (by rfl) (by decide) (by decide) (.slice AAq mAq cAq) ((s.P.take k).map person) [(⟨mkS nm, ints pt⟩ : S50)] (some ⟨gC, 0, none⟩) 1 1 ok SJB2C (by rfl) (by rfl) (Kd.N_mono hAJB2C.1 (fun k hk => by
                   rcases hk with hk | hk
                   · exact hk.1
                   · exact HFR.out k (hAJB2C.2.1 k hk).1)) hBJB2C.1 (fun k hk => ⟨HFR.out k (hBJB2C.2 k hk).1, fun e => by
                   have h2 := hAJB2C.1.1 k e.symm
                   rcases h2 with h2 | h2
                   · have := (hBJB2C.2 k hk).1; have := h2.2; omega
                   · exact hIJB2C.d k h2 hk⟩) (fun k hk => HFR.out k (Nat.le_trans hIJB2C.below.size hk)) hIJB2C.below hIJB2C.below.size (by simp; omega) ?_
      intro v1 w1 hN1 hB1 hg1 hat1
      refine hK.out _ _ (cell_gr hg1 (fun e => by have := Kd.N_base hAJB2C.1 q e; omega) hHeld) (fun hHeld => ?_)
      clear hK K
      refine norm_ (a' := ?_) ?_ ?_
      rotate_left
      · show Act.put _ (some 67) _ = _
        simp only [Act.put, List.setIfInBounds_toArray, List.set_cons_zero, List.set_cons_succ, i64_w, i32_w]
        rfl
      refine one_ (i := 22) (N := some 74) #[true, true, true, true, true, true, true, true, true, true, true, true, true, true, true, true, true, true, true, true, true, true, true, false, false, false] rfl rfl (by kernel_rfl) (by decide) (fun K hK => ?_)
      refine Kd.N_append_rows_step k50 (w0 := W) W.heap.size (by rfl) (.tmp 67) (.tmp 73) 30 50 _ 40 (by rfl) Tryz.underlying30 info50 (by rfl) (by decide) (by decide) v1 _ ((s.P.drop k).map person) _ (s.P.length - k) _ ok (fun k => ok k ∧ k < W.heap.size) (by rfl) (by rfl) hN1 (Kd.F_below HFD.out hB1) (fun k hk => ⟨hk.1, fun e => by have h1 := Kd.N_base hN1 k e.symm; have h2 := hk.2; omega⟩) (fun k hk => HFR.out k (Nat.le_trans hB1.size hk)) hB1 hB1.size (by simp; omega) ?_
      intro v2 w2 hN2 hB2 hg2 hat2
      obtain ⟨A3, c3, m3, rfl⟩ := n_slice hN2
      have hq2 : w2.heap[q]? = W.heap[q]? := hB2.block q hql
      have hc2 := keep_heap hq2 c0
      have hf2 := keep_heap_fz hq2 f0
      refine hK.out _ _ (cell_gr hg2 (fun e => by have := Kd.N_base hN1 q e; omega) hHeld) (fun hHeld => ?_)
      clear hK K
      refine norm_ (a' := ?_) ?_ ?_
      rotate_left
      · show Act.put _ (some 74) _ = _
        simp only [Act.put, List.setIfInBounds_toArray, List.set_cons_zero, List.set_cons_succ, i64_w, i32_w]
        rfl
      refine pure_ (i := 23) (N := some 75) (v := ?_) (a' := ?_) #[true, true, true, true, true, true, true, true, true, true, true, true, true, true, true, true, true, true, true, true, true, true, true, true, false, false] rfl rfl (by kernel_rfl) (fun _ _ _ h => h) (Or.inl ⟨by rfl, ?_⟩) ?_ ?_
      rotate_left
      · intro w'
        go_simp
        with_reducible rfl
      rotate_left
      · simp only [Act.put, List.setIfInBounds_toArray, List.set_cons_zero, List.set_cons_succ, i64_w, i32_w]
        rfl
      refine pure_ (i := 24) (N := some 76) (v := ?_) (a' := ?_) #[true, true, true, true, true, true, true, true, true, true, true, true, true, true, true, true, true, true, true, true, true, true, true, true, true, false] rfl rfl (by kernel_rfl) (fun _ _ _ h => h) (Or.inl ⟨by rfl, ?_⟩) ?_ ?_
      rotate_left
      · intro w'
        go_simp
        with_reducible rfl
      rotate_left
      · simp only [Act.put, List.setIfInBounds_toArray, List.set_cons_zero, List.set_cons_succ, i64_w, i32_w]
        rfl
      refine last_ (i := 25) (N := none) #[true, true, true, true, true, true, true, true, true, true, true, true, true, true, true, true, true, true, true, true, true, true, true, true, true, true] rfl rfl (by kernel_rfl) (by decide) (fun K hK => ?_)
      refine skip_ (w1 := ?_) (by rfl) rfl ?_ ?_
      rotate_left
      · go_simp
        rfl
      refine hK.out _ _ ?_
      clear hK K
      refine done_ (by kernel_rfl) ?_
      have hq0 : W.heap[q]? = some (.cells #[.slice (A) s.P.length c, .slice A2 s.G.length c2] 33 (0, 0)) := by
        have := HBK.out
        rwa [List.length_map, List.length_map] at this
      have hq3 := set_blk0 (hq2.trans hq0) (.slice A3 m3 c3)
      have hT : Turn (fun k => k = q) W (w2.setCell ⟨q, 0, none⟩ (.slice A3 m3 c3)) := (Turn.of_below hB2).trans (Turn.of_set w2 ⟨q, 0, none⟩ _)
      have HQ3 := Aside0.mk hq3
      have HT3 := Aside0.mk hT
      have HN2 := Aside0.mk hN2
      clear hq3 hT hN2 hq2 hc2 hf2 hHeld hg2 hat2 hB2 hN1 hB1 hg1 hat1
      go_wp2_with fail
      all_goals go_ret
      all_goals
        refine ⟨by rw [HX.out]; rfl, ?_, HT3.out⟩
        rw [HX.out, HINS.out]
        obtain ⟨A5, c5, e5, hl5, hf5⟩ := Kd.N_V (base' := 0) HN2.out
        have e6 : ((s.P.take k).map person ++ [(⟨mkS nm, ints pt⟩ : S50)]) ++ (s.P.drop k).map person = (s.P.take k ++ (nm, pt) :: s.P.drop k).map person := by simp [person]
        rw [e6] at e5 hl5 hf5
        exact ⟨⟨_, _, HQ3.out, ⟨A5, c5, e5, hl5, Kd.F_far hf5 (fun k hk e => HR.out.qok (by rw [← show k = q from e]; exact hk)) _⟩, ⟨A2, c2, by rw [List.length_map], by rw [List.length_map]; exact hl2, Kd.F_step HF2.out (fun k hk hlt => HT3.out.block k hlt (fun e => HR.out.qok (by rw [← e]; exact hk)))⟩⟩, HR.out.qok⟩
end Go.Proofs.YtflioeiklcnncaaGreatDoor.Ri
