/- Texts of the rings, together. -/
import Derived.Test.YtflioeiklcnncaaGreatDoorRd
import Derived.Laws.EntriesVeiled
import Derived.Test.YtflioeiklcnncaaGreatDoorWQPut
import Derived.Deep.LoopGhost
set_option linter.unusedVariables false
set_option linter.unusedSimpArgs false
namespace Go.Proofs.YtflioeiklcnncaaGreatDoor.Ri
open Go.RowKit Go.Maps Go.Sort Go.Proofs.YtflioeiklcnncaaGreatDoorW.PrintLast Go.Proofs.YtflioeiklcnncaaGreatDoorW.PrintWords Go.Proofs.YtflioeiklcnncaaGreatDoor.PRing

theorem dup_take {l : List B} (h : ∀ k, (hk : k < l.length) → l[k] ∉ l.take k) : dup l = false := by
  unfold dup
  simp only [decide_eq_false_iff_not, Classical.not_not]
  rw [List.Nodup, List.pairwise_iff_getElem]
  intro i j hi hj hij e
  apply h j hj
  rw [List.mem_iff_getElem]
  exact ⟨i, by simp; omega, by rw [List.getElem_take]; exact e⟩
theorem dup_at {l : List B} {k : Nat} (hk : k < l.length) (h : l[k] ∈ l.take k) : dup l = true := by
  unfold dup
  simp only [decide_eq_true_eq]
  exact fun hn => not_take hn hk h
set_option maxRecDepth 100000 in
set_option maxHeartbeats 4000000 in
theorem Group27 {W : World} {ok ok' : Nat → Prop} {q : Nat} {s : St} (h : RefAt W ok q s) (hS : Good s) (hfresh : ∀ k, W.heap.size ≤ k → ok k) (nm : B) (hnm : nm.length ≤ 1000) {pv : Value} {ms : List B} (hp : Strs W ok' pv ms) (hml : ms.length ≤ 1000) :
    Calls Tryz.prog 27 #[.pointer (some ⟨q, 0, none⟩), .string (mkS nm), pv] W (RefPost W ok q (group1 s nm ms)) := by
  have HNM := Aside0.mk (fun W' : World => name55 (mkS nm) (by rw [mkS_size]; omega) W')
  have HLS := Aside0.mk (fun (a : B) (ha : a.length ≤ 1000) (W' : World) => less56 (mkS a) (mkS nm) (by rw [mkS_size]; omega) W')
  have HTH := Aside0.mk (fun (x : B) (W' : World) (h' : RefAt W' ok q s) => there34 h' hS.p hS.g x)
  have HR := Aside0.mk h
  obtain ⟨Ap, cp, rfl, hlp, hfp⟩ := hp
  obtain ⟨vp, vg, hb, ⟨A2, c2, rfl, hl2, hf2⟩, ⟨A, c, rfl, hl, hf⟩⟩ := h.blk
  obtain ⟨c0, c1, f0, f1⟩ := two_cells hb
  rw [List.length_map] at c0 hl2
  rw [List.length_map] at c1 hl
  rw [List.length_map] at hlp hfp ⊢
  have HF := Aside0.mk hf
  have HF2 := Aside0.mk hf2
  have HFP := Aside0.mk hfp
  have HS := Aside0.mk hS
  have HBK := Aside0.mk hb
  have HFR := Aside0.mk hfresh
  have hp1 : s.G.length ≤ 1000 := hS.g
  clear h hf hf2 hfp hS hb hfresh
  by_cases h1 : nameOK nm = false
  · have hx : group1 s nm ms = (1, s) := by unfold group1; rw [if_pos (.inl h1)]
    have HX := Aside0.mk hx
    have H1 := Aside0.mk h1
    clear hx h1
    as_aux_lemma =>
    go_enter Tryz.func27, Tryz.ntmps27
    go_wp2_with fail
    have hc := HNM.out W
    rw [bz_mkS, H1.out] at hc
    refine hc.mono ?_
    rintro e w1 ⟨rfl, ⟨n, rfl⟩⟩
    clear hc
    go_wp2_with fail
    go_ret
    exact ⟨by rw [HX.out]; rfl, by rw [HX.out]; exact HR.out.below (pw_below_drewN (Below.refl _ _) n), .of_below (pw_below_drewN (Below.refl _ _) n)⟩
  have h1' : nameOK nm = true := by simpa using h1
  have HNM1 := Aside0.mk (show ∀ W' : World, Calls Tryz.prog 55 #[.string (mkS nm)] W' fun e w' => e = .returned (.bool true) ∧ Drawn0 W' w' from fun W' => by have := HNM.out W'; rwa [bz_mkS, h1'] at this)
  by_cases h2 : 32 < ms.length
  · have hx : group1 s nm ms = (1, s) := by unfold group1; rw [if_pos (.inr (.inl h2))]
    have HX := Aside0.mk hx
    have h2i : (32 : Int) < (ms.length : Int) := by omega
    clear hx h1 h1'
    as_aux_lemma =>
    go_enter Tryz.func27, Tryz.ntmps27
    go_wp2_with fail
    refine (HNM1.out W).mono ?_
    rintro e w1 ⟨rfl, ⟨n, rfl⟩⟩
    go_wp2_with fail
    go_ret
    exact ⟨by rw [HX.out]; rfl, by rw [HX.out]; exact HR.out.below (pw_below_drewN (Below.refl _ _) n), .of_below (pw_below_drewN (Below.refl _ _) n)⟩
  have h2i : ¬ (32 : Int) < (ms.length : Int) := by omega
  have H1 := Aside0.mk h1'
  have H2 := Aside0.mk h2
  clear h1 h1' h2
  go_enter Tryz.func27, Tryz.ntmps27
  go_wp2_with fail
  refine (HNM1.out W).mono ?_
  rintro e w1 ⟨rfl, ⟨n, rfl⟩⟩
  go_wp2_with fail
  go_loopw [7] (fun i wr => ∃ k m : Nat, k ≤ ms.length ∧ i = .int .i64 k ∧ (∀ z, (hz : z < ms.length) → z < k → ms[z] ∉ ms.take z) ∧ wr = W.drewN m) (fun i _ => ms.length - (intOf i).toNat)
  case atStart => exact ⟨0, n, Nat.zero_le _, rfl, fun z _ hz => absurd hz (by omega), rfl⟩
  case round =>
    obtain ⟨k, m, hk, rfl, hd, rfl⟩ := hrel
    have HD := Aside0.mk hd
    clear hd
    by_cases hlt : k < ms.length
    · obtain ⟨ad, rfl, hcell⟩ := str_at (l := ms) HFP.out hlt
      have hic : 0 ≤ (k : Int) ∧ (k : Int) ≤ (cp : Int) := by omega
      have hic1 : 0 ≤ (k : Int) ∧ (k : Int) < (ms.length : Int) := by omega
      have hin := fun W' (hb : Below W.heap.size W W') => in19 (W := W') (ok := fun k => ok' k ∧ k < W.heap.size) (v := .slice (some ad) k cp) (l := ms.take k) ⟨some ad, cp, by simp; omega, by simp; omega, by
        have h3 := Kd.F_below (f_take (f := mkS) (i := k) (by rw [List.length_map]; exact HFP.out) (by omega)) hb
        rw [List.length_map, List.length_take, Nat.min_eq_left (by omega)]
        exact h3⟩ (mkS ms[k])
      rw [bz_mkS] at hin
      have HIN := Aside0.mk hin
      clear hin
      by_cases he : ms[k] ∈ ms.take k
      · have hx : group1 s nm ms = (1, s) := by unfold group1; rw [if_pos (.inr (.inr (dup_at hlt he)))]
        have HX := Aside0.mk hx
        have HDT := Aside0.mk (show decide (ms[k] ∈ ms.take k) = true from decide_eq_true he)
        clear hx he
        as_aux_lemma =>
        go_wp2_with fail
        refine start_ (n := 8) (S := fun w' => w'.cell? (ad.add k) = some (.string (mkS ms[k]))) (ds := []) #[false, false, false, false, false, false, false, false] (by kernel_rfl) rfl rfl (hcell) (fun hHeld => ?_)
        refine pure_ (i := 0) (N := some 24) (v := ?_) (a' := ?_) #[true, false, false, false, false, false, false, false] rfl rfl (by kernel_rfl) (fun _ _ _ h => h) (Or.inl ⟨by rfl, ?_⟩) ?_ ?_
        rotate_left
        · intro w'
          go_simp
          with_reducible rfl
        rotate_left
        · simp only [Act.put, List.setIfInBounds_toArray, List.set_cons_zero, List.set_cons_succ, i64_w, i32_w]
          rfl
        refine pure_ (i := 1) (N := some 25) (v := ?_) (a' := ?_) #[true, true, false, false, false, false, false, false] rfl rfl (by kernel_rfl) (fun _ _ _ h => h) (Or.inl ⟨by rfl, ?_⟩) ?_ ?_
        rotate_left
        · intro w'
          go_simp
          with_reducible rfl
        rotate_left
        · simp only [Act.put, List.setIfInBounds_toArray, List.set_cons_zero, List.set_cons_succ, i64_w, i32_w]
          rfl
        refine pure_ (i := 2) (N := some 26) (v := ?_) (a' := ?_) #[true, true, true, false, false, false, false, false] rfl rfl (by kernel_rfl) (fun _ _ _ h => h) (Or.inl ⟨by rfl, ?_⟩) ?_ ?_
        rotate_left
        · intro w'
          go_simp
          with_reducible rfl
        rotate_left
        · simp only [Act.put, List.setIfInBounds_toArray, List.set_cons_zero, List.set_cons_succ, i64_w, i32_w]
          rfl
        refine pure_ (i := 3) (N := some 27) (v := ?_) (a' := ?_) #[true, true, true, true, false, false, false, false] rfl rfl (by kernel_rfl) (fun _ _ _ h => h) (Or.inl ⟨by rfl, ?_⟩) ?_ ?_
        rotate_left
        · intro w'
          go_simp
          with_reducible rfl
        rotate_left
        · simp only [Act.put, List.setIfInBounds_toArray, List.set_cons_zero, List.set_cons_succ, i64_w, i32_w]
          rfl
        refine pure_ (i := 4) (N := some 28) (v := ?_) (a' := ?_) #[true, true, true, true, true, false, false, false] rfl rfl (by kernel_rfl) (fun _ _ _ h => h) (Or.inl ⟨by rfl, ?_⟩) ?_ ?_
        rotate_left
        · intro w'
          go_simp
          with_reducible rfl
        rotate_left
        · simp only [Act.put, List.setIfInBounds_toArray, List.set_cons_zero, List.set_cons_succ, i64_w, i32_w]
          rfl
        refine pure_ (i := 5) (N := some 29) (v := ?_) (a' := ?_) #[true, true, true, true, true, true, false, false] rfl rfl (by kernel_rfl) (fun _ _ _ h => h) (Or.inl ⟨by rfl, ?_⟩) ?_ ?_
        rotate_left
        · intro w'
          go_simp
          with_reducible rfl
        rotate_left
        · simp only [Act.put, List.setIfInBounds_toArray, List.set_cons_zero, List.set_cons_succ, i64_w, i32_w]
          rfl
        refine take_ (i := 6) (N := some 30) (v := ?_) (a' := ?_) #[true, true, true, true, true, true, true, false] rfl rfl (by kernel_rfl) (fun _ _ _ h => h) (Or.inl ⟨by rfl, ?_⟩) hHeld ?_ ?_
        rotate_left
        · intro w' s0
          go_simp
          with_reducible rfl
        rotate_left
        · simp only [Act.put, List.setIfInBounds_toArray, List.set_cons_zero, List.set_cons_succ, i64_w, i32_w]
          rfl
        refine one_ (i := 7) (N := some 31) #[true, true, true, true, true, true, true, true] rfl rfl (by kernel_rfl) (by decide) (fun K hK => ?_)
        refine goes_ Tryz.func19 (by kernel_rfl) rfl #[.slice (some ad) k cp, .string (mkS ms[k])] (by rfl) rfl rfl (by simp only [List.map_toArray, List.map_cons, List.map_nil]; rfl) ?_
        with_reducible refine (HIN.out (W.drewN m).drew (below_drew (pw_below_drewN (Below.refl _ W) m))).mono ?_
        rintro e w3 ⟨rfl, ⟨n3, rfl⟩⟩
        refine ⟨_, rfl, ?_⟩
        refine hK.out _ _ (hcell) (fun hHeld => ?_)
        clear hK K
        refine norm_ (a' := ?_) ?_ ?_
        rotate_left
        · show Act.put _ (some 31) _ = _
          simp only [Act.put, List.setIfInBounds_toArray, List.set_cons_zero, List.set_cons_succ, i64_w, i32_w]
          rfl
        refine done_ (by kernel_rfl) ?_
        rw [HDT.out]
        go_wp2_with fail
        go_ret
        exact ⟨by rw [HX.out]; rfl, by rw [HX.out]; exact HR.out.below (pw_below_drewN (below_drew (pw_below_drewN (Below.refl _ W) m)) n3), .of_below (pw_below_drewN (below_drew (pw_below_drewN (Below.refl _ W) m)) n3)⟩
      · have HE := Aside0.mk he
        have HDT := Aside0.mk (show decide (ms[k] ∈ ms.take k) = false from decide_eq_false he)
        clear he
        as_aux_lemma =>
        go_wp2_with fail
        refine start_ (n := 8) (S := fun w' => w'.cell? (ad.add k) = some (.string (mkS ms[k]))) (ds := []) #[false, false, false, false, false, false, false, false] (by kernel_rfl) rfl rfl (hcell) (fun hHeld => ?_)
        refine pure_ (i := 0) (N := some 24) (v := ?_) (a' := ?_) #[true, false, false, false, false, false, false, false] rfl rfl (by kernel_rfl) (fun _ _ _ h => h) (Or.inl ⟨by rfl, ?_⟩) ?_ ?_
        rotate_left
        · intro w'
          go_simp
          with_reducible rfl
        rotate_left
        · simp only [Act.put, List.setIfInBounds_toArray, List.set_cons_zero, List.set_cons_succ, i64_w, i32_w]
          rfl
        refine pure_ (i := 1) (N := some 25) (v := ?_) (a' := ?_) #[true, true, false, false, false, false, false, false] rfl rfl (by kernel_rfl) (fun _ _ _ h => h) (Or.inl ⟨by rfl, ?_⟩) ?_ ?_
        rotate_left
        · intro w'
          go_simp
          with_reducible rfl
        rotate_left
        · simp only [Act.put, List.setIfInBounds_toArray, List.set_cons_zero, List.set_cons_succ, i64_w, i32_w]
          rfl
        refine pure_ (i := 2) (N := some 26) (v := ?_) (a' := ?_) #[true, true, true, false, false, false, false, false] rfl rfl (by kernel_rfl) (fun _ _ _ h => h) (Or.inl ⟨by rfl, ?_⟩) ?_ ?_
        rotate_left
        · intro w'
          go_simp
          with_reducible rfl
        rotate_left
        · simp only [Act.put, List.setIfInBounds_toArray, List.set_cons_zero, List.set_cons_succ, i64_w, i32_w]
          rfl
        refine pure_ (i := 3) (N := some 27) (v := ?_) (a' := ?_) #[true, true, true, true, false, false, false, false] rfl rfl (by kernel_rfl) (fun _ _ _ h => h) (Or.inl ⟨by rfl, ?_⟩) ?_ ?_
        rotate_left
        · intro w'
          go_simp
          with_reducible rfl
        rotate_left
        · simp only [Act.put, List.setIfInBounds_toArray, List.set_cons_zero, List.set_cons_succ, i64_w, i32_w]
          rfl
        refine pure_ (i := 4) (N := some 28) (v := ?_) (a' := ?_) #[true, true, true, true, true, false, false, false] rfl rfl (by kernel_rfl) (fun _ _ _ h => h) (Or.inl ⟨by rfl, ?_⟩) ?_ ?_
        rotate_left
        · intro w'
          go_simp
          with_reducible rfl
        rotate_left
        · simp only [Act.put, List.setIfInBounds_toArray, List.set_cons_zero, List.set_cons_succ, i64_w, i32_w]
          rfl
        refine pure_ (i := 5) (N := some 29) (v := ?_) (a' := ?_) #[true, true, true, true, true, true, false, false] rfl rfl (by kernel_rfl) (fun _ _ _ h => h) (Or.inl ⟨by rfl, ?_⟩) ?_ ?_
        rotate_left
        · intro w'
          go_simp
          with_reducible rfl
        rotate_left
        · simp only [Act.put, List.setIfInBounds_toArray, List.set_cons_zero, List.set_cons_succ, i64_w, i32_w]
          rfl
        refine take_ (i := 6) (N := some 30) (v := ?_) (a' := ?_) #[true, true, true, true, true, true, true, false] rfl rfl (by kernel_rfl) (fun _ _ _ h => h) (Or.inl ⟨by rfl, ?_⟩) hHeld ?_ ?_
        rotate_left
        · intro w' s0
          go_simp
          with_reducible rfl
        rotate_left
        · simp only [Act.put, List.setIfInBounds_toArray, List.set_cons_zero, List.set_cons_succ, i64_w, i32_w]
          rfl
        refine one_ (i := 7) (N := some 31) #[true, true, true, true, true, true, true, true] rfl rfl (by kernel_rfl) (by decide) (fun K hK => ?_)
        refine goes_ Tryz.func19 (by kernel_rfl) rfl #[.slice (some ad) k cp, .string (mkS ms[k])] (by rfl) rfl rfl (by simp only [List.map_toArray, List.map_cons, List.map_nil]; rfl) ?_
        with_reducible refine (HIN.out (W.drewN m).drew (below_drew (pw_below_drewN (Below.refl _ W) m))).mono ?_
        rintro e w3 ⟨rfl, ⟨n3, rfl⟩⟩
        refine ⟨_, rfl, ?_⟩
        refine hK.out _ _ (hcell) (fun hHeld => ?_)
        clear hK K
        refine norm_ (a' := ?_) ?_ ?_
        rotate_left
        · show Act.put _ (some 31) _ = _
          simp only [Act.put, List.setIfInBounds_toArray, List.set_cons_zero, List.set_cons_succ, i64_w, i32_w]
          rfl
        refine done_ (by kernel_rfl) ?_
        rw [HDT.out]
        go_wp2_with fail
        refine ⟨⟨k + 1, _, by omega, by go_num, fun z hz hzk => ?_, rfl⟩, by simp [intOf]; omega⟩
        by_cases hzk2 : z < k
        · exact HD.out z hz hzk2
        · obtain rfl : z = k := by omega
          exact HE.out
    · have hdup : dup ms = false := dup_take (fun z hz => HD.out z hz (by omega))
      have HDUP := Aside0.mk hdup
      clear hdup
      have HRM := Aside0.mk (HR.out.below (pw_below_drewN (Below.refl _ W) m))
      have HT := Aside0.mk (HTH.out nm _ HRM.out)
      by_cases h3 : there s nm = true
      · have hx : group1 s nm ms = (5, s) := by unfold group1; rw [if_neg (by rw [H1.out, HDUP.out]; simp; have := H2.out; omega), if_pos h3]
        have HX := Aside0.mk hx
        have H3 := Aside0.mk h3
        clear hx h3
        as_aux_lemma =>
        go_wp2_with fail
        refine HT.out.mono ?_
        rintro e w' ⟨rfl, hw⟩
        obtain rfl := hw.symm
        rw [H3.out]
        go_wp2_with fail
        go_ret
        exact ⟨by rw [HX.out]; rfl, by rw [HX.out]; exact HRM.out, .of_below (pw_below_drewN (Below.refl _ _) m)⟩
      have h3' : there s nm = false := by simpa using h3
      have H3 := Aside0.mk h3'
      clear h3 h3'
      as_aux_lemma =>
      go_wp2_with fail
      refine HT.out.mono ?_
      rintro e w' ⟨rfl, hw⟩
      obtain rfl := hw.symm
      rw [H3.out]
      go_wp2_with fail
      go_loopw [8] (fun i wr => ∃ k : Nat, k ≤ ms.length ∧ i = .int .i64 k ∧ (∀ z, (hz : z < ms.length) → z < k → there s ms[z] = true) ∧ wr = W.drewN m) (fun i _ => ms.length - (intOf i).toNat)
      case atStart => exact ⟨0, Nat.zero_le _, rfl, fun z _ hz => absurd hz (by omega), rfl⟩
      case round =>
        obtain ⟨k2, hk2, rfl, hd, rfl⟩ := hrel
        have HD2 := Aside0.mk hd
        clear hd
        by_cases hlt2 : k2 < ms.length
        · obtain ⟨ad, rfl, hcell⟩ := str_at (l := ms) HFP.out hlt2
          have HT2 := Aside0.mk (HTH.out ms[k2] _ HRM.out)
          by_cases h4 : there s ms[k2] = true
          · have H4 := Aside0.mk h4
            clear h4
            as_aux_lemma =>
            go_wp2_with fail
            refine HT2.out.mono ?_
            rintro e w' ⟨rfl, hw⟩
            obtain rfl := hw.symm
            rw [H4.out]
            go_wp2_with fail
            refine ⟨⟨k2 + 1, by omega, by go_num, fun z hz hzk => ?_, trivial⟩, by simp [intOf]; omega⟩
            by_cases hzk2 : z < k2
            · exact HD2.out z hz hzk2
            · obtain rfl : z = k2 := by omega
              exact H4.out
          · have h4' : there s ms[k2] = false := by simpa using h4
            have hx : group1 s nm ms = (4, s) := by
              unfold group1
              rw [if_neg (by rw [H1.out, HDUP.out]; simp; have := H2.out; omega), if_neg (by rw [H3.out]; simp), if_pos (List.any_eq_true.2 ⟨_, List.getElem_mem hlt2, by rw [h4']; rfl⟩)]
            have HX := Aside0.mk hx
            have H4 := Aside0.mk h4'
            clear hx h4 h4'
            as_aux_lemma =>
            go_wp2_with fail
            refine HT2.out.mono ?_
            rintro e w' ⟨rfl, hw⟩
            obtain rfl := hw.symm
            rw [H4.out]
            go_wp2_with fail
            go_ret
            exact ⟨by rw [HX.out]; rfl, by rw [HX.out]; exact HRM.out, .of_below (pw_below_drewN (Below.refl _ _) m)⟩
        · have hany : ms.any (fun m => !there s m) = false := by
            rw [List.any_eq_false]
            intro x hx
            obtain ⟨z, hz, rfl⟩ := List.mem_iff_getElem.1 hx
            rw [HD2.out z hz (by omega)]
            simp
          by_cases h5 : 32 ≤ s.G.length
          · have hx : group1 s nm ms = (3, s) := by
              unfold group1
              rw [if_neg (by rw [H1.out, HDUP.out]; simp; have := H2.out; omega), if_neg (by rw [H3.out]; simp), if_neg (by rw [hany]; simp), if_pos h5]
            have HX := Aside0.mk hx
            have h5i : (32 : Int) ≤ (s.G.length : Int) := by omega
            clear hx hany
            as_aux_lemma =>
            go_wp2_with fail
            go_ret
            exact ⟨by rw [HX.out]; rfl, by rw [HX.out]; exact HRM.out, .of_below (pw_below_drewN (Below.refl _ _) m)⟩
          · have hno : ∀ p ∈ s.G, p.1 ≠ nm := by
              have h3' := H3.out
              unfold there at h3'
              rw [Bool.or_eq_false_iff] at h3'
              exact ahas_false.1 h3'.2
            have hx : group1 s nm ms = (0, { s with G := ains (nm, ms) s.G }) := by
              unfold group1
              rw [if_neg (by rw [H1.out, HDUP.out]; simp; have := H2.out; omega), if_neg (by rw [H3.out]; simp), if_neg (by rw [hany]; simp), if_neg h5]
              unfold aput
              rw [adel_none (ahas_false.2 hno)]
            have HX := Aside0.mk hx
            have HNO := Aside0.mk hno
            have h5i : ¬ (32 : Int) ≤ (s.G.length : Int) := by omega
            clear hx hno hany
            go_wp2_with fail
            go_loopw [9] (fun i wr => ∃ k m : Nat, k ≤ s.G.length ∧ i = .int .i64 k ∧ (∀ p ∈ s.G.take k, bytesBefore p.1 nm = true) ∧ wr = W.drewN m) (fun i _ => s.G.length - (intOf i).toNat)
            case atStart => exact ⟨0, m, Nat.zero_le _, rfl, by simp, rfl⟩
            case round =>
              obtain ⟨k, m, hk, rfl, hbf, rfl⟩ := hrel
              have HBF := Aside0.mk hbf
              clear hbf
              by_cases hlt : k < s.G.length
              · obtain ⟨ad, A1, c1', rfl, hc0, hc1, hv⟩ := grp_at HF.out hlt
                have hpk : s.G[k].1.length ≤ 1000 := (HS.out.gs _ (List.getElem_mem hlt)).1
                have hle := HLS.out s.G[k].1 hpk (W.drewN m)
                rw [bz_mkS, bz_mkS] at hle
                generalize hbb : bytesBefore s.G[k].1 nm = bb at hle
                have HBB := Aside0.mk hbb
                have HLE := Aside0.mk hle
                clear hbb hle hv hpk
                cases bb with
                | true =>
                  as_aux_lemma =>
                  go_wp2_with fail
                  refine HLE.out.mono ?_
                  rintro e w1 ⟨rfl, ⟨m2, rfl⟩⟩
                  go_wp2_with fail
                  refine ⟨⟨k + 1, m + m2, by omega, by go_num, fun p hp => ?_, by simp⟩, by simp [intOf]; omega⟩
                  rw [List.take_succ_eq_append_getElem hlt] at hp
                  rcases List.mem_append.1 hp with hp | hp
                  · exact HBF.out p hp
                  · rw [List.mem_singleton.1 hp]; exact HBB.out
                | false =>
                  have hins := ins_split (x := ms) HBF.out (.inr ⟨hlt, HBB.out⟩) HNO.out
                  have HINS := Aside0.mk hins
                  clear hins
                  go_wp2_with fail
                  refine HLE.out.mono ?_
                  rintro e w1 ⟨rfl, ⟨m2, rfl⟩⟩
                  go_wp2_with fail
                  have hic : 0 ≤ (k : Int) ∧ (k : Int) ≤ (c : Int) := by omega
                  have hic1 : 0 ≤ (k : Int) ∧ (k : Int) ≤ (s.G.length : Int) := by omega
                  have hql : q < W.heap.size := (Array.getElem?_eq_some_iff.1 HBK.out).1
                  have HFT := Aside0.mk (f_take (i := k) HF.out (by omega))
                  have HFD := Aside0.mk (f_drop (i := k) (c := c) HF.out (by omega) (by omega))
                  have HFP := Aside0.mk (Kd.F_bound HFP.out)
                  obtain ⟨w0, hw0⟩ : ∃ w0, w0 = W.drewN (m + m2) := ⟨_, rfl⟩
                  have hb0 : Below W.heap.size W w0 := by rw [hw0]; exact pw_below_drewN (Below.refl _ _) _
                  have c1w : w0.drew.cell? ⟨q, 1, none⟩ = some (.slice (some ad) s.G.length c) := by rw [hw0]; exact c1
                  rw [← hw0]
                  have HB0 := Aside0.mk hb0
                  clear hb0 hw0
                  refine start_ (n := 26) (S := fun w' => w'.cell? ⟨q, 1, none⟩ = some (.slice (some ad) s.G.length c)) (ds := [25]) #[false, false, false, false, false, false, false, false, false, false, false, false, false, false, false, false, false, false, false, false, false, false, false, false, false, false] (by kernel_rfl) rfl rfl (c1w) (fun hHeld => ?_)
                  refine pure_ (i := 0) (N := some 75) (v := ?_) (a' := ?_) #[true, false, false, false, false, false, false, false, false, false, false, false, false, false, false, false, false, false, false, false, false, false, false, false, false, false] rfl rfl (by kernel_rfl) (fun _ _ _ h => h) (Or.inl ⟨by rfl, ?_⟩) ?_ ?_
                  rotate_left
                  · intro w'
                    go_simp
                    with_reducible rfl
                  rotate_left
                  · simp only [Act.put, List.setIfInBounds_toArray, List.set_cons_zero, List.set_cons_succ, i64_w, i32_w]
                    rfl
                  refine pure_ (i := 2) (N := some 77) (v := ?_) (a' := ?_) #[true, false, true, false, false, false, false, false, false, false, false, false, false, false, false, false, false, false, false, false, false, false, false, false, false, false] rfl rfl (by kernel_rfl) (fun _ _ _ h => h) (Or.inl ⟨by rfl, ?_⟩) ?_ ?_
                  rotate_left
                  · intro w'
                    go_simp
                    with_reducible rfl
                  rotate_left
                  · simp only [Act.put, List.setIfInBounds_toArray, List.set_cons_zero, List.set_cons_succ, i64_w, i32_w]
                    rfl
                  refine pure_ (i := 3) (N := some 78) (v := ?_) (a' := ?_) #[true, false, true, true, false, false, false, false, false, false, false, false, false, false, false, false, false, false, false, false, false, false, false, false, false, false] rfl rfl (by kernel_rfl) (fun _ _ _ h => h) (Or.inl ⟨by rfl, ?_⟩) ?_ ?_
                  rotate_left
                  · intro w'
                    go_simp
                    with_reducible rfl
                  rotate_left
                  · simp only [Act.put, List.setIfInBounds_toArray, List.set_cons_zero, List.set_cons_succ, i64_w, i32_w]
                    rfl
                  refine pure_ (i := 4) (N := some 79) (v := ?_) (a' := ?_) #[true, false, true, true, true, false, false, false, false, false, false, false, false, false, false, false, false, false, false, false, false, false, false, false, false, false] rfl rfl (by kernel_rfl) (fun _ _ _ h => h) (Or.inl ⟨by rfl, ?_⟩) ?_ ?_
                  rotate_left
                  · intro w'
                    go_simp
                    with_reducible rfl
                  rotate_left
                  · simp only [Act.put, List.setIfInBounds_toArray, List.set_cons_zero, List.set_cons_succ, i64_w, i32_w]
                    rfl
                  refine pure_ (i := 6) (N := some 81) (v := ?_) (a' := ?_) #[true, false, true, true, true, false, true, false, false, false, false, false, false, false, false, false, false, false, false, false, false, false, false, false, false, false] rfl rfl (by kernel_rfl) (fun _ _ _ h => h) (Or.inl ⟨by rfl, ?_⟩) ?_ ?_
                  rotate_left
                  · intro w'
                    go_simp
                    with_reducible rfl
                  rotate_left
                  · simp only [Act.put, List.setIfInBounds_toArray, List.set_cons_zero, List.set_cons_succ, i64_w, i32_w]
                    rfl
                  refine pure_ (i := 9) (N := some 84) (v := ?_) (a' := ?_) #[true, false, true, true, true, false, true, false, false, true, false, false, false, false, false, false, false, false, false, false, false, false, false, false, false, false] rfl rfl (by kernel_rfl) (fun _ _ _ h => h) (Or.inl ⟨by rfl, ?_⟩) ?_ ?_
                  rotate_left
                  · intro w'
                    go_simp
                    with_reducible rfl
                  rotate_left
                  · simp only [Act.put, List.setIfInBounds_toArray, List.set_cons_zero, List.set_cons_succ, i64_w, i32_w]
                    rfl
                  refine pure_ (i := 11) (N := some 86) (v := ?_) (a' := ?_) #[true, false, true, true, true, false, true, false, false, true, false, true, false, false, false, false, false, false, false, false, false, false, false, false, false, false] rfl rfl (by kernel_rfl) (fun _ _ _ h => h) (Or.inl ⟨by rfl, ?_⟩) ?_ ?_
                  rotate_left
                  · intro w'
                    go_simp
                    with_reducible rfl
                  rotate_left
                  · simp only [Act.put, List.setIfInBounds_toArray, List.set_cons_zero, List.set_cons_succ, i64_w, i32_w]
                    rfl
                  refine pure_ (i := 16) (N := some 91) (v := ?_) (a' := ?_) #[true, false, true, true, true, false, true, false, false, true, false, true, false, false, false, false, true, false, false, false, false, false, false, false, false, false] rfl rfl (by kernel_rfl) (fun _ _ _ h => h) (Or.inl ⟨by rfl, ?_⟩) ?_ ?_
                  rotate_left
                  · intro w'
                    go_simp
                    with_reducible rfl
                  rotate_left
                  · simp only [Act.put, List.setIfInBounds_toArray, List.set_cons_zero, List.set_cons_succ, i64_w, i32_w]
                    rfl
                  refine pure_ (i := 17) (N := some 92) (v := ?_) (a' := ?_) #[true, false, true, true, true, false, true, false, false, true, false, true, false, false, false, false, true, true, false, false, false, false, false, false, false, false] rfl rfl (by kernel_rfl) (fun _ _ _ h => h) (Or.inl ⟨by rfl, ?_⟩) ?_ ?_
                  rotate_left
                  · intro w'
                    go_simp
                    with_reducible rfl
                  rotate_left
                  · simp only [Act.put, List.setIfInBounds_toArray, List.set_cons_zero, List.set_cons_succ, i64_w, i32_w]
                    rfl
                  refine pure_ (i := 18) (N := some 93) (v := ?_) (a' := ?_) #[true, false, true, true, true, false, true, false, false, true, false, true, false, false, false, false, true, true, true, false, false, false, false, false, false, false] rfl rfl (by kernel_rfl) (fun _ _ _ h => h) (Or.inl ⟨by rfl, ?_⟩) ?_ ?_
                  rotate_left
                  · intro w'
                    go_simp
                    with_reducible rfl
                  rotate_left
                  · simp only [Act.put, List.setIfInBounds_toArray, List.set_cons_zero, List.set_cons_succ, i64_w, i32_w]
                    rfl
                  refine pure_ (i := 20) (N := some 95) (v := ?_) (a' := ?_) #[true, false, true, true, true, false, true, false, false, true, false, true, false, false, false, false, true, true, true, false, true, false, false, false, false, false] rfl rfl (by kernel_rfl) (fun _ _ _ h => h) (Or.inl ⟨by rfl, ?_⟩) ?_ ?_
                  rotate_left
                  · intro w'
                    go_simp
                    with_reducible rfl
                  rotate_left
                  · simp only [Act.put, List.setIfInBounds_toArray, List.set_cons_zero, List.set_cons_succ, i64_w, i32_w]
                    rfl
                  refine take_ (i := 5) (N := some 80) (v := ?_) (a' := ?_) #[true, false, true, true, true, true, true, false, false, true, false, true, false, false, false, false, true, true, true, false, true, false, false, false, false, false] rfl rfl (by kernel_rfl) (fun _ _ _ h => h) (Or.inl ⟨by rfl, ?_⟩) hHeld ?_ ?_
                  rotate_left
                  · intro w' s0
                    go_simp
                    with_reducible rfl
                  rotate_left
                  · simp only [Act.put, List.setIfInBounds_toArray, List.set_cons_zero, List.set_cons_succ, i64_w, i32_w]
                    rfl
                  refine pure_ (i := 7) (N := some 82) (v := ?_) (a' := ?_) #[true, false, true, true, true, true, true, true, false, true, false, true, false, false, false, false, true, true, true, false, true, false, false, false, false, false] rfl rfl (by kernel_rfl) (fun _ _ _ h => h) (Or.inl ⟨by rfl, ?_⟩) ?_ ?_
                  rotate_left
                  · intro w'
                    go_simp
                    with_reducible rfl
                  rotate_left
                  · simp only [Act.put, List.setIfInBounds_toArray, List.set_cons_zero, List.set_cons_succ, i64_w, i32_w]
                    rfl
                  refine take_ (i := 19) (N := some 94) (v := ?_) (a' := ?_) #[true, false, true, true, true, true, true, true, false, true, false, true, false, false, false, false, true, true, true, true, true, false, false, false, false, false] rfl rfl (by kernel_rfl) (fun _ _ _ h => h) (Or.inl ⟨by rfl, ?_⟩) hHeld ?_ ?_
                  rotate_left
                  · intro w' s0
                    go_simp
                    with_reducible rfl
                  rotate_left
                  · simp only [Act.put, List.setIfInBounds_toArray, List.set_cons_zero, List.set_cons_succ, i64_w, i32_w]
                    rfl
                  refine pure_ (i := 21) (N := some 96) (v := ?_) (a' := ?_) #[true, false, true, true, true, true, true, true, false, true, false, true, false, false, false, false, true, true, true, true, true, true, false, false, false, false] rfl rfl (by kernel_rfl) (fun _ _ _ h => h) (Or.inl ⟨by rfl, ?_⟩) ?_ ?_
                  rotate_left
                  · intro w'
                    go_simp
                    with_reducible rfl
                  rotate_left
                  · simp only [Act.put, List.setIfInBounds_toArray, List.set_cons_zero, List.set_cons_succ, i64_w, i32_w]
                    rfl
                  refine join_ (σ := Nat × (Option Addr × Nat × Nat) × Nat) 8 #[true, true, true, true, true, true, true, true, true, true, true, true, false, false, false, false, true, true, true, true, true, true, false, false, false, false] (fun t => [(76, .slice (some ⟨t.1, 0, none⟩) 0 0), (83, .slice t.2.1.1 t.2.1.2.1 t.2.1.2.2), (85, .slice (some ⟨t.2.2, 0, none⟩) 0 0)]) (fun t w' => ∃ SA SB, P2 k46 46 W.heap.size (fun k => ok k ∧ k < W.heap.size) (.slice t.2.1.1 t.2.1.2.1 t.2.1.2.2) ((s.G.take k).map group) w' SA ∧ P1 9 W.heap.size t.2.2 w' SB ∧ Inv W w' SA SB ∧ w'.cell? ⟨q, 1, none⟩ = some (.slice (some ad) s.G.length c)) ?_ ?_
                  rotate_left
                  · intro hCont
                    refine two_ (i := 1) (j := 10) (Ni := some 76) (Nj := some 85) #[true, true, true, true, true, true, true, true, false, true, false, true, false, false, false, false, true, true, true, true, true, true, false, false, false, false] #[true, false, true, true, true, true, true, true, false, true, true, true, false, false, false, false, true, true, true, true, true, true, false, false, false, false] rfl rfl rfl rfl (by kernel_rfl) (by decide) (by decide) (fun K hK => ?_) (fun K hK => ?_)
                    · skip
                      refine value_ (w1 := ?_) (v := ?_) (by rfl) rfl ?_ ?_
                      rotate_left 2
                      · go_simp
                        constructor
                        · rfl
                        · rfl
                      obtain ⟨wA1, hwA1⟩ : ∃ w, w = (w0.alloc (.cells #[] 46)).drew := ⟨_, rfl⟩
                      have hcaA1 : wA1.cell? ⟨q, 1, none⟩ = some (.slice (some ad) s.G.length c) := by rw [hwA1]; exact cell_al _ hHeld
                      have htA1 : Turn (fun _ => False) w0 wA1 := by rw [hwA1]; exact al_turn _ _
                      obtain ⟨gA, hgA⟩ : ∃ g, g = w0.heap.size := ⟨_, rfl⟩
                      obtain ⟨hAA1, hJA1⟩ := P1.make (Inv.start HB0.out) (show wA1.heap = w0.heap.push (.cells #[] 46) by rw [hwA1]; rfl) hgA htA1
                      have hIA1 := hJA1
                      rw [← hwA1]
                      simp only [← hgA]
                      clear hwA1 hgA
                      refine hK.out _ _ (hcaA1) (fun hHeld => ?_)
                      clear hK K
                      refine norm_ (a' := ?_) ?_ ?_
                      rotate_left
                      · show Act.put _ (some 76) _ = _
                        simp only [Act.put, List.setIfInBounds_toArray, List.set_cons_zero, List.set_cons_succ, i64_w, i32_w]
                        rfl
                      refine two_ (i := 8) (j := 10) (Ni := some 83) (Nj := some 85) #[true, true, true, true, true, true, true, true, true, true, false, true, false, false, false, false, true, true, true, true, true, true, false, false, false, false] #[true, true, true, true, true, true, true, true, false, true, true, true, false, false, false, false, true, true, true, true, true, true, false, false, false, false] rfl rfl rfl rfl (by kernel_rfl) (by decide) (by decide) (fun K hK => ?_) (fun K hK => ?_)
                      · skip
                        refine Kd.N_append_rows_step k46 (w0 := W) W.heap.size (by rfl) (.tmp 76) (.tmp 82) 31 46 _ 40 (by rfl) Tryz.underlying31 info46 (by rfl) (by decide) (by decide) (.slice (some ⟨gA, 0, none⟩) 0 0) [] ((s.G.take k).map group) ((some ad)) k c (fun k => (ok k ∧ k < W.heap.size) ∨ k = gA ∨ wA1.heap.size ≤ k) (fun k => ok k ∧ k < W.heap.size) (by rfl) (by rfl) (k46_empty hAA1.1.1 hAA1.1.2 (.inr (.inl rfl))) (Kd.F_below HFT.out hIA1.below) (fun k hk => ⟨.inl hk, fun e => by have h2 := hk.2; have e' : k = gA := Option.some.inj e; have h3 := hAA1.1.2; omega⟩) (fun k hk => .inr (.inr hk)) hIA1.below hIA1.below.size (by simp; omega) ?_
                        intro vA wA1A2 hNA1A2 hblA1A2 hgA1A2 hatA1A2
                        obtain ⟨SA1A2, hAA1A2, hJA1A2, htA1A2, hxA1A2, hyA1A2, ⟨AAq, cAq, mAq, rfl⟩⟩ := P2.make hIA1 hAA1 hNA1A2 hgA1A2 (fun k hk => hk.2)
                        skip
                        have hIA1A2 := hJA1A2
                        have hcaA1A2 : wA1A2.cell? ⟨q, 1, none⟩ = some (.slice (some ad) s.G.length c) := cell_gr hgA1A2 (fun e => by have e' : gA = q := Option.some.inj e; have h3 := hAA1.1.2; omega) hHeld
                        refine hK.out _ _ (hcaA1A2) (fun hHeld => ?_)
                        clear hK K
                        refine norm_ (a' := ?_) ?_ ?_
                        rotate_left
                        · show Act.put _ (some 83) _ = _
                          simp only [Act.put, List.setIfInBounds_toArray, List.set_cons_zero, List.set_cons_succ, i64_w, i32_w]
                          rfl
                        refine one_ (i := 10) (N := some 85) #[true, true, true, true, true, true, true, true, true, true, true, true, false, false, false, false, true, true, true, true, true, true, false, false, false, false] rfl rfl (by kernel_rfl) (by decide) (fun K hK => ?_)
                        refine value_ (w1 := ?_) (v := ?_) (by rfl) rfl ?_ ?_
                        rotate_left 2
                        · go_simp
                          constructor
                          · rfl
                          · rfl
                        obtain ⟨wA1A2B1, hwA1A2B1⟩ : ∃ w, w = (wA1A2.alloc (.cells #[] 9)) := ⟨_, rfl⟩
                        have hcaA1A2B1 : wA1A2B1.cell? ⟨q, 1, none⟩ = some (.slice (some ad) s.G.length c) := by rw [hwA1A2B1]; exact cell_al _ hHeld
                        have htA1A2B1 : Turn (fun _ => False) wA1A2 wA1A2B1 := by rw [hwA1A2B1]; exact al_turn' _ _
                        obtain ⟨gB, hgB⟩ : ∃ g, g = wA1A2.heap.size := ⟨_, rfl⟩
                        obtain ⟨hBA1A2B1, hJA1A2B1⟩ := P1.make hIA1A2.symm (show wA1A2B1.heap = wA1A2.heap.push (.cells #[] 9) by rw [hwA1A2B1]; rfl) hgB htA1A2B1
                        have hIA1A2B1 := hJA1A2B1.symm
                        have hAA1A2B1 := hAA1A2.turn htA1A2B1 (fun k e => e.elim) W.heap.size (fun k e => e.elim)
                        rw [← hwA1A2B1]
                        simp only [← hgB]
                        clear hwA1A2B1 hgB
                        refine hK.out _ _ (hcaA1A2B1) (fun hHeld => ?_)
                        clear hK K
                        refine norm_ (a' := ?_) ?_ ?_
                        rotate_left
                        · show Act.put _ (some 85) _ = _
                          simp only [Act.put, List.setIfInBounds_toArray, List.set_cons_zero, List.set_cons_succ, i64_w, i32_w]
                          rfl
                        exact norm_ (by simp only [putAll, Act.put, List.setIfInBounds_toArray, List.set_cons_zero, List.set_cons_succ]) (hCont (gA, (AAq, mAq, cAq), gB) _ ⟨SA1A2, (fun k => k = gB), hAA1A2B1, hBA1A2B1, hIA1A2B1, hcaA1A2B1⟩)
                      · skip
                        refine value_ (w1 := ?_) (v := ?_) (by rfl) rfl ?_ ?_
                        rotate_left 2
                        · go_simp
                          constructor
                          · rfl
                          · rfl
                        obtain ⟨wA1B1, hwA1B1⟩ : ∃ w, w = (wA1.alloc (.cells #[] 9)) := ⟨_, rfl⟩
                        have hcaA1B1 : wA1B1.cell? ⟨q, 1, none⟩ = some (.slice (some ad) s.G.length c) := by rw [hwA1B1]; exact cell_al _ hHeld
                        have htA1B1 : Turn (fun _ => False) wA1 wA1B1 := by rw [hwA1B1]; exact al_turn' _ _
                        obtain ⟨gB, hgB⟩ : ∃ g, g = wA1.heap.size := ⟨_, rfl⟩
                        obtain ⟨hBA1B1, hJA1B1⟩ := P1.make hIA1.symm (show wA1B1.heap = wA1.heap.push (.cells #[] 9) by rw [hwA1B1]; rfl) hgB htA1B1
                        have hIA1B1 := hJA1B1.symm
                        have hAA1B1 := hAA1.turn htA1B1 (fun k e => e.elim) W.heap.size (fun k e => e.elim)
                        rw [← hwA1B1]
                        simp only [← hgB]
                        clear hwA1B1 hgB
                        refine hK.out _ _ (hcaA1B1) (fun hHeld => ?_)
                        clear hK K
                        refine norm_ (a' := ?_) ?_ ?_
                        rotate_left
                        · show Act.put _ (some 85) _ = _
                          simp only [Act.put, List.setIfInBounds_toArray, List.set_cons_zero, List.set_cons_succ, i64_w, i32_w]
                          rfl
                        refine one_ (i := 8) (N := some 83) #[true, true, true, true, true, true, true, true, true, true, true, true, false, false, false, false, true, true, true, true, true, true, false, false, false, false] rfl rfl (by kernel_rfl) (by decide) (fun K hK => ?_)
                        refine Kd.N_append_rows_step k46 (w0 := W) W.heap.size (by rfl) (.tmp 76) (.tmp 82) 31 46 _ 40 (by rfl) Tryz.underlying31 info46 (by rfl) (by decide) (by decide) (.slice (some ⟨gA, 0, none⟩) 0 0) [] ((s.G.take k).map group) ((some ad)) k c (fun k => (ok k ∧ k < W.heap.size) ∨ k = gA ∨ wA1B1.heap.size ≤ k) (fun k => ok k ∧ k < W.heap.size) (by rfl) (by rfl) (k46_empty hAA1B1.1.1 hAA1B1.1.2 (.inr (.inl rfl))) (Kd.F_below HFT.out hIA1B1.below) (fun k hk => ⟨.inl hk, fun e => by have h2 := hk.2; have e' : k = gA := Option.some.inj e; have h3 := hAA1B1.1.2; omega⟩) (fun k hk => .inr (.inr hk)) hIA1B1.below hIA1B1.below.size (by simp; omega) ?_
                        intro vA wA1B1A2 hNA1B1A2 hblA1B1A2 hgA1B1A2 hatA1B1A2
                        obtain ⟨SA1B1A2, hAA1B1A2, hJA1B1A2, htA1B1A2, hxA1B1A2, hyA1B1A2, ⟨AAq, cAq, mAq, rfl⟩⟩ := P2.make hIA1B1 hAA1B1 hNA1B1A2 hgA1B1A2 (fun k hk => hk.2)
                        skip
                        have hIA1B1A2 := hJA1B1A2
                        have hcaA1B1A2 : wA1B1A2.cell? ⟨q, 1, none⟩ = some (.slice (some ad) s.G.length c) := cell_gr hgA1B1A2 (fun e => by have e' : gA = q := Option.some.inj e; have h3 := hAA1B1.1.2; omega) hHeld
                        have hBA1B1A2 := hBA1B1.turn htA1B1A2 hxA1B1A2 W.heap.size hyA1B1A2
                        refine hK.out _ _ (hcaA1B1A2) (fun hHeld => ?_)
                        clear hK K
                        refine norm_ (a' := ?_) ?_ ?_
                        rotate_left
                        · show Act.put _ (some 83) _ = _
                          simp only [Act.put, List.setIfInBounds_toArray, List.set_cons_zero, List.set_cons_succ, i64_w, i32_w]
                          rfl
                        exact norm_ (by simp only [putAll, Act.put, List.setIfInBounds_toArray, List.set_cons_zero, List.set_cons_succ]) (hCont (gA, (AAq, mAq, cAq), gB) _ ⟨SA1B1A2, (fun k => k = gB), hAA1B1A2, hBA1B1A2, hIA1B1A2, hcaA1B1A2⟩)
                    · skip
                      refine value_ (w1 := ?_) (v := ?_) (by rfl) rfl ?_ ?_
                      rotate_left 2
                      · go_simp
                        constructor
                        · rfl
                        · rfl
                      obtain ⟨wB1, hwB1⟩ : ∃ w, w = (w0.alloc (.cells #[] 9)).drew := ⟨_, rfl⟩
                      have hcaB1 : wB1.cell? ⟨q, 1, none⟩ = some (.slice (some ad) s.G.length c) := by rw [hwB1]; exact cell_al _ hHeld
                      have htB1 : Turn (fun _ => False) w0 wB1 := by rw [hwB1]; exact al_turn _ _
                      obtain ⟨gB, hgB⟩ : ∃ g, g = w0.heap.size := ⟨_, rfl⟩
                      obtain ⟨hBB1, hJB1⟩ := P1.make (Inv.start HB0.out).symm (show wB1.heap = w0.heap.push (.cells #[] 9) by rw [hwB1]; rfl) hgB htB1
                      have hIB1 := hJB1.symm
                      rw [← hwB1]
                      simp only [← hgB]
                      clear hwB1 hgB
                      refine hK.out _ _ (hcaB1) (fun hHeld => ?_)
                      clear hK K
                      refine norm_ (a' := ?_) ?_ ?_
                      rotate_left
                      · show Act.put _ (some 85) _ = _
                        simp only [Act.put, List.setIfInBounds_toArray, List.set_cons_zero, List.set_cons_succ, i64_w, i32_w]
                        rfl
                      refine one_ (i := 1) (N := some 76) #[true, true, true, true, true, true, true, true, false, true, true, true, false, false, false, false, true, true, true, true, true, true, false, false, false, false] rfl rfl (by kernel_rfl) (by decide) (fun K hK => ?_)
                      refine value_ (w1 := ?_) (v := ?_) (by rfl) rfl ?_ ?_
                      rotate_left 2
                      · go_simp
                        constructor
                        · rfl
                        · rfl
                      obtain ⟨wB1A1, hwB1A1⟩ : ∃ w, w = (wB1.alloc (.cells #[] 46)) := ⟨_, rfl⟩
                      have hcaB1A1 : wB1A1.cell? ⟨q, 1, none⟩ = some (.slice (some ad) s.G.length c) := by rw [hwB1A1]; exact cell_al _ hHeld
                      have htB1A1 : Turn (fun _ => False) wB1 wB1A1 := by rw [hwB1A1]; exact al_turn' _ _
                      obtain ⟨gA, hgA⟩ : ∃ g, g = wB1.heap.size := ⟨_, rfl⟩
                      obtain ⟨hAB1A1, hJB1A1⟩ := P1.make hIB1 (show wB1A1.heap = wB1.heap.push (.cells #[] 46) by rw [hwB1A1]; rfl) hgA htB1A1
                      have hIB1A1 := hJB1A1
                      have hBB1A1 := hBB1.turn htB1A1 (fun k e => e.elim) W.heap.size (fun k e => e.elim)
                      rw [← hwB1A1]
                      simp only [← hgA]
                      clear hwB1A1 hgA
                      refine hK.out _ _ (hcaB1A1) (fun hHeld => ?_)
                      clear hK K
                      refine norm_ (a' := ?_) ?_ ?_
                      rotate_left
                      · show Act.put _ (some 76) _ = _
                        simp only [Act.put, List.setIfInBounds_toArray, List.set_cons_zero, List.set_cons_succ, i64_w, i32_w]
                        rfl
                      refine one_ (i := 8) (N := some 83) #[true, true, true, true, true, true, true, true, true, true, true, true, false, false, false, false, true, true, true, true, true, true, false, false, false, false] rfl rfl (by kernel_rfl) (by decide) (fun K hK => ?_)
                      refine Kd.N_append_rows_step k46 (w0 := W) W.heap.size (by rfl) (.tmp 76) (.tmp 82) 31 46 _ 40 (by rfl) Tryz.underlying31 info46 (by rfl) (by decide) (by decide) (.slice (some ⟨gA, 0, none⟩) 0 0) [] ((s.G.take k).map group) ((some ad)) k c (fun k => (ok k ∧ k < W.heap.size) ∨ k = gA ∨ wB1A1.heap.size ≤ k) (fun k => ok k ∧ k < W.heap.size) (by rfl) (by rfl) (k46_empty hAB1A1.1.1 hAB1A1.1.2 (.inr (.inl rfl))) (Kd.F_below HFT.out hIB1A1.below) (fun k hk => ⟨.inl hk, fun e => by have h2 := hk.2; have e' : k = gA := Option.some.inj e; have h3 := hAB1A1.1.2; omega⟩) (fun k hk => .inr (.inr hk)) hIB1A1.below hIB1A1.below.size (by simp; omega) ?_
                      intro vA wB1A1A2 hNB1A1A2 hblB1A1A2 hgB1A1A2 hatB1A1A2
                      obtain ⟨SB1A1A2, hAB1A1A2, hJB1A1A2, htB1A1A2, hxB1A1A2, hyB1A1A2, ⟨AAq, cAq, mAq, rfl⟩⟩ := P2.make hIB1A1 hAB1A1 hNB1A1A2 hgB1A1A2 (fun k hk => hk.2)
                      skip
                      have hIB1A1A2 := hJB1A1A2
                      have hcaB1A1A2 : wB1A1A2.cell? ⟨q, 1, none⟩ = some (.slice (some ad) s.G.length c) := cell_gr hgB1A1A2 (fun e => by have e' : gA = q := Option.some.inj e; have h3 := hAB1A1.1.2; omega) hHeld
                      have hBB1A1A2 := hBB1A1.turn htB1A1A2 hxB1A1A2 W.heap.size hyB1A1A2
                      refine hK.out _ _ (hcaB1A1A2) (fun hHeld => ?_)
                      clear hK K
                      refine norm_ (a' := ?_) ?_ ?_
                      rotate_left
                      · show Act.put _ (some 83) _ = _
                        simp only [Act.put, List.setIfInBounds_toArray, List.set_cons_zero, List.set_cons_succ, i64_w, i32_w]
                        rfl
                      exact norm_ (by simp only [putAll, Act.put, List.setIfInBounds_toArray, List.set_cons_zero, List.set_cons_succ]) (hCont (gA, (AAq, mAq, cAq), gB) _ ⟨SB1A1A2, (fun k => k = gB), hAB1A1A2, hBB1A1A2, hIB1A1A2, hcaB1A1A2⟩)
                  rintro ⟨gA, ⟨AAq, mAq, cAq⟩, gB⟩ wJ ⟨SAJ, SBJ, hAJ, hBJ, hIJ, hHeld⟩
                  simp only at hAJ hBJ
                  refine norm_ (a' := ?_) ?_ ?_
                  rotate_left
                  · simp only [putAll, Act.put, List.setIfInBounds_toArray, List.set_cons_zero, List.set_cons_succ]
                    rfl
                  refine one_ (i := 12) (N := some 87) #[true, true, true, true, true, true, true, true, true, true, true, true, true, false, false, false, true, true, true, true, true, true, false, false, false, false] rfl rfl (by kernel_rfl) (by decide) (fun K hK => ?_)
                  refine Kd.N_append_rows_step (Kd.string) (w0 := W) W.heap.size (by rfl) (.tmp 85) (.tmp 86) 23 9 _ 16 (by rfl) Tryz.underlying23 info9 (by rfl) (by decide) (by decide) (.slice (some ⟨gB, 0, none⟩) 0 0) [] (ms.map mkS) Ap ms.length cp (fun k => (ok' k ∧ k < W.heap.size) ∨ k = gB ∨ wJ.heap.size ≤ k) (fun k => ok' k ∧ k < W.heap.size) (by rfl) (by rfl) (E1.str hBJ.1 (.inr (.inl rfl))) (Kd.F_below HFP.out hIJ.below) (fun k hk => ⟨.inl hk, fun e => by have e' : k = gB := Option.some.inj e; have h2 := hk.2; have h3 := hBJ.1.2; omega⟩) (fun k hk => .inr (.inr hk)) hIJ.below hIJ.below.size (by simp; omega) ?_
                  intro vB wJB2 hNJB2 hblJB2 hgJB2 hatJB2
                  obtain ⟨SJB2, hBJB2, hJJB2, htJB2, hxJB2, hyJB2, ⟨AB, cB, mB, rfl⟩⟩ := P2.make hIJ.symm hBJ hNJB2 hgJB2 (fun k hk => hk.2)
                  have hBJB2 := P2.tightS hBJB2 (fun k hk => hk.2)
                  have hIJB2 := hJJB2.symm
                  have hcaJB2 : wJB2.cell? ⟨q, 1, none⟩ = some (.slice (some ad) s.G.length c) := cell_gr hgJB2 (fun e => by have e' : gB = q := Option.some.inj e; have h3 := hBJ.1.2; omega) hHeld
                  have hAJB2 := hAJ.turn htJB2 hxJB2 W.heap.size hyJB2
                  refine hK.out _ _ (hcaJB2) (fun hHeld => ?_)
                  clear hK K
                  refine norm_ (a' := ?_) ?_ ?_
                  rotate_left
                  · show Act.put _ (some 87) _ = _
                    simp only [Act.put, List.setIfInBounds_toArray, List.set_cons_zero, List.set_cons_succ, i64_w, i32_w]
                    rfl
                  refine pure_ (i := 13) (N := some 88) (v := ?_) (a' := ?_) #[true, true, true, true, true, true, true, true, true, true, true, true, true, true, false, false, true, true, true, true, true, true, false, false, false, false] rfl rfl (by kernel_rfl) (fun _ _ _ h => h) (Or.inl ⟨by rfl, ?_⟩) ?_ ?_
                  rotate_left
                  · intro w'
                    go_simp
                    with_reducible rfl
                  rotate_left
                  · simp only [Act.put, List.setIfInBounds_toArray, List.set_cons_zero, List.set_cons_succ, i64_w, i32_w]
                    rfl
                  refine one_ (i := 14) (N := some 89) #[true, true, true, true, true, true, true, true, true, true, true, true, true, true, true, false, true, true, true, true, true, true, false, false, false, false] rfl rfl (by kernel_rfl) (by decide) (fun K hK => ?_)
                  refine value_ (w1 := ?_) (v := ?_) (by rfl) rfl ?_ ?_
                  rotate_left 2
                  · go_simp
                    constructor
                    · rfl
                    · rfl
                  obtain ⟨wJB2C, hwJB2C⟩ : ∃ w, w = (wJB2.alloc (.cells #[.string (mkS nm), .slice AB mB cB] 46)) := ⟨_, rfl⟩
                  have hcaJB2C : wJB2C.cell? ⟨q, 1, none⟩ = some (.slice (some ad) s.G.length c) := by rw [hwJB2C]; exact cell_al _ hHeld
                  have htJB2C : Turn (fun _ => False) wJB2 wJB2C := by rw [hwJB2C]; exact al_turn' _ _
                  obtain ⟨gC, hgC⟩ : ∃ g, g = wJB2.heap.size := ⟨_, rfl⟩
                  obtain ⟨SJB2C, hBJB2C, hJJB2C⟩ := P3.group (nm := mkS nm) hIJB2.symm hBJB2 (.inr hwJB2C) hgC htJB2C
                  have hIJB2C := hJJB2C.symm
                  have hAJB2C := hAJB2.turn htJB2C (fun k e => e.elim) W.heap.size (fun k e => e.elim)
                  rw [← hwJB2C]
                  simp only [← hgC]
                  clear hwJB2C hgC
                  refine hK.out _ _ (hcaJB2C) (fun hHeld => ?_)
                  clear hK K
                  refine norm_ (a' := ?_) ?_ ?_
                  rotate_left
                  · show Act.put _ (some 89) _ = _
                    simp only [Act.put, List.setIfInBounds_toArray, List.set_cons_zero, List.set_cons_succ, i64_w, i32_w]
                    rfl
                  refine one_ (i := 15) (N := some 90) #[true, true, true, true, true, true, true, true, true, true, true, true, true, true, true, true, true, true, true, true, true, true, false, false, false, false] rfl rfl (by kernel_rfl) (by decide) (fun K hK => ?_)
                  refine Kd.N_append_rows_step k46 (w0 := W) W.heap.size (by rfl) (.tmp 83) (.tmp 89) 31 46 _ 40 (by rfl) Tryz.underlying31 info46 (by rfl) (by decide) (by decide) (.slice AAq mAq cAq) ((s.G.take k).map group) [(⟨mkS nm, ms.map mkS⟩ : S46)] (some ⟨gC, 0, none⟩) 1 1 ok SJB2C (by rfl) (by rfl) (Kd.N_mono hAJB2C.1 (fun k hk => by
                               rcases hk with hk | hk
                               · exact hk.1
                               · exact HFR.out k (hAJB2C.2.1 k hk).1)) hBJB2C.1 (fun k hk => ⟨HFR.out k (hBJB2C.2 k hk).1, fun e => by
                               have h2 := hAJB2C.1.1 k e.symm
                               rcases h2 with h2 | h2
                               · have := (hBJB2C.2 k hk).1; have := h2.2; omega
                               · exact hIJB2C.d k h2 hk⟩) (fun k hk => HFR.out k (Nat.le_trans hIJB2C.below.size hk)) hIJB2C.below hIJB2C.below.size (by simp; omega) ?_
                  intro v1 w1 hN1 hB1 hg1 hat1
                  refine hK.out _ _ (cell_gr hg1 (fun e => by have := Kd.N_base hAJB2C.1 q e; omega) hHeld) (fun hHeld => ?_)
                  clear hK K
                  refine norm_ (a' := ?_) ?_ ?_
                  rotate_left
                  · show Act.put _ (some 90) _ = _
                    simp only [Act.put, List.setIfInBounds_toArray, List.set_cons_zero, List.set_cons_succ, i64_w, i32_w]
                    rfl
                  refine one_ (i := 22) (N := some 97) #[true, true, true, true, true, true, true, true, true, true, true, true, true, true, true, true, true, true, true, true, true, true, true, false, false, false] rfl rfl (by kernel_rfl) (by decide) (fun K hK => ?_)
                  refine Kd.N_append_rows_step k46 (w0 := W) W.heap.size (by rfl) (.tmp 90) (.tmp 96) 31 46 _ 40 (by rfl) Tryz.underlying31 info46 (by rfl) (by decide) (by decide) v1 _ ((s.G.drop k).map group) _ (s.G.length - k) _ ok (fun k => ok k ∧ k < W.heap.size) (by rfl) (by rfl) hN1 (Kd.F_below HFD.out hB1) (fun k hk => ⟨hk.1, fun e => by have h1 := Kd.N_base hN1 k e.symm; have h2 := hk.2; omega⟩) (fun k hk => HFR.out k (Nat.le_trans hB1.size hk)) hB1 hB1.size (by simp; omega) ?_
                  intro v2 w2 hN2 hB2 hg2 hat2
                  obtain ⟨A3, c3, m3, rfl⟩ := n_slice hN2
                  have hq2 : w2.heap[q]? = W.heap[q]? := hB2.block q hql
                  have hc2 := keep_heap hq2 c1
                  have hf2 := keep_heap_fz hq2 f1
                  refine hK.out _ _ (cell_gr hg2 (fun e => by have := Kd.N_base hN1 q e; omega) hHeld) (fun hHeld => ?_)
                  clear hK K
                  refine norm_ (a' := ?_) ?_ ?_
                  rotate_left
                  · show Act.put _ (some 97) _ = _
                    simp only [Act.put, List.setIfInBounds_toArray, List.set_cons_zero, List.set_cons_succ, i64_w, i32_w]
                    rfl
                  refine pure_ (i := 23) (N := some 98) (v := ?_) (a' := ?_) #[true, true, true, true, true, true, true, true, true, true, true, true, true, true, true, true, true, true, true, true, true, true, true, true, false, false] rfl rfl (by kernel_rfl) (fun _ _ _ h => h) (Or.inl ⟨by rfl, ?_⟩) ?_ ?_
                  rotate_left
                  · intro w'
                    go_simp
                    with_reducible rfl
                  rotate_left
                  · simp only [Act.put, List.setIfInBounds_toArray, List.set_cons_zero, List.set_cons_succ, i64_w, i32_w]
                    rfl
                  refine pure_ (i := 24) (N := some 99) (v := ?_) (a' := ?_) #[true, true, true, true, true, true, true, true, true, true, true, true, true, true, true, true, true, true, true, true, true, true, true, true, true, false] rfl rfl (by kernel_rfl) (fun _ _ _ h => h) (Or.inl ⟨by rfl, ?_⟩) ?_ ?_
                  rotate_left
                  · intro w'
                    go_simp
                    with_reducible rfl
                  rotate_left
                  · simp only [Act.put, List.setIfInBounds_toArray, List.set_cons_zero, List.set_cons_succ, i64_w, i32_w]
                    rfl
                  refine last_ (i := 25) (N := none) #[true, true, true, true, true, true, true, true, true, true, true, true, true, true, true, true, true, true, true, true, true, true, true, true, true, true] rfl rfl (by kernel_rfl) (by decide) (fun K hK => ?_)
                  refine skip_ (w1 := ?_) (by rfl) rfl ?_ ?_
                  rotate_left
                  · go_simp
                    rfl
                  refine hK.out _ _ ?_
                  clear hK K
                  refine done_ (by kernel_rfl) ?_
                  have hq0 : W.heap[q]? = some (.cells #[.slice A2 s.P.length c2, .slice (some ad) s.G.length c] 33 (0, 0)) := by
                    have := HBK.out
                    rwa [List.length_map, List.length_map] at this
                  have hq3 := set_blk1 (hq2.trans hq0) (.slice A3 m3 c3)
                  have hT : Turn (fun k => k = q) W (w2.setCell ⟨q, 1, none⟩ (.slice A3 m3 c3)) := (Turn.of_below hB2).trans (Turn.of_set w2 ⟨q, 1, none⟩ _)
                  have HQ3 := Aside0.mk hq3
                  have HT3 := Aside0.mk hT
                  have HN2 := Aside0.mk hN2
                  clear hq3 hT hN2 hq2 hc2 hf2 hHeld hg2 hat2 hB2 hN1 hB1 hg1 hat1
                  go_wp2_with fail
                  all_goals go_ret
                  all_goals
                    refine ⟨by rw [HX.out]; rfl, ?_, HT3.out⟩
                    rw [HX.out, HINS.out]
                    obtain ⟨A5, c5, e5, hl5, hf5⟩ := Kd.N_V (base' := 0) HN2.out
                    have e6 : ((s.G.take k).map group ++ [(⟨mkS nm, ms.map mkS⟩ : S46)]) ++ (s.G.drop k).map group = (s.G.take k ++ (nm, ms) :: s.G.drop k).map group := by simp [group]
                    rw [e6] at e5 hl5 hf5
                    exact ⟨⟨_, _, HQ3.out, ⟨A2, c2, by rw [List.length_map], by rw [List.length_map]; exact hl2, Kd.F_step HF2.out (fun k hk hlt => HT3.out.block k hlt (fun e => HR.out.qok (by rw [← e]; exact hk)))⟩, ⟨A5, c5, e5, hl5, Kd.F_far hf5 (fun k hk e => HR.out.qok (by rw [← show k = q from e]; exact hk)) _⟩⟩, HR.out.qok⟩
              · have hins := ins_split (x := ms) HBF.out (.inl (by omega : k = s.G.length)) HNO.out
                have HINS := Aside0.mk hins
                clear hins
                go_wp2_with fail
                have hic : 0 ≤ (k : Int) ∧ (k : Int) ≤ (c : Int) := by omega
                have hic1 : 0 ≤ (k : Int) ∧ (k : Int) ≤ (s.G.length : Int) := by omega
                have hql : q < W.heap.size := (Array.getElem?_eq_some_iff.1 HBK.out).1
                have HFT := Aside0.mk (f_take (i := k) HF.out (by omega))
                have HFD := Aside0.mk (f_drop (i := k) (c := c) HF.out (by omega) (by omega))
                have HFP := Aside0.mk (Kd.F_bound HFP.out)
                obtain ⟨w0, hw0⟩ : ∃ w0, w0 = W.drewN (m) := ⟨_, rfl⟩
                have hb0 : Below W.heap.size W w0 := by rw [hw0]; exact pw_below_drewN (Below.refl _ _) _
                have c1w : w0.drew.cell? ⟨q, 1, none⟩ = some (.slice (A) s.G.length c) := by rw [hw0]; exact c1
                rw [← hw0]
                have HB0 := Aside0.mk hb0
                clear hb0 hw0
                refine start_ (n := 26) (S := fun w' => w'.cell? ⟨q, 1, none⟩ = some (.slice (A) s.G.length c)) (ds := [25]) #[false, false, false, false, false, false, false, false, false, false, false, false, false, false, false, false, false, false, false, false, false, false, false, false, false, false] (by kernel_rfl) rfl rfl (c1w) (fun hHeld => ?_)
                refine pure_ (i := 0) (N := some 75) (v := ?_) (a' := ?_) #[true, false, false, false, false, false, false, false, false, false, false, false, false, false, false, false, false, false, false, false, false, false, false, false, false, false] rfl rfl (by kernel_rfl) (fun _ _ _ h => h) (Or.inl ⟨by rfl, ?_⟩) ?_ ?_
                rotate_left
                · intro w'
                  go_simp
                  with_reducible rfl
                rotate_left
                · simp only [Act.put, List.setIfInBounds_toArray, List.set_cons_zero, List.set_cons_succ, i64_w, i32_w]
                  rfl
                refine pure_ (i := 2) (N := some 77) (v := ?_) (a' := ?_) #[true, false, true, false, false, false, false, false, false, false, false, false, false, false, false, false, false, false, false, false, false, false, false, false, false, false] rfl rfl (by kernel_rfl) (fun _ _ _ h => h) (Or.inl ⟨by rfl, ?_⟩) ?_ ?_
                rotate_left
                · intro w'
                  go_simp
                  with_reducible rfl
                rotate_left
                · simp only [Act.put, List.setIfInBounds_toArray, List.set_cons_zero, List.set_cons_succ, i64_w, i32_w]
                  rfl
                refine pure_ (i := 3) (N := some 78) (v := ?_) (a' := ?_) #[true, false, true, true, false, false, false, false, false, false, false, false, false, false, false, false, false, false, false, false, false, false, false, false, false, false] rfl rfl (by kernel_rfl) (fun _ _ _ h => h) (Or.inl ⟨by rfl, ?_⟩) ?_ ?_
                rotate_left
                · intro w'
                  go_simp
                  with_reducible rfl
                rotate_left
                · simp only [Act.put, List.setIfInBounds_toArray, List.set_cons_zero, List.set_cons_succ, i64_w, i32_w]
                  rfl
                refine pure_ (i := 4) (N := some 79) (v := ?_) (a' := ?_) #[true, false, true, true, true, false, false, false, false, false, false, false, false, false, false, false, false, false, false, false, false, false, false, false, false, false] rfl rfl (by kernel_rfl) (fun _ _ _ h => h) (Or.inl ⟨by rfl, ?_⟩) ?_ ?_
                rotate_left
                · intro w'
                  go_simp
                  with_reducible rfl
                rotate_left
                · simp only [Act.put, List.setIfInBounds_toArray, List.set_cons_zero, List.set_cons_succ, i64_w, i32_w]
                  rfl
                refine pure_ (i := 6) (N := some 81) (v := ?_) (a' := ?_) #[true, false, true, true, true, false, true, false, false, false, false, false, false, false, false, false, false, false, false, false, false, false, false, false, false, false] rfl rfl (by kernel_rfl) (fun _ _ _ h => h) (Or.inl ⟨by rfl, ?_⟩) ?_ ?_
                rotate_left
                · intro w'
                  go_simp
                  with_reducible rfl
                rotate_left
                · simp only [Act.put, List.setIfInBounds_toArray, List.set_cons_zero, List.set_cons_succ, i64_w, i32_w]
                  rfl
                refine pure_ (i := 9) (N := some 84) (v := ?_) (a' := ?_) #[true, false, true, true, true, false, true, false, false, true, false, false, false, false, false, false, false, false, false, false, false, false, false, false, false, false] rfl rfl (by kernel_rfl) (fun _ _ _ h => h) (Or.inl ⟨by rfl, ?_⟩) ?_ ?_
                rotate_left
                · intro w'
                  go_simp
                  with_reducible rfl
                rotate_left
                · simp only [Act.put, List.setIfInBounds_toArray, List.set_cons_zero, List.set_cons_succ, i64_w, i32_w]
                  rfl
                refine pure_ (i := 11) (N := some 86) (v := ?_) (a' := ?_) #[true, false, true, true, true, false, true, false, false, true, false, true, false, false, false, false, false, false, false, false, false, false, false, false, false, false] rfl rfl (by kernel_rfl) (fun _ _ _ h => h) (Or.inl ⟨by rfl, ?_⟩) ?_ ?_
                rotate_left
                · intro w'
                  go_simp
                  with_reducible rfl
                rotate_left
                · simp only [Act.put, List.setIfInBounds_toArray, List.set_cons_zero, List.set_cons_succ, i64_w, i32_w]
                  rfl
                refine pure_ (i := 16) (N := some 91) (v := ?_) (a' := ?_) #[true, false, true, true, true, false, true, false, false, true, false, true, false, false, false, false, true, false, false, false, false, false, false, false, false, false] rfl rfl (by kernel_rfl) (fun _ _ _ h => h) (Or.inl ⟨by rfl, ?_⟩) ?_ ?_
                rotate_left
                · intro w'
                  go_simp
                  with_reducible rfl
                rotate_left
                · simp only [Act.put, List.setIfInBounds_toArray, List.set_cons_zero, List.set_cons_succ, i64_w, i32_w]
                  rfl
                refine pure_ (i := 17) (N := some 92) (v := ?_) (a' := ?_) #[true, false, true, true, true, false, true, false, false, true, false, true, false, false, false, false, true, true, false, false, false, false, false, false, false, false] rfl rfl (by kernel_rfl) (fun _ _ _ h => h) (Or.inl ⟨by rfl, ?_⟩) ?_ ?_
                rotate_left
                · intro w'
                  go_simp
                  with_reducible rfl
                rotate_left
                · simp only [Act.put, List.setIfInBounds_toArray, List.set_cons_zero, List.set_cons_succ, i64_w, i32_w]
                  rfl
                refine pure_ (i := 18) (N := some 93) (v := ?_) (a' := ?_) #[true, false, true, true, true, false, true, false, false, true, false, true, false, false, false, false, true, true, true, false, false, false, false, false, false, false] rfl rfl (by kernel_rfl) (fun _ _ _ h => h) (Or.inl ⟨by rfl, ?_⟩) ?_ ?_
                rotate_left
                · intro w'
                  go_simp
                  with_reducible rfl
                rotate_left
                · simp only [Act.put, List.setIfInBounds_toArray, List.set_cons_zero, List.set_cons_succ, i64_w, i32_w]
                  rfl
                refine pure_ (i := 20) (N := some 95) (v := ?_) (a' := ?_) #[true, false, true, true, true, false, true, false, false, true, false, true, false, false, false, false, true, true, true, false, true, false, false, false, false, false] rfl rfl (by kernel_rfl) (fun _ _ _ h => h) (Or.inl ⟨by rfl, ?_⟩) ?_ ?_
                rotate_left
                · intro w'
                  go_simp
                  with_reducible rfl
                rotate_left
                · simp only [Act.put, List.setIfInBounds_toArray, List.set_cons_zero, List.set_cons_succ, i64_w, i32_w]
                  rfl
                refine take_ (i := 5) (N := some 80) (v := ?_) (a' := ?_) #[true, false, true, true, true, true, true, false, false, true, false, true, false, false, false, false, true, true, true, false, true, false, false, false, false, false] rfl rfl (by kernel_rfl) (fun _ _ _ h => h) (Or.inl ⟨by rfl, ?_⟩) hHeld ?_ ?_
                rotate_left
                · intro w' s0
                  go_simp
                  with_reducible rfl
                rotate_left
                · simp only [Act.put, List.setIfInBounds_toArray, List.set_cons_zero, List.set_cons_succ, i64_w, i32_w]
                  rfl
                refine pure_ (i := 7) (N := some 82) (v := ?_) (a' := ?_) #[true, false, true, true, true, true, true, true, false, true, false, true, false, false, false, false, true, true, true, false, true, false, false, false, false, false] rfl rfl (by kernel_rfl) (fun _ _ _ h => h) (Or.inl ⟨by rfl, ?_⟩) ?_ ?_
                rotate_left
                · intro w'
                  go_simp
                  with_reducible rfl
                rotate_left
                · simp only [Act.put, List.setIfInBounds_toArray, List.set_cons_zero, List.set_cons_succ, i64_w, i32_w]
                  rfl
                refine take_ (i := 19) (N := some 94) (v := ?_) (a' := ?_) #[true, false, true, true, true, true, true, true, false, true, false, true, false, false, false, false, true, true, true, true, true, false, false, false, false, false] rfl rfl (by kernel_rfl) (fun _ _ _ h => h) (Or.inl ⟨by rfl, ?_⟩) hHeld ?_ ?_
                rotate_left
                · intro w' s0
                  go_simp
                  with_reducible rfl
                rotate_left
                · simp only [Act.put, List.setIfInBounds_toArray, List.set_cons_zero, List.set_cons_succ, i64_w, i32_w]
                  rfl
                refine pure_ (i := 21) (N := some 96) (v := ?_) (a' := ?_) #[true, false, true, true, true, true, true, true, false, true, false, true, false, false, false, false, true, true, true, true, true, true, false, false, false, false] rfl rfl (by kernel_rfl) (fun _ _ _ h => h) (Or.inl ⟨by rfl, ?_⟩) ?_ ?_
                rotate_left
                · intro w'
                  go_simp
                  with_reducible rfl
                rotate_left
                · simp only [Act.put, List.setIfInBounds_toArray, List.set_cons_zero, List.set_cons_succ, i64_w, i32_w]
                  rfl
                refine join_ (σ := Nat × (Option Addr × Nat × Nat) × Nat) 8 #[true, true, true, true, true, true, true, true, true, true, true, true, false, false, false, false, true, true, true, true, true, true, false, false, false, false] (fun t => [(76, .slice (some ⟨t.1, 0, none⟩) 0 0), (83, .slice t.2.1.1 t.2.1.2.1 t.2.1.2.2), (85, .slice (some ⟨t.2.2, 0, none⟩) 0 0)]) (fun t w' => ∃ SA SB, P2 k46 46 W.heap.size (fun k => ok k ∧ k < W.heap.size) (.slice t.2.1.1 t.2.1.2.1 t.2.1.2.2) ((s.G.take k).map group) w' SA ∧ P1 9 W.heap.size t.2.2 w' SB ∧ Inv W w' SA SB ∧ w'.cell? ⟨q, 1, none⟩ = some (.slice (A) s.G.length c)) ?_ ?_
                rotate_left
                · intro hCont
                  refine two_ (i := 1) (j := 10) (Ni := some 76) (Nj := some 85) #[true, true, true, true, true, true, true, true, false, true, false, true, false, false, false, false, true, true, true, true, true, true, false, false, false, false] #[true, false, true, true, true, true, true, true, false, true, true, true, false, false, false, false, true, true, true, true, true, true, false, false, false, false] rfl rfl rfl rfl (by kernel_rfl) (by decide) (by decide) (fun K hK => ?_) (fun K hK => ?_)
                  · skip
                    refine value_ (w1 := ?_) (v := ?_) (by rfl) rfl ?_ ?_
                    rotate_left 2
                    · go_simp
                      constructor
                      · rfl
                      · rfl
                    obtain ⟨wA1, hwA1⟩ : ∃ w, w = (w0.alloc (.cells #[] 46)).drew := ⟨_, rfl⟩
                    have hcaA1 : wA1.cell? ⟨q, 1, none⟩ = some (.slice (A) s.G.length c) := by rw [hwA1]; exact cell_al _ hHeld
                    have htA1 : Turn (fun _ => False) w0 wA1 := by rw [hwA1]; exact al_turn _ _
                    obtain ⟨gA, hgA⟩ : ∃ g, g = w0.heap.size := ⟨_, rfl⟩
                    obtain ⟨hAA1, hJA1⟩ := P1.make (Inv.start HB0.out) (show wA1.heap = w0.heap.push (.cells #[] 46) by rw [hwA1]; rfl) hgA htA1
                    have hIA1 := hJA1
                    rw [← hwA1]
                    simp only [← hgA]
                    clear hwA1 hgA
                    refine hK.out _ _ (hcaA1) (fun hHeld => ?_)
                    clear hK K
                    refine norm_ (a' := ?_) ?_ ?_
                    rotate_left
                    · show Act.put _ (some 76) _ = _
                      simp only [Act.put, List.setIfInBounds_toArray, List.set_cons_zero, List.set_cons_succ, i64_w, i32_w]
                      rfl
                    refine two_ (i := 8) (j := 10) (Ni := some 83) (Nj := some 85) #[true, true, true, true, true, true, true, true, true, true, false, true, false, false, false, false, true, true, true, true, true, true, false, false, false, false] #[true, true, true, true, true, true, true, true, false, true, true, true, false, false, false, false, true, true, true, true, true, true, false, false, false, false] rfl rfl rfl rfl (by kernel_rfl) (by decide) (by decide) (fun K hK => ?_) (fun K hK => ?_)
                    · skip
                      refine Kd.N_append_rows_step k46 (w0 := W) W.heap.size (by rfl) (.tmp 76) (.tmp 82) 31 46 _ 40 (by rfl) Tryz.underlying31 info46 (by rfl) (by decide) (by decide) (.slice (some ⟨gA, 0, none⟩) 0 0) [] ((s.G.take k).map group) ((A)) k c (fun k => (ok k ∧ k < W.heap.size) ∨ k = gA ∨ wA1.heap.size ≤ k) (fun k => ok k ∧ k < W.heap.size) (by rfl) (by rfl) (k46_empty hAA1.1.1 hAA1.1.2 (.inr (.inl rfl))) (Kd.F_below HFT.out hIA1.below) (fun k hk => ⟨.inl hk, fun e => by have h2 := hk.2; have e' : k = gA := Option.some.inj e; have h3 := hAA1.1.2; omega⟩) (fun k hk => .inr (.inr hk)) hIA1.below hIA1.below.size (by simp; omega) ?_
                      intro vA wA1A2 hNA1A2 hblA1A2 hgA1A2 hatA1A2
                      obtain ⟨SA1A2, hAA1A2, hJA1A2, htA1A2, hxA1A2, hyA1A2, ⟨AAq, cAq, mAq, rfl⟩⟩ := P2.make hIA1 hAA1 hNA1A2 hgA1A2 (fun k hk => hk.2)
                      skip
                      have hIA1A2 := hJA1A2
                      have hcaA1A2 : wA1A2.cell? ⟨q, 1, none⟩ = some (.slice (A) s.G.length c) := cell_gr hgA1A2 (fun e => by have e' : gA = q := Option.some.inj e; have h3 := hAA1.1.2; omega) hHeld
                      refine hK.out _ _ (hcaA1A2) (fun hHeld => ?_)
                      clear hK K
                      refine norm_ (a' := ?_) ?_ ?_
                      rotate_left
                      · show Act.put _ (some 83) _ = _
                        simp only [Act.put, List.setIfInBounds_toArray, List.set_cons_zero, List.set_cons_succ, i64_w, i32_w]
                        rfl
                      refine one_ (i := 10) (N := some 85) #[true, true, true, true, true, true, true, true, true, true, true, true, false, false, false, false, true, true, true, true, true, true, false, false, false, false] rfl rfl (by kernel_rfl) (by decide) (fun K hK => ?_)
                      refine value_ (w1 := ?_) (v := ?_) (by rfl) rfl ?_ ?_
                      rotate_left 2
                      · go_simp
                        constructor
                        · rfl
                        · rfl
                      obtain ⟨wA1A2B1, hwA1A2B1⟩ : ∃ w, w = (wA1A2.alloc (.cells #[] 9)) := ⟨_, rfl⟩
                      have hcaA1A2B1 : wA1A2B1.cell? ⟨q, 1, none⟩ = some (.slice (A) s.G.length c) := by rw [hwA1A2B1]; exact cell_al _ hHeld
                      have htA1A2B1 : Turn (fun _ => False) wA1A2 wA1A2B1 := by rw [hwA1A2B1]; exact al_turn' _ _
                      obtain ⟨gB, hgB⟩ : ∃ g, g = wA1A2.heap.size := ⟨_, rfl⟩
                      obtain ⟨hBA1A2B1, hJA1A2B1⟩ := P1.make hIA1A2.symm (show wA1A2B1.heap = wA1A2.heap.push (.cells #[] 9) by rw [hwA1A2B1]; rfl) hgB htA1A2B1
                      have hIA1A2B1 := hJA1A2B1.symm
                      have hAA1A2B1 := hAA1A2.turn htA1A2B1 (fun k e => e.elim) W.heap.size (fun k e => e.elim)
                      rw [← hwA1A2B1]
                      simp only [← hgB]
                      clear hwA1A2B1 hgB
                      refine hK.out _ _ (hcaA1A2B1) (fun hHeld => ?_)
                      clear hK K
                      refine norm_ (a' := ?_) ?_ ?_
                      rotate_left
                      · show Act.put _ (some 85) _ = _
                        simp only [Act.put, List.setIfInBounds_toArray, List.set_cons_zero, List.set_cons_succ, i64_w, i32_w]
                        rfl
                      exact norm_ (by simp only [putAll, Act.put, List.setIfInBounds_toArray, List.set_cons_zero, List.set_cons_succ]) (hCont (gA, (AAq, mAq, cAq), gB) _ ⟨SA1A2, (fun k => k = gB), hAA1A2B1, hBA1A2B1, hIA1A2B1, hcaA1A2B1⟩)
                    · skip
                      refine value_ (w1 := ?_) (v := ?_) (by rfl) rfl ?_ ?_
                      rotate_left 2
                      · go_simp
                        constructor
                        · rfl
                        · rfl
                      obtain ⟨wA1B1, hwA1B1⟩ : ∃ w, w = (wA1.alloc (.cells #[] 9)) := ⟨_, rfl⟩
                      have hcaA1B1 : wA1B1.cell? ⟨q, 1, none⟩ = some (.slice (A) s.G.length c) := by rw [hwA1B1]; exact cell_al _ hHeld
                      have htA1B1 : Turn (fun _ => False) wA1 wA1B1 := by rw [hwA1B1]; exact al_turn' _ _
                      obtain ⟨gB, hgB⟩ : ∃ g, g = wA1.heap.size := ⟨_, rfl⟩
                      obtain ⟨hBA1B1, hJA1B1⟩ := P1.make hIA1.symm (show wA1B1.heap = wA1.heap.push (.cells #[] 9) by rw [hwA1B1]; rfl) hgB htA1B1
                      have hIA1B1 := hJA1B1.symm
                      have hAA1B1 := hAA1.turn htA1B1 (fun k e => e.elim) W.heap.size (fun k e => e.elim)
                      rw [← hwA1B1]
                      simp only [← hgB]
                      clear hwA1B1 hgB
                      refine hK.out _ _ (hcaA1B1) (fun hHeld => ?_)
                      clear hK K
                      refine norm_ (a' := ?_) ?_ ?_
                      rotate_left
                      · show Act.put _ (some 85) _ = _
                        simp only [Act.put, List.setIfInBounds_toArray, List.set_cons_zero, List.set_cons_succ, i64_w, i32_w]
                        rfl
                      refine one_ (i := 8) (N := some 83) #[true, true, true, true, true, true, true, true, true, true, true, true, false, false, false, false, true, true, true, true, true, true, false, false, false, false] rfl rfl (by kernel_rfl) (by decide) (fun K hK => ?_)
                      refine Kd.N_append_rows_step k46 (w0 := W) W.heap.size (by rfl) (.tmp 76) (.tmp 82) 31 46 _ 40 (by rfl) Tryz.underlying31 info46 (by rfl) (by decide) (by decide) (.slice (some ⟨gA, 0, none⟩) 0 0) [] ((s.G.take k).map group) ((A)) k c (fun k => (ok k ∧ k < W.heap.size) ∨ k = gA ∨ wA1B1.heap.size ≤ k) (fun k => ok k ∧ k < W.heap.size) (by rfl) (by rfl) (k46_empty hAA1B1.1.1 hAA1B1.1.2 (.inr (.inl rfl))) (Kd.F_below HFT.out hIA1B1.below) (fun k hk => ⟨.inl hk, fun e => by have h2 := hk.2; have e' : k = gA := Option.some.inj e; have h3 := hAA1B1.1.2; omega⟩) (fun k hk => .inr (.inr hk)) hIA1B1.below hIA1B1.below.size (by simp; omega) ?_
                      intro vA wA1B1A2 hNA1B1A2 hblA1B1A2 hgA1B1A2 hatA1B1A2
                      obtain ⟨SA1B1A2, hAA1B1A2, hJA1B1A2, htA1B1A2, hxA1B1A2, hyA1B1A2, ⟨AAq, cAq, mAq, rfl⟩⟩ := P2.make hIA1B1 hAA1B1 hNA1B1A2 hgA1B1A2 (fun k hk => hk.2)
                      skip
                      have hIA1B1A2 := hJA1B1A2
                      have hcaA1B1A2 : wA1B1A2.cell? ⟨q, 1, none⟩ = some (.slice (A) s.G.length c) := cell_gr hgA1B1A2 (fun e => by have e' : gA = q := Option.some.inj e; have h3 := hAA1B1.1.2; omega) hHeld
                      have hBA1B1A2 := hBA1B1.turn htA1B1A2 hxA1B1A2 W.heap.size hyA1B1A2
                      refine hK.out _ _ (hcaA1B1A2) (fun hHeld => ?_)
                      clear hK K
                      refine norm_ (a' := ?_) ?_ ?_
                      rotate_left
                      · show Act.put _ (some 83) _ = _
                        simp only [Act.put, List.setIfInBounds_toArray, List.set_cons_zero, List.set_cons_succ, i64_w, i32_w]
                        rfl
                      exact norm_ (by simp only [putAll, Act.put, List.setIfInBounds_toArray, List.set_cons_zero, List.set_cons_succ]) (hCont (gA, (AAq, mAq, cAq), gB) _ ⟨SA1B1A2, (fun k => k = gB), hAA1B1A2, hBA1B1A2, hIA1B1A2, hcaA1B1A2⟩)
                  · skip
                    refine value_ (w1 := ?_) (v := ?_) (by rfl) rfl ?_ ?_
                    rotate_left 2
                    · go_simp
                      constructor
                      · rfl
                      · rfl
                    obtain ⟨wB1, hwB1⟩ : ∃ w, w = (w0.alloc (.cells #[] 9)).drew := ⟨_, rfl⟩
                    have hcaB1 : wB1.cell? ⟨q, 1, none⟩ = some (.slice (A) s.G.length c) := by rw [hwB1]; exact cell_al _ hHeld
                    have htB1 : Turn (fun _ => False) w0 wB1 := by rw [hwB1]; exact al_turn _ _
                    obtain ⟨gB, hgB⟩ : ∃ g, g = w0.heap.size := ⟨_, rfl⟩
                    obtain ⟨hBB1, hJB1⟩ := P1.make (Inv.start HB0.out).symm (show wB1.heap = w0.heap.push (.cells #[] 9) by rw [hwB1]; rfl) hgB htB1
                    have hIB1 := hJB1.symm
                    rw [← hwB1]
                    simp only [← hgB]
                    clear hwB1 hgB
                    refine hK.out _ _ (hcaB1) (fun hHeld => ?_)
                    clear hK K
                    refine norm_ (a' := ?_) ?_ ?_
                    rotate_left
                    · show Act.put _ (some 85) _ = _
                      simp only [Act.put, List.setIfInBounds_toArray, List.set_cons_zero, List.set_cons_succ, i64_w, i32_w]
                      rfl
                    refine one_ (i := 1) (N := some 76) #[true, true, true, true, true, true, true, true, false, true, true, true, false, false, false, false, true, true, true, true, true, true, false, false, false, false] rfl rfl (by kernel_rfl) (by decide) (fun K hK => ?_)
                    refine value_ (w1 := ?_) (v := ?_) (by rfl) rfl ?_ ?_
                    rotate_left 2
                    · go_simp
                      constructor
                      · rfl
                      · rfl
                    obtain ⟨wB1A1, hwB1A1⟩ : ∃ w, w = (wB1.alloc (.cells #[] 46)) := ⟨_, rfl⟩
                    have hcaB1A1 : wB1A1.cell? ⟨q, 1, none⟩ = some (.slice (A) s.G.length c) := by rw [hwB1A1]; exact cell_al _ hHeld
                    have htB1A1 : Turn (fun _ => False) wB1 wB1A1 := by rw [hwB1A1]; exact al_turn' _ _
                    obtain ⟨gA, hgA⟩ : ∃ g, g = wB1.heap.size := ⟨_, rfl⟩
                    obtain ⟨hAB1A1, hJB1A1⟩ := P1.make hIB1 (show wB1A1.heap = wB1.heap.push (.cells #[] 46) by rw [hwB1A1]; rfl) hgA htB1A1
                    have hIB1A1 := hJB1A1
                    have hBB1A1 := hBB1.turn htB1A1 (fun k e => e.elim) W.heap.size (fun k e => e.elim)
                    rw [← hwB1A1]
                    simp only [← hgA]
                    clear hwB1A1 hgA
                    refine hK.out _ _ (hcaB1A1) (fun hHeld => ?_)
                    clear hK K
                    refine norm_ (a' := ?_) ?_ ?_
                    rotate_left
                    · show Act.put _ (some 76) _ = _
                      simp only [Act.put, List.setIfInBounds_toArray, List.set_cons_zero, List.set_cons_succ, i64_w, i32_w]
                      rfl
                    refine one_ (i := 8) (N := some 83) #[true, true, true, true, true, true, true, true, true, true, true, true, false, false, false, false, true, true, true, true, true, true, false, false, false, false] rfl rfl (by kernel_rfl) (by decide) (fun K hK => ?_)
                    refine Kd.N_append_rows_step k46 (w0 := W) W.heap.size (by rfl) (.tmp 76) (.tmp 82) 31 46 _ 40 (by rfl) Tryz.underlying31 info46 (by rfl) (by decide) (by decide) (.slice (some ⟨gA, 0, none⟩) 0 0) [] ((s.G.take k).map group) ((A)) k c (fun k => (ok k ∧ k < W.heap.size) ∨ k = gA ∨ wB1A1.heap.size ≤ k) (fun k => ok k ∧ k < W.heap.size) (by rfl) (by rfl) (k46_empty hAB1A1.1.1 hAB1A1.1.2 (.inr (.inl rfl))) (Kd.F_below HFT.out hIB1A1.below) (fun k hk => ⟨.inl hk, fun e => by have h2 := hk.2; have e' : k = gA := Option.some.inj e; have h3 := hAB1A1.1.2; omega⟩) (fun k hk => .inr (.inr hk)) hIB1A1.below hIB1A1.below.size (by simp; omega) ?_
                    intro vA wB1A1A2 hNB1A1A2 hblB1A1A2 hgB1A1A2 hatB1A1A2
                    obtain ⟨SB1A1A2, hAB1A1A2, hJB1A1A2, htB1A1A2, hxB1A1A2, hyB1A1A2, ⟨AAq, cAq, mAq, rfl⟩⟩ := P2.make hIB1A1 hAB1A1 hNB1A1A2 hgB1A1A2 (fun k hk => hk.2)
                    skip
                    have hIB1A1A2 := hJB1A1A2
                    have hcaB1A1A2 : wB1A1A2.cell? ⟨q, 1, none⟩ = some (.slice (A) s.G.length c) := cell_gr hgB1A1A2 (fun e => by have e' : gA = q := Option.some.inj e; have h3 := hAB1A1.1.2; omega) hHeld
                    have hBB1A1A2 := hBB1A1.turn htB1A1A2 hxB1A1A2 W.heap.size hyB1A1A2
                    refine hK.out _ _ (hcaB1A1A2) (fun hHeld => ?_)
                    clear hK K
                    refine norm_ (a' := ?_) ?_ ?_
                    rotate_left
                    · show Act.put _ (some 83) _ = _
                      simp only [Act.put, List.setIfInBounds_toArray, List.set_cons_zero, List.set_cons_succ, i64_w, i32_w]
                      rfl
                    exact norm_ (by simp only [putAll, Act.put, List.setIfInBounds_toArray, List.set_cons_zero, List.set_cons_succ]) (hCont (gA, (AAq, mAq, cAq), gB) _ ⟨SB1A1A2, (fun k => k = gB), hAB1A1A2, hBB1A1A2, hIB1A1A2, hcaB1A1A2⟩)
                rintro ⟨gA, ⟨AAq, mAq, cAq⟩, gB⟩ wJ ⟨SAJ, SBJ, hAJ, hBJ, hIJ, hHeld⟩
                simp only at hAJ hBJ
                refine norm_ (a' := ?_) ?_ ?_
                rotate_left
                · simp only [putAll, Act.put, List.setIfInBounds_toArray, List.set_cons_zero, List.set_cons_succ]
                  rfl
                refine one_ (i := 12) (N := some 87) #[true, true, true, true, true, true, true, true, true, true, true, true, true, false, false, false, true, true, true, true, true, true, false, false, false, false] rfl rfl (by kernel_rfl) (by decide) (fun K hK => ?_)
                refine Kd.N_append_rows_step (Kd.string) (w0 := W) W.heap.size (by rfl) (.tmp 85) (.tmp 86) 23 9 _ 16 (by rfl) Tryz.underlying23 info9 (by rfl) (by decide) (by decide) (.slice (some ⟨gB, 0, none⟩) 0 0) [] (ms.map mkS) Ap ms.length cp (fun k => (ok' k ∧ k < W.heap.size) ∨ k = gB ∨ wJ.heap.size ≤ k) (fun k => ok' k ∧ k < W.heap.size) (by rfl) (by rfl) (E1.str hBJ.1 (.inr (.inl rfl))) (Kd.F_below HFP.out hIJ.below) (fun k hk => ⟨.inl hk, fun e => by have e' : k = gB := Option.some.inj e; have h2 := hk.2; have h3 := hBJ.1.2; omega⟩) (fun k hk => .inr (.inr hk)) hIJ.below hIJ.below.size (by simp; omega) ?_
                intro vB wJB2 hNJB2 hblJB2 hgJB2 hatJB2
                obtain ⟨SJB2, hBJB2, hJJB2, htJB2, hxJB2, hyJB2, ⟨AB, cB, mB, rfl⟩⟩ := P2.make hIJ.symm hBJ hNJB2 hgJB2 (fun k hk => hk.2)
                have hBJB2 := P2.tightS hBJB2 (fun k hk => hk.2)
                have hIJB2 := hJJB2.symm
                have hcaJB2 : wJB2.cell? ⟨q, 1, none⟩ = some (.slice (A) s.G.length c) := cell_gr hgJB2 (fun e => by have e' : gB = q := Option.some.inj e; have h3 := hBJ.1.2; omega) hHeld
                have hAJB2 := hAJ.turn htJB2 hxJB2 W.heap.size hyJB2
                refine hK.out _ _ (hcaJB2) (fun hHeld => ?_)
                clear hK K
                refine norm_ (a' := ?_) ?_ ?_
                rotate_left
                · show Act.put _ (some 87) _ = _
                  simp only [Act.put, List.setIfInBounds_toArray, List.set_cons_zero, List.set_cons_succ, i64_w, i32_w]
                  rfl
                refine pure_ (i := 13) (N := some 88) (v := ?_) (a' := ?_) #[true, true, true, true, true, true, true, true, true, true, true, true, true, true, false, false, true, true, true, true, true, true, false, false, false, false] rfl rfl (by kernel_rfl) (fun _ _ _ h => h) (Or.inl ⟨by rfl, ?_⟩) ?_ ?_
                rotate_left
                · intro w'
                  go_simp
                  with_reducible rfl
                rotate_left
                · simp only [Act.put, List.setIfInBounds_toArray, List.set_cons_zero, List.set_cons_succ, i64_w, i32_w]
                  rfl
                refine one_ (i := 14) (N := some 89) #[true, true, true, true, true, true, true, true, true, true, true, true, true, true, true, false, true, true, true, true, true, true, false, false, false, false] rfl rfl (by kernel_rfl) (by decide) (fun K hK => ?_)
                refine value_ (w1 := ?_) (v := ?_) (by rfl) rfl ?_ ?_
                rotate_left 2
                · go_simp
                  constructor
                  · rfl
                  · rfl
                obtain ⟨wJB2C, hwJB2C⟩ : ∃ w, w = (wJB2.alloc (.cells #[.string (mkS nm), .slice AB mB cB] 46)) := ⟨_, rfl⟩
                have hcaJB2C : wJB2C.cell? ⟨q, 1, none⟩ = some (.slice (A) s.G.length c) := by rw [hwJB2C]; exact cell_al _ hHeld
                have htJB2C : Turn (fun _ => False) wJB2 wJB2C := by rw [hwJB2C]; exact al_turn' _ _
                obtain ⟨gC, hgC⟩ : ∃ g, g = wJB2.heap.size := ⟨_, rfl⟩
                obtain ⟨SJB2C, hBJB2C, hJJB2C⟩ := P3.group (nm := mkS nm) hIJB2.symm hBJB2 (.inr hwJB2C) hgC htJB2C
                have hIJB2C := hJJB2C.symm
                have hAJB2C := hAJB2.turn htJB2C (fun k e => e.elim) W.heap.size (fun k e => e.elim)
                rw [← hwJB2C]
                simp only [← hgC]
                clear hwJB2C hgC
                refine hK.out _ _ (hcaJB2C) (fun hHeld => ?_)
                clear hK K
                refine norm_ (a' := ?_) ?_ ?_
                rotate_left
                · show Act.put _ (some 89) _ = _
                  simp only [Act.put, List.setIfInBounds_toArray, List.set_cons_zero, List.set_cons_succ, i64_w, i32_w]
                  rfl
                refine one_ (i := 15) (N := some 90) #[true, true, true, true, true, true, true, true, true, true, true, true, true, true, true, true, true, true, true, true, true, true, false, false, false, false] rfl rfl (by kernel_rfl) (by decide) (fun K hK => ?_)
                refine Kd.N_append_rows_step k46 (w0 := W) W.heap.size (by rfl) (.tmp 83) (.tmp 89) 31 46 _ 40 (by rfl) Tryz.underlying31 info46 (by rfl) (by decide) (by decide) (.slice AAq mAq cAq) ((s.G.take k).map group) [(⟨mkS nm, ms.map mkS⟩ : S46)] (some ⟨gC, 0, none⟩) 1 1 ok SJB2C (by rfl) (by rfl) (Kd.N_mono hAJB2C.1 (fun k hk => by
                             rcases hk with hk | hk
                             · exact hk.1
                             · exact HFR.out k (hAJB2C.2.1 k hk).1)) hBJB2C.1 (fun k hk => ⟨HFR.out k (hBJB2C.2 k hk).1, fun e => by
                             have h2 := hAJB2C.1.1 k e.symm
                             rcases h2 with h2 | h2
                             · have := (hBJB2C.2 k hk).1; have := h2.2; omega
                             · exact hIJB2C.d k h2 hk⟩) (fun k hk => HFR.out k (Nat.le_trans hIJB2C.below.size hk)) hIJB2C.below hIJB2C.below.size (by simp; omega) ?_
                intro v1 w1 hN1 hB1 hg1 hat1
                refine hK.out _ _ (cell_gr hg1 (fun e => by have := Kd.N_base hAJB2C.1 q e; omega) hHeld) (fun hHeld => ?_)
                clear hK K
                refine norm_ (a' := ?_) ?_ ?_
                rotate_left
                · show Act.put _ (some 90) _ = _
                  simp only [Act.put, List.setIfInBounds_toArray, List.set_cons_zero, List.set_cons_succ, i64_w, i32_w]
                  rfl
                refine one_ (i := 22) (N := some 97) #[true, true, true, true, true, true, true, true, true, true, true, true, true, true, true, true, true, true, true, true, true, true, true, false, false, false] rfl rfl (by kernel_rfl) (by decide) (fun K hK => ?_)
                refine Kd.N_append_rows_step k46 (w0 := W) W.heap.size (by rfl) (.tmp 90) (.tmp 96) 31 46 _ 40 (by rfl) Tryz.underlying31 info46 (by rfl) (by decide) (by decide) v1 _ ((s.G.drop k).map group) _ (s.G.length - k) _ ok (fun k => ok k ∧ k < W.heap.size) (by rfl) (by rfl) hN1 (Kd.F_below HFD.out hB1) (fun k hk => ⟨hk.1, fun e => by have h1 := Kd.N_base hN1 k e.symm; have h2 := hk.2; omega⟩) (fun k hk => HFR.out k (Nat.le_trans hB1.size hk)) hB1 hB1.size (by simp; omega) ?_
                intro v2 w2 hN2 hB2 hg2 hat2
                obtain ⟨A3, c3, m3, rfl⟩ := n_slice hN2
                have hq2 : w2.heap[q]? = W.heap[q]? := hB2.block q hql
                have hc2 := keep_heap hq2 c1
                have hf2 := keep_heap_fz hq2 f1
                refine hK.out _ _ (cell_gr hg2 (fun e => by have := Kd.N_base hN1 q e; omega) hHeld) (fun hHeld => ?_)
                clear hK K
                refine norm_ (a' := ?_) ?_ ?_
                rotate_left
                · show Act.put _ (some 97) _ = _
                  simp only [Act.put, List.setIfInBounds_toArray, List.set_cons_zero, List.set_cons_succ, i64_w, i32_w]
                  rfl
                refine pure_ (i := 23) (N := some 98) (v := ?_) (a' := ?_) #[true, true, true, true, true, true, true, true, true, true, true, true, true, true, true, true, true, true, true, true, true, true, true, true, false, false] rfl rfl (by kernel_rfl) (fun _ _ _ h => h) (Or.inl ⟨by rfl, ?_⟩) ?_ ?_
                rotate_left
                · intro w'
                  go_simp
                  with_reducible rfl
                rotate_left
                · simp only [Act.put, List.setIfInBounds_toArray, List.set_cons_zero, List.set_cons_succ, i64_w, i32_w]
                  rfl
                refine pure_ (i := 24) (N := some 99) (v := ?_) (a' := ?_) #[true, true, true, true, true, true, true, true, true, true, true, true, true, true, true, true, true, true, true, true, true, true, true, true, true, false] rfl rfl (by kernel_rfl) (fun _ _ _ h => h) (Or.inl ⟨by rfl, ?_⟩) ?_ ?_
                rotate_left
                · intro w'
                  go_simp
                  with_reducible rfl
                rotate_left
                · simp only [Act.put, List.setIfInBounds_toArray, List.set_cons_zero, List.set_cons_succ, i64_w, i32_w]
                  rfl
                refine last_ (i := 25) (N := none) #[true, true, true, true, true, true, true, true, true, true, true, true, true, true, true, true, true, true, true, true, true, true, true, true, true, true] rfl rfl (by kernel_rfl) (by decide) (fun K hK => ?_)
                refine skip_ (w1 := ?_) (by rfl) rfl ?_ ?_
                rotate_left
                · go_simp
                  rfl
                refine hK.out _ _ ?_
                clear hK K
                refine done_ (by kernel_rfl) ?_
                have hq0 : W.heap[q]? = some (.cells #[.slice A2 s.P.length c2, .slice (A) s.G.length c] 33 (0, 0)) := by
                  have := HBK.out
                  rwa [List.length_map, List.length_map] at this
                have hq3 := set_blk1 (hq2.trans hq0) (.slice A3 m3 c3)
                have hT : Turn (fun k => k = q) W (w2.setCell ⟨q, 1, none⟩ (.slice A3 m3 c3)) := (Turn.of_below hB2).trans (Turn.of_set w2 ⟨q, 1, none⟩ _)
                have HQ3 := Aside0.mk hq3
                have HT3 := Aside0.mk hT
                have HN2 := Aside0.mk hN2
                clear hq3 hT hN2 hq2 hc2 hf2 hHeld hg2 hat2 hB2 hN1 hB1 hg1 hat1
                go_wp2_with fail
                all_goals go_ret
                all_goals
                  refine ⟨by rw [HX.out]; rfl, ?_, HT3.out⟩
                  rw [HX.out, HINS.out]
                  obtain ⟨A5, c5, e5, hl5, hf5⟩ := Kd.N_V (base' := 0) HN2.out
                  have e6 : ((s.G.take k).map group ++ [(⟨mkS nm, ms.map mkS⟩ : S46)]) ++ (s.G.drop k).map group = (s.G.take k ++ (nm, ms) :: s.G.drop k).map group := by simp [group]
                  rw [e6] at e5 hl5 hf5
                  exact ⟨⟨_, _, HQ3.out, ⟨A2, c2, by rw [List.length_map], by rw [List.length_map]; exact hl2, Kd.F_step HF2.out (fun k hk hlt => HT3.out.block k hlt (fun e => HR.out.qok (by rw [← e]; exact hk)))⟩, ⟨A5, c5, e5, hl5, Kd.F_far hf5 (fun k hk e => HR.out.qok (by rw [← show k = q from e]; exact hk)) _⟩⟩, HR.out.qok⟩
end Go.Proofs.YtflioeiklcnncaaGreatDoor.Ri

set_option linter.unusedVariables false
set_option linter.unusedSimpArgs false
namespace Go.Proofs.YtflioeiklcnncaaGreatDoor.Ri
open Go.RowKit Go.Maps Go.Sort Go.Proofs.YtflioeiklcnncaaGreatDoorW.PrintLast Go.Proofs.YtflioeiklcnncaaGreatDoorW.PrintWords Go.Proofs.YtflioeiklcnncaaGreatDoor.PRing

/-- A row of bytes comes into a rising list. -/
def insB (p : B) : List B → List B
  | [] => [p]
  | y :: r => if bytesBefore p y = true then p :: y :: r else y :: insB p r
theorem insB_length (p : B) : ∀ l : List B, (insB p l).length = l.length + 1
  | [] => rfl
  | y :: r => by
    unfold insB
    split
    · rfl
    · simp [insB_length p r]
theorem rws_at {W : World} {ok : Nat → Prop} {A : Option Addr} {l : List B} (h : Kd.F (Kd.slice 5 (Kd.int .u8)) W ok A l.length (l.map ints)) {k : Nat} (hk : k < l.length) :
    ∃ ad A1 c1, A = some ad ∧ W.cell? (ad.add k) = some (.slice A1 l[k].length c1) ∧ Bts W ok (.slice A1 l[k].length c1) l[k] ∧ Kd.FK (Kd.slice 5 (Kd.int .u8)) W ok (ints l[k]) [.slice A1 l[k].length c1] := by
  obtain ⟨ad, c, e, _, hK, hc, _⟩ := Kd.F_get h [] (k : Int) (by omega) (by omega)
  obtain ⟨A1, c1, rfl, l1, g1⟩ := Kd.FK_slice_open hK
  have e1 : (l.map ints).getD ((k : Int).toNat) [] = ints l[k] := by simp [hk]
  rw [e1] at l1 g1 hc hK
  have hc0 := hc 0 _ rfl
  have e2 : (Kd.slice 5 (Kd.int .u8)).sz = 1 := rfl
  rw [ints_length] at l1 g1 hc0 hK
  simp only [Int.toNat_natCast, e2, Nat.mul_one, Nat.add_zero] at hc0
  exact ⟨ad, A1, c1, e, hc0, ⟨A1, c1, by rw [ints_length], by rw [ints_length]; exact l1, by rw [ints_length]; exact g1⟩, hK⟩
set_option maxRecDepth 100000 in
set_option maxHeartbeats 4000000 in
theorem Sorted37 {W : World} {ok : Nat → Prop} {v pv : Value} {l : List B} {p : B} (h : Rws W ok v l) (hp : Bts W ok pv p) (hfresh : ∀ k, W.heap.size ≤ k → ok k) (hl : l.length ≤ 10000000) :
    Calls Tryz.prog 37 #[v, pv] W fun e w' => ∃ v', e = .returned v' ∧ Rws w' ok v' (insB p l) ∧ Below W.heap.size W w' := by
  have HLS := Aside0.mk (fun (W' : World) (hb : Below W.heap.size W W') (x : B) (xv : Value) (hx : Bts W' (fun k => ok k ∧ k < W.heap.size) xv x) => less60 (Kd.V_below hp hb) (Kd.V_mono (ok' := ok) hx (fun k hk => hk.1)))
  obtain ⟨A, c, rfl, hlc, hf⟩ := h
  obtain ⟨Ap, cp, rfl, hlp, hfp⟩ := hp
  rw [List.length_map] at hlc hf ⊢
  rw [ints_length] at hlp hfp HLS ⊢
  have HF := Aside0.mk (Kd.F_bound hf)
  have HFP := Aside0.mk (Kd.F_bound hfp)
  have HFR := Aside0.mk hfresh
  clear hf hfp hfresh
  go_enter Tryz.func37, Tryz.ntmps37
  go_wp2_with fail
  go_loopw [7, 6, 5] (fun i pt u wr => ∃ (k : Nat) (b : Bool) (out : List B), k ≤ l.length ∧ i = .int .i64 k ∧ pt = .bool b ∧ insB p l = out ++ (bif b then l.drop k else insB p (l.drop k)) ∧ out.length ≤ k + b.toNat ∧ Kd.N (Kd.slice 5 (Kd.int .u8)) 24 wr W.heap.size ok u (out.map ints) ∧ Below W.heap.size W wr) (fun i _ _ _ => l.length - (intOf i).toNat)
  case atStart => exact ⟨0, false, [], Nat.zero_le _, rfl, rfl, rfl, Nat.zero_le _, Kd.N_nil _ _ _ _ _, Below.refl _ _⟩
  case round =>
    obtain ⟨k, b, out, hk, rfl, rfl, hout, hol, hN, hbr⟩ := hrel
    have HOUT := Aside0.mk hout
    have HOL := Aside0.mk hol
    have hol2 : out.length ≤ k + 1 := by cases b <;> simp at hol <;> omega
    clear hol
    have HN := Aside0.mk hN
    have HBR := Aside0.mk hbr
    clear hout
    by_cases hlt : k < l.length
    · obtain ⟨ad, A1, c1, rfl, hc0, hv, hfk⟩ := rws_at (Kd.F_below HF.out hbr) hlt
      have HFK := Aside0.mk (show ∀ w2, Below wr.heap.size wr w2 → Kd.FK (Kd.slice 5 (Kd.int .u8)) w2 (fun k => ok k ∧ k < W.heap.size) (ints l[k]) [.slice A1 l[k].length c1] from fun w2 hb2 => Kd.FK_step hfk (fun k hk hlt => hb2.block k hlt))
      have HFKP := Aside0.mk (show ∀ w2, Below W.heap.size W w2 → Kd.FK (Kd.slice 5 (Kd.int .u8)) w2 (fun k => ok k ∧ k < W.heap.size) (ints p) [.slice Ap p.length cp] from fun w2 hb2 => by
        have := Kd.FK_slice_mk (e := 5) (d := Kd.int .u8) (l := ints p) (c := cp) (A := Ap) (by rw [ints_length]; exact hlp) (by rw [ints_length]; exact Kd.F_below HFP.out hb2)
        rwa [ints_length] at this)
      have hle := HLS.out wr hbr _ _ hv
      have hd : l.drop k = l[k] :: l.drop (k + 1) := List.drop_eq_getElem_cons hlt
      have HD := Aside0.mk hd
      generalize hx : l[k] = x at hle HFK hc0 hv HD
      have HX := Aside0.mk hx
      generalize hbb : bytesBefore p x = bb at hle
      have HBB := Aside0.mk hbb
      have HLE := Aside0.mk hle
      clear hv hbb hle hN hbr hfk hd hx
      cases b with
      | true =>
        as_aux_lemma =>
        go_wp2_with (at_builtin; refine stop_at ?_)
        unfold Stop
        refine Kd.N_append (Kd.slice 5 (Kd.int .u8)) (w0 := W) W.heap.size rfl _ _ 35 24 _ 24 rfl Tryz.underlying35 info24 rfl (by decide) (by decide) _ ((out).map ints) (ints x) [.slice A1 x.length c1] ok (fun k => ok k ∧ k < W.heap.size) rfl rfl ?hpw3 ?hokw3 ?freshw3 ?HOw3 ?HBw3 ?hbasew3 ?hlw3 ?_
        case hpw3 => exact HFK.out _ (Below.refl _ _)
        case hokw3 => exact fun b hb => ⟨hb.1, fun e => by have h1 := Kd.N_base HN.out b e.symm; have h2 := hb.2; omega⟩
        case freshw3 => exact fun b hb => HFR.out b (Nat.le_trans HBR.out.size hb)
        case HOw3 => exact HN.out
        case HBw3 => exact HBR.out
        case hbasew3 => exact HBR.out.size
        case hlw3 => simp; omega
        intro u3 w3 hNw3 hBw3 hgw3 hatw3
        have HNw3 := Aside0.mk (show Kd.N (Kd.slice 5 (Kd.int .u8)) 24 w3 W.heap.size ok u3 ((out ++ [x]).map ints) by rw [List.map_append]; exact hNw3)
        have HBw3 := Aside0.mk hBw3
        clear hNw3 hBw3 hgw3 hatw3
        go_wp2_with fail
        refine ⟨⟨k + 1, true, out ++ [x], by omega, by go_num, rfl, ?_, by have := HOL.out; simp at this ⊢; omega, HNw3.out, HBw3.out⟩, by simp [intOf]; omega⟩
        exact HOUT.out.trans (by simp [HD.out])
      | false =>
        have h2 : ∀ n, Below W.heap.size W (wr.drewN n) := fun n => pw_below_drewN HBR.out n
        have HBRN := Aside0.mk h2
        clear h2
        cases bb with
        | true =>
          as_aux_lemma =>
          go_wp2_with fail
          refine HLE.out.mono ?_
          rintro e w2 ⟨rfl, ⟨n, rfl⟩⟩
          have HBR2 := Aside0.mk (HBRN.out n)
          have HN2 := Aside0.mk (Kd.N_below HN.out (pw_below_drewN (Below.refl _ wr) n))
          go_wp2_with (at_builtin; refine stop_at ?_)
          unfold Stop
          refine Kd.N_append (Kd.slice 5 (Kd.int .u8)) (w0 := W) W.heap.size rfl _ _ 35 24 _ 24 rfl Tryz.underlying35 info24 rfl (by decide) (by decide) _ ((out).map ints) (ints p) [.slice Ap p.length cp] ok (fun k => ok k ∧ k < W.heap.size) rfl rfl ?hpw3 ?hokw3 ?freshw3 ?HOw3 ?HBw3 ?hbasew3 ?hlw3 ?_
          case hpw3 => exact HFKP.out _ HBR2.out
          case hokw3 => exact fun b hb => ⟨hb.1, fun e => by have h1 := Kd.N_base HN2.out b e.symm; have h2 := hb.2; omega⟩
          case freshw3 => exact fun b hb => HFR.out b (Nat.le_trans HBR2.out.size hb)
          case HOw3 => exact HN2.out
          case HBw3 => exact HBR2.out
          case hbasew3 => exact HBR2.out.size
          case hlw3 => simp; omega
          intro u3 w3 hNw3 hBw3 hgw3 hatw3
          have HNw3 := Aside0.mk (show Kd.N (Kd.slice 5 (Kd.int .u8)) 24 w3 W.heap.size ok u3 ((out ++ [p]).map ints) by rw [List.map_append]; exact hNw3)
          have HBw3 := Aside0.mk hBw3
          clear hNw3 hBw3 hgw3 hatw3
          obtain ⟨adq, A1q, c1q, had, hc4, hv4, hfk4⟩ := rws_at (Kd.F_below HF.out HBw3.out) hlt
          cases had
          rw [HX.out] at hc4 hfk4
          clear hv4
          go_wp2_with (at_builtin; refine stop_at ?_)
          unfold Stop
          refine Kd.N_append (Kd.slice 5 (Kd.int .u8)) (w0 := W) W.heap.size rfl _ _ 35 24 _ 24 rfl Tryz.underlying35 info24 rfl (by decide) (by decide) _ ((out ++ [p]).map ints) (ints x) [.slice A1q x.length c1q] ok (fun k => ok k ∧ k < W.heap.size) rfl rfl ?hpw4 ?hokw4 ?freshw4 ?HOw4 ?HBw4 ?hbasew4 ?hlw4 ?_
          case hpw4 => exact hfk4
          case hokw4 => exact fun b hb => ⟨hb.1, fun e => by have h1 := Kd.N_base HNw3.out b e.symm; have h2 := hb.2; omega⟩
          case freshw4 => exact fun b hb => HFR.out b (Nat.le_trans HBw3.out.size hb)
          case HOw4 => exact HNw3.out
          case HBw4 => exact HBw3.out
          case hbasew4 => exact HBw3.out.size
          case hlw4 => simp; omega
          intro u4 w4 hNw4 hBw4 hgw4 hatw4
          have HNw4 := Aside0.mk (show Kd.N (Kd.slice 5 (Kd.int .u8)) 24 w4 W.heap.size ok u4 ((out ++ [p] ++ [x]).map ints) by rw [List.map_append]; exact hNw4)
          have HBw4 := Aside0.mk hBw4
          clear hNw4 hBw4 hgw4 hatw4
          go_wp2_with fail
          refine ⟨⟨k + 1, true, out ++ [p] ++ [x], by omega, by go_num, rfl, ?_, by have := HOL.out; simp at this ⊢; omega, HNw4.out, HBw4.out⟩, by simp [intOf]; omega⟩
          refine HOUT.out.trans ?_
          simp only [cond_false, cond_true, HD.out, insB, HBB.out, if_true]
          simp
        | false =>
          as_aux_lemma =>
          go_wp2_with fail
          refine HLE.out.mono ?_
          rintro e w2 ⟨rfl, ⟨n, rfl⟩⟩
          have HBR2 := Aside0.mk (HBRN.out n)
          have HN2 := Aside0.mk (Kd.N_below HN.out (pw_below_drewN (Below.refl _ wr) n))
          go_wp2_with (at_builtin; refine stop_at ?_)
          unfold Stop
          refine Kd.N_append (Kd.slice 5 (Kd.int .u8)) (w0 := W) W.heap.size rfl _ _ 35 24 _ 24 rfl Tryz.underlying35 info24 rfl (by decide) (by decide) _ ((out).map ints) (ints x) [.slice A1 x.length c1] ok (fun k => ok k ∧ k < W.heap.size) rfl rfl ?hpw3 ?hokw3 ?freshw3 ?HOw3 ?HBw3 ?hbasew3 ?hlw3 ?_
          case hpw3 => exact HFK.out _ (pw_below_drewN (Below.refl _ wr) n)
          case hokw3 => exact fun b hb => ⟨hb.1, fun e => by have h1 := Kd.N_base HN2.out b e.symm; have h2 := hb.2; omega⟩
          case freshw3 => exact fun b hb => HFR.out b (Nat.le_trans HBR2.out.size hb)
          case HOw3 => exact HN2.out
          case HBw3 => exact HBR2.out
          case hbasew3 => exact HBR2.out.size
          case hlw3 => simp; omega
          intro u3 w3 hNw3 hBw3 hgw3 hatw3
          have HNw3 := Aside0.mk (show Kd.N (Kd.slice 5 (Kd.int .u8)) 24 w3 W.heap.size ok u3 ((out ++ [x]).map ints) by rw [List.map_append]; exact hNw3)
          have HBw3 := Aside0.mk hBw3
          clear hNw3 hBw3 hgw3 hatw3
          go_wp2_with fail
          refine ⟨⟨k + 1, false, out ++ [x], by omega, by go_num, rfl, ?_, by have := HOL.out; simp at this ⊢; omega, HNw3.out, HBw3.out⟩, by simp [intOf]; omega⟩
          refine HOUT.out.trans ?_
          simp only [cond_false, HD.out, insB, HBB.out]
          simp
    · obtain rfl : k = l.length := by omega
      clear hN hbr
      cases b with
      | true =>
        as_aux_lemma =>
        go_wp2_with fail
        go_ret
        have ho := HOUT.out
        simp only [cond_true, List.drop_length, List.append_nil] at ho
        obtain ⟨A5, c5, e5, hl5, hf5⟩ := Kd.N_V (base' := 0) HN.out
        exact ⟨_, rfl, by rw [ho]; exact ⟨A5, c5, e5, hl5, hf5⟩, HBR.out⟩
      | false =>
        have HFKP := Aside0.mk (show ∀ w2, Below W.heap.size W w2 → Kd.FK (Kd.slice 5 (Kd.int .u8)) w2 (fun k => ok k ∧ k < W.heap.size) (ints p) [.slice Ap p.length cp] from fun w2 hb2 => by
          have := Kd.FK_slice_mk (e := 5) (d := Kd.int .u8) (l := ints p) (c := cp) (A := Ap) (by rw [ints_length]; exact hlp) (by rw [ints_length]; exact Kd.F_below HFP.out hb2)
          rwa [ints_length] at this)
        as_aux_lemma =>
        go_wp2_with (at_builtin; refine stop_at ?_)
        unfold Stop
        refine Kd.N_append (Kd.slice 5 (Kd.int .u8)) (w0 := W) W.heap.size rfl _ _ 35 24 _ 24 rfl Tryz.underlying35 info24 rfl (by decide) (by decide) _ ((out).map ints) (ints p) [.slice Ap p.length cp] ok (fun k => ok k ∧ k < W.heap.size) rfl rfl ?hpw3 ?hokw3 ?freshw3 ?HOw3 ?HBw3 ?hbasew3 ?hlw3 ?_
        case hpw3 => exact HFKP.out _ HBR.out
        case hokw3 => exact fun b hb => ⟨hb.1, fun e => by have h1 := Kd.N_base HN.out b e.symm; have h2 := hb.2; omega⟩
        case freshw3 => exact fun b hb => HFR.out b (Nat.le_trans HBR.out.size hb)
        case HOw3 => exact HN.out
        case HBw3 => exact HBR.out
        case hbasew3 => exact HBR.out.size
        case hlw3 => simp; omega
        intro u3 w3 hNw3 hBw3 hgw3 hatw3
        have HNw3 := Aside0.mk (show Kd.N (Kd.slice 5 (Kd.int .u8)) 24 w3 W.heap.size ok u3 ((out ++ [p]).map ints) by rw [List.map_append]; exact hNw3)
        have HBw3 := Aside0.mk hBw3
        clear hNw3 hBw3 hgw3 hatw3
        go_wp2_with fail
        go_ret
        have ho := HOUT.out
        simp only [cond_false, List.drop_length, insB] at ho
        obtain ⟨A5, c5, e5, hl5, hf5⟩ := Kd.N_V (base' := 0) HNw3.out
        exact ⟨_, rfl, by rw [ho]; exact ⟨A5, c5, e5, hl5, hf5⟩, HBw3.out⟩
end Go.Proofs.YtflioeiklcnncaaGreatDoor.Ri

set_option linter.unusedVariables false
set_option linter.unusedSimpArgs false
namespace Go.Proofs.YtflioeiklcnncaaGreatDoor.Ri
open Go.RowKit Go.Maps Go.Sort Go.Proofs.YtflioeiklcnncaaGreatDoorW.PrintLast Go.Proofs.YtflioeiklcnncaaGreatDoorW.PrintWords Go.Proofs.YtflioeiklcnncaaGreatDoor.PRing

/-! ### a queue of strings of one's own -/
def strsV (l : List B) : List Value := l.map fun x => .string (mkS x)
def OwnQ (W : World) (v : Value) (l : List B) : Prop := QRow W 0 9 1 v l.length (strsV l)
theorem OwnQ.nil (W : World) : OwnQ W (.slice none 0 0) [] := ⟨rfl, .inl ⟨rfl, none, rfl, fun a h => by cases h⟩⟩
theorem OwnQ.lt {W : World} {v : Value} {l : List B} (h : OwnQ W v l) : ∀ k, v.ownBlock = some k → k < W.heap.size := fun k hk => q_lt h k hk
theorem OwnQ.typed {W : World} {v : Value} {l : List B} (h : OwnQ W v l) : ∀ k, v.ownBlock = some k → ∃ cells, W.heap[k]? = some (.cells cells 9 (0, 0)) := fun k hk => (q_typed h k hk).2
theorem OwnQ.slice {W : World} {v : Value} {l : List B} (h : OwnQ W v l) : ∃ A c, v = .slice A l.length c ∧ l.length ≤ c := q_slice h
theorem OwnQ.turn {S : Nat → Prop} {W W' : World} {v : Value} {l : List B} (h : OwnQ W v l) (ht : Turn S W W') (hS : ∀ k, v.ownBlock = some k → ¬ S k) : OwnQ W' v l := q_move h (fun k hk => ht.block k (h.lt k hk) (hS k hk))
theorem OwnQ.head {W : World} {A : Option Addr} {n c : Nat} {x : B} {l : List B} (h : OwnQ W (.slice A n c) (x :: l)) : ∃ g o, A = some ⟨g, o, none⟩ ∧ W.cell? ⟨g, o, none⟩ = some (.string (mkS x)) := by
  obtain ⟨A', c', e, _⟩ := q_slice h
  injection e with e1 e2 e3
  subst e1; subst e2; subst e3
  obtain ⟨ad, e, hc⟩ := q_cells h (by simp)
  have hc0 := hc 0 _ rfl
  rcases h.2 with ⟨h0, _⟩ | ⟨g, off, cap, cur, hv, _⟩
  · simp at h0
  · injection hv with h1 _ _
    rw [e] at h1
    injection h1 with h1
    subst h1
    refine ⟨g, off * 1, e, ?_⟩
    have e2 : (⟨g, off * 1, none⟩ : Addr).add 0 = ⟨g, off * 1, none⟩ := by unfold Addr.add; simp
    rwa [e2] at hc0
theorem OwnQ.drop1 {W : World} {A : Option Addr} {n c : Nat} {x : B} {l : List B} (h : OwnQ W (.slice A n c) (x :: l)) : OwnQ W (.slice (if c = 1 then A else A.map (·.add (1 * 1))) (n - 1) (c - 1)) l := by
  obtain ⟨A', c', e, _⟩ := q_slice h
  injection e with e1 e2 e3
  subst e1; subst e2; subst e3
  have := q_drop (k := 1) h (by simp)
  exact this
set_option maxRecDepth 100000 in
theorem OwnQ.append {W : World} {v : Value} {l ys : List B} (h : OwnQ W v l) {ok : Nat → Prop} {A : Option Addr} {c : Nat} (hy : Kd.F Kd.string W ok A ys.length (ys.map mkS)) (hb : l.length + ys.length ≤ 1000000000) (ty : TypeId) :
    ∃ v1 w1, (Builtin.append_ #[23, 23] ty #[v, .slice A ys.length c]).run Tryz.prog W = .ok v1 w1 ∧ OwnQ w1 v1 (l ++ ys) ∧ W.grownBy w1 v.ownBlock ∧ (v1.ownBlock = v.ownBlock ∨ ∃ b, v1.ownBlock = some b ∧ W.heap.size ≤ b) := by
  obtain ⟨i0, hi, hzz⟩ := Option.map_eq_some_iff.1 info9
  have hzz' := hzz
  simp only [Prod.mk.injEq] at hzz'
  obtain ⟨hz0, hz1, hz2⟩ := hzz'
  have ht := Tryz.underlying23
  rcases Nat.eq_zero_or_pos ys.length with h0 | h0
  · have hnil : ys = [] := List.length_eq_zero_iff.1 h0
    subst hnil
    refine ⟨v, W, ?_, by rw [List.append_nil]; exact h, World.grownBy.refl W _, .inl rfl⟩
    obtain ⟨A', c', e, hc⟩ := q_slice h
    subst e
    cases A <;> cases A' <;> simp [Builtin.append_, run_underlying ht, sizeOf, typeInfo, hi, Builtin.lenOf, Builtin.firstCells, hc, storeCells]
    all_goals (simp [loadCells, storeCells, Result.andThen]; try rfl)
  · obtain ⟨_, _, hn⟩ := Kd.F_now hy
    obtain ⟨ad, rfl, hcell⟩ := hn h0
    have hnews : ∀ j u, (strsV ys)[j]? = some u → W.cell? (ad.add j) = some u := fun j u hu => by
      have hj : j < ys.length := by
        have := (List.getElem?_eq_some_iff.1 hu).1
        simpa [strsV] using this
      obtain ⟨ad', e, hc⟩ := str_at (l := ys) hy hj
      injection e with e
      subst e
      rw [hc]
      simp only [strsV, List.getElem?_map, List.getElem?_eq_getElem hj, Option.map_some] at hu
      exact hu
    obtain ⟨v1, w1, hr, hq, hg, hat⟩ := q_append (P := Tryz.prog) W 0 23 ty 9 i0 _ 1 16 ht hi hz0 hz1 hz2 rfl (by decide) v l.length (strsV l) h ad ys.length c (strsV ys) (by simp [strsV]) hnews
      (fun u hu => by obtain ⟨x, _, rfl⟩ := List.mem_map.1 hu; rfl) h0 (by simp only [maxLen]; omega) (by omega) (Nat.zero_le _)
    refine ⟨v1, w1, hr, ?_, hg, hat⟩
    unfold OwnQ
    have e1 : strsV (l ++ ys) = strsV l ++ strsV ys := by simp [strsV]
    rw [e1, List.length_append]
    exact hq
section
variable {ops : Array Oper} {rest : List Oper} {o : Oper} {a : Act} {Q' : Exit → Act → World → Prop}
/-- append(queue, ys...) in a walk. -/
theorem q_law {W : World} {v : Value} {l ys : List B} {ok : Nat → Prop} {A : Option Addr} {m c : Nat} (hgd : o.guard = none) (s x : Operand) (ho : o.op = .call { callee := .builtin .append, args := #[s, x], argTypes := #[23, 23] }) (hs : a.eval s = v) (hx : a.eval x = .slice A m c)
    (h : OwnQ W v l) (hm : m = ys.length) (hy : Kd.F Kd.string W ok A ys.length (ys.map mkS)) (hb : l.length + ys.length ≤ 1000000000)
    (k : ∀ v1 w1, OwnQ w1 v1 (l ++ ys) → W.grownBy w1 v.ownBlock → (v1.ownBlock = v.ownBlock ∨ ∃ b, v1.ownBlock = some b ∧ W.heap.size ≤ b) → wpList Tryz.prog ops Q' rest (a.put o.dst v1) w1) : wpList Tryz.prog ops Q' (o :: rest) a W := by
  subst hm
  obtain ⟨v1, w1, hr, h1, h2, h3⟩ := h.append (c := c) hy hb o.type
  refine wpList_plain hgd fun K hK => ?_
  unfold Oper.wp execOp
  simp only [ho, resolve, invoke, builtin, Sem.run_bind, Sem.run_pure, Result.andThen_ok, List.map_toArray, List.map_cons, List.map_nil, hs, hx, hr]
  exact hK _ _ (k v1 w1 h1 h2 h3)
end

/-! ### what the document's Points keeps -/
structure PI (s : St) (names all left : List B) : Prop where
  al : ∀ x ∈ all, RchN s names x ∧ there s x = true
  lf : ∀ x ∈ left, RchN s names x
  nm : ∀ n ∈ names, n ∈ all ∨ n ∈ left
  cl : ∀ x ∈ all, ∀ m ∈ mem s x, m ∈ all ∨ m ∈ left
  nd : all.Nodup
  pot : all.length + 1001 * unv s all + left.length ≤ 1001 * unv s [] + names.length
theorem PI.start (s : St) (names : List B) : PI s names [] names :=
  ⟨fun x hx => by simp at hx, fun x hx => ⟨x, hx, .refl⟩, fun n hn => .inr hn, fun x hx => by simp at hx, List.nodup_nil, by simp⟩
theorem PI.seen {s : St} {names all left : List B} {n : B} (h : PI s names all (n :: left)) (hn : n ∈ all) : PI s names all left :=
  ⟨h.al, fun x hx => h.lf x (by simp [hx]), fun x hx => by
    rcases h.nm x hx with h1 | h1
    · exact .inl h1
    · rcases List.mem_cons.1 h1 with rfl | h1
      · exact .inl hn
      · exact .inr h1, fun x hx m hm => by
    rcases h.cl x hx m hm with h1 | h1
    · exact .inl h1
    · rcases List.mem_cons.1 h1 with rfl | h1
      · exact .inl hn
      · exact .inr h1, h.nd, by have := h.pot; simp only [List.length_cons] at this; omega⟩
theorem unv_snoc (s : St) (all : List B) (n : B) : unv s (all ++ [n]) = unv s (n :: all) :=
  Nat.le_antisymm (unv_mono (fun x hx => by simp only [List.mem_cons] at hx; rcases hx with rfl | hx <;> simp [*])) (unv_mono (fun x hx => by simp only [List.mem_append, List.mem_singleton] at hx; rcases hx with hx | rfl <;> simp [*]))
theorem PI.new {s : St} {names all left : List B} {n : B} (h : PI s names all (n :: left)) (hn : n ∉ all) (ht : there s n = true) (hl : (mem s n).length ≤ 1000) : PI s names (all ++ [n]) (left ++ mem s n) := by
  have hr : RchN s names n := h.lf n (by simp)
  refine ⟨fun x hx => ?_, fun x hx => ?_, fun x hx => ?_, fun x hx m hm => ?_, ?_, ?_⟩
  · rcases List.mem_append.1 hx with hx | hx
    · exact h.al x hx
    · rw [List.mem_singleton.1 hx]; exact ⟨hr, ht⟩
  · rcases List.mem_append.1 hx with hx | hx
    · exact h.lf x (by simp [hx])
    · obtain ⟨a, ha, hra⟩ := hr
      exact ⟨a, ha, .step hra hx⟩
  · rcases h.nm x hx with h1 | h1
    · exact .inl (by simp [h1])
    · rcases List.mem_cons.1 h1 with rfl | h1
      · exact .inl (by simp)
      · exact .inr (by simp [h1])
  · rcases List.mem_append.1 hx with hx | hx
    · rcases h.cl x hx m hm with h1 | h1
      · exact .inl (by simp [h1])
      · rcases List.mem_cons.1 h1 with rfl | h1
        · exact .inl (by simp)
        · exact .inr (by simp [h1])
    · rw [List.mem_singleton.1 hx] at hm
      exact .inr (by simp [hm])
  · rw [List.nodup_append]
    exact ⟨h.nd, by simp, fun a ha b hb => by
      rw [List.mem_singleton.1 hb]
      exact fun e => hn (by rw [← e]; exact ha)⟩
  · have hp := h.pot
    simp only [List.length_cons, List.length_append, List.length_nil] at hp ⊢
    rw [unv_snoc]
    by_cases hg : ahas s.G n = true
    · have := unv_lt hn hg
      omega
    · rw [mem_none (by simpa using hg)]
      have := unv_mono (s := s) (V := all) (V' := n :: all) (fun x hx => by simp [hx])
      simp
      omega
theorem PI.all {s : St} {names all : List B} (h : PI s names all []) (x : B) : x ∈ all ↔ RchN s names x :=
  ⟨fun hx => (h.al x hx).1, fun ⟨n, hn, hr⟩ => rch_closed (fun y hy m hm => by
    rcases h.cl y hy m hm with h1 | h1
    · exact h1
    · simp at h1) (by
    rcases h.nm n hn with h1 | h1
    · exact h1
    · simp at h1) hr⟩
end Go.Proofs.YtflioeiklcnncaaGreatDoor.Ri

set_option linter.unusedVariables false
set_option linter.unusedSimpArgs false
namespace Go.Proofs.YtflioeiklcnncaaGreatDoor.Ri
open Go.RowKit Go.Maps Go.Sort Go.Proofs.YtflioeiklcnncaaGreatDoorW.PrintWords Go.Proofs.YtflioeiklcnncaaGreatDoor.PRing

theorem insB_mem {p x : B} : ∀ {l : List B}, x ∈ insB p l ↔ x = p ∨ x ∈ l
  | [] => by simp [insB]
  | y :: r => by
    unfold insB
    split
    · simp
    · rw [List.mem_cons, insB_mem, List.mem_cons]
      constructor
      · rintro (h | h | h)
        · exact .inr (.inl h)
        · exact .inl h
        · exact .inr (.inr h)
      · rintro (h | h | h)
        · exact .inr (.inl h)
        · exact .inl h
        · exact .inr (.inr h)
theorem insB_srt {p : B} : ∀ {l : List B}, l.Pairwise (fun a b => bytesBefore a b = true) → (∀ y ∈ l, y ≠ p) → (insB p l).Pairwise (fun a b => bytesBefore a b = true)
  | [], _, _ => by simp [insB]
  | y :: r, h, hn => by
    rw [List.pairwise_cons] at h
    unfold insB
    split
    · rename_i hlt
      refine List.Pairwise.cons (fun z hz => ?_) (List.pairwise_cons.2 h)
      rcases List.mem_cons.1 hz with rfl | hz
      · exact hlt
      · exact bb_trans hlt (h.1 z hz)
    · rename_i hlt
      refine List.Pairwise.cons (fun z hz => ?_) (insB_srt h.2 (fun z hz => hn z (by simp [hz])))
      rcases insB_mem.1 hz with rfl | hz
      · rcases bb_total y z with h1 | h1 | h1
        · exact h1
        · exact absurd h1 (hn y (by simp))
        · exact absurd h1 hlt
      · exact h.1 z hz
/-- The points of the names that are people, rising. -/
def ptsF (s : St) (xs : List B) : List B := xs.foldl (fun acc x => match alook s.P x with | some p => insB p acc | none => acc) []
theorem ptsF_snoc (s : St) (xs : List B) (x : B) : ptsF s (xs ++ [x]) = match alook s.P x with | some p => insB p (ptsF s xs) | none => ptsF s xs := by
  unfold ptsF
  rw [List.foldl_append]
  rfl
theorem ptsF_len (s : St) (xs : List B) : (ptsF s xs).length ≤ xs.length := by
  have key : ∀ (xs acc : List B), (xs.foldl (fun acc x => match alook s.P x with | some p => insB p acc | none => acc) acc).length ≤ acc.length + xs.length := by
    intro xs
    induction xs with
    | nil => intro acc; simp
    | cons x r ih =>
      intro acc
      simp only [List.foldl_cons, List.length_cons]
      refine Nat.le_trans (ih _) ?_
      cases alook s.P x with
      | none => simp only; omega
      | some p => simp only [insB_length]; omega
  have := key xs []
  simpa [ptsF] using this
theorem alook_mem {V : Type} {l : List (B × V)} (h : Srt l) {p : B × V} (hp : p ∈ l) : alook l p.1 = some p.2 := by
  unfold alook
  induction l with
  | nil => cases hp
  | cons a r ih =>
    unfold Srt at h
    rw [List.pairwise_cons] at h
    rcases List.mem_cons.1 hp with rfl | hp'
    · simp
    · have : (a.1 == p.1) = false := by simpa using bb_ne (h.1 p hp')
      rw [List.find?_cons, this]
      exact ih h.2 hp'
theorem alook_no {V : Type} {l : List (B × V)} {x : B} (h : ahas l x = false) : alook l x = none := by
  rw [ahas_false] at h
  simp only [alook, Option.map_eq_none_iff, List.find?_eq_none]
  intro p hp e
  exact h p hp (by simpa using e)
theorem alook_in {V : Type} {l : List (B × V)} {x : B} {v : V} (h : alook l x = some v) : (x, v) ∈ l := by
  unfold alook at h
  cases hf : l.find? (fun p => p.1 == x) with
  | none => rw [hf] at h; cases h
  | some p =>
    rw [hf] at h
    injection h with h
    have h1 := List.mem_of_find?_eq_some hf
    have h2 := List.find?_some hf
    simp only [beq_iff_eq] at h2
    rw [← h, ← h2]
    exact h1
theorem snoc_ind {P : List B → Prop} (nil : P []) (snoc : ∀ xs x, P xs → P (xs ++ [x])) (l : List B) : P l := by
  rw [← List.reverse_reverse l]
  induction l.reverse with
  | nil => exact nil
  | cons a r ih => rw [List.reverse_cons]; exact snoc _ _ ih
theorem ptsF_mem {s : St} (hs : Srt s.P) (xs : List B) (p : B) : p ∈ ptsF s xs ↔ ∃ x ∈ xs, (x, p) ∈ s.P := by
  induction xs using snoc_ind with
  | nil => simp [ptsF]
  | snoc xs x ih =>
    rw [ptsF_snoc]
    cases ha : alook s.P x with
    | none =>
      simp only
      rw [ih]
      constructor
      · rintro ⟨y, hy, hp⟩; exact ⟨y, by simp [hy], hp⟩
      · rintro ⟨y, hy, hp⟩
        rcases List.mem_append.1 hy with hy | hy
        · exact ⟨y, hy, hp⟩
        · rw [List.mem_singleton.1 hy] at hp
          rw [alook_mem hs hp] at ha
          cases ha
    | some v =>
      simp only
      rw [insB_mem, ih]
      constructor
      · rintro (rfl | ⟨y, hy, hp⟩)
        · exact ⟨x, by simp, alook_in ha⟩
        · exact ⟨y, by simp [hy], hp⟩
      · rintro ⟨y, hy, hp⟩
        rcases List.mem_append.1 hy with hy | hy
        · exact .inr ⟨y, hy, hp⟩
        · rw [List.mem_singleton.1 hy] at hp
          rw [alook_mem hs hp] at ha
          injection ha with ha
          exact .inl ha
theorem ptsF_srt {s : St} (hs : Srt s.P) (hD : ∀ p ∈ s.P, ∀ q ∈ s.P, p.2 = q.2 → p.1 = q.1) (xs : List B) (hn : xs.Nodup) : (ptsF s xs).Pairwise (fun a b => bytesBefore a b = true) := by
  induction xs using snoc_ind with
  | nil => simp [ptsF]
  | snoc xs x ih =>
    rw [List.nodup_append] at hn
    rw [ptsF_snoc]
    cases ha : alook s.P x with
    | none => exact ih hn.1
    | some v =>
      refine insB_srt (ih hn.1) (fun y hy e => ?_)
      subst e
      obtain ⟨z, hz, hp⟩ := (ptsF_mem hs xs y).1 hy
      have := hD _ hp _ (alook_in ha) rfl
      exact hn.2.2 z hz x (by simp) this
end Go.Proofs.YtflioeiklcnncaaGreatDoor.Ri

set_option linter.unusedVariables false
set_option linter.unusedSimpArgs false
namespace Go.Proofs.YtflioeiklcnncaaGreatDoor.Ri
open Go.RowKit Go.Maps Go.Sort Go.Proofs.YtflioeiklcnncaaGreatDoorW.PrintLast Go.Proofs.YtflioeiklcnncaaGreatDoorW.PrintWords Go.Proofs.YtflioeiklcnncaaGreatDoor.PRing

def RefPtsPost (W : World) (ok : Nat → Prop) (s : St) (names : List B) (e : Ending) (w' : World) : Prop :=
  ∃ v code rows, e = .returned (.tuple #[v, .int .i64 code]) ∧ Rws w' ok v rows ∧ PtsSpec s names code rows ∧ Below W.heap.size W w'
set_option maxRecDepth 100000 in
set_option maxHeartbeats 4000000 in
theorem Points11 {W : World} {ok ok' : Nat → Prop} {q : Nat} {s : St} (h : RefAt W ok q s) (hS : Good s) (hfresh : ∀ k, W.heap.size ≤ k → ok k) {pv : Value} {names : List B} (hp : Strs W ok' pv names) (hnl : names.length ≤ 1000) (hD : ∀ p ∈ s.P, ∀ q ∈ s.P, p.2 = q.2 → p.1 = q.1) :
    Calls Tryz.prog 11 #[.pointer (some ⟨q, 0, none⟩), pv] W (RefPtsPost W ok s names) := by
  obtain ⟨Ap, cp, rfl, hlp, hfp⟩ := hp
  obtain ⟨vp, vg, hb, ⟨A, c, rfl, hl, hf⟩, ⟨A2, c2, rfl, hl2, hf2⟩⟩ := h.blk
  obtain ⟨c0, c1, f0, f1⟩ := two_cells hb
  rw [List.length_map] at c0 hl
  rw [List.length_map] at c1 hl2
  rw [List.length_map] at hlp hfp ⊢
  have HR := Aside0.mk h
  have HF := Aside0.mk (Kd.F_bound hf)
  have HF2 := Aside0.mk (Kd.F_bound hf2)
  have HFP := Aside0.mk (Kd.F_bound hfp)
  have HS := Aside0.mk hS
  have HFR := Aside0.mk hfresh
  have HDI := Aside0.mk hD
  have hg1 : s.G.length ≤ 1000 := hS.g
  have hp1 : s.P.length ≤ 1000 := hS.p
  have hu0 : unv s [] ≤ 1000 := by
    unfold unv
    exact Nat.le_trans (List.length_filter_le _ _) hS.g
  clear h hf hf2 hfp hS hfresh hb hD
  go_enter Tryz.func11, Tryz.ntmps11
  go_wp2_with (at_builtin; refine stop_at ?_)
  unfold Stop
  refine q_law (W := W) (v := .slice none 0 0) (l := []) (ys := names) rfl _ _ rfl rfl rfl (OwnQ.nil W) rfl HFP.out (by simp; omega) ?_
  intro v1 w1 hq1 hg1' hat1
  have hT1 := turn_grown hg1'
  have hb1 : Below W.heap.size W w1 := ⟨hg1'.os, hg1'.tape, hg1'.output, hg1'.size, fun k hk => hg1'.block k hk (by simp [Value.ownBlock])⟩
  have hv1 : ∀ k, v1.ownBlock = some k → W.heap.size ≤ k := fun k hk => by
    rcases hat1 with h1 | ⟨b, h1, h2⟩
    · rw [h1] at hk; simp [Value.ownBlock] at hk
    · rw [h1] at hk; injection hk with hk; omega
  have HQ1 := Aside0.mk (show OwnQ w1 v1 names from hq1)
  have HB1 := Aside0.mk hb1
  have HV1 := Aside0.mk hv1
  clear hq1 hg1' hat1 hT1 hb1 hv1
  go_wp2_with fail
  go_loopg [7, 6] (1001 * unv s [] + names.length) (fun gk u7 u6 wr => ∃ all left, Own wr u6 all ∧ OwnQ wr u7 left ∧ (∀ k, u6.ownBlock = some k → W.heap.size ≤ k ∧ u7.ownBlock ≠ some k) ∧ (∀ k, u7.ownBlock = some k → W.heap.size ≤ k) ∧ Below W.heap.size W wr ∧ PI s names all left ∧ gk = 1001 * unv s all + left.length)
  case atStart => exact ⟨[], names, Own.nil _, HQ1.out, fun k hk => by simp [Value.ownBlock] at hk, HV1.out, HB1.out, PI.start s names, rfl⟩
  case round =>
    obtain ⟨all, left, hall, hleft, hd6, hd7, hbr, hpi, rfl⟩ := hrel
    obtain ⟨Aa, ca, rfl⟩ := hall.slice
    obtain ⟨Aq, cq, rfl, hcq⟩ := hleft.slice
    have HALL := Aside0.mk hall
    have HLEFT := Aside0.mk hleft
    have HD6 := Aside0.mk hd6
    have HD7 := Aside0.mk hd7
    have HBR := Aside0.mk hbr
    have HPI := Aside0.mk hpi
    have hpot := hpi.pot
    have hall1 : all.length ≤ 1002000 := by omega
    have hleft1 : left.length ≤ 1002000 := by omega
    cases left with
    | nil =>
      have hreach : ∀ x, x ∈ all ↔ RchN s names x := hpi.all
      have HREACH := Aside0.mk hreach
      clear hall hleft hd6 hd7 hpi hpot hreach hbr HLEFT hcq hleft1
      go_wp2_with fail
      obtain ⟨wo, hwo⟩ : ∃ wo : World, wo = wr := ⟨_, rfl⟩
      subst hwo
      go_loopw [11, 10] (fun i u wr => ∃ k : Nat, k ≤ all.length ∧ i = .int .i64 k ∧ Rws wr ok u (ptsF s (all.take k)) ∧ Below wo.heap.size wo wr) (fun i _ _ => all.length - (intOf i).toNat)
      case atStart => exact ⟨0, Nat.zero_le _, rfl, Kd.V_nil _ _ _ _ _, Below.refl _ _⟩
      case round =>
        obtain ⟨k, hk, rfl, hrows, hb2⟩ := hrel
        have HB2 := Aside0.mk (HBR.out.trans (hb2.mono HBR.out.size))
        have HB0 := Aside0.mk hb2
        have HROWS := Aside0.mk hrows
        by_cases hlt : k < all.length
        · obtain ⟨A', c', e', hl', hfa⟩ := HALL.out.V
          rw [List.length_map] at e' hfa
          injection e' with e1 e2 e3
          subst e1; subst e3
          obtain ⟨ad, rfl, hcell⟩ := str_at (Kd.F_below hfa hb2) hlt
          obtain ⟨x, hx⟩ : ∃ x, x = all[k] := ⟨_, rfl⟩
          rw [← hx] at hcell
          have htk : all.take (k + 1) = all.take k ++ [x] := by rw [take_snoc' hlt, hx]
          have hR2 := HR.out.below HB2.out
          have hper := person36 hR2 HS.out.p x
          have c02 := keep_heap (HB2.out.block q (World.block_lt_of_cell? W _ c0)) c0
          have HTK := Aside0.mk htk
          have HPER := Aside0.mk hper
          clear hl' hfa hx htk hR2 hper hrows hb2
          by_cases hpx : ahas s.P x = true
          · obtain ⟨i, hi, hil, hik⟩ := idx_some hpx
            have hal : alook s.P x = some s.P[i].2 := by rw [← hik]; exact alook_mem HS.out.sp (List.getElem_mem hil)
            obtain ⟨adp, Ap', cp', hadp, hp0, hp1c, hpv⟩ := ppl_at (Kd.F_below HF.out HB2.out) hil
            subst hadp
            have hsrt := Sorted37 HROWS.out (Kd.V_mono (ok' := ok) hpv (fun k hk => hk.1)) (fun k hk => HFR.out k (Nat.le_trans HB2.out.size hk)) (by have := ptsF_len s (all.take k); simp at this; omega)
            have HSRT := Aside0.mk hsrt
            have HAL := Aside0.mk hal
            rw [hi] at HPER
            clear hi hal hpx hik hsrt hpv
            as_aux_lemma =>
            go_wp2_with fail
            refine HPER.out.mono ?_
            rintro e w' ⟨rfl, hw⟩
            obtain rfl := hw.symm
            go_wp2_with fail
            refine HSRT.out.mono ?_
            rintro e w6 ⟨v6, rfl, hv6, hb6⟩
            have HREL2 := Aside0.mk (show Rws w6 ok v6 (ptsF s (all.take (k + 1))) by
              rw [HTK.out, ptsF_snoc, HAL.out]
              exact hv6)
            have HB6 := Aside0.mk (HB0.out.trans (hb6.mono HB0.out.size))
            clear hv6 hb6
            go_wp2_with fail
            go_roundw
            case measure => simp [intOf]; omega
            case rel =>
              repeat apply Exists.intro
              refine ⟨⟨k + 1, by omega, by go_num, HREL2.out, HB6.out⟩, ?_⟩
              rfl
          · have hi : idx s.P x = -1 := idx_none (ahas_false.1 (by simpa using hpx))
            have hal : alook s.P x = none := alook_no (by simpa using hpx)
            have HAL := Aside0.mk hal
            rw [hi] at HPER
            clear hi hal hpx
            as_aux_lemma =>
            go_wp2_with fail
            refine HPER.out.mono ?_
            rintro e w' ⟨rfl, hw⟩
            obtain rfl := hw.symm
            go_wp2_with fail
            have hrel2 : Rws wr ok u10 (ptsF s (all.take (k + 1))) := by
              rw [HTK.out, ptsF_snoc, HAL.out]
              exact HROWS.out
            have HREL2 := Aside0.mk hrel2
            go_roundw
            case measure => simp [intOf]; omega
            case rel =>
              repeat apply Exists.intro
              refine ⟨⟨k + 1, by omega, by go_num, HREL2.out, HB0.out⟩, ?_⟩
              rfl
        · obtain rfl : k = all.length := by omega
          have hall2 : ∀ x, RchN s names x → there s x = true := fun x hx => (HPI.out.al x ((HREACH.out x).2 hx)).2
          have hsrt := ptsF_srt HS.out.sp HDI.out all HPI.out.nd
          have hmem : ∀ p, p ∈ ptsF s all ↔ ∃ x, RchN s names x ∧ (x, p) ∈ s.P := fun p => by
            rw [ptsF_mem HS.out.sp]
            constructor
            · rintro ⟨x, hx, hp⟩; exact ⟨x, (HREACH.out x).1 hx, hp⟩
            · rintro ⟨x, hx, hp⟩; exact ⟨x, (HREACH.out x).2 hx, hp⟩
          have hlen := ptsF_len s all
          rw [List.take_length] at hrows
          obtain ⟨Ar, cr, er, hlr, hfr⟩ := hrows
          rw [List.length_map] at er hlr hfr
          subst er
          have HALL2 := Aside0.mk hall2
          have HSRT := Aside0.mk hsrt
          have HMEM := Aside0.mk hmem
          have HFRR := Aside0.mk hfr
          clear hall2 hsrt hmem hfr hb2 HROWS
          by_cases h8 : 8 < (ptsF s all).length
          · as_aux_lemma =>
            go_wp2_with fail
            go_ret2
            exact ⟨_, 3, [], rfl, Kd.V_nil _ _ _ _ _, .inr ⟨HALL2.out, ptsF s all, HSRT.out, HMEM.out, .inl ⟨h8, rfl, rfl⟩⟩, HB2.out⟩
          · as_aux_lemma =>
            go_wp2_with fail
            go_ret2
            exact ⟨.slice Ar (ptsF s all).length cr, 0, ptsF s all, rfl, ⟨Ar, cr, by rw [List.length_map], by rw [List.length_map]; exact hlr, by rw [List.length_map]; exact HFRR.out⟩, .inr ⟨HALL2.out, ptsF s all, HSRT.out, HMEM.out, .inr ⟨by omega, rfl, rfl⟩⟩, HB2.out⟩
    | cons n left =>
      obtain ⟨gq, oq, rfl, hcell⟩ := hleft.head
      have hdr := hleft.drop1
      have HDR := Aside0.mk hdr
      have hin := in19 (W := wr) (HALL.out.V) (mkS n)
      rw [bz_mkS] at hin
      have HIN := Aside0.mk hin
      have hc1 : 1 ≤ cq := by simp at hcq; omega
      clear hall hleft hd6 hd7 hpi hpot hin hbr HDR
      by_cases hce : cq = 1
      · subst hce
        have hq : OwnQ wr (.slice (some ⟨gq, oq, none⟩) left.length 0) left := by simpa using hdr
        clear hdr
        have HQ := Aside0.mk hq
        clear hq
        by_cases hia : n ∈ all
        · have hdt : decide (n ∈ all) = true := decide_eq_true hia
          have HS1 := Aside0.mk (HPI.out.seen hia)
          clear hia
          as_aux_lemma =>
          go_wp2_with fail
          refine HIN.out.mono ?_
          rintro e w2 ⟨rfl, ⟨m2, rfl⟩⟩
          go_wp2_with fail
          go_roundg (1001 * unv s all + left.length)
          case measure => simp
          case rel =>
            have hb2 : Below wr.heap.size wr (wr.drewN m2) := pw_below_drewN (Below.refl _ _) m2
            have ht2 : Turn (fun _ => False) wr (wr.drewN m2) := Turn.of_below hb2
            exact ⟨all, left, HALL.out.turn ht2 (fun k hk e => e), HQ.out.turn ht2 (fun k hk e => e), HD6.out, HD7.out, HBR.out.trans (hb2.mono HBR.out.size), HS1.out, rfl⟩
        · have hdt : decide (n ∈ all) = false := decide_eq_false hia
          have HIA := Aside0.mk hia
          clear hia
          go_wp2_with fail
          refine HIN.out.mono ?_
          rintro e w2 ⟨rfl, ⟨m2, rfl⟩⟩
          have hb2 : Below wr.heap.size wr (wr.drewN m2) := pw_below_drewN (Below.refl _ _) m2
          have ht2 : Turn (fun _ => False) wr (wr.drewN m2) := Turn.of_below hb2
          obtain ⟨w3, hw3⟩ : ∃ w3, w3 = wr.drewN m2 := ⟨_, rfl⟩
          rw [← hw3] at hb2 ht2
          rw [← hw3]
          have HA3 := Aside0.mk (HALL.out.turn ht2 (fun k hk e => e))
          have HQ3 := Aside0.mk (HQ.out.turn ht2 (fun k hk e => e))
          have HB3 := Aside0.mk (HBR.out.trans (hb2.mono HBR.out.size))
          clear hw3 hb2 ht2 hcell HIN
          go_wp2_with (at_builtin; refine stop_at ?_)
          unfold Stop
          refine Kd.N_append Kd.string (w0 := w3) 0 rfl _ _ 23 9 _ 16 rfl Tryz.underlying23 info9 rfl (by decide) (by decide) _ (all.map mkS) (mkS n) [.string (mkS n)] (fun k => (Value.slice Aa all.length ca).ownBlock = some k ∨ w3.heap.size ≤ k) (fun _ => False) rfl rfl ?hp ?hok ?fresh ?HO ?HB ?hbase ?hl ?_
          case hp => exact fun _ _ => rfl
          case hok => exact fun b hb => hb.elim
          case fresh => exact fun b hb => .inr hb
          case HO => exact Kd.N_mono HA3.out (fun k hk => .inl hk)
          case HB => exact Below.refl _ _
          case hbase => exact Nat.zero_le _
          case hl => simp; omega
          intro v4 w4 hN4 hB4 hg4 hat4
          have hT4 : Turn (fun k => (Value.slice Aa all.length ca).ownBlock = some k) w3 w4 := turn_grown hg4
          have hat4' : v4.ownBlock = (Value.slice Aa all.length ca).ownBlock ∨ ∃ b, v4.ownBlock = some b ∧ w3.heap.size ≤ b := hat4
          have hown : Own w4 v4 (all ++ [n]) := by
            have : (all ++ [n]).map mkS = all.map mkS ++ [mkS n] := by simp
            exact own_of (base := 0) (this ▸ hN4)
          obtain ⟨A4, c4, e4⟩ := hown.slice
          rw [List.length_append, List.length_singleton] at e4
          subst e4
          have hb4 : Below W.heap.size W w4 := HB3.out.trans (hT4.below (fun k hk => (HD6.out k hk).1) HB3.out.size)
          have hq4 := HQ3.out.turn hT4 (fun k hk e => (HD6.out k e).2 (by simpa [Value.ownBlock] using hk))
          have hd4 : ∀ k, (Value.slice A4 (all.length + 1) c4).ownBlock = some k → W.heap.size ≤ k ∧ (some gq : Option Nat) ≠ some k := fun k hk => by
            rcases hat4' with h1 | ⟨b, h1, h2⟩
            · rw [h1] at hk
              exact HD6.out k hk
            · rw [h1] at hk
              injection hk with hk
              subst hk
              exact ⟨Nat.le_trans HB3.out.size h2, fun e => by
                have := HQ3.out.lt gq rfl
                injection e with e
                omega⟩
          have HO4 := Aside0.mk hown
          have HB4 := Aside0.mk hb4
          have HQ4 := Aside0.mk hq4
          have HD4 := Aside0.mk hd4
          have hR4 := HR.out.below hb4
          have hth := there34 hR4 HS.out.p HS.out.g n
          have HR4 := Aside0.mk hR4
          have HTH := Aside0.mk hth
          have c14 := keep_heap (hb4.block q (Nat.lt_of_lt_of_le (World.block_lt_of_cell? W _ c1) (Nat.le_refl _))) c1
          clear hN4 hB4 hg4 hat4 hT4 hat4' hown hb4 hq4 hd4 hR4 hth
          by_cases hthn : there s n = true
          · have H3 := Aside0.mk hthn
            clear hthn
            go_wp2_with fail
            refine HTH.out.mono ?_
            rintro e w' ⟨rfl, hw⟩
            obtain rfl := hw.symm
            rw [H3.out]
            have hgr := group35 HR4.out HS.out.g n
            have HGR := Aside0.mk hgr
            clear hgr
            go_wp2_with fail
            refine HGR.out.mono ?_
            rintro e w' ⟨rfl, hw⟩
            obtain rfl := hw.symm
            by_cases hgn : ahas s.G n = true
            · obtain ⟨i, hi, hil, hik⟩ := idx_some hgn
              rw [hi]
              have hmem : mem s n = s.G[i].2 := by
                rw [← hik]
                exact mem_of_mem (f := fun _ => .int .i64 0) (by unfold Srt; rw [List.pairwise_map]; exact HS.out.sg) (List.getElem_mem hil)
              have hml : (mem s n).length ≤ 1000 := by rw [hmem]; exact (HS.out.gs _ (List.getElem_mem hil)).2
              have hnew := HPI.out.new HIA.out H3.out hml
              obtain ⟨adg, Ag, cg, hadg, hg0, hg1c, hgv⟩ := grp_at (Kd.F_below HF2.out HB4.out) hil
              subst hadg
              rw [← hmem] at hg1c hgv
              obtain ⟨Ag', cg', eg, hlg, hfg⟩ := hgv
              rw [List.length_map] at eg hlg hfg
              injection eg with eg1 eg2 eg3
              subst eg1; subst eg3
              have HFG := Aside0.mk hfg
              have HNEW := Aside0.mk hnew
              have HU := Aside0.mk (unv_lt HIA.out hgn)
              have HML := Aside0.mk hml
              clear hi hik hmem hfg hnew hgn hml
              go_wp2_with (at_builtin; refine stop_at ?_)
              unfold Stop
              refine q_law (l := left) (ys := mem s n) rfl _ _ rfl rfl rfl HQ4.out rfl HFG.out (by simp at hleft1; have := HML.out; omega) ?_
              intro v5 w5 hq5 hg5 hat5
              have hT5 : Turn (fun k => some gq = some k) w4 w5 := turn_grown hg5
              have hat5' : v5.ownBlock = some gq ∨ ∃ b, v5.ownBlock = some b ∧ w4.heap.size ≤ b := hat5
              have ho5 := HO4.out.turn hT5 (fun k hk e => (HD4.out k hk).2 e)
              have hb5 : Below W.heap.size W w5 := HB4.out.trans (hT5.below (fun k hk => HD7.out k hk) HB4.out.size)
              have hd5 : ∀ k, (Value.slice A4 (all.length + 1) c4).ownBlock = some k → W.heap.size ≤ k ∧ v5.ownBlock ≠ some k := fun k hk => ⟨(HD4.out k hk).1, fun e => by
                rcases hat5' with h1 | ⟨b, h1, h2⟩
                · exact (HD4.out k hk).2 (h1.symm.trans e)
                · rw [h1] at e
                  injection e with e
                  have := HO4.out.lt k hk
                  omega⟩
              have hd7' : ∀ k, v5.ownBlock = some k → W.heap.size ≤ k := fun k hk => by
                rcases hat5' with h1 | ⟨b, h1, h2⟩
                · rw [h1] at hk
                  exact HD7.out k hk
                · rw [h1] at hk
                  injection hk with hk
                  have := HB4.out.size
                  omega
              have HO5 := Aside0.mk ho5
              have HQ5 := Aside0.mk hq5
              have HB5 := Aside0.mk hb5
              have HD5 := Aside0.mk hd5
              have HD57 := Aside0.mk hd7'
              clear hq5 hg5 hat5 hT5 hat5' ho5 hb5 hd5 hd7'
              go_wp2_with fail
              go_roundg (1001 * unv s (all ++ [n]) + (left ++ mem s n).length)
              case measure =>
                have h1 := HU.out
                have h2 := HML.out
                rw [unv_snoc]
                simp only [List.length_cons, List.length_append]
                omega
              case rel =>
                exact ⟨all ++ [n], left ++ mem s n, HO5.out, HQ5.out, HD5.out, HD57.out, HB5.out, HNEW.out, rfl⟩
            · have hi : idx s.G n = -1 := idx_none (ahas_false.1 (by simpa using hgn))
              rw [hi]
              have hmem : mem s n = [] := mem_none (by simpa using hgn)
              have hnew := HPI.out.new HIA.out H3.out (by rw [hmem]; simp)
              rw [hmem, List.append_nil] at hnew
              have HNEW := Aside0.mk hnew
              clear hi hmem hnew hgn
              as_aux_lemma =>
              go_wp2_with fail
              go_roundg (1001 * unv s (all ++ [n]) + left.length)
              case measure =>
                have := unv_mono (s := s) (V := all) (V' := all ++ [n]) (fun x hx => by simp [hx])
                simp only [List.length_cons]
                omega
              case rel =>
                exact ⟨all ++ [n], left, HO4.out, HQ4.out, HD4.out, HD7.out, HB4.out, HNEW.out, rfl⟩
          · have H3 := Aside0.mk (show there s n = false by simpa using hthn)
            clear hthn
            as_aux_lemma =>
            go_wp2_with fail
            refine HTH.out.mono ?_
            rintro e w' ⟨rfl, hw⟩
            obtain rfl := hw.symm
            rw [H3.out]
            go_wp2_with fail
            go_ret2
            exact ⟨_, 4, [], rfl, Kd.V_nil _ _ _ _ _, .inl ⟨rfl, rfl, n, HPI.out.lf n (by simp), H3.out⟩, HB4.out⟩
      · have hq : OwnQ wr (.slice (some ⟨gq, oq + 1, none⟩) left.length (cq - 1)) left := by
          rw [if_neg hce] at hdr
          simpa [add_plain, Addr.add] using hdr
        clear hdr
        have HQ := Aside0.mk hq
        clear hq
        by_cases hia : n ∈ all
        · have hdt : decide (n ∈ all) = true := decide_eq_true hia
          have HS1 := Aside0.mk (HPI.out.seen hia)
          clear hia
          as_aux_lemma =>
          go_wp2_with fail
          refine HIN.out.mono ?_
          rintro e w2 ⟨rfl, ⟨m2, rfl⟩⟩
          go_wp2_with fail
          go_roundg (1001 * unv s all + left.length)
          case measure => simp
          case rel =>
            have hb2 : Below wr.heap.size wr (wr.drewN m2) := pw_below_drewN (Below.refl _ _) m2
            have ht2 : Turn (fun _ => False) wr (wr.drewN m2) := Turn.of_below hb2
            exact ⟨all, left, HALL.out.turn ht2 (fun k hk e => e), HQ.out.turn ht2 (fun k hk e => e), HD6.out, HD7.out, HBR.out.trans (hb2.mono HBR.out.size), HS1.out, rfl⟩
        · have hdt : decide (n ∈ all) = false := decide_eq_false hia
          have HIA := Aside0.mk hia
          clear hia
          go_wp2_with fail
          refine HIN.out.mono ?_
          rintro e w2 ⟨rfl, ⟨m2, rfl⟩⟩
          have hb2 : Below wr.heap.size wr (wr.drewN m2) := pw_below_drewN (Below.refl _ _) m2
          have ht2 : Turn (fun _ => False) wr (wr.drewN m2) := Turn.of_below hb2
          obtain ⟨w3, hw3⟩ : ∃ w3, w3 = wr.drewN m2 := ⟨_, rfl⟩
          rw [← hw3] at hb2 ht2
          rw [← hw3]
          have HA3 := Aside0.mk (HALL.out.turn ht2 (fun k hk e => e))
          have HQ3 := Aside0.mk (HQ.out.turn ht2 (fun k hk e => e))
          have HB3 := Aside0.mk (HBR.out.trans (hb2.mono HBR.out.size))
          clear hw3 hb2 ht2 hcell HIN
          go_wp2_with (at_builtin; refine stop_at ?_)
          unfold Stop
          refine Kd.N_append Kd.string (w0 := w3) 0 rfl _ _ 23 9 _ 16 rfl Tryz.underlying23 info9 rfl (by decide) (by decide) _ (all.map mkS) (mkS n) [.string (mkS n)] (fun k => (Value.slice Aa all.length ca).ownBlock = some k ∨ w3.heap.size ≤ k) (fun _ => False) rfl rfl ?hp ?hok ?fresh ?HO ?HB ?hbase ?hl ?_
          case hp => exact fun _ _ => rfl
          case hok => exact fun b hb => hb.elim
          case fresh => exact fun b hb => .inr hb
          case HO => exact Kd.N_mono HA3.out (fun k hk => .inl hk)
          case HB => exact Below.refl _ _
          case hbase => exact Nat.zero_le _
          case hl => simp; omega
          intro v4 w4 hN4 hB4 hg4 hat4
          have hT4 : Turn (fun k => (Value.slice Aa all.length ca).ownBlock = some k) w3 w4 := turn_grown hg4
          have hat4' : v4.ownBlock = (Value.slice Aa all.length ca).ownBlock ∨ ∃ b, v4.ownBlock = some b ∧ w3.heap.size ≤ b := hat4
          have hown : Own w4 v4 (all ++ [n]) := by
            have : (all ++ [n]).map mkS = all.map mkS ++ [mkS n] := by simp
            exact own_of (base := 0) (this ▸ hN4)
          obtain ⟨A4, c4, e4⟩ := hown.slice
          rw [List.length_append, List.length_singleton] at e4
          subst e4
          have hb4 : Below W.heap.size W w4 := HB3.out.trans (hT4.below (fun k hk => (HD6.out k hk).1) HB3.out.size)
          have hq4 := HQ3.out.turn hT4 (fun k hk e => (HD6.out k e).2 (by simpa [Value.ownBlock] using hk))
          have hd4 : ∀ k, (Value.slice A4 (all.length + 1) c4).ownBlock = some k → W.heap.size ≤ k ∧ (some gq : Option Nat) ≠ some k := fun k hk => by
            rcases hat4' with h1 | ⟨b, h1, h2⟩
            · rw [h1] at hk
              exact HD6.out k hk
            · rw [h1] at hk
              injection hk with hk
              subst hk
              exact ⟨Nat.le_trans HB3.out.size h2, fun e => by
                have := HQ3.out.lt gq rfl
                injection e with e
                omega⟩
          have HO4 := Aside0.mk hown
          have HB4 := Aside0.mk hb4
          have HQ4 := Aside0.mk hq4
          have HD4 := Aside0.mk hd4
          have hR4 := HR.out.below hb4
          have hth := there34 hR4 HS.out.p HS.out.g n
          have HR4 := Aside0.mk hR4
          have HTH := Aside0.mk hth
          have c14 := keep_heap (hb4.block q (Nat.lt_of_lt_of_le (World.block_lt_of_cell? W _ c1) (Nat.le_refl _))) c1
          clear hN4 hB4 hg4 hat4 hT4 hat4' hown hb4 hq4 hd4 hR4 hth
          by_cases hthn : there s n = true
          · have H3 := Aside0.mk hthn
            clear hthn
            go_wp2_with fail
            refine HTH.out.mono ?_
            rintro e w' ⟨rfl, hw⟩
            obtain rfl := hw.symm
            rw [H3.out]
            have hgr := group35 HR4.out HS.out.g n
            have HGR := Aside0.mk hgr
            clear hgr
            go_wp2_with fail
            refine HGR.out.mono ?_
            rintro e w' ⟨rfl, hw⟩
            obtain rfl := hw.symm
            by_cases hgn : ahas s.G n = true
            · obtain ⟨i, hi, hil, hik⟩ := idx_some hgn
              rw [hi]
              have hmem : mem s n = s.G[i].2 := by
                rw [← hik]
                exact mem_of_mem (f := fun _ => .int .i64 0) (by unfold Srt; rw [List.pairwise_map]; exact HS.out.sg) (List.getElem_mem hil)
              have hml : (mem s n).length ≤ 1000 := by rw [hmem]; exact (HS.out.gs _ (List.getElem_mem hil)).2
              have hnew := HPI.out.new HIA.out H3.out hml
              obtain ⟨adg, Ag, cg, hadg, hg0, hg1c, hgv⟩ := grp_at (Kd.F_below HF2.out HB4.out) hil
              subst hadg
              rw [← hmem] at hg1c hgv
              obtain ⟨Ag', cg', eg, hlg, hfg⟩ := hgv
              rw [List.length_map] at eg hlg hfg
              injection eg with eg1 eg2 eg3
              subst eg1; subst eg3
              have HFG := Aside0.mk hfg
              have HNEW := Aside0.mk hnew
              have HU := Aside0.mk (unv_lt HIA.out hgn)
              have HML := Aside0.mk hml
              clear hi hik hmem hfg hnew hgn hml
              go_wp2_with (at_builtin; refine stop_at ?_)
              unfold Stop
              refine q_law (l := left) (ys := mem s n) rfl _ _ rfl rfl rfl HQ4.out rfl HFG.out (by simp at hleft1; have := HML.out; omega) ?_
              intro v5 w5 hq5 hg5 hat5
              have hT5 : Turn (fun k => some gq = some k) w4 w5 := turn_grown hg5
              have hat5' : v5.ownBlock = some gq ∨ ∃ b, v5.ownBlock = some b ∧ w4.heap.size ≤ b := hat5
              have ho5 := HO4.out.turn hT5 (fun k hk e => (HD4.out k hk).2 e)
              have hb5 : Below W.heap.size W w5 := HB4.out.trans (hT5.below (fun k hk => HD7.out k hk) HB4.out.size)
              have hd5 : ∀ k, (Value.slice A4 (all.length + 1) c4).ownBlock = some k → W.heap.size ≤ k ∧ v5.ownBlock ≠ some k := fun k hk => ⟨(HD4.out k hk).1, fun e => by
                rcases hat5' with h1 | ⟨b, h1, h2⟩
                · exact (HD4.out k hk).2 (h1.symm.trans e)
                · rw [h1] at e
                  injection e with e
                  have := HO4.out.lt k hk
                  omega⟩
              have hd7' : ∀ k, v5.ownBlock = some k → W.heap.size ≤ k := fun k hk => by
                rcases hat5' with h1 | ⟨b, h1, h2⟩
                · rw [h1] at hk
                  exact HD7.out k hk
                · rw [h1] at hk
                  injection hk with hk
                  have := HB4.out.size
                  omega
              have HO5 := Aside0.mk ho5
              have HQ5 := Aside0.mk hq5
              have HB5 := Aside0.mk hb5
              have HD5 := Aside0.mk hd5
              have HD57 := Aside0.mk hd7'
              clear hq5 hg5 hat5 hT5 hat5' ho5 hb5 hd5 hd7'
              go_wp2_with fail
              go_roundg (1001 * unv s (all ++ [n]) + (left ++ mem s n).length)
              case measure =>
                have h1 := HU.out
                have h2 := HML.out
                rw [unv_snoc]
                simp only [List.length_cons, List.length_append]
                omega
              case rel =>
                exact ⟨all ++ [n], left ++ mem s n, HO5.out, HQ5.out, HD5.out, HD57.out, HB5.out, HNEW.out, rfl⟩
            · have hi : idx s.G n = -1 := idx_none (ahas_false.1 (by simpa using hgn))
              rw [hi]
              have hmem : mem s n = [] := mem_none (by simpa using hgn)
              have hnew := HPI.out.new HIA.out H3.out (by rw [hmem]; simp)
              rw [hmem, List.append_nil] at hnew
              have HNEW := Aside0.mk hnew
              clear hi hmem hnew hgn
              as_aux_lemma =>
              go_wp2_with fail
              go_roundg (1001 * unv s (all ++ [n]) + left.length)
              case measure =>
                have := unv_mono (s := s) (V := all) (V' := all ++ [n]) (fun x hx => by simp [hx])
                simp only [List.length_cons]
                omega
              case rel =>
                exact ⟨all ++ [n], left, HO4.out, HQ4.out, HD4.out, HD7.out, HB4.out, HNEW.out, rfl⟩
          · have H3 := Aside0.mk (show there s n = false by simpa using hthn)
            clear hthn
            as_aux_lemma =>
            go_wp2_with fail
            refine HTH.out.mono ?_
            rintro e w' ⟨rfl, hw⟩
            obtain rfl := hw.symm
            rw [H3.out]
            go_wp2_with fail
            go_ret2
            exact ⟨_, 4, [], rfl, Kd.V_nil _ _ _ _ _, .inl ⟨rfl, rfl, n, HPI.out.lf n (by simp), H3.out⟩, HB4.out⟩
end Go.Proofs.YtflioeiklcnncaaGreatDoor.Ri
