/- Plainly: whose points a group's are; the order tells all; dropped the other way round groups go one by one. -/
import Derived.Test.YtflioeiklcnncaaGreatDoorRf
import Derived.Deep.QuietTactic
import Derived.BigQuiet
import Derived.Deep.RegionHeld3
set_option linter.unusedVariables false
set_option linter.unusedSimpArgs false
namespace Go.Proofs.YtflioeiklcnncaaGreatDoor.Ri
open Go.RowKit Go.Maps Go.Sort Go.Proofs.YtflioeiklcnncaaGreatDoorW.PrintWords Go.Proofs.YtflioeiklcnncaaGreatDoor.PRing

theorem rch_front {s : St} {a x : B} (h : Rch s a x) : x = a ∨ ∃ m ∈ mem s a, Rch s m x := by
  induction h with
  | refl => exact .inl rfl
  | step _ hm ih =>
    rcases ih with rfl | ⟨m, hma, hr⟩
    · exact .inr ⟨_, hm, .refl⟩
    · exact .inr ⟨m, hma, .step hr hm⟩
theorem rch_cons {s : St} {a m x : B} (hm : m ∈ mem s a) (h : Rch s m x) : Rch s a x := rch_trans (.step .refl hm) h
theorem rchN_one {s : St} {a x : B} : RchN s [a] x ↔ x = a ∨ RchN s (mem s a) x := by
  constructor
  · rintro ⟨n, hn, hr⟩
    rw [List.mem_singleton.1 hn] at hr
    rcases rch_front hr with h | ⟨m, hm, hr⟩
    · exact .inl h
    · exact .inr ⟨m, hm, hr⟩
  · rintro (rfl | ⟨m, hm, hr⟩)
    · exact ⟨x, by simp, .refl⟩
    · exact ⟨a, by simp, rch_cons hm hr⟩
theorem RInv.noP {s : St} (h : RInv s) {p : B × List B} (hp : p ∈ s.G) (q : B) : (p.1, q) ∉ s.P := fun e => by
  have h1 := h.dj p.1 (ahas_iff.2 ⟨_, e, rfl⟩)
  rw [ahas_mem hp] at h1; cases h1
theorem pts_group {s : St} (h : RInv s) {p : B × List B} (hp : p ∈ s.G) {c : Int} {r : List B} (h1 : PtsSpec s [p.1] c r) : PtsSpec s p.2 c r := by
  have hm := mem_srt h.sg hp
  have ht : there s p.1 = true := by unfold there; rw [ahas_mem hp, Bool.or_true]
  rcases h1 with ⟨rfl, rfl, x, hx, hn⟩ | ⟨ha, fl, hs, hf, hc⟩
  · refine .inl ⟨rfl, rfl, x, ?_, hn⟩
    rcases rchN_one.1 hx with rfl | hx
    · rw [ht] at hn; cases hn
    · rwa [hm] at hx
  · refine .inr ⟨fun x hx => ha x (rchN_one.2 (.inr (by rwa [hm]))), fl, hs, fun q => (hf q).trans ?_, hc⟩
    constructor
    · rintro ⟨x, hx, hq⟩
      rcases rchN_one.1 hx with rfl | hx
      · exact absurd hq (h.noP hp q)
      · exact ⟨x, by rwa [hm] at hx, hq⟩
    · rintro ⟨x, hx, hq⟩
      exact ⟨x, rchN_one.2 (.inr (by rwa [hm])), hq⟩
theorem pts_person {s : St} (h : RInv s) {p : B × B} (hp : p ∈ s.P) : PtsSpec s [p.1] 0 [p.2] := by
  have hm : mem s p.1 = [] := mem_none (h.dj _ (ahas_mem hp))
  have hr : ∀ x, RchN s [p.1] x ↔ x = p.1 := fun x => by
    rw [rchN_one, hm]
    constructor
    · rintro (h | ⟨n, hn, _⟩)
      · exact h
      · simp at hn
    · exact .inl
  refine .inr ⟨fun x hx => ?_, [p.2], by simp, fun q => ?_, .inr ⟨by simp, rfl, rfl⟩⟩
  · rw [(hr x).1 hx]
    unfold there
    rw [ahas_mem hp, Bool.true_or]
  · rw [List.mem_singleton]
    constructor
    · rintro rfl
      exact ⟨p.1, (hr _).2 rfl, hp⟩
    · rintro ⟨x, hx, hq⟩
      rw [(hr x).1 hx] at hq
      exact srt_uniq h.sp hq hp
theorem who_person {s : St} (h : RInv s) {p : B × B} (hp : p ∈ s.P) : who s p.2 = p.1 := by
  unfold who
  cases hf : s.P.find? (fun q => decide (q.2 = p.2)) with
  | none =>
    rw [List.find?_eq_none] at hf
    exact absurd (hf p hp) (by simp)
  | some q =>
    have h1 := List.mem_of_find?_eq_some hf
    have h2 := List.find?_some hf
    simp only [decide_eq_true_eq] at h2
    simp only [Option.map_some, Option.getD_some]
    exact h.pd q h1 p hp h2
theorem ord_all {s : St} (h : RInv s) {out : List B} (ho : OrdSpec s out) : out.length = s.G.length ∧ ∀ p ∈ s.G, p.1 ∈ out := by
  have h1 := ord_len ho.1
  have h2 : ¬ out.length < s.G.length := fun e => by
    obtain ⟨p, hp, hr⟩ := ord_more h.sg h.rk e
    exact ho.2 _ ((rdy_iff h.sg hp).1 hr)
  refine ⟨by omega, fun p hp => Classical.byContradiction fun hn => ?_⟩
  have := sub_len (l := p.1 :: out) (m := s.G.map (·.1)) (List.nodup_cons.2 ⟨hn, ord_nodup ho.1⟩) (fun x hx => by
    rcases List.mem_cons.1 hx with rfl | hx
    · exact List.mem_map.2 ⟨p, hp, rfl⟩
    · obtain ⟨q, hq, e⟩ := ahas_iff.1 (ord_in ho.1 hx).1
      exact List.mem_map.2 ⟨q, hq, e⟩)
  simp at this
  omega
theorem ord_behind {s : St} {out : List B} (ho : OrdPre s out) {a : Nat} (ha : a < out.length) {y : B} (hy : ahas s.G y = true) (hm : y ∈ mem s out[a]) : y ∈ out.take a := by
  have h1 := (ho a ha).1.2.2
  rw [cnt_zero] at h1
  exact h1 y hm hy

/-! ### groups dropped, the other way round -/
def gLeft (s : St) (out : List B) (k : Nat) : St := ⟨s.P, s.G.filter fun p => decide (p.1 ∈ out.take k)⟩
theorem gLeft_all {s : St} (h : RInv s) {out : List B} (ho : OrdSpec s out) : gLeft s out out.length = s := by
  unfold gLeft
  rw [List.take_length, List.filter_eq_self.2 (fun p hp => by simpa using (ord_all h ho).2 p hp)]
theorem gLeft_zero (s : St) (out : List B) : gLeft s out 0 = ⟨s.P, []⟩ := by
  unfold gLeft
  simp
theorem gLeft_has {s : St} {out : List B} {k : Nat} {x : B} : ahas (gLeft s out k).G x = true ↔ ahas s.G x = true ∧ x ∈ out.take k := by
  unfold gLeft
  rw [ahas_iff, ahas_iff]
  constructor
  · rintro ⟨p, hp, rfl⟩
    simp only [List.mem_filter, decide_eq_true_eq] at hp
    exact ⟨⟨p, hp.1, rfl⟩, hp.2⟩
  · rintro ⟨⟨p, hp, rfl⟩, hx⟩
    exact ⟨p, by simp only [List.mem_filter, decide_eq_true_eq]; exact ⟨hp, hx⟩, rfl⟩
theorem drop_group {s : St} (h : RInv s) {out : List B} (ho : OrdSpec s out) {k : Nat} (hk : k < out.length) : drop1 (gLeft s out (k + 1)) out[k] = (0, gLeft s out k) := by
  have hnd := ord_nodup ho.1
  have hg : ahas s.G out[k] = true := (ord_in ho.1 (List.getElem_mem hk)).1
  have hin : out[k] ∈ out.take (k + 1) := by rw [take_snoc' hk]; exact List.mem_append_right _ (List.mem_singleton_self _)
  have ht : there (gLeft s out (k + 1)) out[k] = true := by
    unfold there
    rw [gLeft_has.2 ⟨hg, hin⟩, Bool.or_true]
  have hno : ((gLeft s out (k + 1)).G.any fun p => decide (out[k] ∈ p.2)) = false := by
    rw [List.any_eq_false]
    intro p hp
    unfold gLeft at hp
    simp only [List.mem_filter, decide_eq_true_eq] at hp
    obtain ⟨hpG, hpo⟩ := hp
    intro hm
    have hm' : out[k] ∈ p.2 := by simpa using hm
    obtain ⟨j, hj, hjp⟩ := List.mem_iff_getElem.1 hpo
    rw [List.getElem_take] at hjp
    have hjk : j < k + 1 := by simp at hj; omega
    have hjl : j < out.length := by omega
    rw [← mem_srt h.sg hpG, ← hjp] at hm'
    have h3 := ord_behind ho.1 hjl hg hm'
    obtain ⟨i, hi, hik⟩ := List.mem_iff_getElem.1 h3
    rw [List.getElem_take] at hik
    have hij : i < j := by simp at hi; omega
    have := (List.getElem_inj hnd).1 hik
    omega
  unfold drop1
  rw [if_neg (by rw [ht]; simp), if_neg (by rw [hno]; simp)]
  have hP : adel (gLeft s out (k + 1)).P out[k] = s.P := by
    apply adel_none
    cases e : ahas (gLeft s out (k + 1)).P out[k] with
    | false => rfl
    | true =>
      have := h.dj _ e
      rw [hg] at this; cases this
  have hG : adel (gLeft s out (k + 1)).G out[k] = (gLeft s out k).G := by
    unfold gLeft adel
    simp only
    rw [List.filter_filter]
    apply List.filter_congr
    intro p hp
    have hkt : out[k] ∉ out.take k := not_take hnd hk
    have hts : out.take (k + 1) = out.take k ++ [out[k]] := take_snoc' hk
    by_cases e : p.1 = out[k]
    · have h1 : (p.1 == out[k]) = true := by simpa using e
      have h2 : decide (p.1 ∈ out.take k) = false := by rw [e]; exact decide_eq_false hkt
      rw [h1, h2]
      rfl
    · have h1 : (p.1 == out[k]) = false := by simpa using e
      have h2 : (p.1 ∈ out.take (k + 1)) ↔ (p.1 ∈ out.take k) := by
        rw [hts, List.mem_append, List.mem_singleton]
        exact ⟨fun h => h.elim id (fun h => absurd h e), .inl⟩
      have h3 : decide (p.1 ∈ out.take (k + 1)) = decide (p.1 ∈ out.take k) := decide_eq_decide.2 h2
      rw [h1, h3]
      simp
  rw [hP, hG]
  rfl
theorem drop_gone {s : St} (h : RInv s) {out : List B} (ho : OrdSpec s out) {k : Nat} (hk : k < out.length) : drop1 (gLeft s out k) out[k] = (4, gLeft s out k) := by
  have hnd := ord_nodup ho.1
  have hg : ahas s.G out[k] = true := (ord_in ho.1 (List.getElem_mem hk)).1
  have ht : there (gLeft s out k) out[k] = false := by
    unfold there
    rw [Bool.or_eq_false_iff]
    constructor
    · cases e : ahas (gLeft s out k).P out[k] with
      | false => rfl
      | true =>
        have := h.dj _ e
        rw [hg] at this; cases this
    · cases e : ahas (gLeft s out k).G out[k] with
      | false => rfl
      | true => exact absurd (gLeft_has.1 e).2 (not_take hnd hk)
  unfold drop1
  rw [if_pos ht]
theorem gLeft_inv {s : St} (h : RInv s) {out : List B} (ho : OrdSpec s out) : ∀ d k, k + d = out.length → RInv (gLeft s out k)
  | 0, k, hk => by
    obtain rfl : k = out.length := by omega
    rw [gLeft_all h ho]
    exact h
  | d + 1, k, hk => by
    have h1 := gLeft_inv h ho d (k + 1) (by omega)
    have h2 := drop1_inv h1 (out[k]'(by omega))
    rwa [drop_group h ho (by omega : k < out.length)] at h2
/-! ### people dropped -/
def pLeft (s : St) (k : Nat) : St := ⟨s.P.drop k, []⟩
theorem drop_person {s : St} (h : Srt s.P) {k : Nat} (hk : k < s.P.length) : drop1 (pLeft s k) s.P[k].1 = (0, pLeft s (k + 1)) := by
  have hd : s.P.drop k = s.P[k] :: s.P.drop (k + 1) := List.drop_eq_getElem_cons hk
  have hs : Srt (s.P.drop k) := List.Pairwise.sublist (List.drop_sublist _ _) h
  unfold drop1 pLeft there
  have hh : ahas (s.P.drop k) s.P[k].1 = true := ahas_iff.2 ⟨s.P[k], by rw [hd]; exact List.mem_cons_self, rfl⟩
  rw [if_neg (by rw [hh]; simp), if_neg (by simp)]
  have h0 : 0 < (s.P.drop k).length := by rw [List.length_drop]; omega
  have he := adel_erase hs h0
  have e0 : (s.P.drop k)[0] = s.P[k] := by simp
  rw [e0] at he
  simp only [List.take_zero, List.nil_append, Nat.zero_add, List.drop_drop] at he
  rw [he]
  rfl
theorem pLeft_inv {s : St} (h : RInv (pLeft s 0)) (hs : Srt s.P) : ∀ k, k ≤ s.P.length → RInv (pLeft s k)
  | 0, _ => h
  | k + 1, hk => by
    have h1 := drop1_inv (pLeft_inv h hs k (by omega)) (s.P[k]'(by omega)).1
    rwa [drop_person hs (by omega : k < s.P.length)] at h1
end Go.Proofs.YtflioeiklcnncaaGreatDoor.Ri

set_option linter.unusedVariables false
set_option linter.unusedSimpArgs false
namespace Go.Proofs.YtflioeiklcnncaaGreatDoor.Ri
open Go.RowKit Go.Maps Go.Sort Go.Proofs.YtflioeiklcnncaaGreatDoorW.PrintWords Go.Proofs.YtflioeiklcnncaaGreatDoor.PRing

theorem in19q {w : World} {ok : Nat → Prop} {v : Value} {l : List B} {n : Nat} {x : B} {b : Bool} (h : Strs (w.drewN n) ok v l) (hb : decide (x ∈ l) = b) :
    Calls Tryz.prog 19 #[v, .string (mkS x)] (w.drewN n) fun e w' => e = .returned (.bool b) ∧ ∃ m, w' = w.drewN m :=
  (in19 h (mkS x)).mono fun e w' ⟨he, m, hm⟩ => ⟨by rw [he, bz_mkS, hb], n + m, by rw [hm]; simp⟩
set_option maxRecDepth 100000 in
set_option maxHeartbeats 8000000 in
theorem Groups4 {W : World} {A : Option Addr} {c : Nat} {ls : List Stp} (hl : ls.length ≤ c) (hF : Kd.F k57 W (fun k => k < W.heap.size) A (ls.map stp).length (ls.map stp)) :
    Calls Tryz.prog 4 #[.slice A ls.length c] W fun e w' => e = .returned (.bool true) ∧ Below W.heap.size W w' := by
  have hm3 := Kd.F_max hF
  rw [List.length_map] at hm3
  have HF := Aside0.mk hF
  have HL := Aside0.mk hl
  clear hF hl
  go_enter Tryz.func4, Tryz.ntmps4
  go_wp2_with fail
  (with_reducible refine (awake6 W).mono ?_)
  rintro e w1 ⟨rfl, hb1⟩
  have hF1 := Kd.F_below HF.out hb1
  have hlen : (ls.map stp).length = ls.length := List.length_map ..
  have hsm := small7 (c := c) (Kd.F_now hF1) (by rw [hlen]; exact HL.out)
  rw [hlen] at hsm
  have HSM := Aside0.mk hsm
  have HB1 := Aside0.mk hb1
  clear hF1 hlen hsm hb1
  go_wp2_with fail
  (with_reducible refine HSM.out.mono ?_)
  rintro e w2 ⟨b, rfl, ⟨n2, rfl⟩, hgood⟩
  have HB2 := Aside0.mk (HB1.out.trans ((pw_below_drewN (Below.refl _ w1) n2).mono HB1.out.size))
  have HGD := Aside0.mk hgood
  clear hgood
  cases b with
  | false =>
    as_aux_lemma =>
    go_wp2_with fail
    go_ret
    exact ⟨rfl, HB2.out⟩
  | true =>
    have hgs : ∀ j, (hj : j < ls.length) → j < 80 → goodStep (stp ls[j]) := fun j hj hj8 => by
      have := HGD.out rfl j (by simpa using hj) hj8
      simpa using this
    have HGS := Aside0.mk hgs
    clear hgs
    go_wp2_with fail
    (with_reducible refine (New_calls _).mono ?_)
    rintro e w3 ⟨rfl, hr3, hb3⟩
    have hboth := both0 hr3
    obtain ⟨w4, hw4⟩ : ∃ w4, w4 = w3.alloc refO := ⟨_, rfl⟩
    rw [← hw4] at hboth
    have hb4 : Below w3.heap.size w3 w4 := by rw [hw4]; exact al_below _ (Below.refl _ _)
    have hb03 : Below W.heap.size W w3 := HB2.out.trans (hb3.mono HB2.out.size)
    have hb04 : Below W.heap.size W w4 := hb03.trans (hb4.mono hb03.size)
    have hbp : W.heap.size ≤ (w1.drewN n2).heap.size := HB2.out.size
    have hq3 : (w1.drewN n2).heap.size + 1 + 1 < w3.heap.size := hr3.rlt
    have hrun := run9 hboth (by omega) hboth.fresh (K := W.heap.size) HL.out (Kd.F_below HF.out hb04) (by omega) HGS.out
    have HRUN := Aside0.mk hrun
    have HW4 := Aside0.mk (show w3.alloc (.cells #[.slice none 0 0, .slice none 0 0] 33) = w4 from hw4.symm)
    have HB4 := Aside0.mk hb04
    generalize hbpn : (w1.drewN n2).heap.size = bp at HRUN hbp hq3 ⊢
    clear hrun hw4 hb3 hb4 hb03 hb04 hboth hr3 hbpn
    go_wp2_with fail
    rw [HW4.out]
    (with_reducible refine HRUN.out.mono ?_)
    rintro e w5 ⟨s, rfl, hb5, ht5⟩
    have hB5 : Below W.heap.size W w5 := HB4.out.trans (ht5.below (fun k hk => by unfold S3q at hk; omega) HB4.out.size)
    have HB5 := Aside0.mk hB5
    have HBO := Aside0.mk hb5
    have HI := Aside0.mk hb5.inv
    clear hb5 ht5 hB5 HRUN HW4 HB4
    have hgr := Groups_calls HBO.out.ring HI.out.good.g HI.out.good.gs
    have HGR := Aside0.mk hgr
    clear hgr
    go_wp2_with fail
    (with_reducible refine HGR.out.mono ?_)
    rintro e w6 ⟨v6, rfl, hv6, hb6⟩
    have hbo6 := HBO.out.below hb6
    have hord := Order_calls hbo6.ring HI.out.good.toSmlG
    have HORD := Aside0.mk hord
    have HBO6 := Aside0.mk hbo6
    have HB6 := Aside0.mk (HB5.out.trans (hb6.mono HB5.out.size))
    obtain ⟨Ag, cg, rfl, hlg, hfg⟩ := hv6
    have HFG := Aside0.mk hfg
    rw [List.length_map]
    clear hord hbo6 hb6 hfg hlg HGR HBO HB5
    go_wp2_with fail
    (with_reducible refine HORD.out.mono ?_)
    rintro e w7 ⟨v7, out, rfl, hv7, hs7, hb7⟩
    obtain ⟨Ao, co, rfl, hlo, hfo⟩ := hv7
    obtain ⟨holen, hoall⟩ := ord_all HI.out hs7
    rw [List.length_map, holen]
    rw [List.length_map, holen] at hlo
    have hgl := HI.out.gl
    have HFO := Aside0.mk hfo
    have HS7 := Aside0.mk hs7
    have HOL := Aside0.mk holen
    have HOA := Aside0.mk hoall
    have HFG7 := Aside0.mk (Kd.F_below HFG.out hb7)
    have HBO7 := Aside0.mk (HBO6.out.below hb7)
    have HB7 := Aside0.mk (HB6.out.trans (hb7.mono HB6.out.size))
    clear hfo hs7 holen hoall hb7 HFG HBO6 HB6 HORD
    go_wp2_with fail
    go_loopw [7] (fun i wr => ∃ k : Nat, k ≤ s.G.length ∧ i = .int .i64 k ∧ Below w7.heap.size w7 wr) (fun i _ => s.G.length - (intOf i).toNat)
    case atStart => exact ⟨0, Nat.zero_le _, rfl, Below.refl _ _⟩
    case round =>
      obtain ⟨k, hk, rfl, hbr⟩ := hrel
      by_cases hlt : k < s.G.length
      · obtain ⟨ad, A1, c1, rfl, hc0, hc1, hv⟩ := grp_at (Kd.F_below HFG7.out hbr) hlt
        have hgm : s.G[k] ∈ s.G := List.getElem_mem hlt
        obtain ⟨g, hg⟩ : ∃ g, g = s.G[k] := ⟨_, rfl⟩
        rw [← hg] at hc0 hc1 hv hgm
        have HG := Aside0.mk hg.symm
        clear hg
        obtain ⟨a, ha, hag⟩ := List.mem_iff_getElem.1 (HOA.out g hgm)
        have hgs := HI.out.gn g hgm
        have hgl1 := nameOK_len hgs.1
        have hgl2 := hgs.2.1
        obtain ⟨wq, hwq⟩ : ∃ wq : World, wq = wr := ⟨_, rfl⟩
        subst hwq
        have hbo := HBO7.out.below hbr
        obtain ⟨w8, hw8⟩ : ∃ w8, w8 = wq.alloc (.cells #[.string (mkS g.1)] 9) := ⟨_, rfl⟩
        have hb8 : Below wq.heap.size wq w8 := by rw [hw8]; exact al_below _ (Below.refl _ _)
        have hs8 : Strs w8 (fun k => k = wq.heap.size) (.slice (some ⟨wq.heap.size, 0, none⟩) 1 1) [g.1] := strs_own (by rw [hw8]; exact al_new _ rfl)
        have hbo8 := hbo.below hb8
        have hpt1 := Points_calls hbo8.ring HI.out.good.toSmlG.toSmlP HI.out.keys hs8 (by simp) (fun x hx => by rw [List.mem_singleton.1 hx]; omega)
        have HPT1 := Aside0.mk hpt1
        have HW8 := Aside0.mk hw8
        have HBO8 := Aside0.mk hbo8
        have HC1 := Aside0.mk (pw_cell_below hb8 hc1)
        have HV := Aside0.mk hv
        have HC0 := Aside0.mk hc0
        have HGM := Aside0.mk hgm
        have HAG := Aside0.mk hag
        have HB8 := Aside0.mk (hbr.trans (hb8.mono hbr.size))
        have HBQ := Aside0.mk hbr
        have HB88 := Aside0.mk hb8
        clear hpt1 hw8 hb8 hs8 hbo8 hbo hbr hv hag hgs hgm
        as_aux_lemma =>
        go_wp2_with fail
        rw [← HW8.out]
        (with_reducible refine HPT1.out.mono ?_)
        rintro e w9 ⟨v9, code9, rows9, rfl, hv9, hp9, hb9⟩
        obtain ⟨A9, c9, rfl, hl9, hf9⟩ := hv9
        have hc1 := pw_cell_below hb9 HC1.out
        have hv9 : Strs w9 _ _ g.2 := Kd.V_below HV.out (HB88.out.trans (hb9.mono HB88.out.size))
        have hbo9 := HBO8.out.below hb9
        have hpt2 := Points_calls hbo9.ring HI.out.good.toSmlG.toSmlP HI.out.keys hv9 (by omega) (fun x hx => by have := HI.out.good.mems g HGM.out x hx; omega)
        have HPT2 := Aside0.mk hpt2
        have HBO9 := Aside0.mk hbo9
        have HP9 := Aside0.mk hp9
        have HV9 := Aside0.mk (show Rws w9 _ (.slice A9 (rows9.map ints).length c9) rows9 from ⟨A9, c9, rfl, hl9, hf9⟩)
        have HB9 := Aside0.mk (HB8.out.trans (hb9.mono HB8.out.size))
        rw [List.length_map]
        clear hpt2 hbo9 hp9 hl9 hf9 hb9 hv9 HPT1 HBO8 HB8
        go_wp2_with fail
        (with_reducible refine HPT2.out.mono ?_)
        rintro e w10 ⟨v10, code10, rows10, rfl, hv10, hp10, hb10⟩
        obtain ⟨rfl, rfl⟩ := pts_one hp10 (pts_group HI.out HGM.out HP9.out)
        have hrw := rows12 (Kd.V_below HV9.out hb10) hv10 33 (fun x hx => by have := (pts_rows HI.out hp10).2 x hx; omega)
        rw [decide_eq_true rfl] at hrw
        obtain ⟨A10, c10, rfl, hl10, hf10⟩ := hv10
        rw [List.length_map] at hrw ⊢
        have HRW := Aside0.mk hrw
        have HB10 := Aside0.mk (HB9.out.trans (hb10.mono HB9.out.size))
        clear hrw hl10 hf10 hp10 hb10 HP9 HV9 HPT2 HB9 HBO9 hc0 hc1
        go_wp2_with fail
        (with_reducible refine HRW.out.mono ?_)
        rintro e w11 ⟨rfl, n11, rfl⟩
        have hB11 : Below w7.heap.size w7 (w10.drewN n11) := HB10.out.trans ((pw_below_drewN (Below.refl _ w10) n11).mono HB10.out.size)
        generalize w10.drewN n11 = w11 at hB11 ⊢
        have HB11 := Aside0.mk hB11
        have HFO11 := Aside0.mk (Kd.F_below HFO.out hB11)
        have HFG11 := Aside0.mk (Kd.F_below HFG7.out hB11)
        have HAL := Aside0.mk (show a < s.G.length by rw [← HOL.out]; exact ha)
        clear hB11 HB10 HRW
        go_wp2_with fail
        go_loopw [13, 12] (fun i u wr => ∃ (k2 n : Nat) (at_ : Int), k2 ≤ s.G.length ∧ i = .int .i64 k2 ∧ u = .int .i64 at_ ∧ Hid (at_ = if a < k2 then (a : Int) else -1) ∧ wr = w11.drewN n) (fun i _ _ => s.G.length - (intOf i).toNat)
        case atStart => exact ⟨0, 0, -1, Nat.zero_le _, rfl, rfl, by show (-1 : Int) = _; simp, rfl⟩
        case round =>
          obtain ⟨k2, n, at_, hk2, rfl, rfl, hat, hwr⟩ := hrel
          have hbw : Below w11.heap.size w11 wr := by rw [hwr]; exact pw_below_drewN (Below.refl _ _) n
          have HWR := Aside0.mk hwr
          have HAT := Aside0.mk (show at_ = if a < k2 then (a : Int) else -1 from hat)
          clear hwr hat
          by_cases hlt2 : k2 < s.G.length
          · have hk2o : k2 < out.length := by rw [HOL.out]; exact hlt2
            have hfo2 := Kd.F_below HFO11.out hbw
            rw [List.length_map] at hfo2
            obtain ⟨ado, hAo, hcell⟩ := str_at hfo2 hk2o
            subst hAo
            obtain ⟨ad', A1', c1', hAg, hg0, hg1, hgv⟩ := grp_at (Kd.F_below HFG11.out hbw) hlt
            cases hAg
            rw [HG.out] at hg0
            have hcmp := strs_eq out[k2] g.1
            have hpos : k2 = a ↔ out[k2] = g.1 := by
              rw [← HAG.out]
              exact ⟨fun e => by subst e; rfl, fun e => (List.getElem_inj (ord_nodup HS7.out.1)).1 e⟩
            by_cases he : out[k2] = g.1
            · rw [decide_eq_true he] at hcmp
              have HE := Aside0.mk (hpos.2 he)
              clear he hpos hbw hfo2 hgv hg1
              as_aux_lemma =>
              go_wp2_with fail
              go_quiet (fail)
              go_wp2_with fail
              go_roundw
              case measure => simp [intOf]; omega
              case rel =>
                refine ⟨k2 + 1, n + nq, (k2 : Int), by omega, by go_num, rfl, ?_, by rw [HWR.out]; simp⟩
                have := HE.out
                show (k2 : Int) = _
                rw [if_pos (by omega)]; omega
            · rw [decide_eq_false he] at hcmp
              have HE := Aside0.mk (fun e : k2 = a => he (hpos.1 e))
              clear he hpos hbw hfo2 hgv hg1
              as_aux_lemma =>
              go_wp2_with fail
              go_quiet (fail)
              go_wp2_with fail
              go_roundw
              case measure => simp [intOf]; omega
              case rel =>
                refine ⟨k2 + 1, n + nq, at_, by omega, by go_num, rfl, ?_, by rw [HWR.out]; simp⟩
                have h1 : ¬ k2 = a := HE.out
                show at_ = _
                rw [HAT.out]
                by_cases h2 : a < k2
                · rw [if_pos h2, if_pos (by omega)]
                · rw [if_neg h2, if_neg (by omega)]
          · obtain rfl : k2 = s.G.length := by omega
            have hat2 : at_ = (a : Int) := by rw [HAT.out, if_pos HAL.out]
            clear HAT
            subst hat2
            have hneg : ¬ ((a : Int) < 0) := by omega
            have HFO12 := Aside0.mk (Kd.F_below HFO11.out hbw)
            have HFG12 := Aside0.mk (Kd.F_below HFG11.out hbw)
            have HB12 := Aside0.mk (HB11.out.trans (hbw.mono HB11.out.size))
            have hac : a ≤ co := by have := HAL.out; omega
            clear HWR hbw
            as_aux_lemma =>
            go_wp2_with fail
            obtain ⟨wi, hwi⟩ : ∃ wi : World, wi = wr := ⟨_, rfl⟩
            subst hwi
            go_loopw [14] (fun i wr => ∃ (k4 n : Nat), k4 ≤ s.G.length ∧ i = .int .i64 k4 ∧ wr = wi.drewN n) (fun i _ => s.G.length - (intOf i).toNat)
            case atStart => exact ⟨0, 0, Nat.zero_le _, rfl, rfl⟩
            case round =>
              obtain ⟨k4, n4, hk4, rfl, hwr⟩ := hrel
              have hbw : Below wi.heap.size wi wr := by rw [hwr]; exact pw_below_drewN (Below.refl _ _) n4
              have HWR := Aside0.mk hwr
              clear hwr
              by_cases hlt4 : k4 < s.G.length
              · obtain ⟨ad', A1', c1', hAg, hg0, hg1, hgv⟩ := grp_at (Kd.F_below HFG12.out hbw) hlt
                cases hAg
                rw [HG.out] at hg1 hgv
                obtain ⟨ad', A2', c2', hAg, hy0, hy1, hyv⟩ := grp_at (Kd.F_below HFG12.out hbw) hlt4
                cases hAg
                have HGV := Aside0.mk hgv
                have hYG := ahas_mem (List.getElem_mem hlt4)
                generalize hy : s.G[k4].1 = y at hy0 hYG
                have hmem : y ∈ g.2 → y ∈ out.take a := fun hm => ord_behind HS7.out.1 ha hYG (by rw [HAG.out, mem_srt HI.out.sg HGM.out]; exact hm)
                have hfo4 := Kd.F_below HFO12.out hbw
                rw [List.length_map] at hfo4
                have htk := Kd.F_take (m := a) (xs := out.map mkS) (by rw [List.length_map]; exact hfo4) (by rw [List.length_map]; omega)
                rw [← List.map_take, List.length_map, List.length_take, Nat.min_eq_left (by omega)] at htk
                have hst : Strs wr (fun k => w6.heap.size ≤ k) (.slice Ao a co) (out.take a) := by
                  have hta : (out.take a).length = a := by rw [List.length_take]; omega
                  have := Strs.mk' (c := co) (b := out.take a) (A := Ao) (by rw [hta]; exact htk) (by rw [hta]; exact hac)
                  rwa [hta] at this
                have HST := Aside0.mk hst
                by_cases he : y ∈ g.2
                · have HE := Aside0.mk he
                  have HE2 := Aside0.mk (hmem he)
                  clear he hmem hst htk hfo4 hyv hgv hy1 hg0 hy hYG hbw
                  as_aux_lemma =>
                  go_wp2_with fail
                  go_quiet ((first | (go_at_call 19; exact in19q (V_drewN HGV.out _) (decide_eq_true HE.out)) | (go_at_call 19; exact in19q (V_drewN HST.out _) (decide_eq_true HE2.out))))
                  go_wp2_with fail
                  go_roundw
                  case measure => simp [intOf]; omega
                  case rel => exact ⟨k4 + 1, n4 + nq, by omega, by go_num, by rw [HWR.out]; simp⟩
                · have HE := Aside0.mk he
                  clear he hmem hst htk hfo4 hyv hgv hy1 hg0 hy hYG hbw
                  as_aux_lemma =>
                  go_wp2_with fail
                  go_quiet ((first | (go_at_call 19; exact in19q (V_drewN HGV.out _) (decide_eq_false HE.out)) | fail))
                  go_wp2_with fail
                  go_roundw
                  case measure => simp [intOf]; omega
                  case rel => exact ⟨k4 + 1, n4 + nq, by omega, by go_num, by rw [HWR.out]; simp⟩
              · obtain rfl : k4 = s.G.length := by omega
                have HB14 := Aside0.mk (HB12.out.trans (hbw.mono HB12.out.size))
                clear HWR hbw
                as_aux_lemma =>
                go_wp2_with fail
                go_roundw
                case measure => simp [intOf]; omega
                case rel => exact ⟨k + 1, by omega, by go_num, HB14.out⟩
      · obtain rfl : k = s.G.length := by omega
        have hbo := HBO7.out.below hbr
        have hpp := People_calls hbo.ring HI.out.good.p HI.out.good.ps
        have HPP := Aside0.mk hpp
        have HBO8 := Aside0.mk hbo
        have HB7' := Aside0.mk (HB7.out.trans (hbr.mono HB7.out.size))
        obtain ⟨wq, hwq⟩ : ∃ wq : World, wq = wr := ⟨_, rfl⟩
        subst hwq
        clear hpp hbo hbr HFG7 HFO HBO7 HB7 hgl
        as_aux_lemma =>
        go_wp2_with fail
        (with_reducible refine HPP.out.mono ?_)
        rintro e w8 ⟨v8, rfl, hv8, hb8⟩
        obtain ⟨Ap, cp, rfl, hlp, hfp⟩ := hv8
        rw [List.length_map]
        have hpl := HI.out.pl
        have HFP := Aside0.mk hfp
        have HBO9 := Aside0.mk (HBO8.out.below hb8)
        have HB8 := Aside0.mk (HB7'.out.trans (hb8.mono HB7'.out.size))
        clear hfp hb8 hlp HBO8 HB7'
        go_wp2_with fail
        go_loopw [16] (fun i wr => ∃ k : Nat, k ≤ s.P.length ∧ i = .int .i64 k ∧ Below w8.heap.size w8 wr) (fun i _ => s.P.length - (intOf i).toNat)
        case atStart => exact ⟨0, Nat.zero_le _, rfl, Below.refl _ _⟩
        case round =>
          obtain ⟨k, hk, rfl, hbr⟩ := hrel
          by_cases hlt : k < s.P.length
          · obtain ⟨ad, A1, c1, hAp, hc0, hc1, hv⟩ := ppl_at (Kd.F_below HFP.out hbr) hlt
            subst hAp
            have hgm : s.P[k] ∈ s.P := List.getElem_mem hlt
            obtain ⟨g, hg⟩ : ∃ g, g = s.P[k] := ⟨_, rfl⟩
            rw [← hg] at hc0 hc1 hv hgm
            rw [ints_length] at hc1 hv
            clear hg
            have hgs := HI.out.pn g hgm
            have hgl1 := nameOK_len hgs.1
            have hbo := HBO9.out.below hbr
            obtain ⟨w9, hw9⟩ : ∃ w9, w9 = wr.alloc (.cells #[.string (mkS g.1)] 9) := ⟨_, rfl⟩
            have hb9 : Below wr.heap.size wr w9 := by rw [hw9]; exact al_below _ (Below.refl _ _)
            have hs9 : Strs w9 (fun k => k = wr.heap.size) (.slice (some ⟨wr.heap.size, 0, none⟩) 1 1) [g.1] := strs_own (by rw [hw9]; exact al_new _ rfl)
            have hbo9 := hbo.below hb9
            have hpt1 := Points_calls hbo9.ring HI.out.good.toSmlG.toSmlP HI.out.keys hs9 (by simp) (fun x hx => by rw [List.mem_singleton.1 hx]; omega)
            have HPT1 := Aside0.mk hpt1
            have HW9 := Aside0.mk hw9
            have HBOx := Aside0.mk hbo9
            have HC1 := Aside0.mk (pw_cell_below hb9 hc1)
            have HC0 := Aside0.mk (pw_cell_below hb9 hc0)
            have HV := Aside0.mk (show Bts w9 _ _ _ from Kd.V_below hv hb9)
            have HGM := Aside0.mk hgm
            have HBX := Aside0.mk (hbr.trans (hb9.mono hbr.size))
            clear hpt1 hw9 hb9 hs9 hbo9 hbo hbr hv hgm hgs hc1
            as_aux_lemma =>
            go_wp2_with fail
            rw [← HW9.out]
            (with_reducible refine HPT1.out.mono ?_)
            rintro e w10 ⟨v10, code10, rows10, rfl, hv10, hp10, hb10⟩
            obtain ⟨rfl, rfl⟩ := pts_one hp10 (pts_person HI.out HGM.out)
            obtain ⟨A10, c10, rfl, hl10, hf10⟩ := hv10
            obtain ⟨adr, A2, c2, hAr, hr0, hrv, _⟩ := rws_at (l := [g.2]) hf10 (k := 0) (by simp)
            subst hAr
            simp only [List.getElem_cons_zero] at hr0 hrv
            have hadr : adr.add 0 = adr := by unfold Addr.add; split <;> simp_all
            rw [hadr] at hr0
            clear hadr
            have hc1 := pw_cell_below hb10 HC1.out
            have hc0 := pw_cell_below hb10 HC0.out
            have hvv : Bts w10 _ _ _ := Kd.V_below HV.out hb10
            have hbo10 := HBOx.out.below hb10
            have HEQ := Aside0.mk (show ∀ w' : World, Below w10.heap.size w10 w' → Calls Tryz.prog 21 #[.slice A2 g.2.length c2, .slice A1 g.2.length c1] w' (fun e w'' => e = .returned (.bool true) ∧ ∃ n, w'' = w'.drewN n) from fun w' hb => by
              have := eq21 (W := w') (Kd.V_below hrv hb) (Kd.V_below hvv hb)
              rw [decide_eq_true rfl] at this
              exact this.mono fun e w'' ⟨h1, n, h2⟩ => ⟨h1, n, h2⟩)
            have HWH := Aside0.mk (show ∀ w' : World, Below w10.heap.size w10 w' → Calls Tryz.prog 16 #[.pointer (some ⟨bp + 1 + 1, 0, none⟩), .slice A2 g.2.length c2] w' (fun e w'' => e = .returned (.string (mkS g.1)) ∧ Below w'.heap.size w' w'') from fun w' hb => by
              have := Who_calls (hbo10.below hb).ring HI.out.good.p HI.out.good.ps (Kd.V_below hrv hb)
              rw [who_person HI.out HGM.out] at this
              exact this)
            have HBB := Aside0.mk (HBX.out.trans (hb10.mono HBX.out.size))
            clear hvv hbo10 hrv hb10 hp10 hl10 hf10 HPT1 HBOx HV
            have hb00 : Below w10.heap.size w10 w10 := Below.refl _ _
            have HB00 := Aside0.mk hb00
            clear hb00
            go_wp2_with fail
            go_region_held3 (fun w' => w'.cell? adr = some (.slice A2 g.2.length c2) ∧ w'.cell? (ad.add (k * 2)) = some (.string (mkS g.1)) ∧ w'.cell? ⟨(ad.add (k * 2)).block, (ad.add (k * 2)).off + 1, none⟩ = some (.slice A1 g.2.length c1))
              (first | go_keep | exact ⟨pw_cell_below hb4 hr0, pw_cell_below hb4 hc0, pw_cell_below hb4 hc1⟩)
              (first
                | (go_at_call 21; refine (HEQ.out _ (HB00.out.drew)).mono ?_; rintro e w3 ⟨rfl, n3, rfl⟩)
                | (go_at_call 16; refine (HWH.out _ (pw_below_drewN HB00.out _)).mono ?_; rintro e w4 ⟨rfl, hb4⟩))
            have hbe : Below w8.heap.size w8 w4 := (HBB.out.trans ((pw_below_drewN HB00.out (1 + n3)).mono HBB.out.size)).trans (hb4.mono (by have := HBB.out.size; exact this))
            have HBE := Aside0.mk hbe
            clear hbe hb4
            go_wp2_with fail
            go_roundw
            case measure => simp [intOf]; omega
            case rel => exact ⟨k + 1, by omega, by go_num, HBE.out⟩
          · obtain rfl : k = s.P.length := by omega
            have HBZ := Aside0.mk (HB8.out.trans (hbr.mono HB8.out.size))
            clear hbr
            as_aux_lemma =>
            go_wp2_with fail
            go_ret
            exact ⟨rfl, HBZ.out⟩
end Go.Proofs.YtflioeiklcnncaaGreatDoor.Ri
