/- Plainly: whose points a group's are; the order tells all; dropped the other way round groups go one by one. -/
import Derived.Test.YtflioeiklcnncaaGreatDoorRf
import Derived.Test.YtflioeiklcnncaaGreatDoorSk
import Derived.Deep.QuietTactic
import Derived.BigQuiet
import Derived.Deep.RegionHeld3
import Derived.Handy
set_option linter.unusedVariables false
set_option linter.unusedSimpArgs false
namespace Go.Proofs.YtflioeiklcnncaaGreatDoor.Ri
open Go.RowKit Go.Maps Go.Sort Go.Proofs.YtflioeiklcnncaaGreatDoorW.PrintWords Go.Proofs.YtflioeiklcnncaaGreatDoor.PRing

theorem rch_front {s : St} {a x : B} (h : Rch s a x) : x = a ∨ ∃ m ∈ mem s a, Rch s m x := by
  induction h with
  | refl => exact .inl rfl
  | step _ hm ih =>
    rcases ih with rfl | ⟨m, hma, hr⟩
    · exact .inr ⟨_, hm, .refl⟩
    · exact .inr ⟨m, hma, .step hr hm⟩
theorem rch_cons {s : St} {a m x : B} (hm : m ∈ mem s a) (h : Rch s m x) : Rch s a x := rch_trans (.step .refl hm) h
theorem rchN_one {s : St} {a x : B} : RchN s [a] x ↔ x = a ∨ RchN s (mem s a) x := by
  constructor
  · rintro ⟨n, hn, hr⟩
    rw [List.mem_singleton.1 hn] at hr
    rcases rch_front hr with h | ⟨m, hm, hr⟩
    · exact .inl h
    · exact .inr ⟨m, hm, hr⟩
  · rintro (rfl | ⟨m, hm, hr⟩)
    · exact ⟨x, by simp, .refl⟩
    · exact ⟨a, by simp, rch_cons hm hr⟩
theorem RInv.noP {s : St} (h : RInv s) {p : B × List B} (hp : p ∈ s.G) (q : B) : (p.1, q) ∉ s.P := fun e => by
  have h1 := h.dj p.1 (ahas_iff.2 ⟨_, e, rfl⟩)
  rw [ahas_mem hp] at h1; cases h1
theorem pts_group {s : St} (h : RInv s) {p : B × List B} (hp : p ∈ s.G) {c : Int} {r : List B} (h1 : PtsSpec s [p.1] c r) : PtsSpec s p.2 c r := by
  have hm := mem_srt h.sg hp
  have ht : there s p.1 = true := by unfold there; rw [ahas_mem hp, Bool.or_true]
  rcases h1 with ⟨rfl, rfl, x, hx, hn⟩ | ⟨ha, fl, hs, hf, hc⟩
  · refine .inl ⟨rfl, rfl, x, ?_, hn⟩
    rcases rchN_one.1 hx with rfl | hx
    · rw [ht] at hn; cases hn
    · rwa [hm] at hx
  · refine .inr ⟨fun x hx => ha x (rchN_one.2 (.inr (by rwa [hm]))), fl, hs, fun q => (hf q).trans ?_, hc⟩
    constructor
    · rintro ⟨x, hx, hq⟩
      rcases rchN_one.1 hx with rfl | hx
      · exact absurd hq (h.noP hp q)
      · exact ⟨x, by rwa [hm] at hx, hq⟩
    · rintro ⟨x, hx, hq⟩
      exact ⟨x, rchN_one.2 (.inr (by rwa [hm])), hq⟩
theorem pts_person {s : St} (h : RInv s) {p : B × B} (hp : p ∈ s.P) : PtsSpec s [p.1] 0 [p.2] := by
  have hm : mem s p.1 = [] := mem_none (h.dj _ (ahas_mem hp))
  have hr : ∀ x, RchN s [p.1] x ↔ x = p.1 := fun x => by
    rw [rchN_one, hm]
    constructor
    · rintro (h | ⟨n, hn, _⟩)
      · exact h
      · simp at hn
    · exact .inl
  refine .inr ⟨fun x hx => ?_, [p.2], by simp, fun q => ?_, .inr ⟨by simp, rfl, rfl⟩⟩
  · rw [(hr x).1 hx]
    unfold there
    rw [ahas_mem hp, Bool.true_or]
  · rw [List.mem_singleton]
    constructor
    · rintro rfl
      exact ⟨p.1, (hr _).2 rfl, hp⟩
    · rintro ⟨x, hx, hq⟩
      rw [(hr x).1 hx] at hq
      exact srt_uniq h.sp hq hp
theorem who_person {s : St} (h : RInv s) {p : B × B} (hp : p ∈ s.P) : who s p.2 = p.1 := by
  unfold who
  cases hf : s.P.find? (fun q => decide (q.2 = p.2)) with
  | none =>
    rw [List.find?_eq_none] at hf
    exact absurd (hf p hp) (by simp)
  | some q =>
    have h1 := List.mem_of_find?_eq_some hf
    have h2 := List.find?_some hf
    simp only [decide_eq_true_eq] at h2
    simp only [Option.map_some, Option.getD_some]
    exact h.pd q h1 p hp h2
theorem ord_all {s : St} (h : RInv s) {out : List B} (ho : OrdSpec s out) : out.length = s.G.length ∧ ∀ p ∈ s.G, p.1 ∈ out := by
  have h1 := ord_len ho.1
  have h2 : ¬ out.length < s.G.length := fun e => by
    obtain ⟨p, hp, hr⟩ := ord_more h.sg h.rk e
    exact ho.2 _ ((rdy_iff h.sg hp).1 hr)
  refine ⟨by omega, fun p hp => Classical.byContradiction fun hn => ?_⟩
  have := sub_len (l := p.1 :: out) (m := s.G.map (·.1)) (List.nodup_cons.2 ⟨hn, ord_nodup ho.1⟩) (fun x hx => by
    rcases List.mem_cons.1 hx with rfl | hx
    · exact List.mem_map.2 ⟨p, hp, rfl⟩
    · obtain ⟨q, hq, e⟩ := ahas_iff.1 (ord_in ho.1 hx).1
      exact List.mem_map.2 ⟨q, hq, e⟩)
  simp at this
  omega
theorem ord_behind {s : St} {out : List B} (ho : OrdPre s out) {a : Nat} (ha : a < out.length) {y : B} (hy : ahas s.G y = true) (hm : y ∈ mem s out[a]) : y ∈ out.take a := by
  have h1 := (ho a ha).1.2.2
  rw [cnt_zero] at h1
  exact h1 y hm hy

/-! ### groups dropped, the other way round -/
def gLeft (s : St) (out : List B) (k : Nat) : St := ⟨s.P, s.G.filter fun p => decide (p.1 ∈ out.take k)⟩
theorem gLeft_all {s : St} (h : RInv s) {out : List B} (ho : OrdSpec s out) : gLeft s out out.length = s := by
  unfold gLeft
  rw [List.take_length, List.filter_eq_self.2 (fun p hp => by simpa using (ord_all h ho).2 p hp)]
theorem gLeft_zero (s : St) (out : List B) : gLeft s out 0 = ⟨s.P, []⟩ := by
  unfold gLeft
  simp
theorem gLeft_has {s : St} {out : List B} {k : Nat} {x : B} : ahas (gLeft s out k).G x = true ↔ ahas s.G x = true ∧ x ∈ out.take k := by
  unfold gLeft
  rw [ahas_iff, ahas_iff]
  constructor
  · rintro ⟨p, hp, rfl⟩
    simp only [List.mem_filter, decide_eq_true_eq] at hp
    exact ⟨⟨p, hp.1, rfl⟩, hp.2⟩
  · rintro ⟨⟨p, hp, rfl⟩, hx⟩
    exact ⟨p, by simp only [List.mem_filter, decide_eq_true_eq]; exact ⟨hp, hx⟩, rfl⟩
theorem drop_group {s : St} (h : RInv s) {out : List B} (ho : OrdSpec s out) {k : Nat} (hk : k < out.length) : drop1 (gLeft s out (k + 1)) out[k] = (0, gLeft s out k) := by
  have hnd := ord_nodup ho.1
  have hg : ahas s.G out[k] = true := (ord_in ho.1 (List.getElem_mem hk)).1
  have hin : out[k] ∈ out.take (k + 1) := by rw [take_snoc' hk]; exact List.mem_append_right _ (List.mem_singleton_self _)
  have ht : there (gLeft s out (k + 1)) out[k] = true := by
    unfold there
    rw [gLeft_has.2 ⟨hg, hin⟩, Bool.or_true]
  have hno : ((gLeft s out (k + 1)).G.any fun p => decide (out[k] ∈ p.2)) = false := by
    rw [List.any_eq_false]
    intro p hp
    unfold gLeft at hp
    simp only [List.mem_filter, decide_eq_true_eq] at hp
    obtain ⟨hpG, hpo⟩ := hp
    intro hm
    have hm' : out[k] ∈ p.2 := by simpa using hm
    obtain ⟨j, hj, hjp⟩ := List.mem_iff_getElem.1 hpo
    rw [List.getElem_take] at hjp
    have hjk : j < k + 1 := by simp at hj; omega
    have hjl : j < out.length := by omega
    rw [← mem_srt h.sg hpG, ← hjp] at hm'
    have h3 := ord_behind ho.1 hjl hg hm'
    obtain ⟨i, hi, hik⟩ := List.mem_iff_getElem.1 h3
    rw [List.getElem_take] at hik
    have hij : i < j := by simp at hi; omega
    have := (List.getElem_inj hnd).1 hik
    omega
  unfold drop1
  rw [if_neg (by rw [ht]; simp), if_neg (by rw [hno]; simp)]
  have hP : adel (gLeft s out (k + 1)).P out[k] = s.P := by
    apply adel_none
    cases e : ahas (gLeft s out (k + 1)).P out[k] with
    | false => rfl
    | true =>
      have := h.dj _ e
      rw [hg] at this; cases this
  have hG : adel (gLeft s out (k + 1)).G out[k] = (gLeft s out k).G := by
    unfold gLeft adel
    simp only
    rw [List.filter_filter]
    apply List.filter_congr
    intro p hp
    have hkt : out[k] ∉ out.take k := not_take hnd hk
    have hts : out.take (k + 1) = out.take k ++ [out[k]] := take_snoc' hk
    by_cases e : p.1 = out[k]
    · have h1 : (p.1 == out[k]) = true := by simpa using e
      have h2 : decide (p.1 ∈ out.take k) = false := by rw [e]; exact decide_eq_false hkt
      rw [h1, h2]
      rfl
    · have h1 : (p.1 == out[k]) = false := by simpa using e
      have h2 : (p.1 ∈ out.take (k + 1)) ↔ (p.1 ∈ out.take k) := by
        rw [hts, List.mem_append, List.mem_singleton]
        exact ⟨fun h => h.elim id (fun h => absurd h e), .inl⟩
      have h3 : decide (p.1 ∈ out.take (k + 1)) = decide (p.1 ∈ out.take k) := decide_eq_decide.2 h2
      rw [h1, h3]
      simp
  rw [hP, hG]
  rfl
theorem drop_gone {s : St} (h : RInv s) {out : List B} (ho : OrdSpec s out) {k : Nat} (hk : k < out.length) : drop1 (gLeft s out k) out[k] = (4, gLeft s out k) := by
  have hnd := ord_nodup ho.1
  have hg : ahas s.G out[k] = true := (ord_in ho.1 (List.getElem_mem hk)).1
  have ht : there (gLeft s out k) out[k] = false := by
    unfold there
    rw [Bool.or_eq_false_iff]
    constructor
    · cases e : ahas (gLeft s out k).P out[k] with
      | false => rfl
      | true =>
        have := h.dj _ e
        rw [hg] at this; cases this
    · cases e : ahas (gLeft s out k).G out[k] with
      | false => rfl
      | true => exact absurd (gLeft_has.1 e).2 (not_take hnd hk)
  unfold drop1
  rw [if_pos ht]
theorem gLeft_inv {s : St} (h : RInv s) {out : List B} (ho : OrdSpec s out) : ∀ d k, k + d = out.length → RInv (gLeft s out k)
  | 0, k, hk => by
    obtain rfl : k = out.length := by omega
    rw [gLeft_all h ho]
    exact h
  | d + 1, k, hk => by
    have h1 := gLeft_inv h ho d (k + 1) (by omega)
    have h2 := drop1_inv h1 (out[k]'(by omega))
    rwa [drop_group h ho (by omega : k < out.length)] at h2
/-! ### people dropped -/
def pLeft (s : St) (k : Nat) : St := ⟨s.P.drop k, []⟩
theorem drop_person {s : St} (h : Srt s.P) {k : Nat} (hk : k < s.P.length) : drop1 (pLeft s k) s.P[k].1 = (0, pLeft s (k + 1)) := by
  have hd : s.P.drop k = s.P[k] :: s.P.drop (k + 1) := List.drop_eq_getElem_cons hk
  have hs : Srt (s.P.drop k) := List.Pairwise.sublist (List.drop_sublist _ _) h
  unfold drop1 pLeft there
  have hh : ahas (s.P.drop k) s.P[k].1 = true := ahas_iff.2 ⟨s.P[k], by rw [hd]; exact List.mem_cons_self, rfl⟩
  rw [if_neg (by rw [hh]; simp), if_neg (by simp)]
  have h0 : 0 < (s.P.drop k).length := by rw [List.length_drop]; omega
  have he := adel_erase hs h0
  have e0 : (s.P.drop k)[0] = s.P[k] := by simp
  rw [e0] at he
  simp only [List.take_zero, List.nil_append, Nat.zero_add, List.drop_drop] at he
  rw [he]
  rfl
theorem pLeft_inv {s : St} (h : RInv (pLeft s 0)) (hs : Srt s.P) : ∀ k, k ≤ s.P.length → RInv (pLeft s k)
  | 0, _ => h
  | k + 1, hk => by
    have h1 := drop1_inv (pLeft_inv h hs k (by omega)) (s.P[k]'(by omega)).1
    rwa [drop_person hs (by omega : k < s.P.length)] at h1
end Go.Proofs.YtflioeiklcnncaaGreatDoor.Ri

set_option linter.unusedVariables false
set_option linter.unusedSimpArgs false
namespace Go.Proofs.YtflioeiklcnncaaGreatDoor.Ri
open Go.RowKit Go.Maps Go.Sort Go.Proofs.YtflioeiklcnncaaGreatDoorW.PrintWords Go.Proofs.YtflioeiklcnncaaGreatDoor.PRing

/-- A map's value, its members' row at A. -/
def vMap (A : Option Addr) (n c : Nat) : Value := .agg #[.int .i64 5, .bool false, .int .i64 0, .string ⟨#[]⟩, .slice none 0 0, .slice A n c]
def mtV : Value := vMap none 0 0
theorem bz_inj {a b : ByteArray} (h : bz a = bz b) : a = b := by rw [← mkS_bz a, h, mkS_bz]
def vCells (A : Option Addr) (n c : Nat) : Array Value := #[.int .i64 5, .bool false, .int .i64 0, .string ⟨#[]⟩, .slice none 0 0, .slice A n c]
set_option maxRecDepth 100000 in
theorem eqF116 (W : World) (f : Value) : Calls Tryz.prog 116 #[.slice none 0 0, .slice none 0 0, f] W fun e w' => e = .returned (.bool true) ∧ w' = W := by
  go_enter Tryz.func116, Tryz.ntmps116
  go_wp2_with fail
  go_loop [17] (fun i => i = .int .i64 0) (fun _ => 0)
  case atStart => rfl
  case round =>
    obtain rfl := hrel
    go_wp2_with fail
    go_ret
    exact ⟨rfl, rfl⟩
set_option maxRecDepth 100000 in
theorem valid98 (l : B) (W : World) (hl : l.length ≤ 8) (ha : ∀ c ∈ l, c.toNat < 128) : Calls Tryz.prog 98 #[.string (mkS l)] W fun e w' => e = .returned (.bool true) ∧ w' = W := by
  have HL := Aside0.mk hl
  have HA := Aside0.mk ha
  clear hl ha
  go_enter Tryz.func98, Tryz.ntmps98
  go_wp2_with fail
  go_loop [0] (fun v => ∃ r : B, r.length ≤ l.length ∧ (∀ c ∈ r, c.toNat < 128) ∧ v = .string (mkS r)) (fun v => match v with | .string s => s.size | _ => 0)
  case atStart => exact ⟨l, Nat.le_refl _, HA.out, rfl⟩
  case round =>
    obtain ⟨r, hr, har, rfl⟩ := hrel
    have HR := Aside0.mk hr
    have HAR := Aside0.mk har
    clear hr har
    cases r with
    | nil =>
      go_wp2_with fail
      go_ret
      exact ⟨rfl, rfl⟩
    | cons x r =>
      have hsz : 0 < (mkS (x :: r)).size := by rw [mkS_size]; simp
      have hsz2 : (mkS (x :: r)).size ≤ 8 := by rw [mkS_size]; have := HR.out; have := HL.out; omega
      have hx : (((mkS (x :: r))[0]'hsz).toNat : Int) < 128 := by
        have := HAR.out x (by simp)
        have e : (mkS (x :: r))[0]'hsz = x := rfl
        rw [e]; omega
      have HSZ2 := Aside0.mk hsz2
      have hex : (mkS (x :: r)).extract 1 (mkS (x :: r)).size = mkS r := by
        apply bz_inj
        rw [bz_mkS]
        simp [bz, mkS, ByteArray.size]
      have HEX := Aside0.mk hex
      clear hex
      go_wp2_with fail
      refine ⟨⟨r, by have := HR.out; simp at this; omega, fun c hc => HAR.out c (by simp [hc]), by rw [HEX.out]⟩, ?_⟩
      rw [HEX.out]
      simp [mkS_size]
theorem eqF117_nil (W : World) (f : Value) : Calls Tryz.prog 117 #[.slice none 0 0, .slice none 0 0, f] W fun e w' => e = .returned (.bool true) ∧ w' = W := by
  go_enter Tryz.func117, Tryz.ntmps117
  go_wp2_with fail
  go_loop [17] (fun i => i = .int .i64 0) (fun _ => 0)
  case atStart => rfl
  case round =>
    obtain rfl := hrel
    go_wp2_with fail
    go_ret
    exact ⟨rfl, rfl⟩
theorem six_cells {W : World} {b t : Nat} {v0 v1 v2 v3 v4 v5 : Value} (h : W.heap[b]? = some (.cells #[v0, v1, v2, v3, v4, v5] t (0, 0))) :
    W.cell? ⟨b, 0, none⟩ = some v0 ∧ W.cell? ⟨b, 1, none⟩ = some v1 ∧ W.cell? ⟨b, 2, none⟩ = some v2 ∧ W.cell? ⟨b, 3, none⟩ = some v3 ∧ W.cell? ⟨b, 4, none⟩ = some v4 ∧ W.cell? ⟨b, 5, none⟩ = some v5 := by
  refine ⟨?_, ?_, ?_, ?_, ?_, ?_⟩ <;> simp [World.cell?, h]
theorem blk_below {W W' : World} {b : Nat} {o : Obj} (h : W.heap[b]? = some o) (hb : Below W.heap.size W W') : W'.heap[b]? = some o := (hb.block b (Array.getElem?_eq_some_iff.1 h).1).trans h
theorem below3 {W a x b : World} (h : Below W.heap.size W a) (h1 : Below a.heap.size a x) (h2 : Below x.heap.size x b) : Below W.heap.size W b := (h.trans (h1.mono h.size)).trans (h2.mono (Nat.le_trans h.size h1.size))
def peopleB : B := [112, 101, 111, 112, 108, 101]
def groupsB : B := [103, 114, 111, 117, 112, 115]
def mCells : Array Value := #[.string (mkS peopleB), .int .i64 5, .bool false, .int .i64 0, .string ⟨#[]⟩, .slice none 0 0, .slice none 0 0, .string (mkS groupsB), .int .i64 5, .bool false, .int .i64 0, .string ⟨#[]⟩, .slice none 0 0, .slice none 0 0]
def memV (nm : B) : Value := .agg #[.string (mkS nm), .int .i64 5, .bool false, .int .i64 0, .string ⟨#[]⟩, .slice none 0 0, .slice none 0 0]
set_option maxRecDepth 100000 in
set_option maxHeartbeats 4000000 in
theorem bare97 (A : Option Addr) (n c : Nat) (W : World) : Calls Tryz.prog 97 #[vMap A n c] W fun e w' => e = .returned (vMap A n c) ∧ Below W.heap.size W w' := by
  unfold vMap
  go_enter Tryz.func97, Tryz.ntmps97
  go_wp2_with fail
  exact bodyPost_ret (v := .agg #[.int .i64 5, .bool false, .int .i64 0, .string ⟨#[]⟩, .slice none 0 0, .slice A n c]) (by simp [results, Tryz.results97, go_sem]) rfl ⟨rfl, al_below _ (al_below _ (al_below _ (Below.refl _ _)))⟩
set_option maxRecDepth 100000 in
set_option maxHeartbeats 4000000 in
theorem same96_mt (W : World) : Calls Tryz.prog 96 #[mtV, mtV] W fun e w' => e = .returned (.bool true) ∧ Below W.heap.size W w' := by
  unfold mtV vMap
  go_enter Tryz.func96, Tryz.ntmps96
  go_wp2_with fail
  (with_reducible refine (eqF116 _ _).mono ?_)
  rintro e w' ⟨rfl, hw⟩
  obtain rfl := hw.symm
  go_wp2_with fail
  (with_reducible refine (eqF117_nil _ _).mono ?_)
  rintro e w' ⟨rfl, hw⟩
  obtain rfl := hw.symm
  go_wp2_with fail
  go_ret
  exact ⟨rfl, al_below _ (al_below _ (Below.refl _ _))⟩
set_option maxRecDepth 100000 in
set_option maxHeartbeats 4000000 in
theorem same118 (nm : B) (W : World) : Calls Tryz.prog 118 #[memV nm, memV nm] W fun e w' => e = .returned (.bool true) ∧ Below W.heap.size W w' := by
  unfold memV
  go_enter Tryz.func118, Tryz.ntmps118
  go_wp2_with fail
  refine (same96_mt _).mono ?_
  rintro e w' ⟨rfl, hb⟩
  have HB := Aside0.mk hb
  clear hb
  go_wp2_with fail
  go_ret
  have h0 : Below W.heap.size W ((W.alloc (.cells #[.string (mkS nm), .int .i64 5, .bool false, .int .i64 0, .string ⟨#[]⟩, .slice none 0 0, .slice none 0 0] 91)).alloc (.cells #[.string (mkS nm), .int .i64 5, .bool false, .int .i64 0, .string ⟨#[]⟩, .slice none 0 0, .slice none 0 0] 91)) := al_below _ (al_below _ (Below.refl _ _))
  exact ⟨rfl, h0.trans (HB.out.mono h0.size)⟩
theorem m_cells {W : World} {b : Nat} (h : W.heap[b]? = some (.cells mCells 91 (0, 0))) : (W.cell? ⟨b, 0, none⟩ = some (.string (mkS peopleB)) ∧ W.cell? ⟨b, 1, none⟩ = some (.int .i64 5) ∧ W.cell? ⟨b, 2, none⟩ = some (.bool false) ∧ W.cell? ⟨b, 3, none⟩ = some (.int .i64 0) ∧ W.cell? ⟨b, 4, none⟩ = some (.string ⟨#[]⟩) ∧ W.cell? ⟨b, 5, none⟩ = some (.slice none 0 0) ∧ W.cell? ⟨b, 6, none⟩ = some (.slice none 0 0)) ∧
    (W.cell? ⟨b, 7, none⟩ = some (.string (mkS groupsB)) ∧ W.cell? ⟨b, 8, none⟩ = some (.int .i64 5) ∧ W.cell? ⟨b, 9, none⟩ = some (.bool false) ∧ W.cell? ⟨b, 10, none⟩ = some (.int .i64 0) ∧ W.cell? ⟨b, 11, none⟩ = some (.string ⟨#[]⟩) ∧ W.cell? ⟨b, 12, none⟩ = some (.slice none 0 0) ∧ W.cell? ⟨b, 13, none⟩ = some (.slice none 0 0)) := by
  refine ⟨⟨?_, ?_, ?_, ?_, ?_, ?_, ?_⟩, ⟨?_, ?_, ?_, ?_, ?_, ?_, ?_⟩⟩ <;> simp [World.cell?, h, mCells]
set_option maxRecDepth 100000 in
set_option maxHeartbeats 4000000 in
theorem eqF117_two {W : World} {b : Nat} (h : W.heap[b]? = some (.cells mCells 91 (0, 0))) : Calls Tryz.prog 117 #[.slice (some ⟨b, 0, none⟩) 2 2, .slice (some ⟨b, 0, none⟩) 2 2, .func (.func 118) #[] #[]] W fun e w' => e = .returned (.bool true) ∧ Below W.heap.size W w' := by
  have H := Aside0.mk h
  clear h
  go_enter Tryz.func117, Tryz.ntmps117
  go_wp2_with fail
  go_loopw [17] (fun i wr => ∃ x : Int, (x = 0 ∨ x = 1 ∨ x = 2) ∧ i = .int .i64 x ∧ Below W.heap.size W wr) (fun i _ => (2 - intOf i).toNat)
  case atStart => exact ⟨0, .inl rfl, rfl, Below.refl _ _⟩
  case round =>
    obtain ⟨x, hx, rfl, hb⟩ := hrel
    have HB := Aside0.mk hb
    obtain ⟨⟨a0, a1, a2, a3, a4, a5, a6⟩, ⟨b0, b1, b2, b3, b4, b5, b6⟩⟩ := m_cells (blk_below H.out hb)
    have hbl : b < wr.heap.size := (Array.getElem?_eq_some_iff.1 (blk_below H.out hb)).1
    have hbne : ¬ (b = wr.heap.size) := by omega
    clear hb
    rcases hx with rfl | rfl | rfl
    · go_wp2_with fail
      refine (same118 peopleB _).mono ?_
      rintro e w' ⟨rfl, hb⟩
      have HB2 := Aside0.mk hb
      clear hb
      go_wp2_with fail
      exact ⟨⟨1, .inr (.inl rfl), rfl, below3 HB.out (al_below _ (al_below _ (Below.refl _ _))) HB2.out⟩, by simp [intOf]⟩
    · go_wp2_with fail
      refine (same118 groupsB _).mono ?_
      rintro e w' ⟨rfl, hb⟩
      have HB2 := Aside0.mk hb
      clear hb
      go_wp2_with fail
      exact ⟨⟨2, .inr (.inr rfl), rfl, below3 HB.out (al_below _ (al_below _ (Below.refl _ _))) HB2.out⟩, by simp [intOf]⟩
    · go_wp2_with fail
      go_ret
      exact ⟨rfl, HB.out⟩
set_option maxRecDepth 100000 in
set_option maxHeartbeats 4000000 in
theorem same96_v {W : World} {b : Nat} (h : W.heap[b]? = some (.cells mCells 91 (0, 0))) : Calls Tryz.prog 96 #[vMap (some ⟨b, 0, none⟩) 2 2, vMap (some ⟨b, 0, none⟩) 2 2] W fun e w' => e = .returned (.bool true) ∧ Below W.heap.size W w' := by
  have H := Aside0.mk h
  clear h
  unfold vMap
  go_enter Tryz.func96, Tryz.ntmps96
  go_wp2_with fail
  (with_reducible refine (eqF116 _ _).mono ?_)
  rintro e w' ⟨rfl, hw⟩
  obtain rfl := hw.symm
  go_wp2_with fail
  refine (eqF117_two (al_old _ (al_old _ H.out))).mono ?_
  rintro e w' ⟨rfl, hb⟩
  have HB2 := Aside0.mk hb
  clear hb
  go_wp2_with fail
  go_ret
  exact ⟨rfl, below3 (Below.refl _ _) (al_below _ (al_below _ (Below.refl _ _))) HB2.out⟩
end Go.Proofs.YtflioeiklcnncaaGreatDoor.Ri

set_option linter.unusedVariables false
set_option linter.unusedSimpArgs false
namespace Go.Proofs.YtflioeiklcnncaaGreatDoor.Ri
open Go.RowKit Go.Maps Go.Sort Go.Proofs.YtflioeiklcnncaaGreatDoorW.PrintWords Go.Proofs.YtflioeiklcnncaaGreatDoor.PRing

theorem six_agg {W : World} {b : Nat} {A : Option Addr} {n c : Nat} (h : W.heap[b]? = some (.cells (vCells A n c) 88 (0, 0))) :
    W.cell? ⟨b, 0, none⟩ = some (.int .i64 5) ∧ W.cell? ⟨b, 1, none⟩ = some (.bool false) ∧ W.cell? ⟨b, 2, none⟩ = some (.int .i64 0) ∧ W.cell? ⟨b, 3, none⟩ = some (.string ⟨#[]⟩) ∧ W.cell? ⟨b, 4, none⟩ = some (.slice none 0 0) ∧ W.cell? ⟨b, 5, none⟩ = some (.slice A n c) := six_cells h
/-- The box of a value and of the depth, at w. -/
def BoxS (D : Nat) (d : Int) (A : Option Addr) (n c : Nat) (w : World) : Prop :=
  w.cell? ⟨D + 1, 0, none⟩ = some (.int .i64 d) ∧ w.cell? ⟨D, 0, none⟩ = some (.int .i64 5) ∧ w.cell? ⟨D, 1, none⟩ = some (.bool false) ∧ w.cell? ⟨D, 2, none⟩ = some (.int .i64 0) ∧ w.cell? ⟨D, 3, none⟩ = some (.string ⟨#[]⟩) ∧ w.cell? ⟨D, 4, none⟩ = some (.slice none 0 0) ∧ w.cell? ⟨D, 5, none⟩ = some (.slice A n c)
theorem BoxS.below {D : Nat} {d : Int} {A : Option Addr} {n c : Nat} {w w' : World} (h : BoxS D d A n c w) (hb : Below w.heap.size w w') : BoxS D d A n c w' := by
  obtain ⟨h0, h1, h2, h3, h4, h5, h6⟩ := h
  exact ⟨pw_cell_below hb h0, pw_cell_below hb h1, pw_cell_below hb h2, pw_cell_below hb h3, pw_cell_below hb h4, pw_cell_below hb h5, pw_cell_below hb h6⟩
theorem valid0 (W : World) : Calls Tryz.prog 98 #[.string ⟨#[]⟩] W fun e w' => e = .returned (.bool true) ∧ w' = W := valid98 [] W (by simp) (fun c hc => by simp at hc)
set_option maxRecDepth 100000 in
theorem index120 (W : World) (f : Value) : Calls Tryz.prog 120 #[.slice none 0 0, f] W fun e w' => e = .returned (.int .i64 (-1)) ∧ w' = W := by
  go_enter Tryz.func120, Tryz.ntmps120
  go_wp2_with fail
  go_loop [8] (fun i => i = .int .i64 0) (fun _ => 0)
  case atStart => rfl
  case round =>
    obtain rfl := hrel
    go_wp2_with fail
    go_ret
    exact ⟨rfl, rfl⟩
set_option maxRecDepth 100000 in
theorem contains99 (W : World) (f : Value) : Calls Tryz.prog 99 #[.slice none 0 0, f] W fun e w' => e = .returned (.bool false) ∧ w' = W := by
  go_enter Tryz.func99, Tryz.ntmps99
  go_wp2_with fail
  (with_reducible refine (index120 _ _).mono ?_)
  rintro e w' ⟨rfl, hw⟩
  obtain rfl := hw.symm
  go_wp2_with fail
  go_ret
  exact ⟨rfl, rfl⟩
set_option maxRecDepth 100000 in
set_option maxHeartbeats 4000000 in
theorem may73_mt (W : World) : Calls Tryz.prog 73 #[mtV, .int .i64 2] W fun e w' => e = .returned (.bool true) ∧ Below W.heap.size W w' := by
  have hmm := @run_makeMap Tryz.prog
  unfold mtV vMap
  go_enter Tryz.func73, Tryz.ntmps73
  go_wp2_with fail
  obtain ⟨w1, hw1⟩ : ∃ w1, w1 = (W.alloc (.cells (vCells none 0 0) 88)).alloc (.cells #[.int .i64 2] 3) := ⟨_, rfl⟩
  have hb1 : Below W.heap.size W w1 := by rw [hw1]; exact al_below _ (al_below _ (Below.refl _ _))
  have hx1 : w1.heap[W.heap.size]? = some (.cells (vCells none 0 0) 88) := by rw [hw1]; exact al_old _ (al_new _ rfl)
  have hy1 : w1.heap[W.heap.size + 1]? = some (.cells #[.int .i64 2] 3) := by rw [hw1]; exact al_new _ (al_size _ rfl)
  rw [show (W.alloc (.cells #[.int .i64 5, .bool false, .int .i64 0, .string ⟨#[]⟩, .slice none 0 0, .slice none 0 0] 88)).alloc (.cells #[.int .i64 2] 3) = w1 from hw1.symm]
  clear hw1
  have hbox : BoxS W.heap.size 2 none 0 0 w1 := by
    obtain ⟨x0, x1, x2, x3, x4, x5⟩ := six_agg hx1
    exact ⟨(cell_of_blk hy1).1, x0, x1, x2, x3, x4, x5⟩
  have HBOX := Aside0.mk hbox
  obtain ⟨s0, s1, s2, s3, s4, s5, s6⟩ := hbox
  have HB1 := Aside0.mk hb1
  clear hx1 hy1 hb1
  go_region_held3 (fun w' => w'.cell? ⟨W.heap.size + 1, 0, none⟩ = some (.int .i64 2) ∧ w'.cell? ⟨W.heap.size, 0, none⟩ = some (.int .i64 5) ∧ w'.cell? ⟨W.heap.size, 1, none⟩ = some (.bool false) ∧ w'.cell? ⟨W.heap.size, 2, none⟩ = some (.int .i64 0) ∧ w'.cell? ⟨W.heap.size, 3, none⟩ = some (.string ⟨#[]⟩) ∧ w'.cell? ⟨W.heap.size, 4, none⟩ = some (.slice none 0 0) ∧ w'.cell? ⟨W.heap.size, 5, none⟩ = some (.slice none 0 0))
    (first | go_keep | exact (HBOX.out.below (Below.refl _ _).drew).below hb3 | exact ((HBOX.out.below (Below.refl _ _).drew).below hb3).below hb4)
    (first
      | (go_at_call 97; refine (bare97 none 0 0 _).mono ?_; rintro e w3 ⟨rfl, hb3⟩; unfold vMap)
      | (go_at_call 96; refine (same96_mt _).mono ?_; rintro e w4 ⟨rfl, hb4⟩)
      | (go_at_call 98; refine (valid0 _).mono ?_; rintro e w5 ⟨rfl, rfl⟩))
  have hb5 : Below W.heap.size W w5 := below3 (below3 HB1.out (Below.refl _ _).drew hb3) (Below.refl _ _) hb4
  obtain ⟨s0, s1, s2, s3, s4, s5, s6⟩ := ((HBOX.out.below (Below.refl _ _).drew).below hb3).below hb4
  have HB5 := Aside0.mk hb5
  have t6 := cell_al (.map #[] 0) s6
  have t5 := cell_al (.map #[] 0) s5
  clear hb3 hb4 hb5
  go_wp2_with fail
  go_loopw [47] (fun i wr => i = .int .i64 0 ∧ wr = w5.alloc (.map #[] 0)) (fun _ _ => 0)
  case atStart => exact ⟨rfl, rfl⟩
  case round =>
    obtain ⟨rfl, hwr⟩ := hrel
    subst hwr
    go_wp2_with fail
    (with_reducible refine (contains99 _ _).mono ?_)
    rintro e w' ⟨rfl, hw⟩
    obtain rfl := hw.symm
    go_wp2_with fail
    go_ret
    exact ⟨rfl, al_below _ HB5.out⟩



-- MAYV
theorem seven_cells {W : World} {b t : Nat} {v0 v1 v2 v3 v4 v5 v6 : Value} (h : W.heap[b]? = some (.cells #[v0, v1, v2, v3, v4, v5, v6] t (0, 0))) :
    W.cell? ⟨b, 0, none⟩ = some v0 ∧ W.cell? ⟨b, 1, none⟩ = some v1 ∧ W.cell? ⟨b, 2, none⟩ = some v2 ∧ W.cell? ⟨b, 3, none⟩ = some v3 ∧ W.cell? ⟨b, 4, none⟩ = some v4 ∧ W.cell? ⟨b, 5, none⟩ = some v5 ∧ W.cell? ⟨b, 6, none⟩ = some v6 := by
  refine ⟨?_, ?_, ?_, ?_, ?_, ?_, ?_⟩ <;> simp [World.cell?, h]
theorem BoxS.turn {D : Nat} {d : Int} {A : Option Addr} {n c : Nat} {w w' : World} {S : Nat → Prop} (h : BoxS D d A n c w) (ht : Turn S w w') (h1 : ¬ S D) (h2 : ¬ S (D + 1)) : BoxS D d A n c w' := by
  obtain ⟨g0, g1, g2, g3, g4, g5, g6⟩ := h
  exact ⟨ht.cell g0 h2, ht.cell g1 h1, ht.cell g2 h1, ht.cell g3 h1, ht.cell g4 h1, ht.cell g5 h1, ht.cell g6 h1⟩
set_option maxRecDepth 100000 in
set_option maxHeartbeats 8000000 in
theorem may73_v {W : World} {b : Nat} (h : W.heap[b]? = some (.cells mCells 91 (0, 0))) : Calls Tryz.prog 73 #[vMap (some ⟨b, 0, none⟩) 2 2, .int .i64 1] W fun e w' => e = .returned (.bool true) ∧ Below W.heap.size W w' := by
  have HBL := Aside0.mk (Array.getElem?_eq_some_iff.1 h).1
  have H := Aside0.mk h
  clear h
  have hmm := @run_makeMap Tryz.prog
  unfold vMap
  go_enter Tryz.func73, Tryz.ntmps73
  go_wp2_with fail
  obtain ⟨w1, hw1⟩ : ∃ w1, w1 = (W.alloc (.cells (vCells (some ⟨b, 0, none⟩) 2 2) 88)).alloc (.cells #[.int .i64 1] 3) := ⟨_, rfl⟩
  have hb1 : Below W.heap.size W w1 := by rw [hw1]; exact al_below _ (al_below _ (Below.refl _ _))
  have hx1 : w1.heap[W.heap.size]? = some (.cells (vCells (some ⟨b, 0, none⟩) 2 2) 88) := by rw [hw1]; exact al_old _ (al_new _ rfl)
  have hy1 : w1.heap[W.heap.size + 1]? = some (.cells #[.int .i64 1] 3) := by rw [hw1]; exact al_new _ (al_size _ rfl)
  rw [show (W.alloc (.cells #[.int .i64 5, .bool false, .int .i64 0, .string ⟨#[]⟩, .slice none 0 0, .slice (some ⟨b, 0, none⟩) 2 2] 88)).alloc (.cells #[.int .i64 1] 3) = w1 from hw1.symm]
  clear hw1
  have hbox : BoxS W.heap.size 1 (some ⟨b, 0, none⟩) 2 2 w1 := by
    obtain ⟨x0, x1, x2, x3, x4, x5⟩ := six_agg hx1
    exact ⟨(cell_of_blk hy1).1, x0, x1, x2, x3, x4, x5⟩
  have HBOX := Aside0.mk hbox
  have HX := Aside0.mk (blk_below H.out hb1)
  obtain ⟨s0, s1, s2, s3, s4, s5, s6⟩ := hbox
  have HB1 := Aside0.mk hb1
  clear hx1 hy1 hb1
  go_region_held3 (fun w' => w'.cell? ⟨W.heap.size + 1, 0, none⟩ = some (.int .i64 1) ∧ w'.cell? ⟨W.heap.size, 0, none⟩ = some (.int .i64 5) ∧ w'.cell? ⟨W.heap.size, 1, none⟩ = some (.bool false) ∧ w'.cell? ⟨W.heap.size, 2, none⟩ = some (.int .i64 0) ∧ w'.cell? ⟨W.heap.size, 3, none⟩ = some (.string ⟨#[]⟩) ∧ w'.cell? ⟨W.heap.size, 4, none⟩ = some (.slice none 0 0) ∧ w'.cell? ⟨W.heap.size, 5, none⟩ = some (.slice (some ⟨b, 0, none⟩) 2 2))
    (first | go_keep | exact (HBOX.out.below (Below.refl _ _).drew).below hb3 | exact ((HBOX.out.below (Below.refl _ _).drew).below hb3).below hb4)
    (first
      | (go_at_call 97; refine (bare97 (some ⟨b, 0, none⟩) 2 2 _).mono ?_; rintro e w3 ⟨rfl, hb3⟩; unfold vMap)
      | (go_at_call 96; refine (same96_v (blk_below (blk_below HX.out (Below.refl _ _).drew) hb3)).mono ?_; rintro e w4 ⟨rfl, hb4⟩)
      | (go_at_call 98; refine (valid0 _).mono ?_; rintro e w5 ⟨rfl, rfl⟩))
  have hb5 : Below W.heap.size W w5 := below3 (below3 HB1.out (Below.refl _ _).drew hb3) (Below.refl _ _) hb4
  have hbx5 := ((HBOX.out.below (Below.refl _ _).drew).below hb3).below hb4
  have HBX5 := Aside0.mk hbx5
  obtain ⟨s0, s1, s2, s3, s4, s5, s6⟩ := hbx5
  have HB5 := Aside0.mk hb5
  have HX5 := Aside0.mk (blk_below (blk_below (blk_below HX.out (Below.refl _ _).drew) hb3) hb4)
  have hlt5 : W.heap.size + 1 < w5.heap.size := World.block_lt_of_cell? _ _ s0
  have t6 := cell_al (.map #[] 0) s6
  have t5 := cell_al (.map #[] 0) s5
  have HM5 := Aside0.mk (MapAt.made w5)
  clear hb3 hb4 hb5
  go_wp2_with fail
  obtain ⟨mB, hmB⟩ : ∃ mB, mB = w5.heap.size := ⟨_, rfl⟩
  have HMB := Aside0.mk (show W.heap.size + 1 < mB by omega)
  rw [← hmB]
  rw [← hmB] at HM5
  clear hmB s0 s1 s2 s3 s4 s5 s6 t6 t5 hlt5 hmm
  go_loopw [47] (fun i wr => ∃ (x : Int) (m : List (B × Value)), ((x = 0 ∧ m = []) ∨ (x = 1 ∧ m = [(peopleB, .int .i64 1)]) ∨ x = 2) ∧ i = .int .i64 x ∧ MapAt wr mB m.length m ∧ BoxS W.heap.size 1 (some ⟨b, 0, none⟩) 2 2 wr ∧ Below W.heap.size W wr ∧ wr.heap[b]? = some (.cells mCells 91 (0, 0))) (fun i _ => (2 - intOf i).toNat)
  case atStart => exact ⟨0, [], .inl ⟨rfl, rfl⟩, rfl, HM5.out, HBX5.out.below (al_below _ (Below.refl _ _)), al_below _ HB5.out, al_old _ HX5.out⟩
  case round =>
    obtain ⟨x, m, hx, rfl, hm, hbx, hbr, hbk⟩ := hrel
    have hbl0 := HBL.out
    have hbl : b < wr.heap.size := Nat.lt_of_lt_of_le hbl0 hbr.size
    have hbne : ¬ (b = wr.heap.size) := by omega
    rcases hx with ⟨rfl, rfl⟩ | ⟨rfl, rfl⟩ | rfl
    · have hsz : (mkS peopleB).size ≤ maxLen := by rw [mkS_size]; decide
      obtain ⟨w1r, hw1r⟩ : ∃ w1r, w1r = wr.alloc (.cells #[.string (mkS peopleB), .int .i64 5, .bool false, .int .i64 0, .string ⟨#[]⟩, .slice none 0 0, .slice none 0 0] 91) := ⟨_, rfl⟩
      have hb1r : Below wr.heap.size wr w1r := by rw [hw1r]; exact al_below _ (Below.refl _ _)
      have hT1 : w1r.heap[wr.heap.size]? = some (.cells #[.string (mkS peopleB), .int .i64 5, .bool false, .int .i64 0, .string ⟨#[]⟩, .slice none 0 0, .slice none 0 0] 91) := by rw [hw1r]; exact al_new _ rfl
      have hm1 := hm.below hb1r
      have l1 := hm1.look1 Tryz.underlying63 (z3 w1r) hsz
      rw [show (mkS peopleB).data.toList = peopleB from bz_mkS _, show alook ([] : List (B × Value)) peopleB = none from by rfl] at l1
      obtain ⟨w2, hrun, hm2, ht2⟩ := hm1.store Tryz.underlying63 (by unfold maxLen; simp) hsz (.int .i64 1)
      have l2 := hm2.look1 Tryz.underlying63 (z3 w2) hsz
      rw [show (mkS peopleB).data.toList = peopleB from bz_mkS _, alook_put, if_pos rfl] at l2
      have hm3 := hm2.norm
      rw [show (mkS peopleB).data.toList = peopleB from bz_mkS _] at hm3
      simp only [Option.getD_some, Option.getD_none] at l1 l2
      have htt := Turn.of_map ht2
      have hmlt := hm.lt
      obtain ⟨u0, u1, u2, u3, u4, u5, u6⟩ := seven_cells hT1
      have hbx1 := hbx.below hb1r
      have hbx2 : BoxS W.heap.size 1 (some ⟨b, 0, none⟩) 2 2 w2 := hbx1.turn htt (by have := HMB.out; omega) (by have := HMB.out; omega)
      have hbk2 : w2.heap[b]? = some (.cells mCells 91 (0, 0)) := (htt.block b (Nat.lt_of_lt_of_le (Array.getElem?_eq_some_iff.1 hbk).1 hb1r.size) (by have := HMB.out; have := HBL.out; omega)).trans (blk_below hbk hb1r)
      have hne2 : ¬ wr.heap.size = mB := by omega
      have hT2 : w2.heap[wr.heap.size]? = some (.cells #[.string (mkS peopleB), .int .i64 5, .bool false, .int .i64 0, .string ⟨#[]⟩, .slice none 0 0, .slice none 0 0] 91) := (htt.block _ (Array.getElem?_eq_some_iff.1 hT1).1 hne2).trans hT1
      obtain ⟨p0, p1, p2, p3, p4, p5, p6⟩ := seven_cells hT2
      obtain ⟨q0, q1, q2, q3, q4, q5, q6⟩ := hbx2
      have hbl2 : Below W.heap.size W w2 := (hbr.trans (hb1r.mono hbr.size)).trans (htt.below (fun k hk => by have := HMB.out; omega) (Nat.le_trans hbr.size hb1r.size))
      have HM3 := Aside0.mk hm3
      have HBX2 := Aside0.mk (show BoxS W.heap.size 1 (some ⟨b, 0, none⟩) 2 2 w2 from ⟨q0, q1, q2, q3, q4, q5, q6⟩)
      have HBK2 := Aside0.mk hbk2
      have HBL2 := Aside0.mk hbl2
      have HSRC := Aside0.mk (m_cells hbk)
      have hrow := HSRC.out.1
      obtain ⟨a0, a1, a2, a3, a4, a5, a6⟩ := hrow
      clear hm hm1 hm2 hm3 ht2 htt hbx hbx1 hbk hbk2 hbl2 hT1 hT2 hb1r hbr hsz hmlt hne2
      subst hw1r
      go_wp2_with fail
      (with_reducible refine (valid98 peopleB _ (by decide) (by decide)).mono ?_)
      rintro e w' ⟨rfl, hw⟩
      obtain rfl := hw.symm
      go_wp2_with fail
      refine (may73_mt _).mono ?_
      rintro e w4 ⟨rfl, hb4⟩
      have HFIN := Aside0.mk (And.intro (HM3.out.below hb4) (And.intro (HBX2.out.below hb4) (And.intro (HBL2.out.trans (hb4.mono HBL2.out.size)) (blk_below HBK2.out hb4))))
      clear hb4
      go_wp2_with fail
      go_roundw
      case measure => simp [intOf]
      case rel => exact ⟨1, _, .inr (.inl ⟨rfl, rfl⟩), rfl, HFIN.out.1, HFIN.out.2.1, HFIN.out.2.2.1, HFIN.out.2.2.2⟩
    · have hsz : (mkS groupsB).size ≤ maxLen := by rw [mkS_size]; decide
      obtain ⟨w1r, hw1r⟩ : ∃ w1r, w1r = wr.alloc (.cells #[.string (mkS groupsB), .int .i64 5, .bool false, .int .i64 0, .string ⟨#[]⟩, .slice none 0 0, .slice none 0 0] 91) := ⟨_, rfl⟩
      have hb1r : Below wr.heap.size wr w1r := by rw [hw1r]; exact al_below _ (Below.refl _ _)
      have hT1 : w1r.heap[wr.heap.size]? = some (.cells #[.string (mkS groupsB), .int .i64 5, .bool false, .int .i64 0, .string ⟨#[]⟩, .slice none 0 0, .slice none 0 0] 91) := by rw [hw1r]; exact al_new _ rfl
      have hm1 := hm.below hb1r
      have l1 := hm1.look1 Tryz.underlying63 (z3 w1r) hsz
      rw [show (mkS groupsB).data.toList = groupsB from bz_mkS _, show alook ([(peopleB, .int .i64 1)] : List (B × Value)) groupsB = none from by rfl] at l1
      obtain ⟨w2, hrun, hm2, ht2⟩ := hm1.store Tryz.underlying63 (by unfold maxLen; simp) hsz (.int .i64 1)
      have l2 := hm2.look1 Tryz.underlying63 (z3 w2) hsz
      rw [show (mkS groupsB).data.toList = groupsB from bz_mkS _, alook_put, if_pos rfl] at l2
      have hm3 := hm2.norm
      rw [show (mkS groupsB).data.toList = groupsB from bz_mkS _] at hm3
      simp only [Option.getD_some, Option.getD_none] at l1 l2
      have htt := Turn.of_map ht2
      have hmlt := hm.lt
      obtain ⟨u0, u1, u2, u3, u4, u5, u6⟩ := seven_cells hT1
      have hbx1 := hbx.below hb1r
      have hbx2 : BoxS W.heap.size 1 (some ⟨b, 0, none⟩) 2 2 w2 := hbx1.turn htt (by have := HMB.out; omega) (by have := HMB.out; omega)
      have hbk2 : w2.heap[b]? = some (.cells mCells 91 (0, 0)) := (htt.block b (Nat.lt_of_lt_of_le (Array.getElem?_eq_some_iff.1 hbk).1 hb1r.size) (by have := HMB.out; have := HBL.out; omega)).trans (blk_below hbk hb1r)
      have hne2 : ¬ wr.heap.size = mB := by omega
      have hT2 : w2.heap[wr.heap.size]? = some (.cells #[.string (mkS groupsB), .int .i64 5, .bool false, .int .i64 0, .string ⟨#[]⟩, .slice none 0 0, .slice none 0 0] 91) := (htt.block _ (Array.getElem?_eq_some_iff.1 hT1).1 hne2).trans hT1
      obtain ⟨p0, p1, p2, p3, p4, p5, p6⟩ := seven_cells hT2
      obtain ⟨q0, q1, q2, q3, q4, q5, q6⟩ := hbx2
      have hbl2 : Below W.heap.size W w2 := (hbr.trans (hb1r.mono hbr.size)).trans (htt.below (fun k hk => by have := HMB.out; omega) (Nat.le_trans hbr.size hb1r.size))
      have HM3 := Aside0.mk hm3
      have HBX2 := Aside0.mk (show BoxS W.heap.size 1 (some ⟨b, 0, none⟩) 2 2 w2 from ⟨q0, q1, q2, q3, q4, q5, q6⟩)
      have HBK2 := Aside0.mk hbk2
      have HBL2 := Aside0.mk hbl2
      have HSRC := Aside0.mk (m_cells hbk)
      have hrow := HSRC.out.2
      obtain ⟨a0, a1, a2, a3, a4, a5, a6⟩ := hrow
      clear hm hm1 hm2 hm3 ht2 htt hbx hbx1 hbk hbk2 hbl2 hT1 hT2 hb1r hbr hsz hmlt hne2
      subst hw1r
      go_wp2_with fail
      (with_reducible refine (valid98 groupsB _ (by decide) (by decide)).mono ?_)
      rintro e w' ⟨rfl, hw⟩
      obtain rfl := hw.symm
      go_wp2_with fail
      refine (may73_mt _).mono ?_
      rintro e w4 ⟨rfl, hb4⟩
      have HFIN := Aside0.mk (And.intro (HM3.out.below hb4) (And.intro (HBX2.out.below hb4) (And.intro (HBL2.out.trans (hb4.mono HBL2.out.size)) (blk_below HBK2.out hb4))))
      clear hb4
      go_wp2_with fail
      go_roundw
      case measure => simp [intOf]
      case rel => exact ⟨2, _, .inr (.inr rfl), rfl, HFIN.out.1, HFIN.out.2.1, HFIN.out.2.2.1, HFIN.out.2.2.2⟩
    · obtain ⟨s0, s1, s2, s3, s4, s5, s6⟩ := hbx
      have HBR := Aside0.mk hbr
      clear hm hbr hbk
      go_wp2_with fail
      (with_reducible refine (contains99 _ _).mono ?_)
      rintro e w' ⟨rfl, hw⟩
      obtain rfl := hw.symm
      go_wp2_with fail
      go_ret
      exact ⟨rfl, HBR.out⟩
end Go.Proofs.YtflioeiklcnncaaGreatDoor.Ri

set_option linter.unusedVariables false
set_option linter.unusedSimpArgs false
namespace Go.Proofs.YtflioeiklcnncaaGreatDoor.Ri
open Go.RowKit Go.Maps Go.Sort Go.Proofs.YtflioeiklcnncaaGreatDoorW.PrintWords Go.Proofs.YtflioeiklcnncaaGreatDoor.PRing

theorem n_lit8 {w : World} {b : Nat} {x : Int} {ok : Nat → Prop} {base : Nat} (h : w.heap[b]? = some (.cells #[.int .u8 x] 5 (0, 0))) (hb : base ≤ b) (hok : ok b) : Kd.N (Kd.int .u8) 5 w base ok (.slice (some ⟨b, 0, none⟩) 1 1) [x] :=
  Kd.R_N (Kd.R_of_own (enc := Value.int .u8) (h1 := fun _ => rfl) (xs := [x]) ⟨rfl, .inr ⟨b, 1, #[.int .u8 x], rfl, hb, h, Nat.le_refl _, by decide, rfl, rfl⟩⟩ (fun k hk => by simp only [Value.ownBlock, Option.some.injEq] at hk; rw [← hk]; exact hok))
set_option maxRecDepth 100000 in
set_option maxHeartbeats 4000000 in
theorem quoted76 (l : B) (W : World) (hl : l.length ≤ 100) (hc : ∀ c ∈ l, 32 ≤ c.toNat ∧ c.toNat ≠ 34 ∧ c.toNat ≠ 92) : Calls Tryz.prog 76 #[.string (mkS l)] W fun e w' => e = .returned (.string (mkS (34 :: l ++ [34]))) ∧ Below W.heap.size W w' := by
  have HC := Aside0.mk hc
  have hsz : (mkS l).size = l.length := mkS_size l
  have HSZ := Aside0.mk hsz
  have hs100 : (mkS l).size ≤ 100 := by omega
  clear hc hsz
  go_enter Tryz.func76, Tryz.ntmps76
  go_wp2_with fail
  have HN1 := Aside0.mk (show Kd.N (Kd.int .u8) 5 (W.alloc (.cells #[.int .u8 34] 5)) W.heap.size (fun b => W.heap.size ≤ b) (.slice (some ⟨W.heap.size, 0, none⟩) 1 1) (ints (34 :: l.take 0)) from n_lit8 (al_new _ rfl) (Nat.le_refl _) (Nat.le_refl _))
  go_loopw [9, 3] (fun i v wr => ∃ k : Nat, k ≤ (mkS l).size ∧ i = .int .i64 k ∧ Kd.N (Kd.int .u8) 5 wr W.heap.size (fun b => W.heap.size ≤ b) v (ints (34 :: l.take k)) ∧ Below W.heap.size W wr) (fun i _ _ => (mkS l).size - (intOf i).toNat)
  case atStart => exact ⟨0, Nat.zero_le _, rfl, HN1.out, al_below _ (Below.refl _ _)⟩
  case round =>
    obtain ⟨k, hk, rfl, hN, hb⟩ := hrel
    have HN := Aside0.mk hN
    have HB := Aside0.mk hb
    clear hN hb
    by_cases hlt : k < (mkS l).size
    · have hkl : k < l.length := by rw [← HSZ.out]; exact hlt
      have he : (mkS l)[k]'hlt = l[k] := rfl
      have hcc := HC.out l[k] (List.getElem_mem hkl)
      have h34 : ((((mkS l)[k]'hlt).toNat : Int) == 34) = false := by rw [he]; simp; omega
      have h92 : ((((mkS l)[k]'hlt).toNat : Int) == 92) = false := by rw [he]; simp; omega
      have h32 : ¬ ((((mkS l)[k]'hlt).toNat : Int) < 32) := by rw [he]; omega
      have HE := Aside0.mk he
      have hlen : (34 :: l.take k).length ≤ 101 := by simp; omega
      clear he hcc
      go_wp2_with (at_builtin; refine stop_at ?_)
      unfold Stop
      refine Kd.N_append (Kd.int .u8) (w0 := W) W.heap.size rfl _ _ 24 5 _ 1 rfl Tryz.underlying24 info5 rfl (by decide) (by decide) _ (ints (34 :: l.take k)) ((((mkS l)[k]'hlt).toNat : Int)) [.int .u8 ((((mkS l)[k]'hlt).toNat : Int))] (fun b => W.heap.size ≤ b) (fun _ => False) rfl rfl ?hp1 ?hok1 ?fresh1 ?HO1 ?HB1 ?hbase1 ?hl1 ?_
      case hp1 => exact fun _ _ => rfl
      case hok1 => exact fun b hb => hb.elim
      case fresh1 => exact fun b hb => Nat.le_trans HB.out.size hb
      case HO1 => exact HN.out
      case HB1 => exact HB.out
      case hbase1 => exact HB.out.size
      case hl1 => rw [ints_length]; omega
      intro v4 w4 hN4 hB4 hg4 hat4
      have HN4 := Aside0.mk (show Kd.N (Kd.int .u8) 5 w4 W.heap.size (fun b => W.heap.size ≤ b) v4 (ints (34 :: l.take (k + 1))) by
        have : ints (34 :: l.take (k + 1)) = ints (34 :: l.take k) ++ [((((mkS l)[k]'hlt).toNat : Int))] := by
          rw [HE.out, List.take_succ_eq_append_getElem hkl]
          simp only [ints, List.map_cons, List.map_append, List.map_nil, List.cons_append]
        rw [this]
        exact hN4)
      have HB4 := Aside0.mk hB4
      clear hN4 hB4 hg4 hat4
      go_wp2_with fail
      exact ⟨⟨k + 1, by omega, by go_num, HN4.out, HB4.out⟩, by simp [intOf]; omega⟩
    · obtain rfl : k = (mkS l).size := by omega
      have hlen : (34 :: l.take (mkS l).size).length ≤ 101 := by simp; omega
      go_wp2_with (at_builtin; refine stop_at ?_)
      unfold Stop
      refine Kd.N_append (Kd.int .u8) (w0 := W) W.heap.size rfl _ _ 24 5 _ 1 rfl Tryz.underlying24 info5 rfl (by decide) (by decide) _ (ints (34 :: l.take (mkS l).size)) 34 [.int .u8 34] (fun b => W.heap.size ≤ b) (fun _ => False) rfl rfl ?hp2 ?hok2 ?fresh2 ?HO2 ?HB2 ?hbase2 ?hl2 ?_
      case hp2 => exact fun _ _ => rfl
      case hok2 => exact fun b hb => hb.elim
      case fresh2 => exact fun b hb => Nat.le_trans HB.out.size hb
      case HO2 => exact HN.out
      case HB2 => exact HB.out
      case hbase2 => exact HB.out.size
      case hl2 => rw [ints_length]; omega
      intro v4 w4 hN4 hB4 hg4 hat4
      have hv : Bts w4 (fun b => W.heap.size ≤ b) v4 (34 :: l ++ [34]) := by
        have h1 := Kd.N_V (base' := 0) hN4
        have h2 : ints (34 :: l.take (mkS l).size) ++ [34] = ints (34 :: l ++ [34]) := by
          rw [HSZ.out, List.take_length]
          simp [ints]
        rw [h2] at h1
        obtain ⟨A5, c5, e5, hl5, hf5⟩ := h1
        exact ⟨A5, c5, e5, hl5, hf5⟩
      have hcv := conv_bytes hv (by simp)
      have HB4 := Aside0.mk hB4
      clear hN4 hB4 hg4 hat4 hv
      go_wp2_with fail
      go_ret
      exact ⟨rfl, HB4.out⟩
def objB (x : B) : B := [123] ++ x ++ [125]
theorem bz_append (a b : ByteArray) : bz (a ++ b) = bz a ++ bz b := by
  simp [bz]
set_option maxRecDepth 100000 in
set_option maxHeartbeats 4000000 in
theorem may66_v {W : World} {b : Nat} (h : W.heap[b]? = some (.cells mCells 91 (0, 0))) : Calls Tryz.prog 66 #[vMap (some ⟨b, 0, none⟩) 2 2] W fun e w' => e = .returned (.bool true) ∧ Below W.heap.size W w' := by
  have H := Aside0.mk h
  clear h
  unfold vMap
  go_enter Tryz.func66, Tryz.ntmps66
  go_wp2_with fail
  refine (may73_v (al_old _ H.out)).mono ?_
  rintro e w' ⟨rfl, hb⟩
  have HB := Aside0.mk hb
  clear hb
  go_wp2_with fail
  go_ret
  exact ⟨rfl, below3 (Below.refl _ _) (al_below _ (Below.refl _ _)) HB.out⟩
set_option maxRecDepth 100000 in
set_option maxHeartbeats 4000000 in
theorem written67_mt (W : World) : Calls Tryz.prog 67 #[mtV] W fun e w' => e = .returned (.string (mkS (objB []))) ∧ Below W.heap.size W w' := by
  unfold mtV vMap
  go_enter Tryz.func67, Tryz.ntmps67
  go_wp2_with fail
  go_loopw [49, 3] (fun i v wr => i = .int .i64 0 ∧ v = .slice none 0 0 ∧ wr = W.alloc (.cells (vCells none 0 0) 88)) (fun _ _ _ => 0)
  case atStart => exact ⟨rfl, rfl, rfl⟩
  case round =>
    obtain ⟨rfl, rfl, rfl⟩ := hrel
    go_wp2_with fail
    (with_reducible refine (Tryz.strings_Join_none none 0 _ _).mono ?_)
    rintro e w' ⟨rfl, hw⟩
    obtain rfl := hw.symm
    go_wp2_with fail
    go_ret
    exact ⟨rfl, al_below _ (Below.refl _ _)⟩
def qB (nm : B) : B := 34 :: nm ++ [34]
def oB : B := objB []
def itemB (nm : B) : B := qB nm ++ [58] ++ oB
theorem quotedQ (l : B) (W : World) (hl : l.length ≤ 100) (hc : ∀ c ∈ l, 32 ≤ c.toNat ∧ c.toNat ≠ 34 ∧ c.toNat ≠ 92) : Calls Tryz.prog 76 #[.string (mkS l)] W fun e w' => e = .returned (.string (mkS (qB l))) ∧ Below W.heap.size W w' := quoted76 l W hl hc
theorem writtenO (W : World) : Calls Tryz.prog 67 #[mtV] W fun e w' => e = .returned (.string (mkS oB)) ∧ Below W.heap.size W w' := written67_mt W
theorem blk_grown {w w' : World} {row : Option Nat} {b : Nat} {o : Obj} (hg : w.grownBy w' row) (h : w.heap[b]? = some o) (hne : row ≠ some b) : w'.heap[b]? = some o := (hg.block b (Array.getElem?_eq_some_iff.1 h).1 (fun e => hne e.symm)).trans h
theorem join_str : ({ data := #[123] } : ByteArray) ++ ({ data := (Lib.join [(mkS (itemB peopleB)).data.toList, (mkS (itemB groupsB)).data.toList] [44]).toArray } : ByteArray) ++ ({ data := #[125] } : ByteArray) = mkS (objB (itemB peopleB ++ [44] ++ itemB groupsB)) := by
  apply bz_inj
  rw [bz_append, bz_append, bz_mkS]
  rfl
theorem item_str (nm : B) : mkS (qB nm) ++ ⟨#[58]⟩ ++ mkS oB = mkS (itemB nm) := by
  apply bz_inj
  rw [bz_append, bz_append, bz_mkS, bz_mkS, bz_mkS]
  rfl
set_option maxRecDepth 100000 in
set_option maxHeartbeats 8000000 in
theorem written67_v {W : World} {b : Nat} (h : W.heap[b]? = some (.cells mCells 91 (0, 0))) : Calls Tryz.prog 67 #[vMap (some ⟨b, 0, none⟩) 2 2] W fun e w' => e = .returned (.string (mkS (objB (itemB peopleB ++ [44] ++ itemB groupsB)))) ∧ Below W.heap.size W w' := by
  have HBL := Aside0.mk (Array.getElem?_eq_some_iff.1 h).1
  have H := Aside0.mk h
  clear h
  unfold vMap
  go_enter Tryz.func67, Tryz.ntmps67
  go_wp2_with fail
  go_loopw [49, 3] (fun i v wr => ∃ (x : Int) (l : List B), ((x = 0 ∧ l = []) ∨ (x = 1 ∧ l = [itemB peopleB]) ∨ (x = 2 ∧ l = [itemB peopleB, itemB groupsB])) ∧ i = .int .i64 x ∧ Own wr v l ∧ (∀ k, v.ownBlock = some k → W.heap.size ≤ k) ∧ Below W.heap.size W wr) (fun i _ _ => (2 - intOf i).toNat)
  case atStart => exact ⟨0, [], .inl ⟨rfl, rfl⟩, rfl, Own.nil _, fun k hk => by simp [Value.ownBlock] at hk, al_below _ (Below.refl _ _)⟩
  case round =>
    obtain ⟨x, l, hx, rfl, hq, hd, hbr⟩ := hrel
    have hbl0 := HBL.out
    have hbl : b < wr.heap.size := Nat.lt_of_lt_of_le hbl0 hbr.size
    have hbne : ¬ (b = wr.heap.size) := by omega
    have HSRC := Aside0.mk (m_cells (blk_below H.out hbr))
    have HQ := Aside0.mk hq
    have HD := Aside0.mk hd
    have HBR := Aside0.mk hbr
    clear hq hd hbr
    rcases hx with ⟨rfl, rfl⟩ | ⟨rfl, rfl⟩ | ⟨rfl, rfl⟩
    · obtain ⟨a0, a1, a2, a3, a4, a5, a6⟩ := HSRC.out.1
      have hul := HQ.out.lt
      go_wp2_with fail
      obtain ⟨w1r, hw1r⟩ : ∃ w1r, w1r = wr.alloc (.cells #[.string (mkS peopleB), .int .i64 5, .bool false, .int .i64 0, .string ⟨#[]⟩, .slice none 0 0, .slice none 0 0] 91) := ⟨_, rfl⟩
      have hb1r : Below wr.heap.size wr w1r := by rw [hw1r]; exact al_below _ (Below.refl _ _)
      have hT1 : w1r.heap[wr.heap.size]? = some (.cells #[.string (mkS peopleB), .int .i64 5, .bool false, .int .i64 0, .string ⟨#[]⟩, .slice none 0 0, .slice none 0 0] 91) := by rw [hw1r]; exact al_new _ rfl
      obtain ⟨t0, t1, t2, t3, t4, t5, t6⟩ := seven_cells hT1
      have HU := Aside0.mk hT1
      have HB1R := Aside0.mk hb1r
      have HN := Aside0.mk (show ∀ w' : World, Below wr.heap.size wr w' → Own w' u3 [] from fun w' hb => HQ.out.step (fun k hk => hb.block k (hul k hk)))
      have HNE := Aside0.mk (show u3.ownBlock ≠ some wr.heap.size from fun e => by have := hul _ e; omega)
      rw [← hw1r]
      clear hw1r hT1 hb1r a0 a1 a2 a3 a4 a5 a6 hul
      have z1 : ¬ 9223372036854775807 < (mkS (qB peopleB)).size + 1 := by rw [mkS_size]; decide
      have z2 : ¬ 9223372036854775807 < (mkS (qB peopleB)).size + 1 + (mkS oB).size := by rw [mkS_size, mkS_size]; decide
      go_region_held3 (fun w' => w'.cell? ⟨wr.heap.size, 0, none⟩ = some (.string (mkS peopleB)) ∧ w'.cell? ⟨wr.heap.size, 1, none⟩ = some (.int .i64 5) ∧ w'.cell? ⟨wr.heap.size, 2, none⟩ = some (.bool false) ∧ w'.cell? ⟨wr.heap.size, 3, none⟩ = some (.int .i64 0) ∧ w'.cell? ⟨wr.heap.size, 4, none⟩ = some (.string ⟨#[]⟩) ∧ w'.cell? ⟨wr.heap.size, 5, none⟩ = some (.slice none 0 0) ∧ w'.cell? ⟨wr.heap.size, 6, none⟩ = some (.slice none 0 0))
        (first | go_keep | exact seven_cells (blk_below (blk_below HU.out (Below.refl _ _).drew) hb3) | exact seven_cells (blk_below (blk_below (blk_below HU.out (Below.refl _ _).drew) hb3) hb4) | exact seven_cells (al_old _ (blk_below (blk_below (blk_below HU.out (Below.refl _ _).drew) hb3) hb4)) | exact seven_cells (blk_grown hg5 (blk_below (blk_below (blk_below HU.out (Below.refl _ _).drew) hb3) hb4) HNE.out))
        (first
          | (go_at_call 76; refine (quotedQ peopleB _ (by decide) (by decide)).mono ?_; rintro e w3 ⟨rfl, hb3⟩)
          | (go_at_call 67; refine (writtenO _).mono ?_; rintro e w4 ⟨rfl, hb4⟩)
          | (refine Kd.N_append_step Kd.string (w0 := w4) 0 (by rfl) (.tmp 53) (.tmp 62) 23 9 _ 16 (by rfl) Tryz.underlying23 info9 (by rfl) (by decide) (by decide) u3 (([] : List B).map mkS) (mkS (qB peopleB) ++ ({ data := #[58] } : ByteArray) ++ mkS oB) [.string (mkS (qB peopleB) ++ ({ data := #[58] } : ByteArray) ++ mkS oB)] (fun k => u3.ownBlock = some k ∨ w4.heap.size ≤ k) (fun _ => False) (by rfl) (by rfl) (fun _ _ => rfl) (fun _ h => h.elim) (fun k hk => .inr hk) (Kd.N_mono (HN.out w4 ((HB1R.out.trans ((Below.refl _ w1r).drew.mono HB1R.out.size)).trans ((hb3.mono (Nat.le_trans HB1R.out.size (Nat.le_refl _))).trans (hb4.mono (Nat.le_trans HB1R.out.size hb3.size))))) (fun k hk => .inl hk)) (Below.refl _ _) (Nat.zero_le _) (by simp) ?_; intro v5 w5 hN5 hB5 hg5 hat5))
      have hw4 : Below wr.heap.size wr w4 := (HB1R.out.trans ((Below.refl _ w1r).drew.mono HB1R.out.size)).trans ((hb3.mono (Nat.le_trans HB1R.out.size (Nat.le_refl _))).trans (hb4.mono (Nat.le_trans HB1R.out.size hb3.size)))
      have hW4 : Below W.heap.size W w4 := HBR.out.trans (hw4.mono HBR.out.size)
      have hW5 : Below W.heap.size W w5 := hW4.trans ((turn_grown hg5).below (fun k hk => HD.out k hk) hW4.size)
      have hd5 : ∀ k, v5.ownBlock = some k → W.heap.size ≤ k := fun k hk => by
        rcases hat5 with h1 | ⟨b', h1, h2⟩
        · rw [h1] at hk; exact HD.out k hk
        · rw [h1] at hk; injection hk with hk; have := hW4.size; omega
      have hown : Own w5 v5 [itemB peopleB] := by
        rw [item_str] at hN5
        exact own_of (base := 0) (l := [itemB peopleB]) hN5
      have HO5 := Aside0.mk hown
      have HD5 := Aside0.mk hd5
      have HW5 := Aside0.mk hW5
      clear hN5 hB5 hg5 hat5 hw4 hW4 hW5 hd5 hown hb3 hb4
      go_wp2_with fail
      go_roundw
      case measure => simp [intOf]
      case rel => exact ⟨1, _, .inr (.inl ⟨rfl, rfl⟩), rfl, HO5.out, HD5.out, HW5.out⟩
    · obtain ⟨a0, a1, a2, a3, a4, a5, a6⟩ := HSRC.out.2
      have hul := HQ.out.lt
      go_wp2_with fail
      obtain ⟨w1r, hw1r⟩ : ∃ w1r, w1r = wr.alloc (.cells #[.string (mkS groupsB), .int .i64 5, .bool false, .int .i64 0, .string ⟨#[]⟩, .slice none 0 0, .slice none 0 0] 91) := ⟨_, rfl⟩
      have hb1r : Below wr.heap.size wr w1r := by rw [hw1r]; exact al_below _ (Below.refl _ _)
      have hT1 : w1r.heap[wr.heap.size]? = some (.cells #[.string (mkS groupsB), .int .i64 5, .bool false, .int .i64 0, .string ⟨#[]⟩, .slice none 0 0, .slice none 0 0] 91) := by rw [hw1r]; exact al_new _ rfl
      obtain ⟨t0, t1, t2, t3, t4, t5, t6⟩ := seven_cells hT1
      have HU := Aside0.mk hT1
      have HB1R := Aside0.mk hb1r
      have HN := Aside0.mk (show ∀ w' : World, Below wr.heap.size wr w' → Own w' u3 [itemB peopleB] from fun w' hb => HQ.out.step (fun k hk => hb.block k (hul k hk)))
      have HNE := Aside0.mk (show u3.ownBlock ≠ some wr.heap.size from fun e => by have := hul _ e; omega)
      rw [← hw1r]
      clear hw1r hT1 hb1r a0 a1 a2 a3 a4 a5 a6 hul
      have z1 : ¬ 9223372036854775807 < (mkS (qB groupsB)).size + 1 := by rw [mkS_size]; decide
      have z2 : ¬ 9223372036854775807 < (mkS (qB groupsB)).size + 1 + (mkS oB).size := by rw [mkS_size, mkS_size]; decide
      go_region_held3 (fun w' => w'.cell? ⟨wr.heap.size, 0, none⟩ = some (.string (mkS groupsB)) ∧ w'.cell? ⟨wr.heap.size, 1, none⟩ = some (.int .i64 5) ∧ w'.cell? ⟨wr.heap.size, 2, none⟩ = some (.bool false) ∧ w'.cell? ⟨wr.heap.size, 3, none⟩ = some (.int .i64 0) ∧ w'.cell? ⟨wr.heap.size, 4, none⟩ = some (.string ⟨#[]⟩) ∧ w'.cell? ⟨wr.heap.size, 5, none⟩ = some (.slice none 0 0) ∧ w'.cell? ⟨wr.heap.size, 6, none⟩ = some (.slice none 0 0))
        (first | go_keep | exact seven_cells (blk_below (blk_below HU.out (Below.refl _ _).drew) hb3) | exact seven_cells (blk_below (blk_below (blk_below HU.out (Below.refl _ _).drew) hb3) hb4) | exact seven_cells (al_old _ (blk_below (blk_below (blk_below HU.out (Below.refl _ _).drew) hb3) hb4)) | exact seven_cells (blk_grown hg5 (blk_below (blk_below (blk_below HU.out (Below.refl _ _).drew) hb3) hb4) HNE.out))
        (first
          | (go_at_call 76; refine (quotedQ groupsB _ (by decide) (by decide)).mono ?_; rintro e w3 ⟨rfl, hb3⟩)
          | (go_at_call 67; refine (writtenO _).mono ?_; rintro e w4 ⟨rfl, hb4⟩)
          | (refine Kd.N_append_step Kd.string (w0 := w4) 0 (by rfl) (.tmp 53) (.tmp 62) 23 9 _ 16 (by rfl) Tryz.underlying23 info9 (by rfl) (by decide) (by decide) u3 (([itemB peopleB] : List B).map mkS) (mkS (qB groupsB) ++ ({ data := #[58] } : ByteArray) ++ mkS oB) [.string (mkS (qB groupsB) ++ ({ data := #[58] } : ByteArray) ++ mkS oB)] (fun k => u3.ownBlock = some k ∨ w4.heap.size ≤ k) (fun _ => False) (by rfl) (by rfl) (fun _ _ => rfl) (fun _ h => h.elim) (fun k hk => .inr hk) (Kd.N_mono (HN.out w4 ((HB1R.out.trans ((Below.refl _ w1r).drew.mono HB1R.out.size)).trans ((hb3.mono (Nat.le_trans HB1R.out.size (Nat.le_refl _))).trans (hb4.mono (Nat.le_trans HB1R.out.size hb3.size))))) (fun k hk => .inl hk)) (Below.refl _ _) (Nat.zero_le _) (by simp) ?_; intro v5 w5 hN5 hB5 hg5 hat5))
      have hw4 : Below wr.heap.size wr w4 := (HB1R.out.trans ((Below.refl _ w1r).drew.mono HB1R.out.size)).trans ((hb3.mono (Nat.le_trans HB1R.out.size (Nat.le_refl _))).trans (hb4.mono (Nat.le_trans HB1R.out.size hb3.size)))
      have hW4 : Below W.heap.size W w4 := HBR.out.trans (hw4.mono HBR.out.size)
      have hW5 : Below W.heap.size W w5 := hW4.trans ((turn_grown hg5).below (fun k hk => HD.out k hk) hW4.size)
      have hd5 : ∀ k, v5.ownBlock = some k → W.heap.size ≤ k := fun k hk => by
        rcases hat5 with h1 | ⟨b', h1, h2⟩
        · rw [h1] at hk; exact HD.out k hk
        · rw [h1] at hk; injection hk with hk; have := hW4.size; omega
      have hown : Own w5 v5 [itemB peopleB, itemB groupsB] := by
        rw [item_str] at hN5
        exact own_of (base := 0) (l := [itemB peopleB, itemB groupsB]) hN5
      have HO5 := Aside0.mk hown
      have HD5 := Aside0.mk hd5
      have HW5 := Aside0.mk hW5
      clear hN5 hB5 hg5 hat5 hw4 hW4 hW5 hd5 hown hb3 hb4
      go_wp2_with fail
      go_roundw
      case measure => simp [intOf]
      case rel => exact ⟨2, _, .inr (.inr ⟨rfl, rfl⟩), rfl, HO5.out, HD5.out, HW5.out⟩
    · obtain ⟨g, c, rfl⟩ := HQ.out.form (by simp)
      obtain ⟨A9, c9, e9, hl9, _⟩ := HQ.out.V
      injection e9 with e1 e2 e3
      subst e3
      have hg0 := HQ.out.elem (i := 0) (by simp) rfl
      have hg1 := HQ.out.elem (i := 1) (by simp) rfl
      have hj := Tryz.strings_Join g 0 c [mkS (itemB peopleB), mkS (itemB groupsB)] ⟨#[44]⟩ wr (fun j x hx => by
        match j, hx with
        | 0, hx => simp only [List.getElem?_cons_zero, Option.some.injEq] at hx; subst hx; exact hg0.1
        | 1, hx => simp only [List.getElem?_cons_succ, List.getElem?_cons_zero, Option.some.injEq] at hx; subst hx; exact hg1.1
        | j + 2, hx => simp at hx) (World.block_lt_of_cell? _ _ hg0.1) (by decide) (by simpa using hl9) (by decide)
      have HJ := Aside0.mk hj
      clear hj hg0 hg1 e1 hl9
      go_wp2_with fail
      refine HJ.out.mono ?_
      rintro e w' ⟨rfl, hb⟩
      have HB9 := Aside0.mk (HBR.out.trans (hb.mono HBR.out.size))
      clear hb
      go_wp2_with fail
      go_ret
      exact ⟨congrArg (fun x => Ending.returned (Value.string x)) join_str, HB9.out⟩
/-- What the empty ring is as a text. -/
def emptyB : B := objB (itemB peopleB ++ [44] ++ itemB groupsB)
theorem emptyB_is : emptyB = [123, 34, 112, 101, 111, 112, 108, 101, 34, 58, 123, 125, 44, 34, 103, 114, 111, 117, 112, 115, 34, 58, 123, 125, 125] := by rfl
set_option maxRecDepth 100000 in
set_option maxHeartbeats 4000000 in
theorem Write50 {W : World} {b : Nat} (h : W.heap[b]? = some (.cells mCells 91 (0, 0))) : Calls Tryz.prog 50 #[vMap (some ⟨b, 0, none⟩) 2 2] W fun e w' => e = .returned (.string (mkS emptyB)) ∧ Below W.heap.size W w' := by
  have H := Aside0.mk h
  clear h
  unfold vMap
  go_enter Tryz.func50, Tryz.ntmps50
  go_wp2_with fail
  obtain ⟨w1, hw1⟩ : ∃ w1, w1 = W.alloc (.cells (vCells (some ⟨b, 0, none⟩) 2 2) 88) := ⟨_, rfl⟩
  have hb1 : Below W.heap.size W w1 := by rw [hw1]; exact al_below _ (Below.refl _ _)
  have hx1 : w1.heap[W.heap.size]? = some (.cells (vCells (some ⟨b, 0, none⟩) 2 2) 88) := by rw [hw1]; exact al_new _ rfl
  rw [show W.alloc (.cells #[.int .i64 5, .bool false, .int .i64 0, .string ⟨#[]⟩, .slice none 0 0, .slice (some ⟨b, 0, none⟩) 2 2] 88) = w1 from hw1.symm]
  clear hw1
  refine (may66_v (blk_below H.out hb1)).mono ?_
  rintro e w2 ⟨rfl, hb2⟩
  obtain ⟨x0, x1, x2, x3, x4, x5⟩ := six_agg (blk_below hx1 hb2)
  have HK := Aside0.mk (blk_below (blk_below H.out hb1) hb2)
  have HB2 := Aside0.mk (hb1.trans (hb2.mono hb1.size))
  clear hb1 hb2 hx1
  go_wp2_with fail
  refine (written67_v HK.out).mono ?_
  rintro e w3 ⟨rfl, hb3⟩
  have HB3 := Aside0.mk (HB2.out.trans (hb3.mono HB2.out.size))
  clear hb3
  go_wp2_with fail
  go_ret
  exact ⟨rfl, HB3.out⟩
set_option maxRecDepth 100000 in
set_option maxHeartbeats 4000000 in
theorem Write23 {W : World} {ok : Nat → Prop} {r bp bg : Nat} (h : RingAt W ok r bp bg ⟨[], []⟩) : Calls Tryz.prog 23 #[.pointer (some ⟨r, 0, none⟩)] W fun e w' => e = .returned (.string (mkS emptyB)) ∧ Below W.heap.size W w' := by
  have HR := Aside0.mk h
  clear h
  go_enter Tryz.func23, Tryz.ntmps23
  go_wp2_with fail
  obtain ⟨w1, hw1⟩ : ∃ w1, w1 = (W.alloc (.cells (vCells none 0 0) 88)).alloc (.cells (vCells none 0 0) 88) := ⟨_, rfl⟩
  have hb1 : Below W.heap.size W w1 := by rw [hw1]; exact al_below _ (al_below _ (Below.refl _ _))
  have hx1 : w1.heap[W.heap.size]? = some (.cells (vCells none 0 0) 88) := by rw [hw1]; exact al_old _ (al_new _ rfl)
  have hy1 : w1.heap[W.heap.size + 1]? = some (.cells (vCells none 0 0) 88) := by rw [hw1]; exact al_new _ (al_size _ rfl)
  rw [show (W.alloc (.cells #[.int .i64 5, .bool false, .int .i64 0, .string ⟨#[]⟩, .slice none 0 0, .slice none 0 0] 88)).alloc (.cells #[.int .i64 5, .bool false, .int .i64 0, .string ⟨#[]⟩, .slice none 0 0, .slice none 0 0] 88) = w1 from hw1.symm]
  clear hw1
  have hr1 := HR.out.below hb1
  have hpp := People_calls hr1 (by simp) (fun p hp => by simp at hp)
  (with_reducible refine hpp.mono ?_)
  rintro e w2 ⟨v2, rfl, hv2, hb2⟩
  obtain ⟨A2, c2, rfl, _, _⟩ := hv2
  have hr2 := hr1.below hb2
  have hgp := Groups_calls hr2 (by simp) (fun p hp => by simp at hp)
  have HGP := Aside0.mk hgp
  have HB2 := Aside0.mk (hb1.trans (hb2.mono hb1.size))
  have HX2 := Aside0.mk (blk_below hx1 hb2)
  have HY2 := Aside0.mk (blk_below hy1 hb2)
  clear hpp hgp hr1 hr2 hb1 hb2 hx1 hy1
  rw [List.map_nil, List.length_nil]
  go_wp2_with fail
  go_loopw [17] (fun i wr => i = .int .i64 0 ∧ wr = w2) (fun _ _ => 0)
  case atStart => exact ⟨rfl, rfl⟩
  case round =>
    obtain ⟨rfl, rfl⟩ := hrel
    go_wp2_with fail
    (with_reducible refine HGP.out.mono ?_)
    rintro e w3 ⟨v3, rfl, hv3, hb3⟩
    obtain ⟨A3, c3, rfl, _, _⟩ := hv3
    have HB3 := Aside0.mk (HB2.out.trans (hb3.mono HB2.out.size))
    have HX3 := Aside0.mk (blk_below HX2.out hb3)
    have HY3 := Aside0.mk (blk_below HY2.out hb3)
    clear hb3 HGP HB2 HX2 HY2
    rw [List.map_nil, List.length_nil]
    go_wp2_with fail
    go_loopw [37] (fun i wr => i = .int .i64 0 ∧ wr = w3) (fun _ _ => 0)
    case atStart => exact ⟨rfl, rfl⟩
    case round =>
      obtain ⟨rfl, rfl⟩ := hrel
      obtain ⟨x0, x1, x2, x3, x4, x5⟩ := six_cells HX3.out
      obtain ⟨y0, y1, y2, y3, y4, y5⟩ := six_cells HY3.out
      go_wp2_with fail
      refine (Write50 (al_new _ rfl)).mono ?_
      rintro e w' ⟨rfl, hb⟩
      have HB4 := Aside0.mk (HB3.out.trans ((al_below _ (Below.refl _ _)).mono HB3.out.size |>.trans (hb.mono (Nat.le_trans HB3.out.size (by simp)))))
      clear hb
      go_wp2_with fail
      go_ret
      exact ⟨rfl, HB4.out⟩
end Go.Proofs.YtflioeiklcnncaaGreatDoor.Ri
