/- Texts of the rings, together. -/
import Derived.Test.YtflioeiklcnncaaGreatDoorRa
import Derived.Laws.EntriesVeiled
import Derived.Deep.RegionHeld3
set_option linter.unusedVariables false
set_option linter.unusedSimpArgs false
namespace Go.Proofs.YtflioeiklcnncaaGreatDoor.Ri
open Go.RowKit Go.Maps Go.Sort Go.Proofs.YtflioeiklcnncaaGreatDoorW.PrintWords Go.Proofs.YtflioeiklcnncaaGreatDoor.PRing

/-! ### what is reached -/
def mem (s : St) (x : B) : List B := (alook s.G x).getD []
inductive Rch (s : St) (a : B) : B → Prop
  | refl : Rch s a a
  | step {x y : B} : Rch s a x → y ∈ mem s x → Rch s a y
def unv (s : St) (V : List B) : Nat := (s.G.filter fun p => decide (p.1 ∉ V)).length
structure Went (s : St) (V : List B) (a : B) (V' : List B) : Prop where
  self : a ∈ V'
  sub : ∀ x ∈ V, x ∈ V'
  shut : ∀ x ∈ V', x ∉ V → ∀ m ∈ mem s x, m ∈ V'
  back : ∀ x ∈ V', x ∈ V ∨ Rch s a x
theorem unv_mono {s : St} {V V' : List B} (h : ∀ x ∈ V, x ∈ V') : unv s V' ≤ unv s V := by
  unfold unv
  apply List.Sublist.length_le
  rw [show (s.G.filter fun p => decide (p.1 ∉ V')) = (s.G.filter fun p => decide (p.1 ∉ V)).filter fun p => decide (p.1 ∉ V') by
    rw [List.filter_filter]
    apply List.filter_congr
    intro p _
    by_cases h1 : p.1 ∈ V'
    · simp [h1]
    · have : p.1 ∉ V := fun e => h1 (h _ e)
      simp [h1, this]]
  exact List.filter_sublist
theorem unv_lt {s : St} {V : List B} {a : B} (ha : a ∉ V) (hg : ahas s.G a = true) : unv s (a :: V) + 1 ≤ unv s V := by
  unfold unv
  obtain ⟨p, hp, hk⟩ := ahas_iff.1 hg
  have : ∀ l : List (B × List B), p ∈ l → (l.filter fun p => decide (p.1 ∉ a :: V)).length + 1 ≤ (l.filter fun p => decide (p.1 ∉ V)).length := by
    intro l
    induction l with
    | nil => intro h; cases h
    | cons q r ih =>
      intro hq
      have hmono : (r.filter fun p => decide (p.1 ∉ a :: V)).length ≤ (r.filter fun p => decide (p.1 ∉ V)).length :=
        unv_mono (s := ⟨[], r⟩) (V := V) (V' := a :: V) (fun x hx => by simp [hx])
      rcases List.mem_cons.1 hq with rfl | hq
      · have h1 : decide (p.1 ∉ a :: V) = false := by simp [hk]
        have h2 : decide (p.1 ∉ V) = true := by rw [hk]; simpa using ha
        rw [List.filter_cons, List.filter_cons, h1, h2]
        simpa using hmono
      · have h0 := ih hq
        simp only [List.mem_cons] at h0 hmono ⊢
        rw [List.filter_cons, List.filter_cons]
        by_cases h2 : q.1 ∈ V
        · simp only [h2, or_true, not_true_eq_false, decide_false, Bool.false_eq_true, if_false]; exact h0
        · by_cases h1 : q.1 = a
          · simp only [h1, ha, true_or, not_true_eq_false, decide_false, Bool.false_eq_true, if_false, not_false_eq_true, decide_true, if_true, List.length_cons]
            omega
          · simp only [h1, h2, or_self, not_false_eq_true, decide_true, if_true, List.length_cons]
            omega
  exact this s.G hp

/-! ### memory -/
structure Env (W : World) (ok : Nat → Prop) (r bp bg : Nat) (s : St) (N bR bF bS bM bW mS mF : Nat) : Prop where
  ring : RingAt W ok r bp bg s
  old : ∀ k, ok k → k < N
  oldp : bp < N
  oldg : bg < N
  cR : W.cell? ⟨bR, 0, none⟩ = some (.pointer (some ⟨r, 0, none⟩))
  cF : W.cell? ⟨bF, 0, none⟩ = some (.map (some mF))
  cS : W.cell? ⟨bS, 0, none⟩ = some (.map (some mS))
  cW : W.cell? ⟨bW, 0, none⟩ = some (.func (.func 30) #[] #[.pointer (some ⟨bS, 0, none⟩), .pointer (some ⟨bM, 0, none⟩), .pointer (some ⟨bR, 0, none⟩), .pointer (some ⟨bF, 0, none⟩), .pointer (some ⟨bW, 0, none⟩)])
  nM : N ≤ bM
  nS : N ≤ mS
  nF : N ≤ mF
  d1 : mS ≠ mF ∧ mS ≠ bM ∧ mF ≠ bM
  d2 : ∀ k, k = bR ∨ k = bF ∨ k = bS ∨ k = bW → k ≠ mS ∧ k ≠ mF ∧ k ≠ bM
def S3 (bM mS mF : Nat) (k : Nat) : Prop := k = mS ∨ k = mF ∨ k = bM
theorem Env.turn {W W' : World} {ok : Nat → Prop} {r bp bg : Nat} {s : St} {N bR bF bS bM bW mS mF : Nat} (h : Env W ok r bp bg s N bR bF bS bM bW mS mF) (ht : Turn (S3 bM mS mF) W W') : Env W' ok r bp bg s N bR bF bS bM bW mS mF := by
  have hn : ∀ k, k = bR ∨ k = bF ∨ k = bS ∨ k = bW → ¬ S3 bM mS mF k := fun k hk e => by
    obtain ⟨a, b, c⟩ := h.d2 k hk
    rcases e with e | e | e
    · exact a e
    · exact b e
    · exact c e
  have hN : ∀ k, S3 bM mS mF k → N ≤ k := fun k e => by
    rcases e with rfl | rfl | rfl
    · exact h.nS
    · exact h.nF
    · exact h.nM
  exact ⟨h.ring.turn ht (fun k e => by have := hN k e; exact ⟨fun hk => by have := h.old k hk; omega, fun e => by have := h.oldp; omega, fun e => by have := h.oldg; omega⟩), h.old, h.oldp, h.oldg,
    ht.cell h.cR (hn _ (.inl rfl)), ht.cell h.cF (hn _ (.inr (.inl rfl))), ht.cell h.cS (hn _ (.inr (.inr (.inl rfl)))), ht.cell h.cW (hn _ (.inr (.inr (.inr rfl)))), h.nM, h.nS, h.nF, h.d1, h.d2⟩
theorem Env.newN {W : World} {ok : Nat → Prop} {r bp bg : Nat} {s : St} {N bR bF bS bM bW mS mF : Nat} (h : Env W ok r bp bg s N bR bF bS bM bW mS mF) : ∀ k, S3 bM mS mF k → N ≤ k := fun k e => by
  rcases e with rfl | rfl | rfl
  · exact h.nS
  · exact h.nF
  · exact h.nM

structure Now (W : World) (s : St) (bM mS mF : Nat) (V : List B) (T : Nat) : Prop where
  seen : ∃ m, MapAt W mS m.length m ∧ m.length ≤ T ∧ ∀ x, (x ∈ V → ∃ c : Int, alook m x = some (.int .i64 c) ∧ 1 ≤ c ∧ c ≤ T) ∧ (x ∉ V → alook m x = none)
  found : ∃ m, MapAt W mF m.length m ∧ m.length ≤ T ∧ ∀ x, ahas m x = true ↔ ∃ n ∈ V, (n, x) ∈ s.P
  miss : W.heap[bM]? = some (.cells #[.bool (V.any fun n => !there s n)] 4 (0, 0))

theorem nums_mkS (b : B) : strOfNums (ints b) = mkS b := by
  apply WideShapes.bytes_inj
  rw [strOfNums_data]
  simp only [ints, mkS, List.map_map]
  induction b with
  | nil => rfl
  | cons x r ih => simp_all
theorem conv_bytes {W : World} {ok : Nat → Prop} {v : Value} {b : B} (h : Bts W ok v b) (hb : 0 < b.length) : (convert 24 9 v).run Tryz.prog W = .ok (.string (mkS b)) W := by
  obtain ⟨A, c, rfl, hl, hf⟩ := h
  rw [ints_length] at hl hf ⊢
  obtain ⟨ad, rfl, _⟩ := (Kd.F_now hf).2.2 hb
  have hcell : ∀ i, i < b.length → W.cell? (ad.add i) = some (.int .u8 ((ints b).getD i 0)) := fun i hi => by
    have := Kd.foot_int (Kd.F_now hf) (i : Int) (by omega) (by omega)
    simpa [YtflioeiklcnncaaGreatDoorW.PrintWords.rd] using this
  obtain ⟨ab, ao, asp⟩ := ad
  have hsp : asp = none := by
    have h1 := hcell 0 hb
    cases asp with
    | none => rfl
    | some x => simp [World.cell?, Addr.add] at h1; split at h1 <;> simp_all
  subst hsp
  rw [← nums_mkS]
  refine run_convert_bytes_arg W 24 5 Tryz.underlying24 Tryz.underlying5 ab ao b.length c (ints b) (ints_length b) (fun i hi => ?_) 9 Tryz.underlying9
  have h1 := hcell i hi
  have ha : (⟨ab, ao, none⟩ : Addr).add i = ⟨ab, ao + i, none⟩ := by unfold Addr.add; split <;> simp_all
  rwa [ha] at h1

def FollowPost (W : World) (ok : Nat → Prop) (r bp bg : Nat) (s : St) (N bR bF bS bM bW mS mF : Nat) (V : List B) (T : Nat) (a : B) (e : Ending) (w' : World) : Prop :=
  e = .returned (.tuple #[]) ∧ Turn (S3 bM mS mF) W w' ∧ ∃ V' T', Now w' s bM mS mF V' T' ∧ Went s V a V' ∧ T' + 1001 * unv s V' ≤ T + 1001 * unv s V + 1
structure SmlP (s : St) : Prop extends Sml s where
  pts : ∀ p ∈ s.P, 0 < p.2.length
  mems : ∀ p ∈ s.G, ∀ m ∈ p.2, m.length ≤ 1000

set_option maxRecDepth 100000 in
set_option maxHeartbeats 800000 in
/-- A name that was seen: nothing more. -/
theorem follow_seen {W : World} {ok : Nat → Prop} {r bp bg : Nat} {s : St} {N bR bF bS bM bW mS mF : Nat} (E : Env W ok r bp bg s N bR bF bS bM bW mS mF) {V : List B} {T : Nat} (hN : Now W s bM mS mF V T) (hT : T ≤ 1000000000)
    (nm : ByteArray) (hn : nm.size ≤ 9223372036854775807) (hin : bz nm ∈ V) :
    Calls Tryz.prog 30 #[.string nm, .pointer (some ⟨bS, 0, none⟩), .pointer (some ⟨bM, 0, none⟩), .pointer (some ⟨bR, 0, none⟩), .pointer (some ⟨bF, 0, none⟩), .pointer (some ⟨bW, 0, none⟩)] W (FollowPost W ok r bp bg s N bR bF bS bM bW mS mF V T (bz nm)) := by
  obtain ⟨m, hm, hml, hmv⟩ := hN.seen
  obtain ⟨c, hc, hc1, hcT⟩ := (hmv (bz nm)).1 hin
  have hsz : nm.size ≤ maxLen := by unfold maxLen; omega
  have l1 := hm.look1 Tryz.underlying63 (z3 W) hsz
  rw [show nm.data.toList = bz nm from rfl, hc] at l1
  simp only [Option.getD_some] at l1
  obtain ⟨w2, hrun, hm2, ht2⟩ := hm.store Tryz.underlying63 (by unfold maxLen; omega) hsz (.int .i64 (c + 1))
  have l2 := hm2.look1 Tryz.underlying63 (z3 w2) hsz
  rw [show nm.data.toList = bz nm from rfl] at hm2 l2
  rw [alook_put, if_pos rfl] at l2
  simp only [Option.getD_some] at l2
  have hT2 : Turn (S3 bM mS mF) W w2 := (Turn.of_map ht2).mono (fun k hk => .inl hk)
  have E2 := E.turn hT2
  have cS := E.cS
  have cS2 := E2.cS
  have hpost : FollowPost W ok r bp bg s N bR bF bS bM bW mS mF V T (bz nm) (.returned (.tuple #[])) w2 := by
    refine ⟨rfl, hT2, V, T + 1, ⟨⟨_, hm2.norm, by have := aput_len m (bz nm) (.int .i64 (c + 1)); omega, fun x => ?_⟩, ?_, ?_⟩, ⟨hin, fun x hx => hx, fun x hx hnx => absurd hx hnx, fun x hx => .inl hx⟩, by omega⟩
    · rw [alook_put]
      by_cases hx : x = bz nm
      · subst hx
        exact ⟨fun _ => ⟨c + 1, by rw [if_pos rfl], by omega, by omega⟩, fun h => absurd hin h⟩
      · rw [if_neg hx]
        refine ⟨fun h => ?_, (hmv x).2⟩
        obtain ⟨c', h1, h2, h3⟩ := (hmv x).1 h
        exact ⟨c', h1, h2, by omega⟩
    · obtain ⟨mf, h1, h2, h3⟩ := hN.found
      exact ⟨mf, (Turn.of_map ht2).map h1 (fun e => E.d1.1 e.symm), by omega, h3⟩
    · have := (Turn.of_map ht2).block bM (Array.getElem?_eq_some_iff.1 hN.miss).1 (fun e => E.d1.2.1 e.symm)
      rw [this]
      exact hN.miss
  have HPOST := Aside0.mk hpost
  have hc9 : c ≤ 1000000000 := by omega
  clear hpost hm2 ht2 hT2 hm hmv hml hc E E2 hN hin hsz hT hcT
  go_enter Tryz.func30, Tryz.ntmps30
  go_wp2_with fail
  go_end0
  exact HPOST.out
end Go.Proofs.YtflioeiklcnncaaGreatDoor.Ri

set_option linter.unusedVariables false
set_option linter.unusedSimpArgs false
namespace Go.Proofs.YtflioeiklcnncaaGreatDoor.Ri
open Go.RowKit Go.Maps Go.Sort Go.Proofs.YtflioeiklcnncaaGreatDoorW.PrintWords Go.Proofs.YtflioeiklcnncaaGreatDoor.PRing

structure Now3 (W : World) (s : St) (bM mS mF : Nat) (Vs Vf Vm : List B) (T Tf : Nat) : Prop where
  seen : ∃ m, MapAt W mS m.length m ∧ m.length ≤ T ∧ ∀ x, (x ∈ Vs → ∃ c : Int, alook m x = some (.int .i64 c) ∧ 1 ≤ c ∧ c ≤ T) ∧ (x ∉ Vs → alook m x = none)
  found : ∃ m, MapAt W mF m.length m ∧ m.length ≤ Tf ∧ ∀ x, ahas m x = true ↔ ∃ n ∈ Vf, (n, x) ∈ s.P
  miss : W.heap[bM]? = some (.cells #[.bool (Vm.any fun n => !there s n)] 4 (0, 0))
theorem Now.three {W : World} {s : St} {bM mS mF : Nat} {V : List B} {T : Nat} (h : Now W s bM mS mF V T) : Now3 W s bM mS mF V V V T T := ⟨h.seen, h.found, h.miss⟩
theorem Now3.one {W : World} {s : St} {bM mS mF : Nat} {V : List B} {T : Nat} (h : Now3 W s bM mS mF V V V T T) : Now W s bM mS mF V T := ⟨h.seen, h.found, h.miss⟩
theorem Now3.seen1 {W w2 : World} {ok : Nat → Prop} {r bp bg : Nat} {s : St} {N bR bF bS bM bW mS mF : Nat} (E : Env W ok r bp bg s N bR bF bS bM bW mS mF) {V Vf Vm : List B} {T Tf : Nat} (h : Now3 W s bM mS mF V Vf Vm T Tf) {m : List (B × Value)} {a : B} (ha : a ∉ V)
    (hm : MapAt w2 mS (m.length + 1) (aput m a (.int .i64 1))) (ht : W.mapTurned w2 mS) (hl : m.length ≤ T) (hv : ∀ x, (x ∈ V → ∃ c : Int, alook m x = some (.int .i64 c) ∧ 1 ≤ c ∧ c ≤ T) ∧ (x ∉ V → alook m x = none)) :
    Now3 w2 s bM mS mF (a :: V) Vf Vm (T + 1) Tf := by
  have hT := Turn.of_map ht
  refine ⟨⟨_, hm.norm, by have := aput_len m a (.int .i64 1); omega, fun x => ?_⟩, ?_, ?_⟩
  · rw [alook_put]
    by_cases hx : x = a
    · subst hx
      exact ⟨fun _ => ⟨1, by rw [if_pos rfl], by omega, by omega⟩, fun h => absurd (by simp) h⟩
    · rw [if_neg hx]
      refine ⟨fun h => ?_, fun h => (hv x).2 (fun e => h (by simp [e]))⟩
      rcases List.mem_cons.1 h with h | h
      · exact absurd h hx
      · obtain ⟨c', h1, h2, h3⟩ := (hv x).1 h
        exact ⟨c', h1, h2, by omega⟩
  · obtain ⟨mf, h1, h2, h3⟩ := h.found
    exact ⟨mf, hT.map h1 (fun e => E.d1.1 e.symm), h2, h3⟩
  · rw [hT.block bM (Array.getElem?_eq_some_iff.1 h.miss).1 (fun e => E.d1.2.1 e.symm)]
    exact h.miss
theorem cell_of_blk {W : World} {b t : Nat} {v : Value} (h : W.heap[b]? = some (.cells #[v] t (0, 0))) : W.cell? ⟨b, 0, none⟩ = some v ∧ W.frozen? ⟨b, 0, none⟩ = false := by
  constructor
  · simp [World.cell?, h]
  · simp [World.frozen?, h]
theorem Now3.miss1 {W : World} {ok : Nat → Prop} {r bp bg : Nat} {s : St} {N bR bF bS bM bW mS mF : Nat} (E : Env W ok r bp bg s N bR bF bS bM bW mS mF) {Vs Vf Vm : List B} {T Tf : Nat} (h : Now3 W s bM mS mF Vs Vf Vm T Tf) {a : B} {b : Bool}
    (hb : b = (!there s a || Vm.any fun n => !there s n)) : Now3 (W.setCell ⟨bM, 0, none⟩ (.bool b)) s bM mS mF Vs Vf (a :: Vm) T Tf := by
  have hT := Turn.of_set W ⟨bM, 0, none⟩ (.bool b)
  refine ⟨?_, ?_, ?_⟩
  · obtain ⟨m, h1, h2, h3⟩ := h.seen
    exact ⟨m, hT.map h1 (fun e => E.d1.2.1 e), h2, h3⟩
  · obtain ⟨m, h1, h2, h3⟩ := h.found
    exact ⟨m, hT.map h1 (fun e => E.d1.2.2 e), h2, h3⟩
  · have := h.miss
    have hlt := (Array.getElem?_eq_some_iff.1 this).1
    simp only [World.setCell, Array.getElem?_modify]
    simp [this, List.any_cons, ← hb]
theorem Now3.found0 {W : World} {s : St} {bM mS mF : Nat} {Vs Vf Vm : List B} {T Tf : Nat} (h : Now3 W s bM mS mF Vs Vf Vm T Tf) {a : B} (ha : ahas s.P a = false) : Now3 W s bM mS mF Vs (a :: Vf) Vm T (Tf + 1) := by
  refine ⟨h.seen, ?_, h.miss⟩
  obtain ⟨m, h1, h2, h3⟩ := h.found
  refine ⟨m, h1, by omega, fun x => ?_⟩
  rw [h3]
  constructor
  · rintro ⟨n, hn, hp⟩; exact ⟨n, by simp [hn], hp⟩
  · rintro ⟨n, hn, hp⟩
    rcases List.mem_cons.1 hn with rfl | hn
    · exact absurd rfl (ahas_false.1 ha _ hp)
    · exact ⟨n, hn, hp⟩
theorem ahas_put {V : Type} (l : List (B × V)) (k : B) (v : V) (x : B) : ahas (aput l k v) x = true ↔ x = k ∨ ahas l x = true := by
  rw [ahas_iff, ahas_iff]
  unfold aput
  constructor
  · rintro ⟨p, hp, rfl⟩
    rcases ains_mem.1 hp with rfl | hp
    · exact .inl rfl
    · exact .inr ⟨p, (List.mem_filter.1 hp).1, rfl⟩
  · rintro (rfl | ⟨p, hp, rfl⟩)
    · exact ⟨_, ains_mem.2 (.inl rfl), rfl⟩
    · by_cases h : p.1 = k
      · exact ⟨(k, v), ains_mem.2 (.inl rfl), h.symm⟩
      · exact ⟨p, ains_mem.2 (.inr (by simp [adel, List.mem_filter, hp, h])), rfl⟩
theorem Now3.found1 {W w2 : World} {ok : Nat → Prop} {r bp bg : Nat} {s : St} {N bR bF bS bM bW mS mF : Nat} (E : Env W ok r bp bg s N bR bF bS bM bW mS mF) {Vs Vf Vm : List B} {T Tf : Nat} (h : Now3 W s bM mS mF Vs Vf Vm T Tf) {m : List (B × Value)} {a pt : B} {v : Value}
    (ha : (a, pt) ∈ s.P) (huniq : ∀ q, (a, q) ∈ s.P → q = pt) (hm : MapAt w2 mF (m.length + 1) (aput m pt v)) (ht : W.mapTurned w2 mF) (hl : m.length ≤ Tf) (hv : ∀ x, ahas m x = true ↔ ∃ n ∈ Vf, (n, x) ∈ s.P) :
    Now3 w2 s bM mS mF Vs (a :: Vf) Vm T (Tf + 1) := by
  have hT := Turn.of_map ht
  refine ⟨?_, ⟨_, hm.norm, by have := aput_len m pt v; omega, fun x => ?_⟩, ?_⟩
  · obtain ⟨m, h1, h2, h3⟩ := h.seen
    exact ⟨m, hT.map h1 (fun e => E.d1.1 e), h2, h3⟩
  · rw [ahas_put, hv]
    constructor
    · rintro (rfl | ⟨n, hn, hp⟩)
      · exact ⟨a, by simp, ha⟩
      · exact ⟨n, by simp [hn], hp⟩
    · rintro ⟨n, hn, hp⟩
      rcases List.mem_cons.1 hn with rfl | hn
      · exact .inl (huniq _ hp)
      · exact .inr ⟨n, hn, hp⟩
  · rw [hT.block bM (Array.getElem?_eq_some_iff.1 h.miss).1 (fun e => E.d1.2.2 e.symm)]
    exact h.miss
theorem there_any (s : St) (a : B) (V : List B) : ((a :: V).any fun n => !there s n) = (!there s a || V.any fun n => !there s n) := rfl

/-- The members of a name in memory. -/
theorem mem_strs {W : World} {ok : Nat → Prop} {r bp bg : Nat} {s : St} (h : RingAt W ok r bp bg s) (nm : ByteArray) (hn : nm.size ≤ maxLen) :
    ∃ v, (Instr.lookup 59 (.map (some bg)) (.string nm) false).run Tryz.prog W = .ok v W ∧ Strs W ok v (mem s (bz nm)) := by
  obtain ⟨f, hg, hv⟩ := h.gm
  refine ⟨_, hg.look1 Tryz.underlying59 (z23 W) hn, ?_⟩
  rw [show nm.data.toList = bz nm from rfl]
  by_cases ha : ahas s.G (bz nm) = true
  · rw [alook_map _ _ _ ha]
    unfold mem alook
    cases hf : s.G.find? (fun p => p.1 == bz nm) with
    | none =>
      rw [List.find?_eq_none] at hf
      obtain ⟨p, hp, hk⟩ := ahas_iff.1 ha
      exact absurd (by simpa using hk) (hf p hp)
    | some p =>
      have h1 := List.find?_some hf
      have h2 := List.mem_of_find?_eq_some hf
      simp only [beq_iff_eq] at h1
      simp only [Option.map_some, Option.getD_some]
      rw [← h1]
      exact hv p h2
  · have ha' : ahas s.G (bz nm) = false := by simpa using ha
    have hno : ∀ {V : Type} (l : List (B × V)), ahas l (bz nm) = false → alook l (bz nm) = none := by
      intro V l hl
      rw [ahas_false] at hl
      simp only [alook, Option.map_eq_none_iff, List.find?_eq_none]
      intro p hp e
      exact hl p hp (by simpa using e)
    rw [hno _ (by rw [ahas_map]; exact ha')]
    unfold mem
    rw [hno _ ha']
    exact Kd.V_nil _ _ _ _ _
/-- A person's point in memory. -/
theorem person_at {W : World} {ok : Nat → Prop} {r bp bg : Nat} {s : St} (h : RingAt W ok r bp bg s) (nm : ByteArray) (hn : nm.size ≤ maxLen) :
    ∃ v, (Instr.lookup 58 (.map (some bp)) (.string nm) true).run Tryz.prog W = .ok (.tuple #[v, .bool (ahas s.P (bz nm))]) W ∧ ∀ pt, (bz nm, pt) ∈ s.P → Bts W ok v pt := by
  obtain ⟨f, hg, hv⟩ := h.pm
  have hl := hg.look Tryz.underlying58 (z24 W) hn
  rw [ahas_map] at hl
  refine ⟨_, hl, fun pt hp => ?_⟩
  rw [show nm.data.toList = bz nm from rfl, alook_map _ _ _ (ahas_iff.2 ⟨_, hp, rfl⟩)]
  exact hv _ hp
end Go.Proofs.YtflioeiklcnncaaGreatDoor.Ri

set_option linter.unusedVariables false
set_option linter.unusedSimpArgs false
namespace Go.Proofs.YtflioeiklcnncaaGreatDoor.Ri
open Go.RowKit Go.Maps Go.Sort Go.Proofs.YtflioeiklcnncaaGreatDoorW.PrintWords Go.Proofs.YtflioeiklcnncaaGreatDoor.PRing

def FollowArgs (nm : ByteArray) (bS bM bR bF bW : Nat) : Array Value := #[.string nm, .pointer (some ⟨bS, 0, none⟩), .pointer (some ⟨bM, 0, none⟩), .pointer (some ⟨bR, 0, none⟩), .pointer (some ⟨bF, 0, none⟩), .pointer (some ⟨bW, 0, none⟩)]
def FollowAll (ok : Nat → Prop) (r bp bg : Nat) (s : St) (N bR bF bS bM bW mS mF : Nat) (d : Nat) : Prop :=
  ∀ (V : List B) (T : Nat) (W : World) (nm : ByteArray), Env W ok r bp bg s N bR bF bS bM bW mS mF → Now W s bM mS mF V T → T + 1001 * unv s V + 1 ≤ 1000000000 → unv s V ≤ d → nm.size ≤ 9223372036854775807 →
    Calls Tryz.prog 30 #[.string nm, .pointer (some ⟨bS, 0, none⟩), .pointer (some ⟨bM, 0, none⟩), .pointer (some ⟨bR, 0, none⟩), .pointer (some ⟨bF, 0, none⟩), .pointer (some ⟨bW, 0, none⟩)] W (FollowPost W ok r bp bg s N bR bF bS bM bW mS mF V T (bz nm))
structure Keys1 (s : St) : Prop where
  uniq : ∀ a p q, (a, p) ∈ s.P → (a, q) ∈ s.P → p = q

theorem rch_trans {s : St} {a b c : B} (h : Rch s a b) (k : Rch s b c) : Rch s a c := by
  induction k with
  | refl => exact h
  | step _ hm ih => exact .step ih hm
theorem mem_none {s : St} {a : B} (h : ahas s.G a = false) : mem s a = [] := by
  unfold mem
  have : alook s.G a = none := by
    rw [ahas_false] at h
    simp only [alook, Option.map_eq_none_iff, List.find?_eq_none]
    intro p hp e
    exact h p hp (by simpa using e)
  rw [this]
  rfl
theorem mem_some {s : St} {a : B} (h : ahas s.G a = true) : ∃ p ∈ s.G, p.1 = a ∧ mem s a = p.2 := by
  unfold mem alook
  cases hf : s.G.find? (fun p => p.1 == a) with
  | none =>
    rw [List.find?_eq_none] at hf
    obtain ⟨p, hp, hk⟩ := ahas_iff.1 h
    exact absurd (by simpa using hk) (hf p hp)
  | some p =>
    have h1 := List.find?_some hf
    simp only [beq_iff_eq] at h1
    exact ⟨p, List.mem_of_find?_eq_some hf, h1, rfl⟩
set_option maxRecDepth 100000 in
set_option maxHeartbeats 1600000 in
theorem follow_step {ok : Nat → Prop} {r bp bg : Nat} {s : St} {N bR bF bS bM bW mS mF : Nat} (hS : SmlP s) (hU : Keys1 s) (d : Nat) (IH : ∀ d', d = d' + 1 → FollowAll ok r bp bg s N bR bF bS bM bW mS mF d') :
    FollowAll ok r bp bg s N bR bF bS bM bW mS mF d := by
  intro V T W nm E hN hT hd hn
  by_cases hin : bz nm ∈ V
  · exact follow_seen E hN (by omega) nm hn hin
  obtain ⟨a, ha⟩ : ∃ a, a = bz nm := ⟨_, rfl⟩
  have HA := Aside0.mk ha
  rw [← ha] at hin ⊢
  obtain ⟨m, hm, hml, hmv⟩ := hN.seen
  have hsz : nm.size ≤ maxLen := by unfold maxLen; omega
  have l1 := hm.look1 Tryz.underlying63 (z3 W) hsz
  rw [show nm.data.toList = a from ha.symm, (hmv a).2 hin] at l1
  simp only [Option.getD_none] at l1
  obtain ⟨w2, hrun, hm2, ht2⟩ := hm.store Tryz.underlying63 (by unfold maxLen; omega) hsz (.int .i64 1)
  have l2 := hm2.look1 Tryz.underlying63 (z3 w2) hsz
  rw [show nm.data.toList = a from ha.symm] at hm2 l2
  rw [alook_put, if_pos rfl] at l2
  simp only [Option.getD_some] at l2
  have hT2 : Turn (S3 bM mS mF) W w2 := (Turn.of_map ht2).mono (fun k hk => .inl hk)
  have E2 := E.turn hT2
  have hN2 := hN.three.seen1 E hin hm2 ht2 hml hmv
  have cS := E.cS
  have cS2 := E2.cS
  have cR2 := E2.cR
  obtain ⟨cM2, fM2⟩ := cell_of_blk hN2.miss
  have hth := there_calls E2.ring nm hsz
  rw [← ha] at hth
  have HE := Aside0.mk E
  have HE2 := Aside0.mk E2
  have HN2 := Aside0.mk hN2
  have HT2 := Aside0.mk hT2
  have HT := Aside0.mk hT
  have HD := Aside0.mk hd
  have HIN := Aside0.mk hin
  have HTH := Aside0.mk hth
  have HIH := Aside0.mk IH
  have HSZ := Aside0.mk hsz
  have HV := Aside0.mk (show ∀ x ∈ V, x ∈ a :: V from fun x hx => by simp [hx])
  clear ha hm hml hmv hm2 ht2 hT2 E E2 hN hN2 hT hd hin hth IH hsz hn
  go_enter Tryz.func30, Tryz.ntmps30
  go_upto_region 2 with (fail)
  go_cut [25] (fun _ wc => Turn (S3 bM mS mF) W wc ∧ Now3 wc s bM mS mF (a :: V) V (a :: V) (T + 1) T)
  case first =>
    as_aux_lemma =>
      by_cases hb : (V.any fun n => !there s n) = true
      · rw [hb] at cM2
        have HB := Aside0.mk hb
        clear hb
        go_wp2_with fail
        go_meet
        exact ⟨HT2.out.trans ((Turn.of_set w2 _ _).mono (fun k hk => .inr (.inr hk))), HN2.out.miss1 HE2.out (by rw [HB.out, Bool.or_true])⟩
      · have hb' : (V.any fun n => !there s n) = false := by simpa using hb
        rw [hb'] at cM2
        have HB := Aside0.mk hb'
        clear hb hb'
        go_wp2_with fail
        refine HTH.out.mono ?_
        rintro e w' ⟨rfl, rfl⟩
        go_wp2_with fail
        go_meet
        exact ⟨HT2.out.trans ((Turn.of_set w2 _ _).mono (fun k hk => .inr (.inr hk))), HN2.out.miss1 HE2.out (by rw [HB.out, Bool.or_false])⟩
  case rest =>
    obtain ⟨w3, hw3⟩ : ∃ w3 : World, w3 = wc := ⟨_, rfl⟩
    subst hw3
    obtain ⟨hTc, hNc⟩ := hcut
    have E3 := HE.out.turn hTc
    have cR3 := E3.cR
    have cF3 := E3.cF
    have c03 := E3.ring.c0
    obtain ⟨pv, hl3, hpv⟩ := person_at E3.ring nm HSZ.out
    rw [← HA.out] at hl3 hpv
    generalize hisP : ahas s.P a = isP at hl3
    have HISP := Aside0.mk hisP
    clear hisP
    have HE3 := Aside0.mk E3
    have HTC := Aside0.mk hTc
    have HNC := Aside0.mk hNc
    have HPV := Aside0.mk hpv
    clear l1 hrun l2 cS cS2 cR2 cM2 fM2 HE2 HN2 HT2 HTH E3 hTc hNc hpv w2
    go_upto_if 35 with (fail)
    go_cut [36] (fun _ wd => Turn (S3 bM mS mF) W wd ∧ Now3 wd s bM mS mF (a :: V) (a :: V) (a :: V) (T + 1) (T + 1))
    case first =>
      as_aux_lemma =>
        cases isP with
        | true =>
          obtain ⟨q, hq, hqa⟩ := ahas_iff.1 HISP.out
          obtain ⟨qa, pt⟩ := q
          have hqa' : qa = a := hqa
          subst hqa'
          have hcv := conv_bytes (HPV.out pt hq) (hS.pts _ hq)
          obtain ⟨mf, hmf, hmfl, hmfv⟩ := HNC.out.found
          obtain ⟨w4, hrun, hm4, ht4⟩ := hmf.store Tryz.underlying63 (by have := HT.out; unfold maxLen; omega) (s := mkS pt) (by rw [mkS_size]; have hpl : pt.length ≤ 1000 := (hS.ps _ hq).2; unfold maxLen; omega) (.int .i64 1)
          rw [show (mkS pt).data.toList = pt from bz_mkS pt] at hm4
          have hN4 := HNC.out.found1 HE3.out hq (fun q' hq' => hU.uniq _ _ _ hq' hq) hm4 ht4 hmfl hmfv
          have HN4 := Aside0.mk hN4
          have HT4 := Aside0.mk (HTC.out.trans ((Turn.of_map ht4).mono (fun k hk => .inr (.inl hk))))
          clear hq hmf hmfl hmfv hm4 ht4 hN4 hl3
          go_wp2_with fail
          go_meet
          exact ⟨HT4.out, HN4.out⟩
        | false =>
          have HN4 := Aside0.mk (HNC.out.found0 HISP.out)
          clear hl3
          go_wp2_with fail
          go_meet
          exact ⟨HTC.out, HN4.out⟩
    case rest =>
      obtain ⟨wd, hwd⟩ : ∃ wd : World, wd = wc := ⟨_, rfl⟩
      subst hwd
      obtain ⟨hTd, hNd⟩ := hcut
      have E4 := HE.out.turn hTd
      have cR4 := E4.cR
      have c14 := E4.ring.c1
      obtain ⟨mv, hl4, hmv⟩ := mem_strs E4.ring nm HSZ.out
      rw [← HA.out] at hmv
      obtain ⟨A, c, rfl, hc, hf⟩ := hmv
      rw [List.length_map] at hc hf hl4
      have HE4 := Aside0.mk E4
      have HTD := Aside0.mk hTd
      have HND := Aside0.mk hNd
      have HF := Aside0.mk hf
      clear hl3 cR3 cF3 c03 HE3 HTC HNC HPV E4 hTd hNd hf
      go_wp2_with fail
      clear cR4 c14 hl4
      go_loopw [46] (fun i wr => ∃ k V1 T1, k ≤ (mem s a).length ∧ i = .int .i64 k ∧ Turn (S3 bM mS mF) wd wr ∧ Now wr s bM mS mF V1 T1 ∧ T1 + 1001 * unv s V1 ≤ T + 1001 * unv s (a :: V) + 1 + k ∧
          (∀ x ∈ a :: V, x ∈ V1) ∧ (∀ x ∈ (mem s a).take k, x ∈ V1) ∧ (∀ x ∈ V1, x ∉ a :: V → ∀ y ∈ mem s x, y ∈ V1) ∧ (∀ x ∈ V1, x ∈ V ∨ Rch s a x)) (fun i _ => (mem s a).length - (intOf i).toNat)
      case atStart => exact ⟨0, a :: V, T + 1, Nat.zero_le _, rfl, Turn.refl _ _, HND.out.one, by omega, fun x hx => hx, by simp, fun x hx hnx => absurd hx hnx, fun x hx => by
        rcases List.mem_cons.1 hx with rfl | hx
        · exact .inr .refl
        · exact .inl hx⟩
      case round =>
        obtain ⟨k, V1, T1, hk, rfl, hTr, hNr, hpot, hsub, htk, hshut, hback⟩ := hrel
        have HTR := Aside0.mk hTr
        have HNR := Aside0.mk hNr
        have HPOT := Aside0.mk hpot
        have HSUB := Aside0.mk hsub
        have HTK := Aside0.mk htk
        have HSHUT := Aside0.mk hshut
        have HBACK := Aside0.mk hback
        have Er := HE4.out.turn hTr
        have HER := Aside0.mk Er
        clear hTr hNr hpot hsub htk hshut hback
        as_aux_lemma =>
          by_cases hlt : k < (mem s a).length
          · have hg : ahas s.G a = true := by
              by_cases h : ahas s.G a = true
              · exact h
              · have : mem s a = [] := mem_none (by simpa using h)
                rw [this] at hlt
                simp at hlt
            have hu1 := unv_lt HIN.out hg
            have hu2 := unv_mono (s := s) HSUB.out
            obtain ⟨d', hd'⟩ : ∃ d', d = d' + 1 := ⟨d - 1, by have := HD.out; omega⟩
            have hold : ∀ k, ok k → ¬ S3 bM mS mF k := fun k hk e => by have h1 := Er.old k hk; have h2 := Er.newN k e; omega
            have hstr := str_at (l := mem s a) (Kd.F_step HF.out (fun k hk hlt => HTR.out.block k hlt (hold k hk))) hlt
            obtain ⟨ad, rfl, hcell⟩ := hstr
            obtain ⟨p, hp, hpa, hmp⟩ := mem_some hg
            have hmlen : (mem s a).length ≤ 1000 := by rw [hmp]; exact (hS.gs p hp).2
            have hnlen : (mem s a)[k].length ≤ 9223372036854775807 := Nat.le_trans (hS.mems p hp _ (by rw [← hmp]; exact List.getElem_mem hlt)) (by decide)
            have hcall := HIH.out d' hd' V1 T1 wr (mkS (mem s a)[k]) Er HNR.out (by have := HT.out; have := HPOT.out; omega) (by have := HD.out; omega) (by rw [mkS_size]; exact hnlen)
            rw [bz_mkS] at hcall
            have HCALL := Aside0.mk hcall
            have HG := Aside0.mk hg
            have HU1 := Aside0.mk hu1
            have HML := Aside0.mk hmlen
            have cWr := Er.cW
            generalize hy : (mem s a)[k] = y at hcell HCALL
            have HY := Aside0.mk hy
            clear hy hcall hg hu1 hu2 hd' hold hp hpa hmp hnlen Er
            go_wp2_with fail
            refine HCALL.out.mono ?_
            intro e w5 hpost
            obtain ⟨rfl, hT5, V5, T5, hN5, hW5, hP5⟩ := hpost
            have HT5 := Aside0.mk hT5
            have HN5 := Aside0.mk hN5
            have HW5 := Aside0.mk hW5
            have HP5 := Aside0.mk hP5
            clear hT5 hN5 hW5 hP5 HCALL
            go_wp2_with fail
            refine ⟨⟨k + 1, V5, T5, by omega, by go_num, HTR.out.trans HT5.out, HN5.out, by have := HP5.out; have := HPOT.out; omega, fun x hx => HW5.out.sub x (HSUB.out x hx), fun x hx => ?_, fun x hx hnx z hz => ?_, fun x hx => ?_⟩, by simp [intOf]; omega⟩
            · rw [List.take_succ_eq_append_getElem hlt, HY.out] at hx
              rcases List.mem_append.1 hx with hx | hx
              · exact HW5.out.sub x (HTK.out x hx)
              · rw [List.mem_singleton.1 hx]; exact HW5.out.self
            · by_cases h1 : x ∈ V1
              · exact HW5.out.sub z (HSHUT.out x h1 hnx z hz)
              · exact HW5.out.shut x hx h1 z hz
            · rcases HW5.out.back x hx with h1 | h1
              · exact HBACK.out x h1
              · exact .inr (rch_trans (.step .refl (by rw [← HY.out]; exact List.getElem_mem hlt)) h1)
          · obtain rfl : k = (mem s a).length := by omega
            clear Er
            go_wp2_with fail
            go_end0
            refine ⟨rfl, HTD.out.trans HTR.out, V1, T1, HNR.out, ⟨HSUB.out a (by simp), fun x hx => HSUB.out x (by simp [hx]), fun x hx hnx z hz => ?_, HBACK.out⟩, ?_⟩
            · by_cases h1 : x = a
              · subst h1
                exact HTK.out z (by rw [List.take_length]; exact hz)
              · exact HSHUT.out x hx (by simp [h1, hnx]) z hz
            · have hpot := HPOT.out
              by_cases hg : ahas s.G a = true
              · have h1 := unv_lt HIN.out hg
                obtain ⟨p, hp, hpa, hmp⟩ := mem_some hg
                have hmlen : (mem s a).length ≤ 1000 := by rw [hmp]; exact (hS.gs p hp).2
                omega
              · have h0 : mem s a = [] := mem_none (by simpa using hg)
                have h1 := unv_mono (s := s) HV.out
                rw [h0] at hpot
                simp only [List.length_nil] at hpot
                omega
theorem follow_all {ok : Nat → Prop} {r bp bg : Nat} {s : St} {N bR bF bS bM bW mS mF : Nat} (hS : SmlP s) (hU : Keys1 s) : ∀ d, FollowAll ok r bp bg s N bR bF bS bM bW mS mF d
  | 0 => follow_step hS hU 0 (fun _ h => by omega)
  | d + 1 => follow_step hS hU (d + 1) (fun d' h => by
    obtain rfl : d' = d := by omega
    exact follow_all hS hU d')
end Go.Proofs.YtflioeiklcnncaaGreatDoor.Ri

set_option linter.unusedVariables false
set_option linter.unusedSimpArgs false
namespace Go.Proofs.YtflioeiklcnncaaGreatDoor.Ri
open Go.RowKit Go.Maps Go.Sort Go.Proofs.YtflioeiklcnncaaGreatDoorW.PrintWords Go.Proofs.YtflioeiklcnncaaGreatDoor.PRing

theorem info24 : (Tryz.prog.info? 24).map (fun i => (i.zero, i.size, i.bytes)) = some (some (.slice none 0 0), 1, 24) := by kernel_rfl
def RchN (s : St) (names : List B) (x : B) : Prop := ∃ n ∈ names, Rch s n x
def PtsSpec (s : St) (names : List B) (code : Int) (rows : List B) : Prop :=
  (code = 4 ∧ rows = [] ∧ ∃ x, RchN s names x ∧ there s x = false) ∨
  ((∀ x, RchN s names x → there s x = true) ∧ ∃ fl : List B, fl.Pairwise (fun a b => bytesBefore a b = true) ∧ (∀ p, p ∈ fl ↔ ∃ x, RchN s names x ∧ (x, p) ∈ s.P) ∧
    ((8 < fl.length ∧ code = 3 ∧ rows = []) ∨ (fl.length ≤ 8 ∧ code = 0 ∧ rows = fl)))

theorem conv_str (W : World) (s : ByteArray) (hs : s.size ≤ 9223372036854775807) :
    ∃ w2 c, (convert 9 24 (.string s)).run Tryz.prog W = .ok (.slice (some ⟨W.heap.size, 0, none⟩) s.size c) w2 ∧ s.size ≤ c ∧ Kd.F (Kd.int .u8) w2 (fun k => W.heap.size ≤ k) (some ⟨W.heap.size, 0, none⟩) s.size (ints (bz s)) ∧ Below W.heap.size W w2 := by
  refine ⟨Lib.bytesWorld W 5 s, _, print_bytes (P := Tryz.prog) 9 24 5 Tryz.underlying9 Tryz.underlying24 Tryz.underlying5 s W, ?_, ?_, bytes_below (Below.refl _ _) (Nat.le_refl _) 5 s⟩
  · exact grownCap_ge W s.size 0 5
  · have hr := bytes_reads W 5 s hs
    have hF : Kd.F (Kd.int .u8) (Lib.bytesWorld W 5 s) (fun k => W.heap.size ≤ k) (some ⟨W.heap.size, 0, none⟩) s.size (bytesOf s) := fun W' hW => by
      refine Kd.C_of_reads (d := (0 : Int)) ⟨hr.1, hr.2.1, fun hn => ⟨_, rfl, fun j hj => ?_⟩⟩
      obtain ⟨ad, e, hc⟩ := hr.2.2 hn
      cases e
      have h1 := hc j hj
      have h2 := hW W.heap.size (Nat.le_refl _) (by rw [Lib.bytesWorld_size]; omega)
      rw [add_plain] at h1 ⊢
      simpa [World.cell?, h2] using h1
    exact hF

theorem rch_closed {s : St} {V : List B} (hcl : ∀ x ∈ V, ∀ y ∈ mem s x, y ∈ V) {n x : B} (hn : n ∈ V) (h : Rch s n x) : x ∈ V := by
  induction h with
  | refl => exact hn
  | step _ hm ih => exact hcl _ ih _ hm
theorem RingAt.bound {W : World} {ok : Nat → Prop} {r bp bg : Nat} {s : St} (h : RingAt W ok r bp bg s) : RingAt W (fun k => ok k ∧ k < W.heap.size) r bp bg s := by
  obtain ⟨f, hf, hfp⟩ := h.pm
  obtain ⟨g, hg, hgp⟩ := h.gm
  exact ⟨h.c0, h.c1, ⟨h.rok, World.block_lt_of_cell? W _ h.c0⟩, h.bne, fun e => h.pok e.1, fun e => h.gok e.1, ⟨f, hf, fun p hp => Kd.V_bound (hfp p hp)⟩, ⟨g, hg, fun p hp => Kd.V_bound (hgp p hp)⟩⟩
theorem map_new {w : World} {b : Nat} (h : w.heap[b]? = some (.map #[] 0)) : MapAt w b 0 [] := by
  have hlt := (Array.getElem?_eq_some_iff.1 h).1
  have h0 := MapAt.made ({ w with heap := w.heap.take b } : World)
  have hs : ({ w with heap := w.heap.take b } : World).heap.size = b := by simp; omega
  rw [hs] at h0
  refine h0.move ?_
  rw [h]
  rw [show (World.alloc { w with heap := w.heap.take b } (.map #[] 0)).heap = (w.heap.take b).push (.map #[] 0) from rfl, Array.getElem?_push, if_pos (by simpa using hs.symm)]
theorem al_new {w : World} {n : Nat} (o : Obj) (h : w.heap.size = n) : (w.alloc o).heap[n]? = some o := by
  have e : (w.alloc o).heap = w.heap.push o := rfl
  rw [e, Array.getElem?_push, if_pos h.symm]
theorem al_old {w : World} {k : Nat} {x : Obj} (o : Obj) (h : w.heap[k]? = some x) : (w.alloc o).heap[k]? = some x := by
  have := (Array.getElem?_eq_some_iff.1 h).1
  have e : (w.alloc o).heap = w.heap.push o := rfl
  rw [e, Array.getElem?_push, if_neg (by omega)]; exact h
theorem al_size {w : World} {n : Nat} (o : Obj) (h : w.heap.size = n) : (w.alloc o).heap.size = n + 1 := by
  have e : (w.alloc o).heap = w.heap.push o := rfl
  rw [e, Array.size_push, h]
theorem al_below {W w : World} (o : Obj) (h : Below W.heap.size W w) : Below W.heap.size W (w.alloc o) := h.alloc h.size o
theorem points_start {W w0 : World} {ok : Nat → Prop} {r bp bg : Nat} {s : St} {N : Nat} (h : RingAt W ok r bp bg s) (hN : N = W.heap.size) (hb : Below N W w0)
    (h0 : w0.heap[N]? = some (.cells #[.pointer (some ⟨r, 0, none⟩)] 27 (0, 0)))
    (h1 : w0.heap[N + 1]? = some (.map #[] 0))
    (h2 : w0.heap[N + 1 + 1]? = some (.cells #[.map (some (N + 1))] 63 (0, 0)))
    (h3 : w0.heap[N + 1 + 1 + 1]? = some (.map #[] 0))
    (h4 : w0.heap[N + 1 + 1 + 1 + 1]? = some (.cells #[.map (some (N + 1 + 1 + 1))] 63 (0, 0)))
    (h5 : w0.heap[N + 1 + 1 + 1 + 1 + 1]? = some (.cells #[.bool false] 4 (0, 0)))
    (h6 : w0.heap[N + 1 + 1 + 1 + 1 + 1 + 1]? = some (.cells #[.func (.func 30) #[] #[.pointer (some ⟨N + 1 + 1 + 1 + 1, 0, none⟩), .pointer (some ⟨N + 1 + 1 + 1 + 1 + 1, 0, none⟩), .pointer (some ⟨N, 0, none⟩), .pointer (some ⟨N + 1 + 1, 0, none⟩), .pointer (some ⟨N + 1 + 1 + 1 + 1 + 1 + 1, 0, none⟩)]] 64 (0, 0))) :
    Env w0 (fun k => ok k ∧ k < N) r bp bg s N N (N + 1 + 1) (N + 1 + 1 + 1 + 1) (N + 1 + 1 + 1 + 1 + 1) (N + 1 + 1 + 1 + 1 + 1 + 1) (N + 1 + 1 + 1) (N + 1) ∧
      Now w0 s (N + 1 + 1 + 1 + 1 + 1) (N + 1 + 1 + 1) (N + 1) [] 0 := by
  subst hN
  have hr := (h.bound).below hb
  obtain ⟨f, hf, hfp⟩ := h.pm
  obtain ⟨g, hg, hgp⟩ := h.gm
  refine ⟨⟨hr, fun k e => e.2, hf.lt, hg.lt, (cell_of_blk h0).1, (cell_of_blk h2).1, (cell_of_blk h4).1, (cell_of_blk h6).1, by omega, by omega, by omega, ⟨by omega, by omega, by omega⟩, ?_⟩, ⟨⟨[], map_new h3, Nat.le_refl _, fun x => ⟨fun e => by simp at e, fun _ => rfl⟩⟩, ⟨[], map_new h1, Nat.le_refl _, fun x => by simp [ahas]⟩, ?_⟩⟩
  · rintro k (rfl | rfl | rfl | rfl) <;> refine ⟨by omega, by omega, by omega⟩
  · simpa using h5
def PtsPost (W : World) (s : St) (names : List B) (e : Ending) (w' : World) : Prop :=
  ∃ v code rows, e = .returned (.tuple #[v, .int .i64 code]) ∧ Rws w' (fun k => W.heap.size ≤ k) v rows ∧ PtsSpec s names code rows ∧ Below W.heap.size W w'
set_option maxRecDepth 100000 in
set_option maxHeartbeats 1600000 in
theorem Points_calls {W : World} {ok ok' : Nat → Prop} {r bp bg : Nat} {s : St} (h : RingAt W ok r bp bg s) (hS : SmlP s) (hU : Keys1 s) {pv : Value} {names : List B} (hp : Strs W ok' pv names) (hnl : names.length ≤ 1000) (hns : ∀ x ∈ names, x.length ≤ 9223372036854775807) :
    Calls Tryz.prog 10 #[.pointer (some ⟨r, 0, none⟩), pv] W (PtsPost W s names) := by
  obtain ⟨A, c, rfl, hc, hf⟩ := hp
  rw [List.length_map] at hc hf ⊢
  have HF := Aside0.mk hf
  have HR := Aside0.mk h
  have HNS := Aside0.mk hns
  have hmm := @run_makeMap Tryz.prog
  clear hf h hns
  go_enter Tryz.func10, Tryz.ntmps10
  go_wp2_with fail
  clear hmm
  obtain ⟨N, hN⟩ : ∃ N, N = W.heap.size := ⟨_, rfl⟩
  have HN := Aside0.mk hN
  rw [← hN]
  go_loopw [20] (fun i wr => ∃ k V T, k ≤ names.length ∧ i = .int .i64 k ∧ Below N W wr ∧ Env wr (fun k => ok k ∧ k < N) r bp bg s N N (N + 1 + 1) (N + 1 + 1 + 1 + 1) (N + 1 + 1 + 1 + 1 + 1) (N + 1 + 1 + 1 + 1 + 1 + 1) (N + 1 + 1 + 1) (N + 1) ∧
      Now wr s (N + 1 + 1 + 1 + 1 + 1) (N + 1 + 1 + 1) (N + 1) V T ∧ T + 1001 * unv s V ≤ 1001 * unv s [] + k ∧
      (∀ x ∈ names.take k, x ∈ V) ∧ (∀ x ∈ V, ∀ y ∈ mem s x, y ∈ V) ∧ (∀ x ∈ V, RchN s names x)) (fun i _ => names.length - (intOf i).toNat)
  case atStart =>
    have hN' := HN.out
    refine ⟨0, [], 0, Nat.zero_le _, rfl, ?_, ?_⟩
    · rw [hN']
      exact al_below _ (al_below _ (al_below _ (al_below _ (al_below _ (al_below _ (al_below _ (Below.refl _ _)))))))
    · rw [← and_assoc]
      have z0 : W.heap.size = N := hN'.symm
      refine ⟨points_start HR.out hN' ?_ ?_ ?_ ?_ ?_ ?_ ?_ ?_, by simp, fun x hx => by simp at hx, fun x hx => by simp at hx, fun x hx => by simp at hx⟩
      · rw [hN']
        exact al_below _ (al_below _ (al_below _ (al_below _ (al_below _ (al_below _ (al_below _ (Below.refl _ _)))))))
      · exact al_old _ (al_old _ (al_old _ (al_old _ (al_old _ (al_old _ (al_new _ z0))))))
      · exact al_old _ (al_old _ (al_old _ (al_old _ (al_old _ (al_new _ (al_size _ z0))))))
      · exact al_old _ (al_old _ (al_old _ (al_old _ (al_new _ (al_size _ (al_size _ z0))))))
      · exact al_old _ (al_old _ (al_old _ (al_new _ (al_size _ (al_size _ (al_size _ z0))))))
      · exact al_old _ (al_old _ (al_new _ (al_size _ (al_size _ (al_size _ (al_size _ z0))))))
      · exact al_old _ (al_new _ (al_size _ (al_size _ (al_size _ (al_size _ (al_size _ z0))))))
      · exact al_new _ (al_size _ (al_size _ (al_size _ (al_size _ (al_size _ (al_size _ z0))))))
  case round =>
    obtain ⟨k, V, T, hk, rfl, hbr, hE, hNow, hpot, htk, hcl, hback⟩ := hrel
    have HBR := Aside0.mk hbr
    have HE := Aside0.mk hE
    have HNOW := Aside0.mk hNow
    have HPOT := Aside0.mk hpot
    have HTK := Aside0.mk htk
    have HCL := Aside0.mk hcl
    have HBACK := Aside0.mk hback
    have cW := hE.cW
    clear hpot htk hcl hback hN
    have hu0 : unv s [] ≤ 1000 := by
      unfold unv
      exact Nat.le_trans (List.length_filter_le _ _) hS.g
    by_cases hlt : k < names.length
    · as_aux_lemma =>
        have hbr' : Below W.heap.size W wr := HN.out ▸ hbr
        obtain ⟨ad, rfl, hcell⟩ := str_at (l := names) (Kd.F_below HF.out hbr') hlt
        have hcall := follow_all hS hU (unv s V) V T wr (mkS names[k]) hE hNow (by have := HPOT.out; omega) (Nat.le_refl _) (by rw [mkS_size]; exact HNS.out _ (List.getElem_mem hlt))
        rw [bz_mkS] at hcall
        have HCALL := Aside0.mk hcall
        generalize hy : names[k] = y at hcell HCALL
        have HY := Aside0.mk hy
        clear hy hcall hbr hbr' hE hNow hu0
        go_wp2_with fail
        refine HCALL.out.mono ?_
        intro e w5 hpost
        obtain ⟨rfl, hT5, V5, T5, hN5, hW5, hP5⟩ := hpost
        have HT5 := Aside0.mk hT5
        have HN5 := Aside0.mk hN5
        have HW5 := Aside0.mk hW5
        have HP5 := Aside0.mk hP5
        clear hT5 hN5 hW5 hP5 HCALL cW
        go_wp2_with fail
        refine ⟨⟨k + 1, V5, T5, by omega, by go_num, HBR.out.trans (HT5.out.below (HE.out.newN) (Nat.le_trans (Nat.le_of_eq HN.out) HBR.out.size)), HE.out.turn HT5.out, HN5.out, by have := HP5.out; have := HPOT.out; omega, fun x hx => ?_, fun x hx z hz => ?_, fun x hx => ?_⟩, by simp [intOf]; omega⟩
        · rw [List.take_succ_eq_append_getElem hlt, HY.out] at hx
          rcases List.mem_append.1 hx with hx | hx
          · exact HW5.out.sub x (HTK.out x hx)
          · rw [List.mem_singleton.1 hx]; exact HW5.out.self
        · by_cases h1 : x ∈ V
          · exact HW5.out.sub z (HCL.out x h1 z hz)
          · exact HW5.out.shut x hx h1 z hz
        · rcases HW5.out.back x hx with h1 | h1
          · exact HBACK.out x h1
          · exact ⟨y, by rw [← HY.out]; exact List.getElem_mem hlt, h1⟩
    · obtain rfl : k = names.length := by omega
      have hreach : ∀ x, x ∈ V ↔ RchN s names x := fun x => ⟨HBACK.out x, fun ⟨n, hn, hr⟩ => rch_closed HCL.out (HTK.out n (by rw [List.take_length]; exact hn)) hr⟩
      have HREACH := Aside0.mk hreach
      obtain ⟨cM, fM⟩ := cell_of_blk hNow.miss
      have cF := hE.cF
      obtain ⟨mf, hmf, hmfl, hmfv⟩ := hNow.found
      have HMF := Aside0.mk hmf
      have HMFV := Aside0.mk hmfv
      have HMFL := Aside0.mk hmfl
      have hlen := hmf.length Tryz.underlying63
      clear hreach hmf hmfv hmfl hbr hE hNow cW
      by_cases hmiss : (V.any fun n => !there s n) = true
      · rw [hmiss] at cM
        have HMISS := Aside0.mk hmiss
        clear hmiss
        go_wp2_with fail
        go_ret2
        refine ⟨_, 4, [], rfl, Kd.V_nil _ _ _ _ _, .inl ⟨rfl, rfl, ?_⟩, HN.out ▸ HBR.out⟩
        obtain ⟨x, hx, hxt⟩ := List.any_eq_true.1 HMISS.out
        exact ⟨x, (HREACH.out x).1 hx, by simpa using hxt⟩
      have hmiss' : (V.any fun n => !there s n) = false := by simpa using hmiss
      rw [hmiss'] at cM
      have hall : ∀ x, RchN s names x → there s x = true := fun x hx => by
        have h1 := List.any_eq_false.1 hmiss' x ((HREACH.out x).2 hx)
        simpa using h1
      have hfl : (mf.map (·.1)).Pairwise (fun a b => bytesBefore a b = true) := by
        rw [List.pairwise_map]
        exact HMF.out.srt
      have hmem : ∀ p, p ∈ mf.map (·.1) ↔ ∃ x, RchN s names x ∧ (x, p) ∈ s.P := fun p => by
        have h1 := HMFV.out p
        rw [ahas_iff] at h1
        rw [List.mem_map]
        constructor
        · rintro ⟨q, hq, rfl⟩
          obtain ⟨n, hn, hp⟩ := h1.1 ⟨q, hq, rfl⟩
          exact ⟨n, (HREACH.out n).1 hn, hp⟩
        · rintro ⟨x, hx, hp⟩
          obtain ⟨q, hq, e⟩ := h1.2 ⟨x, (HREACH.out x).2 hx, hp⟩
          exact ⟨q, hq, e⟩
      have HALL := Aside0.mk hall
      have HFL := Aside0.mk hfl
      have HMEM := Aside0.mk hmem
      clear hmiss hmiss' hall hfl hmem
      by_cases h8 : 8 < mf.length
      · go_wp2_with fail
        go_ret2
        exact ⟨_, 3, [], rfl, Kd.V_nil _ _ _ _ _, .inr ⟨HALL.out, mf.map (·.1), HFL.out, HMEM.out, .inl ⟨by rw [List.length_map]; exact h8, rfl, rfl⟩⟩, HN.out ▸ HBR.out⟩
      · go_wp2_with fail
        refine (keys33 _ wr).mono ?_
        rintro e w1 ⟨rfl, rfl⟩
        go_wp2_with fail
        refine (sorted33 HMF.out (by omega)).mono ?_
        rintro e w1 ⟨v, rfl, hv, hb⟩
        obtain ⟨A2, c2, rfl, hc2, hf2⟩ := hv
        have hlen2 : ((mf.map (·.1)).map mkS).length = mf.length := by simp
        rw [hlen2] at hc2 hf2 ⊢
        clear hlen2 hlen cM fM cF
        have HB1 := Aside0.mk (show Below wr.heap.size wr w1 from ((Below.refl _ wr).alloc (Nat.le_refl _) _).trans (hb.mono (by simp)))
        have HF2 := Aside0.mk hf2
        clear hf2 hb
        go_wp2_with fail
        obtain ⟨wo, hwo⟩ : ∃ wo : World, wo = wr := ⟨_, rfl⟩
        subst hwo
        obtain ⟨fl, hfl⟩ : ∃ fl : List B, fl = mf.map (·.1) := ⟨_, rfl⟩
        have hflen : fl.length = mf.length := by rw [hfl, List.length_map]
        rw [← hfl, ← hflen] at HF2
        rw [← hflen]
        have hfl8 : fl.length ≤ 8 := by omega
        have HFLE := Aside0.mk hfl
        have HPL := Aside0.mk (show ∀ x ∈ fl, x.length ≤ 1000 from fun x hx => by
          rw [hfl] at hx
          obtain ⟨n, hn, hp⟩ := (HMEM.out x).1 hx
          exact (hS.ps _ hp).2)
        clear hfl hflen h8
        go_loopw [38, 12] (fun i v wr => ∃ k : Nat, k ≤ fl.length ∧ i = .int .i64 k ∧ Kd.N (Kd.slice 5 (Kd.int .u8)) 24 wr w1.heap.size (fun b => w1.heap.size ≤ b) v ((fl.take k).map ints) ∧ Below w1.heap.size w1 wr) (fun i _ _ => fl.length - (intOf i).toNat)
        case atStart => exact ⟨0, Nat.zero_le _, rfl, Kd.N_nil _ _ _ _ _, Below.refl _ _⟩
        case round =>
          as_aux_lemma =>
            obtain ⟨k, hk, rfl, hN, hbr⟩ := hrel
            have HN2 := Aside0.mk hN
            have HBR2 := Aside0.mk hbr
            by_cases hlt : k < fl.length
            · obtain ⟨ad, rfl, hcell⟩ := str_at (l := fl) (Kd.F_below HF2.out hbr) hlt
              have hxl : fl[k].length ≤ 1000 := HPL.out _ (List.getElem_mem hlt)
              obtain ⟨w2, c3, hrun, hc3, hf3, hb3⟩ := conv_str wr (mkS fl[k]) (by rw [mkS_size]; omega)
              rw [bz_mkS, mkS_size] at hf3
              rw [mkS_size] at hrun hc3
              have HF3 := Aside0.mk hf3
              have HB3 := Aside0.mk hb3
              have HBR3 := Aside0.mk (below_up hbr hb3 hbr.size)
              clear hN hbr hf3 hb3
              go_wp2_with (at_builtin; refine stop_at ?_)
              unfold Stop
              refine Kd.N_append (Kd.slice 5 (Kd.int .u8)) (w0 := w1) w1.heap.size rfl _ _ 35 24 _ 24 rfl Tryz.underlying35 info24 rfl (by decide) (by decide) _ ((fl.take k).map ints) (ints fl[k]) [.slice (some ⟨wr.heap.size, 0, none⟩) fl[k].length c3] (fun b => w1.heap.size ≤ b) (fun b => wr.heap.size ≤ b) rfl rfl ?hp ?hok ?fresh ?HO ?HB ?hbase ?hl ?_
              case hp =>
                have := Kd.FK_slice_mk (e := 5) (l := ints fl[k]) (c := c3) (A := some ⟨wr.heap.size, 0, none⟩) (d := Kd.int .u8) (W := w2) (ok := fun b => wr.heap.size ≤ b) (by rw [ints_length]; exact hc3) (by rw [ints_length]; exact HF3.out)
                rwa [ints_length] at this
              case hok => exact fun b hb => ⟨Nat.le_trans HBR2.out.size hb, N_lt_own HN2.out b hb⟩
              case fresh => exact fun b hb => Nat.le_trans HBR3.out.size hb
              case HO => exact Kd.N_below HN2.out HB3.out
              case HB => exact HBR3.out
              case hbase => exact HBR3.out.size
              case hl => simp; omega
              intro v1 w4 hN4 hB4 hg4 hat4
              have HN4 := Aside0.mk hN4
              have HB4 := Aside0.mk hB4
              clear hN4 hB4 hg4 hat4
              go_wp2_with fail
              exact ⟨⟨k + 1, by omega, by go_num, by rw [take_map_snoc _ _ _ hlt]; exact HN4.out, HB4.out⟩, by simp [intOf]; omega⟩
            · obtain rfl : k = fl.length := by omega
              clear hN hbr
              go_wp2_with fail
              go_ret2
              have hV := Kd.N_V (base' := 0) HN2.out
              rw [List.take_length] at hV
              obtain ⟨A5, c5, e5, hl5, hf5⟩ := hV
              have hNW : W.heap.size ≤ w1.heap.size := Nat.le_trans (Nat.le_trans (Nat.le_of_eq HN.out.symm) (Nat.le_trans (Nat.le_of_eq HN.out) HBR.out.size)) HB1.out.size
              refine ⟨_, 0, fl, rfl, ⟨A5, c5, e5, hl5, Kd.F_mono hf5 (fun b hb => Nat.le_trans hNW hb)⟩, .inr ⟨HALL.out, fl, HFLE.out ▸ HFL.out, HFLE.out ▸ HMEM.out, .inr ⟨hfl8, rfl, rfl⟩⟩, ?_⟩
              have hbr0 : Below W.heap.size W wo := by have h := HBR.out; rw [HN.out] at h; exact h
              exact hbr0.trans ((HB1.out.mono hbr0.size).trans (HBR2.out.mono hNW))
end Go.Proofs.YtflioeiklcnncaaGreatDoor.Ri

set_option linter.unusedVariables false
set_option linter.unusedSimpArgs false
namespace Go.Proofs.YtflioeiklcnncaaGreatDoor.Ri
open Go.RowKit Go.Maps Go.Sort Go.Proofs.YtflioeiklcnncaaGreatDoorW.PrintWords Go.Proofs.YtflioeiklcnncaaGreatDoor.PRing

/-! ### a heap, plainly -/
def Le (a b : B) : Prop := bytesBefore b a = false
theorem Le.refl (a : B) : Le a a := bb_irrefl a
theorem Le.of_lt {a b : B} (h : bytesBefore a b = true) : Le a b := bb_asymm h
theorem Le.of_not {a b : B} (h : bytesBefore a b = false) : Le b a := h
theorem Le.trans {a b c : B} (h : Le a b) (k : Le b c) : Le a c := by
  unfold Le at *
  cases e : bytesBefore c a with
  | false => rfl
  | true =>
    rcases bb_total a b with h1 | rfl | h1
    · have := bb_trans e h1; rw [k] at this; cases this
    · rw [k] at e; cases e
    · rw [h] at h1; cases h1
theorem Le.eq_or {a b : B} (h : Le a b) : a = b ∨ bytesBefore a b = true := by
  rcases bb_total a b with h1 | rfl | h1
  · exact .inr h1
  · exact .inl rfl
  · unfold Le at h; rw [h] at h1; cases h1

def gt (l : List B) (x : Nat) : B := l.getD x []
theorem gt_lt {l : List B} {x : Nat} (h : x < l.length) : gt l x = l[x] := by simp [gt, h]
def swp (l : List B) (i k : Nat) : List B := (l.set i (gt l k)).set k (gt l i)
theorem swp_length (l : List B) (i k : Nat) : (swp l i k).length = l.length := by simp [swp]
theorem swp_gt {l : List B} {i k : Nat} (hi : i < l.length) (hk : k < l.length) (x : Nat) : gt (swp l i k) x = if x = k then gt l i else if x = i then gt l k else gt l x := by
  unfold gt swp
  simp only [List.getD_eq_getElem?_getD, List.getElem?_set, List.length_set]
  by_cases h1 : x = k
  · subst h1; simp [hk]; rfl
  · have h1' : ¬ k = x := fun e => h1 e.symm
    rw [if_neg h1', if_neg h1]
    by_cases h2 : x = i
    · subst h2; simp [hi]; rfl
    · have h2' : ¬ i = x := fun e => h2 e.symm
      rw [if_neg h2', if_neg h2]
theorem swp_perm {l : List B} {i k : Nat} (hi : i < l.length) (hk : k < l.length) : (swp l i k).Perm l := by
  unfold swp
  rw [gt_lt hi, gt_lt hk]
  exact List.set_set_perm hi hk
def IsHeap (l : List B) (n : Nat) : Prop := ∀ i, 0 < i → i < n → Le (gt l ((i - 1) / 2)) (gt l i)
def UpInv (l : List B) (j : Nat) : Prop :=
  (∀ i, 0 < i → i < l.length → i ≠ j → Le (gt l ((i - 1) / 2)) (gt l i)) ∧ (0 < j → ∀ i, 0 < i → i < l.length → (i - 1) / 2 = j → Le (gt l ((j - 1) / 2)) (gt l i))
def DownInv (l : List B) (n i : Nat) : Prop :=
  (∀ k, 0 < k → k < n → (k - 1) / 2 ≠ i → Le (gt l ((k - 1) / 2)) (gt l k)) ∧ (0 < i → ∀ k, 0 < k → k < n → (k - 1) / 2 = i → Le (gt l ((i - 1) / 2)) (gt l k))
theorem up_stop {l : List B} {j : Nat} (h : UpInv l j) (hj : j = 0 ∨ bytesBefore (gt l j) (gt l ((j - 1) / 2)) = false) : IsHeap l l.length := by
  intro i h0 h1
  by_cases hij : i = j
  · subst hij
    rcases hj with hj | hj
    · omega
    · exact hj
  · exact h.1 i h0 h1 hij
theorem up_step {l : List B} {j : Nat} (h : UpInv l j) (hjl : j < l.length) (hj0 : 0 < j) (hj : bytesBefore (gt l j) (gt l ((j - 1) / 2)) = true) : UpInv (swp l ((j - 1) / 2) j) ((j - 1) / 2) := by
  obtain ⟨p, hp⟩ : ∃ p, p = (j - 1) / 2 := ⟨_, rfl⟩
  rw [← hp] at hj ⊢
  have hpl : p < l.length := by omega
  have hpj : p ≠ j := by omega
  refine ⟨fun i h0 h1 hip => ?_, fun hp0 i h0 h1 hip => ?_⟩
  · rw [swp_length] at h1
    rw [swp_gt hpl hjl, swp_gt hpl hjl]
    by_cases e1 : i = j
    · subst e1
      rw [if_pos rfl, ← hp, if_neg hpj, if_pos rfl]
      exact Le.of_lt hj
    · rw [if_neg e1, if_neg hip]
      by_cases e2 : (i - 1) / 2 = j
      · rw [if_pos e2]
        have := h.2 hj0 i h0 h1 e2
        rwa [← hp] at this
      · rw [if_neg e2]
        have := h.1 i h0 h1 e1
        by_cases e3 : (i - 1) / 2 = p
        · rw [if_pos e3]
          rw [e3] at this
          exact (Le.of_lt hj).trans this
        · rw [if_neg e3]; exact this
  · rw [swp_length] at h1
    rw [swp_gt hpl hjl, swp_gt hpl hjl]
    have hpp : Le (gt l ((p - 1) / 2)) (gt l p) := h.1 p hp0 hpl hpj
    have e1 : ¬ (p - 1) / 2 = j := by omega
    have e2 : ¬ (p - 1) / 2 = p := by omega
    rw [if_neg e1, if_neg e2]
    by_cases e3 : i = j
    · rw [if_pos e3]; exact hpp
    · have e4 : ¬ i = p := by omega
      rw [if_neg e3, if_neg e4]
      have := h.1 i h0 h1 e3
      rw [hip] at this
      exact hpp.trans this
theorem down_stop {l : List B} {n i : Nat} (h : DownInv l n i) (hi : n ≤ 2 * i + 1 ∨ (Le (gt l i) (gt l (2 * i + 1)) ∧ (2 * i + 2 < n → Le (gt l i) (gt l (2 * i + 2))))) : IsHeap l n := by
  intro k h0 h1
  by_cases e : (k - 1) / 2 = i
  · rw [e]
    rcases hi with hi | ⟨ha, hb⟩
    · omega
    · have : k = 2 * i + 1 ∨ k = 2 * i + 2 := by omega
      rcases this with rfl | rfl
      · exact ha
      · exact hb h1
  · exact h.1 k h0 h1 e
theorem down_step {l : List B} {n i j : Nat} (h : DownInv l n i) (hnl : n ≤ l.length) (hjn : j < n) (hj : j = 2 * i + 1 ∨ j = 2 * i + 2) (hlt : bytesBefore (gt l j) (gt l i) = true)
    (hsib : ∀ k, k < n → (k = 2 * i + 1 ∨ k = 2 * i + 2) → Le (gt l j) (gt l k)) : DownInv (swp l i j) n j := by
  have hil : i < l.length := by omega
  have hjl : j < l.length := by omega
  refine ⟨fun k h0 h1 hk => ?_, fun hj0 k h0 h1 hk => ?_⟩
  · rw [swp_gt hil hjl, swp_gt hil hjl]
    rw [if_neg hk]
    by_cases e1 : (k - 1) / 2 = i
    · rw [if_pos e1]
      by_cases e2 : k = j
      · rw [if_pos e2]; exact Le.of_lt hlt
      · have e3 : ¬ k = i := by omega
        rw [if_neg e2, if_neg e3]
        exact hsib k h1 (by omega)
    · rw [if_neg e1]
      by_cases e2 : k = j
      · omega
      · rw [if_neg e2]
        by_cases e3 : k = i
        · rw [if_pos e3]
          have h0i : 0 < i := by omega
          rw [e3]
          exact h.2 h0i j (by omega) hjn (by omega)
        · rw [if_neg e3]
          exact h.1 k h0 h1 e1
  · rw [swp_gt hil hjl, swp_gt hil hjl]
    have e1 : (j - 1) / 2 = i := by omega
    rw [e1]
    have e2 : ¬ i = j := by omega
    rw [if_neg e2, if_pos rfl]
    have e3 : ¬ k = j := by omega
    have e4 : ¬ k = i := by omega
    rw [if_neg e3, if_neg e4]
    have := h.1 k h0 h1 (by omega)
    rwa [hk] at this
theorem heap_least {l : List B} (h : IsHeap l l.length) : ∀ i, i < l.length → Le (gt l 0) (gt l i) := by
  intro i
  induction i using Nat.strongRecOn with
  | _ i ih =>
    intro hi
    by_cases h0 : i = 0
    · subst h0; exact Le.refl _
    · exact (ih ((i - 1) / 2) (by omega) (by omega)).trans (h i (by omega) hi)
theorem up_snoc {l : List B} {x : B} (h : IsHeap l l.length) : UpInv (l ++ [x]) l.length := by
  have hg : ∀ i, i < l.length → gt (l ++ [x]) i = gt l i := fun i hi => by
    unfold gt
    rw [List.getD_eq_getElem?_getD, List.getD_eq_getElem?_getD, List.getElem?_append_left hi]
  refine ⟨fun i h0 h1 h2 => ?_, fun h0 i h1 h2 h3 => ?_⟩
  · have hi : i < l.length := by simp at h1; omega
    rw [hg _ (by omega), hg _ hi]
    exact h i h0 hi
  · simp at h2; omega
theorem down_pop {l : List B} {n : Nat} (h : IsHeap l l.length) (hn : l.length = n + 1) : DownInv (swp l 0 n) n 0 := by
  have h0 : 0 < l.length := by omega
  have h1 : n < l.length := by omega
  refine ⟨fun k k0 k1 k2 => ?_, fun e => absurd e (Nat.lt_irrefl _)⟩
  rw [swp_gt h0 h1, swp_gt h0 h1, if_neg (by omega), if_neg k2, if_neg (by omega), if_neg (by omega)]
  exact h k k0 (by omega)
theorem heap_take {l : List B} {n : Nat} (h : IsHeap l n) (hn : n ≤ l.length) : IsHeap (l.take n) (l.take n).length := by
  intro i h0 h1
  have h2 : i < n := by simp at h1; omega
  have hg : ∀ i, i < n → gt (l.take n) i = gt l i := fun i hi => by
    unfold gt
    rw [List.getD_eq_getElem?_getD, List.getD_eq_getElem?_getD, List.getElem?_take, if_pos hi]
  rw [hg _ (by omega), hg _ h2]
  exact h i h0 h2
end Go.Proofs.YtflioeiklcnncaaGreatDoor.Ri

set_option linter.unusedVariables false
set_option linter.unusedSimpArgs false
namespace Go.Proofs.YtflioeiklcnncaaGreatDoor.Ri
open Go.RowKit Go.Maps Go.Sort Go.Proofs.YtflioeiklcnncaaGreatDoorW.PrintWords Go.Proofs.YtflioeiklcnncaaGreatDoor.PRing

/-! ### rows of strings of one's own -/
def Own (W : World) (v : Value) (l : List B) : Prop := Kd.N Kd.string 9 W 0 (fun k => v.ownBlock = some k) v (l.map mkS)
theorem own_of {W : World} {base : Nat} {ok : Nat → Prop} {v : Value} {l : List B} (h : Kd.N Kd.string 9 W base ok v (l.map mkS)) : Own W v l := by
  obtain ⟨h0, rows, hl, hR, hf⟩ := Kd.N_lower h (Nat.zero_le _)
  refine ⟨fun k hk => hk, rows, hl, hR, fun j x c hx hc => ?_⟩
  have h1 := Kd.FK_now (hf j x c hx hc)
  exact fun W' _ => h1
theorem Own.nil (W : World) : Own W (.slice none 0 0) [] := own_of (Kd.N_nil (Kd.string) 9 W 0 (fun _ => True))
theorem Own.step {W W' : World} {v : Value} {l : List B} (h : Own W v l) (hm : ∀ k, v.ownBlock = some k → W'.heap[k]? = W.heap[k]?) : Own W' v l :=
  Kd.N_step h (fun k hk _ => hm k hk)
theorem Own.grown {W W' : World} {v : Value} {l : List B} {row : Option Nat} (h : Own W v l) (hg : W.grownBy W' row) (hne : v.ownBlock = none ∨ v.ownBlock ≠ row) : Own W' v l :=
  Kd.N_grown h hg (fun k hk e => by
    rcases hne with h1 | h1
    · rw [h1] at hk; cases hk
    · exact h1 (hk.trans e))
theorem Own.turn {S : Nat → Prop} {W W' : World} {v : Value} {l : List B} (h : Own W v l) (ht : Turn S W W') (hne : ∀ k, v.ownBlock = some k → ¬ S k) : Own W' v l :=
  Kd.N_step h (fun k hk hlt => ht.block k hlt (hne k hk))
theorem Own.lt {W : World} {v : Value} {l : List B} (h : Own W v l) : ∀ k, v.ownBlock = some k → k < W.heap.size := Kd.N_lt h
theorem Own.slice {W : World} {v : Value} {l : List B} (h : Own W v l) : ∃ A c, v = .slice A l.length c := by
  have := Kd.N_slice h
  rwa [List.length_map] at this
theorem Own.typed {W : World} {v : Value} {l : List B} (h : Own W v l) : ∀ k, v.ownBlock = some k → ∃ cells, W.heap[k]? = some (.cells cells 9 (0, 0)) := Kd.N_typed h
theorem Own.form {W : World} {v : Value} {l : List B} (h : Own W v l) (hp : 0 < l.length) : ∃ g c, v = .slice (some ⟨g, 0, none⟩) l.length c := by
  obtain ⟨g, c, e, _⟩ := Kd.N_form h (by rwa [List.length_map])
  rw [List.length_map] at e
  exact ⟨g, c, e⟩
theorem Own.elem {W : World} {g n c : Nat} {l : List B} (h : Own W (.slice (some ⟨g, 0, none⟩) n c) l) {i : Nat} (hi : i < l.length) (hn : n = l.length) :
    W.cell? ⟨g, i, none⟩ = some (.string (mkS l[i])) ∧ W.frozen? ⟨g, i, none⟩ = false := by
  obtain ⟨cs, hcl, hK, hcc, hfr⟩ := Kd.N_elem h (mkS []) (i : Int) (by omega) (by omega)
  have hk : cs = [.string (((l.map mkS)).getD (i : Int).toNat (mkS []))] := Kd.FK_now hK
  have e : ((l.map mkS)).getD (i : Int).toNat (mkS []) = mkS l[i] := by simp [hi]
  rw [e] at hk
  have h1 := hcc 0 _ (by rw [hk]; rfl)
  have h2 := hfr 0
  simp only [Int.toNat_natCast, Kd.string, Kd.scalar, Nat.mul_one, Nat.add_zero] at h1 h2
  exact ⟨h1, h2⟩
theorem Own.set {W : World} {g n c : Nat} {l : List B} (h : Own W (.slice (some ⟨g, 0, none⟩) n c) l) {i : Nat} (hi : i < l.length) (hn : n = l.length) (x : B) :
    Own (W.setCell ⟨g, i, none⟩ (.string (mkS x))) (.slice (some ⟨g, 0, none⟩) n c) (l.set i x) := by
  have h1 := Kd.N_seg h (i : Int) (by omega) (by omega) (c := [.string (mkS l[i])]) (seg := [.string (mkS x)]) (j := 0) (x' := mkS x) (okp := fun _ => False) rfl
    (fun j u hj => by
      cases j with
      | zero =>
        simp only [List.getElem?_cons_zero, Option.some.injEq] at hj
        subst hj
        have := (h.elem hi hn).1
        simpa [Kd.string, Kd.scalar] using this
      | succ j => simp at hj)
    (by simp [Kd.string, Kd.scalar]) (fun _ _ => rfl) (fun _ hk => hk.elim)
  have h2 := h1.1
  simp only [Int.toNat_natCast, Kd.string, Kd.scalar, Nat.mul_one, Nat.add_zero, World.setCells] at h2
  have h3 : (l.map mkS).set i (mkS x) = (l.set i x).map mkS := by rw [List.map_set]
  rw [h3] at h2
  exact own_of (base := 0) h2
theorem Own.V {W : World} {v : Value} {l : List B} (h : Own W v l) : Strs W (fun k => v.ownBlock = some k) v l := by
  obtain ⟨A, c, e, hl, hf⟩ := Kd.N_V (base' := 0) h
  exact ⟨A, c, e, hl, hf⟩

/-! ### the methods of names -/
set_option maxRecDepth 100000 in
theorem Len_calls {W : World} {n c : Nat} {A : Option Addr} : Calls Tryz.prog 40 #[.slice A n c] W fun e w' => e = .returned (.int .i64 n) ∧ w' = W := by
  go_enter Tryz.func40, Tryz.ntmps40
  go_wp2_with fail
  go_ret
  exact ⟨rfl, rfl⟩
theorem bl_bb : ∀ a b : B, Op.bytesLess a b = bytesBefore a b
  | _, [] => by cases ‹List UInt8› <;> rfl
  | [], _ :: _ => rfl
  | x :: a, y :: b => by
    unfold Op.bytesLess bytesBefore
    rw [bl_bb a b]
    try (split <;> simp_all)
theorem mkS_toList (a : B) : (mkS a).toList = a := by
  exact ByteArray.toList_mk a
set_option maxRecDepth 100000 in
theorem Less_calls {W : World} {g n c : Nat} {l : List B} (h : Own W (.slice (some ⟨g, 0, none⟩) n c) l) (hn : n = l.length) {i k : Nat} (hi : i < l.length) (hk : k < l.length) (hb : l.length ≤ 1000000) :
    Calls Tryz.prog 162 #[.slice (some ⟨g, 0, none⟩) n c, .int .i64 i, .int .i64 k] W fun e w' => e = .returned (.bool (bytesBefore l[i] l[k])) ∧ w' = W.drew := by
  have h1 := (h.elem hi hn).1
  have h2 := (h.elem hk hn).1
  have hin : i < n := by omega
  have hkn : k < n := by omega
  clear h
  go_enter Tryz.func162, Tryz.ntmps162
  go_wp2_with fail
  go_region
  go_wp2_with fail
  go_ret
  rw [mkS_toList, mkS_toList, bl_bb]
  exact ⟨rfl, rfl⟩
set_option maxRecDepth 100000 in
theorem Swap_calls {W : World} {g n c : Nat} {l : List B} (h : Own W (.slice (some ⟨g, 0, none⟩) n c) l) (hn : n = l.length) {i k : Nat} (hi : i < l.length) (hk : k < l.length) (hb : l.length ≤ 1000000) :
    Calls Tryz.prog 165 #[.slice (some ⟨g, 0, none⟩) n c, .int .i64 i, .int .i64 k] W fun e w' => e = .returned (.tuple #[]) ∧ w' = ((W.setCell ⟨g, i, none⟩ (.string (mkS l[k]))).setCell ⟨g, k, none⟩ (.string (mkS l[i]))).drew := by
  obtain ⟨h1, f1⟩ := h.elem hi hn
  obtain ⟨h2, f2⟩ := h.elem hk hn
  have hin : i < n := by omega
  have hkn : k < n := by omega
  obtain ⟨u, h3⟩ : ∃ u, (W.setCell ⟨g, i, none⟩ (.string (mkS l[k]))).cell? ⟨g, k, none⟩ = some u := by
    have h4 := (h.set hi hn l[k]).elem (i := k) (by simpa using hk) (by simpa using hn)
    exact ⟨_, h4.1⟩
  clear h
  go_enter Tryz.func165, Tryz.ntmps165
  go_wp2_with fail
  go_region
  go_wp2_with fail
  go_end0
  exact ⟨rfl, rfl⟩
theorem Own.swap {W : World} {g n c : Nat} {l : List B} (h : Own W (.slice (some ⟨g, 0, none⟩) n c) l) (hn : n = l.length) {i k : Nat} (hi : i < l.length) (hk : k < l.length) :
    Own ((W.setCell ⟨g, i, none⟩ (.string (mkS l[k]))).setCell ⟨g, k, none⟩ (.string (mkS l[i]))).drew (.slice (some ⟨g, 0, none⟩) n c) (swp l i k) := by
  have h1 := (h.set hi hn l[k]).set (i := k) (by simpa using hk) (by simpa using hn) l[i]
  unfold swp
  rw [gt_lt hi, gt_lt hk]
  exact h1.step (fun _ _ => rfl)

/-! ### the heap in memory -/
structure HeapAt (W : World) (b : Nat) (v : Value) (l : List B) : Prop where
  blk : W.heap[b]? = some (.cells #[v] 76 (0, 0))
  own : Own W v l
theorem HeapAt.ne {W : World} {b : Nat} {v : Value} {l : List B} (h : HeapAt W b v l) : v.ownBlock ≠ some b := fun e => by
  obtain ⟨cs, hc⟩ := h.own.typed b e
  rw [h.blk] at hc
  simp at hc
theorem HeapAt.cell {W : World} {b : Nat} {v : Value} {l : List B} (h : HeapAt W b v l) : W.cell? ⟨b, 0, none⟩ = some v ∧ W.frozen? ⟨b, 0, none⟩ = false := cell_of_blk h.blk
theorem n_len (w : World) (b : Nat) : (nilAhead 303 75 (.pointer (some ⟨b, 0, none⟩)) "Len").run Tryz.prog w = .ok (some false) w := by kernel_rfl
theorem n_less (w : World) (b : Nat) : (nilAhead 303 75 (.pointer (some ⟨b, 0, none⟩)) "Less").run Tryz.prog w = .ok (some false) w := by kernel_rfl
theorem n_swap (w : World) (b : Nat) : (nilAhead 303 75 (.pointer (some ⟨b, 0, none⟩)) "Swap").run Tryz.prog w = .ok (some false) w := by kernel_rfl
theorem n_push (w : World) (b : Nat) : (nilAhead 303 75 (.pointer (some ⟨b, 0, none⟩)) "Push").run Tryz.prog w = .ok (some false) w := by kernel_rfl
theorem n_pop (w : World) (b : Nat) : (nilAhead 303 75 (.pointer (some ⟨b, 0, none⟩)) "Pop").run Tryz.prog w = .ok (some false) w := by kernel_rfl
theorem m_push (w : World) (b : Nat) : (method 303 75 (.pointer (some ⟨b, 0, none⟩)) "Push").run Tryz.prog w = .ok (164, .pointer (some ⟨b, 0, none⟩)) w := by kernel_rfl
theorem m_pop (w : World) (b : Nat) : (method 303 75 (.pointer (some ⟨b, 0, none⟩)) "Pop").run Tryz.prog w = .ok (163, .pointer (some ⟨b, 0, none⟩)) w := by kernel_rfl
theorem lv {w : World} {b : Nat} {v : Value} (h : w.cell? ⟨b, 0, none⟩ = some v) (f : FuncId) : (do let v ← loadVar 76 ⟨b, 0, none⟩; pure (f, v) : Sem (FuncId × Value)).run Tryz.prog w = .ok (f, v) w := by
  have e : (loadVar 76 ⟨b, 0, none⟩).run Tryz.prog w = (load ⟨b, 0, none⟩).run Tryz.prog w := by kernel_rfl
  have e2 : (load ⟨b, 0, none⟩).run Tryz.prog w = .ok v w := by
    go_simp
  rw [Sem.run_bind, e, e2]
  rfl
theorem m_len {w : World} {b : Nat} {v : Value} (h : w.cell? ⟨b, 0, none⟩ = some v) : (method 303 75 (.pointer (some ⟨b, 0, none⟩)) "Len").run Tryz.prog w = .ok (40, v) w := by
  have e : (method 303 75 (.pointer (some ⟨b, 0, none⟩)) "Len").run Tryz.prog w = (do let v ← loadVar 76 ⟨b, 0, none⟩; pure ((40 : FuncId), v) : Sem (FuncId × Value)).run Tryz.prog w := by kernel_rfl
  rw [e]; exact lv h _
theorem m_less {w : World} {b : Nat} {v : Value} (h : w.cell? ⟨b, 0, none⟩ = some v) : (method 303 75 (.pointer (some ⟨b, 0, none⟩)) "Less").run Tryz.prog w = .ok (162, v) w := by
  have e : (method 303 75 (.pointer (some ⟨b, 0, none⟩)) "Less").run Tryz.prog w = (do let v ← loadVar 76 ⟨b, 0, none⟩; pure ((162 : FuncId), v) : Sem (FuncId × Value)).run Tryz.prog w := by kernel_rfl
  rw [e]; exact lv h _
theorem m_swap {w : World} {b : Nat} {v : Value} (h : w.cell? ⟨b, 0, none⟩ = some v) : (method 303 75 (.pointer (some ⟨b, 0, none⟩)) "Swap").run Tryz.prog w = .ok (165, v) w := by
  have e : (method 303 75 (.pointer (some ⟨b, 0, none⟩)) "Swap").run Tryz.prog w = (do let v ← loadVar 76 ⟨b, 0, none⟩; pure ((165 : FuncId), v) : Sem (FuncId × Value)).run Tryz.prog w := by kernel_rfl
  rw [e]; exact lv h _
theorem HeapAt.swap {W : World} {b g n c : Nat} {l : List B} (h : HeapAt W b (.slice (some ⟨g, 0, none⟩) n c) l) (hn : n = l.length) {i k : Nat} (hi : i < l.length) (hk : k < l.length) :
    HeapAt ((W.setCell ⟨g, i, none⟩ (.string (mkS l[k]))).setCell ⟨g, k, none⟩ (.string (mkS l[i]))).drew b (.slice (some ⟨g, 0, none⟩) n c) (swp l i k) := by
  refine ⟨?_, h.own.swap hn hi hk⟩
  have hne : g ≠ b := fun e => h.ne (by simp [Value.ownBlock, e])
  have e1 : ((W.setCell ⟨g, i, none⟩ (.string (mkS l[k]))).setCell ⟨g, k, none⟩ (.string (mkS l[i]))).drew.heap[b]? = W.heap[b]? := by
    have h1 := Below.heap_setCell (W.setCell ⟨g, i, none⟩ (.string (mkS l[k]))) ⟨g, k, none⟩ (.string (mkS l[i])) b (fun e => hne e.symm)
    have h2 := Below.heap_setCell W ⟨g, i, none⟩ (.string (mkS l[k])) b (fun e => hne e.symm)
    exact h1.trans h2
  rw [e1]; exact h.blk
theorem draw_turn (S : Nat → Prop) (W : World) : Turn S W W.drew := ⟨rfl, rfl, rfl, Nat.le_refl _, fun _ _ _ => rfl⟩
theorem swap_turn (W : World) (g i k : Nat) (x y : Value) : Turn (fun q => q = g) W ((W.setCell ⟨g, i, none⟩ x).setCell ⟨g, k, none⟩ y).drew :=
  (Turn.of_set W ⟨g, i, none⟩ x).trans ((Turn.of_set _ ⟨g, k, none⟩ y).trans ⟨rfl, rfl, rfl, Nat.le_refl _, fun _ _ _ => rfl⟩)
set_option maxRecDepth 100000 in
set_option maxHeartbeats 4000000 in
theorem up_calls {W : World} {b g n c : Nat} {l : List B} (h : HeapAt W b (.slice (some ⟨g, 0, none⟩) n c) l) (hn : n = l.length) {j : Nat} (hj : j < l.length) (hb : l.length ≤ 1000000) (hi : UpInv l j) :
    Calls Tryz.prog 61 #[.iface 75 (.pointer (some ⟨b, 0, none⟩)), .int .i64 j] W fun e w' => e = .returned (.tuple #[]) ∧ ∃ l', HeapAt w' b (.slice (some ⟨g, 0, none⟩) n c) l' ∧ l'.Perm l ∧ IsHeap l' l'.length ∧ Turn (fun k => k = g) W w' := by
  have H := Aside0.mk h
  have HI := Aside0.mk hi
  have HNL := Aside0.mk hn
  clear h hi hn
  go_enter Tryz.func61, Tryz.ntmps61
  go_wp2_with fail
  go_loopw [1] (fun i wr => ∃ j' l', i = .int .i64 (j' : Nat) ∧ j' < l.length ∧ HeapAt wr b (.slice (some ⟨g, 0, none⟩) n c) l' ∧ l'.Perm l ∧ UpInv l' j' ∧ Turn (fun k => k = g) W wr) (fun i _ => (intOf i).toNat)
  case atStart => exact ⟨j, l, rfl, hj, H.out, .refl _, HI.out, Turn.refl _ _⟩
  case round =>
    obtain ⟨j', l', rfl, hjl, hH, hP, hU, hT⟩ := hrel
    have HP := Aside0.mk hP
    have HU := Aside0.mk hU
    have HT := Aside0.mk hT
    have HH := Aside0.mk hH
    have hlen := hP.length_eq
    have cb := hH.cell.1
    clear hP hU hT hH
    by_cases h0 : j' = 0
    · subst h0
      as_aux_lemma =>
        go_wp2_with fail
        go_end0
        exact ⟨rfl, l', HH.out, HP.out, up_stop HU.out (.inl rfl), HT.out⟩
    · obtain ⟨p, hp⟩ : ∃ p, p = (j' - 1) / 2 := ⟨_, rfl⟩
      have hq : Int.tdiv ((j' : Int) - 1) 2 = (p : Int) := by
        rw [Int.tdiv_eq_ediv_of_nonneg (by omega)]; omega
      have hpj : ¬ (p : Int) = (j' : Int) := by omega
      have hpl : p < l'.length := by omega
      have hjl' : j' < l'.length := by omega
      have ml := m_less cb
      have nl := n_less wr b
      have hless := Less_calls HH.out.own (by have := HNL.out; omega) hjl' hpl (by omega)
      have hx : gt l' j' = l'[j'] := gt_lt hjl'
      have hy : gt l' p = l'[p] := gt_lt hpl
      rw [← hx, ← hy] at hless
      have HX := Aside0.mk hx
      have HY := Aside0.mk hy
      have hbr : bytesBefore (gt l' j') (gt l' p) = true ∨ bytesBefore (gt l' j') (gt l' p) = false := by cases bytesBefore (gt l' j') (gt l' p) <;> simp
      generalize hlt : bytesBefore (gt l' j') (gt l' p) = lt at hless hbr
      have HLT := Aside0.mk hlt
      have HP2 := Aside0.mk hp
      clear hlt hx hy hp
      cases lt with
      | false =>
        as_aux_lemma =>
          go_wp2_with fail
          refine hless.mono ?_
          rintro e w' ⟨rfl, rfl⟩
          go_wp2_with fail
          go_end0
          exact ⟨rfl, l', ⟨HH.out.blk, HH.out.own.step (fun _ _ => rfl)⟩, HP.out, up_stop HU.out (.inr (HP2.out ▸ HLT.out)), HT.out.trans (draw_turn _ _)⟩
      | true =>
        as_aux_lemma =>
          have cb2 : wr.drew.cell? ⟨b, 0, none⟩ = some (.slice (some ⟨g, 0, none⟩) n c) := cb
          have ms := m_swap cb2
          have ns := n_swap wr.drew b
          have hH2 : HeapAt wr.drew b (.slice (some ⟨g, 0, none⟩) n c) l' := ⟨HH.out.blk, HH.out.own.step (fun _ _ => rfl)⟩
          have hswap := Swap_calls hH2.own (by have := HNL.out; omega) hpl hjl' (by omega)
          have HH2 := Aside0.mk hH2
          have HSW := Aside0.mk hswap
          clear hH2 hswap
          go_wp2_with fail
          refine hless.mono ?_
          rintro e w' ⟨rfl, rfl⟩
          go_wp2_with fail
          refine HSW.out.mono ?_
          rintro e w' ⟨rfl, rfl⟩
          go_wp2_with fail
          refine ⟨⟨p, swp l' p j', rfl, by omega, HH2.out.swap (by have := HNL.out; omega) hpl hjl', (swp_perm hpl hjl').trans HP.out, ?_, HT.out.trans ((draw_turn _ _).trans (swap_turn _ g p j' _ _))⟩, by have := HP2.out; simp [intOf]; omega⟩
          rw [HP2.out]
          exact up_step HU.out hjl' (by omega) (HP2.out ▸ HLT.out)
theorem draw2_turn (S : Nat → Prop) (W W' : World) (h : W' = { W with drawn := W'.drawn }) : Turn S W W' := by
  rw [h]; exact ⟨rfl, rfl, rfl, Nat.le_refl _, fun _ _ _ => rfl⟩
set_option maxRecDepth 100000 in
set_option maxHeartbeats 4000000 in
theorem down_calls {W : World} {b g n c : Nat} {l : List B} (h : HeapAt W b (.slice (some ⟨g, 0, none⟩) n c) l) (hn : n = l.length) {m : Nat} (hm1 : l.length = m + 1) (hb : l.length ≤ 1000000) (hi : DownInv l m 0) :
    Calls Tryz.prog 62 #[.iface 75 (.pointer (some ⟨b, 0, none⟩)), .int .i64 0, .int .i64 m] W fun e w' => (∃ v, e = .returned v) ∧ ∃ l', HeapAt w' b (.slice (some ⟨g, 0, none⟩) n c) l' ∧ l'.Perm l ∧ IsHeap l' m ∧ gt l' m = gt l m ∧ Turn (fun k => k = g) W w' := by
  have H := Aside0.mk h
  have HI := Aside0.mk hi
  have HNL := Aside0.mk hn
  clear h hi hn
  go_enter Tryz.func62, Tryz.ntmps62
  go_wp2_with fail
  go_loopw [7] (fun i wr => ∃ i' l', i = .int .i64 (i' : Nat) ∧ i' < l.length ∧ HeapAt wr b (.slice (some ⟨g, 0, none⟩) n c) l' ∧ l'.Perm l ∧ DownInv l' m i' ∧ gt l' m = gt l m ∧ Turn (fun k => k = g) W wr) (fun i _ => l.length - (intOf i).toNat)
  case atStart => exact ⟨0, l, rfl, by omega, H.out, .refl _, HI.out, rfl, Turn.refl _ _⟩
  case round =>
    obtain ⟨i', l', rfl, hil, hH, hP, hU, hG, hT⟩ := hrel
    have HP := Aside0.mk hP
    have HU := Aside0.mk hU
    have HT := Aside0.mk hT
    have HH := Aside0.mk hH
    have HG := Aside0.mk hG
    have hlen := hP.length_eq
    have cb := hH.cell.1
    clear hP hU hT hH hG
    by_cases hend : m ≤ 2 * i' + 1
    · as_aux_lemma =>
        go_wp2_with fail
        go_ret
        exact ⟨⟨_, rfl⟩, l', HH.out, HP.out, down_stop HU.out (.inl hend), HG.out, HT.out⟩
    · have h1l : 2 * i' + 1 < l'.length := by omega
      have hi1 : i' < l'.length := by omega
      by_cases h2 : m ≤ 2 * i' + 2
      · have HJS := Aside0.mk (show ∀ k, k < m → (k = 2 * i' + 1 ∨ k = 2 * i' + 2) → Le (gt l' (2 * i' + 1)) (gt l' k) from fun k hk hk2 => by
          have : k = 2 * i' + 1 := by omega
          rw [this]; exact Le.refl _)
        have h2m : ¬ (2 * (i' : Int) + 1 + 1) < m := by omega
        have hx : gt l' (2 * i' + 1) = l'[2 * i' + 1] := gt_lt (by omega)
        have hy : gt l' i' = l'[i'] := gt_lt hi1
        have hHx : HeapAt wr b (.slice (some ⟨g, 0, none⟩) n c) l' := ⟨HH.out.blk, HH.out.own.step (fun _ _ => rfl)⟩
        have ml2 := m_less hHx.cell.1
        have nl2 := n_less wr b
        have hless2 := Less_calls hHx.own (by have := HNL.out; omega) (i := 2 * i' + 1) (k := i') (by omega) hi1 (by omega)
        rw [← hx, ← hy] at hless2
        have hHy : HeapAt (World.drew wr) b (.slice (some ⟨g, 0, none⟩) n c) l' := ⟨HH.out.blk, HH.out.own.step (fun _ _ => rfl)⟩
        have ms2 := m_swap hHy.cell.1
        have ns2 := n_swap (World.drew wr) b
        have hswap2 := Swap_calls hHy.own (by have := HNL.out; omega) (i := i') (k := 2 * i' + 1) hi1 (by omega) (by omega)
        push_cast at hless2 hswap2
        generalize hlt2 : bytesBefore (gt l' (2 * i' + 1)) (gt l' i') = lt2 at hless2
        have HLT2 := Aside0.mk hlt2
        have HHY := Aside0.mk hHy
        have HLESS2 := Aside0.mk hless2
        have HSW2 := Aside0.mk hswap2
        clear hx hy hHx hHy hless2 hswap2 hlt2
        cases lt2 with
        | false =>
          as_aux_lemma =>
            go_wp2_with fail
            skip
            refine HLESS2.out.mono ?_
            rintro e w' ⟨rfl, rfl⟩
            go_wp2_with fail
            go_ret
            refine ⟨⟨_, rfl⟩, l', ⟨HH.out.blk, HH.out.own.step (fun _ _ => rfl)⟩, HP.out, down_stop HU.out (.inr ⟨?_, fun h2 => ?_⟩), HG.out, HT.out.trans (draw2_turn _ _ _ rfl)⟩
            · exact Le.trans (b := gt l' (2 * i' + 1)) HLT2.out (HJS.out _ (by omega) (by omega))
            · exact Le.trans (b := gt l' (2 * i' + 1)) HLT2.out (HJS.out _ (by omega) (by omega))
        | true =>
          as_aux_lemma =>
            go_wp2_with fail
            skip
            refine HLESS2.out.mono ?_
            rintro e w' ⟨rfl, rfl⟩
            go_wp2_with fail
            refine HSW2.out.mono ?_
            rintro e w' ⟨rfl, rfl⟩
            go_wp2_with fail
            refine ⟨⟨2 * i' + 1, swp l' i' (2 * i' + 1), rfl, by omega, HHY.out.swap (by have := HNL.out; omega) hi1 (by omega), (swp_perm hi1 (by omega)).trans HP.out, down_step HU.out (by omega) (by omega) (by omega) HLT2.out HJS.out, ?_, (HT.out.trans (swap_turn wr g i' (2 * i' + 1) _ _)).trans (draw2_turn _ _ _ rfl)⟩, by simp [intOf]; omega⟩
            rw [swp_gt hi1 (by omega), if_neg (by omega), if_neg (by omega)]
            exact HG.out

      · have h2c : 2 * i' + 2 < m := by omega
        have hx1 : gt l' (2 * i' + 1 + 1) = l'[2 * i' + 1 + 1] := gt_lt (by omega)
        have hy1 : gt l' (2 * i' + 1) = l'[2 * i' + 1] := gt_lt (by omega)
        have ml1 := m_less cb
        have nl1 := n_less wr b
        have hless1 := Less_calls HH.out.own (by have := HNL.out; omega) (i := 2 * i' + 1 + 1) (k := 2 * i' + 1) (by omega) (by omega) (by omega)
        rw [← hx1, ← hy1] at hless1
        push_cast at hless1
        have h2m : (2 * (i' : Int) + 1 + 1) < m := by omega
        generalize hb2 : bytesBefore (gt l' (2 * i' + 1 + 1)) (gt l' (2 * i' + 1)) = lt1 at hless1
        have HB2 := Aside0.mk hb2
        have HLESS1 := Aside0.mk hless1
        clear hx1 hy1 hless1 hb2

        cases lt1 with
        | false =>
          have HJS := Aside0.mk (show ∀ k, k < m → (k = 2 * i' + 1 ∨ k = 2 * i' + 2) → Le (gt l' (2 * i' + 1)) (gt l' k) from fun k hk hk2 => by
            rcases hk2 with rfl | rfl
            · exact Le.refl _
            · exact HB2.out)
          have hx : gt l' (2 * i' + 1) = l'[2 * i' + 1] := gt_lt (by omega)
          have hy : gt l' i' = l'[i'] := gt_lt hi1
          have hHx : HeapAt (World.drew wr) b (.slice (some ⟨g, 0, none⟩) n c) l' := ⟨HH.out.blk, HH.out.own.step (fun _ _ => rfl)⟩
          have ml2 := m_less hHx.cell.1
          have nl2 := n_less (World.drew wr) b
          have hless2 := Less_calls hHx.own (by have := HNL.out; omega) (i := 2 * i' + 1) (k := i') (by omega) hi1 (by omega)
          rw [← hx, ← hy] at hless2
          have hHy : HeapAt (World.drew (World.drew wr)) b (.slice (some ⟨g, 0, none⟩) n c) l' := ⟨HH.out.blk, HH.out.own.step (fun _ _ => rfl)⟩
          have ms2 := m_swap hHy.cell.1
          have ns2 := n_swap (World.drew (World.drew wr)) b
          have hswap2 := Swap_calls hHy.own (by have := HNL.out; omega) (i := i') (k := 2 * i' + 1) hi1 (by omega) (by omega)
          push_cast at hless2 hswap2
          generalize hlt2 : bytesBefore (gt l' (2 * i' + 1)) (gt l' i') = lt2 at hless2
          have HLT2 := Aside0.mk hlt2
          have HHY := Aside0.mk hHy
          have HLESS2 := Aside0.mk hless2
          have HSW2 := Aside0.mk hswap2
          clear hx hy hHx hHy hless2 hswap2 hlt2
          cases lt2 with
          | false =>
            as_aux_lemma =>
              go_wp2_with fail
              refine HLESS1.out.mono ?_
              rintro e w1 ⟨rfl, rfl⟩
              go_wp2_with fail
              refine HLESS2.out.mono ?_
              rintro e w' ⟨rfl, rfl⟩
              go_wp2_with fail
              go_ret
              refine ⟨⟨_, rfl⟩, l', ⟨HH.out.blk, HH.out.own.step (fun _ _ => rfl)⟩, HP.out, down_stop HU.out (.inr ⟨?_, fun h2 => ?_⟩), HG.out, HT.out.trans (draw2_turn _ _ _ rfl)⟩
              · exact Le.trans (b := gt l' (2 * i' + 1)) HLT2.out (HJS.out _ (by omega) (by omega))
              · exact Le.trans (b := gt l' (2 * i' + 1)) HLT2.out (HJS.out _ (by omega) (by omega))
          | true =>
            as_aux_lemma =>
              go_wp2_with fail
              refine HLESS1.out.mono ?_
              rintro e w1 ⟨rfl, rfl⟩
              go_wp2_with fail
              refine HLESS2.out.mono ?_
              rintro e w' ⟨rfl, rfl⟩
              go_wp2_with fail
              refine HSW2.out.mono ?_
              rintro e w' ⟨rfl, rfl⟩
              go_wp2_with fail
              refine ⟨⟨2 * i' + 1, swp l' i' (2 * i' + 1), rfl, by omega, HHY.out.swap (by have := HNL.out; omega) hi1 (by omega), (swp_perm hi1 (by omega)).trans HP.out, down_step HU.out (by omega) (by omega) (by omega) HLT2.out HJS.out, ?_, (HT.out.trans (swap_turn wr g i' (2 * i' + 1) _ _)).trans (draw2_turn _ _ _ rfl)⟩, by simp [intOf]; omega⟩
              rw [swp_gt hi1 (by omega), if_neg (by omega), if_neg (by omega)]
              exact HG.out

        | true =>
          have HJS := Aside0.mk (show ∀ k, k < m → (k = 2 * i' + 1 ∨ k = 2 * i' + 2) → Le (gt l' (2 * i' + 1 + 1)) (gt l' k) from fun k hk hk2 => by
            rcases hk2 with rfl | rfl
            · exact Le.of_lt HB2.out
            · exact Le.refl _)
          have hx : gt l' (2 * i' + 1 + 1) = l'[2 * i' + 1 + 1] := gt_lt (by omega)
          have hy : gt l' i' = l'[i'] := gt_lt hi1
          have hHx : HeapAt (World.drew wr) b (.slice (some ⟨g, 0, none⟩) n c) l' := ⟨HH.out.blk, HH.out.own.step (fun _ _ => rfl)⟩
          have ml2 := m_less hHx.cell.1
          have nl2 := n_less (World.drew wr) b
          have hless2 := Less_calls hHx.own (by have := HNL.out; omega) (i := 2 * i' + 1 + 1) (k := i') (by omega) hi1 (by omega)
          rw [← hx, ← hy] at hless2
          have hHy : HeapAt (World.drew (World.drew wr)) b (.slice (some ⟨g, 0, none⟩) n c) l' := ⟨HH.out.blk, HH.out.own.step (fun _ _ => rfl)⟩
          have ms2 := m_swap hHy.cell.1
          have ns2 := n_swap (World.drew (World.drew wr)) b
          have hswap2 := Swap_calls hHy.own (by have := HNL.out; omega) (i := i') (k := 2 * i' + 1 + 1) hi1 (by omega) (by omega)
          push_cast at hless2 hswap2
          generalize hlt2 : bytesBefore (gt l' (2 * i' + 1 + 1)) (gt l' i') = lt2 at hless2
          have HLT2 := Aside0.mk hlt2
          have HHY := Aside0.mk hHy
          have HLESS2 := Aside0.mk hless2
          have HSW2 := Aside0.mk hswap2
          clear hx hy hHx hHy hless2 hswap2 hlt2
          cases lt2 with
          | false =>
            as_aux_lemma =>
              go_wp2_with fail
              refine HLESS1.out.mono ?_
              rintro e w1 ⟨rfl, rfl⟩
              go_wp2_with fail
              refine HLESS2.out.mono ?_
              rintro e w' ⟨rfl, rfl⟩
              go_wp2_with fail
              go_ret
              refine ⟨⟨_, rfl⟩, l', ⟨HH.out.blk, HH.out.own.step (fun _ _ => rfl)⟩, HP.out, down_stop HU.out (.inr ⟨?_, fun h2 => ?_⟩), HG.out, HT.out.trans (draw2_turn _ _ _ rfl)⟩
              · exact Le.trans (b := gt l' (2 * i' + 1 + 1)) HLT2.out (HJS.out _ (by omega) (by omega))
              · exact Le.trans (b := gt l' (2 * i' + 1 + 1)) HLT2.out (HJS.out _ (by omega) (by omega))
          | true =>
            as_aux_lemma =>
              go_wp2_with fail
              refine HLESS1.out.mono ?_
              rintro e w1 ⟨rfl, rfl⟩
              go_wp2_with fail
              refine HLESS2.out.mono ?_
              rintro e w' ⟨rfl, rfl⟩
              go_wp2_with fail
              refine HSW2.out.mono ?_
              rintro e w' ⟨rfl, rfl⟩
              go_wp2_with fail
              refine ⟨⟨2 * i' + 1 + 1, swp l' i' (2 * i' + 1 + 1), rfl, by omega, HHY.out.swap (by have := HNL.out; omega) hi1 (by omega), (swp_perm hi1 (by omega)).trans HP.out, down_step HU.out (by omega) (by omega) (by omega) HLT2.out HJS.out, ?_, (HT.out.trans (swap_turn wr g i' (2 * i' + 1 + 1) _ _)).trans (draw2_turn _ _ _ rfl)⟩, by simp [intOf]; omega⟩
              rw [swp_gt hi1 (by omega), if_neg (by omega), if_neg (by omega)]
              exact HG.out

end Go.Proofs.YtflioeiklcnncaaGreatDoor.Ri

set_option linter.unusedVariables false
set_option linter.unusedSimpArgs false
namespace Go.Proofs.YtflioeiklcnncaaGreatDoor.Ri
open Go.RowKit Go.Maps Go.Sort Go.Proofs.YtflioeiklcnncaaGreatDoorW.PrintWords Go.Proofs.YtflioeiklcnncaaGreatDoor.PRing


theorem Own.cap {W : World} {A : Option Addr} {n c : Nat} {l : List B} (h : Own W (.slice A n c) l) : n ≤ c := (Kd.N_reads' h).2.1
theorem ta9 (w : World) (x : ByteArray) : (Instr.typeAssert (.iface 9 (.string x)) 20 9 true).run Tryz.prog w = .ok (.tuple #[.string x, .bool true]) w := by kernel_rfl
theorem turn_grown {W W' : World} {row : Option Nat} (h : W.grownBy W' row) : Turn (fun k => row = some k) W W' := ⟨h.os, h.tape, h.output, h.size, fun i hi hn => h.block i hi (fun e => hn e.symm)⟩
theorem set_blk {w : World} {b t : Nat} {v : Value} (h : w.heap[b]? = some (.cells #[v] t (0, 0))) (u : Value) : (w.setCell ⟨b, 0, none⟩ u).heap[b]? = some (.cells #[u] t (0, 0)) := by
  simp only [World.setCell, Array.getElem?_modify]
  simp [h]
theorem info9 : (Tryz.prog.info? 9).map (fun i => (i.zero, i.size, i.bytes)) = some (some (.string ByteArray.empty), 1, 16) := by kernel_rfl

set_option maxRecDepth 100000 in
set_option maxHeartbeats 1600000 in
theorem push1_calls {W : World} {b : Nat} {v : Value} {l : List B} (h : HeapAt W b v l) (x : B) (hb : l.length ≤ 1000000) :
    Calls Tryz.prog 164 #[.pointer (some ⟨b, 0, none⟩), .iface 9 (.string (mkS x))] W fun e w' => e = .returned (.tuple #[]) ∧ ∃ v', HeapAt w' b v' (l ++ [x]) ∧ Turn (fun k => k = b ∨ v.ownBlock = some k) W w' ∧ (v'.ownBlock = v.ownBlock ∨ ∃ k, v'.ownBlock = some k ∧ W.heap.size ≤ k) := by
  have H := Aside0.mk h
  obtain ⟨cb, fb⟩ := h.cell
  have hta := ta9 W (mkS x)
  clear h
  go_enter Tryz.func164, Tryz.ntmps164
  go_wp2_with (at_builtin; refine stop_at ?_)
  unfold Stop
  refine Kd.N_append Kd.string (w0 := W) 0 rfl _ _ 76 9 _ 16 rfl Tryz.underlying76 info9 rfl (by decide) (by decide) _ (l.map mkS) (mkS x) [.string (mkS x)] (fun k => v.ownBlock = some k ∨ W.heap.size ≤ k) (fun _ => False) rfl rfl ?hp ?hok ?fresh ?HO ?HB ?hbase ?hl ?_
  case hp => exact fun _ _ => rfl
  case hok => exact fun b hb => hb.elim
  case fresh => exact fun b hb => .inr hb
  case HO => exact Kd.N_mono H.out.own (fun k hk => .inl hk)
  case HB => exact Below.refl _ _
  case hbase => exact Nat.zero_le _
  case hl => simp; omega
  intro v1 w4 hN4 hB4 hg4 hat4
  have hT4 : Turn (fun k => v.ownBlock = some k) W w4 := turn_grown (show W.grownBy w4 v.ownBlock from hg4)
  have hb4 : w4.heap[b]? = some (.cells #[v] 76 (0, 0)) := by
    rw [hT4.block b (Array.getElem?_eq_some_iff.1 H.out.blk).1 H.out.ne]; exact H.out.blk
  have hown : Own w4 v1 (l ++ [x]) := by
    have : (l ++ [x]).map mkS = l.map mkS ++ [mkS x] := by simp
    exact own_of (base := 0) (this ▸ hN4)
  obtain ⟨cb4, fb4⟩ := cell_of_blk hb4
  obtain ⟨A1, c1, e1⟩ := hown.slice
  rw [List.length_append, List.length_singleton] at e1
  subst e1
  have HT4 := Aside0.mk hT4
  have HO4 := Aside0.mk hown
  have HAT := Aside0.mk (show (Value.slice A1 (l.length + 1) c1).ownBlock = v.ownBlock ∨ ∃ b, (Value.slice A1 (l.length + 1) c1).ownBlock = some b ∧ W.heap.size ≤ b from hat4)
  have HB4 := Aside0.mk hb4
  clear hN4 hB4 hg4 hat4 hT4 hown hb4
  go_wp2_with fail
  go_end0
  refine ⟨rfl, _, ⟨?_, ?_⟩, (HT4.out.mono (fun k hk => .inr hk)).trans ((Turn.of_set w4 ⟨b, 0, none⟩ _).mono (fun k hk => .inl hk)), HAT.out⟩
  · exact set_blk HB4.out _
  · exact HO4.out.turn (Turn.of_set w4 ⟨b, 0, none⟩ _) (fun k hk e => by
      obtain ⟨cs, hc⟩ := HO4.out.typed k hk
      rw [show k = b from e, HB4.out] at hc
      simp at hc)
set_option maxRecDepth 100000 in
set_option maxHeartbeats 1600000 in
theorem pop1_calls {W : World} {b g n c : Nat} {l : List B} (h : HeapAt W b (.slice (some ⟨g, 0, none⟩) n c) l) (hn : n = l.length) {m : Nat} (hm1 : l.length = m + 1) (hb : l.length ≤ 1000000) :
    Calls Tryz.prog 163 #[.pointer (some ⟨b, 0, none⟩)] W fun e w' => e = .returned (.iface 9 (.string (mkS (gt l m)))) ∧ ∃ v', HeapAt w' b v' (l.take m) ∧ Turn (fun k => k = b) W w' ∧ v'.ownBlock = some g := by
  have H := Aside0.mk h
  obtain ⟨cb, fb⟩ := h.cell
  have hc1 := (h.own.elem (i := m) (by omega) hn).1
  have hcap : m ≤ c := by have := h.own.cap; omega
  clear h
  go_enter Tryz.func163, Tryz.ntmps163
  go_wp2_with fail
  go_ret
  have hgt : gt l m = l[m] := gt_lt (by omega)
  refine ⟨by rw [hgt]; rfl, _, ⟨set_blk H.out.blk _, ?_⟩, Turn.of_set W ⟨b, 0, none⟩ _, rfl⟩
  have h1 := Kd.N_take (m := m) H.out.own (by simp; omega)
  rw [← List.map_take] at h1
  have h2 : Own W (.slice (some ⟨g, 0, none⟩) m c) (l.take m) := own_of h1
  exact h2.turn (Turn.of_set W ⟨b, 0, none⟩ _) (fun k hk e => H.out.ne (by
    simp only [Value.ownBlock, Option.some.injEq] at hk ⊢
    exact hk.trans e))
set_option maxRecDepth 100000 in
set_option maxHeartbeats 1600000 in
/-- heap.Push: the name comes to the heap. -/
theorem push_calls {W : World} {b : Nat} {v : Value} {l : List B} (h : HeapAt W b v l) (hh : IsHeap l l.length) (x : B) (hb : l.length ≤ 900000) :
    Calls Tryz.prog 39 #[.iface 75 (.pointer (some ⟨b, 0, none⟩)), .iface 9 (.string (mkS x))] W fun e w' => e = .returned (.tuple #[]) ∧ ∃ v' l', HeapAt w' b v' l' ∧ l'.Perm (x :: l) ∧ IsHeap l' l'.length ∧ Turn (fun k => k = b ∨ v.ownBlock = some k) W w' ∧ (v'.ownBlock = v.ownBlock ∨ ∃ k, v'.ownBlock = some k ∧ W.heap.size ≤ k) := by
  have hp := push1_calls h x (by omega)
  have H := Aside0.mk h
  have HP := Aside0.mk hp
  have HH := Aside0.mk hh
  have hn := n_push W b
  have hm := m_push W b
  clear h hp hh
  go_enter Tryz.func39, Tryz.ntmps39
  go_wp2_with fail
  refine HP.out.mono ?_
  rintro e w1 ⟨rfl, v1, hv1, ht1, hb1⟩
  obtain ⟨g, c, rfl⟩ := hv1.own.form (by simp)
  have hlen : (l ++ [x]).length = l.length + 1 := by simp
  rw [hlen] at hv1 hb1
  have hup := up_calls hv1 (by simp) (j := l.length) (by simp) (by simp; omega) (up_snoc HH.out)
  have c1 := hv1.cell.1
  have nl1 := n_len w1 b
  have ml1 := m_len c1
  have hl1 : Calls Tryz.prog 40 #[.slice (some ⟨g, 0, none⟩) (l.length + 1) c] w1 fun e w' => e = .returned (.int .i64 ((l.length + 1 : Nat))) ∧ w' = w1 := Len_calls
  push_cast at hl1
  have HV1 := Aside0.mk hv1
  have HT1 := Aside0.mk ht1
  have HB1 := Aside0.mk hb1
  have HUP := Aside0.mk hup
  have HL1 := Aside0.mk hl1
  clear hv1 ht1 hb1 hup hl1 hlen hn hm
  go_wp2_with fail
  refine HL1.out.mono ?_
  rintro e w2 ⟨rfl, rfl⟩
  go_wp2_with fail
  refine HUP.out.mono ?_
  rintro e w3 ⟨rfl, l', hv3, hp3, hh3, ht3⟩
  go_wp2_with fail
  go_end0
  refine ⟨rfl, _, l', hv3, hp3.trans ?_, hh3, ?_, HB1.out⟩
  · exact List.perm_append_singleton x l
  · refine ⟨ht3.os.trans HT1.out.os, ht3.tape.trans HT1.out.tape, ht3.output.trans HT1.out.output, Nat.le_trans HT1.out.size ht3.size, fun k hk hn => ?_⟩
    rw [ht3.block k (Nat.lt_of_lt_of_le hk HT1.out.size) (fun e => ?_), HT1.out.block k hk hn]
    rcases HB1.out with h1 | ⟨k', h1, h2⟩
    · rw [← h1] at hn
      exact hn (.inr (by simp [Value.ownBlock, e]))
    · simp only [Value.ownBlock, Option.some.injEq] at h1
      omega
set_option maxRecDepth 100000 in
set_option maxHeartbeats 1600000 in
/-- heap.Pop: the least one goes. -/
theorem pop_calls {W : World} {b : Nat} {v : Value} {l : List B} (h : HeapAt W b v l) (hh : IsHeap l l.length) (h0 : 0 < l.length) (hb : l.length ≤ 900000) :
    Calls Tryz.prog 41 #[.iface 75 (.pointer (some ⟨b, 0, none⟩))] W fun e w' => ∃ x v' l', e = .returned (.iface 9 (.string (mkS x))) ∧ HeapAt w' b v' l' ∧ (x :: l').Perm l ∧ (∀ y ∈ l, Le x y) ∧ IsHeap l' l'.length ∧ Turn (fun k => k = b ∨ v.ownBlock = some k) W w' ∧ v'.ownBlock = v.ownBlock := by
  obtain ⟨g, c, rfl⟩ := h.own.form h0
  obtain ⟨m, hm⟩ : ∃ m, l.length = m + 1 := ⟨l.length - 1, by omega⟩
  rw [hm] at h
  have h1 : 0 < l.length := h0
  have hml : m < l.length := by omega
  have hsw := Swap_calls h.own hm.symm h1 hml (by omega)
  have c1 := h.cell.1
  have nl1 := n_len W b
  have ml1 := m_len c1
  have ns1 := n_swap W b
  have ms1 := m_swap c1
  have hl1 : Calls Tryz.prog 40 #[.slice (some ⟨g, 0, none⟩) (m + 1) c] W fun e w' => e = .returned (.int .i64 ((m + 1 : Nat))) ∧ w' = W := Len_calls
  push_cast at hl1
  have hv2 := h.swap hm.symm h1 hml
  have hdown := down_calls hv2 (by rw [swp_length, hm]) (m := m) (by rw [swp_length, hm]) (by rw [swp_length]; omega) (down_pop hh hm)
  obtain ⟨w2, hw2⟩ : ∃ w2, w2 = ((W.setCell ⟨g, 0, none⟩ (.string (mkS l[m]))).setCell ⟨g, m, none⟩ (.string (mkS l[0]))).drew := ⟨_, rfl⟩
  have ht2 : Turn (fun q => q = g) W w2 := hw2 ▸ swap_turn W g 0 m _ _
  rw [← hw2] at hsw hdown
  have H := Aside0.mk h
  have HL1 := Aside0.mk hl1
  have HSW := Aside0.mk hsw
  have HD := Aside0.mk hdown
  have HT2 := Aside0.mk ht2
  have HH := Aside0.mk hh
  clear h hl1 hsw hdown hw2 hv2 ht2 hh
  go_enter Tryz.func41, Tryz.ntmps41
  go_wp2_with fail
  refine HL1.out.mono ?_
  rintro e w1 ⟨rfl, rfl⟩
  go_wp2_with fail
  refine HSW.out.mono ?_
  rintro e w3 ⟨rfl, rfl⟩
  go_wp2_with fail
  refine HD.out.mono ?_
  rintro e w4 ⟨⟨v4, rfl⟩, l4, hv4, hp4, hh4, hg4, ht4⟩
  have hlen4 := hp4.length_eq
  rw [swp_length] at hlen4
  have hpop := pop1_calls hv4 (by omega) (m := m) (by omega) (by omega)
  have np := n_pop w4 b
  have mp := m_pop w4 b
  have HPOP := Aside0.mk hpop
  have HP4 := Aside0.mk hp4
  have HH4 := Aside0.mk hh4
  have HG4 := Aside0.mk hg4
  have HT4 := Aside0.mk ht4
  clear hpop hp4 hh4 hg4 ht4 hv4 c1 nl1 ml1 ns1 ms1
  go_wp2_with fail
  refine HPOP.out.mono ?_
  rintro e w5 ⟨rfl, v5, hv5, ht5, hb5⟩
  go_wp2_with fail
  go_ret
  have hx : gt l4 m = gt l 0 := by rw [HG4.out, swp_gt h1 hml, if_pos rfl]
  refine ⟨gt l 0, v5, l4.take m, by rw [hx]; rfl, hv5, ?_, fun y hy => ?_, heap_take HH4.out (by omega), ?_, hb5⟩
  · refine List.Perm.trans ?_ (HP4.out.trans (swp_perm h1 hml))
    have e1 : l4 = l4.take m ++ [gt l4 m] := by
      have h5 : m < l4.length := by omega
      have h6 := List.take_append_drop m l4
      rw [List.drop_eq_getElem_cons h5, List.drop_eq_nil_of_le (by omega)] at h6
      rw [gt_lt h5]
      exact h6.symm
    rw [← hx]
    conv => rhs; rw [e1]
    exact (List.perm_append_singleton _ _).symm
  · obtain ⟨i, hi, rfl⟩ := List.mem_iff_getElem.1 hy
    rw [← gt_lt hi]
    exact heap_least HH.out i hi
  · have h2 := (HT2.out.trans HT4.out).mono (T := fun k => k = b ∨ (Value.slice (some ⟨g, 0, none⟩) (m + 1) c).ownBlock = some k) (fun k hk => .inr (by simp [Value.ownBlock, hk]))
    exact h2.trans (ht5.mono (fun k hk => .inl hk))
end Go.Proofs.YtflioeiklcnncaaGreatDoor.Ri
