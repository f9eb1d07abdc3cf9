/- From the rows' arguments to what the walks read. Conditions: as each statement says. -/
import Derived.Test.YtfhempgkdnecnaaCall
import Derived.WalkKit
import Derived.ProofKit
namespace Go.Proofs.Ytfhempgkdnecnaa.L
open Go Go.Proofs
variable {P : Program}

theorem slice_spot {w : World} {r : Reach} {base : Nat} {t e : TypeId} {a : Option Addr} {len cap : Nat} (ht : P.underlying t = some (.slice e)) (h : Value.okWide P w r base t (.slice a len cap)) :
    ∀ x, a = some x → x.spot = none := by
  intro x hx
  subst hx
  simp only [Value.okWide, ht, Cell.okWide, Cell.ok, World.has] at h
  exact h.2.2.2.1

/-- The numbers of a row. -/
theorem row_nat {k : IntKind} {m : Nat} (hk : ub k = some m) {w : World} {a : Option Addr} {len cap : Nat} {zs : List Int}
    (h : (a = none ∧ len = 0 ∧ cap = 0 ∧ zs = []) ∨
      ∃ x, a = some x ∧ len ≤ cap ∧ cap ≤ maxLen ∧ zs.length = cap ∧ (∀ i, i < zs.length → w.cell? (x.add i) = some (.int k (zs.getD i 0))) ∧ ∀ n ∈ zs, (Lit.int k n).wf = true)
    (hs : ∀ x, a = some x → x.spot = none) : ∃ bs : List Nat, Rd w (.slice a len cap) (bs.map (N k)) ∧ (∀ x ∈ bs, x < m) ∧ bs.length < 9223372036854775808 := by
  rcases h with ⟨rfl, rfl, rfl, rfl⟩ | ⟨x, rfl, h1, h2, h3, h4, h5⟩
  · exact ⟨[], Rd.nil w, by simp, by decide⟩
  · have hn : ∀ n ∈ zs, 0 ≤ n ∧ n < (m : Int) := by
      intro n hn
      have := h5 n hn
      cases k <;> simp [ub] at hk <;> subst hk <;> simp [Lit.wf, IntKind.min, IntKind.max, IntKind.signed, IntKind.bits] at this ⊢ <;> omega
    have hg : ∀ i, i < zs.length → Int.ofNat (zs.getD i 0).toNat = zs.getD i 0 := by
      intro i hi
      have : zs.getD i 0 ∈ zs := by simp [List.getD_eq_getElem?_getD, hi]
      have := hn _ this
      show (((zs.getD i 0).toNat : Nat) : Int) = _
      omega
    refine ⟨(zs.take len).map Int.toNat, ⟨⟨some x, cap, ?_, ?_, by simp, by simpa using hs⟩, ?_⟩, ?_, ?_⟩
    · simp; omega
    · simp; omega
    · intro i v hv
      have hi : i < len ∧ i < zs.length := by
        have := (List.getElem?_eq_some_iff.mp hv).1
        simp at this; omega
      have e1 := h4 i hi.2
      rw [← hg i hi.2] at e1
      show w.cell? (x.add i) = _
      rw [e1]
      simp [hi.1, hi.2] at hv
      rw [← hv]
      simp [N, List.getD_eq_getElem?_getD, hi.2]
    · intro y hy
      simp only [List.mem_map] at hy
      obtain ⟨n, hn', rfl⟩ := hy
      have := hn n (List.mem_of_mem_take hn')
      omega
    · have : cap ≤ 2 ^ 63 - 1 := h2
      simp; omega

theorem nat_of_wf {k : IntKind} {m : Nat} (hk : ub k = some m) {x : Int} (h : (Lit.int k x).wf = true) : ∃ y : Nat, x = Int.ofNat y ∧ y < m := by
  have : 0 ≤ x ∧ x < (m : Int) := by
    cases k <;> simp [ub] at hk <;> subst hk <;> simp [Lit.wf, IntKind.min, IntKind.max, IntKind.signed, IntKind.bits] at h ⊢ <;> omega
  exact ⟨x.toNat, by show x = ((x.toNat : Nat) : Int); omega, by omega⟩
theorem nat_of_has {k : IntKind} {m : Nat} (hk : ub k = some m) {x : Int} (h : k.has x) : ∃ y : Nat, x = Int.ofNat y ∧ y < m := by
  have : 0 ≤ x ∧ x < (m : Int) := by
    cases k <;> simp [ub] at hk <;> subst hk <;> simp [IntKind.has, IntKind.min, IntKind.max, IntKind.signed, IntKind.bits] at h ⊢ <;> omega
  exact ⟨x.toNat, by show x = ((x.toNat : Nat) : Int); omega, by omega⟩
/-- An array, or a struct of arrays, of numbers of one kind. -/
theorem okWide_LV {k : IntKind} {m n : Nat} {t e : TypeId} {w : World} {r : Reach} {base : Nat} {v : Value} (hk : ub k = some m) (hs : aggT P t = true) (hcell : P.cellTypes P.depth t = some (List.replicate n e))
    (he : P.underlying e = some (.int k)) (hc : P.cellsOf t = n) (h : Value.okWide P w r base t v) : ∃ ys : List Nat, v = LV k ys ∧ ys.length = n ∧ ∀ x ∈ ys, x < m := by
  have h' : ∃ cs, v = .agg cs ∧ cs.size = P.cellsOf t ∧ Row.okWide P w r base t cs := by
    unfold aggT at hs
    unfold Value.okWide at h
    cases hu : P.underlying t with
    | none => rw [hu] at hs; simp at hs
    | some d =>
      rw [hu] at hs h
      cases d <;> simp at hs <;> simpa using h
  obtain ⟨cs, rfl, hcs, ts, hts, _, hrow⟩ := h'
  rw [hcell] at hts; cases hts
  have key : ∀ l : List Value, (∀ (i : Nat) (v : Value), l[i]? = some v → ∃ y : Nat, v = N k y ∧ y < m) → ∃ ys : List Nat, l = ys.map (N k) ∧ ∀ x ∈ ys, x < m := by
    intro l
    induction l with
    | nil => intro _; exact ⟨[], rfl, by simp⟩
    | cons v l ih =>
      intro hl
      obtain ⟨ys, h1, h2⟩ := ih (fun i v hv => hl (i + 1) v (by simpa using hv))
      obtain ⟨y, h3, h4⟩ := hl 0 v rfl
      exact ⟨y :: ys, by simp [h1, h3], by simpa using ⟨h4, h2⟩⟩
  obtain ⟨ys, h1, h2⟩ := key cs.toList (fun i v hv => by
    obtain ⟨u, hu, hok⟩ := hrow i v (by simpa using hv)
    have hu' : u = e := by
      rw [List.getElem?_replicate] at hu
      split at hu
      · exact (Option.some.inj hu).symm
      · cases hu
    subst hu'
    unfold Cell.okWide Cell.ok at hok
    rw [he] at hok
    cases v <;> simp at hok
    obtain ⟨rfl, hok⟩ := hok
    obtain ⟨y, hy, hlt⟩ := nat_of_has hk hok
    exact ⟨y, by rw [hy], hlt⟩)
  refine ⟨ys, ?_, ?_, h2⟩
  · unfold LV; rw [← h1]
  · have := congrArg List.length h1
    simp at this; omega
theorem wf_i64 {x : Int} (h : (Lit.int .i64 x).wf = true) : -9223372036854775808 ≤ x ∧ x < 9223372036854775808 := by
  simp [Lit.wf, IntKind.min, IntKind.max, IntKind.signed, IntKind.bits] at h; omega

theorem post_bool {w w' : World} {e : Ending} (h : PostR (IsV (.bool true)) [] w e w') : e = .returned (.bool true) ∧ RowKit.Below w.heap.size w w' := by
  obtain ⟨v, Wout, ⟨rfl, _⟩, he, hx, _⟩ := h
  exact ⟨he, hx.below⟩
end Go.Proofs.Ytfhempgkdnecnaa.L
