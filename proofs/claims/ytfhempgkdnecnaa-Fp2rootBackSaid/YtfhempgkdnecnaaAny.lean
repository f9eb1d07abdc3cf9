/- A region whose order is open, one order after the other. No condition. -/
import Derived.Test.YtfhempgkdnecnaaDraw
namespace Go.Proofs.Ytfhempgkdnecnaa.L
open Go

def allI (φ : Nat → Prop) : List Nat → Prop
  | [] => True
  | i :: r => φ i ∧ allI φ r
theorem allI_mem {φ : Nat → Prop} : ∀ {is : List Nat}, allI φ is → ∀ i ∈ is, φ i
  | [], _, i, hi => by cases hi
  | j :: r, h, i, hi => by
    rcases List.mem_cons.1 hi with rfl | hi
    · exact h.1
    · exact allI_mem h.2 i hi
section
variable {P : Program} {c : Cx} {n : Nat} {l : Sl} {W : List Res} {Q : Exit → Act → World → Prop} {os : List Oper}

theorem st_anyB {rid : Nat} (hm : P.follows .mixedOrders = true) (h : Go c n l W (wpAny P .any os.toArray Q os.toArray.size (Array.replicate os.toArray.size false))) :
    Go c n l W ((Code.region rid os.toArray true).wp P Q) :=
  fun a w ha hw => wp_region_any hm (h a _ ha (hw.drawn (w.drawn + 1)))

theorem st_anyE {L : Array Bool} {fuel : Nat} (hr : Region.ready .any os.toArray L = []) (h : Go c n l W (Q .normal)) : Go c n l W (wpAny P .any os.toArray Q fuel L) :=
  fun a w ha hw => by
    cases fuel with
    | zero => exact ⟨hr, h a w ha hw⟩
    | succ fuel => exact ⟨fun _ => h a w ha hw, fun i hi => by rw [hr] at hi; cases hi⟩

theorem st_anyS {L : Array Bool} {fuel : Nat} {is : List Nat} (hr : Region.ready .any os.toArray L = is) (hne : is.isEmpty = false)
    (h : allI (fun i => Go c n l W (wpOp P os.toArray Q i (wpAny P .any os.toArray Q fuel (L.setIfInBounds i true)))) is) : Go c n l W (wpAny P .any os.toArray Q (fuel + 1) L) :=
  fun a w ha hw => ⟨fun he => by rw [hr] at he; subst he; simp at hne, fun i hi => by rw [hr] at hi; exact allI_mem h i hi a w ha hw⟩

theorem st_anyOp {i : Nat} {o : Oper} {K : Act → World → Prop} (ho : os[i]? = some o) (hg : gSays os.toArray l o = some true)
    (h : Go c n l W (wpList P #[] (fun e a w => e = .normal ∧ K a w) [noG o])) : Go c n l W (wpOp P os.toArray Q i K) := by
  intro a w ha hw
  have hstep := h a w ha hw
  have hwant : Region.wanted o (yielded os.toArray a.tmps) = true := by
    unfold gSays at hg
    unfold Region.wanted
    cases hgd : o.guard with
    | none => rfl
    | some jw =>
      obtain ⟨j, want⟩ := jw
      simp only [hgd] at hg ⊢
      cases hj : (os.toArray[j]?).bind (·.dst) with
      | none => rw [hj] at hg; cases hg
      | some t =>
        simp only [hj] at hg
        cases hv : lk l t with
        | none => rw [hv] at hg; cases hg
        | some v =>
          have hav := ha.at_ t v hv
          rw [hv] at hg
          cases v <;> simp at hg
          unfold yielded
          rw [hj]
          simp [hav, hg]
  unfold wpOp
  rw [show os.toArray[i]? = some o by simpa using ho]
  simp only [hwant, if_true]
  left
  rcases wpList_single hstep rfl with hstep | ⟨_, a0, w0, hq, _⟩
  case inr => cases hq
  have hstep' : o.wp P a w (fun a' w' => (Exit.normal = Exit.normal ∧ K a' w')) (fun e a' w' => e = .normal ∧ K a' w') := hstep
  exact oper_wp_change hstep' (fun _ _ hp => hp.2) (fun _ _ _ hp => hp.1)

theorem st_anyNo {i d : Nat} {o : Oper} {K : Act → World → Prop} (ho : os[i]? = some o) (hg : gSays os.toArray l o = some false) (hd : o.dst = some d) (hn : Nat.blt d n = true)
    (h : Go c n ((d, undef) :: l) W K) : Go c n l W (wpOp P os.toArray Q i K) := by
  intro a w ha hw
  have hnw : Region.wanted o (yielded os.toArray a.tmps) = false := by
    unfold gSays at hg
    unfold Region.wanted
    cases hgd : o.guard with
    | none => simp [hgd] at hg
    | some jw =>
      obtain ⟨j, want⟩ := jw
      simp only [hgd] at hg ⊢
      cases hj : (os.toArray[j]?).bind (·.dst) with
      | none => rw [hj] at hg; cases hg
      | some t =>
        simp only [hj] at hg
        cases hv : lk l t with
        | none => rw [hv] at hg; cases hg
        | some v =>
          have hav := ha.at_ t v hv
          rw [hv] at hg
          unfold yielded
          rw [hj]
          cases v <;> simp at hg
          · simp [hav, hg]
          · simp [hav]
  unfold wpOp
  rw [show os.toArray[i]? = some o by simpa using ho]
  simp only [hnw, Bool.false_eq_true, if_false]
  rw [hd]
  exact h _ w (ha.put hn) hw

theorem st_anyN {K : Act → World → Prop} (h : Go c n l W K) : Go c n l W (wpList P #[] (fun e a w => e = .normal ∧ K a w) []) :=
  fun a w ha hw => wpList_nil ⟨rfl, h a w ha hw⟩
end
end Go.Proofs.Ytfhempgkdnecnaa.L
