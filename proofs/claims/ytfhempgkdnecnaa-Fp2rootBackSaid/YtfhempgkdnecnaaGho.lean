/- A step of a region in open order whose new memory lies inside its value. No condition. -/
import Derived.Test.YtfhempgkdnecnaaPerm
namespace Go.Proofs.Ytfhempgkdnecnaa.L
open Go
section
variable {P : Program} {c : Cx} {n : Nat} {os : List Oper} {Q : Exit → Act → World → Prop}
variable {K : Act → World → Prop} {E : En} {W : List Res} {l : Sl} {i d : Nat} {o : Oper} {rest : List Nat}
def OpG (P : Program) (c : Cx) (n : Nat) (W : List Res) (G : Value → Value) (F : Value → List Res) (d : Nat) (lr : Sl) (o : Oper) : Prop :=
  ∀ w0 m, SatW c W w0 → Go ⟨w0, fps W⟩ n (lr ++ m) W (wpList P #[] (fun e a w => e = .normal ∧ ∃ v, SatA n ((d, G v) :: (lr ++ m)) a ∧ SatW ⟨w0, fps W⟩ (F v) w) [o])
theorem Zpg {G : Value → Value} {F : Value → List Res} (ho : os[i]? = some o) (h : OpG P c n W G F d (restr os.toArray o l) (noG o)) (hr : ∀ v, QF P c n os K (E ++ [(i, .eff)]) (F v) ((d, G v) :: l) rest)
    (hi : newP i E = true := by rfl) (hd : o.dst = some d := by rfl) (hn : Nat.blt d n = true := by rfl) (hg : gSays os.toArray l o = some true := by rfl)
    (hc : chkP os (E ++ [(i, .eff)]) = true := by rfl) (hdesc : descP os i rest E = true := by rfl) : QF P c n os K E W l (i :: rest) :=
  QF.nd (Φ := fun u W' => ∃ v, u = some (d, G v) ∧ W' = F v) hi ho hc hdesc (fun u W' ⟨v, hu, _⟩ => by subst hu; exact ⟨hd, fun d' hd' => by rw [hd] at hd'; cases hd'; exact hn⟩) hg
    (fun w0 m hw a w ha hw' => single_mono (h w0 m hw a w ha hw') rfl (fun _ _ _ h => h.1) fun a w ⟨h1, v, h2, h3⟩ => ⟨h1, some (d, G v), F v, ⟨v, rfl, rfl⟩, h2, h3⟩)
    (fun u W' ⟨v, hu, hW⟩ => by subst hu; subst hW; exact hr v)
theorem Zpgx {G : Value → Value} {F : Value → List Res} {L : Sl} {u : Value} {W' : List Res} (v : Value) (hG : G v = u := by rfl) (hF : F v = W' := by rfl) :
    Go c n ((d, u) :: L) W' (wpList P #[] (fun e a w => e = .normal ∧ ∃ v, SatA n ((d, G v) :: L) a ∧ SatW c (F v) w) []) :=
  fun _ _ ha hw => wpList_nil ⟨rfl, v, by rw [hG]; exact ha, by rw [hF]; exact hw⟩
end
end Go.Proofs.Ytfhempgkdnecnaa.L
