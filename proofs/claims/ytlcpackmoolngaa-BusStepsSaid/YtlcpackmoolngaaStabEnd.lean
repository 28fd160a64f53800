/- A list has one sorted form. -/
import Derived.Test.YtlcpackmoolngaaStabPar
import Derived.Test.YtlcpackmoolngaaStabE
namespace Go.Proofs.Ytlcpackmoolngaa.Ss
open Go.Sort Go.Proofs.Ytlcpackmoolngaa.Stb Go.Proofs.Ytlcpackmoolngaa.Bu
set_option linter.unusedVariables false

theorem SortedOf.one {ps rs rs' : List Parc} (h : SortedOf ps rs) (h' : SortedOf ps rs') : rs = rs' := by
  obtain ⟨l, rfl, hp, hs⟩ := h
  obtain ⟨l', rfl, hp', hs'⟩ := h'
  have hn : (ps.zipIdx.map Prod.snd).Nodup := by
    rw [List.zipIdx_map_snd]
    exact List.nodup_range'
  rw [uniq (ltT_swo _ _) l l' (hp.trans hp'.symm) (strict_list hp hn hs) (strict_list hp' hn hs')]

/-- other tags that rise alike give the same list -/
theorem retag {l0 come : List (Parc × Nat)} (hr : l0.Pairwise fun x y => x.2 < y.2) (hp : come.Perm l0) (hs : come.Pairwise fun x y => ltT (fun p : Parc => p.d) (fun p => p.s) x y = true) : SortedOf (l0.map Prod.fst) (come.map Prod.fst) := by
  have hn : (l0.map Prod.snd).Nodup := by
    rw [List.Nodup, List.pairwise_map]
    exact hr.imp fun h => Nat.ne_of_lt h
  have hg : ∀ i (h : i < l0.length), (l0.map Prod.snd).idxOf (l0[i].2) = i := fun i h => by
    have := hn.idxOf_getElem i (by simpa using h)
    simpa using this
  refine ⟨come.map fun x => (x.1, (l0.map Prod.snd).idxOf x.2), by simp, ?_, ?_⟩
  · refine (hp.map _).trans (List.Perm.of_eq (List.ext_getElem (by simp) fun i h1 h2 => ?_))
    have hi : i < l0.length := by simpa using h1
    simp [hg i hi]
  · rw [List.pairwise_map]
    refine hs.imp_of_mem fun {x y} hx hy h => ?_
    obtain ⟨i, hi, rfl⟩ := List.mem_iff_getElem.1 (hp.mem_iff.1 hx)
    obtain ⟨j, hj, rfl⟩ := List.mem_iff_getElem.1 (hp.mem_iff.1 hy)
    simp only [ltT, decide_eq_true_eq] at h
    simp only [ltT, decide_eq_false_iff_not, hg i hi, hg j hj]
    have hij : l0[i].2 < l0[j].2 → i < j := fun h3 => by
      rcases Nat.lt_trichotomy i j with c | c | c
      · exact c
      · subst c; omega
      · have := List.pairwise_iff_getElem.1 hr j i hj hi c
        omega
    omega

theorem zip_rise (ps : List Parc) : ps.zipIdx.Pairwise fun x y => x.2 < y.2 := by
  rw [List.pairwise_iff_getElem]
  intro i j hi hj hij
  simp
  exact hij
theorem zip_filter (p : Parc → Bool) (ps : List Parc) : (ps.zipIdx.filter fun x => p x.1).map Prod.fst = ps.filter p := by
  have e : ps = ps.zipIdx.map Prod.fst := by simp
  conv => rhs; rw [e, List.filter_map]
  rfl
/-- the reference's choosing, at its end -/
theorem sel_fin {due : Parc → Bool} {ps : List Parc} {come q : List (Parc × Nat)} (h : Sel (fun p : Parc => p.d) (fun p => p.s) due ps.zipIdx come q) (hq : ∀ x ∈ q, due x.1 = false) : SortedOf (ps.filter due) (come.map Prod.fst) ∧ q.map Prod.fst = ps.filter fun p => !due p := by
  obtain ⟨h1, h2, h3, h4, h5⟩ := h
  have e1 : (q.filter fun x => due x.1) = [] := List.filter_eq_nil_iff.2 fun x hx => by simp [hq x hx]
  have e2 : (q.filter fun x => !due x.1) = q := List.filter_eq_self.2 fun x hx => by simp [hq x hx]
  rw [e1, List.append_nil] at h4
  rw [e2] at h5
  refine ⟨?_, ?_⟩
  · rw [← zip_filter]
    exact retag ((zip_rise ps).sublist List.filter_sublist) h4 h2
  · rw [h5]
    exact zip_filter (fun p => !due p) ps
end Go.Proofs.Ytlcpackmoolngaa.Ss
