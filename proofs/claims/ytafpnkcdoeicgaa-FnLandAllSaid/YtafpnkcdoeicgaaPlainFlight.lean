/- Plain laws of flights: what joins lands again. Nothing here names the program. -/
import Derived.Test.YtafpnkcdoeicgaaLandPlain
namespace Go.Proofs.Ytafpnkcdoeicgaa
open Go.RowKit

/-- Keys in bounds and in order, another way. -/
theorem keysOk_pw {fs : List Fl} : keysOk fs = true ↔ (∀ f ∈ fs, 0 ≤ f.1 ∧ f.1 ≤ 99) ∧ (fs.map (·.1)).Pairwise (· < ·) := by
  rw [keysOk_iff]
  constructor
  · intro h
    refine ⟨fun f hf => ?_, ?_⟩
    · obtain ⟨i, hi, rfl⟩ := List.getElem_of_mem hf
      exact ⟨(h i hi).1, (h i hi).2.1⟩
    · rw [List.pairwise_iff_getElem]
      have key : ∀ (d i : Nat) (hj : i + d + 1 < fs.length), (fs[i]'(by omega)).1 < fs[i + d + 1].1 := by
        intro d
        induction d with
        | zero => intro i hj; have := (h (i + 1) hj).2.2 (by omega); simpa using this
        | succ d ih =>
          intro i hj
          have h1 := ih i (by omega)
          have h2 := (h (i + d + 1 + 1) (by omega)).2.2 (by omega)
          simp only [Nat.add_sub_cancel] at h2
          exact Int.lt_trans h1 h2
      intro i j hi hj hij
      simp only [List.length_map] at hi hj
      obtain ⟨d, rfl⟩ : ∃ d, j = i + d + 1 := ⟨j - i - 1, by omega⟩
      simpa using key d i hj
  · rintro ⟨h1, h2⟩ k hk
    rw [List.pairwise_iff_getElem] at h2
    refine ⟨(h1 _ (List.getElem_mem hk)).1, (h1 _ (List.getElem_mem hk)).2, fun h0 => ?_⟩
    have := h2 (k - 1) k (by simp; omega) (by simpa using hk) (by omega)
    simpa using this
theorem dist_sub' {xs ys : List Int} (h : dist ys = true) (hs : xs.Sublist ys) : dist xs = true := by
  rw [dist_iff] at h ⊢
  exact ⟨fun x hx => h.1 x (hs.subset hx), h.2.sublist hs⟩
theorem dist_perm {xs ys : List Int} (h : dist ys = true) (hs : xs.Perm ys) : dist xs = true := by
  rw [dist_iff] at h ⊢
  exact ⟨fun x hx => h.1 x (hs.subset hx), hs.symm.nodup h.2⟩
theorem dist_cons {t : Int} {xs : List Int} (h : dist xs = true) (ht : thr t = true) (hb : hasB xs t = false) : dist (t :: xs) = true := by
  rw [dist_iff] at h ⊢
  refine ⟨fun x hx => ?_, List.nodup_cons.2 ⟨of_decide_eq_false hb, h.2⟩⟩
  rcases List.mem_cons.1 hx with rfl | hx
  · exact ht
  · exact h.1 x hx
theorem fval_mk {fs : List Fl} (hk : keysOk fs = true) (hd : dist (thrs fs) = true) : fval fs = true := by
  have h1 := dist_len hd
  rw [thrs_len] at h1
  unfold fval; rw [hk, hd, decide_eq_true (by omega)]; rfl
theorem thrs_sub {fs gs : List Fl} (h : fs.Sublist gs) : (thrs fs).Sublist (thrs gs) := by
  induction h with
  | slnil => exact List.Sublist.refl _
  | cons a _ ih => exact ih.trans (List.sublist_append_right _ _)
  | cons_cons a _ ih => exact (List.Sublist.refl _).append ih
theorem fval_sub {fs gs : List Fl} (h : fval gs = true) (hs : fs.Sublist gs) : fval fs = true := by
  obtain ⟨_, hk, hd⟩ := fval_in h
  rw [keysOk_pw] at hk
  exact fval_mk (keysOk_pw.2 ⟨fun f hf => hk.1 f (hs.subset hf), hk.2.sublist (hs.map _)⟩) (dist_sub' hd (thrs_sub hs))
/-- What holds of flights in order at another's key. -/
theorem fins_le {fs : List Fl} (h : keysOk fs = true) (key : Int) : (∀ f ∈ fs.take (fpos fs key), f.1 < key) ∧ (∀ f ∈ fs.drop (fpos fs key), key ≤ f.1) := by
  have hp := (keysOk_pw.1 h).2
  unfold fpos
  clear h
  induction fs with
  | nil => simp
  | cons x xs ih =>
    simp only [List.map_cons, List.pairwise_cons] at hp
    by_cases hx : x.1 < key
    · rw [List.takeWhile_cons_of_pos (by simpa using hx)]
      obtain ⟨h1, h2⟩ := ih hp.2
      refine ⟨fun f hf => ?_, h2⟩
      rcases List.mem_cons.1 hf with rfl | hf
      · exact hx
      · exact h1 f hf
    · rw [List.takeWhile_cons_of_neg (by simpa using hx)]
      refine ⟨fun f hf => by simp at hf, fun f hf => ?_⟩
      rcases List.mem_cons.1 hf with rfl | hf
      · omega
      · have := hp.1 f.1 (List.mem_map.2 ⟨f, hf, rfl⟩); omega
theorem fval_fins {fs : List Fl} {key t : Int} (h : joinOk fs key t = true) (hm : key ∉ keys fs) : fval (fins fs key t) = true := by
  obtain ⟨hv, ht, h0, h1, hb⟩ := joinOk_in h
  obtain ⟨_, hk, hd⟩ := fval_in hv
  obtain ⟨ha, hz⟩ := fins_le hk key
  have hz2 : ∀ f ∈ fs.drop (fpos fs key), key < f.1 := fun f hf => by
    have := hz f hf
    have hne : f.1 ≠ key := fun e => hm (List.mem_map.2 ⟨f, List.mem_of_mem_drop hf, e⟩)
    omega
  have hp := keysOk_pw.1 hk
  refine fval_mk (keysOk_pw.2 ⟨fun f hf => ?_, ?_⟩) (dist_perm (dist_cons hd ht hb) ?_)
  · unfold fins at hf
    rcases List.mem_append.1 hf with hf | hf
    · exact hp.1 f (List.mem_of_mem_take hf)
    · rcases List.mem_cons.1 hf with rfl | hf
      · exact ⟨h0, h1⟩
      · exact hp.1 f (List.mem_of_mem_drop hf)
  · unfold fins
    rw [List.map_append, List.map_cons, List.pairwise_append, List.pairwise_cons]
    have h3 := hp.2
    rw [← List.take_append_drop (fpos fs key) fs, List.map_append, List.pairwise_append] at h3
    refine ⟨h3.1, ⟨fun a ha2 => ?_, h3.2.1⟩, fun a ha2 b hb2 => ?_⟩
    · obtain ⟨f, hf, rfl⟩ := List.mem_map.1 ha2
      exact hz2 f hf
    · obtain ⟨f, hf, rfl⟩ := List.mem_map.1 ha2
      rcases List.mem_cons.1 hb2 with rfl | hb2
      · exact ha f hf
      · obtain ⟨g, hg, rfl⟩ := List.mem_map.1 hb2
        exact Int.lt_trans (ha f hf) (hz2 g hg)
  · unfold fins
    rw [thrs_append]
    have e : thrs ((key, t, []) :: fs.drop (fpos fs key)) = t :: thrs (fs.drop (fpos fs key)) := rfl
    rw [e]
    refine List.perm_middle.trans (List.Perm.cons _ ?_)
    rw [← thrs_append, List.take_append_drop]
theorem fput_at {fs : List Fl} {k : Nat} (h : k < fs.length) (t : Int) : fput fs k t = fs.take k ++ (fs[k].1, fs[k].2.1, fs[k].2.2 ++ [t]) :: fs.drop (k + 1) := by
  unfold fput; rw [dif_pos h, List.set_eq_take_append_cons_drop, if_pos h]
theorem fs_at {fs : List Fl} {k : Nat} (h : k < fs.length) : fs = fs.take k ++ fs[k] :: fs.drop (k + 1) := by rw [← List.drop_eq_getElem_cons h, List.take_append_drop]
theorem fput_keys {fs : List Fl} {k : Nat} (h : k < fs.length) (t : Int) : (fput fs k t).map (·.1) = fs.map (·.1) := by
  have e := congrArg (List.map (·.1)) (fs_at h)
  rw [List.map_append, List.map_cons] at e
  rw [fput_at h, List.map_append, List.map_cons, ← e]
theorem fval_fput {fs : List Fl} {key t : Int} {k : Nat} (h : joinOk fs key t = true) (hk : k < fs.length) : fval (fput fs k t) = true := by
  obtain ⟨hv, ht, h0, h1, hb⟩ := joinOk_in h
  obtain ⟨_, hko, hd⟩ := fval_in hv
  have hp := keysOk_pw.1 hko
  refine fval_mk (keysOk_pw.2 ⟨fun f hf => ?_, ?_⟩) (dist_perm (dist_cons hd ht hb) ?_)
  · have hm : f.1 ∈ (fput fs k t).map (·.1) := List.mem_map.2 ⟨f, hf, rfl⟩
    rw [fput_keys hk] at hm
    obtain ⟨g, hg, e⟩ := List.mem_map.1 hm
    rw [← e]; exact hp.1 g hg
  · rw [fput_keys hk]; exact hp.2
  · rw [fput_at hk]; conv => rhs; rw [fs_at hk]
    rw [thrs_append, thrs_append]
    have e : thrs ((fs[k].1, fs[k].2.1, fs[k].2.2 ++ [t]) :: fs.drop (k + 1)) = fs[k].2.1 :: (fs[k].2.2 ++ [t] ++ thrs (fs.drop (k + 1))) := rfl
    have e2 : thrs (fs[k] :: fs.drop (k + 1)) = fs[k].2.1 :: (fs[k].2.2 ++ thrs (fs.drop (k + 1))) := rfl
    rw [e, e2]
    have e3 : fs[k].2.1 :: (fs[k].2.2 ++ [t] ++ thrs (fs.drop (k + 1))) = (fs[k].2.1 :: fs[k].2.2) ++ t :: thrs (fs.drop (k + 1)) := by simp
    have e4 : fs[k].2.1 :: (fs[k].2.2 ++ thrs (fs.drop (k + 1))) = (fs[k].2.1 :: fs[k].2.2) ++ thrs (fs.drop (k + 1)) := by simp
    rw [e3, e4, ← List.append_assoc, ← List.append_assoc]
    exact List.perm_middle
theorem keys_nd {fs : List Fl} (h : keysOk fs = true) : (keys fs).Nodup := ((keysOk_pw.1 h).2).imp (fun h => Int.ne_of_lt h)
/-- The call that is there lands. -/
theorem fland_at {fs : List Fl} {k : Nat} (h : fval fs = true) (hk : k < fs.length) : fland fs fs[k].1 fs[k].2.1 = (fs.eraseIdx k, fs[k].2.2, true) := by
  unfold fland
  have e : fs.findIdx? (fun f => decide (f.1 = fs[k].1) && decide (f.2.1 = fs[k].2.1)) = some k := by
    rw [List.findIdx?_eq_some_iff_getElem]
    refine ⟨hk, by simp, fun j hj => ?_⟩
    have hp := List.pairwise_iff_getElem.1 (keysOk_pw.1 (fval_in h).2.1).2 j k (by simp; omega) (by simpa using hk) hj
    simp only [List.getElem_map] at hp
    simp only [Bool.and_eq_true, decide_eq_true_eq]
    intro hh; omega
  rw [if_pos h, e]
  simp [hk]
theorem fland_ok {fs rs : List Fl} {key t : Int} {L : List Int} (h : fland fs key t = (rs, L, true)) : ∃ k, ∃ hk : k < fs.length, fval fs = true ∧ fs[k].1 = key ∧ fs[k].2.1 = t ∧ rs = fs.eraseIdx k ∧ L = fs[k].2.2 := by
  unfold fland at h
  split at h
  · rename_i hv
    split at h
    · rename_i k e
      rw [List.findIdx?_eq_some_iff_getElem] at e
      obtain ⟨hk, h1, _⟩ := e
      simp only [Bool.and_eq_true, decide_eq_true_eq] at h1
      simp only [Prod.mk.injEq, and_true] at h
      refine ⟨k, hk, hv, h1.1, h1.2, h.1.symm, ?_⟩
      rw [← h.2]; simp [hk]
    · simp at h
  · simp at h
theorem fland_bad {fs rs : List Fl} {key t : Int} {L : List Int} (h : fland fs key t = (rs, L, false)) : rs = [] ∧ L = [] := by
  unfold fland at h
  split at h
  · split at h
    · simp at h
    · simp at h; exact h
  · simp at h; exact h
/-- Behind a landing: the thread may join, is the first, and doesn't land again. -/
theorem fland_after {fs rs : List Fl} {key t : Int} {L : List Int} (h : fland fs key t = (rs, L, true)) : fval rs = true ∧ rs.length + 1 = fs.length ∧ fjoin rs key t = (fins rs key t, true, true) ∧ fland rs key t = ([], [], false) := by
  obtain ⟨k, hk, hv, rfl, rfl, rfl, rfl⟩ := fland_ok h
  have hs : (fs.eraseIdx k).Sublist fs := List.eraseIdx_sublist _ _
  have hv2 := fval_sub hv hs
  have hp := keysOk_pw.1 (fval_in hv).2.1
  have hd := dist_iff.1 (fval_in hv).2.2
  have e2 : thrs fs = thrs (fs.take k) ++ (fs[k].2.1 :: (fs[k].2.2 ++ thrs (fs.drop (k + 1)))) := by
    have e : thrs (fs[k] :: fs.drop (k + 1)) = fs[k].2.1 :: (fs[k].2.2 ++ thrs (fs.drop (k + 1))) := rfl
    rw [← e, ← thrs_append, ← fs_at hk]
  have hnk : fs[k].1 ∉ keys (fs.eraseIdx k) := by
    have h3 := keys_nd (fval_in hv).2.1
    unfold keys at h3 ⊢
    rw [fs_at hk, List.map_append, List.map_cons, List.nodup_append, List.nodup_cons] at h3
    rw [List.eraseIdx_eq_take_drop_succ, List.map_append, List.mem_append]
    rintro (h4 | h4)
    · exact h3.2.2 _ h4 _ List.mem_cons_self rfl
    · exact h3.2.1.1 h4
  have hnt : hasB (thrs (fs.eraseIdx k)) fs[k].2.1 = false := by
    refine decide_eq_false ?_
    have h3 := hd.2
    rw [e2, List.nodup_append, List.nodup_cons] at h3
    rw [List.eraseIdx_eq_take_drop_succ, thrs_append, List.mem_append]
    rintro (h4 | h4)
    · exact h3.2.2 _ h4 _ List.mem_cons_self rfl
    · exact h3.2.1.1 (List.mem_append_right _ h4)
  have hth : thr fs[k].2.1 = true := hd.1 _ (by rw [e2]; simp)
  have hkb := hp.1 _ (List.getElem_mem hk)
  have hj : joinOk (fs.eraseIdx k) fs[k].1 fs[k].2.1 = true := by
    unfold joinOk; rw [hv2, hth, hnt, decide_eq_true hkb.1, decide_eq_true hkb.2]; rfl
  refine ⟨hv2, by rw [List.length_eraseIdx]; split <;> omega, fjoin_new hj hnk, ?_⟩
  unfold fland
  have e : (fs.eraseIdx k).findIdx? (fun f => decide (f.1 = fs[k].1) && decide (f.2.1 = fs[k].2.1)) = none := List.findIdx?_eq_none_iff.2 (fun f hf => by
    simp only [Bool.and_eq_false_iff, decide_eq_false_iff_not]
    exact .inl (fun e => hnk (List.mem_map.2 ⟨f, hf, e⟩)))
  rw [if_pos hv2, e]
/-- A call that was made lands, and all is as before. -/
theorem fland_fins {fs : List Fl} {key t : Int} (h : joinOk fs key t = true) (hm : key ∉ keys fs) : fland (fins fs key t) key t = (fs, [], true) := by
  have hv := fval_fins h hm
  have hl : fpos fs key < (fins fs key t).length := by have := fpos_le fs key; unfold fins; simp; omega
  have hg : (fins fs key t)[fpos fs key] = (key, t, []) := by
    have h1 := fpos_le fs key
    have e : (fins fs key t)[fpos fs key]? = some (key, t, []) := by
      unfold fins
      rw [List.getElem?_append_right (by simp; omega)]
      simp [Nat.min_eq_left h1]
    exact (List.getElem?_eq_some_iff.1 e).2
  have h2 := fland_at hv hl
  rw [hg] at h2
  rw [h2]
  have h1 := fpos_le fs key
  have e : (fins fs key t).eraseIdx (fpos fs key) = fs := by
    unfold fins
    rw [List.eraseIdx_append_of_length_le (by simp; omega)]
    simp [Nat.min_eq_left h1, List.take_append_drop]
  rw [e]
/-- A thread that joined is the last of those that are told. -/
theorem fland_fput {fs : List Fl} {key t : Int} {k : Nat} (h : joinOk fs key t = true) (hk : k < fs.length) : ∃ rs, fland (fput fs k t) fs[k].1 fs[k].2.1 = (rs, fs[k].2.2 ++ [t], true) := by
  have hv := fval_fput h hk
  have hl : k < (fput fs k t).length := by unfold fput; rw [dif_pos hk]; simpa using hk
  have hg : (fput fs k t)[k] = (fs[k].1, fs[k].2.1, fs[k].2.2 ++ [t]) := by
    simp only [fput, dif_pos hk, List.getElem_set_self]
  have h2 := fland_at hv hl
  rw [hg] at h2
  exact ⟨_, h2⟩
theorem fjoin_ok {fs rs : List Fl} {key t : Int} {f : Bool} (h : fjoin fs key t = (rs, f, true)) : joinOk fs key t = true ∧ fval rs = true := by
  unfold fjoin at h
  split at h
  · rename_i hj
    refine ⟨hj, ?_⟩
    split at h
    · rename_i hm
      simp only [Prod.mk.injEq] at h
      rw [← h.1]
      exact fval_fput hj (by have h := List.idxOf_lt_length_of_mem hm; rwa [keys_len] at h)
    · rename_i hm
      simp only [Prod.mk.injEq] at h
      rw [← h.1]; exact fval_fins hj hm
  · simp at h
theorem fjoin_bad {fs rs : List Fl} {key t : Int} {f : Bool} (h : fjoin fs key t = (rs, f, false)) : rs = [] ∧ f = false := by
  unfold fjoin at h
  split at h
  · split at h <;> simp at h
  · simp at h; exact h
/-- What a joining adds. -/
theorem fjoin_sum_eq {fs rs : List Fl} {key t : Int} {f : Bool} (h : fjoin fs key t = (rs, f, true)) : rs.length + fsum rs = fs.length + fsum fs + 1 := by
  unfold fjoin at h
  split at h
  · split at h
    · rename_i hm
      simp only [Prod.mk.injEq] at h
      rw [← h.1]
      exact fput_sum (by have h := List.idxOf_lt_length_of_mem hm; rwa [keys_len] at h) t
    · simp only [Prod.mk.injEq] at h
      rw [← h.1]; exact fins_sum fs key t
  · simp at h
/-- What lands was there. -/
theorem fland_sum {fs rs : List Fl} {key t : Int} {L : List Int} {ok : Bool} (h : fland fs key t = (rs, L, ok)) : rs.length + fsum rs + L.length ≤ fs.length + fsum fs := by
  cases ok
  · obtain ⟨rfl, rfl⟩ := fland_bad h; simp [fsum]
  · obtain ⟨k, hk, _, _, _, rfl, rfl⟩ := fland_ok h
    have e := congrArg fsum (fs_at hk)
    rw [fsum_append] at e
    have e2 : fsum (fs[k] :: fs.drop (k + 1)) = fs[k].2.2.length + fsum (fs.drop (k + 1)) := rfl
    rw [List.eraseIdx_eq_take_drop_succ, fsum_append]
    simp only [List.length_append, List.length_take, List.length_drop]
    omega
theorem owi_own {w : World} {B C : Nat} {v : Value} {xs : List Int} (h : OwI w B C v xs) : Ow w B v xs := h.1
theorem owi_hi {w : World} {B C : Nat} {v : Value} {xs : List Int} (h : OwI w B C v xs) : ∀ g, v.ownBlock = some g → g < C := h.2
theorem fland_head {f : Fl} {fs : List Fl} (h : fval (f :: fs) = true) : fland (f :: fs) f.1 f.2.1 = (fs, f.2.2, true) := fland_at (k := 0) h (by simp)
theorem fval_tail {f : Fl} {fs : List Fl} (h : fval (f :: fs) = true) : fval fs = true := fval_sub h (List.sublist_cons_self _ _)
end Go.Proofs.Ytafpnkcdoeicgaa
