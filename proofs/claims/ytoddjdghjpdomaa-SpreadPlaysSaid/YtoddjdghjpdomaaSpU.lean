/- SpreadPlays: the document's answer: Put, Drop, Rekey. Conditions: none. -/
import Derived.Test.YtoddjdghjpdomaaSpT
set_option linter.all false
set_option linter.deprecated false
namespace Go.Proofs.Ytoddjdghjpdomaa
open Go.Sep
variable [B0 : Base]
/-! ### In plain words -/
theorem rel_put {M : List Wk} {L : List Sv} (hR : RelS M L) (hw : WfS M) {k : Ky} {h : Nat} (hh : h < M.length) (hk : mayK k = true) (hn : ∀ x ∈ rk M ++ wq M, x.id ≠ k.id) : RelS (addW M h k) (L.set k.id.toNat ⟨true, k, h, false⟩) := by
  obtain ⟨b0, b1, -, -⟩ := mayK_iff.1 hk
  have hl : k.id.toNat < L.length := by rw [hR.len]; omega
  have hset : ∀ j, svA (L.set k.id.toNat ⟨true, k, h, false⟩) j = if k.id.toNat = j then ⟨true, k, h, false⟩ else svA L j := fun j => svA_set hl
  have hold : ∀ x ∈ rk M ++ wq M, svA (L.set k.id.toNat ⟨true, k, h, false⟩) x.id.toNat = svA L x.id.toNat := fun x hx => by
    have := hn x hx
    have := id_nat hw hx
    rw [hset, if_neg (by omega)]
  obtain ⟨p1, p2⟩ := addW_perm hh k
  refine ⟨by rw [List.length_set]; exact hR.len, fun i hi hr => ?_, fun i hi z hz => ?_, fun j hj hno => ?_⟩
  · rw [addW_len] at hi
    have e : (wkA (addW M h k) i).runs = (wkA M i).runs ∧ (wkA (addW M h k) i).k = (wkA M i).k := by
      unfold addW
      rw [wkA_set hh]
      by_cases e : h = i
      · subst e; rw [if_pos rfl]; exact ⟨rfl, rfl⟩
      · rw [if_neg e]; exact ⟨rfl, rfl⟩
    rw [e.1] at hr
    rw [e.2, hold _ (List.mem_append_left _ (rk_mem.2 ⟨i, hi, hr, rfl⟩))]
    exact hR.run i hi hr
  · rw [addW_len] at hi
    unfold addW at hz
    rw [wkA_set hh] at hz
    by_cases e : h = i
    · subst e
      rw [if_pos rfl] at hz
      rcases insK_mem.1 hz with rfl | hz
      · rw [hset, if_pos rfl]
      · rw [hold _ (List.mem_append_right _ (wq_mem.2 ⟨h, hi, hz⟩))]
        exact hR.wait h hi z hz
    · rw [if_neg e] at hz
      rw [hold _ (List.mem_append_right _ (wq_mem.2 ⟨i, hi, hz⟩))]
      exact hR.wait i hi z hz
  · have hmem : ∀ x, x ∈ rk M ++ wq M ∨ x = k → x ∈ rk (addW M h k) ++ wq (addW M h k) := fun x hx => by
      rcases hx with hx | rfl
      · rcases List.mem_append.1 hx with hx | hx
        · exact List.mem_append_left _ (p1.mem_iff.2 hx)
        · exact List.mem_append_right _ (p2.mem_iff.2 (List.mem_cons_of_mem _ hx))
      · exact List.mem_append_right _ (p2.mem_iff.2 List.mem_cons_self)
    have := hno k (hmem k (.inr rfl))
    rw [hset, if_neg (by omega)]
    exact hR.no j hj fun x hx => hno x (hmem x (.inl hx))
theorem rel_drop {M M' : List Wk} {L : List Sv} (hR : RelS M L) (hw : WfS M) {w : Nat} {ran : Bool} {y : Ky} {n : Int} (ht : TakeK M M' w ran y n) : RelS M' (L.set n.toNat sv0) ∧ (svA L n.toNat).is = true ∧ n.toNat < 64 ∧ 0 ≤ n ∧ svA L n.toNat = ⟨true, y, w, ran⟩ := by
  have hp := ht.perm
  have hym : y ∈ rk M ++ wq M := hp.mem_iff.2 List.mem_cons_self
  have hid := id_nat hw hym
  rw [ht.yid] at hid
  have hgone := ht.gone hw
  have hl : n.toNat < L.length := by rw [hR.len]; exact hid.2
  have hset : ∀ j, svA (L.set n.toNat sv0) j = if n.toNat = j then sv0 else svA L j := fun j => svA_set hl
  have hold : ∀ x ∈ rk M' ++ wq M', svA (L.set n.toNat sv0) x.id.toNat = svA L x.id.toNat := fun x hx => by
    have h1 := hgone x hx
    have := id_nat hw (hp.mem_iff.2 (List.mem_cons_of_mem _ hx))
    rw [hset, if_neg (by omega)]
  have hyv : svA L n.toNat = ⟨true, y, w, ran⟩ := by
    cases ran with
    | true =>
      obtain ⟨h1, h2, -, -, -⟩ := ht.run rfl
      have := hR.run w ht.lt h1
      rw [h2, ht.yid] at this
      exact this
    | false =>
      obtain ⟨j, h1, -, -, -⟩ := ht.wait rfl
      have := hR.wait w ht.lt y (List.mem_of_getElem? h1)
      rw [ht.yid] at this
      exact this
  have hlen := ht.len
  refine ⟨⟨by rw [List.length_set]; exact hR.len, fun i hi hr => ?_, fun i hi z hz => ?_, fun j hj hno => ?_⟩, by rw [hyv], hid.2, by omega, hyv⟩
  · rw [hold _ (List.mem_append_left _ (rk_mem.2 ⟨i, hi, hr, rfl⟩))]
    have hiM : i < M.length := by omega
    have e : (wkA M i).runs = true ∧ (wkA M' i).k = (wkA M i).k := by
      cases ran with
      | true =>
        obtain ⟨-, -, h3, -, -⟩ := ht.run rfl
        rw [h3, wkA_set ht.lt] at hr ⊢
        by_cases e : w = i
        · rw [if_pos e] at hr; cases hr
        · rw [if_neg e] at hr ⊢; exact ⟨hr, rfl⟩
      | false =>
        obtain ⟨j, -, h3, -, -⟩ := ht.wait rfl
        rw [h3, wkA_set ht.lt] at hr ⊢
        by_cases e : w = i
        · subst e; rw [if_pos rfl] at hr ⊢; exact ⟨hr, rfl⟩
        · rw [if_neg e] at hr ⊢; exact ⟨hr, rfl⟩
    rw [e.2]
    exact hR.run i hiM e.1
  · rw [hold _ (List.mem_append_right _ (wq_mem.2 ⟨i, hi, hz⟩))]
    have hiM : i < M.length := by omega
    have e : z ∈ (wkA M i).q := by
      cases ran with
      | true =>
        obtain ⟨-, -, h3, -, -⟩ := ht.run rfl
        rw [h3, wkA_set ht.lt] at hz
        by_cases e : w = i
        · subst e; rw [if_pos rfl] at hz; exact hz
        · rw [if_neg e] at hz; exact hz
      | false =>
        obtain ⟨j, -, h3, -, -⟩ := ht.wait rfl
        rw [h3, wkA_set ht.lt] at hz
        by_cases e : w = i
        · subst e; rw [if_pos rfl] at hz; exact List.mem_of_mem_eraseIdx hz
        · rw [if_neg e] at hz; exact hz
    exact hR.wait i hiM z e
  · by_cases e : n.toNat = j
    · rw [hset, if_pos e]
    · rw [hset, if_neg e]
      refine hR.no j hj fun x hx => ?_
      rcases List.mem_cons.1 (hp.mem_iff.1 hx) with rfl | hx
      · rw [ht.yid]; omega
      · exact hno x hx
theorem rel_back {M M' : List Wk} {L : List Sv} (hR : RelS M L) (hI : InvS M) {w : Nat} {ran : Bool} {y k : Ky} {n : Int} (ht : TakeK M M' w ran y n) (hk : mayK k = true) (hkn : k.id = n) : RelS (backW M' w ran k) (L.set n.toNat ⟨true, k, w, ran⟩) := by
  obtain ⟨h1, -, h3, h4, h5⟩ := rel_drop hR hI.wf ht
  have hw : w < M'.length := by rw [ht.len]; exact ht.lt
  have hgone := ht.gone hI.wf
  have hl : n.toNat < L.length := by rw [hR.len]; exact h3
  cases ran with
  | false =>
    have := rel_put h1 ht.wf hw hk (by rw [hkn]; exact hgone)
    rw [hkn, List.set_set] at this
    exact this
  | true =>
    obtain ⟨r1, r2, r3, r4, r5⟩ := ht.run rfl
    have e0 : backW M' w true k = M'.set w ⟨true, k, (wkA M' w).q⟩ := rfl
    rw [e0]
    have hset : ∀ j, svA (L.set n.toNat ⟨true, k, w, true⟩) j = if n.toNat = j then ⟨true, k, w, true⟩ else svA L j := fun j => svA_set hl
    have hset0 : ∀ j, svA (L.set n.toNat sv0) j = if n.toNat = j then sv0 else svA L j := fun j => svA_set hl
    have hold : ∀ x ∈ rk M' ++ wq M', svA (L.set n.toNat ⟨true, k, w, true⟩) x.id.toNat = svA (L.set n.toNat sv0) x.id.toNat := fun x hx => by
      have h1 := hgone x hx
      have := id_nat ht.wf hx
      rw [hset, hset0, if_neg (by omega), if_neg (by omega)]
    refine ⟨by rw [List.length_set]; exact hR.len, fun i hi hr => ?_, fun i hi z hz => ?_, fun j hj hno => ?_⟩
    · rw [List.length_set] at hi
      rw [wkA_set hw] at hr ⊢
      by_cases e : w = i
      · subst e
        rw [if_pos rfl]
        dsimp only
        rw [hkn, hset, if_pos rfl]
      · rw [if_neg e] at hr ⊢
        rw [hold _ (List.mem_append_left _ (rk_mem.2 ⟨i, hi, hr, rfl⟩))]
        exact h1.run i hi hr
    · rw [List.length_set] at hi
      rw [wkA_set hw] at hz
      have hz2 : z ∈ (wkA M' i).q := by
        by_cases e : w = i
        · subst e; rw [if_pos rfl] at hz; exact hz
        · rw [if_neg e] at hz; exact hz
      rw [hold _ (List.mem_append_right _ (wq_mem.2 ⟨i, hi, hz2⟩))]
      exact h1.wait i hi z hz2
    · obtain ⟨-, hpp, -, -⟩ := back_settle hI ht hk hkn
      rw [e0] at hpp
      have hk2 := hno k (hpp.mem_iff.2 List.mem_cons_self)
      rw [hkn] at hk2
      have := h1.no j hj fun x hx => hno x (hpp.mem_iff.2 (List.mem_cons_of_mem _ hx))
      rw [hset0, if_neg (by omega)] at this
      rw [hset, if_neg (by omega)]
      exact this
theorem is_find {M : List Wk} {L : List Sv} (hR : RelS M L) (hw : WfS M) {n : Int} (h0 : 0 ≤ n) (h1 : n < 64) : (svA L n.toNat).is = (findM M n).isSome := by
  cases hf : findM M n with
  | none =>
    have := findM_none.1 hf
    rw [hR.no n.toNat (by omega) fun x hx e => this x hx (by omega)]; rfl
  | some p =>
    obtain ⟨w, i⟩ := p
    obtain ⟨hwl, ⟨-, h2, h3⟩ | ⟨j, x, -, hx, he⟩⟩ := findM_some hf
    · have := hR.run w hwl h2
      rw [h3] at this; rw [this]; rfl
    · have := hR.wait w hwl x (List.mem_of_getElem? hx)
      rw [he] at this; rw [this]; rfl
end Go.Proofs.Ytoddjdghjpdomaa
