/- Parts of slices, as they are read. Conditions: none. -/
import Derived.Test.YteggkdlgailfoaaDoorMord
import Derived.Test.YteggkdlgailfoaaDoorDel
set_option linter.all false
set_option linter.deprecated false
namespace Go.Sep
variable [B0 : Base]

theorem Src.takeS {L : List HP} {x : Value} {n : Nat} {es : List (List Value)} (h : Src L x n es) {k : Nat} (hk : k ≤ es.length) : Src L (vsl x 0 k (vcap x) n) n (es.take k) :=
  ⟨fun w hs e he => h.each w hs e (List.mem_of_mem_take he), fun w hs => by
    obtain ⟨ao, c, rfl, hx⟩ := h.out w hs
    refine ⟨ao, c, ?_, ?_⟩
    · simp only [vsl, vcap, List.length_take, Nat.min_eq_left hk, Nat.sub_zero, Nat.zero_mul, Addr.add, if_true]
      cases ao <;> simp
    · rcases hx with rfl | ⟨b, o, rfl, hc⟩
      · left; simp
      · right
        refine ⟨b, o, rfl, fun j u hu => hc j u ?_⟩
        rw [take_flatten (h.each w hs)] at hu
        rw [List.getElem?_take] at hu
        split at hu
        · exact hu
        · cases hu⟩
theorem Src.dropS {L : List HP} {x : Value} {n N : Nat} {es : List (List Value)} (h : Src L x n es) {k : Nat} (hk : k ≤ es.length) (hN : N = es.length) (hi : IsSl x N) : Src L (vsl x k N (vcap x) n) n (es.drop k) :=
  ⟨fun w hs e he => h.each w hs e (List.mem_of_mem_drop he), fun w hs => by
    subst hN
    obtain ⟨ao, c, rfl, hx⟩ := h.out w hs
    obtain ⟨_, c', he, hc1, _⟩ := hi
    cases he
    refine ⟨_, c - k, by simp only [vsl, vcap, List.length_drop]; rfl, ?_⟩
    rcases Nat.lt_or_ge k es.length with hlt | hge
    · rcases hx with rfl | ⟨b, o, rfl, hc⟩
      · simp at hlt
      · right
        refine ⟨b, o + k * n, ?_, fun j u hu => ?_⟩
        · exact (if_neg (show ¬ c = k by omega)).trans (by simp only [Option.map_some, Addr.add_off])
        · rw [drop_flatten (h.each w hs), List.getElem?_drop] at hu
          have := hc _ _ hu
          rw [← Nat.add_assoc] at this; exact this
    · left; exact List.drop_eq_nil_of_le hge⟩
theorem vsl_tail (ao : Option Addr) (l c k N n : Nat) : vsl (.slice ao l c) k N (vcap (.slice ao l c)) n = .slice (if c = k then ao else ao.map (·.add (k * n))) (N - k) (c - k) := rfl
theorem IsSl.dropS {v : Value} {N k n : Nat} (hv : IsSl v N) (hk : k ≤ N) : IsSl (Sep.vsl v k N (vcap v) n) (N - k) := by
  obtain ⟨ao, c, rfl, h1, h2, h3, h4⟩ := hv
  rw [vsl_tail]
  by_cases hck : c = k
  · rw [if_pos hck]
    exact ⟨ao, c - k, rfl, by omega, by omega, fun _ => by omega, fun a h hp => by omega⟩
  · rw [if_neg hck]
    refine ⟨_, c - k, rfl, by omega, by omega, fun h => ?_, fun a h hp => ?_⟩
    · cases ao with
      | none => have := h3 rfl; omega
      | some a => simp at h
    · cases ao with
      | none => simp at h
      | some a' =>
        simp only [Option.map_some, Option.some.injEq] at h
        have := h4 a' rfl (by omega)
        subst h
        unfold Addr.add
        split
        · exact this
        · rfl

end Go.Sep
