/- script: configurations' texts, in plain Lean. Conditions: none. -/
import Derived.Test.YteggkdlgailfoaaDoorSF
set_option linter.all false
set_option linter.deprecated false
namespace Go.Proofs.YteggkdlgailfoaaDoor
open Go.Sep
variable [B0 : Base]
/-- A domain of a configuration. -/
structure Pl where
  wk : Int
  hd : Bool
  cp : Int
/-- A configuration. -/
structure Cfg where
  ds : List Pl
  mu : Int
  qu : Int
  lib : List (List Ins)
def plE (p : Pl) : List Value := [int p.wk, .bool p.hd, int p.cp]
def wDom : List UInt8 := [100, 111, 109, 97, 105, 110]
def wMut : List UInt8 := [109, 117, 116, 101, 120, 101, 115]
def wQua : List UInt8 := [113, 117, 97, 110, 116, 117, 109]
def wPro : List UInt8 := [112, 114, 111, 103, 114, 97, 109, 10]
def flB (b : Bool) : Int := if b = true then 1 else 0
theorem flB_num (b : Bool) : numB (flB b) = true := by cases b <;> decide
def plOk (p : Pl) : Bool := numB p.wk && numB p.cp
theorem plOk_iff {p : Pl} : plOk p = true ↔ numB p.wk = true ∧ numB p.cp = true := by unfold plOk; rw [Bool.and_eq_true]
def plNs (p : Pl) : List Int := [p.wk, flB p.hd, p.cp]
def plLine (p : Pl) : List UInt8 := lnB wDom (plNs p)
def dsText (l : List Pl) : List UInt8 := (l.map plLine).flatten
def pgText (p : List Ins) : List UInt8 := wPro ++ textB p
def lbText (l : List (List Ins)) : List UInt8 := (l.map pgText).flatten
def lbE (l : List (List Ins)) : Int := ((l.map progE).find? (fun e => e != 0)).getD 0
def cfgT (c : Cfg) : List UInt8 := dsText c.ds ++ (lnB wMut [c.mu] ++ lnB wQua [c.qu]) ++ lbText c.lib
def cfgE (c : Cfg) : Int := if c.ds.all plOk = true then if numB c.mu = true ∧ numB c.qu = true then lbE c.lib else 1 else 1
def printC (c : Cfg) : List UInt8 × Int := if cfgE c = 0 then (cfgT c, 0) else ([], cfgE c)
theorem lbE_zero : ∀ {l : List (List Ins)}, lbE l = 0 ↔ ∀ p ∈ l, progE p = 0
  | [] => by simp [lbE]
  | p :: l => by
    have ih := lbE_zero (l := l)
    unfold lbE at ih ⊢
    rw [List.map_cons, List.find?_cons]
    by_cases h : progE p = 0
    · rw [h]
      simp only [bne_self_eq_false]
      rw [ih]
      constructor
      · intro h2 q hq
        rcases List.mem_cons.1 hq with rfl | hq
        · exact h
        · exact h2 q hq
      · exact fun h2 q hq => h2 q (List.mem_cons_of_mem _ hq)
    · have hb : (progE p != 0) = true := by simpa using h
      rw [hb]
      simp only [Option.getD_some]
      exact ⟨fun h2 => absurd h2 h, fun h2 => h2 p List.mem_cons_self⟩
theorem cfgE_zero {c : Cfg} (h : cfgE c = 0) : (∀ p ∈ c.ds, plOk p = true) ∧ numB c.mu = true ∧ numB c.qu = true ∧ ∀ p ∈ c.lib, progE p = 0 := by
  unfold cfgE at h
  split at h
  · rename_i h1
    split at h
    · rename_i h2
      exact ⟨List.all_eq_true.1 h1, h2.1, h2.2, lbE_zero.1 h⟩
    · cases h
  · cases h
/-! ### How long the texts are -/
theorem lineB_le {x : Ins} (h : mayE x = 0) : (lineB x).length ≤ 22 := by
  have h1 := may_n h
  have h2 := kW_len x.op.toNat
  have h3 : (Lib.itoa x.n).length ≤ 13 := itoa_num (numB_iff.2 ⟨h1.1, h1.2.1⟩)
  unfold lineB
  split <;> simp only [List.length_append, List.length_cons, List.length_nil] <;> omega
theorem textB_le : ∀ {l : List Ins}, (∀ x ∈ l, mayE x = 0) → (textB l).length ≤ 22 * l.length
  | [], _ => by simp [textB]
  | x :: l, h => by
    have h1 := lineB_le (h x List.mem_cons_self)
    have h2 := textB_le (l := l) (fun y hy => h y (List.mem_cons_of_mem _ hy))
    unfold textB at h2 ⊢
    simp only [List.map_cons, List.flatten_cons, List.length_append, List.length_cons]
    omega
theorem pgText_le {p : List Ins} (h : progE p = 0) : (pgText p).length ≤ 1500 := by
  obtain ⟨h1, h2⟩ := progE_may h
  have h3 := textB_le h2
  unfold pgText wPro
  simp only [List.length_append, List.length_cons, List.length_nil]
  omega
theorem lbText_le : ∀ {l : List (List Ins)}, (∀ p ∈ l, progE p = 0) → (lbText l).length ≤ 1500 * l.length
  | [], _ => by simp [lbText]
  | p :: l, h => by
    have h1 := pgText_le (h p List.mem_cons_self)
    have h2 := lbText_le (l := l) fun y hy => h y (List.mem_cons_of_mem _ hy)
    unfold lbText at h2 ⊢
    simp only [List.map_cons, List.flatten_cons, List.length_append, List.length_cons]
    omega
theorem plNs_num {p : Pl} (h : plOk p = true) : ∀ n ∈ plNs p, numB n = true := by
  obtain ⟨h1, h2⟩ := plOk_iff.1 h
  intro n hn
  simp only [plNs, List.mem_cons, List.not_mem_nil, or_false] at hn
  rcases hn with rfl | rfl | rfl
  · exact h1
  · exact flB_num _
  · exact h2
theorem plLine_le {p : Pl} (h : plOk p = true) : (plLine p).length ≤ 100 := by
  have h1 := lnN_len wDom (plNs p) (plNs_num h)
  unfold plLine lnB
  rw [List.length_append]
  have h2 : wDom.length = 6 := rfl
  have h3 : (plNs p).length = 3 := rfl
  show _ + 1 ≤ _
  omega
theorem dsText_le : ∀ {l : List Pl}, (∀ p ∈ l, plOk p = true) → (dsText l).length ≤ 100 * l.length
  | [], _ => by simp [dsText]
  | p :: l, h => by
    have h1 := plLine_le (h p List.mem_cons_self)
    have h2 := dsText_le (l := l) fun y hy => h y (List.mem_cons_of_mem _ hy)
    unfold dsText at h2 ⊢
    simp only [List.map_cons, List.flatten_cons, List.length_append, List.length_cons]
    omega
theorem one_num {m : Int} (h : numB m = true) : ∀ n ∈ [m], numB n = true := fun n hn => by rw [List.mem_singleton.1 hn]; exact h
theorem ln1_le {w : List UInt8} {m : Int} (hw : w.length ≤ 10) (h : numB m = true) : (lnB w [m]).length ≤ 25 := by
  have h1 := lnN_len w [m] (one_num h)
  unfold lnB
  rw [List.length_append]
  have h3 : [m].length = 1 := rfl
  show _ + 1 ≤ _
  omega
theorem cfgT_le {c : Cfg} (h : cfgE c = 0) : (cfgT c).length ≤ 100 * c.ds.length + 50 + 1500 * c.lib.length := by
  obtain ⟨h1, h2, h3, h4⟩ := cfgE_zero h
  have a1 := dsText_le h1
  have a2 := ln1_le (w := wMut) (by decide) h2
  have a3 := ln1_le (w := wQua) (by decide) h3
  have a4 := lbText_le h4
  unfold cfgT
  simp only [List.length_append]
  omega
/-! ### Where a program begins -/
theorem occ_g {s : List UInt8} {j : Nat} (h : Lib.occAt s wPro j = true) : s[j + 3]? = some 103 := by
  unfold Lib.occAt at h
  obtain ⟨t, ht⟩ := List.isPrefixOf_iff_prefix.1 h
  have h3 : (s.drop j)[3]? = some 103 := by rw [← ht]; rfl
  rwa [List.getElem?_drop] at h3
theorem sep_miss {w : List UInt8} (h : (103 : UInt8) ∉ w) : Lib.index w wPro = -1 := by
  refine Lib.index_none fun j _ => ?_
  cases ho : Lib.occAt w wPro j with
  | false => rfl
  | true => exact absurd (List.mem_of_getElem? (occ_g ho)) h
theorem sep_hit {w r : List UInt8} (h : (103 : UInt8) ∉ w) : Lib.index (w ++ (wPro ++ r)) wPro = w.length := by
  refine Lib.index_first (by simp) ?_ fun j hj => ?_
  · unfold Lib.occAt
    rw [List.drop_left' rfl]
    exact List.isPrefixOf_iff_prefix.2 ⟨r, rfl⟩
  · cases ho : Lib.occAt (w ++ (wPro ++ r)) wPro j with
    | false => rfl
    | true =>
      have h1 := occ_g ho
      have e : w ++ (wPro ++ r) = (w ++ [112, 114, 111]) ++ (103 :: 114 :: 97 :: 109 :: 10 :: r) := by simp [wPro]
      rw [e, List.getElem?_append_left (by simp; omega)] at h1
      have h2 := List.mem_of_getElem? h1
      rcases List.mem_append.1 h2 with h2 | h2
      · exact absurd h2 h
      · revert h2; decide
theorem pcut_miss {w : List UInt8} (h : (103 : UInt8) ∉ w) : Lib.cut w wPro = (w, [], false) := by
  unfold Lib.cut
  rw [sep_miss h, if_neg (by decide)]
theorem pcut_hit {w r : List UInt8} (h : (103 : UInt8) ∉ w) : Lib.cut (w ++ (wPro ++ r)) wPro = (w, r, true) := by
  unfold Lib.cut
  rw [sep_hit h, if_pos (by omega)]
  simp
/-- The pieces of a text between the lines that begin programs. -/
def pcsN : Nat → List UInt8 → List (List UInt8)
  | 0, s => [s]
  | n + 1, s => if Lib.index s wPro < 0 then [s] else s.take (Lib.index s wPro).toNat :: pcsN n (s.drop ((Lib.index s wPro).toNat + 8))
def pcs (s : List UInt8) : List (List UInt8) := pcsN s.length s
theorem pcs_last {n : Nat} {s : List UInt8} (h : Lib.index s wPro < 0) : pcsN n s = [s] := by
  cases n with
  | zero => rfl
  | succ n => rw [pcsN, if_pos h]
theorem pcs_next {n : Nat} {s : List UInt8} (h : 0 ≤ Lib.index s wPro) (hn : s.length ≤ n) : ∃ m, pcsN n s = s.take (Lib.index s wPro).toNat :: pcsN m (s.drop ((Lib.index s wPro).toNat + 8)) ∧ (s.drop ((Lib.index s wPro).toNat + 8)).length ≤ m ∧ (Lib.index s wPro).toNat + 8 ≤ s.length := by
  have hr := Lib.index_room s wPro h
  have h8 : wPro.length = 8 := rfl
  cases n with
  | zero => omega
  | succ n =>
    refine ⟨n, by rw [pcsN, if_neg (by omega)], ?_, by omega⟩
    rw [List.length_drop]; omega
theorem pcsN_len : ∀ (n : Nat) (s : List UInt8), (pcsN n s).length ≤ n + 1
  | 0, s => by simp [pcsN]
  | n + 1, s => by
    have := pcsN_len n (s.drop ((Lib.index s wPro).toNat + 8))
    rw [pcsN]
    split
    · simp
    · simp; omega
theorem pcsN_mem : ∀ (n : Nat) (s t : List UInt8), t ∈ pcsN n s → t.length ≤ s.length
  | 0, s, t, h => by simp [pcsN] at h; subst h; exact Nat.le_refl _
  | n + 1, s, t, h => by
    rw [pcsN] at h
    split at h
    · simp at h; subst h; exact Nat.le_refl _
    · rcases List.mem_cons.1 h with rfl | h
      · rw [List.length_take]; omega
      · have := pcsN_mem n _ t h
        rw [List.length_drop] at this; omega
theorem kW_g (i : Nat) : (103 : UInt8) ∉ kW i := by
  unfold kW kWd
  split <;> decide
theorem dig_g {c : UInt8} (h : isDig c) : c ≠ 103 := by
  unfold isDig at h
  rintro rfl; simp at h
theorem lineB_g {x : Ins} (h : mayE x = 0) : (103 : UInt8) ∉ lineB x := by
  have h1 := may_n h
  unfold lineB
  split
  · rw [List.mem_append]
    rintro (hh | hh)
    · exact kW_g _ hh
    · revert hh; decide
  · simp only [List.mem_append, not_or]
    exact ⟨⟨⟨kW_g _, by decide⟩, fun hh => dig_g (itoa_dig h1.1 _ hh) rfl⟩, by decide⟩
theorem textB_g {l : List Ins} (h : progE l = 0) : (103 : UInt8) ∉ textB l := by
  unfold textB
  intro hh
  obtain ⟨p, hp, hm⟩ := List.mem_flatten.1 hh
  obtain ⟨x, hx, rfl⟩ := List.mem_map.1 hp
  exact lineB_g ((progE_may h).2 x hx) hm
theorem lnB_g {w : List UInt8} {l : List Int} (hw : (103 : UInt8) ∉ w) (hl : ∀ n ∈ l, numB n = true) : (103 : UInt8) ∉ lnB w l := by
  unfold lnB lnN
  simp only [List.mem_append, not_or]
  refine ⟨⟨hw, fun hh => ?_⟩, by decide⟩
  obtain ⟨p, hp, hm⟩ := List.mem_flatten.1 hh
  obtain ⟨n, hn, rfl⟩ := List.mem_map.1 hp
  rcases List.mem_cons.1 hm with hm | hm
  · cases hm
  · exact dig_g (itoa_dig (numB_iff.1 (hl n hn)).1 _ hm) rfl
def hdText (c : Cfg) : List UInt8 := dsText c.ds ++ (lnB wMut [c.mu] ++ lnB wQua [c.qu])
theorem hdText_g {c : Cfg} (h : cfgE c = 0) : (103 : UInt8) ∉ hdText c := by
  obtain ⟨h1, h2, h3, h4⟩ := cfgE_zero h
  unfold hdText
  simp only [List.mem_append, not_or]
  refine ⟨fun hh => ?_, lnB_g (by decide) (one_num h2), lnB_g (by decide) (one_num h3)⟩
  unfold dsText at hh
  obtain ⟨p, hp, hm⟩ := List.mem_flatten.1 hh
  obtain ⟨x, hx, rfl⟩ := List.mem_map.1 hp
  exact lnB_g (by decide) (plNs_num (h1 x hx)) hm
theorem pcsN_text : ∀ (ps : List (List Ins)) (p : List Ins) (n : Nat), (∀ q ∈ p :: ps, progE q = 0) → ps.length ≤ n → pcsN n (textB p ++ lbText ps) = (p :: ps).map textB
  | [], p, n, h, _ => by
    have hg := textB_g (h p List.mem_cons_self)
    have : textB p ++ lbText [] = textB p := by simp [lbText]
    rw [this, pcs_last (by rw [sep_miss hg]; decide)]
    rfl
  | q :: ps, p, n, h, hn => by
    have hg := textB_g (h p List.mem_cons_self)
    have e : textB p ++ lbText (q :: ps) = textB p ++ (wPro ++ (textB q ++ lbText ps)) := by simp [lbText, pgText]
    rw [e]
    cases n with
    | zero => simp at hn
    | succ n =>
      rw [pcsN, sep_hit hg, if_neg (by omega), Int.toNat_natCast, List.take_left' rfl, ← List.drop_drop, List.drop_left' rfl]
      have e2 : (wPro ++ (textB q ++ lbText ps)).drop 8 = textB q ++ lbText ps := rfl
      rw [e2, pcsN_text ps q n (fun y hy => h y (List.mem_cons_of_mem _ hy)) (by simpa using hn)]
      rfl
theorem lbText_ge : ∀ l : List (List Ins), l.length ≤ (lbText l).length
  | [] => by simp
  | p :: l => by
    have := lbText_ge l
    have h : lbText (p :: l) = wPro ++ (textB p ++ lbText l) := by simp [lbText, pgText]
    rw [h]
    simp only [List.length_append, List.length_cons]
    have h8 : wPro.length = 8 := rfl
    omega
/-! ### What the lines tell -/
def plM (t : List UInt8) : Pl := ⟨atW (lw t) 0, decide (atW (lw t) 1 = 1), atW (lw t) 2⟩
def hdNx (x : List Pl × Int × Int) (t : List UInt8) : List Pl × Int × Int :=
  if (lw t).getD 0 [] = wDom then (x.1 ++ [plM t], x.2) else if (lw t).getD 0 [] = wMut then (x.1, atW (lw t) 0, x.2.2) else if (lw t).getD 0 [] = wQua then (x.1, x.2.1, atW (lw t) 0) else x
def hdM (h : List UInt8) : List Pl × Int × Int := (linesL h).foldl hdNx ([], 0, 0)
theorem hdNx_len (x : List Pl × Int × Int) (t : List UInt8) : (hdNx x t).1.length ≤ x.1.length + 1 := by
  unfold hdNx
  (repeat' split) <;> simp
theorem hd_len : ∀ (l : List (List UInt8)) (x : List Pl × Int × Int), (l.foldl hdNx x).1.length ≤ x.1.length + l.length
  | [], x => by simp
  | t :: l, x => by
    have h1 := hd_len l (hdNx x t)
    have h2 := hdNx_len x t
    rw [List.foldl_cons, List.length_cons]; omega
theorem lnB_lines {w : List UInt8} {l : List Int} (hw : (10 : UInt8) ∉ w) (hl : ∀ n ∈ l, numB n = true) (r : List UInt8) : linesL (lnB w l ++ r) = lnB w l :: linesL r := by
  have e : lnB w l ++ r = lnN w l ++ 10 :: r := by unfold lnB; simp
  rw [e, lines_hit _ _ (lnN_nl hw fun n hn => (numB_iff.1 (hl n hn)).1)]
  rfl
theorem lw_lnB {w : List UInt8} {l : List Int} (hw : (32 : UInt8) ∉ w) (hl : ∀ n ∈ l, numB n = true) : lw (lnB w l) = w :: l.map Lib.itoa := by
  unfold lw lnB
  rw [trim_line, wrds_lnN hw]
  exact fun n hn => (numB_iff.1 (hl n hn)).1
theorem hdNx_pl {p : Pl} (h : plOk p = true) (x : List Pl × Int × Int) : hdNx x (plLine p) = (x.1 ++ [p], x.2) := by
  obtain ⟨h1, h2⟩ := plOk_iff.1 h
  have e : lw (plLine p) = wDom :: (plNs p).map Lib.itoa := lw_lnB (by decide) (plNs_num h)
  have e0 : atW (lw (plLine p)) 0 = p.wk := by rw [e]; exact atW_itoa rfl h1
  have e1 : atW (lw (plLine p)) 1 = flB p.hd := by rw [e]; exact atW_itoa rfl (flB_num _)
  have e2 : atW (lw (plLine p)) 2 = p.cp := by rw [e]; exact atW_itoa rfl h2
  have ep : plM (plLine p) = p := by
    unfold plM
    rw [e0, e1, e2]
    obtain ⟨a, b, c⟩ := p
    cases b <;> rfl
  unfold hdNx
  rw [ep, e]
  exact if_pos rfl
theorem hdNx_mu {m : Int} (h : numB m = true) (x : List Pl × Int × Int) : hdNx x (lnB wMut [m]) = (x.1, m, x.2.2) := by
  have e : lw (lnB wMut [m]) = wMut :: [m].map Lib.itoa := lw_lnB (by decide) (one_num h)
  have e0 : atW (lw (lnB wMut [m])) 0 = m := by rw [e]; exact atW_itoa rfl h
  unfold hdNx
  rw [e0, e]
  rfl
theorem hdNx_qu {m : Int} (h : numB m = true) (x : List Pl × Int × Int) : hdNx x (lnB wQua [m]) = (x.1, x.2.1, m) := by
  have e : lw (lnB wQua [m]) = wQua :: [m].map Lib.itoa := lw_lnB (by decide) (one_num h)
  have e0 : atW (lw (lnB wQua [m])) 0 = m := by rw [e]; exact atW_itoa rfl h
  unfold hdNx
  rw [e0, e]
  rfl
theorem hd_ds : ∀ {l : List Pl} (x : List Pl × Int × Int) (r : List UInt8), (∀ p ∈ l, plOk p = true) → (linesL (dsText l ++ r)).foldl hdNx x = (linesL r).foldl hdNx (x.1 ++ l, x.2)
  | [], x, r, _ => by simp [dsText]
  | p :: l, x, r, h => by
    have hp := h p List.mem_cons_self
    have e : dsText (p :: l) ++ r = plLine p ++ (dsText l ++ r) := by simp [dsText]
    rw [e]
    unfold plLine
    rw [lnB_lines (by decide) (plNs_num hp), List.foldl_cons]
    have h1 := hdNx_pl hp x
    unfold plLine at h1
    rw [h1, hd_ds _ r fun y hy => h y (List.mem_cons_of_mem _ hy)]
    simp
theorem hd_text {c : Cfg} (h : cfgE c = 0) : hdM (hdText c) = (c.ds, c.mu, c.qu) := by
  obtain ⟨h1, h2, h3, h4⟩ := cfgE_zero h
  unfold hdM hdText
  rw [hd_ds _ _ h1, lnB_lines (by decide) (one_num h2)]
  have e : lnB wQua [c.qu] = lnB wQua [c.qu] ++ [] := by simp
  rw [e, lnB_lines (by decide) (one_num h3)]
  show hdNx (hdNx _ (lnB wMut [c.mu])) (lnB wQua [c.qu]) = _
  rw [hdNx_mu h2, hdNx_qu h3]
  rfl
/-! ### The configuration of a text -/
def cfg0 : Cfg := ⟨[], 0, 0, []⟩
def pgOk (t : List UInt8) : Prop := (parseM t).2 = 0
instance (t : List UInt8) : Decidable (pgOk t) := by unfold pgOk; exact inferInstance
def chkC (s : List UInt8) (c : Cfg) : Cfg × Int := if printC c = (s, 0) then (c, 0) else (cfg0, 22)
def parseC (s : List UInt8) : Cfg × Int :=
  if (Lib.cut s wPro).1.length < s.length then
    if ∀ t ∈ pcs (Lib.cut s wPro).2.1, pgOk t then chkC s ⟨(hdM (Lib.cut s wPro).1).1, (hdM (Lib.cut s wPro).1).2.1, (hdM (Lib.cut s wPro).1).2.2, (pcs (Lib.cut s wPro).2.1).map fun t => (parseM t).1⟩ else (cfg0, 22)
  else chkC s ⟨(hdM (Lib.cut s wPro).1).1, (hdM (Lib.cut s wPro).1).2.1, (hdM (Lib.cut s wPro).1).2.2, []⟩
theorem chk_text {c : Cfg} (h : cfgE c = 0) : chkC (cfgT c) c = (c, 0) := by
  unfold chkC printC
  rw [if_pos h, if_pos rfl]
theorem parseC_text {c : Cfg} (h : cfgE c = 0) : parseC (cfgT c) = (c, 0) := by
  have hg := hdText_g h
  have hh := hd_text h
  obtain ⟨h1, h2, h3, h4⟩ := cfgE_zero h
  have hck := chk_text h
  obtain ⟨ds, mu, qu, lib⟩ := c
  dsimp only at *
  cases lib with
  | nil =>
    have e : cfgT ⟨ds, mu, qu, []⟩ = hdText ⟨ds, mu, qu, []⟩ := by simp [cfgT, hdText, lbText]
    unfold parseC
    rw [e] at hck ⊢
    rw [pcut_miss hg]
    dsimp only
    rw [if_neg (by omega), hh]
    exact hck
  | cons p ps =>
    have e : cfgT ⟨ds, mu, qu, p :: ps⟩ = hdText ⟨ds, mu, qu, p :: ps⟩ ++ (wPro ++ (textB p ++ lbText ps)) := by simp [cfgT, hdText, lbText, pgText]
    have hsp : pcs (textB p ++ lbText ps) = (p :: ps).map textB := pcsN_text ps p _ h4 (by have := lbText_ge ps; rw [List.length_append]; omega)
    have hall : ∀ t ∈ (p :: ps).map textB, pgOk t := fun t ht => by
      obtain ⟨q, hq, rfl⟩ := List.mem_map.1 ht
      unfold pgOk
      rw [parse_text (h4 q hq)]
    have hmap : ((p :: ps).map textB).map (fun t => (parseM t).1) = p :: ps := by
      rw [List.map_map]
      conv => rhs; rw [← List.map_id (p :: ps)]
      exact List.map_congr_left fun q hq => by
        show (parseM (textB q)).1 = q
        rw [parse_text (h4 q hq)]
    unfold parseC
    rw [e] at hck ⊢
    rw [pcut_hit hg]
    dsimp only
    rw [if_pos (by rw [List.length_append, List.length_append]; have : wPro.length = 8 := rfl; omega), hh, hsp, if_pos hall, hmap]
    exact hck
theorem chkC_ok {s : List UInt8} {c : Cfg} (h : (chkC s c).2 = 0) : printC (chkC s c).1 = (s, 0) := by
  unfold chkC at h ⊢
  split at h
  · rename_i h1
    rw [if_pos h1]; exact h1
  · cases h
theorem chkC_bad {s : List UInt8} {c : Cfg} (h : (chkC s c).2 ≠ 0) : chkC s c = (cfg0, 22) := by
  unfold chkC at h ⊢
  split at h
  · exact absurd rfl h
  · rename_i h1
    rw [if_neg h1]
theorem parseC_ok {s : List UInt8} (h : (parseC s).2 = 0) : printC (parseC s).1 = (s, 0) := by
  unfold parseC at h ⊢
  split at h
  · rename_i h1
    rw [if_pos h1]
    split at h
    · rename_i h2
      rw [if_pos h2]; exact chkC_ok h
    · cases h
  · rename_i h1
    rw [if_neg h1]; exact chkC_ok h
theorem parseC_bad {s : List UInt8} (h : (parseC s).2 ≠ 0) : parseC s = (cfg0, 22) := by
  unfold parseC at h ⊢
  split at h
  · rename_i h1
    rw [if_pos h1]
    split at h
    · rename_i h2
      rw [if_pos h2]; exact chkC_bad h
    · rename_i h2
      rw [if_neg h2]
  · rename_i h1
    rw [if_neg h1]; exact chkC_bad h
theorem printC_ok {c : Cfg} {s : List UInt8} (h : printC c = (s, 0)) : cfgE c = 0 ∧ cfgT c = s := by
  unfold printC at h
  split at h
  · rename_i h1
    exact ⟨h1, (Prod.mk.inj h).1⟩
  · rename_i h1
    exact absurd (Prod.mk.inj h).2 h1
end Go.Proofs.YteggkdlgailfoaaDoor
