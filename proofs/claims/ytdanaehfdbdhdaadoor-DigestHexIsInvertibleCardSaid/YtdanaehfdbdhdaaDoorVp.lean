/- The law of the hexadecimal digits. -/
import Derived.Test.YtdanaehfdbdhdaaDoorVo
namespace Go.Proofs.YtdanaehfdbdhdaaDoor
set_option linter.unusedVariables false
open Go.Ab Go.RowKit

def nib (x : UInt8) (j : Nat) : Nat := if j = 0 then x.toNat / 16 else x.toNat % 16
def valTo (x : UInt8) (j : Nat) : Nat := if j = 0 then 0 else if j = 1 then x.toNat / 16 else x.toNat
theorem nib_lt (x : UInt8) (j : Nat) : nib x j < 16 := by
  have := x.toNat_lt
  unfold nib
  split <;> omega
theorem valTo_step (x : UInt8) (j : Nat) (h : j < 2) : valTo x (j + 1) = 16 * valTo x j + nib x j := by
  rcases j with _ | _ | j
  · simp [valTo, nib]
  · simp [valTo, nib]; omega
  · omega
theorem valTo_lt (x : UInt8) (j : Nat) : valTo x j < 256 := by
  have := x.toNat_lt
  unfold valTo
  split
  · omega
  · split <;> omega
theorem dig_small (n : Nat) (h : n < 10) : (dig n).toNat = 48 + n := by
  have : ∀ k : Fin 10, (dig k.val).toNat = 48 + k.val := by decide
  exact this ⟨n, h⟩
theorem dig_big (n : Nat) (h : 10 ≤ n) (h2 : n < 16) : (dig n).toNat = 87 + n := by
  have : ∀ k : Fin 16, 10 ≤ k.val → (dig k.val).toNat = 87 + k.val := by decide
  exact this ⟨n, h2⟩ h
theorem flatMap_two (f : UInt8 → List UInt8) (hf : ∀ x, (f x).length = 2) : ∀ (l : List UInt8) (i j : Nat), i < l.length → j < 2 → (l.flatMap f).getD (2 * i + j) 0 = (f (l.getD i 0)).getD j 0
  | [], i, j, h, _ => by simp at h
  | x :: l, 0, j, _, hj => by
    rw [List.flatMap_cons, List.getD_eq_getElem?_getD, List.getElem?_append_left (by rw [hf]; omega), ← List.getD_eq_getElem?_getD]
    simp
  | x :: l, i + 1, j, h, hj => by
    rw [List.flatMap_cons, List.getD_eq_getElem?_getD, List.getElem?_append_right (by rw [hf]; omega), hf, ← List.getD_eq_getElem?_getD, show 2 * (i + 1) + j - 2 = 2 * i + j by omega, flatMap_two f hf l i j (by simpa using h) hj]
    simp
theorem hexTo_get (d : List UInt8) (hd : d.length = 32) (i j : Nat) (hi : i < 32) (hj : j < 2) : (hexTo d 32).getD (2 * i + j) 0 = dig (nib (d.getD i 0) j) := by
  have ht : d.take 32 = d := List.take_of_length_le (by omega)
  have hx := (d.getD i 0).toNat_lt
  rw [hexTo, ht, flatMap_two _ (fun _ => rfl) d i j (by omega) hj]
  rcases j with _ | _ | j
  · simp [nib]
  · simp [nib]
  · omega
noncomputable def ga : Ctx := { P := Tryd.prog, ty := ty, glob := gl, fs := [(11, .flat sanityS), (20, .flat hexS)] }
theorem ga_ok (h27 : FlatOK Tryd.prog gl 27 hashS) : ga.OK := ⟨tyOK, ⟨⟨enters_mk Tryd.func11 (by kernel_rfl) rfl, sanity_ok h27⟩, ⟨enters_mk Tryd.func20 (by kernel_rfl) rfl, hex_ok⟩, trivial⟩, mixed⟩
@[simp] theorem ga_ty : ga.ty = ty := rfl


attribute [local irreducible] hexTo nib valTo dig
def lawHexS : QSpec := fun vs K => match vs with
  | [.agg (.u8s d)] => d.length = 32 ∧ K (.c (.bool true))
  | _ => False
set_option maxHeartbeats 1000000 in
theorem lawHex_ok (h27 : FlatOK Tryd.prog gl 27 hashS) : FlatOK Tryd.prog gl 8 lawHexS := by
  refine flat_of (Γ := ga) (N := 60) Tryd.func8 rfl rfl fun vs K h => ?_
  unfold lawHexS at h
  split at h
  · rename_i d
    obtain ⟨hd, h⟩ := h
    refine ⟨_, h, rfl, by simp, fun w I => ?_⟩
    have hhl := hexTo_length d 32 (by omega)
    refine seq_k fun _ hK1 => ?_
    refine region_k (ga_ok h27) fun _ hK2 => ?_
    refine s_step rfl (by decide) rfl fun _ hS => ?_
    repeat refine And.intro (by first | omega | exact trivial | rfl | exact inR_i64.mpr ⟨by omega, by omega⟩ | (simp [hd, hhl] <;> omega) | exact hd.symm | (refine And.intro ?_ ?_ <;> exact trivial) | exact ⟨trivial, trivial, trivial⟩) ?_
    refine hS _ _ _ ?_
    clear hS
    refine s_step rfl (by decide) rfl fun _ hS => ?_
    refine hS _ _ _ ?_
    clear hS
    refine s_nil ?_
    refine hK2 _ _ _ ?_
    refine hK1 _ _ _ ?_
    refine seq_k fun _ hK3 => ?_
    refine region_k (ga_ok h27) fun _ hK4 => ?_
    refine s_step rfl (by decide) rfl fun _ hS => ?_
    repeat first | refine And.intro (by first | omega | exact trivial | rfl | exact inR_i64.mpr ⟨by omega, by omega⟩ | (simp [hd, hhl] <;> omega) | (refine And.intro ?_ ?_ <;> exact trivial) | exact ⟨trivial, trivial, trivial⟩) ?_ | refine whole_yes (by first | omega | exact trivial | rfl | exact inR_i64.mpr ⟨by omega, by omega⟩ | (simp [hd, hhl] <;> omega) | (refine And.intro ?_ ?_ <;> exact trivial) | exact ⟨trivial, trivial, trivial⟩) ?_ | refine whole_sub ?_
    first | refine hS _ _ _ ?_ | (intro cap0 hcap0; refine hS _ _ _ ?_)
    clear hS
    refine s_step rfl (by decide) rfl fun _ hS => ?_
    refine hS _ _ _ ?_
    clear hS
    refine s_nil ?_
    refine hK4 _ _ _ ?_
    refine hK3 _ _ _ ?_
    refine seq_k fun _ hK5 => ?_
    refine region_k (ga_ok h27) fun _ hK6 => ?_
    refine s_step rfl (by decide) rfl fun _ hS => ?_
    repeat refine And.intro (by first | omega | exact trivial | rfl | exact inR_i64.mpr ⟨by omega, by omega⟩ | (simp [hd] <;> omega) | (refine And.intro ?_ ?_ <;> exact trivial) | exact ⟨trivial, trivial, trivial⟩) ?_
    first | refine hS _ _ _ ?_ | (refine ite_yes (by first | omega | exact trivial | rfl | exact inR_i64.mpr ⟨by omega, by omega⟩ | (simp [hd] <;> omega) | (refine And.intro ?_ ?_ <;> exact trivial) | exact ⟨trivial, trivial, trivial⟩) ?_; refine hS _ _ _ ?_)
    clear hS
    refine s_step rfl (by decide) rfl fun _ hS => ?_
    repeat first | refine And.intro (by first | omega | exact trivial | rfl | exact inR_i64.mpr ⟨by omega, by omega⟩ | (simp [hd, hhl] <;> omega) | (refine And.intro ?_ ?_ <;> exact trivial) | exact ⟨trivial, trivial, trivial⟩) ?_ | refine whole_yes (by first | omega | exact trivial | rfl | exact inR_i64.mpr ⟨by omega, by omega⟩ | (simp [hd, hhl] <;> omega) | (refine And.intro ?_ ?_ <;> exact trivial) | exact ⟨trivial, trivial, trivial⟩) ?_ | refine whole_sub ?_
    first | refine hS _ _ _ ?_ | (intro cap1 hcap1; refine hS _ _ _ ?_)
    clear hS
    refine s_step rfl (by decide) rfl fun _ hS => ?_
    refine hS _ _ _ ?_
    clear hS
    refine s_nil ?_
    refine hK6 _ _ _ ?_
    refine hK5 _ _ _ ?_
    refine seq_k fun _ hK7 => ?_
    refine seq_k fun _ hK8 => ?_
    refine region_k (ga_ok h27) fun _ hK9 => ?_
    refine s_step rfl (by decide) rfl fun _ hS => ?_
    refine hS _ _ _ ?_
    clear hS
    refine s_step rfl (by decide) rfl fun _ hS => ?_
    repeat refine And.intro (by first | omega | exact trivial | rfl | exact inR_i64.mpr ⟨by omega, by omega⟩ | (simp [hd, hhl] <;> omega) | (refine And.intro ?_ ?_ <;> exact trivial) | exact ⟨trivial, trivial, trivial⟩) ?_
    refine hS _ _ _ ?_
    clear hS
    refine s_step rfl (by decide) rfl fun _ hS => ?_
    repeat refine And.intro (by first | omega | exact trivial | rfl | exact inR_i64.mpr ⟨by omega, by omega⟩ | (simp [hd, hhl] <;> omega) | (refine And.intro ?_ ?_ <;> exact trivial) | exact ⟨trivial, trivial, trivial⟩) ?_
    refine hS _ _ _ ?_
    clear hS
    refine s_nil ?_
    refine hK9 _ _ _ ?_
    refine hK8 _ _ _ ?_
    refine WP_cond (b := _) rfl (fun h_t14 => ?_) (fun _ => ?_)
    · exfalso; have := of_decide_eq_false (by simpa using h_t14); omega
    refine WP_skip ?_
    refine hK7 _ _ _ ?_
    refine seq_k fun _ hK10 => ?_
    refine seq_k fun _ hK11 => ?_
    refine region_k (ga_ok h27) fun _ hK12 => ?_
    refine s_step rfl (by decide) rfl fun _ hS => ?_
    refine hS _ _ _ ?_
    clear hS
    refine s_nil ?_
    refine hK12 _ _ _ ?_
    refine hK11 _ _ _ ?_
    refine WP_block ?_
    refine WP_loop (α := Nat) (fun i => [(1, .c (.ptr 0 0)), (3, .c (.bool true)), (4, .c (.str (hexTo d 32))), (5, .c (.int .i64 i))]) (fun i => [(0, .own 24 (.u8s d) 32)]) 1 (fun i => i ≤ 32) (fun i => 32 - i) ?_ ?_
    · refine Done_some [] id 0 (Nat.zero_le _) ⟨?_, ?_, (by decide : List.Nodup ([0] : List Nat)), ?_, ?_, ⟨Nat.zero_le _, fun i hi => absurd hi (Nat.not_lt_zero i)⟩⟩
      · repeat' (first | exact trivial | refine And.intro ?_ ?_ | rfl | omega | decide | (show (_ : Nat) < _; decide))
        all_goals first | (simp [valTo]; done) | (show (_ : Int) = _; omega) | exact hd | (simp; done)
      · repeat' (first | exact trivial | refine And.intro ?_ ?_ | rfl | omega | decide | (show (_ : Nat) < _; decide))
        all_goals first | (simp; done) | (show (_ : Int) = _; omega) | exact hd | (simp; done)
      · repeat' (first | exact trivial | refine And.intro ?_ ?_ | rfl | omega | decide | (show (_ : Nat) < _; decide))
      · repeat' (first | exact trivial | refine And.intro ?_ ?_ | rfl | omega | decide | (show (_ : Nat) < _; decide))
    · intro i hi
      refine seq_k fun _ hK13 => ?_
      refine seq_k fun _ hK14 => ?_
      refine region_k (ga_ok h27) fun _ hK15 => ?_
      refine s_step rfl (by decide) rfl fun _ hS => ?_
      refine hS _ _ _ ?_
      clear hS
      refine s_step rfl (by decide) rfl fun _ hS => ?_
      repeat refine And.intro (by first | omega | exact trivial | rfl | exact inR_i64.mpr ⟨by omega, by omega⟩ | (simp [hd, hhl] <;> omega) | (refine And.intro ?_ ?_ <;> exact trivial) | exact ⟨trivial, trivial, trivial⟩) ?_
      refine hS _ _ _ ?_
      clear hS
      refine s_nil ?_
      refine hK15 _ _ _ ?_
      refine hK14 _ _ _ ?_
      refine WP_cond (b := _) rfl (fun h_t16 => ?_) (fun h_t16 => ?_)
      · try simp only [decide_eq_true_eq] at h_t16
        refine WP_skip ?_
        refine hK13 _ _ _ ?_
        refine seq_k fun _ hK16 => ?_
        refine WP_block ?_
        refine seq_k fun _ hK17 => ?_
        refine region_k (ga_ok h27) fun _ hK18 => ?_
        refine s_step rfl (by decide) rfl fun _ hS => ?_
        refine hS _ _ _ ?_
        clear hS
        refine s_nil ?_
        refine hK18 _ _ _ ?_
        refine hK17 _ _ _ ?_
        refine seq_k fun _ hK19 => ?_
        refine seq_k fun _ hK20 => ?_
        refine region_k (ga_ok h27) fun _ hK21 => ?_
        refine s_step rfl (by decide) rfl fun _ hS => ?_
        refine hS _ _ _ ?_
        clear hS
        refine s_nil ?_
        refine hK21 _ _ _ ?_
        refine hK20 _ _ _ ?_
        refine WP_block ?_
        refine WP_loop (α := Nat) (fun j => [(1, .c (.ptr 0 0)), (3, .c (.bool true)), (4, .c (.str (hexTo d 32))), (5, .c (.int .i64 i)), (6, .c (.int .i64 (valTo (d.getD i 0) j))), (7, .c (.int .i64 j))]) (fun j => [(0, .own 24 (.u8s d) 32)]) 1 (fun j => j ≤ 2) (fun j => 2 - j) ?_ ?_
        · refine Done_some [] id 0 (Nat.zero_le _) ⟨?_, ?_, (by decide : List.Nodup ([0] : List Nat)), ?_, ?_, ⟨Nat.zero_le _, fun i hi => absurd hi (Nat.not_lt_zero i)⟩⟩
          · repeat' (first | exact trivial | refine And.intro ?_ ?_ | rfl | omega | decide | (show (_ : Nat) < _; decide))
            all_goals first | (simp [valTo]; done) | (show (_ : Int) = _; omega) | exact hd | (simp; done)
          · repeat' (first | exact trivial | refine And.intro ?_ ?_ | rfl | omega | decide | (show (_ : Nat) < _; decide))
            all_goals first | (simp [valTo]; done) | (show (_ : Int) = _; omega) | exact hd | (simp; done)
          · repeat' (first | exact trivial | refine And.intro ?_ ?_ | rfl | omega | decide | (show (_ : Nat) < _; decide))
          · repeat' (first | exact trivial | refine And.intro ?_ ?_ | rfl | omega | decide | (show (_ : Nat) < _; decide))
        · intro j hj
          have hvl := valTo_lt (d.getD i 0) j
          refine seq_k fun _ hK22 => ?_
          refine seq_k fun _ hK23 => ?_
          refine region_k (ga_ok h27) fun _ hK24 => ?_
          refine s_step rfl (by decide) rfl fun _ hS => ?_
          refine hS _ _ _ ?_
          clear hS
          refine s_step rfl (by decide) rfl fun _ hS => ?_
          repeat refine And.intro (by first | omega | exact trivial | rfl | exact inR_i64.mpr ⟨by omega, by omega⟩ | (simp [hd, hhl] <;> omega) | (refine And.intro ?_ ?_ <;> exact trivial) | exact ⟨trivial, trivial, trivial⟩) ?_
          refine hS _ _ _ ?_
          clear hS
          refine s_nil ?_
          refine hK24 _ _ _ ?_
          refine hK23 _ _ _ ?_
          refine WP_cond (b := _) rfl (fun h_t20 => ?_) (fun h_t20 => ?_)
          · try simp only [decide_eq_true_eq] at h_t20
            refine WP_skip ?_
            refine hK22 _ _ _ ?_
            refine seq_k fun _ hK25 => ?_
            refine WP_block ?_
            refine seq_k fun _ hK26 => ?_
            have hdg := hexTo_get d hd i j (by omega) (by omega)
            rw [show 2 * i + j = (2 * (i : Int) + (j : Int)).toNat by omega] at hdg
            have hn := nib_lt (d.getD i 0) j
            have hst := valTo_step (d.getD i 0) j (by omega)
            have hds := dig_small (nib (d.getD i 0) j)
            have hdb := fun h => dig_big (nib (d.getD i 0) j) h hn
            have hge : 48 ≤ (dig (nib (d.getD i 0) j)).toNat := by
              rcases Nat.lt_or_ge (nib (d.getD i 0) j) 10 with h | h
              · have := hds h; omega
              · have := hdb h; omega
            refine region_k (ga_ok h27) fun _ hK27 => ?_
            refine s_step rfl (by decide) rfl fun _ hS => ?_
            refine hS _ _ _ ?_
            clear hS
            refine s_step rfl (by decide) rfl fun _ hS => ?_
            refine hS _ _ _ ?_
            clear hS
            refine s_step rfl (by decide) rfl fun _ hS => ?_
            repeat refine And.intro (by first | omega | exact trivial | rfl | exact inR_i64.mpr ⟨by omega, by omega⟩ | (simp [hd, hhl] <;> omega) | (refine And.intro ?_ ?_ <;> exact trivial) | exact ⟨trivial, trivial, trivial⟩) ?_
            refine hS _ _ _ ?_
            clear hS
            refine s_step rfl (by decide) rfl fun _ hS => ?_
            refine hS _ _ _ ?_
            clear hS
            refine s_step rfl (by decide) rfl fun _ hS => ?_
            repeat refine And.intro (by first | omega | exact trivial | rfl | exact inR_i64.mpr ⟨by omega, by omega⟩ | (simp [hd, hhl] <;> omega) | (refine And.intro ?_ ?_ <;> exact trivial) | exact ⟨trivial, trivial, trivial⟩) ?_
            refine hS _ _ _ ?_
            clear hS
            refine s_step rfl (by decide) rfl fun _ hS => ?_
            repeat refine And.intro (by first | omega | exact trivial | rfl | exact inR_i64.mpr ⟨by omega, by omega⟩ | (simp [hd, hhl] <;> omega) | (refine And.intro ?_ ?_ <;> exact trivial) | exact ⟨trivial, trivial, trivial⟩) ?_
            rw [hdg]
            refine hS _ _ _ ?_
            clear hS
            refine s_step rfl (by decide) rfl fun _ hS => ?_
            repeat first | refine And.intro (by first | omega | exact trivial | rfl | exact inR_i64.mpr ⟨by omega, by omega⟩ | (simp [hd, hhl] <;> omega) | (refine And.intro ?_ ?_ <;> exact trivial) | exact ⟨trivial, trivial, trivial⟩) ?_ | refine whole_yes (by first | omega | exact trivial | rfl | exact inR_i64.mpr ⟨by omega, by omega⟩ | (simp [hd, hhl] <;> omega) | (refine And.intro ?_ ?_ <;> exact trivial) | exact ⟨trivial, trivial, trivial⟩) ?_ | refine whole_sub ?_
            refine hS _ _ _ ?_
            clear hS
            refine s_step rfl (by decide) rfl fun _ hS => ?_
            refine hS _ _ _ ?_
            clear hS
            refine s_nil ?_
            refine hK27 _ _ _ ?_
            refine hK26 _ _ _ ?_
            refine seq_k fun _ hK28 => ?_
            refine region_k (ga_ok h27) fun _ hK29 => ?_
            refine s_step rfl (by decide) rfl fun _ hS => ?_
            refine hS _ _ _ ?_
            clear hS
            refine s_step rfl (by decide) rfl fun _ hS => ?_
            repeat refine And.intro (by first | omega | exact trivial | rfl | exact inR_i64.mpr ⟨by omega, by omega⟩ | (simp [hd, hhl] <;> omega) | (refine And.intro ?_ ?_ <;> exact trivial) | exact ⟨trivial, trivial, trivial⟩) ?_
            refine hS _ _ _ ?_
            clear hS
            refine s_step rfl (by decide) rfl fun _ hS => ?_
            refine s_split hS (fun hb2 => ?_) (fun hb2 => ?_)
            rotate_left 1
            · exfalso; have := of_decide_eq_false hb2; omega
            clear hS
            refine s_guard (b := true) rfl (by decide) rfl rfl (fun _ _ hS => ?_) (fun e => absurd e (by decide))
            refine hS _ _ _ ?_
            clear hS
            refine s_guard (b := true) rfl (by decide) rfl rfl (fun _ _ hS => ?_) (fun e => absurd e (by decide))
            repeat refine And.intro (by first | omega | exact trivial | rfl | exact inR_i64.mpr ⟨by omega, by omega⟩ | (simp [hd, hhl] <;> omega) | (refine And.intro ?_ ?_ <;> exact trivial) | exact ⟨trivial, trivial, trivial⟩) ?_
            refine hS _ _ _ ?_
            clear hS
            refine s_step rfl (by decide) rfl fun _ hS => ?_
            refine hS _ _ _ ?_
            clear hS
            refine s_nil ?_
            refine hK29 _ _ _ ?_
            refine hK28 _ _ _ ?_
            refine WP_cond (b := _) rfl (fun h_t35 => ?_) (fun h_t35 => ?_)
            · have hc2 : (dig (nib (d.getD i 0) j)).toNat ≤ 57 := by
                have := of_decide_eq_true (p := ((dig (nib (d.getD i 0) j)).toNat : Int) ≤ 57) h_t35
                omega
              refine region_k (ga_ok h27) fun _ hK30 => ?_
              refine s_step rfl (by decide) rfl fun _ hS => ?_
              refine hS _ _ _ ?_
              clear hS
              refine s_step rfl (by decide) rfl fun _ hS => ?_
              repeat refine And.intro (by first | omega | exact trivial | rfl | exact inR_i64.mpr ⟨by omega, by omega⟩ | (simp [hd, hhl] <;> omega) | (refine And.intro ?_ ?_ <;> exact trivial) | exact ⟨trivial, trivial, trivial⟩) ?_
              refine hS _ _ _ ?_
              clear hS
              refine s_step rfl (by decide) rfl fun _ hS => ?_
              refine hS _ _ _ ?_
              clear hS
              refine s_step rfl (by decide) rfl fun _ hS => ?_
              repeat refine And.intro (by first | omega | exact trivial | rfl | exact inR_i64.mpr ⟨by omega, by omega⟩ | (simp [hd, hhl] <;> omega) | (refine And.intro ?_ ?_ <;> exact trivial) | exact ⟨trivial, trivial, trivial⟩) ?_
              refine hS _ _ _ ?_
              clear hS
              refine s_step rfl (by decide) rfl fun _ hS => ?_
              repeat refine And.intro (by first | omega | exact trivial | rfl | exact inR_i64.mpr ⟨by omega, by omega⟩ | (simp [hd, hhl] <;> omega) | (refine And.intro ?_ ?_ <;> exact trivial) | exact ⟨trivial, trivial, trivial⟩) ?_
              refine hS _ _ _ ?_
              clear hS
              refine s_step rfl (by decide) rfl fun _ hS => ?_
              refine hS _ _ _ ?_
              clear hS
              refine s_nil ?_
              refine hK30 _ _ _ ?_
              refine done_block ?_
              refine hK25 _ _ _ ?_
              refine region_k (ga_ok h27) fun _ hK31 => ?_
              refine s_step rfl (by decide) rfl fun _ hS => ?_
              refine hS _ _ _ ?_
              clear hS
              refine s_step rfl (by decide) rfl fun _ hS => ?_
              repeat refine And.intro (by first | omega | exact trivial | rfl | exact inR_i64.mpr ⟨by omega, by omega⟩ | (simp [hd, hhl] <;> omega) | (refine And.intro ?_ ?_ <;> exact trivial) | exact ⟨trivial, trivial, trivial⟩) ?_
              refine hS _ _ _ ?_
              clear hS
              refine s_step rfl (by decide) rfl fun _ hS => ?_
              refine hS _ _ _ ?_
              clear hS
              refine s_nil ?_
              refine hK31 _ _ _ ?_
              refine Done_some [] id (j + 1) ⟨by omega, by omega⟩ ⟨?_, ?_, (by decide : List.Nodup ([0] : List Nat)), ?_, ?_, ⟨Nat.zero_le _, fun i hi => absurd hi (Nat.not_lt_zero i)⟩⟩
              · repeat' (first | exact trivial | refine And.intro ?_ ?_ | rfl | omega | decide | (show (_ : Nat) < _; decide))
                all_goals first | (simp [valTo]; done) | (show (_ : Int) = _; omega) | exact hd | (simp; done)
              · repeat' (first | exact trivial | refine And.intro ?_ ?_ | rfl | omega | decide | (show (_ : Nat) < _; decide))
                all_goals first | (simp [valTo]; done) | (show (_ : Int) = _; omega) | exact hd | (simp; done)
              · repeat' (first | exact trivial | refine And.intro ?_ ?_ | rfl | omega | decide | (show (_ : Nat) < _; decide))
              · repeat' (first | exact trivial | refine And.intro ?_ ?_ | rfl | omega | decide | (show (_ : Nat) < _; decide))
            · have hc2 : 57 < (dig (nib (d.getD i 0) j)).toNat := by
                have := of_decide_eq_false (p := ((dig (nib (d.getD i 0) j)).toNat : Int) ≤ 57) h_t35
                omega
              refine seq_k fun _ hK32 => ?_
              refine region_k (ga_ok h27) fun _ hK33 => ?_
              refine s_step rfl (by decide) rfl fun _ hS => ?_
              refine hS _ _ _ ?_
              clear hS
              refine s_step rfl (by decide) rfl fun _ hS => ?_
              repeat refine And.intro (by first | omega | exact trivial | rfl | exact inR_i64.mpr ⟨by omega, by omega⟩ | (simp [hd, hhl] <;> omega) | (refine And.intro ?_ ?_ <;> exact trivial) | exact ⟨trivial, trivial, trivial⟩) ?_
              refine hS _ _ _ ?_
              clear hS
              refine s_step rfl (by decide) rfl fun _ hS => ?_
              refine s_split hS (fun hb2 => ?_) (fun hb2 => ?_)
              rotate_left 1
              · exfalso; have := of_decide_eq_false hb2; omega
              clear hS
              refine s_guard (b := true) rfl (by decide) rfl rfl (fun _ _ hS => ?_) (fun e => absurd e (by decide))
              refine hS _ _ _ ?_
              clear hS
              refine s_guard (b := true) rfl (by decide) rfl rfl (fun _ _ hS => ?_) (fun e => absurd e (by decide))
              repeat refine And.intro (by first | omega | exact trivial | rfl | exact inR_i64.mpr ⟨by omega, by omega⟩ | (simp [hd, hhl] <;> omega) | (refine And.intro ?_ ?_ <;> exact trivial) | exact ⟨trivial, trivial, trivial⟩) ?_
              refine hS _ _ _ ?_
              clear hS
              refine s_step rfl (by decide) rfl fun _ hS => ?_
              refine hS _ _ _ ?_
              clear hS
              refine s_nil ?_
              refine hK33 _ _ _ ?_
              refine hK32 _ _ _ ?_
              refine WP_cond (b := _) rfl (fun _ => ?_) (fun h_t46 => ?_)
              rotate_left 1
              · exfalso; have hc3 : 102 < (dig (nib (d.getD i 0) j)).toNat := by
                  have := of_decide_eq_false (p := ((dig (nib (d.getD i 0) j)).toNat : Int) ≤ 102) h_t46
                  omega
                omega
              refine region_k (ga_ok h27) fun _ hK34 => ?_
              refine s_step rfl (by decide) rfl fun _ hS => ?_
              refine hS _ _ _ ?_
              clear hS
              refine s_step rfl (by decide) rfl fun _ hS => ?_
              repeat refine And.intro (by first | omega | exact trivial | rfl | exact inR_i64.mpr ⟨by omega, by omega⟩ | (simp [hd, hhl] <;> omega) | (refine And.intro ?_ ?_ <;> exact trivial) | exact ⟨trivial, trivial, trivial⟩) ?_
              refine hS _ _ _ ?_
              clear hS
              refine s_step rfl (by decide) rfl fun _ hS => ?_
              refine hS _ _ _ ?_
              clear hS
              refine s_step rfl (by decide) rfl fun _ hS => ?_
              repeat refine And.intro (by first | omega | exact trivial | rfl | exact inR_i64.mpr ⟨by omega, by omega⟩ | (simp [hd, hhl] <;> omega) | (refine And.intro ?_ ?_ <;> exact trivial) | exact ⟨trivial, trivial, trivial⟩) ?_
              refine hS _ _ _ ?_
              clear hS
              refine s_step rfl (by decide) rfl fun _ hS => ?_
              repeat refine And.intro (by first | omega | exact trivial | rfl | exact inR_i64.mpr ⟨by omega, by omega⟩ | (simp [hd, hhl] <;> omega) | (refine And.intro ?_ ?_ <;> exact trivial) | exact ⟨trivial, trivial, trivial⟩) ?_
              refine hS _ _ _ ?_
              clear hS
              refine s_step rfl (by decide) rfl fun _ hS => ?_
              repeat refine And.intro (by first | omega | exact trivial | rfl | exact inR_i64.mpr ⟨by omega, by omega⟩ | (simp [hd, hhl] <;> omega) | (refine And.intro ?_ ?_ <;> exact trivial) | exact ⟨trivial, trivial, trivial⟩) ?_
              refine hS _ _ _ ?_
              clear hS
              refine s_step rfl (by decide) rfl fun _ hS => ?_
              refine hS _ _ _ ?_
              clear hS
              refine s_nil ?_
              refine hK34 _ _ _ ?_
              refine done_block ?_
              refine hK25 _ _ _ ?_
              refine region_k (ga_ok h27) fun _ hK35 => ?_
              refine s_step rfl (by decide) rfl fun _ hS => ?_
              refine hS _ _ _ ?_
              clear hS
              refine s_step rfl (by decide) rfl fun _ hS => ?_
              repeat refine And.intro (by first | omega | exact trivial | rfl | exact inR_i64.mpr ⟨by omega, by omega⟩ | (simp [hd, hhl] <;> omega) | (refine And.intro ?_ ?_ <;> exact trivial) | exact ⟨trivial, trivial, trivial⟩) ?_
              refine hS _ _ _ ?_
              clear hS
              refine s_step rfl (by decide) rfl fun _ hS => ?_
              refine hS _ _ _ ?_
              clear hS
              refine s_nil ?_
              refine hK35 _ _ _ ?_
              refine Done_some [] id (j + 1) ⟨by omega, by omega⟩ ⟨?_, ?_, (by decide : List.Nodup ([0] : List Nat)), ?_, ?_, ⟨Nat.zero_le _, fun i hi => absurd hi (Nat.not_lt_zero i)⟩⟩
              · repeat' (first | exact trivial | refine And.intro ?_ ?_ | rfl | omega | decide | (show (_ : Nat) < _; decide))
                all_goals first | (simp [valTo]; done) | (show (_ : Int) = _; omega) | exact hd | (simp; done)
              · repeat' (first | exact trivial | refine And.intro ?_ ?_ | rfl | omega | decide | (show (_ : Nat) < _; decide))
                all_goals first | (simp [valTo]; done) | (show (_ : Int) = _; omega) | exact hd | (simp; done)
              · repeat' (first | exact trivial | refine And.intro ?_ ?_ | rfl | omega | decide | (show (_ : Nat) < _; decide))
              · repeat' (first | exact trivial | refine And.intro ?_ ?_ | rfl | omega | decide | (show (_ : Nat) < _; decide))
          · try simp only [decide_eq_false_iff_not, Int.not_lt] at h_t20
            refine WP_exit ?_
            refine done_thenx ?_
            refine done_thenx ?_
            refine Done_hit ?_
            refine hK19 _ _ _ ?_
            refine seq_k fun _ hK36 => ?_
            obtain rfl : j = 2 := by omega
            refine region_k (ga_ok h27) fun _ hK37 => ?_
            refine s_step rfl (by decide) rfl fun _ hS => ?_
            refine hS _ _ _ ?_
            clear hS
            refine s_step rfl (by decide) rfl fun _ hS => ?_
            refine hS _ _ _ ?_
            clear hS
            refine s_step rfl (by decide) rfl fun _ hS => ?_
            repeat refine And.intro (by first | omega | exact trivial | rfl | exact inR_i64.mpr ⟨by omega, by omega⟩ | (simp [hd] <;> omega) | (refine And.intro ?_ ?_ <;> exact trivial) | exact ⟨trivial, trivial, trivial⟩) ?_
            refine hS _ _ _ ?_
            clear hS
            refine s_step rfl (by decide) rfl fun _ hS => ?_
            repeat refine And.intro (by first | omega | exact trivial | rfl | exact inR_i64.mpr ⟨by omega, by omega⟩ | (simp [hd] <;> omega) | (refine And.intro ?_ ?_ <;> exact trivial) | exact ⟨trivial, trivial, trivial⟩) ?_
            first | refine hS _ _ _ ?_ | (refine ite_yes (by first | omega | exact trivial | rfl | exact inR_i64.mpr ⟨by omega, by omega⟩ | (simp [hd, hhl] <;> omega) | (refine And.intro ?_ ?_ <;> exact trivial) | exact ⟨trivial, trivial, trivial⟩) ?_; refine hS _ _ _ ?_)
            clear hS
            refine s_step rfl (by decide) rfl fun _ hS => ?_
            repeat first | refine And.intro (by first | omega | exact trivial | rfl | exact inR_i64.mpr ⟨by omega, by omega⟩ | (simp [hd, hhl] <;> omega) | (refine And.intro ?_ ?_ <;> exact trivial) | exact ⟨trivial, trivial, trivial⟩) ?_ | refine whole_yes (by first | omega | exact trivial | rfl | exact inR_i64.mpr ⟨by omega, by omega⟩ | (simp [hd, hhl] <;> omega) | (refine And.intro ?_ ?_ <;> exact trivial) | exact ⟨trivial, trivial, trivial⟩) ?_ | refine whole_sub ?_
            refine hS _ _ _ ?_
            clear hS
            refine s_step rfl (by decide) rfl fun _ hS => ?_
            repeat refine And.intro (by first | omega | exact trivial | rfl | exact inR_i64.mpr ⟨by omega, by omega⟩ | (simp [hd, hhl] <;> omega) | (refine And.intro ?_ ?_ <;> exact trivial) | exact ⟨trivial, trivial, trivial⟩) ?_
            refine hS _ _ _ ?_
            clear hS
            refine s_nil ?_
            refine hK37 _ _ _ ?_
            refine hK36 _ _ _ ?_
            refine WP_cond (b := _) rfl (fun h_t58 => ?_) (fun _ => ?_)
            · exfalso; simp [valTo] at h_t58
            refine WP_skip ?_
            refine done_block ?_
            refine hK16 _ _ _ ?_
            refine region_k (ga_ok h27) fun _ hK38 => ?_
            refine s_step rfl (by decide) rfl fun _ hS => ?_
            refine hS _ _ _ ?_
            clear hS
            refine s_step rfl (by decide) rfl fun _ hS => ?_
            repeat refine And.intro (by first | omega | exact trivial | rfl | exact inR_i64.mpr ⟨by omega, by omega⟩ | (simp [hd, hhl] <;> omega) | (refine And.intro ?_ ?_ <;> exact trivial) | exact ⟨trivial, trivial, trivial⟩) ?_
            refine hS _ _ _ ?_
            clear hS
            refine s_step rfl (by decide) rfl fun _ hS => ?_
            refine hS _ _ _ ?_
            clear hS
            refine s_nil ?_
            refine hK38 _ _ _ ?_
            refine Done_some [] id (i + 1) ⟨by omega, by omega⟩ ⟨?_, ?_, (by decide : List.Nodup ([0] : List Nat)), ?_, ?_, ⟨Nat.zero_le _, fun i hi => absurd hi (Nat.not_lt_zero i)⟩⟩
            · repeat' (first | exact trivial | refine And.intro ?_ ?_ | rfl | omega | decide | (show (_ : Nat) < _; decide))
              all_goals first | (simp [valTo]; done) | (show (_ : Int) = _; omega) | exact hd | (simp; done)
            · repeat' (first | exact trivial | refine And.intro ?_ ?_ | rfl | omega | decide | (show (_ : Nat) < _; decide))
              all_goals first | (simp [valTo]; done) | (show (_ : Int) = _; omega) | exact hd | (simp; done)
            · repeat' (first | exact trivial | refine And.intro ?_ ?_ | rfl | omega | decide | (show (_ : Nat) < _; decide))
            · repeat' (first | exact trivial | refine And.intro ?_ ?_ | rfl | omega | decide | (show (_ : Nat) < _; decide))
      · try simp only [decide_eq_false_iff_not, Int.not_lt] at h_t16
        refine WP_exit ?_
        refine done_thenx ?_
        refine done_thenx ?_
        refine Done_hit ?_
        refine hK10 _ _ _ ?_
        refine seq_k fun _ hK39 => ?_
        refine region_k (ga_ok h27) fun _ hK40 => ?_
        refine s_step rfl (by decide) rfl fun _ hS => ?_
        refine hS _ _ _ ?_
        clear hS
        refine s_step rfl (by decide) rfl fun _ hS => ?_
        refine hS _ _ _ ?_
        clear hS
        refine s_nil ?_
        refine hK40 _ _ _ ?_
        refine hK39 _ _ _ ?_
        refine WP_ret (Done_flat (ga_ok h27) (fun _ _ h => h) (by first | rfl | assumption) [.tmp 2] rfl ?_)
        repeat refine And.intro (by first | omega | exact trivial | rfl | (simp <;> omega)) ?_
        try refine ite_yes (by first | omega | exact trivial | rfl | (simp <;> omega)) ?_
        show _ = _
        rfl
  · exact h.elim

end Go.Proofs.YtdanaehfdbdhdaaDoor
