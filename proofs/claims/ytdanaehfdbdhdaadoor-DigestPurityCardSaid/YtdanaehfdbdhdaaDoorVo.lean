/- The check of known sums ahead of every law. -/
import Derived.Test.YtdanaehfdbdhdaaDoorVn
import Derived.Test.YtdanaehfdbdhdaaDoorVm
import Derived.Test.YtdanaehfdbdhdaaDoorVh
namespace Go.Proofs.YtdanaehfdbdhdaaDoor
set_option linter.unusedVariables false
open Go.Ab Go.RowKit

def nilTo : List SV → List SV → Prop
  | [], [] => True
  | v :: vs, u :: us => (v = u ∨ v = .c .nils ∧ ∃ c, u = .c (.ds 0 c) ∧ c.len = 0 ∧ c.low 0) ∧ nilTo vs us
  | _, _ => False
theorem nilTo_len : ∀ {vs us : List SV}, nilTo vs us → vs.length = us.length
  | [], [], _ => rfl
  | _ :: _, _ :: _, h => by simp [nilTo_len h.2]
  | [], _ :: _, h => h.elim
  | _ :: _, [], h => h.elim
theorem nilTo_get : ∀ {vs us : List SV} {j : Nat} {u : SV}, nilTo vs us → us[j]? = some u → ∃ v, vs[j]? = some v ∧ (v = u ∨ v = .c .nils ∧ ∃ c, u = .c (.ds 0 c) ∧ c.len = 0 ∧ c.low 0)
  | [], [], j, u, _, h => by simp at h
  | v :: vs, u' :: us, 0, u, hn, h => by
    simp only [List.getElem?_cons_zero, Option.some.injEq] at h
    subst h
    exact ⟨v, rfl, hn.1⟩
  | v :: vs, u' :: us, j + 1, u, hn, h => by
    simp only [List.getElem?_cons_succ] at h ⊢
    exact nilTo_get hn.2 h
  | [], _ :: _, _, _, h, _ => h.elim
  | _ :: _, [], _, _, h, _ => h.elim
/-- A nil slice where the contract wants an empty one. -/
def orNil (q : QSpec) : QSpec := fun vs K => ∃ us, nilTo vs us ∧ q us K
theorem flat_nil {P : Program} {glob : Nat → Option Cont} {f : FuncId} {q : QSpec} (h : FlatOK P glob f q) : FlatOK P glob f (orNil q) := by
  rintro vs K ⟨us, hn, hq⟩
  obtain ⟨v, hK, hf, hc⟩ := h us K hq
  refine ⟨v, hK, hf, fun I w xs hG hlt hA => hc I w xs hG hlt ⟨hA.1.trans (nilTo_len hn), fun j u hu => ?_⟩⟩
  obtain ⟨v', hv', hor⟩ := nilTo_get hn hu
  obtain ⟨x, hx, hr, hl⟩ := hA.2 j v' hv'
  rcases hor with rfl | ⟨rfl, c, rfl, hc0, hcl⟩
  · exact ⟨x, hx, hr, hl⟩
  · have hx' := (SV.rel_flat (x := .c .nils) rfl).1 hr
    subst hx'
    exact ⟨_, hx, CellD.ds0 c _ _ hc0, trivial⟩

theorem hex_nil : hexTo (Sha.sum []) 32 = [101, 51, 98, 48, 99, 52, 52, 50, 57, 56, 102, 99, 49, 99, 49, 52, 57, 97, 102, 98, 102, 52, 99, 56, 57, 57, 54, 102, 98, 57, 50, 52, 50, 55, 97, 101, 52, 49, 101, 52, 54, 52, 57, 98, 57, 51, 52, 99, 97, 52, 57, 53, 57, 57, 49, 98, 55, 56, 53, 50, 98, 56, 53, 53] := by decide +kernel
theorem hex_abc : hexTo (Sha.sum [97, 98, 99]) 32 = [98, 97, 55, 56, 49, 54, 98, 102, 56, 102, 48, 49, 99, 102, 101, 97, 52, 49, 52, 49, 52, 48, 100, 101, 53, 100, 97, 101, 50, 50, 50, 51, 98, 48, 48, 51, 54, 49, 97, 51, 57, 54, 49, 55, 55, 97, 57, 99, 98, 52, 49, 48, 102, 102, 54, 49, 102, 50, 48, 48, 49, 53, 97, 100] := by decide +kernel
theorem hex_hmac : hexTo (keyed (List.replicate 20 11 ++ List.replicate 12 0) [72, 105, 32, 84, 104, 101, 114, 101]) 32 = [98, 48, 51, 52, 52, 99, 54, 49, 100, 56, 100, 98, 51, 56, 53, 51, 53, 99, 97, 56, 97, 102, 99, 101, 97, 102, 48, 98, 102, 49, 50, 98, 56, 56, 49, 100, 99, 50, 48, 48, 99, 57, 56, 51, 51, 100, 97, 55, 50, 54, 101, 57, 51, 55, 54, 99, 50, 101, 51, 50, 99, 102, 102, 55] := by decide +kernel
theorem enc_nil : Sha.sum (encode []) = Sha.sum [] := rfl
theorem rep_step (k : Nat) (h : k < 20) : (List.replicate k (11 : UInt8) ++ List.replicate (32 - k) 0).set k 11 = List.replicate (k + 1) 11 ++ List.replicate (32 - (k + 1)) 0 := by
  have e : List.replicate (32 - k) (0 : UInt8) = 0 :: List.replicate (32 - (k + 1)) 0 := by
    rw [← List.replicate_succ]; congr 1; omega
  rw [e, List.set_append_right _ _ (by simp), List.length_replicate, Nat.sub_self, List.set_cons_zero, List.replicate_succ' (n := k), List.append_assoc, List.singleton_append]
noncomputable def g9 : Ctx := { P := Tryd.prog, ty := ty, glob := gl, fs := [(14, .flat (orNil sumS)), (16, .flat keyedS), (18, .flat (orNil fieldsS)), (20, .flat hexS)] }
theorem g9_ok (h27 : FlatOK Tryd.prog gl 27 hashS) : g9.OK := ⟨tyOK, ⟨⟨enters_mk Tryd.func14 (by kernel_rfl) rfl, flat_nil (sum_ok h27)⟩, ⟨enters_mk Tryd.func16 (by kernel_rfl) rfl, keyed_ok h27⟩, ⟨enters_mk Tryd.func18 (by kernel_rfl) rfl, flat_nil (fields_ok h27)⟩, ⟨enters_mk Tryd.func20 (by kernel_rfl) rfl, hex_ok⟩, trivial⟩, mixed⟩
@[simp] theorem g9_ty : g9.ty = ty := rfl


attribute [local irreducible] Sha.sum keyed hexTo encode
def sanityS : QSpec := fun vs K => match vs with
  | [] => K (.c (.bool true))
  | _ => False
set_option maxHeartbeats 1000000 in
theorem sanity_ok (h27 : FlatOK Tryd.prog gl 27 hashS) : FlatOK Tryd.prog gl 11 sanityS := by
  refine flat_of (Γ := g9) (N := 33) Tryd.func11 rfl rfl fun vs K h => ?_
  unfold sanityS at h
  split at h
  · refine ⟨_, h, rfl, by simp, fun w I => ?_⟩
    have hs := Sha.sum_length
    have hkl := keyed_length
    refine seq_k fun _ hK1 => ?_
    refine region_k (g9_ok h27) fun _ hK2 => ?_
    refine s_step rfl (by decide) rfl fun _ hS => ?_
    refine hS _ _ _ ?_
    clear hS
    refine s_nil ?_
    refine hK2 _ _ _ ?_
    refine hK1 _ _ _ ?_
    refine seq_k fun _ hK3 => ?_
    refine region_k (g9_ok h27) fun _ hK4 => ?_
    refine s_step rfl (by decide) rfl fun _ hS => ?_
    repeat refine And.intro (by first | omega | exact trivial | rfl | (simp [hs, hkl] <;> omega) | (refine And.intro ?_ ?_ <;> exact trivial) | exact ⟨trivial, trivial, trivial⟩) ?_
    refine hS _ _ _ ?_
    clear hS
    refine s_step rfl (by decide) rfl fun _ hS => ?_
    repeat refine And.intro (by first | omega | exact trivial | rfl | (simp [hs, hkl] <;> omega) | (refine And.intro ?_ ?_ <;> exact trivial) | exact ⟨trivial, trivial, trivial⟩) ?_
    refine hS _ _ _ ?_
    clear hS
    refine s_step0 rfl rfl fun _ hS => ?_
    repeat refine And.intro (by first | omega | exact trivial | rfl | (simp <;> omega) | (refine And.intro ?_ ?_ <;> exact trivial) | exact ⟨trivial, trivial, trivial⟩) ?_
    first | refine hS _ _ _ ?_ | (refine splice_full (by first | omega | exact trivial | rfl | (simp [hs, hkl] <;> omega) | (refine And.intro ?_ ?_ <;> exact trivial) | exact ⟨trivial, trivial, trivial⟩) ?_; refine hS _ _ _ ?_)
    clear hS
    refine s_nil ?_
    refine hK4 _ _ _ ?_
    refine hK3 _ _ _ ?_
    refine seq_k fun _ hK5 => ?_
    refine seq_k fun _ hK6 => ?_
    refine region_k (g9_ok h27) fun _ hK7 => ?_
    refine s_step rfl (by decide) rfl fun _ hS => ?_
    refine hS _ _ _ ?_
    clear hS
    refine s_nil ?_
    refine hK7 _ _ _ ?_
    refine hK6 _ _ _ ?_
    refine WP_block ?_
    refine WP_loop (α := Nat) (fun k => [(1, .c (.ptr 0 0)), (2, .c (.int .i64 k))]) (fun k => [(0, .own 24 (.u8s (List.replicate k 11 ++ List.replicate (32 - k) 0)) 32)]) 1 (fun k => k ≤ 20) (fun k => 20 - k) ?_ ?_
    · refine Done_some [] id 0 (Nat.zero_le _) ⟨?_, ?_, (by decide : List.Nodup ([0] : List Nat)), ?_, ?_, ⟨Nat.zero_le _, fun i hi => absurd hi (Nat.not_lt_zero i)⟩⟩
      · repeat' (first | exact trivial | refine And.intro ?_ ?_ | rfl | omega | decide | (show (_ : Nat) < _; decide))
      · repeat' (first | exact trivial | refine And.intro ?_ ?_ | rfl | omega | decide | (show (_ : Nat) < _; decide))
        all_goals first | (show (_ : List UInt8) = _; simp; done) | (show (_ : List UInt8) = _; simp only [Nat.zero_add, Nat.mul_one]; exact rep_step k (by omega)) | (simp; done)
      · repeat' (first | exact trivial | refine And.intro ?_ ?_ | rfl | omega | decide | (show (_ : Nat) < _; decide))
      · repeat' (first | exact trivial | refine And.intro ?_ ?_ | rfl | omega | decide | (show (_ : Nat) < _; decide))
    · intro k hk
      refine seq_k fun _ hK8 => ?_
      refine seq_k fun _ hK9 => ?_
      refine region_k (g9_ok h27) fun _ hK10 => ?_
      refine s_step rfl (by decide) rfl fun _ hS => ?_
      refine hS _ _ _ ?_
      clear hS
      refine s_step rfl (by decide) rfl fun _ hS => ?_
      repeat refine And.intro (by first | omega | exact trivial | rfl | (simp [hs, hkl] <;> omega) | (refine And.intro ?_ ?_ <;> exact trivial) | exact ⟨trivial, trivial, trivial⟩) ?_
      refine hS _ _ _ ?_
      clear hS
      refine s_nil ?_
      refine hK10 _ _ _ ?_
      refine hK9 _ _ _ ?_
      refine WP_cond (b := _) rfl (fun h_t5 => ?_) (fun h_t5 => ?_)
      · try simp only [decide_eq_true_eq] at h_t5
        refine WP_skip ?_
        refine hK8 _ _ _ ?_
        refine seq_k fun _ hK11 => ?_
        refine WP_block ?_
        refine region_k (g9_ok h27) fun _ hK12 => ?_
        refine s_step rfl (by decide) rfl fun _ hS => ?_
        refine hS _ _ _ ?_
        clear hS
        refine s_step rfl (by decide) rfl fun _ hS => ?_
        repeat refine And.intro (by first | omega | exact trivial | rfl | (simp <;> omega) | (refine And.intro ?_ ?_ <;> exact trivial) | exact ⟨trivial, trivial, trivial⟩) ?_
        refine hS _ _ _ ?_
        clear hS
        refine s_step0 rfl rfl fun _ hS => ?_
        repeat refine And.intro (by first | omega | exact trivial | rfl | (simp <;> omega) | (refine And.intro ?_ ?_ <;> exact trivial) | exact ⟨trivial, trivial, trivial⟩) ?_
        first | refine hS _ _ _ ?_ | (refine splice_full (by first | omega | exact trivial | rfl | (simp [hs, hkl] <;> omega) | (refine And.intro ?_ ?_ <;> exact trivial) | exact ⟨trivial, trivial, trivial⟩) ?_; refine hS _ _ _ ?_)
        clear hS
        refine s_nil ?_
        refine hK12 _ _ _ ?_
        refine done_block ?_
        refine hK11 _ _ _ ?_
        refine region_k (g9_ok h27) fun _ hK13 => ?_
        refine s_step rfl (by decide) rfl fun _ hS => ?_
        refine hS _ _ _ ?_
        clear hS
        refine s_step rfl (by decide) rfl fun _ hS => ?_
        repeat refine And.intro (by first | omega | exact trivial | rfl | (simp <;> omega) | (refine And.intro ?_ ?_ <;> exact trivial) | exact ⟨trivial, trivial, trivial⟩) ?_
        refine hS _ _ _ ?_
        clear hS
        refine s_step rfl (by decide) rfl fun _ hS => ?_
        refine hS _ _ _ ?_
        clear hS
        refine s_nil ?_
        refine hK13 _ _ _ ?_
        refine Done_some [] id (k + 1) ⟨by omega, by omega⟩ ⟨?_, ?_, (by decide : List.Nodup ([0] : List Nat)), ?_, ?_, ⟨Nat.zero_le _, fun i hi => absurd hi (Nat.not_lt_zero i)⟩⟩
        · repeat' (first | exact trivial | refine And.intro ?_ ?_ | rfl | omega | decide | (show (_ : Nat) < _; decide))
        · repeat' (first | exact trivial | refine And.intro ?_ ?_ | rfl | omega | decide | (show (_ : Nat) < _; decide))
          all_goals first | (show (_ : List UInt8) = _; simp; done) | (show (_ : List UInt8) = _; simp only [Nat.zero_add, Nat.mul_one]; exact rep_step k (by omega)) | (simp; done)
        · repeat' (first | exact trivial | refine And.intro ?_ ?_ | rfl | omega | decide | (show (_ : Nat) < _; decide))
        · repeat' (first | exact trivial | refine And.intro ?_ ?_ | rfl | omega | decide | (show (_ : Nat) < _; decide))
      · try simp only [decide_eq_false_iff_not, Int.not_lt] at h_t5
        refine WP_exit ?_
        refine done_thenx ?_
        refine done_thenx ?_
        refine Done_hit ?_
        refine hK5 _ _ _ ?_
        refine seq_k fun _ hK14 => ?_
        obtain rfl : k = 20 := by omega
        refine region_k (g9_ok h27) fun _ hK15 => ?_
        refine s_step rfl (by decide) rfl fun _ hS => ?_
        repeat first | refine And.intro (by first | omega | exact trivial | rfl | (simp [hs, hkl] <;> omega) | exact hs _ | exact hkl _ _ | exact ⟨rfl, rfl, rfl, rfl, Nat.succ_pos _⟩ | (refine And.intro ?_ ?_ <;> exact trivial) | exact ⟨trivial, trivial, trivial⟩) ?_ | refine whole_yes (by first | omega | exact trivial | rfl | (simp [hs, hkl] <;> omega) | exact hs _ | exact hkl _ _ | exact ⟨rfl, rfl, rfl, rfl, Nat.succ_pos _⟩ | (refine And.intro ?_ ?_ <;> exact trivial) | exact ⟨trivial, trivial, trivial⟩) ?_ | refine whole_sub ?_
        refine Exists.intro [.c (.ds 0 (.u8s []))] ?_
        refine And.intro ⟨.inr ⟨rfl, _, rfl, rfl, trivial⟩, trivial⟩ ?_
        refine And.intro (by simp) ?_
        repeat refine And.intro (by first | omega | exact trivial | rfl | (simp [hs, hkl] <;> omega) | exact hs _ | exact hkl _ _ | exact ⟨rfl, rfl, rfl, rfl, Nat.succ_pos _⟩ | (refine And.intro ?_ ?_ <;> exact trivial) | exact ⟨trivial, trivial, trivial⟩) ?_
        first | refine hS _ _ _ ?_ | (intro cap0 hcap0; refine hS _ _ _ ?_)
        clear hS
        refine s_step rfl (by decide) rfl fun _ hS => ?_
        repeat first | refine And.intro (by first | omega | exact trivial | rfl | (simp [hs] <;> omega) | exact hs _ | exact hkl _ _ | exact ⟨rfl, rfl, rfl, rfl, Nat.succ_pos _⟩ | (refine And.intro ?_ ?_ <;> exact trivial) | exact ⟨trivial, trivial, trivial⟩) ?_ | refine whole_yes (by first | omega | exact trivial | rfl | (simp [hs, hkl] <;> omega) | exact hs _ | exact hkl _ _ | exact ⟨rfl, rfl, rfl, rfl, Nat.succ_pos _⟩ | (refine And.intro ?_ ?_ <;> exact trivial) | exact ⟨trivial, trivial, trivial⟩) ?_ | refine whole_sub ?_
        first | refine hS _ _ _ ?_ | (intro cap1 hcap1; refine hS _ _ _ ?_)
        clear hS
        refine s_step rfl (by decide) rfl fun _ hS => ?_
        repeat refine And.intro (by first | omega | exact trivial | rfl | (simp [hs, hkl] <;> omega) | exact hs _ | exact hkl _ _ | exact ⟨rfl, rfl, rfl, rfl, Nat.succ_pos _⟩ | (refine And.intro ?_ ?_ <;> exact trivial) | exact ⟨trivial, trivial, trivial⟩) ?_
        refine hS _ _ _ ?_
        clear hS
        refine s_step rfl (by decide) rfl fun _ hS => ?_
        refine s_split hS (fun hb3 => ?_) (fun hb3 => ?_)
        rotate_left 1
        · exfalso; exact absurd hex_nil (of_decide_eq_false hb3)
        clear hS
        refine s_guard (b := true) rfl (by decide) rfl rfl (fun _ _ hS => ?_) (fun e => absurd e (by decide))
        repeat refine And.intro (by first | omega | exact trivial | rfl | (simp [hs, hkl] <;> omega) | exact hs _ | exact hkl _ _ | exact ⟨rfl, rfl, rfl, rfl, Nat.succ_pos _⟩ | (refine And.intro ?_ ?_ <;> exact trivial) | exact ⟨trivial, trivial, trivial⟩) ?_
        refine hS _ _ _ ?_
        clear hS
        refine s_guard (b := true) rfl (by decide) rfl rfl (fun _ _ hS => ?_) (fun e => absurd e (by decide))
        repeat first | refine And.intro (by first | omega | exact trivial | rfl | (simp <;> omega) | exact hs _ | exact hkl _ _ | exact ⟨rfl, rfl, rfl, rfl, Nat.succ_pos _⟩ | (refine And.intro ?_ ?_ <;> exact trivial) | exact ⟨trivial, trivial, trivial⟩) ?_ | refine whole_yes (by first | omega | exact trivial | rfl | (simp [hs, hkl] <;> omega) | exact hs _ | exact hkl _ _ | exact ⟨rfl, rfl, rfl, rfl, Nat.succ_pos _⟩ | (refine And.intro ?_ ?_ <;> exact trivial) | exact ⟨trivial, trivial, trivial⟩) ?_ | refine whole_sub ?_
        refine hS _ _ _ ?_
        clear hS
        refine s_guard (b := true) rfl (by decide) rfl rfl (fun _ _ hS => ?_) (fun e => absurd e (by decide))
        repeat first | refine And.intro (by first | omega | exact trivial | rfl | (simp [hs, hkl] <;> omega) | exact hs _ | exact hkl _ _ | exact ⟨rfl, rfl, rfl, rfl, Nat.succ_pos _⟩ | (refine And.intro ?_ ?_ <;> exact trivial) | exact ⟨trivial, trivial, trivial⟩) ?_ | refine whole_yes (by first | omega | exact trivial | rfl | (simp [hs, hkl] <;> omega) | exact hs _ | exact hkl _ _ | exact ⟨rfl, rfl, rfl, rfl, Nat.succ_pos _⟩ | (refine And.intro ?_ ?_ <;> exact trivial) | exact ⟨trivial, trivial, trivial⟩) ?_ | refine whole_sub ?_
        refine Exists.intro [.c (.ds 3 (.u8s [97, 98, 99]))] ?_
        refine And.intro ⟨.inl rfl, trivial⟩ ?_
        refine And.intro (by simp) ?_
        repeat refine And.intro (by first | omega | exact trivial | rfl | (simp [hs, hkl] <;> omega) | exact hs _ | exact hkl _ _ | exact ⟨rfl, rfl, rfl, rfl, Nat.succ_pos _⟩ | (refine And.intro ?_ ?_ <;> exact trivial) | exact ⟨trivial, trivial, trivial⟩) ?_
        first | refine hS _ _ _ ?_ | (intro cap6 hcap6; refine hS _ _ _ ?_)
        clear hS
        refine s_guard (b := true) rfl (by decide) rfl rfl (fun _ _ hS => ?_) (fun e => absurd e (by decide))
        repeat first | refine And.intro (by first | omega | exact trivial | rfl | (simp [hs] <;> omega) | exact hs _ | exact hkl _ _ | exact ⟨rfl, rfl, rfl, rfl, Nat.succ_pos _⟩ | (refine And.intro ?_ ?_ <;> exact trivial) | exact ⟨trivial, trivial, trivial⟩) ?_ | refine whole_yes (by first | omega | exact trivial | rfl | (simp [hs, hkl] <;> omega) | exact hs _ | exact hkl _ _ | exact ⟨rfl, rfl, rfl, rfl, Nat.succ_pos _⟩ | (refine And.intro ?_ ?_ <;> exact trivial) | exact ⟨trivial, trivial, trivial⟩) ?_ | refine whole_sub ?_
        first | refine hS _ _ _ ?_ | (intro cap7 hcap7; refine hS _ _ _ ?_)
        clear hS
        refine s_guard (b := true) rfl (by decide) rfl rfl (fun _ _ hS => ?_) (fun e => absurd e (by decide))
        repeat refine And.intro (by first | omega | exact trivial | rfl | (simp [hs, hkl] <;> omega) | exact hs _ | exact hkl _ _ | exact ⟨rfl, rfl, rfl, rfl, Nat.succ_pos _⟩ | (refine And.intro ?_ ?_ <;> exact trivial) | exact ⟨trivial, trivial, trivial⟩) ?_
        refine hS _ _ _ ?_
        clear hS
        refine s_step rfl (by decide) rfl fun _ hS => ?_
        refine hS _ _ _ ?_
        clear hS
        refine s_step rfl (by decide) rfl fun _ hS => ?_
        refine s_split hS (fun hb10 => ?_) (fun hb10 => ?_)
        rotate_left 1
        · exfalso; exact absurd hex_abc (of_decide_eq_false hb10)
        clear hS
        refine s_guard (b := true) rfl (by decide) rfl rfl (fun _ _ hS => ?_) (fun e => absurd e (by decide))
        repeat refine And.intro (by first | omega | exact trivial | rfl | (simp <;> omega) | exact hs _ | exact hkl _ _ | exact ⟨rfl, rfl, rfl, rfl, Nat.succ_pos _⟩ | (refine And.intro ?_ ?_ <;> exact trivial) | exact ⟨trivial, trivial, trivial⟩) ?_
        first | refine hS _ _ _ ?_ | (refine ite_yes (by first | omega | exact trivial | rfl | (simp [hs, hkl] <;> omega) | exact hs _ | exact hkl _ _ | exact ⟨rfl, rfl, rfl, rfl, Nat.succ_pos _⟩ | (refine And.intro ?_ ?_ <;> exact trivial) | exact ⟨trivial, trivial, trivial⟩) ?_; refine hS _ _ _ ?_)
        clear hS
        refine s_guard (b := true) rfl (by decide) rfl rfl (fun _ _ hS => ?_) (fun e => absurd e (by decide))
        repeat refine And.intro (by first | omega | exact trivial | rfl | (simp [hs, hkl] <;> omega) | exact hs _ | exact hkl _ _ | exact ⟨rfl, rfl, rfl, rfl, Nat.succ_pos _⟩ | (refine And.intro ?_ ?_ <;> exact trivial) | exact ⟨trivial, trivial, trivial⟩) ?_
        refine hS _ _ _ ?_
        clear hS
        refine s_guard (b := true) rfl (by decide) rfl rfl (fun _ _ hS => ?_) (fun e => absurd e (by decide))
        repeat first | refine And.intro (by first | omega | exact trivial | rfl | (simp <;> omega) | exact hs _ | exact hkl _ _ | exact ⟨rfl, rfl, rfl, rfl, Nat.succ_pos _⟩ | (refine And.intro ?_ ?_ <;> exact trivial) | exact ⟨trivial, trivial, trivial⟩) ?_ | refine whole_yes (by first | omega | exact trivial | rfl | (simp [hs, hkl] <;> omega) | exact hs _ | exact hkl _ _ | exact ⟨rfl, rfl, rfl, rfl, Nat.succ_pos _⟩ | (refine And.intro ?_ ?_ <;> exact trivial) | exact ⟨trivial, trivial, trivial⟩) ?_ | refine whole_sub ?_
        refine hS _ _ _ ?_
        clear hS
        refine s_guard (b := true) rfl (by decide) rfl rfl (fun _ _ hS => ?_) (fun e => absurd e (by decide))
        repeat first | refine And.intro (by first | omega | exact trivial | rfl | (simp <;> omega) | exact hs _ | exact hkl _ _ | exact ⟨rfl, rfl, rfl, rfl, Nat.succ_pos _⟩ | (refine And.intro ?_ ?_ <;> exact trivial) | exact ⟨trivial, trivial, trivial⟩) ?_ | refine whole_yes (by first | omega | exact trivial | rfl | (simp [hs, hkl] <;> omega) | exact hs _ | exact hkl _ _ | exact ⟨rfl, rfl, rfl, rfl, Nat.succ_pos _⟩ | (refine And.intro ?_ ?_ <;> exact trivial) | exact ⟨trivial, trivial, trivial⟩) ?_ | refine whole_sub ?_
        first | refine hS _ _ _ ?_ | (intro cap14 hcap14; refine hS _ _ _ ?_)
        clear hS
        refine s_guard (b := true) rfl (by decide) rfl rfl (fun _ _ hS => ?_) (fun e => absurd e (by decide))
        repeat first | refine And.intro (by first | omega | exact trivial | rfl | (simp [hkl] <;> omega) | exact hs _ | exact hkl _ _ | exact ⟨rfl, rfl, rfl, rfl, Nat.succ_pos _⟩ | (refine And.intro ?_ ?_ <;> exact trivial) | exact ⟨trivial, trivial, trivial⟩) ?_ | refine whole_yes (by first | omega | exact trivial | rfl | (simp [hs, hkl] <;> omega) | exact hs _ | exact hkl _ _ | exact ⟨rfl, rfl, rfl, rfl, Nat.succ_pos _⟩ | (refine And.intro ?_ ?_ <;> exact trivial) | exact ⟨trivial, trivial, trivial⟩) ?_ | refine whole_sub ?_
        first | refine hS _ _ _ ?_ | (intro cap15 hcap15; refine hS _ _ _ ?_)
        clear hS
        refine s_guard (b := true) rfl (by decide) rfl rfl (fun _ _ hS => ?_) (fun e => absurd e (by decide))
        repeat refine And.intro (by first | omega | exact trivial | rfl | (simp [hs, hkl] <;> omega) | exact hs _ | exact hkl _ _ | exact ⟨rfl, rfl, rfl, rfl, Nat.succ_pos _⟩ | (refine And.intro ?_ ?_ <;> exact trivial) | exact ⟨trivial, trivial, trivial⟩) ?_
        refine hS _ _ _ ?_
        clear hS
        refine s_step rfl (by decide) rfl fun _ hS => ?_
        refine hS _ _ _ ?_
        clear hS
        refine s_step rfl (by decide) rfl fun _ hS => ?_
        refine s_split hS (fun hb18 => ?_) (fun hb18 => ?_)
        rotate_left 1
        · exfalso; exact absurd hex_hmac (of_decide_eq_false hb18)
        clear hS
        refine s_guard (b := true) rfl (by decide) rfl rfl (fun _ _ hS => ?_) (fun e => absurd e (by decide))
        repeat first | refine And.intro (by first | omega | exact trivial | rfl | (simp [hs, hkl] <;> omega) | exact hs _ | exact hkl _ _ | exact ⟨rfl, rfl, rfl, rfl, Nat.succ_pos _⟩ | (refine And.intro ?_ ?_ <;> exact trivial) | exact ⟨trivial, trivial, trivial⟩) ?_ | refine whole_yes (by first | omega | exact trivial | rfl | (simp [hs, hkl] <;> omega) | exact hs _ | exact hkl _ _ | exact ⟨rfl, rfl, rfl, rfl, Nat.succ_pos _⟩ | (refine And.intro ?_ ?_ <;> exact trivial) | exact ⟨trivial, trivial, trivial⟩) ?_ | refine whole_sub ?_
        refine Exists.intro [.c (.ds 0 (.cells (lists [])))] ?_
        refine And.intro ⟨.inr ⟨rfl, _, rfl, rfl, (low_lists [])⟩, trivial⟩ ?_
        refine Exists.intro [] ?_
        refine And.intro rfl ?_
        refine And.intro (by simp) ?_
        repeat refine And.intro (by first | omega | exact trivial | rfl | (simp [hs, hkl] <;> omega) | exact hs _ | exact hkl _ _ | exact ⟨rfl, rfl, rfl, rfl, Nat.succ_pos _⟩ | (refine And.intro ?_ ?_ <;> exact trivial) | exact ⟨trivial, trivial, trivial⟩) ?_
        first | refine hS _ _ _ ?_ | (intro cap19 hcap19; refine hS _ _ _ ?_)
        clear hS
        refine s_guard (b := true) rfl (by decide) rfl rfl (fun _ _ hS => ?_) (fun e => absurd e (by decide))
        repeat first | refine And.intro (by first | omega | exact trivial | rfl | (simp [hs, hkl] <;> omega) | exact hs _ | exact hkl _ _ | exact ⟨rfl, rfl, rfl, rfl, Nat.succ_pos _⟩ | (refine And.intro ?_ ?_ <;> exact trivial) | exact ⟨trivial, trivial, trivial⟩) ?_ | refine whole_yes (by first | omega | exact trivial | rfl | (simp [hs, hkl] <;> omega) | exact hs _ | exact hkl _ _ | exact ⟨rfl, rfl, rfl, rfl, Nat.succ_pos _⟩ | (refine And.intro ?_ ?_ <;> exact trivial) | exact ⟨trivial, trivial, trivial⟩) ?_ | refine whole_sub ?_
        refine Exists.intro [.c (.ds 0 (.u8s []))] ?_
        refine And.intro ⟨.inr ⟨rfl, _, rfl, rfl, trivial⟩, trivial⟩ ?_
        refine And.intro (by simp) ?_
        repeat refine And.intro (by first | omega | exact trivial | rfl | (simp [hs, hkl] <;> omega) | exact hs _ | exact hkl _ _ | exact ⟨rfl, rfl, rfl, rfl, Nat.succ_pos _⟩ | (refine And.intro ?_ ?_ <;> exact trivial) | exact ⟨trivial, trivial, trivial⟩) ?_
        first | refine hS _ _ _ ?_ | (intro cap20 hcap20; refine hS _ _ _ ?_)
        clear hS
        refine s_guard (b := true) rfl (by decide) rfl rfl (fun _ _ hS => ?_) (fun e => absurd e (by decide))
        repeat refine And.intro (by first | omega | exact trivial | rfl | (simp [hs] <;> omega) | exact hs _ | exact hkl _ _ | exact ⟨rfl, rfl, rfl, rfl, Nat.succ_pos _⟩ | (refine And.intro ?_ ?_ <;> exact trivial) | exact ⟨trivial, trivial, trivial⟩) ?_
        refine hS _ _ _ ?_
        clear hS
        refine s_step rfl (by decide) rfl fun _ hS => ?_
        refine hS _ _ _ ?_
        clear hS
        refine s_step rfl (by decide) rfl fun _ hS => ?_
        refine hS _ _ _ ?_
        clear hS
        refine s_nil ?_
        refine hK15 _ _ _ ?_
        refine hK14 _ _ _ ?_
        refine WP_ret (Done_flat (g9_ok h27) (fun _ _ h => h) (by first | rfl | assumption) [.tmp 0] rfl ?_)
        repeat refine And.intro (by first | omega | exact trivial | rfl | (simp <;> omega)) ?_
        try refine ite_yes (by first | omega | exact trivial | rfl | (simp <;> omega)) ?_
        show _ = _
        rw [enc_nil]
        simp
  · exact h.elim

end Go.Proofs.YtdanaehfdbdhdaaDoor
