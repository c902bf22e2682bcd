/- For every input of the law WireCut its answer is true (a text of more than 100 bytes, or a place below 0, is let by). -/
import Derived.Test.YtghafocfbamcdaaWLaws
import Derived.Test.YtghafocfbamcdaaXx10
namespace Go.Proofs.Ytghafocfbamcdaa.Pure
set_option linter.unusedSimpArgs false
set_option linter.unusedVariables false
open Go.RowKit Go.Proofs.Ytghafocfbamcdaa.X Go.Proofs.YtghafocfbamcdaaW.PrintWords Go.Proofs.YtghafocfbamcdaaW.PrintLast

theorem get_cut (n at_ : Nat) (h : at_ < (put n).length) : IsGet ((put n).take at_) (0, 0, false) := by
  refine .inr ⟨fun m hm hp => ?_, rfl⟩
  have hp2 : put m <+: put n := hp.trans (List.take_prefix _ _)
  have := put_unique hp2 (List.prefix_refl _)
  subst this
  have := hp.length_le
  rw [List.length_take] at this
  omega
theorem read_cut (m : Nat) (x : List Int) (hx : x.length = m) (at_ : Nat) (h : at_ < (put m ++ x).length) (r : Int × Int × Bool) (hr : IsGet ((put m ++ x).take at_) r) (a : Int) :
    (readR ((put m ++ x).take at_) r a).2.2 = false := by
  unfold readR
  rcases hr with ⟨m', hm', hp, rfl⟩ | ⟨_, rfl⟩
  · have hp2 : put m' <+: put m ++ x := hp.trans (List.take_prefix _ _)
    have := put_unique hp2 ⟨x, rfl⟩
    subst this
    rw [if_neg]
    rw [List.length_append] at h
    rw [List.length_take, List.length_append]
    simp only [true_and, not_and]
    omega
  · rw [if_neg (by simp)]
theorem bytes_take {l : List Int} (h : Bytes l) (i : Nat) : Bytes (l.take i) := fun x hx => h x (List.mem_of_mem_take hx)
theorem bytes_app {l m : List Int} (h : Bytes l) (h2 : Bytes m) : Bytes (l ++ m) := fun x hx => (List.mem_append.1 hx).elim (h x) (h2 x)

theorem cut_j1 (n : Nat) (hn : n < 18446744073709551616) (s : ByteArray) (hs : s.size ≤ 100) (at_ : Nat) (k : Nat) (hk : 400 < k) :
    rolodexlaw01_WireCut.j1 k (at_ : Int) (put n) (put s.size ++ bytesOf s) = some true := by
  obtain ⟨k, rfl⟩ : ∃ q, k = q + 1 := ⟨k - 1, by omega⟩
  have h10 := put_length n hn
  have h11 := put_length s.size (by omega)
  have hz : IsGet ([128] ++ put n) (0, 0, false) := by
    refine .inr ⟨fun m hm hp => ?_, rfl⟩
    have h5 := put_head m
    obtain ⟨t, ht⟩ := hp
    cases hpm : put m with
    | nil => exact put_ne m hpm
    | cons a r =>
      rw [hpm] at ht h5
      simp at ht h5
      omega
  have hl : Bytes (put s.size ++ bytesOf s) := bytes_app (put_range _) (bytesOf_bytes s)
  have hg := Get_eq hz (bytes_app (by intro x hx; simp at hx; omega) (put_range n)) (by simp; omega) k (by simp; omega)
  simp only [rolodexlaw01_WireCut.j1]
  simp only [Option.bind_some]
  by_cases h : (at_ : Int) < ((put s.size ++ bytesOf s).length : Int)
  · rw [if_pos h, if_pos (by omega), if_pos (by omega), Int.toNat_natCast]
    have hlt : ((put s.size ++ bytesOf s).take at_).length ≤ 110 := by
      rw [List.length_take, List.length_append, bytesOf_length]; omega
    obtain ⟨r, hr, hi⟩ := Get_is ((put s.size ++ bytesOf s).take at_) (bytes_take hl _) (by omega) k (by omega)
    rw [Read_of hi (bytes_take hl _) (by omega) 100 k (by omega)]
    simp only [Option.bind_some]
    rw [read_cut s.size (bytesOf s) (bytesOf_length s) at_ (by omega) r hi, if_neg (by simp), if_pos (by simp; omega), hg]
    rfl
  · rw [if_neg h, if_pos (by simp; omega), hg]
    rfl

theorem WireCut : rolodexlaw01_WireCut.Pure := by
  intro n s at_ h1 hs h2
  simp only [Lit.wf, IntKind.min, IntKind.max, IntKind.bits, IntKind.signed, Bool.and_eq_true, decide_eq_true_eq] at h1 h2
  simp at h1 h2
  obtain ⟨n, rfl⟩ := Int.eq_ofNat_of_zero_le h1.1
  refine ⟨1000, ?_⟩
  unfold rolodexlaw01_WireCut.f
  rw [awake_eq _ (by omega)]
  simp only [Option.bind_some, if_true]
  by_cases c1 : (s.size : Int) > 100
  · rw [if_pos c1]
    rw [show (1000 : Nat) = 999 + 1 from rfl]
    simp only [rolodexlaw01_WireCut.j0, if_true]
  rw [if_neg c1]
  rw [show (1000 : Nat) = 999 + 1 from rfl]
  simp only [rolodexlaw01_WireCut.j0]
  by_cases c2 : at_ < 0
  · rw [if_pos (by simpa using c2)]
  rw [if_neg (by simpa using c2)]
  obtain ⟨at_, rfl⟩ := Int.eq_ofNat_of_zero_le (show 0 ≤ at_ by omega)
  have hn : n < 18446744073709551616 := by omega
  have h10 := put_length n hn
  rw [Put_eq n hn _ (by omega), Text_eq s hs _ (by omega)]
  simp only [Option.bind_some]
  rw [cut_j1 n hn s (by omega) at_ 999 (by omega)]
  by_cases c3 : (at_ : Int) < ((put n).length : Int)
  · rw [if_pos c3, if_pos (by omega), if_pos (by omega), Int.toNat_natCast, Get_eq (get_cut n at_ (by omega)) (bytes_take (put_range n) _) (by rw [List.length_take]; omega) _ (by rw [List.length_take]; omega)]
    simp
  · rw [if_neg c3]

end Go.Proofs.Ytghafocfbamcdaa.Pure
