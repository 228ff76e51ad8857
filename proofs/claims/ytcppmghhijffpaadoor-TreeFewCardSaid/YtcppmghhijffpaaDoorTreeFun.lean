import Derived.Test.YtcppmghhijffpaaDoorFv
import Derived.Test.YtcppmghhijffpaaDoorText
import Derived.Deep.LoopGhost
/-! slices.ContainsFunc at whole numbers with redactor/tree.Right's function: is there one that is not 1? -/
namespace Go.Proofs.YtcppmghhijffpaaDoorW.PrintMore
open Go.RowKit Go.Proofs.YtcppmghhijffpaaDoorW.PrintWords Go.Proofs.YtcppmghhijffpaaDoorW.PrintLast
set_option linter.unusedSimpArgs false
set_option linter.unusedVariables false
section
variable {P : Program} {ops : Array Oper} {Q : Exit → Act → World → Prop} {rest : List Oper} {o : Oper} {a : Act} {W : World}
/-- A call through a function value that holds captured values: the call's own first, then those. -/
theorem goesC_ (N : Option Tmp) (hd : o.dst = N) (hg : o.guard = none) {f : FuncId} {fn : Func} {xs : Array Operand} {ts : Array TypeId} {x : Operand} (hf : P.funcs[f]? = some fn) (hname : (fn.name == "runtime.NumGoroutine") = false) (hb : fn.body.isSome = true) (args cap : Array Value)
    (hop : o.op = .call { callee := .value x, args := xs, argTypes := ts }) (hx : a.eval x = .func (.func f) #[] cap) (hargs : xs.map a.eval ++ cap = args)
    (h : Calls P f args W fun e w' => ∃ v, e = .returned v ∧ wpList P ops Q rest (a.put N v) w') : wpList P ops Q (o :: rest) a W := by
  refine wpList_plain hg fun K hK => ?_
  have he := enters_ hf hname hb args W
  have hrun : (execOp a.eval o).run P W = .ok (.enter f args) W := by
    unfold execOp
    simp [hop, resolve, Deferred.ofValue, invoke, hx, ← hargs] at he ⊢
    exact he
  unfold Oper.wp
  rw [hrun, Oper.upon_enter]
  refine h.mono fun e w'' hh => ?_
  obtain ⟨v, rfl, hk⟩ := hh
  subst hd
  exact hK _ _ hk
end
theorem once_walk (n : Int) (w : World) : Calls Tryd.prog 69 #[.int .i64 n] w fun e w' => e = .returned (.bool (n == 1)) ∧ w = w' := by
  go_enter Tryd.func69, Tryd.ntmps69
  go_wp2
  go_ret
  exact ⟨by first | rfl | simp, rfl⟩
theorem nots_walk (n : Int) (b : Nat) (w : World) (hb : w.cell? ⟨b, 0, none⟩ = some (.func (.func 69) #[] #[])) : Calls Tryd.prog 71 #[.int .i64 n, .pointer (some ⟨b, 0, none⟩)] w fun e w' => e = .returned (.bool (!(n == 1))) ∧ w = w' := by
  go_enter Tryd.func71, Tryd.ntmps71
  go_wp2_with ((with_reducible refine gate_fv rfl ?_); refine goesC_ (some 6) rfl rfl Tryd.func69 (by kernel_rfl) rfl #[.int .i64 n] #[] rfl rfl (by simp [Act.eval]) ?_; refine (once_walk n _).mono ?_; rintro e w' ⟨rfl, rfl⟩; refine ⟨_, rfl, ?_⟩)
  go_ret
  exact ⟨rfl, rfl⟩
theorem nots2_walk (n : Int) (b : Nat) (w : World) (hb : w.cell? ⟨b, 0, none⟩ = some (.func (.func 69) #[] #[])) : Calls Tryd.prog 72 #[.int .i64 n, .pointer (some ⟨b, 0, none⟩)] w fun e w' => e = .returned (.bool (!(n == 1))) ∧ w = w' := by
  go_enter Tryd.func72, Tryd.ntmps72
  go_wp2_with ((with_reducible refine gate_fv rfl ?_); refine goesC_ (some 6) rfl rfl Tryd.func69 (by kernel_rfl) rfl #[.int .i64 n] #[] rfl rfl (by simp [Act.eval]) ?_; refine (once_walk n _).mono ?_; rintro e w' ⟨rfl, rfl⟩; refine ⟨_, rfl, ?_⟩)
  go_ret
  exact ⟨rfl, rfl⟩
/-- A function that asks whether a number is not 1. -/
structure Asks (f : FuncId) (fn : Func) (b : Nat) : Prop where
  get : Tryd.prog.funcs[f]? = some fn
  name : (fn.name == "runtime.NumGoroutine") = false
  body : fn.body.isSome = true
  calls : ∀ (n : Int) (w : World), w.cell? ⟨b, 0, none⟩ = some (.func (.func 69) #[] #[]) → Calls Tryd.prog f #[.int .i64 n, .pointer (some ⟨b, 0, none⟩)] w fun e w' => e = .returned (.bool (!(n == 1))) ∧ w = w'
theorem asks71 (b : Nat) : Asks 71 Tryd.f71 b := ⟨Tryd.func71, by kernel_rfl, rfl, fun n w h => nots_walk n b w h⟩
theorem asks72 (b : Nat) : Asks 72 Tryd.f72 b := ⟨Tryd.func72, by kernel_rfl, rfl, fun n w h => nots2_walk n b w h⟩
set_option maxHeartbeats 8000000 in
set_option maxRecDepth 100000 in
theorem index_walk (f : FuncId) (fn : Func) (b : Nat) (hf : Asks f fn b) (A : Option Addr) (c : Nat) (xs : List Int) (w : World) (hr : Kd.C (Kd.int .i64) w A xs.length xs) (hl : xs.length < 1000000000) (hb : w.cell? ⟨b, 0, none⟩ = some (.func (.func 69) #[] #[])) :
    Calls Tryd.prog 94 #[.slice A xs.length c, .func (.func f) #[] #[.pointer (some ⟨b, 0, none⟩)]] w fun e w' => ∃ r : Int, e = .returned (.int .i64 r) ∧ (decide (0 ≤ r) = xs.any fun x => !(x == 1)) ∧ w = w' := by
  have HR := Aside0.mk hr
  have HN := Aside0.mk hl
  have HF := Aside0.mk hf
  have HBX := Aside0.mk hb
  clear hr hl hf hb
  go_enter Tryd.func94, Tryd.ntmps94
  go_wp2
  go_loopg [8] xs.length (fun k v8 wr => ∃ i : Nat, v8 = .int .i64 (i : Int) ∧ i + k = xs.length ∧ wr = w ∧ Aside0 (((xs.take i).any fun x => !(x == 1)) = false))
  case atStart => exact ⟨0, rfl, by omega, rfl, ⟨by simp⟩⟩
  case round =>
    obtain ⟨i, rfl, hik, rfl, HA⟩ := hrel
    by_cases hi : i < xs.length
    · obtain ⟨ad, rfl, hcw⟩ := (Kd.reads_of_C (enc := Value.int .i64) (d := (0 : Int)) (h1 := fun _ => rfl) HR.out).2.2 (by omega)
      have hcell := hcw i hi
      clear hcw
      have hlt : decide ((i : Int) < (xs.length : Int)) = true := decide_eq_true (by omega)
      have p0 : (0 ≤ (i : Int)) = True := eq_true (by omega)
      have p1 : ((i : Int) < (xs.length : Int)) = True := eq_true (by omega)
      obtain ⟨k', rfl⟩ : ∃ k', gk = k' + 1 := ⟨gk - 1, by omega⟩
      have htake : xs.take (i + 1) = xs.take i ++ [xs[i]] := by
        rw [List.take_add_one, List.getElem?_eq_getElem hi]
        rfl
      by_cases h1 : xs[i] = 1
      · have q : (xs[i] == 1) = true := beq_iff_eq.mpr h1
        have HT := Aside0.mk (show ((xs.take (i + 1)).any fun x => !(x == 1)) = false by rw [htake, List.any_append, HA.out]; simp [q])
        clear h1 htake
        go_wp2_with ((with_reducible refine gate_fv rfl ?_); refine goesC_ (some 16) rfl rfl HF.out.get HF.out.name HF.out.body #[.int .i64 xs[i], .pointer (some ⟨b, 0, none⟩)] #[.pointer (some ⟨b, 0, none⟩)] rfl rfl (by simp [Act.eval]) ?_; refine (HF.out.calls _ _ HBX.out).mono ?_; rintro e w' ⟨rfl, rfl⟩; refine ⟨_, rfl, ?_⟩; rw [q])
        go_roundg k'
        case measure => omega
        case rel => exact ⟨i + 1, by have := HN.out; rw [w64' _ (by omega) (by omega)]; simp, by omega, rfl, ⟨HT.out⟩⟩
      · have q : (xs[i] == 1) = false := beq_eq_false_iff_ne.mpr h1
        have HT := Aside0.mk (show (xs.any fun x => !(x == 1)) = true by rw [List.any_eq_true]; exact ⟨xs[i], List.getElem_mem hi, by simp [q]⟩)
        clear h1 htake
        go_wp2_with ((with_reducible refine gate_fv rfl ?_); refine goesC_ (some 16) rfl rfl HF.out.get HF.out.name HF.out.body #[.int .i64 xs[i], .pointer (some ⟨b, 0, none⟩)] #[.pointer (some ⟨b, 0, none⟩)] rfl rfl (by simp [Act.eval]) ?_; refine (HF.out.calls _ _ HBX.out).mono ?_; rintro e w' ⟨rfl, rfl⟩; refine ⟨_, rfl, ?_⟩; rw [q])
        go_ret
        exact ⟨(i : Int), rfl, by rw [HT.out]; exact decide_eq_true (by omega), rfl⟩
    · have hlt : decide ((i : Int) < (xs.length : Int)) = false := decide_eq_false (by omega)
      have HT := Aside0.mk (show (xs.any fun x => !(x == 1)) = false by have := HA.out; rwa [List.take_of_length_le (by omega)] at this)
      go_wp2
      go_ret
      exact ⟨-1, rfl, by rw [HT.out]; rfl, rfl⟩
/-- Is there one that is not 1? -/
theorem contains_walk (f : FuncId) (fn : Func) (b : Nat) (hf : Asks f fn b) (A : Option Addr) (c : Nat) (xs : List Int) (w : World) (hr : Kd.C (Kd.int .i64) w A xs.length xs) (hl : xs.length < 1000000000) (hb : w.cell? ⟨b, 0, none⟩ = some (.func (.func 69) #[] #[])) :
    Calls Tryd.prog 70 #[.slice A xs.length c, .func (.func f) #[] #[.pointer (some ⟨b, 0, none⟩)]] w fun e w' => e = .returned (.bool (xs.any fun x => !(x == 1))) ∧ w = w' := by
  have HR := Aside0.mk hr
  have HF := Aside0.mk hf
  have HBX := Aside0.mk hb
  clear hr hf hb
  go_enter Tryd.func70, Tryd.ntmps70
  go_wp2_with (go_at_call 94; refine (index_walk f fn b HF.out A c xs _ HR.out hl HBX.out).mono ?_; rintro e w' ⟨r, rfl, hr, rfl⟩)
  go_ret
  exact ⟨by rw [← hr]; rfl, rfl⟩
end Go.Proofs.YtcppmghhijffpaaDoorW.PrintMore
