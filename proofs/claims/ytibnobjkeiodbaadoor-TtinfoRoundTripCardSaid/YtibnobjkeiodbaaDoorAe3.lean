/- The walk's evaluator and its laws (over whatever program), and contracts of the program's functions. -/
import Derived.Test.YtibnobjkeiodbaaDoorAe2
import Derived.KernelRfl
set_option linter.all false
namespace Z16
open Go Go.Proofs Go.RowKit Go.Extern.Stop Go.Stop Go.Extern
theorem cell_lt {w : World} {a : Addr} {v : Value} (h : w.cell? a = some v) : a.block < w.heap.size := by
  rcases Nat.lt_or_ge a.block w.heap.size with h1 | h1
  · exact h1
  · simp [World.cell?, Array.getElem?_eq_none h1] at h
/-- The world in which errors.ars begins. -/
noncomputable def wAs (t : Addr) (w : World) : World := (w.alloc (.cells #[.pointer (some t)] 46)).alloc (.cells #[.pointer (some ⟨1, 46, none⟩), .pointer (some ⟨w.heap.size, 0, none⟩), .int .u64 150] 55)
/-- The world that it leaves. -/
noncomputable def wHit (x : Int) (t : Addr) (w : World) : World := ((((wAs t w).alloc (.cells #[.pointer (some ⟨1, 46, none⟩), .pointer (some ⟨w.heap.size, 0, none⟩), .int .u64 150] 55)).alloc (.cells #[.pointer (some ⟨1, 46, none⟩), .pointer (some ⟨w.heap.size, 0, none⟩), .int .u64 150] 55)).alloc (.cells #[.int .u8 x] 44)).setCell t (.int .u8 x)
set_option maxRecDepth 100000 in
set_option maxHeartbeats 4000000 in
theorem as_hit (x : Int) (pe a t : Addr) (cap : Nat) (old : Value) (w : World) (he : w.cell? pe = some (.slice (some a) 1 cap)) (ha : w.cell? a = some (.iface 44 (.int .u8 x))) (ht : w.cell? t = some old) (hf : w.frozen? t = false)
    (hg : w.cell? ⟨0, 0, none⟩ = some (.iface 73 (.agg #[.pointer (some ⟨1, 41, none⟩)]))) :
    Calls Tryd.prog 19 #[.iface 69 (.pointer (some pe)), .iface 46 (.pointer (some t))] w fun e w' => e = .returned (.bool true) ∧ w' = wHit x t w := by
  have h25 := @run_callFunc_extern Tryd.prog 25 _ (fun args => ReflectliteValue.unpack (args.getD 0 (.tuple #[]))) Tryd.func25 (by kernel_rfl) (by kernel_rfl) (by kernel_rfl) (by kernel_rfl)
  have h26 := @run_callFunc_extern Tryd.prog 26 _ (ReflectliteValue.methodAny (ReflectliteValue.valueError "reflectlite.Value.Type" 0) (fun t _ _ _ => ReflectliteType.toType t)) Tryd.func26 (by kernel_rfl) (by kernel_rfl) (by kernel_rfl) (by kernel_rfl)
  have h27 := @run_callFunc_extern Tryd.prog 27 _ (ReflectliteValue.method (ReflectliteValue.valueError "reflectlite.Value.IsNil" 0) ReflectliteValue.isNil) Tryd.func27 (by kernel_rfl) (by kernel_rfl) (by kernel_rfl) (by kernel_rfl)
  have h49 := @run_callFunc_extern Tryd.prog 49 _ (ReflectliteType.abiMethod fun t => do pure (.int .u8 (← Rtype.kind t))) Tryd.func49 (by kernel_rfl) (by kernel_rfl) (by kernel_rfl) (by kernel_rfl)
  have h61 := @run_callFunc_extern Tryd.prog 61 _ (ReflectliteType.method ReflectliteType.elem) Tryd.func61 (by kernel_rfl) (by kernel_rfl) (by kernel_rfl) (by kernel_rfl)
  have h62 := @run_callFunc_extern Tryd.prog 62 _ (ReflectliteType.relation "Implements" ReflectliteType.implements_) Tryd.func62 (by kernel_rfl) (by kernel_rfl) (by kernel_rfl) (by kernel_rfl)
  have f6 := valueOf46
  have f7 := type46
  have mK := methodKind
  have mE := methodElem
  have mI := methodImplements
  have k46 := kind46
  have k44 := kind44
  have e46 := elem46
  have i44 := implements44
  have n8 := isNil46 ⟨w.heap.size, 0, none⟩ t (wAs t w) (by unfold wAs; simp)
  have old2 : ∀ (p : Addr), p.block < w.heap.size → (wAs t w).cell? p = w.cell? p := fun p hp => by
    unfold wAs
    rw [World.cell?_alloc_lt _ _ p (by simp; omega), World.cell?_alloc_lt _ _ p hp]
  have hg2 : (wAs t w).cell? ⟨0, 0, none⟩ = some (.iface 73 (.agg #[.pointer (some ⟨1, 41, none⟩)])) := by rw [old2 _ (cell_lt hg)]; exact hg
  have hj := as_join x pe a t ⟨w.heap.size, 0, none⟩ cap old (wAs t w) (by rw [old2 _ (cell_lt he)]; exact he) (by rw [old2 _ (cell_lt ha)]; exact ha) (by unfold wAs; simp) (by rw [old2 _ (cell_lt ht)]; exact ht)
    (by unfold wAs; rw [World.frozen?_alloc_old _ _ t (by have := cell_lt ht; simp; omega), World.frozen?_alloc_old _ _ t (Nat.ne_of_lt (cell_lt ht))]; exact hf)
  unfold wHit
  unfold wAs at n8 hg2 hj ⊢
  go_enter Tryd.func19, Tryd.ntmps19
  go_wp2_with fail
  refine hj.mono ?_
  rintro e w' ⟨rfl, rfl⟩
  go_wp2_with fail
  go_ret
  exact ⟨rfl, rfl⟩
end Z16

namespace Z16
open Go Go.AE Go.Proofs Go.RowKit

theorem flagOf_spec {c : IV} {x : Int} (h : flagOf c = some x) : c = .sl 1 [[.iface 44 (.int .u8 x)]] := by
  unfold flagOf at h
  split at h
  · rename_i n t x'
    obtain ⟨h1, h⟩ := bif_some h
    obtain ⟨h2, h⟩ := bif_some h
    cases h
    rw [nbeq h1, nbeq h2]
  · cases h

variable {b0 : Nat} {w0 : World} {g : Gh} {st : St}
theorem cells_one {G : Nat → Option (List AV)} {next : Nat} {objs : List (Nat × Ob)} {i : Nat} {own : Bool} {ver b : Nat} {c : AV} (hM : Mem G b0 w0 objs next g) (h : lookup objs i = some ⟨own, ver, .cells [c]⟩) (hp : g.ρ i = .pointer (some ⟨b, 0, none⟩)) :
    ∃ V T fr, g.ex i = true ∧ g.w.heap[b]? = some (.cells #[V] T fr) ∧ Free #[V] fr ∧ ARep g c V ∧ g.w.cell? ⟨b, 0, none⟩ = some V ∧ b0 ≤ b := by
  have hl : lookup g.objs i = some ⟨own, ver, .cells [c]⟩ := by rw [hM.same]; exact h
  have ho := hM.each i _ hl
  rw [hp] at ho
  generalize hex : g.ex i = ee at ho
  cases ho with
  | @cells _ _ _ _ cc T fr k1 k2 k3 k4 k5 k6 =>
    subst k1
    have hs : cc.size = 1 := k4
    obtain ⟨V, rfl⟩ : ∃ V, cc = #[V] := by
      match cc, hs with
      | ⟨[V]⟩, _ => exact ⟨V, rfl⟩
    refine ⟨V, T, fr, rfl, k2, k3, k5 0 c rfl, by simp [World.cell?, k2], (hM.above i b (by rw [hl]; rfl) hex (by rw [hp]; rfl)).1⟩

theorem sem16 {E : FuncId → List AV → Option (List Prop × List AV)} {call : FuncId → List AV → St → (AV → St → Prop) → (AV → St → Prop) → Prop} {u : Nat} {args : List AV} {k kp : AV → St → Prop} {vals : Array Value}
    (h : asCall st k args) (hM : Mem G16 b0 w0 st.objs st.next g) (hs : vals.size = args.length) (ha : ∀ (j : Nat) c, args[j]? = some c → ARep g c (vals.getD j undef)) :
    Calls Tryd.prog 19 vals g.w (CallDone ⟨Tryd.prog, E, call, G16, u⟩ b0 w0 st g k kp) := by
  have two : ∀ {x y : AV}, args = [x, y] → ∃ X Y, vals = #[X, Y] ∧ ARep g x X ∧ ARep g y Y := by
    intro x y e
    subst e
    have hs' : vals.size = 2 := hs
    match vals, hs' with
    | ⟨[X, Y]⟩, _ => exact ⟨X, Y, rfl, ha 0 x rfl, ha 1 y rfl⟩
  unfold asCall at h
  split at h
  case h_3 => exact h.elim
  · rename_i t p off
    obtain ⟨X, Y, rfl, rX, rY⟩ := two rfl
    obtain ⟨_, h⟩ := bif_prop h
    obtain ⟨_, h⟩ := bif_prop h
    obtain rfl := rep_val rX.imm_inv
    refine (as_nil Y g.w).mono ?_
    rintro e w' ⟨rfl, rfl⟩
    exact .inl ⟨_, st, g, _, rfl, h, hM, rfl, Step.refl _ _, .imm .bool⟩
  · rename_i u' i o t j off
    obtain ⟨X, Y, rfl, rX, rY⟩ := two rfl
    obtain ⟨ht, h⟩ := bif_prop h
    obtain ⟨hu, h⟩ := bif_prop h
    obtain ⟨ho, h⟩ := bif_prop h
    obtain ⟨hf, h⟩ := bif_prop h
    have ht := nbeq ht
    have hu := nbeq hu
    have ho := nbeq ho
    have hf := nbeq hf
    subst ht hu ho hf
    split at h
    case h_2 => exact h.elim
    rename_i own1 ver1 r v own ver c0 hi hj
    split at h
    case h_2 => exact h.elim
    rename_i c hc
    split at h
    case h_2 => exact h.elim
    rename_i x hx
    have hcs := flagOf_spec hx
    subst hcs
    cases rX with
    | ifc rX =>
    cases rY with
    | ifc rY =>
    cases rX with
    | @ptr _ _ bi obi qi1 qi2 =>
    cases rY with
    | @ptr _ _ bj obj qj1 qj2 =>
    obtain ⟨Vi, Ti, fri, _, _, _, hri, hci, _⟩ := cells_one hM hi qi2
    obtain ⟨Vj, Tj, frj, hexj, hhj, hfrj, _, hcj, hbj⟩ := cells_one hM hj qj2
    rcases content_cells (C := ⟨Tryd.prog, E, call, G16, u⟩) hM hc hri rfl rfl with ⟨_, h0⟩ | ⟨ad, cap, vs, rfl, p1, p2, p3, p4, p5, p6⟩
    · cases h0
    have hca : (IV.sl 1 [[.iface 44 (.int .u8 x)]]).cellAt 0 0 = some (.iface 44 (.int .u8 x)) := rfl
    have e1 := p5 0 0 _ hca
    have e2 := p6 0 0 _ hca
    have e3 : ∃ V, vs 0 0 = .iface 44 V ∧ Rep g.w g.own (.int .u8 x) V := by
      generalize vs 0 0 = Z at e2
      cases e2 with
      | iface hq => exact ⟨_, rfl, hq⟩
      | nilSlice hq _ => simp [IV.isSl] at hq
      | slice _ hq => simp [IV.isSl] at hq
    obtain ⟨V, hv0, hq⟩ := e3
    obtain ⟨rfl, hin⟩ := rep_int hq
    rw [hv0] at e1
    have e1' : g.w.cell? ad = some (.iface 44 (.int .u8 x)) := by
      rw [← e1]
      show _ = g.w.cell? (ad.add 0)
      simp [Addr.add]
    have hg : g.w.cell? ⟨0, 0, none⟩ = some (.iface 73 (.agg #[.pointer (some ⟨1, 41, none⟩)])) := by
      obtain ⟨_, c, T, fr, q1, q2, q3, _⟩ := hM.glob 0 _ rfl
      have hz := q3 0 _ rfl
      have hz' : Rep g.w g.own (.val errT) (c.getD 0 undef) := hz
      have hz1 := rep_val hz'
      have : c.size = 1 := q2
      match c, this with
      | ⟨[Z]⟩, _ =>
        have : Z = errT := hz1
        subst this
        simp [World.cell?, q1]
        rfl
    refine (as_hit x ⟨bi, 0, none⟩ ad ⟨bj, 0, none⟩ cap Vj g.w hci e1' hcj (not_frozen hhj hfrj (by simp)) hg).mono ?_
    rintro e w' ⟨rfl, rfl⟩
    generalize hW : ((((wAs ⟨bj, 0, none⟩ g.w).alloc (.cells #[.pointer (some ⟨1, 46, none⟩), .pointer (some ⟨g.w.heap.size, 0, none⟩), .int .u64 150] 55)).alloc (.cells #[.pointer (some ⟨1, 46, none⟩), .pointer (some ⟨g.w.heap.size, 0, none⟩), .int .u64 150] 55)).alloc (.cells #[.int .u8 x] 44)) = W
    have hB : Below g.w.heap.size g.w W := by
      rw [← hW]
      unfold wAs
      exact (((((Below.refl _ _).alloc (Nat.le_refl _) _).alloc (by simp) _).alloc (by simp; omega) _).alloc (by simp; omega) _).alloc (by simp; omega) _
    have hM1 := hM.grow hB
    have hbl : bj < g.w.heap.size := (Array.getElem?_eq_some_iff.1 hhj).1
    have hh1 : W.heap[bj]? = some (.cells #[Vj] Tj frj) := by rw [hB.block bj hbl]; exact hhj
    have hlk : lookup g.objs j = some ⟨own, ver, .cells [c0]⟩ := by rw [hM.same]; exact hj
    have hupd : Upd b0 { g with w := W } (W.setRow bj #[.int .u8 x]) j ⟨own, ver, .cells [c0]⟩ ⟨own, ver, .cells [.imm (.int .u8 x)]⟩ (.pointer (some ⟨bj, 0, none⟩)) true := {
      was := hlk
      ver := Nat.le_refl _
      same := fun _ => qj2.symm
      row := fun v h => by cases h
      ptr := fun _ _ => qj2.symm
      below := below_setRow _ _ hbj
      size := by simp
      block := fun k _ hk => setRow_other _ _ _ _ (fun he => hk hexj (by simp only; rw [qj2, he]; rfl))
      mine := fun _ k hk => ⟨.inr ⟨hexj, by simp only; rw [qj2]; exact hk⟩, by
        simp only [blk, Option.some.injEq] at hk
        subst hk
        rw [size_setRow]; exact Nat.lt_of_lt_of_le hbl hB.size⟩ }
    obtain ⟨hext, hstay⟩ := hupd.ext
    have hwr : wHit x ⟨bj, 0, none⟩ g.w = W.setRow bj #[.int .u8 x] := by
      unfold wHit
      rw [hW, setCell_eq_setRow W bj 0 #[Vj] Tj frj _ hh1]
      rfl
    rw [hwr]
    refine .inl ⟨_, _, _, _, rfl, h, hupd.mem hM1 ?_, rfl, ?_, .imm .bool⟩
    · refine .cells rfl (setRow_heap W bj _ _ Tj frj hh1) (fun q hq => hfrj q (by simpa using hq)) rfl (fun q v hv => ?_) (fun q hq => ?_)
      · cases q with
        | zero => cases hv; exact .imm (.int hin)
        | succ q => simp at hv
      · cases q with
        | zero => rfl
        | succ q => simp at hq
    · have s1 : Step st g st { g with w := W } := .of (ext_grow hB) stays_grow rfl rfl rfl
      exact s1.trans (.of hext hstay rfl rfl rfl)
theorem call16_ok {I : FuncId → Option Func} {E : FuncId → List AV → Option (List Prop × List AV)} {u : Nat} (hE : EOK Tryd.prog E G16) (hI : ∀ f fn, I f = some fn → Tryd.prog.funcs[f]? = some fn ∧ (fn.name == "runtime.NumGoroutine") = false) (n : Nat) :
    CallOK ⟨Tryd.prog, E, call16 I E u n, G16, u⟩ := by
  intro f args st k kp h
  simp only [call16] at h
  cases hf : Nat.beq f 19 with
  | false =>
    rw [hf, cond_false] at h
    exact inl_ok (u := u) hE hI n f args st k kp h
  | true =>
    rw [hf, cond_true] at h
    obtain rfl := nbeq hf
    exact ⟨_, Tryd.func19, by kernel_rfl, by kernel_rfl, fun g b0 w0 vals hM hs ha => sem16 h hM hs ha⟩
end Z16

set_option maxRecDepth 100000
namespace Z16
open Go Go.AE Go.Proofs
attribute [local irreducible] loopK evCode evSpec loopB norm
theorem f31_in (b : List
  UInt8) (off : Int) (n : Int) (K : List AV → Prop) : evSpec C0 Tryd.f31 [AV.imm (IV.bytes b), i64 off, i64 n] K =
  (brn
  (decide (off < (0 : Int)) || decide (off > (↑(List.length b) : Int)) ||
    decide (IntKind.wrap IntKind.i64 ((↑(List.length b) : Int) - off) < n))
  (K [AV.imm (IV.int IntKind.u64 (0 : Int)), AV.imm (IV.bool false)])
  (LoopI C0 (bodyOf Tryd.f31) (0 : Nat)
    (St.mk
      [AV.imm (IV.bytes b), AV.imm (IV.int IntKind.i64 off), AV.imm (IV.int IntKind.i64 n), AV.dead, AV.dead, AV.dead,
        AV.imm (IV.int IntKind.u64 (0 : Int)), AV.imm (IV.bool false), AV.imm (IV.int IntKind.u64 (0 : Int)), AV.dead,
        AV.imm (IV.int IntKind.i64 off), AV.imm (IV.bool (decide (off < (0 : Int)))),
        AV.imm (IV.bool (decide (off < (0 : Int)))), AV.opt [((12 : Nat), false)] (AV.imm (IV.int IntKind.i64 off)),
        AV.opt [((12 : Nat), false)] (AV.imm (IV.bytes b)),
        AV.opt [((12 : Nat), false)] (AV.imm (IV.int IntKind.i64 (↑(List.length b) : Int))),
        AV.opt [((12 : Nat), false)] (AV.imm (IV.bool (decide (off > (↑(List.length b) : Int))))),
        AV.imm (IV.bool (decide (off < (0 : Int)) || decide (off > (↑(List.length b) : Int)))),
        AV.imm (IV.bool (decide (off < (0 : Int)) || decide (off > (↑(List.length b) : Int)))),
        AV.opt [((18 : Nat), false)] (AV.imm (IV.bytes b)),
        AV.opt [((18 : Nat), false)] (AV.imm (IV.int IntKind.i64 (↑(List.length b) : Int))),
        AV.opt [((18 : Nat), false)] (AV.imm (IV.int IntKind.i64 off)),
        AV.opt [((18 : Nat), false)]
          (AV.imm (IV.int IntKind.i64 (IntKind.wrap IntKind.i64 ((↑(List.length b) : Int) - off)))),
        AV.opt [((18 : Nat), false)] (AV.imm (IV.int IntKind.i64 n)),
        AV.opt [((18 : Nat), false)]
          (AV.imm (IV.bool (decide (IntKind.wrap IntKind.i64 ((↑(List.length b) : Int) - off) < n)))),
        AV.imm
          (IV.bool
            (decide (off < (0 : Int)) || decide (off > (↑(List.length b) : Int)) ||
              decide (IntKind.wrap IntKind.i64 ((↑(List.length b) : Int) - off) < n))),
        AV.imm (IV.int IntKind.i64 n), AV.imm (IV.int IntKind.i64 (0 : Int)), AV.dead, AV.dead, AV.dead, AV.dead,
        AV.dead, AV.dead, AV.dead, AV.dead, AV.dead, AV.dead, AV.dead, AV.dead, AV.dead, AV.dead]
      [] (0 : Nat) [])
    (finK C0 Tryd.f31 K))) := by kernel_rfl
theorem f29_in (b : List
  UInt8) (off : Int) (n : Int) (K : List AV → Prop) : evSpec C0 Tryd.f29 [AV.imm (IV.bytes b), i64 off, i64 n] K =
  (brn (decide (off < (0 : Int)) || decide (off > IntKind.wrap IntKind.i64 ((↑(List.length b) : Int) - n)))
  (K [AV.imm (IV.int IntKind.u64 (0 : Int)), AV.imm (IV.bool false)])
  (LoopI C0 (bodyOf Tryd.f29) (0 : Nat)
    (St.mk
      [AV.imm (IV.bytes b), AV.imm (IV.int IntKind.i64 off), AV.imm (IV.int IntKind.i64 n), AV.dead, AV.dead, AV.dead,
        AV.imm (IV.int IntKind.u64 (0 : Int)), AV.imm (IV.bool false), AV.imm (IV.int IntKind.u64 (0 : Int)),
        AV.imm (IV.int IntKind.i64 (0 : Int)), AV.imm (IV.int IntKind.i64 off),
        AV.imm (IV.bool (decide (off < (0 : Int)))), AV.imm (IV.bool (decide (off < (0 : Int)))),
        AV.opt [((12 : Nat), false)] (AV.imm (IV.int IntKind.i64 off)),
        AV.opt [((12 : Nat), false)] (AV.imm (IV.bytes b)),
        AV.opt [((12 : Nat), false)] (AV.imm (IV.int IntKind.i64 (↑(List.length b) : Int))),
        AV.opt [((12 : Nat), false)] (AV.imm (IV.int IntKind.i64 n)),
        AV.opt [((12 : Nat), false)]
          (AV.imm (IV.int IntKind.i64 (IntKind.wrap IntKind.i64 ((↑(List.length b) : Int) - n)))),
        AV.opt [((12 : Nat), false)]
          (AV.imm (IV.bool (decide (off > IntKind.wrap IntKind.i64 ((↑(List.length b) : Int) - n))))),
        AV.imm
          (IV.bool
            (decide (off < (0 : Int)) || decide (off > IntKind.wrap IntKind.i64 ((↑(List.length b) : Int) - n)))),
        AV.dead, AV.dead, AV.dead, AV.dead, AV.dead, AV.dead, AV.dead, AV.dead, AV.dead, AV.dead, AV.dead, AV.dead,
        AV.dead, AV.dead, AV.dead, AV.dead]
      [] (0 : Nat) [])
    (finK C0 Tryd.f29 K))) := by kernel_rfl
theorem f30_in (n : Int) (K : List AV → Prop) : evSpec C0 Tryd.f30 [i64 n] K =
  (LoopI C0 (bodyOf Tryd.f30) (0 : Nat)
  (St.mk
    [AV.imm (IV.int IntKind.i64 n), AV.dead, AV.imm (IV.int IntKind.u64 (0 : Int)),
      AV.imm (IV.int IntKind.u64 (128 : Int)), AV.imm (IV.int IntKind.i64 (1 : Int)), AV.dead, AV.dead, AV.dead,
      AV.dead, AV.dead, AV.dead, AV.dead, AV.dead]
    [] (0 : Nat) [])
  (finK C0 Tryd.f30 K)) := by kernel_rfl
theorem f11_in (a : List
  UInt8) (b : List UInt8) (K : List AV → Prop) : evSpec C0 Tryd.f11 [AV.imm (IV.bytes a), AV.imm (IV.bytes b)] K =
  (brn ((↑(List.length a) : Int) != (↑(List.length b) : Int)) (K [AV.imm (IV.bool false)])
  (LoopI C0 (bodyOf Tryd.f11) (0 : Nat)
    (St.mk
      [AV.imm (IV.bytes a), AV.imm (IV.bytes b), AV.dead, AV.dead, AV.imm (IV.bool false),
        AV.imm (IV.int IntKind.i64 (0 : Int)), AV.imm (IV.bytes a),
        AV.imm (IV.int IntKind.i64 (↑(List.length a) : Int)), AV.imm (IV.bytes b),
        AV.imm (IV.int IntKind.i64 (↑(List.length b) : Int)),
        AV.imm (IV.bool ((↑(List.length a) : Int) != (↑(List.length b) : Int))), AV.dead, AV.dead, AV.dead, AV.dead,
        AV.dead, AV.dead, AV.dead, AV.dead, AV.dead, AV.dead, AV.dead, AV.dead, AV.dead, AV.dead, AV.dead]
      [] (0 : Nat) [])
    (finK C0 Tryd.f11 K))) := by kernel_rfl
theorem f23_in (b : List
  UInt8) (off : Int) (n : Int) (K : List AV → Prop) : evSpec C1 Tryd.f23 [AV.imm (IV.bytes b), i64 off, i64 n] K =
  ((↑(List.length b) : Int) ≤ big ∧
  (0 : Int) ≤ off ∧
    off ≤ big ∧
      (0 : Int) ≤ n ∧
        n ≤ (8 : Int) ∧
          (0 : Int) ≤
              IntKind.wrap IntKind.u64
                (IntKind.wrap IntKind.i64 ((64 : Int) - IntKind.wrap IntKind.i64 ((8 : Int) * n))) ∧
            (0 : Int) ≤
                IntKind.wrap IntKind.u64
                  (IntKind.wrap IntKind.i64 ((64 : Int) - IntKind.wrap IntKind.i64 ((8 : Int) * n))) ∧
              K
                [AV.imm
                    (IV.int IntKind.i64
                      (shrV IntKind.i64
                        (IntKind.wrap IntKind.i64
                          (shlV IntKind.u64 (↑(uintP b (Int.toNat off) (Int.toNat n)) : Int)
                            (IntKind.wrap IntKind.u64
                              (IntKind.wrap IntKind.i64 ((64 : Int) - IntKind.wrap IntKind.i64 ((8 : Int) * n))))))
                        (IntKind.wrap IntKind.u64
                          (IntKind.wrap IntKind.i64 ((64 : Int) - IntKind.wrap IntKind.i64 ((8 : Int) * n)))))),
                  AV.imm (IV.bool (okR b (Int.toNat off) (Int.toNat n)))]) := by kernel_rfl
theorem f20_in (b : List
  UInt8) (off : Int) (n : Int) (K : List AV → Prop) : evSpec C1 Tryd.f20 [AV.imm (IV.bytes b), i64 off, i64 n] K =
  ((↑(List.length b) : Int) ≤ big ∧
  (0 : Int) ≤ off ∧
    off ≤ big ∧
      (0 : Int) ≤ n ∧
        n ≤ (8 : Int) ∧
          (1 : Int) ≤ n ∧
            n ≤ (8 : Int) ∧
              brn
                (decide
                  ((↑(uintP b (Int.toNat off) (Int.toNat n)) : Int) ≥
                    (2 : Int) ^ ((8 : Nat) * Int.toNat n - (1 : Nat))))
                ((1 : Int) ≤ n ∧
                  n ≤ (8 : Int) ∧
                    (1 : Int) ≤ n ∧
                      n ≤ (8 : Int) ∧
                        K
                          [AV.imm
                              (IV.int IntKind.i64
                                (IntKind.wrap IntKind.i64
                                  (IntKind.wrap IntKind.i64
                                      (IntKind.wrap IntKind.i64
                                          (IntKind.wrap IntKind.u64
                                            ((↑(uintP b (Int.toNat off) (Int.toNat n)) : Int) -
                                              (2 : Int) ^ ((8 : Nat) * Int.toNat n - (1 : Nat)))) -
                                        IntKind.wrap IntKind.i64
                                          (IntKind.wrap IntKind.u64
                                            ((2 : Int) ^ ((8 : Nat) * Int.toNat n - (1 : Nat)) - (1 : Int)))) -
                                    (1 : Int)))),
                            AV.imm (IV.bool (okR b (Int.toNat off) (Int.toNat n)))])
                (K
                  [AV.imm
                      (IV.int IntKind.i64 (IntKind.wrap IntKind.i64 (↑(uintP b (Int.toNat off) (Int.toNat n)) : Int))),
                    AV.imm (IV.bool (okR b (Int.toNat off) (Int.toNat n)))])) := by kernel_rfl
theorem f21_in (b : List
  UInt8) (n : Int) (v : Int) (K : List AV →
  Prop) : evSpec C0 Tryd.f21 [AV.imm (IV.bytes b), i64 n, AV.imm (IV.int IntKind.u64 v)] K =
  ((0 : Int) ≤ (0 : Int) ∧
  (0 : Int) ≤ IntKind.wrap IntKind.i64 ((↑(List.length b) : Int) + n) ∧
    (↑(1 : Nat) : Int) * IntKind.wrap IntKind.i64 ((↑(List.length b) : Int) + n) ≤ (140737488355328 : Int) ∧
      IntKind.wrap IntKind.i64 ((↑(List.length b) : Int) + n) ≤ (140737488355328 : Int) ∧
        (List.length (List.replicate (Int.toNat (0 : Int)) (0 : UInt8)) + List.length b) * (1 : Nat) ≤
            (140737488355328 : Nat) ∧
          List.length (List.replicate (Int.toNat (0 : Int)) (0 : UInt8)) + List.length b ≤ (140737488355328 : Nat) ∧
            LoopI C0 (bodyOf Tryd.f21) (0 : Nat)
              (St.mk
                [AV.imm (IV.bytes b), AV.imm (IV.int IntKind.i64 n), AV.imm (IV.int IntKind.u64 v), AV.dead, AV.dead,
                  AV.dead, AV.full (IV.bytes []), AV.row (0 : Nat) (1 : Nat), AV.dead, AV.imm (IV.bytes b),
                  AV.imm (IV.int IntKind.i64 (↑(List.length b) : Int)), AV.imm (IV.int IntKind.i64 n),
                  AV.imm (IV.int IntKind.i64 (IntKind.wrap IntKind.i64 ((↑(List.length b) : Int) + n))),
                  AV.row (0 : Nat) (0 : Nat), AV.imm (IV.bytes b), AV.row (0 : Nat) (1 : Nat),
                  AV.imm (IV.int IntKind.i64 n), AV.imm (IV.int IntKind.i64 (0 : Int)), AV.dead, AV.dead, AV.dead,
                  AV.dead, AV.dead, AV.dead, AV.dead, AV.dead, AV.dead, AV.dead, AV.dead, AV.dead, AV.dead, AV.dead,
                  AV.dead, AV.dead]
                [((0 : Nat),
                    Ob.mk true (1 : Nat) (AObj.row (IV.bytes (List.replicate (Int.toNat (0 : Int)) (0 : UInt8) ++ b))))]
                (1 : Nat) [])
              (finK C0 Tryd.f21 K)) := by kernel_rfl
theorem f22_in (b : List
  UInt8) (n : Int) (v : Int) (K : List AV →
  Prop) : evSpec C0 Tryd.f22 [AV.imm (IV.bytes b), i64 n, AV.imm (IV.int IntKind.u64 v)] K =
  (LoopI C0 (bodyOf Tryd.f22) (0 : Nat)
  (St.mk
    [AV.imm (IV.bytes b), AV.imm (IV.int IntKind.i64 n), AV.imm (IV.int IntKind.u64 v), AV.dead, AV.dead, AV.dead,
      AV.full (IV.bytes []), AV.full (IV.bytes (List.map u8 [])), AV.imm (IV.int IntKind.i64 (0 : Int)),
      AV.full (IV.bytes (List.map u8 [])), AV.dead, AV.dead, AV.dead, AV.dead, AV.dead, AV.dead, AV.dead, AV.dead,
      AV.dead, AV.dead, AV.dead, AV.dead, AV.dead, AV.dead, AV.dead, AV.dead, AV.dead, AV.dead]
    [] (0 : Nat) [])
  (finK C0 Tryd.f22 K)) := by kernel_rfl
theorem f10_in (xs : List
  (List
    IV)) (ys : List
  (List IV)) (K : List AV → Prop) : evSpec C0 Tryd.f10 [AV.imm (IV.sl (3 : Nat) xs), AV.imm (IV.sl (3 : Nat) ys)] K =
  (brn ((↑(List.length xs) : Int) != (↑(List.length ys) : Int)) (K [AV.imm (IV.bool false)])
  (LoopI C0 (bodyOf Tryd.f10) (0 : Nat)
    (St.mk
      [AV.imm (IV.sl (3 : Nat) xs), AV.imm (IV.sl (3 : Nat) ys), AV.dead, AV.dead, AV.imm (IV.bool false),
        AV.imm (IV.int IntKind.i64 (0 : Int)), AV.imm (IV.sl (3 : Nat) xs),
        AV.imm (IV.int IntKind.i64 (↑(List.length xs) : Int)), AV.imm (IV.sl (3 : Nat) ys),
        AV.imm (IV.int IntKind.i64 (↑(List.length ys) : Int)),
        AV.imm (IV.bool ((↑(List.length xs) : Int) != (↑(List.length ys) : Int))), AV.dead, AV.dead, AV.dead, AV.dead,
        AV.dead, AV.dead, AV.dead, AV.dead, AV.dead, AV.dead, AV.dead, AV.dead, AV.dead, AV.dead, AV.dead]
      [] (0 : Nat) [])
    (finK C0 Tryd.f10 K))) := by kernel_rfl
theorem f14_in (xs : List
  (List IV)) (n : Int) (K : List AV → Prop) : evSpec C0 Tryd.f14 [AV.imm (IV.sl (3 : Nat) xs), i64 n] K =
  (LoopI C0 (bodyOf Tryd.f14) (0 : Nat)
  (St.mk
    [AV.imm (IV.sl (3 : Nat) xs), AV.imm (IV.int IntKind.i64 n), AV.dead, AV.dead,
      AV.imm (IV.int IntKind.i64 (0 : Int)), AV.imm (IV.int IntKind.i64 (0 : Int)), AV.dead, AV.dead,
      AV.imm (IV.sl (3 : Nat) xs), AV.imm (IV.int IntKind.i64 (↑(List.length xs) : Int)),
      AV.imm (IV.int IntKind.i64 (0 : Int)), AV.dead, AV.dead, AV.dead, AV.dead, AV.dead, AV.dead, AV.dead, AV.dead,
      AV.dead, AV.dead, AV.dead, AV.dead, AV.dead, AV.dead, AV.dead]
    [] (0 : Nat) [])
  (finK C0 Tryd.f14 K)) := by kernel_rfl
theorem f15_in (xs : List
  (List IV)) (n : Int) (K : List AV → Prop) : evSpec C0 Tryd.f15 [AV.imm (IV.sl (3 : Nat) xs), i64 n] K =
  (LoopI C0 (bodyOf Tryd.f15) (0 : Nat)
  (St.mk
    [AV.imm (IV.sl (3 : Nat) xs), AV.imm (IV.int IntKind.i64 n), AV.dead, AV.dead,
      AV.imm (IV.int IntKind.i64 (0 : Int)), AV.imm (IV.int IntKind.i64 (0 : Int)), AV.dead, AV.dead, AV.dead, AV.dead,
      AV.dead, AV.dead, AV.dead, AV.dead, AV.dead, AV.dead, AV.dead, AV.dead, AV.dead, AV.dead, AV.dead, AV.dead,
      AV.dead, AV.dead, AV.dead, AV.dead, AV.dead, AV.dead, AV.dead, AV.dead, AV.dead, AV.dead, AV.dead]
    [] (0 : Nat) [])
  (finK C0 Tryd.f15 K)) := by kernel_rfl
theorem f16_in (t : Ty) (s : List UInt8) (K : List AV → Prop) : evSpec C0 Tryd.f16 [tyAV t, st s] K =
  (K
  [AV.imm
      (IV.bool
        (Ty.o t == (0 : Int) && !Ty.d t && decide (s = [(45 : UInt8), (48 : UInt8), (48 : UInt8)])))]) := by kernel_rfl
theorem f17_in (t : Ty) (s : List UInt8) (K : List AV → Prop) : evSpec C0 Tryd.f17 [tyAV t, st s] K =
  (K
  [AV.imm
      (IV.bool
        (decide (s = [(45 : UInt8), (48 : UInt8), (48 : UInt8)]) && Ty.o t == (0 : Int) && !Ty.d t))]) := by kernel_rfl
theorem f12_in (xs : List (List IV)) (K : List AV → Prop) : evSpec C3 Tryd.f12 [AV.imm (IV.sl (3 : Nat) xs)] K =
  ((0 : Int) ≤ (0 : Int) ∧
  (0 : Int) ≤ IntKind.wrap IntKind.i64 ((6 : Int) * (↑(List.length xs) : Int)) ∧
    (↑(1 : Nat) : Int) * IntKind.wrap IntKind.i64 ((6 : Int) * (↑(List.length xs) : Int)) ≤ (140737488355328 : Int) ∧
      IntKind.wrap IntKind.i64 ((6 : Int) * (↑(List.length xs) : Int)) ≤ (140737488355328 : Int) ∧
        LoopI C3 (bodyOf Tryd.f12) (0 : Nat)
          (St.mk
            [AV.imm (IV.sl (3 : Nat) xs), AV.dead, AV.full (IV.bytes []), AV.row (0 : Nat) (0 : Nat), AV.dead, AV.dead,
              AV.dead, AV.imm (IV.sl (3 : Nat) xs), AV.imm (IV.int IntKind.i64 (↑(List.length xs) : Int)),
              AV.imm (IV.int IntKind.i64 (IntKind.wrap IntKind.i64 ((6 : Int) * (↑(List.length xs) : Int)))),
              AV.row (0 : Nat) (0 : Nat), AV.imm (IV.sl (3 : Nat) xs),
              AV.imm (IV.int IntKind.i64 (↑(List.length xs) : Int)), AV.imm (IV.int IntKind.i64 (0 : Int)), AV.dead,
              AV.dead, AV.dead, AV.dead, AV.dead, AV.dead, AV.dead, AV.dead, AV.dead, AV.dead, AV.dead, AV.dead,
              AV.dead, AV.dead, AV.dead, AV.dead, AV.dead, AV.dead, AV.dead]
            [((0 : Nat), Ob.mk true (0 : Nat) (AObj.row (IV.bytes (List.replicate (Int.toNat (0 : Int)) (0 : UInt8)))))]
            (1 : Nat) [])
          (finK C3 Tryd.f12 K)) := by kernel_rfl
theorem f13_in (xs : List (List IV)) (K : List AV → Prop) : evSpec C3 Tryd.f13 [AV.imm (IV.sl (3 : Nat) xs)] K =
  (LoopI C3 (bodyOf Tryd.f13) (0 : Nat)
  (St.mk
    [AV.imm (IV.sl (3 : Nat) xs), AV.dead, AV.full (IV.bytes []), AV.full (IV.bytes []),
      AV.imm (IV.int IntKind.i64 (0 : Int)), AV.dead, AV.dead, AV.dead, AV.dead, AV.dead, AV.dead, AV.dead, AV.dead,
      AV.dead, AV.dead, AV.dead, AV.dead, AV.dead, AV.dead, AV.dead, AV.dead, AV.dead, AV.dead, AV.dead, AV.dead,
      AV.dead, AV.dead, AV.dead, AV.dead, AV.dead, AV.dead, AV.dead, AV.dead, AV.dead, AV.dead, AV.dead]
    [] (0 : Nat) [])
  (finK C3 Tryd.f13 K)) := by kernel_rfl
theorem f9_in (b : List UInt8) (K : List AV → Prop) : evSpec C2 Tryd.f9 [AV.imm (IV.bytes b)] K =
  (LoopI C2 (bodyOf Tryd.f9) (0 : Nat)
  (St.mk
    [AV.imm (IV.bytes b), AV.dead, AV.full (IV.sl (3 : Nat) []), AV.imm (IV.bool false),
      AV.imm (IV.int IntKind.i64 (0 : Int)), AV.dead, AV.dead, AV.dead, AV.dead, AV.dead, AV.dead, AV.dead, AV.dead,
      AV.dead, AV.dead, AV.dead, AV.dead, AV.dead, AV.dead, AV.dead, AV.dead, AV.dead, AV.dead, AV.dead, AV.dead,
      AV.dead, AV.dead, AV.dead, AV.dead, AV.dead, AV.dead, AV.dead, AV.dead, AV.dead, AV.dead, AV.dead, AV.dead,
      AV.dead, AV.dead, AV.dead, AV.dead, AV.dead, AV.dead, AV.dead, AV.dead, AV.dead, AV.dead, AV.dead, AV.dead,
      AV.dead, AV.dead, AV.dead, AV.dead, AV.dead, AV.dead, AV.dead, AV.dead]
    [] (0 : Nat) [])
  (finK C2 Tryd.f9 K)) := by kernel_rfl
end Z16

set_option maxRecDepth 100000
namespace Z16
open Go Go.AE Go.Proofs
attribute [local irreducible] loopK evCode evSpec loopB norm
theorem f31_lp (b : List
  UInt8) (off : Int) (n : Int) (v : Int) (i : Nat) (k : AX →
  St → Prop) : evCode C0 (loopB (bodyOf Tryd.f31) (0 : Nat)) (h31 b off n v i) k =
  (brn (decide ((↑i : Int) < n))
  ((0 : Int) ≤ (8 : Int) ∧
    (0 : Int) ≤ IntKind.wrap IntKind.i64 (off + (↑i : Int)) ∧
      IntKind.wrap IntKind.i64 (off + (↑i : Int)) < (↑(List.length b) : Int) ∧
        k AX.normal
          (St.mk
            [AV.imm (IV.bytes b), AV.imm (IV.int IntKind.i64 off), AV.imm (IV.int IntKind.i64 n), AV.dead, AV.dead,
              AV.dead, AV.dead, AV.dead,
              AV.imm
                (IV.int IntKind.u64
                  (bitsV BinOp.or IntKind.u64 (shlV IntKind.u64 v (8 : Int))
                    (IntKind.wrap IntKind.u64
                      (↑(UInt8.toNat
                            (List.getD b (Int.toNat (IntKind.wrap IntKind.i64 (off + (↑i : Int)))) (0 : UInt8))) :
                        Int)))),
              AV.imm (IV.int IntKind.i64 (↑i : Int)), AV.dead, AV.dead, AV.dead, AV.dead, AV.dead, AV.dead, AV.dead,
              AV.dead, AV.dead, AV.dead, AV.dead, AV.dead, AV.dead, AV.dead, AV.dead, AV.dead,
              AV.imm (IV.int IntKind.i64 n),
              AV.imm (IV.int IntKind.i64 (IntKind.wrap IntKind.i64 ((↑i : Int) + (1 : Int)))),
              AV.imm (IV.bool (decide ((↑i : Int) < n))), AV.imm (IV.int IntKind.i64 (↑i : Int)),
              AV.imm (IV.int IntKind.u64 v), AV.imm (IV.int IntKind.u64 (shlV IntKind.u64 v (8 : Int))),
              AV.imm (IV.bytes b), AV.imm (IV.int IntKind.i64 off), AV.imm (IV.int IntKind.i64 (↑i : Int)),
              AV.imm (IV.int IntKind.i64 (IntKind.wrap IntKind.i64 (off + (↑i : Int)))),
              AV.elv
                [IV.int IntKind.u8
                    (↑(UInt8.toNat
                          (List.getD b (Int.toNat (IntKind.wrap IntKind.i64 (off + (↑i : Int)))) (0 : UInt8))) :
                      Int)],
              AV.imm
                (IV.int IntKind.u8
                  (↑(UInt8.toNat (List.getD b (Int.toNat (IntKind.wrap IntKind.i64 (off + (↑i : Int)))) (0 : UInt8))) :
                    Int)),
              AV.imm
                (IV.int IntKind.u64
                  (IntKind.wrap IntKind.u64
                    (↑(UInt8.toNat
                          (List.getD b (Int.toNat (IntKind.wrap IntKind.i64 (off + (↑i : Int)))) (0 : UInt8))) :
                      Int))),
              AV.imm
                (IV.int IntKind.u64
                  (bitsV BinOp.or IntKind.u64 (shlV IntKind.u64 v (8 : Int))
                    (IntKind.wrap IntKind.u64
                      (↑(UInt8.toNat
                            (List.getD b (Int.toNat (IntKind.wrap IntKind.i64 (off + (↑i : Int)))) (0 : UInt8))) :
                        Int)))),
              AV.imm (IV.int IntKind.i64 (IntKind.wrap IntKind.i64 ((↑i : Int) + (1 : Int)))), AV.dead]
            [] (0 : Nat) []))
  (k (AX.exit (0 : Nat))
    (St.mk
      [AV.imm (IV.bytes b), AV.imm (IV.int IntKind.i64 off), AV.imm (IV.int IntKind.i64 n), AV.dead, AV.dead, AV.dead,
        AV.dead, AV.dead, AV.imm (IV.int IntKind.u64 v), AV.dead, AV.dead, AV.dead, AV.dead, AV.dead, AV.dead, AV.dead,
        AV.dead, AV.dead, AV.dead, AV.dead, AV.dead, AV.dead, AV.dead, AV.dead, AV.dead, AV.dead,
        AV.imm (IV.int IntKind.i64 n), AV.imm (IV.int IntKind.i64 (↑i : Int)),
        AV.imm (IV.bool (decide ((↑i : Int) < n))), AV.dead, AV.dead, AV.dead, AV.dead, AV.dead, AV.dead, AV.dead,
        AV.dead, AV.dead, AV.dead, AV.dead, AV.dead, AV.dead]
      [] (0 : Nat) []))) := by kernel_rfl
theorem f29_lp (b : List
  UInt8) (off : Int) (n : Int) (v : Int) (i : Nat) (k : AX →
  St → Prop) : evCode C0 (loopB (bodyOf Tryd.f29) (0 : Nat)) (h29 b off n v i) k =
  (brn (decide ((↑i : Int) < n))
  ((0 : Int) ≤ IntKind.wrap IntKind.i64 (off + (↑i : Int)) ∧
    IntKind.wrap IntKind.i64 (off + (↑i : Int)) < (↑(List.length b) : Int) ∧
      k AX.normal
        (St.mk
          [AV.imm (IV.bytes b), AV.imm (IV.int IntKind.i64 off), AV.imm (IV.int IntKind.i64 n), AV.dead, AV.dead,
            AV.dead, AV.dead, AV.dead,
            AV.imm
              (IV.int IntKind.u64
                (IntKind.wrap IntKind.u64
                  (IntKind.wrap IntKind.u64 (v * (256 : Int)) +
                    IntKind.wrap IntKind.u64
                      (↑(UInt8.toNat
                            (List.getD b (Int.toNat (IntKind.wrap IntKind.i64 (off + (↑i : Int)))) (0 : UInt8))) :
                        Int)))),
            AV.imm (IV.int IntKind.i64 (IntKind.wrap IntKind.i64 ((↑i : Int) + (1 : Int)))), AV.dead, AV.dead, AV.dead,
            AV.dead, AV.dead, AV.dead, AV.dead, AV.dead, AV.dead, AV.dead, AV.imm (IV.int IntKind.i64 (↑i : Int)),
            AV.imm (IV.int IntKind.i64 n), AV.imm (IV.bool (decide ((↑i : Int) < n))),
            AV.imm (IV.int IntKind.i64 (↑i : Int)),
            AV.imm (IV.int IntKind.i64 (IntKind.wrap IntKind.i64 ((↑i : Int) + (1 : Int)))),
            AV.imm (IV.int IntKind.u64 v), AV.imm (IV.int IntKind.u64 (IntKind.wrap IntKind.u64 (v * (256 : Int)))),
            AV.imm (IV.bytes b), AV.imm (IV.int IntKind.i64 off), AV.imm (IV.int IntKind.i64 (↑i : Int)),
            AV.imm (IV.int IntKind.i64 (IntKind.wrap IntKind.i64 (off + (↑i : Int)))),
            AV.elv
              [IV.int IntKind.u8
                  (↑(UInt8.toNat (List.getD b (Int.toNat (IntKind.wrap IntKind.i64 (off + (↑i : Int)))) (0 : UInt8))) :
                    Int)],
            AV.imm
              (IV.int IntKind.u8
                (↑(UInt8.toNat (List.getD b (Int.toNat (IntKind.wrap IntKind.i64 (off + (↑i : Int)))) (0 : UInt8))) :
                  Int)),
            AV.imm
              (IV.int IntKind.u64
                (IntKind.wrap IntKind.u64
                  (↑(UInt8.toNat (List.getD b (Int.toNat (IntKind.wrap IntKind.i64 (off + (↑i : Int)))) (0 : UInt8))) :
                    Int))),
            AV.imm
              (IV.int IntKind.u64
                (IntKind.wrap IntKind.u64
                  (IntKind.wrap IntKind.u64 (v * (256 : Int)) +
                    IntKind.wrap IntKind.u64
                      (↑(UInt8.toNat
                            (List.getD b (Int.toNat (IntKind.wrap IntKind.i64 (off + (↑i : Int)))) (0 : UInt8))) :
                        Int)))),
            AV.dead]
          [] (0 : Nat) []))
  (k (AX.exit (0 : Nat))
    (St.mk
      [AV.imm (IV.bytes b), AV.imm (IV.int IntKind.i64 off), AV.imm (IV.int IntKind.i64 n), AV.dead, AV.dead, AV.dead,
        AV.dead, AV.dead, AV.imm (IV.int IntKind.u64 v), AV.imm (IV.int IntKind.i64 (↑i : Int)), AV.dead, AV.dead,
        AV.dead, AV.dead, AV.dead, AV.dead, AV.dead, AV.dead, AV.dead, AV.dead, AV.imm (IV.int IntKind.i64 (↑i : Int)),
        AV.imm (IV.int IntKind.i64 n), AV.imm (IV.bool (decide ((↑i : Int) < n))), AV.dead, AV.dead, AV.dead, AV.dead,
        AV.dead, AV.dead, AV.dead, AV.dead, AV.dead, AV.dead, AV.dead, AV.dead, AV.dead]
      [] (0 : Nat) []))) := by kernel_rfl
theorem f30_lp (n : Int) (p : Int) (i : Nat) (k : AX →
  St → Prop) : evCode C0 (loopB (bodyOf Tryd.f30) (0 : Nat)) (h30 n p i) k =
  (brn (decide ((↑i : Int) < n))
  (k AX.normal
    (St.mk
      [AV.imm (IV.int IntKind.i64 n), AV.dead, AV.dead,
        AV.imm (IV.int IntKind.u64 (IntKind.wrap IntKind.u64 (p * (256 : Int)))),
        AV.imm (IV.int IntKind.i64 (IntKind.wrap IntKind.i64 ((↑i : Int) + (1 : Int)))),
        AV.imm (IV.int IntKind.i64 (↑i : Int)), AV.imm (IV.int IntKind.i64 n),
        AV.imm (IV.bool (decide ((↑i : Int) < n))), AV.imm (IV.int IntKind.i64 (↑i : Int)),
        AV.imm (IV.int IntKind.i64 (IntKind.wrap IntKind.i64 ((↑i : Int) + (1 : Int)))), AV.imm (IV.int IntKind.u64 p),
        AV.imm (IV.int IntKind.u64 (IntKind.wrap IntKind.u64 (p * (256 : Int)))), AV.dead]
      [] (0 : Nat) []))
  (k (AX.exit (0 : Nat))
    (St.mk
      [AV.imm (IV.int IntKind.i64 n), AV.dead, AV.dead, AV.imm (IV.int IntKind.u64 p),
        AV.imm (IV.int IntKind.i64 (↑i : Int)), AV.imm (IV.int IntKind.i64 (↑i : Int)), AV.imm (IV.int IntKind.i64 n),
        AV.imm (IV.bool (decide ((↑i : Int) < n))), AV.dead, AV.dead, AV.dead, AV.dead, AV.dead]
      [] (0 : Nat) []))) := by kernel_rfl
theorem f11_lp (a : List
  UInt8) (b : List UInt8) (i : Nat) (k : AX → St → Prop) : evCode C0 (loopB (bodyOf Tryd.f11) (0 : Nat)) (h11 a b i) k =
  (brn (decide ((↑i : Int) < (↑(List.length a) : Int)))
  ((0 : Int) ≤ (↑i : Int) ∧
    (↑i : Int) < (↑(List.length a) : Int) ∧
      (0 : Int) ≤ (↑i : Int) ∧
        (↑i : Int) < (↑(List.length b) : Int) ∧
          brn
            ((↑(UInt8.toNat (List.getD a (Int.toNat (↑i : Int)) (0 : UInt8))) : Int) !=
              (↑(UInt8.toNat (List.getD b (Int.toNat (↑i : Int)) (0 : UInt8))) : Int))
            (k AX.ret
              (St.mk
                [AV.imm (IV.bytes a), AV.imm (IV.bytes b), AV.dead, AV.dead, AV.imm (IV.bool false),
                  AV.imm (IV.int IntKind.i64 (↑i : Int)), AV.dead, AV.dead, AV.dead, AV.dead, AV.dead,
                  AV.imm (IV.int IntKind.i64 (↑i : Int)), AV.imm (IV.bytes a),
                  AV.imm (IV.int IntKind.i64 (↑(List.length a) : Int)),
                  AV.imm (IV.bool (decide ((↑i : Int) < (↑(List.length a) : Int)))), AV.dead, AV.dead,
                  AV.imm (IV.bytes a), AV.imm (IV.int IntKind.i64 (↑i : Int)),
                  AV.elv [IV.int IntKind.u8 (↑(UInt8.toNat (List.getD a (Int.toNat (↑i : Int)) (0 : UInt8))) : Int)],
                  AV.imm (IV.int IntKind.u8 (↑(UInt8.toNat (List.getD a (Int.toNat (↑i : Int)) (0 : UInt8))) : Int)),
                  AV.imm (IV.bytes b), AV.imm (IV.int IntKind.i64 (↑i : Int)),
                  AV.elv [IV.int IntKind.u8 (↑(UInt8.toNat (List.getD b (Int.toNat (↑i : Int)) (0 : UInt8))) : Int)],
                  AV.imm (IV.int IntKind.u8 (↑(UInt8.toNat (List.getD b (Int.toNat (↑i : Int)) (0 : UInt8))) : Int)),
                  AV.imm
                    (IV.bool
                      ((↑(UInt8.toNat (List.getD a (Int.toNat (↑i : Int)) (0 : UInt8))) : Int) !=
                        (↑(UInt8.toNat (List.getD b (Int.toNat (↑i : Int)) (0 : UInt8))) : Int)))]
                [] (0 : Nat) []))
            (k AX.normal
              (St.mk
                [AV.imm (IV.bytes a), AV.imm (IV.bytes b), AV.dead, AV.dead, AV.dead,
                  AV.imm (IV.int IntKind.i64 (IntKind.wrap IntKind.i64 ((↑i : Int) + (1 : Int)))), AV.dead, AV.dead,
                  AV.dead, AV.dead, AV.dead, AV.imm (IV.int IntKind.i64 (↑i : Int)), AV.imm (IV.bytes a),
                  AV.imm (IV.int IntKind.i64 (↑(List.length a) : Int)),
                  AV.imm (IV.bool (decide ((↑i : Int) < (↑(List.length a) : Int)))),
                  AV.imm (IV.int IntKind.i64 (↑i : Int)),
                  AV.imm (IV.int IntKind.i64 (IntKind.wrap IntKind.i64 ((↑i : Int) + (1 : Int)))), AV.imm (IV.bytes a),
                  AV.imm (IV.int IntKind.i64 (↑i : Int)),
                  AV.elv [IV.int IntKind.u8 (↑(UInt8.toNat (List.getD a (Int.toNat (↑i : Int)) (0 : UInt8))) : Int)],
                  AV.imm (IV.int IntKind.u8 (↑(UInt8.toNat (List.getD a (Int.toNat (↑i : Int)) (0 : UInt8))) : Int)),
                  AV.imm (IV.bytes b), AV.imm (IV.int IntKind.i64 (↑i : Int)),
                  AV.elv [IV.int IntKind.u8 (↑(UInt8.toNat (List.getD b (Int.toNat (↑i : Int)) (0 : UInt8))) : Int)],
                  AV.imm (IV.int IntKind.u8 (↑(UInt8.toNat (List.getD b (Int.toNat (↑i : Int)) (0 : UInt8))) : Int)),
                  AV.imm
                    (IV.bool
                      ((↑(UInt8.toNat (List.getD a (Int.toNat (↑i : Int)) (0 : UInt8))) : Int) !=
                        (↑(UInt8.toNat (List.getD b (Int.toNat (↑i : Int)) (0 : UInt8))) : Int)))]
                [] (0 : Nat) [])))
  (k (AX.exit (0 : Nat))
    (St.mk
      [AV.imm (IV.bytes a), AV.imm (IV.bytes b), AV.dead, AV.dead, AV.dead, AV.imm (IV.int IntKind.i64 (↑i : Int)),
        AV.dead, AV.dead, AV.dead, AV.dead, AV.dead, AV.imm (IV.int IntKind.i64 (↑i : Int)), AV.imm (IV.bytes a),
        AV.imm (IV.int IntKind.i64 (↑(List.length a) : Int)),
        AV.imm (IV.bool (decide ((↑i : Int) < (↑(List.length a) : Int)))), AV.dead, AV.dead, AV.dead, AV.dead, AV.dead,
        AV.dead, AV.dead, AV.dead, AV.dead, AV.dead, AV.dead]
      [] (0 : Nat) []))) := by kernel_rfl
theorem f10_lp (a : List
  (List
    IV)) (b : List
  (List IV)) (i : Nat) (k : AX → St → Prop) : evCode C0 (loopB (bodyOf Tryd.f10) (0 : Nat)) (h10 a b i) k =
  (brn (decide ((↑i : Int) < (↑(List.length a) : Int)))
  ((0 : Int) ≤ (↑i : Int) ∧
    (↑i : Int) < (↑(List.length a) : Int) ∧
      kcells (List.getD a (Int.toNat (↑i : Int)) []) (0 : Nat)
            (lapp [CK.int IntKind.i32] (lapp [CK.bool] (lapp [CK.int IntKind.u8] []))) =
          List.getD a (Int.toNat (↑i : Int)) [] ∧
        (0 : Int) ≤ (↑i : Int) ∧
          (↑i : Int) < (↑(List.length b) : Int) ∧
            kcells (List.getD b (Int.toNat (↑i : Int)) []) (0 : Nat)
                  (lapp [CK.int IntKind.i32] (lapp [CK.bool] (lapp [CK.int IntKind.u8] []))) =
                List.getD b (Int.toNat (↑i : Int)) [] ∧
              brn
                (!(ivInt (ivNth (List.getD a (Int.toNat (↑i : Int)) []) (0 : Nat)) ==
                      ivInt (ivNth (List.getD b (Int.toNat (↑i : Int)) []) (0 : Nat)) &&
                    (ivBool (ivNth (List.getD a (Int.toNat (↑i : Int)) []) ((0 : Nat) + (1 : Nat))) ==
                        ivBool (ivNth (List.getD b (Int.toNat (↑i : Int)) []) ((0 : Nat) + (1 : Nat))) &&
                      (ivInt (ivNth (List.getD a (Int.toNat (↑i : Int)) []) ((0 : Nat) + (1 : Nat) + (1 : Nat))) ==
                          ivInt (ivNth (List.getD b (Int.toNat (↑i : Int)) []) ((0 : Nat) + (1 : Nat) + (1 : Nat))) &&
                        true))))
                (k AX.ret
                  (St.mk
                    [AV.imm (IV.sl (3 : Nat) a), AV.imm (IV.sl (3 : Nat) b), AV.dead, AV.dead, AV.imm (IV.bool false),
                      AV.imm (IV.int IntKind.i64 (↑i : Int)), AV.dead, AV.dead, AV.dead, AV.dead, AV.dead,
                      AV.imm (IV.int IntKind.i64 (↑i : Int)), AV.imm (IV.sl (3 : Nat) a),
                      AV.imm (IV.int IntKind.i64 (↑(List.length a) : Int)),
                      AV.imm (IV.bool (decide ((↑i : Int) < (↑(List.length a) : Int)))), AV.dead, AV.dead,
                      AV.imm (IV.sl (3 : Nat) a), AV.imm (IV.int IntKind.i64 (↑i : Int)),
                      AV.elv
                        [IV.int IntKind.i32 (ivInt (ivNth (List.getD a (Int.toNat (↑i : Int)) []) (0 : Nat))),
                          IV.bool (ivBool (ivNth (List.getD a (Int.toNat (↑i : Int)) []) ((0 : Nat) + (1 : Nat)))),
                          IV.int IntKind.u8
                            (ivInt
                              (ivNth (List.getD a (Int.toNat (↑i : Int)) []) ((0 : Nat) + (1 : Nat) + (1 : Nat))))],
                      AV.agg
                        [AV.imm (IV.int IntKind.i32 (ivInt (ivNth (List.getD a (Int.toNat (↑i : Int)) []) (0 : Nat)))),
                          AV.imm
                            (IV.bool (ivBool (ivNth (List.getD a (Int.toNat (↑i : Int)) []) ((0 : Nat) + (1 : Nat))))),
                          AV.imm
                            (IV.int IntKind.u8
                              (ivInt
                                (ivNth (List.getD a (Int.toNat (↑i : Int)) []) ((0 : Nat) + (1 : Nat) + (1 : Nat)))))],
                      AV.imm (IV.sl (3 : Nat) b), AV.imm (IV.int IntKind.i64 (↑i : Int)),
                      AV.elv
                        [IV.int IntKind.i32 (ivInt (ivNth (List.getD b (Int.toNat (↑i : Int)) []) (0 : Nat))),
                          IV.bool (ivBool (ivNth (List.getD b (Int.toNat (↑i : Int)) []) ((0 : Nat) + (1 : Nat)))),
                          IV.int IntKind.u8
                            (ivInt
                              (ivNth (List.getD b (Int.toNat (↑i : Int)) []) ((0 : Nat) + (1 : Nat) + (1 : Nat))))],
                      AV.agg
                        [AV.imm (IV.int IntKind.i32 (ivInt (ivNth (List.getD b (Int.toNat (↑i : Int)) []) (0 : Nat)))),
                          AV.imm
                            (IV.bool (ivBool (ivNth (List.getD b (Int.toNat (↑i : Int)) []) ((0 : Nat) + (1 : Nat))))),
                          AV.imm
                            (IV.int IntKind.u8
                              (ivInt
                                (ivNth (List.getD b (Int.toNat (↑i : Int)) []) ((0 : Nat) + (1 : Nat) + (1 : Nat)))))],
                      AV.imm
                        (IV.bool
                          !(ivInt (ivNth (List.getD a (Int.toNat (↑i : Int)) []) (0 : Nat)) ==
                                ivInt (ivNth (List.getD b (Int.toNat (↑i : Int)) []) (0 : Nat)) &&
                              (ivBool (ivNth (List.getD a (Int.toNat (↑i : Int)) []) ((0 : Nat) + (1 : Nat))) ==
                                  ivBool (ivNth (List.getD b (Int.toNat (↑i : Int)) []) ((0 : Nat) + (1 : Nat))) &&
                                (ivInt
                                      (ivNth (List.getD a (Int.toNat (↑i : Int)) [])
                                        ((0 : Nat) + (1 : Nat) + (1 : Nat))) ==
                                    ivInt
                                      (ivNth (List.getD b (Int.toNat (↑i : Int)) [])
                                        ((0 : Nat) + (1 : Nat) + (1 : Nat))) &&
                                  true))))]
                    [] (0 : Nat) []))
                (k AX.normal
                  (St.mk
                    [AV.imm (IV.sl (3 : Nat) a), AV.imm (IV.sl (3 : Nat) b), AV.dead, AV.dead, AV.dead,
                      AV.imm (IV.int IntKind.i64 (IntKind.wrap IntKind.i64 ((↑i : Int) + (1 : Int)))), AV.dead, AV.dead,
                      AV.dead, AV.dead, AV.dead, AV.imm (IV.int IntKind.i64 (↑i : Int)), AV.imm (IV.sl (3 : Nat) a),
                      AV.imm (IV.int IntKind.i64 (↑(List.length a) : Int)),
                      AV.imm (IV.bool (decide ((↑i : Int) < (↑(List.length a) : Int)))),
                      AV.imm (IV.int IntKind.i64 (↑i : Int)),
                      AV.imm (IV.int IntKind.i64 (IntKind.wrap IntKind.i64 ((↑i : Int) + (1 : Int)))),
                      AV.imm (IV.sl (3 : Nat) a), AV.imm (IV.int IntKind.i64 (↑i : Int)),
                      AV.elv
                        [IV.int IntKind.i32 (ivInt (ivNth (List.getD a (Int.toNat (↑i : Int)) []) (0 : Nat))),
                          IV.bool (ivBool (ivNth (List.getD a (Int.toNat (↑i : Int)) []) ((0 : Nat) + (1 : Nat)))),
                          IV.int IntKind.u8
                            (ivInt
                              (ivNth (List.getD a (Int.toNat (↑i : Int)) []) ((0 : Nat) + (1 : Nat) + (1 : Nat))))],
                      AV.agg
                        [AV.imm (IV.int IntKind.i32 (ivInt (ivNth (List.getD a (Int.toNat (↑i : Int)) []) (0 : Nat)))),
                          AV.imm
                            (IV.bool (ivBool (ivNth (List.getD a (Int.toNat (↑i : Int)) []) ((0 : Nat) + (1 : Nat))))),
                          AV.imm
                            (IV.int IntKind.u8
                              (ivInt
                                (ivNth (List.getD a (Int.toNat (↑i : Int)) []) ((0 : Nat) + (1 : Nat) + (1 : Nat)))))],
                      AV.imm (IV.sl (3 : Nat) b), AV.imm (IV.int IntKind.i64 (↑i : Int)),
                      AV.elv
                        [IV.int IntKind.i32 (ivInt (ivNth (List.getD b (Int.toNat (↑i : Int)) []) (0 : Nat))),
                          IV.bool (ivBool (ivNth (List.getD b (Int.toNat (↑i : Int)) []) ((0 : Nat) + (1 : Nat)))),
                          IV.int IntKind.u8
                            (ivInt
                              (ivNth (List.getD b (Int.toNat (↑i : Int)) []) ((0 : Nat) + (1 : Nat) + (1 : Nat))))],
                      AV.agg
                        [AV.imm (IV.int IntKind.i32 (ivInt (ivNth (List.getD b (Int.toNat (↑i : Int)) []) (0 : Nat)))),
                          AV.imm
                            (IV.bool (ivBool (ivNth (List.getD b (Int.toNat (↑i : Int)) []) ((0 : Nat) + (1 : Nat))))),
                          AV.imm
                            (IV.int IntKind.u8
                              (ivInt
                                (ivNth (List.getD b (Int.toNat (↑i : Int)) []) ((0 : Nat) + (1 : Nat) + (1 : Nat)))))],
                      AV.imm
                        (IV.bool
                          !(ivInt (ivNth (List.getD a (Int.toNat (↑i : Int)) []) (0 : Nat)) ==
                                ivInt (ivNth (List.getD b (Int.toNat (↑i : Int)) []) (0 : Nat)) &&
                              (ivBool (ivNth (List.getD a (Int.toNat (↑i : Int)) []) ((0 : Nat) + (1 : Nat))) ==
                                  ivBool (ivNth (List.getD b (Int.toNat (↑i : Int)) []) ((0 : Nat) + (1 : Nat))) &&
                                (ivInt
                                      (ivNth (List.getD a (Int.toNat (↑i : Int)) [])
                                        ((0 : Nat) + (1 : Nat) + (1 : Nat))) ==
                                    ivInt
                                      (ivNth (List.getD b (Int.toNat (↑i : Int)) [])
                                        ((0 : Nat) + (1 : Nat) + (1 : Nat))) &&
                                  true))))]
                    [] (0 : Nat) [])))
  (k (AX.exit (0 : Nat))
    (St.mk
      [AV.imm (IV.sl (3 : Nat) a), AV.imm (IV.sl (3 : Nat) b), AV.dead, AV.dead, AV.dead,
        AV.imm (IV.int IntKind.i64 (↑i : Int)), AV.dead, AV.dead, AV.dead, AV.dead, AV.dead,
        AV.imm (IV.int IntKind.i64 (↑i : Int)), AV.imm (IV.sl (3 : Nat) a),
        AV.imm (IV.int IntKind.i64 (↑(List.length a) : Int)),
        AV.imm (IV.bool (decide ((↑i : Int) < (↑(List.length a) : Int)))), AV.dead, AV.dead, AV.dead, AV.dead, AV.dead,
        AV.dead, AV.dead, AV.dead, AV.dead, AV.dead, AV.dead]
      [] (0 : Nat) []))) := by kernel_rfl
theorem f21_lp (n : Int) (v : Int) (l : List
  UInt8) (i : Nat) (k : AX → St → Prop) : evCode C0 (loopB (bodyOf Tryd.f21) (0 : Nat)) (h21 n v l i) k =
  (brn (decide ((↑i : Int) < n))
  ((0 : Int) ≤
      IntKind.wrap IntKind.u64
        (IntKind.wrap IntKind.i64
          ((8 : Int) * IntKind.wrap IntKind.i64 (IntKind.wrap IntKind.i64 (n - (1 : Int)) - (↑i : Int)))) ∧
    (List.length l +
            List.length
              (List.map u8
                [IntKind.wrap IntKind.u8
                    (shrV IntKind.u64 v
                      (IntKind.wrap IntKind.u64
                        (IntKind.wrap IntKind.i64
                          ((8 : Int) *
                            IntKind.wrap IntKind.i64 (IntKind.wrap IntKind.i64 (n - (1 : Int)) - (↑i : Int))))))])) *
          (1 : Nat) ≤
        (140737488355328 : Nat) ∧
      List.length l +
            List.length
              (List.map u8
                [IntKind.wrap IntKind.u8
                    (shrV IntKind.u64 v
                      (IntKind.wrap IntKind.u64
                        (IntKind.wrap IntKind.i64
                          ((8 : Int) *
                            IntKind.wrap IntKind.i64 (IntKind.wrap IntKind.i64 (n - (1 : Int)) - (↑i : Int))))))]) ≤
          (140737488355328 : Nat) ∧
        k AX.normal
          (St.mk
            [AV.dead, AV.imm (IV.int IntKind.i64 n), AV.imm (IV.int IntKind.u64 v), AV.dead, AV.dead, AV.dead, AV.dead,
              AV.row (0 : Nat) (1 : Nat), AV.imm (IV.int IntKind.i64 (↑i : Int)), AV.dead, AV.dead, AV.dead, AV.dead,
              AV.dead, AV.dead, AV.dead, AV.imm (IV.int IntKind.i64 n),
              AV.imm (IV.int IntKind.i64 (IntKind.wrap IntKind.i64 ((↑i : Int) + (1 : Int)))),
              AV.imm (IV.bool (decide ((↑i : Int) < n))), AV.imm (IV.int IntKind.i64 (↑i : Int)),
              AV.row (0 : Nat) (0 : Nat), AV.imm (IV.int IntKind.u64 v), AV.imm (IV.int IntKind.i64 n),
              AV.imm (IV.int IntKind.i64 (IntKind.wrap IntKind.i64 (n - (1 : Int)))),
              AV.imm (IV.int IntKind.i64 (↑i : Int)),
              AV.imm
                (IV.int IntKind.i64 (IntKind.wrap IntKind.i64 (IntKind.wrap IntKind.i64 (n - (1 : Int)) - (↑i : Int)))),
              AV.imm
                (IV.int IntKind.i64
                  (IntKind.wrap IntKind.i64
                    ((8 : Int) * IntKind.wrap IntKind.i64 (IntKind.wrap IntKind.i64 (n - (1 : Int)) - (↑i : Int))))),
              AV.imm
                (IV.int IntKind.u64
                  (IntKind.wrap IntKind.u64
                    (IntKind.wrap IntKind.i64
                      ((8 : Int) * IntKind.wrap IntKind.i64 (IntKind.wrap IntKind.i64 (n - (1 : Int)) - (↑i : Int)))))),
              AV.imm
                (IV.int IntKind.u64
                  (shrV IntKind.u64 v
                    (IntKind.wrap IntKind.u64
                      (IntKind.wrap IntKind.i64
                        ((8 : Int) *
                          IntKind.wrap IntKind.i64 (IntKind.wrap IntKind.i64 (n - (1 : Int)) - (↑i : Int))))))),
              AV.imm
                (IV.int IntKind.u8
                  (IntKind.wrap IntKind.u8
                    (shrV IntKind.u64 v
                      (IntKind.wrap IntKind.u64
                        (IntKind.wrap IntKind.i64
                          ((8 : Int) *
                            IntKind.wrap IntKind.i64 (IntKind.wrap IntKind.i64 (n - (1 : Int)) - (↑i : Int)))))))),
              AV.full
                (IV.bytes
                  (List.map u8
                    [IntKind.wrap IntKind.u8
                        (shrV IntKind.u64 v
                          (IntKind.wrap IntKind.u64
                            (IntKind.wrap IntKind.i64
                              ((8 : Int) *
                                IntKind.wrap IntKind.i64 (IntKind.wrap IntKind.i64 (n - (1 : Int)) - (↑i : Int))))))])),
              AV.row (0 : Nat) (1 : Nat),
              AV.imm (IV.int IntKind.i64 (IntKind.wrap IntKind.i64 ((↑i : Int) + (1 : Int)))), AV.dead]
            [((0 : Nat),
                Ob.mk true (1 : Nat)
                  (AObj.row
                    (IV.bytes
                      (l ++
                        List.map u8
                          [IntKind.wrap IntKind.u8
                              (shrV IntKind.u64 v
                                (IntKind.wrap IntKind.u64
                                  (IntKind.wrap IntKind.i64
                                    ((8 : Int) *
                                      IntKind.wrap IntKind.i64
                                        (IntKind.wrap IntKind.i64 (n - (1 : Int)) - (↑i : Int))))))]))))]
            (1 : Nat) []))
  (k (AX.exit (0 : Nat))
    (St.mk
      [AV.dead, AV.imm (IV.int IntKind.i64 n), AV.imm (IV.int IntKind.u64 v), AV.dead, AV.dead, AV.dead, AV.dead,
        AV.row (0 : Nat) (0 : Nat), AV.dead, AV.dead, AV.dead, AV.dead, AV.dead, AV.dead, AV.dead, AV.dead,
        AV.imm (IV.int IntKind.i64 n), AV.imm (IV.int IntKind.i64 (↑i : Int)),
        AV.imm (IV.bool (decide ((↑i : Int) < n))), AV.dead, AV.dead, AV.dead, AV.dead, AV.dead, AV.dead, AV.dead,
        AV.dead, AV.dead, AV.dead, AV.dead, AV.dead, AV.dead, AV.dead, AV.dead]
      [((0 : Nat), Ob.mk true (0 : Nat) (AObj.row (IV.bytes l)))] (1 : Nat) []))) := by kernel_rfl
theorem f22_lp (b : List
  UInt8) (n : Int) (v : Int) (own : Bool) (l : List
  UInt8) (i : Nat) (k : AX → St → Prop) : evCode C0 (loopB (bodyOf Tryd.f22) (0 : Nat)) (h22 b n v own l i) k =
  (brn (decide ((↑i : Int) < n))
  ((256 : Int) ≠ (0 : Int) ∧
    (List.length (List.map u8 [IntKind.wrap IntKind.u8 (Int.tmod v (256 : Int))]) + List.length l) * (1 : Nat) ≤
        (140737488355328 : Nat) ∧
      List.length (List.map u8 [IntKind.wrap IntKind.u8 (Int.tmod v (256 : Int))]) + List.length l ≤
          (140737488355328 : Nat) ∧
        (256 : Int) ≠ (0 : Int) ∧
          k AX.normal
            (St.mk
              [AV.imm (IV.bytes b), AV.imm (IV.int IntKind.i64 n),
                AV.imm (IV.int IntKind.u64 (IntKind.wrap IntKind.u64 (Int.tdiv v (256 : Int)))), AV.dead, AV.dead,
                AV.dead, AV.dead, AV.row (1 : Nat) (0 : Nat),
                AV.imm (IV.int IntKind.i64 (IntKind.wrap IntKind.i64 ((↑i : Int) + (1 : Int)))), AV.dead,
                AV.imm (IV.int IntKind.i64 (↑i : Int)), AV.imm (IV.int IntKind.i64 n),
                AV.imm (IV.bool (decide ((↑i : Int) < n))), AV.imm (IV.int IntKind.i64 (↑i : Int)),
                AV.imm (IV.int IntKind.i64 (IntKind.wrap IntKind.i64 ((↑i : Int) + (1 : Int)))),
                AV.imm (IV.int IntKind.u64 v), AV.imm (IV.int IntKind.u64 (Int.tmod v (256 : Int))),
                AV.imm (IV.int IntKind.u8 (IntKind.wrap IntKind.u8 (Int.tmod v (256 : Int)))),
                AV.full (IV.bytes (List.map u8 [IntKind.wrap IntKind.u8 (Int.tmod v (256 : Int))])),
                AV.row (0 : Nat) (0 : Nat), AV.row (1 : Nat) (0 : Nat), AV.imm (IV.int IntKind.u64 v),
                AV.imm (IV.int IntKind.u64 (IntKind.wrap IntKind.u64 (Int.tdiv v (256 : Int)))), AV.dead, AV.dead,
                AV.dead, AV.dead, AV.dead]
              [((0 : Nat), Ob.mk own (0 : Nat) (AObj.row (IV.bytes l))),
                ((1 : Nat),
                  Ob.mk
                    (bif
                        noneIV
                          ((fun l => IV.bytes (List.map u8 l)) [IntKind.wrap IntKind.u8 (Int.tmod v (256 : Int))]) then
                      true
                    else someIV (IV.bytes l))
                    (0 : Nat)
                    (AObj.row (IV.bytes (List.map u8 [IntKind.wrap IntKind.u8 (Int.tmod v (256 : Int))] ++ l))))]
              (2 : Nat) []))
  (k (AX.exit (0 : Nat))
    (St.mk
      [AV.imm (IV.bytes b), AV.imm (IV.int IntKind.i64 n), AV.imm (IV.int IntKind.u64 v), AV.dead, AV.dead, AV.dead,
        AV.dead, AV.row (0 : Nat) (0 : Nat), AV.imm (IV.int IntKind.i64 (↑i : Int)), AV.dead,
        AV.imm (IV.int IntKind.i64 (↑i : Int)), AV.imm (IV.int IntKind.i64 n),
        AV.imm (IV.bool (decide ((↑i : Int) < n))), AV.dead, AV.dead, AV.dead, AV.dead, AV.dead, AV.dead, AV.dead,
        AV.dead, AV.dead, AV.dead, AV.dead, AV.dead, AV.dead, AV.dead, AV.dead]
      [((0 : Nat), Ob.mk own (0 : Nat) (AObj.row (IV.bytes l)))] (1 : Nat) []))) := by kernel_rfl
theorem f14_lp (xs : List
  (List
    IV)) (n : Int) (why : Int) (i : Nat) (k : AX →
  St → Prop) : evCode C0 (loopB (bodyOf Tryd.f14) (0 : Nat)) (h14 xs n why i) k =
  (brn (decide ((↑i : Int) < (↑(List.length xs) : Int)))
  ((0 : Int) ≤ (↑i : Int) ∧
    (↑i : Int) < (↑(List.length xs) : Int) ∧
      kcells (List.getD xs (Int.toNat (↑i : Int)) []) (0 : Nat)
            (lapp [CK.int IntKind.i32] (lapp [CK.bool] (lapp [CK.int IntKind.u8] []))) =
          List.getD xs (Int.toNat (↑i : Int)) [] ∧
        brn (ivInt (ivNth (List.getD xs (Int.toNat (↑i : Int)) []) (0 : Nat)) == (-2147483648 : Int))
          (k AX.ret
            (St.mk
              [AV.dead, AV.imm (IV.int IntKind.i64 n), AV.dead, AV.dead, AV.imm (IV.int IntKind.i64 (9 : Int)),
                AV.imm (IV.int IntKind.i64 why), AV.dead, AV.ptr (0 : Nat) (0 : Nat), AV.imm (IV.sl (3 : Nat) xs),
                AV.imm (IV.int IntKind.i64 (↑(List.length xs) : Int)), AV.imm (IV.int IntKind.i64 (↑i : Int)),
                AV.imm (IV.bool (decide ((↑i : Int) < (↑(List.length xs) : Int)))),
                AV.elv
                  [IV.int IntKind.i32 (ivInt (ivNth (List.getD xs (Int.toNat (↑i : Int)) []) (0 : Nat))),
                    IV.bool (ivBool (ivNth (List.getD xs (Int.toNat (↑i : Int)) []) ((0 : Nat) + (1 : Nat)))),
                    IV.int IntKind.u8
                      (ivInt (ivNth (List.getD xs (Int.toNat (↑i : Int)) []) ((0 : Nat) + (1 : Nat) + (1 : Nat))))],
                AV.agg
                  [AV.imm (IV.int IntKind.i32 (ivInt (ivNth (List.getD xs (Int.toNat (↑i : Int)) []) (0 : Nat)))),
                    AV.imm (IV.bool (ivBool (ivNth (List.getD xs (Int.toNat (↑i : Int)) []) ((0 : Nat) + (1 : Nat))))),
                    AV.imm
                      (IV.int IntKind.u8
                        (ivInt (ivNth (List.getD xs (Int.toNat (↑i : Int)) []) ((0 : Nat) + (1 : Nat) + (1 : Nat)))))],
                AV.imm
                  (IV.bool (ivInt (ivNth (List.getD xs (Int.toNat (↑i : Int)) []) (0 : Nat)) == (-2147483648 : Int))),
                AV.ptr (0 : Nat) (0 : Nat),
                AV.imm (IV.int IntKind.i32 (ivInt (ivNth (List.getD xs (Int.toNat (↑i : Int)) []) (0 : Nat)))),
                AV.imm
                  (IV.bool (ivInt (ivNth (List.getD xs (Int.toNat (↑i : Int)) []) (0 : Nat)) == (-2147483648 : Int))),
                AV.dead, AV.dead, AV.dead, AV.dead, AV.dead, AV.dead, AV.dead, AV.dead]
              [((0 : Nat),
                  Ob.mk true (0 : Nat)
                    (AObj.cells
                      [AV.imm (IV.int IntKind.i32 (ivInt (ivNth (List.getD xs (Int.toNat (↑i : Int)) []) (0 : Nat)))),
                        AV.imm
                          (IV.bool (ivBool (ivNth (List.getD xs (Int.toNat (↑i : Int)) []) ((0 : Nat) + (1 : Nat))))),
                        AV.imm
                          (IV.int IntKind.u8
                            (ivInt
                              (ivNth (List.getD xs (Int.toNat (↑i : Int)) []) ((0 : Nat) + (1 : Nat) + (1 : Nat)))))]))]
              (1 : Nat) []))
          (brn
            (decide
              (IntKind.wrap IntKind.i64
                  (ivInt (ivNth (List.getD xs (Int.toNat (↑i : Int)) []) ((0 : Nat) + (1 : Nat) + (1 : Nat)))) ≥
                n))
            (k AX.normal
              (St.mk
                [AV.dead, AV.imm (IV.int IntKind.i64 n), AV.dead, AV.dead, AV.dead,
                  AV.imm (IV.int IntKind.i64 (8 : Int)), AV.dead, AV.ptr (0 : Nat) (0 : Nat),
                  AV.imm (IV.sl (3 : Nat) xs), AV.imm (IV.int IntKind.i64 (↑(List.length xs) : Int)),
                  AV.imm (IV.int IntKind.i64 (IntKind.wrap IntKind.i64 ((↑i : Int) + (1 : Int)))),
                  AV.imm (IV.bool (decide ((↑i : Int) < (↑(List.length xs) : Int)))),
                  AV.elv
                    [IV.int IntKind.i32 (ivInt (ivNth (List.getD xs (Int.toNat (↑i : Int)) []) (0 : Nat))),
                      IV.bool (ivBool (ivNth (List.getD xs (Int.toNat (↑i : Int)) []) ((0 : Nat) + (1 : Nat)))),
                      IV.int IntKind.u8
                        (ivInt (ivNth (List.getD xs (Int.toNat (↑i : Int)) []) ((0 : Nat) + (1 : Nat) + (1 : Nat))))],
                  AV.agg
                    [AV.imm (IV.int IntKind.i32 (ivInt (ivNth (List.getD xs (Int.toNat (↑i : Int)) []) (0 : Nat)))),
                      AV.imm
                        (IV.bool (ivBool (ivNth (List.getD xs (Int.toNat (↑i : Int)) []) ((0 : Nat) + (1 : Nat))))),
                      AV.imm
                        (IV.int IntKind.u8
                          (ivInt
                            (ivNth (List.getD xs (Int.toNat (↑i : Int)) []) ((0 : Nat) + (1 : Nat) + (1 : Nat)))))],
                  AV.imm
                    (IV.bool (ivInt (ivNth (List.getD xs (Int.toNat (↑i : Int)) []) (0 : Nat)) == (-2147483648 : Int))),
                  AV.ptr (0 : Nat) (0 : Nat),
                  AV.imm (IV.int IntKind.i32 (ivInt (ivNth (List.getD xs (Int.toNat (↑i : Int)) []) (0 : Nat)))),
                  AV.imm
                    (IV.bool (ivInt (ivNth (List.getD xs (Int.toNat (↑i : Int)) []) (0 : Nat)) == (-2147483648 : Int))),
                  AV.imm
                    (IV.bool
                      (decide
                        (IntKind.wrap IntKind.i64
                            (ivInt
                              (ivNth (List.getD xs (Int.toNat (↑i : Int)) []) ((0 : Nat) + (1 : Nat) + (1 : Nat)))) ≥
                          n))),
                  AV.ptr (0 : Nat) (2 : Nat),
                  AV.imm
                    (IV.int IntKind.u8
                      (ivInt (ivNth (List.getD xs (Int.toNat (↑i : Int)) []) ((0 : Nat) + (1 : Nat) + (1 : Nat))))),
                  AV.imm
                    (IV.int IntKind.i64
                      (IntKind.wrap IntKind.i64
                        (ivInt (ivNth (List.getD xs (Int.toNat (↑i : Int)) []) ((0 : Nat) + (1 : Nat) + (1 : Nat)))))),
                  AV.imm (IV.int IntKind.i64 n),
                  AV.imm
                    (IV.bool
                      (decide
                        (IntKind.wrap IntKind.i64
                            (ivInt
                              (ivNth (List.getD xs (Int.toNat (↑i : Int)) []) ((0 : Nat) + (1 : Nat) + (1 : Nat)))) ≥
                          n))),
                  AV.imm (IV.int IntKind.i64 (IntKind.wrap IntKind.i64 ((↑i : Int) + (1 : Int)))), AV.dead]
                [((0 : Nat),
                    Ob.mk true (0 : Nat)
                      (AObj.cells
                        [AV.imm (IV.int IntKind.i32 (ivInt (ivNth (List.getD xs (Int.toNat (↑i : Int)) []) (0 : Nat)))),
                          AV.imm
                            (IV.bool (ivBool (ivNth (List.getD xs (Int.toNat (↑i : Int)) []) ((0 : Nat) + (1 : Nat))))),
                          AV.imm
                            (IV.int IntKind.u8
                              (ivInt
                                (ivNth (List.getD xs (Int.toNat (↑i : Int)) [])
                                  ((0 : Nat) + (1 : Nat) + (1 : Nat)))))]))]
                (1 : Nat) []))
            (k AX.normal
              (St.mk
                [AV.dead, AV.imm (IV.int IntKind.i64 n), AV.dead, AV.dead, AV.dead, AV.imm (IV.int IntKind.i64 why),
                  AV.dead, AV.ptr (0 : Nat) (0 : Nat), AV.imm (IV.sl (3 : Nat) xs),
                  AV.imm (IV.int IntKind.i64 (↑(List.length xs) : Int)),
                  AV.imm (IV.int IntKind.i64 (IntKind.wrap IntKind.i64 ((↑i : Int) + (1 : Int)))),
                  AV.imm (IV.bool (decide ((↑i : Int) < (↑(List.length xs) : Int)))),
                  AV.elv
                    [IV.int IntKind.i32 (ivInt (ivNth (List.getD xs (Int.toNat (↑i : Int)) []) (0 : Nat))),
                      IV.bool (ivBool (ivNth (List.getD xs (Int.toNat (↑i : Int)) []) ((0 : Nat) + (1 : Nat)))),
                      IV.int IntKind.u8
                        (ivInt (ivNth (List.getD xs (Int.toNat (↑i : Int)) []) ((0 : Nat) + (1 : Nat) + (1 : Nat))))],
                  AV.agg
                    [AV.imm (IV.int IntKind.i32 (ivInt (ivNth (List.getD xs (Int.toNat (↑i : Int)) []) (0 : Nat)))),
                      AV.imm
                        (IV.bool (ivBool (ivNth (List.getD xs (Int.toNat (↑i : Int)) []) ((0 : Nat) + (1 : Nat))))),
                      AV.imm
                        (IV.int IntKind.u8
                          (ivInt
                            (ivNth (List.getD xs (Int.toNat (↑i : Int)) []) ((0 : Nat) + (1 : Nat) + (1 : Nat)))))],
                  AV.imm
                    (IV.bool (ivInt (ivNth (List.getD xs (Int.toNat (↑i : Int)) []) (0 : Nat)) == (-2147483648 : Int))),
                  AV.ptr (0 : Nat) (0 : Nat),
                  AV.imm (IV.int IntKind.i32 (ivInt (ivNth (List.getD xs (Int.toNat (↑i : Int)) []) (0 : Nat)))),
                  AV.imm
                    (IV.bool (ivInt (ivNth (List.getD xs (Int.toNat (↑i : Int)) []) (0 : Nat)) == (-2147483648 : Int))),
                  AV.imm
                    (IV.bool
                      (decide
                        (IntKind.wrap IntKind.i64
                            (ivInt
                              (ivNth (List.getD xs (Int.toNat (↑i : Int)) []) ((0 : Nat) + (1 : Nat) + (1 : Nat)))) ≥
                          n))),
                  AV.ptr (0 : Nat) (2 : Nat),
                  AV.imm
                    (IV.int IntKind.u8
                      (ivInt (ivNth (List.getD xs (Int.toNat (↑i : Int)) []) ((0 : Nat) + (1 : Nat) + (1 : Nat))))),
                  AV.imm
                    (IV.int IntKind.i64
                      (IntKind.wrap IntKind.i64
                        (ivInt (ivNth (List.getD xs (Int.toNat (↑i : Int)) []) ((0 : Nat) + (1 : Nat) + (1 : Nat)))))),
                  AV.imm (IV.int IntKind.i64 n),
                  AV.imm
                    (IV.bool
                      (decide
                        (IntKind.wrap IntKind.i64
                            (ivInt
                              (ivNth (List.getD xs (Int.toNat (↑i : Int)) []) ((0 : Nat) + (1 : Nat) + (1 : Nat)))) ≥
                          n))),
                  AV.imm (IV.int IntKind.i64 (IntKind.wrap IntKind.i64 ((↑i : Int) + (1 : Int)))), AV.dead]
                [((0 : Nat),
                    Ob.mk true (0 : Nat)
                      (AObj.cells
                        [AV.imm (IV.int IntKind.i32 (ivInt (ivNth (List.getD xs (Int.toNat (↑i : Int)) []) (0 : Nat)))),
                          AV.imm
                            (IV.bool (ivBool (ivNth (List.getD xs (Int.toNat (↑i : Int)) []) ((0 : Nat) + (1 : Nat))))),
                          AV.imm
                            (IV.int IntKind.u8
                              (ivInt
                                (ivNth (List.getD xs (Int.toNat (↑i : Int)) [])
                                  ((0 : Nat) + (1 : Nat) + (1 : Nat)))))]))]
                (1 : Nat) []))))
  (k (AX.exit (0 : Nat))
    (St.mk
      [AV.dead, AV.imm (IV.int IntKind.i64 n), AV.dead, AV.dead, AV.dead, AV.imm (IV.int IntKind.i64 why), AV.dead,
        AV.dead, AV.imm (IV.sl (3 : Nat) xs), AV.imm (IV.int IntKind.i64 (↑(List.length xs) : Int)),
        AV.imm (IV.int IntKind.i64 (↑i : Int)), AV.imm (IV.bool (decide ((↑i : Int) < (↑(List.length xs) : Int)))),
        AV.dead, AV.dead, AV.dead, AV.dead, AV.dead, AV.dead, AV.dead, AV.dead, AV.dead, AV.dead, AV.dead, AV.dead,
        AV.dead, AV.dead]
      [] (0 : Nat) []))) := by kernel_rfl
theorem f15_lpa (xs : List
  (List IV)) (n : Int) (i : Nat) (k : AX → St → Prop) : evCode C0 (loopB (bodyOf Tryd.f15) (0 : Nat)) (h15a xs n i) k =
  (brn (decide ((↑i : Int) < (↑(List.length xs) : Int)))
  ((0 : Int) ≤ (↑i : Int) ∧
    (↑i : Int) < (↑(List.length xs) : Int) ∧
      kcells (List.getD xs (Int.toNat (↑i : Int)) []) (0 : Nat)
            (lapp [CK.int IntKind.i32] (lapp [CK.bool] (lapp [CK.int IntKind.u8] []))) =
          List.getD xs (Int.toNat (↑i : Int)) [] ∧
        brn (ivInt (ivNth (List.getD xs (Int.toNat (↑i : Int)) []) (0 : Nat)) == (-2147483648 : Int))
          (k AX.ret
            (St.mk
              [AV.imm (IV.sl (3 : Nat) xs), AV.imm (IV.int IntKind.i64 n), AV.dead, AV.dead,
                AV.imm (IV.int IntKind.i64 (9 : Int)), AV.imm (IV.int IntKind.i64 (↑i : Int)), AV.dead,
                AV.imm (IV.int IntKind.i64 (↑i : Int)), AV.imm (IV.sl (3 : Nat) xs),
                AV.imm (IV.int IntKind.i64 (↑(List.length xs) : Int)),
                AV.imm (IV.bool (decide ((↑i : Int) < (↑(List.length xs) : Int)))), AV.dead, AV.dead,
                AV.imm (IV.sl (3 : Nat) xs), AV.imm (IV.int IntKind.i64 (↑i : Int)),
                AV.elv
                  [IV.int IntKind.i32 (ivInt (ivNth (List.getD xs (Int.toNat (↑i : Int)) []) (0 : Nat))),
                    IV.bool (ivBool (ivNth (List.getD xs (Int.toNat (↑i : Int)) []) ((0 : Nat) + (1 : Nat)))),
                    IV.int IntKind.u8
                      (ivInt (ivNth (List.getD xs (Int.toNat (↑i : Int)) []) ((0 : Nat) + (1 : Nat) + (1 : Nat))))],
                AV.elv
                  [IV.int IntKind.i32 (ivInt (ivNth (List.getD xs (Int.toNat (↑i : Int)) []) (0 : Nat))),
                    IV.bool (ivBool (ivNth (List.getD xs (Int.toNat (↑i : Int)) []) ((0 : Nat) + (1 : Nat)))),
                    IV.int IntKind.u8
                      (ivInt (ivNth (List.getD xs (Int.toNat (↑i : Int)) []) ((0 : Nat) + (1 : Nat) + (1 : Nat))))],
                AV.imm (IV.int IntKind.i32 (ivInt (ivNth (List.getD xs (Int.toNat (↑i : Int)) []) (0 : Nat)))),
                AV.imm
                  (IV.bool (ivInt (ivNth (List.getD xs (Int.toNat (↑i : Int)) []) (0 : Nat)) == (-2147483648 : Int))),
                AV.dead, AV.dead, AV.dead, AV.dead, AV.dead, AV.dead, AV.dead, AV.dead, AV.dead, AV.dead, AV.dead,
                AV.dead, AV.dead, AV.dead]
              [] (0 : Nat) []))
          (k AX.normal
            (St.mk
              [AV.imm (IV.sl (3 : Nat) xs), AV.imm (IV.int IntKind.i64 n), AV.dead, AV.dead, AV.dead,
                AV.imm (IV.int IntKind.i64 (IntKind.wrap IntKind.i64 ((↑i : Int) + (1 : Int)))), AV.dead,
                AV.imm (IV.int IntKind.i64 (↑i : Int)), AV.imm (IV.sl (3 : Nat) xs),
                AV.imm (IV.int IntKind.i64 (↑(List.length xs) : Int)),
                AV.imm (IV.bool (decide ((↑i : Int) < (↑(List.length xs) : Int)))),
                AV.imm (IV.int IntKind.i64 (↑i : Int)),
                AV.imm (IV.int IntKind.i64 (IntKind.wrap IntKind.i64 ((↑i : Int) + (1 : Int)))),
                AV.imm (IV.sl (3 : Nat) xs), AV.imm (IV.int IntKind.i64 (↑i : Int)),
                AV.elv
                  [IV.int IntKind.i32 (ivInt (ivNth (List.getD xs (Int.toNat (↑i : Int)) []) (0 : Nat))),
                    IV.bool (ivBool (ivNth (List.getD xs (Int.toNat (↑i : Int)) []) ((0 : Nat) + (1 : Nat)))),
                    IV.int IntKind.u8
                      (ivInt (ivNth (List.getD xs (Int.toNat (↑i : Int)) []) ((0 : Nat) + (1 : Nat) + (1 : Nat))))],
                AV.elv
                  [IV.int IntKind.i32 (ivInt (ivNth (List.getD xs (Int.toNat (↑i : Int)) []) (0 : Nat))),
                    IV.bool (ivBool (ivNth (List.getD xs (Int.toNat (↑i : Int)) []) ((0 : Nat) + (1 : Nat)))),
                    IV.int IntKind.u8
                      (ivInt (ivNth (List.getD xs (Int.toNat (↑i : Int)) []) ((0 : Nat) + (1 : Nat) + (1 : Nat))))],
                AV.imm (IV.int IntKind.i32 (ivInt (ivNth (List.getD xs (Int.toNat (↑i : Int)) []) (0 : Nat)))),
                AV.imm
                  (IV.bool (ivInt (ivNth (List.getD xs (Int.toNat (↑i : Int)) []) (0 : Nat)) == (-2147483648 : Int))),
                AV.dead, AV.dead, AV.dead, AV.dead, AV.dead, AV.dead, AV.dead, AV.dead, AV.dead, AV.dead, AV.dead,
                AV.dead, AV.dead, AV.dead]
              [] (0 : Nat) [])))
  (k (AX.exit (0 : Nat))
    (St.mk
      [AV.imm (IV.sl (3 : Nat) xs), AV.imm (IV.int IntKind.i64 n), AV.dead, AV.dead, AV.dead,
        AV.imm (IV.int IntKind.i64 (↑i : Int)), AV.dead, AV.imm (IV.int IntKind.i64 (↑i : Int)),
        AV.imm (IV.sl (3 : Nat) xs), AV.imm (IV.int IntKind.i64 (↑(List.length xs) : Int)),
        AV.imm (IV.bool (decide ((↑i : Int) < (↑(List.length xs) : Int)))), AV.dead, AV.dead, AV.dead, AV.dead, AV.dead,
        AV.dead, AV.dead, AV.dead, AV.dead, AV.dead, AV.dead, AV.dead, AV.dead, AV.dead, AV.dead, AV.dead, AV.dead,
        AV.dead, AV.dead, AV.dead, AV.dead, AV.dead]
      [] (0 : Nat) []))) := by kernel_rfl
theorem f15_lpb (xs : List
  (List IV)) (n : Int) (i : Nat) (k : AX → St → Prop) : evCode C0 (loopB (bodyOf Tryd.f15) (1 : Nat)) (h15b xs n i) k =
  (brn (decide ((↑i : Int) < (↑(List.length xs) : Int)))
  ((0 : Int) ≤ (↑i : Int) ∧
    (↑i : Int) < (↑(List.length xs) : Int) ∧
      kcells (List.getD xs (Int.toNat (↑i : Int)) []) (0 : Nat)
            (lapp [CK.int IntKind.i32] (lapp [CK.bool] (lapp [CK.int IntKind.u8] []))) =
          List.getD xs (Int.toNat (↑i : Int)) [] ∧
        brn
          (decide
            (IntKind.wrap IntKind.i64
                (ivInt (ivNth (List.getD xs (Int.toNat (↑i : Int)) []) ((0 : Nat) + (1 : Nat) + (1 : Nat)))) ≥
              n))
          (k AX.ret
            (St.mk
              [AV.imm (IV.sl (3 : Nat) xs), AV.imm (IV.int IntKind.i64 n), AV.dead, AV.dead,
                AV.imm (IV.int IntKind.i64 (8 : Int)), AV.dead, AV.imm (IV.int IntKind.i64 (↑i : Int)), AV.dead,
                AV.dead, AV.dead, AV.dead, AV.dead, AV.dead, AV.dead, AV.dead, AV.dead, AV.dead, AV.dead, AV.dead,
                AV.imm (IV.int IntKind.i64 (↑i : Int)), AV.imm (IV.sl (3 : Nat) xs),
                AV.imm (IV.int IntKind.i64 (↑(List.length xs) : Int)),
                AV.imm (IV.bool (decide ((↑i : Int) < (↑(List.length xs) : Int)))), AV.dead, AV.dead,
                AV.imm (IV.sl (3 : Nat) xs), AV.imm (IV.int IntKind.i64 (↑i : Int)),
                AV.elv
                  [IV.int IntKind.i32 (ivInt (ivNth (List.getD xs (Int.toNat (↑i : Int)) []) (0 : Nat))),
                    IV.bool (ivBool (ivNth (List.getD xs (Int.toNat (↑i : Int)) []) ((0 : Nat) + (1 : Nat)))),
                    IV.int IntKind.u8
                      (ivInt (ivNth (List.getD xs (Int.toNat (↑i : Int)) []) ((0 : Nat) + (1 : Nat) + (1 : Nat))))],
                AV.elv
                  [IV.int IntKind.u8
                      (ivInt (ivNth (List.getD xs (Int.toNat (↑i : Int)) []) ((0 : Nat) + (1 : Nat) + (1 : Nat))))],
                AV.imm
                  (IV.int IntKind.u8
                    (ivInt (ivNth (List.getD xs (Int.toNat (↑i : Int)) []) ((0 : Nat) + (1 : Nat) + (1 : Nat))))),
                AV.imm
                  (IV.int IntKind.i64
                    (IntKind.wrap IntKind.i64
                      (ivInt (ivNth (List.getD xs (Int.toNat (↑i : Int)) []) ((0 : Nat) + (1 : Nat) + (1 : Nat)))))),
                AV.imm (IV.int IntKind.i64 n),
                AV.imm
                  (IV.bool
                    (decide
                      (IntKind.wrap IntKind.i64
                          (ivInt (ivNth (List.getD xs (Int.toNat (↑i : Int)) []) ((0 : Nat) + (1 : Nat) + (1 : Nat)))) ≥
                        n)))]
              [] (0 : Nat) []))
          (k AX.normal
            (St.mk
              [AV.imm (IV.sl (3 : Nat) xs), AV.imm (IV.int IntKind.i64 n), AV.dead, AV.dead, AV.dead, AV.dead,
                AV.imm (IV.int IntKind.i64 (IntKind.wrap IntKind.i64 ((↑i : Int) + (1 : Int)))), AV.dead, AV.dead,
                AV.dead, AV.dead, AV.dead, AV.dead, AV.dead, AV.dead, AV.dead, AV.dead, AV.dead, AV.dead,
                AV.imm (IV.int IntKind.i64 (↑i : Int)), AV.imm (IV.sl (3 : Nat) xs),
                AV.imm (IV.int IntKind.i64 (↑(List.length xs) : Int)),
                AV.imm (IV.bool (decide ((↑i : Int) < (↑(List.length xs) : Int)))),
                AV.imm (IV.int IntKind.i64 (↑i : Int)),
                AV.imm (IV.int IntKind.i64 (IntKind.wrap IntKind.i64 ((↑i : Int) + (1 : Int)))),
                AV.imm (IV.sl (3 : Nat) xs), AV.imm (IV.int IntKind.i64 (↑i : Int)),
                AV.elv
                  [IV.int IntKind.i32 (ivInt (ivNth (List.getD xs (Int.toNat (↑i : Int)) []) (0 : Nat))),
                    IV.bool (ivBool (ivNth (List.getD xs (Int.toNat (↑i : Int)) []) ((0 : Nat) + (1 : Nat)))),
                    IV.int IntKind.u8
                      (ivInt (ivNth (List.getD xs (Int.toNat (↑i : Int)) []) ((0 : Nat) + (1 : Nat) + (1 : Nat))))],
                AV.elv
                  [IV.int IntKind.u8
                      (ivInt (ivNth (List.getD xs (Int.toNat (↑i : Int)) []) ((0 : Nat) + (1 : Nat) + (1 : Nat))))],
                AV.imm
                  (IV.int IntKind.u8
                    (ivInt (ivNth (List.getD xs (Int.toNat (↑i : Int)) []) ((0 : Nat) + (1 : Nat) + (1 : Nat))))),
                AV.imm
                  (IV.int IntKind.i64
                    (IntKind.wrap IntKind.i64
                      (ivInt (ivNth (List.getD xs (Int.toNat (↑i : Int)) []) ((0 : Nat) + (1 : Nat) + (1 : Nat)))))),
                AV.imm (IV.int IntKind.i64 n),
                AV.imm
                  (IV.bool
                    (decide
                      (IntKind.wrap IntKind.i64
                          (ivInt (ivNth (List.getD xs (Int.toNat (↑i : Int)) []) ((0 : Nat) + (1 : Nat) + (1 : Nat)))) ≥
                        n)))]
              [] (0 : Nat) [])))
  (k (AX.exit (2 : Nat))
    (St.mk
      [AV.imm (IV.sl (3 : Nat) xs), AV.imm (IV.int IntKind.i64 n), AV.dead, AV.dead, AV.dead, AV.dead,
        AV.imm (IV.int IntKind.i64 (↑i : Int)), AV.dead, AV.dead, AV.dead, AV.dead, AV.dead, AV.dead, AV.dead, AV.dead,
        AV.dead, AV.dead, AV.dead, AV.dead, AV.imm (IV.int IntKind.i64 (↑i : Int)), AV.imm (IV.sl (3 : Nat) xs),
        AV.imm (IV.int IntKind.i64 (↑(List.length xs) : Int)),
        AV.imm (IV.bool (decide ((↑i : Int) < (↑(List.length xs) : Int)))), AV.dead, AV.dead, AV.dead, AV.dead, AV.dead,
        AV.dead, AV.dead, AV.dead, AV.dead, AV.dead]
      [] (0 : Nat) []))) := by kernel_rfl
theorem f12_lp (xs : List
  (List
    IV)) (l : List
  UInt8) (i : Nat) (k : AX → St → Prop) : evCode C3 (loopB (bodyOf Tryd.f12) (0 : Nat)) (h12 xs l i) k =
  (brn (decide ((↑i : Int) < (↑(List.length xs) : Int)))
  ((0 : Int) ≤ (↑i : Int) ∧
    (↑i : Int) < (↑(List.length xs) : Int) ∧
      kcells (List.getD xs (Int.toNat (↑i : Int)) []) (0 : Nat)
            (lapp [CK.int IntKind.i32] (lapp [CK.bool] (lapp [CK.int IntKind.u8] []))) =
          List.getD xs (Int.toNat (↑i : Int)) [] ∧
        (↑(List.length l) : Int) ≤ (1000000000000 : Int) ∧
          (0 : Int) ≤ (4 : Int) ∧
            (4 : Int) ≤ (8 : Int) ∧
              (0 : Int) ≤
                  IntKind.wrap IntKind.u64
                    (IntKind.wrap IntKind.i64 (ivInt (ivNth (List.getD xs (Int.toNat (↑i : Int)) []) (0 : Nat)))) ∧
                IntKind.wrap IntKind.u64
                      (IntKind.wrap IntKind.i64 (ivInt (ivNth (List.getD xs (Int.toNat (↑i : Int)) []) (0 : Nat)))) <
                    (18446744073709551616 : Int) ∧
                  brn (ivBool (ivNth (List.getD xs (Int.toNat (↑i : Int)) []) ((0 : Nat) + (1 : Nat))))
                    ((List.length
                              (l ++
                                be (Int.toNat (4 : Int))
                                  (Int.toNat
                                    (IntKind.wrap IntKind.u64
                                      (IntKind.wrap IntKind.i64
                                        (ivInt (ivNth (List.getD xs (Int.toNat (↑i : Int)) []) (0 : Nat))))))) +
                            List.length
                              (List.map u8
                                [(1 : Int),
                                  ivInt
                                    (ivNth (List.getD xs (Int.toNat (↑i : Int)) [])
                                      ((0 : Nat) + (1 : Nat) + (1 : Nat)))])) *
                          (1 : Nat) ≤
                        (140737488355328 : Nat) ∧
                      List.length
                              (l ++
                                be (Int.toNat (4 : Int))
                                  (Int.toNat
                                    (IntKind.wrap IntKind.u64
                                      (IntKind.wrap IntKind.i64
                                        (ivInt (ivNth (List.getD xs (Int.toNat (↑i : Int)) []) (0 : Nat))))))) +
                            List.length
                              (List.map u8
                                [(1 : Int),
                                  ivInt
                                    (ivNth (List.getD xs (Int.toNat (↑i : Int)) [])
                                      ((0 : Nat) + (1 : Nat) + (1 : Nat)))]) ≤
                          (140737488355328 : Nat) ∧
                        k AX.normal
                          (St.mk
                            [AV.dead, AV.dead, AV.dead, AV.row (2 : Nat) (1 : Nat), AV.dead, AV.ptr (1 : Nat) (0 : Nat),
                              AV.imm (IV.int IntKind.u8 (1 : Int)), AV.dead, AV.dead, AV.dead, AV.dead,
                              AV.imm (IV.sl (3 : Nat) xs), AV.imm (IV.int IntKind.i64 (↑(List.length xs) : Int)),
                              AV.imm (IV.int IntKind.i64 (IntKind.wrap IntKind.i64 ((↑i : Int) + (1 : Int)))),
                              AV.imm (IV.bool (decide ((↑i : Int) < (↑(List.length xs) : Int)))),
                              AV.elv
                                [IV.int IntKind.i32 (ivInt (ivNth (List.getD xs (Int.toNat (↑i : Int)) []) (0 : Nat))),
                                  IV.bool
                                    (ivBool (ivNth (List.getD xs (Int.toNat (↑i : Int)) []) ((0 : Nat) + (1 : Nat)))),
                                  IV.int IntKind.u8
                                    (ivInt
                                      (ivNth (List.getD xs (Int.toNat (↑i : Int)) [])
                                        ((0 : Nat) + (1 : Nat) + (1 : Nat))))],
                              AV.agg
                                [AV.imm
                                    (IV.int IntKind.i32
                                      (ivInt (ivNth (List.getD xs (Int.toNat (↑i : Int)) []) (0 : Nat)))),
                                  AV.imm
                                    (IV.bool
                                      (ivBool
                                        (ivNth (List.getD xs (Int.toNat (↑i : Int)) []) ((0 : Nat) + (1 : Nat))))),
                                  AV.imm
                                    (IV.int IntKind.u8
                                      (ivInt
                                        (ivNth (List.getD xs (Int.toNat (↑i : Int)) [])
                                          ((0 : Nat) + (1 : Nat) + (1 : Nat)))))],
                              AV.row (0 : Nat) (0 : Nat), AV.ptr (1 : Nat) (0 : Nat),
                              AV.imm
                                (IV.int IntKind.i32 (ivInt (ivNth (List.getD xs (Int.toNat (↑i : Int)) []) (0 : Nat)))),
                              AV.imm
                                (IV.int IntKind.i64
                                  (IntKind.wrap IntKind.i64
                                    (ivInt (ivNth (List.getD xs (Int.toNat (↑i : Int)) []) (0 : Nat))))),
                              AV.imm
                                (IV.int IntKind.u64
                                  (IntKind.wrap IntKind.u64
                                    (IntKind.wrap IntKind.i64
                                      (ivInt (ivNth (List.getD xs (Int.toNat (↑i : Int)) []) (0 : Nat)))))),
                              AV.row (2 : Nat) (0 : Nat), AV.ptr (1 : Nat) (1 : Nat),
                              AV.imm
                                (IV.bool
                                  (ivBool (ivNth (List.getD xs (Int.toNat (↑i : Int)) []) ((0 : Nat) + (1 : Nat))))),
                              AV.row (2 : Nat) (0 : Nat), AV.imm (IV.int IntKind.u8 (1 : Int)),
                              AV.ptr (1 : Nat) (2 : Nat),
                              AV.imm
                                (IV.int IntKind.u8
                                  (ivInt
                                    (ivNth (List.getD xs (Int.toNat (↑i : Int)) [])
                                      ((0 : Nat) + (1 : Nat) + (1 : Nat))))),
                              AV.full
                                (IV.bytes
                                  (List.map u8
                                    [(1 : Int),
                                      ivInt
                                        (ivNth (List.getD xs (Int.toNat (↑i : Int)) [])
                                          ((0 : Nat) + (1 : Nat) + (1 : Nat)))])),
                              AV.row (2 : Nat) (1 : Nat),
                              AV.imm (IV.int IntKind.i64 (IntKind.wrap IntKind.i64 ((↑i : Int) + (1 : Int)))), AV.dead]
                            [((0 : Nat), Ob.mk false (0 : Nat) (AObj.row (IV.bytes l))),
                              ((1 : Nat),
                                Ob.mk true (0 : Nat)
                                  (AObj.cells
                                    [AV.imm
                                        (IV.int IntKind.i32
                                          (ivInt (ivNth (List.getD xs (Int.toNat (↑i : Int)) []) (0 : Nat)))),
                                      AV.imm
                                        (IV.bool
                                          (ivBool
                                            (ivNth (List.getD xs (Int.toNat (↑i : Int)) []) ((0 : Nat) + (1 : Nat))))),
                                      AV.imm
                                        (IV.int IntKind.u8
                                          (ivInt
                                            (ivNth (List.getD xs (Int.toNat (↑i : Int)) [])
                                              ((0 : Nat) + (1 : Nat) + (1 : Nat)))))])),
                              ((2 : Nat),
                                Ob.mk true (1 : Nat)
                                  (AObj.row
                                    (IV.bytes
                                      (l ++
                                          be (Int.toNat (4 : Int))
                                            (Int.toNat
                                              (IntKind.wrap IntKind.u64
                                                (IntKind.wrap IntKind.i64
                                                  (ivInt
                                                    (ivNth (List.getD xs (Int.toNat (↑i : Int)) []) (0 : Nat)))))) ++
                                        List.map u8
                                          [(1 : Int),
                                            ivInt
                                              (ivNth (List.getD xs (Int.toNat (↑i : Int)) [])
                                                ((0 : Nat) + (1 : Nat) + (1 : Nat)))]))))]
                            (3 : Nat) []))
                    ((List.length
                              (l ++
                                be (Int.toNat (4 : Int))
                                  (Int.toNat
                                    (IntKind.wrap IntKind.u64
                                      (IntKind.wrap IntKind.i64
                                        (ivInt (ivNth (List.getD xs (Int.toNat (↑i : Int)) []) (0 : Nat))))))) +
                            List.length
                              (List.map u8
                                [(0 : Int),
                                  ivInt
                                    (ivNth (List.getD xs (Int.toNat (↑i : Int)) [])
                                      ((0 : Nat) + (1 : Nat) + (1 : Nat)))])) *
                          (1 : Nat) ≤
                        (140737488355328 : Nat) ∧
                      List.length
                              (l ++
                                be (Int.toNat (4 : Int))
                                  (Int.toNat
                                    (IntKind.wrap IntKind.u64
                                      (IntKind.wrap IntKind.i64
                                        (ivInt (ivNth (List.getD xs (Int.toNat (↑i : Int)) []) (0 : Nat))))))) +
                            List.length
                              (List.map u8
                                [(0 : Int),
                                  ivInt
                                    (ivNth (List.getD xs (Int.toNat (↑i : Int)) [])
                                      ((0 : Nat) + (1 : Nat) + (1 : Nat)))]) ≤
                          (140737488355328 : Nat) ∧
                        k AX.normal
                          (St.mk
                            [AV.dead, AV.dead, AV.dead, AV.row (2 : Nat) (1 : Nat), AV.dead, AV.ptr (1 : Nat) (0 : Nat),
                              AV.imm (IV.int IntKind.u8 (0 : Int)), AV.dead, AV.dead, AV.dead, AV.dead,
                              AV.imm (IV.sl (3 : Nat) xs), AV.imm (IV.int IntKind.i64 (↑(List.length xs) : Int)),
                              AV.imm (IV.int IntKind.i64 (IntKind.wrap IntKind.i64 ((↑i : Int) + (1 : Int)))),
                              AV.imm (IV.bool (decide ((↑i : Int) < (↑(List.length xs) : Int)))),
                              AV.elv
                                [IV.int IntKind.i32 (ivInt (ivNth (List.getD xs (Int.toNat (↑i : Int)) []) (0 : Nat))),
                                  IV.bool
                                    (ivBool (ivNth (List.getD xs (Int.toNat (↑i : Int)) []) ((0 : Nat) + (1 : Nat)))),
                                  IV.int IntKind.u8
                                    (ivInt
                                      (ivNth (List.getD xs (Int.toNat (↑i : Int)) [])
                                        ((0 : Nat) + (1 : Nat) + (1 : Nat))))],
                              AV.agg
                                [AV.imm
                                    (IV.int IntKind.i32
                                      (ivInt (ivNth (List.getD xs (Int.toNat (↑i : Int)) []) (0 : Nat)))),
                                  AV.imm
                                    (IV.bool
                                      (ivBool
                                        (ivNth (List.getD xs (Int.toNat (↑i : Int)) []) ((0 : Nat) + (1 : Nat))))),
                                  AV.imm
                                    (IV.int IntKind.u8
                                      (ivInt
                                        (ivNth (List.getD xs (Int.toNat (↑i : Int)) [])
                                          ((0 : Nat) + (1 : Nat) + (1 : Nat)))))],
                              AV.row (0 : Nat) (0 : Nat), AV.ptr (1 : Nat) (0 : Nat),
                              AV.imm
                                (IV.int IntKind.i32 (ivInt (ivNth (List.getD xs (Int.toNat (↑i : Int)) []) (0 : Nat)))),
                              AV.imm
                                (IV.int IntKind.i64
                                  (IntKind.wrap IntKind.i64
                                    (ivInt (ivNth (List.getD xs (Int.toNat (↑i : Int)) []) (0 : Nat))))),
                              AV.imm
                                (IV.int IntKind.u64
                                  (IntKind.wrap IntKind.u64
                                    (IntKind.wrap IntKind.i64
                                      (ivInt (ivNth (List.getD xs (Int.toNat (↑i : Int)) []) (0 : Nat)))))),
                              AV.row (2 : Nat) (0 : Nat), AV.ptr (1 : Nat) (1 : Nat),
                              AV.imm
                                (IV.bool
                                  (ivBool (ivNth (List.getD xs (Int.toNat (↑i : Int)) []) ((0 : Nat) + (1 : Nat))))),
                              AV.row (2 : Nat) (0 : Nat), AV.imm (IV.int IntKind.u8 (0 : Int)),
                              AV.ptr (1 : Nat) (2 : Nat),
                              AV.imm
                                (IV.int IntKind.u8
                                  (ivInt
                                    (ivNth (List.getD xs (Int.toNat (↑i : Int)) [])
                                      ((0 : Nat) + (1 : Nat) + (1 : Nat))))),
                              AV.full
                                (IV.bytes
                                  (List.map u8
                                    [(0 : Int),
                                      ivInt
                                        (ivNth (List.getD xs (Int.toNat (↑i : Int)) [])
                                          ((0 : Nat) + (1 : Nat) + (1 : Nat)))])),
                              AV.row (2 : Nat) (1 : Nat),
                              AV.imm (IV.int IntKind.i64 (IntKind.wrap IntKind.i64 ((↑i : Int) + (1 : Int)))), AV.dead]
                            [((0 : Nat), Ob.mk false (0 : Nat) (AObj.row (IV.bytes l))),
                              ((1 : Nat),
                                Ob.mk true (0 : Nat)
                                  (AObj.cells
                                    [AV.imm
                                        (IV.int IntKind.i32
                                          (ivInt (ivNth (List.getD xs (Int.toNat (↑i : Int)) []) (0 : Nat)))),
                                      AV.imm
                                        (IV.bool
                                          (ivBool
                                            (ivNth (List.getD xs (Int.toNat (↑i : Int)) []) ((0 : Nat) + (1 : Nat))))),
                                      AV.imm
                                        (IV.int IntKind.u8
                                          (ivInt
                                            (ivNth (List.getD xs (Int.toNat (↑i : Int)) [])
                                              ((0 : Nat) + (1 : Nat) + (1 : Nat)))))])),
                              ((2 : Nat),
                                Ob.mk true (1 : Nat)
                                  (AObj.row
                                    (IV.bytes
                                      (l ++
                                          be (Int.toNat (4 : Int))
                                            (Int.toNat
                                              (IntKind.wrap IntKind.u64
                                                (IntKind.wrap IntKind.i64
                                                  (ivInt
                                                    (ivNth (List.getD xs (Int.toNat (↑i : Int)) []) (0 : Nat)))))) ++
                                        List.map u8
                                          [(0 : Int),
                                            ivInt
                                              (ivNth (List.getD xs (Int.toNat (↑i : Int)) [])
                                                ((0 : Nat) + (1 : Nat) + (1 : Nat)))]))))]
                            (3 : Nat) [])))
  (k (AX.exit (0 : Nat))
    (St.mk
      [AV.dead, AV.dead, AV.dead, AV.row (0 : Nat) (0 : Nat), AV.dead, AV.dead, AV.dead, AV.dead, AV.dead, AV.dead,
        AV.dead, AV.imm (IV.sl (3 : Nat) xs), AV.imm (IV.int IntKind.i64 (↑(List.length xs) : Int)),
        AV.imm (IV.int IntKind.i64 (↑i : Int)), AV.imm (IV.bool (decide ((↑i : Int) < (↑(List.length xs) : Int)))),
        AV.dead, AV.dead, AV.dead, AV.dead, AV.dead, AV.dead, AV.dead, AV.dead, AV.dead, AV.dead, AV.dead, AV.dead,
        AV.dead, AV.dead, AV.dead, AV.dead, AV.dead, AV.dead]
      [((0 : Nat), Ob.mk true (0 : Nat) (AObj.row (IV.bytes l)))] (1 : Nat) []))) := by kernel_rfl
theorem f13_lp (xs : List
  (List
    IV)) (l : List
  UInt8) (i : Nat) (k : AX → St → Prop) : evCode C3 (loopB (bodyOf Tryd.f13) (0 : Nat)) (h13 xs l i) k =
  (brn (decide ((↑i : Int) < (↑(List.length xs) : Int)))
  ((0 : Int) ≤ (↑i : Int) ∧
    (↑i : Int) < (↑(List.length xs) : Int) ∧
      kcells (List.getD xs (Int.toNat (↑i : Int)) []) (0 : Nat)
            (lapp [CK.int IntKind.i32] (lapp [CK.bool] (lapp [CK.int IntKind.u8] []))) =
          List.getD xs (Int.toNat (↑i : Int)) [] ∧
        (↑(List.length l) : Int) ≤ (1000000000000 : Int) ∧
          (0 : Int) ≤ (4 : Int) ∧
            (4 : Int) ≤ (8 : Int) ∧
              (0 : Int) ≤
                  IntKind.wrap IntKind.u64
                    (IntKind.wrap IntKind.i64 (ivInt (ivNth (List.getD xs (Int.toNat (↑i : Int)) []) (0 : Nat)))) ∧
                IntKind.wrap IntKind.u64
                      (IntKind.wrap IntKind.i64 (ivInt (ivNth (List.getD xs (Int.toNat (↑i : Int)) []) (0 : Nat)))) <
                    (18446744073709551616 : Int) ∧
                  (0 : Int) ≤ (↑i : Int) ∧
                    (↑i : Int) < (↑(List.length xs) : Int) ∧
                      kcells (List.getD xs (Int.toNat (↑i : Int)) []) (0 : Nat)
                            (lapp [CK.int IntKind.i32] (lapp [CK.bool] (lapp [CK.int IntKind.u8] []))) =
                          List.getD xs (Int.toNat (↑i : Int)) [] ∧
                        brn (ivBool (ivNth (List.getD xs (Int.toNat (↑i : Int)) []) ((0 : Nat) + (1 : Nat))))
                          ((0 : Int) ≤ (↑i : Int) ∧
                            (↑i : Int) < (↑(List.length xs) : Int) ∧
                              kcells (List.getD xs (Int.toNat (↑i : Int)) []) (0 : Nat)
                                    (lapp [CK.int IntKind.i32] (lapp [CK.bool] (lapp [CK.int IntKind.u8] []))) =
                                  List.getD xs (Int.toNat (↑i : Int)) [] ∧
                                (List.length
                                          (l ++
                                            be (Int.toNat (4 : Int))
                                              (Int.toNat
                                                (IntKind.wrap IntKind.u64
                                                  (IntKind.wrap IntKind.i64
                                                    (ivInt
                                                      (ivNth (List.getD xs (Int.toNat (↑i : Int)) []) (0 : Nat))))))) +
                                        List.length
                                          (List.map u8
                                            [(1 : Int),
                                              ivInt
                                                (ivNth (List.getD xs (Int.toNat (↑i : Int)) [])
                                                  ((0 : Nat) + (1 : Nat) + (1 : Nat)))])) *
                                      (1 : Nat) ≤
                                    (140737488355328 : Nat) ∧
                                  List.length
                                          (l ++
                                            be (Int.toNat (4 : Int))
                                              (Int.toNat
                                                (IntKind.wrap IntKind.u64
                                                  (IntKind.wrap IntKind.i64
                                                    (ivInt
                                                      (ivNth (List.getD xs (Int.toNat (↑i : Int)) []) (0 : Nat))))))) +
                                        List.length
                                          (List.map u8
                                            [(1 : Int),
                                              ivInt
                                                (ivNth (List.getD xs (Int.toNat (↑i : Int)) [])
                                                  ((0 : Nat) + (1 : Nat) + (1 : Nat)))]) ≤
                                      (140737488355328 : Nat) ∧
                                    k AX.normal
                                      (St.mk
                                        [AV.imm (IV.sl (3 : Nat) xs), AV.dead, AV.dead, AV.row (1 : Nat) (1 : Nat),
                                          AV.imm
                                            (IV.int IntKind.i64 (IntKind.wrap IntKind.i64 ((↑i : Int) + (1 : Int)))),
                                          AV.imm (IV.int IntKind.u8 (1 : Int)), AV.imm (IV.int IntKind.i64 (↑i : Int)),
                                          AV.imm (IV.sl (3 : Nat) xs),
                                          AV.imm (IV.int IntKind.i64 (↑(List.length xs) : Int)),
                                          AV.imm (IV.bool (decide ((↑i : Int) < (↑(List.length xs) : Int)))),
                                          AV.imm (IV.int IntKind.i64 (↑i : Int)),
                                          AV.imm
                                            (IV.int IntKind.i64 (IntKind.wrap IntKind.i64 ((↑i : Int) + (1 : Int)))),
                                          AV.row (0 : Nat) (0 : Nat), AV.imm (IV.sl (3 : Nat) xs),
                                          AV.imm (IV.int IntKind.i64 (↑i : Int)),
                                          AV.elv
                                            [IV.int IntKind.i32
                                                (ivInt (ivNth (List.getD xs (Int.toNat (↑i : Int)) []) (0 : Nat))),
                                              IV.bool
                                                (ivBool
                                                  (ivNth (List.getD xs (Int.toNat (↑i : Int)) [])
                                                    ((0 : Nat) + (1 : Nat)))),
                                              IV.int IntKind.u8
                                                (ivInt
                                                  (ivNth (List.getD xs (Int.toNat (↑i : Int)) [])
                                                    ((0 : Nat) + (1 : Nat) + (1 : Nat))))],
                                          AV.elv
                                            [IV.int IntKind.i32
                                                (ivInt (ivNth (List.getD xs (Int.toNat (↑i : Int)) []) (0 : Nat))),
                                              IV.bool
                                                (ivBool
                                                  (ivNth (List.getD xs (Int.toNat (↑i : Int)) [])
                                                    ((0 : Nat) + (1 : Nat)))),
                                              IV.int IntKind.u8
                                                (ivInt
                                                  (ivNth (List.getD xs (Int.toNat (↑i : Int)) [])
                                                    ((0 : Nat) + (1 : Nat) + (1 : Nat))))],
                                          AV.imm
                                            (IV.int IntKind.i32
                                              (ivInt (ivNth (List.getD xs (Int.toNat (↑i : Int)) []) (0 : Nat)))),
                                          AV.imm
                                            (IV.int IntKind.i64
                                              (IntKind.wrap IntKind.i64
                                                (ivInt (ivNth (List.getD xs (Int.toNat (↑i : Int)) []) (0 : Nat))))),
                                          AV.imm
                                            (IV.int IntKind.u64
                                              (IntKind.wrap IntKind.u64
                                                (IntKind.wrap IntKind.i64
                                                  (ivInt (ivNth (List.getD xs (Int.toNat (↑i : Int)) []) (0 : Nat)))))),
                                          AV.row (1 : Nat) (0 : Nat), AV.imm (IV.sl (3 : Nat) xs),
                                          AV.imm (IV.int IntKind.i64 (↑i : Int)),
                                          AV.elv
                                            [IV.int IntKind.i32
                                                (ivInt (ivNth (List.getD xs (Int.toNat (↑i : Int)) []) (0 : Nat))),
                                              IV.bool
                                                (ivBool
                                                  (ivNth (List.getD xs (Int.toNat (↑i : Int)) [])
                                                    ((0 : Nat) + (1 : Nat)))),
                                              IV.int IntKind.u8
                                                (ivInt
                                                  (ivNth (List.getD xs (Int.toNat (↑i : Int)) [])
                                                    ((0 : Nat) + (1 : Nat) + (1 : Nat))))],
                                          AV.elv
                                            [IV.bool
                                                (ivBool
                                                  (ivNth (List.getD xs (Int.toNat (↑i : Int)) [])
                                                    ((0 : Nat) + (1 : Nat)))),
                                              IV.int IntKind.u8
                                                (ivInt
                                                  (ivNth (List.getD xs (Int.toNat (↑i : Int)) [])
                                                    ((0 : Nat) + (1 : Nat) + (1 : Nat))))],
                                          AV.imm
                                            (IV.bool
                                              (ivBool
                                                (ivNth (List.getD xs (Int.toNat (↑i : Int)) [])
                                                  ((0 : Nat) + (1 : Nat))))),
                                          AV.row (1 : Nat) (0 : Nat), AV.imm (IV.int IntKind.u8 (1 : Int)),
                                          AV.imm (IV.sl (3 : Nat) xs), AV.imm (IV.int IntKind.i64 (↑i : Int)),
                                          AV.elv
                                            [IV.int IntKind.i32
                                                (ivInt (ivNth (List.getD xs (Int.toNat (↑i : Int)) []) (0 : Nat))),
                                              IV.bool
                                                (ivBool
                                                  (ivNth (List.getD xs (Int.toNat (↑i : Int)) [])
                                                    ((0 : Nat) + (1 : Nat)))),
                                              IV.int IntKind.u8
                                                (ivInt
                                                  (ivNth (List.getD xs (Int.toNat (↑i : Int)) [])
                                                    ((0 : Nat) + (1 : Nat) + (1 : Nat))))],
                                          AV.elv
                                            [IV.int IntKind.u8
                                                (ivInt
                                                  (ivNth (List.getD xs (Int.toNat (↑i : Int)) [])
                                                    ((0 : Nat) + (1 : Nat) + (1 : Nat))))],
                                          AV.imm
                                            (IV.int IntKind.u8
                                              (ivInt
                                                (ivNth (List.getD xs (Int.toNat (↑i : Int)) [])
                                                  ((0 : Nat) + (1 : Nat) + (1 : Nat))))),
                                          AV.full
                                            (IV.bytes
                                              (List.map u8
                                                [(1 : Int),
                                                  ivInt
                                                    (ivNth (List.getD xs (Int.toNat (↑i : Int)) [])
                                                      ((0 : Nat) + (1 : Nat) + (1 : Nat)))])),
                                          AV.row (1 : Nat) (1 : Nat), AV.dead]
                                        [((0 : Nat), Ob.mk false (0 : Nat) (AObj.row (IV.bytes l))),
                                          ((1 : Nat),
                                            Ob.mk true (1 : Nat)
                                              (AObj.row
                                                (IV.bytes
                                                  (l ++
                                                      be (Int.toNat (4 : Int))
                                                        (Int.toNat
                                                          (IntKind.wrap IntKind.u64
                                                            (IntKind.wrap IntKind.i64
                                                              (ivInt
                                                                (ivNth (List.getD xs (Int.toNat (↑i : Int)) [])
                                                                  (0 : Nat)))))) ++
                                                    List.map u8
                                                      [(1 : Int),
                                                        ivInt
                                                          (ivNth (List.getD xs (Int.toNat (↑i : Int)) [])
                                                            ((0 : Nat) + (1 : Nat) + (1 : Nat)))]))))]
                                        (2 : Nat) []))
                          ((0 : Int) ≤ (↑i : Int) ∧
                            (↑i : Int) < (↑(List.length xs) : Int) ∧
                              kcells (List.getD xs (Int.toNat (↑i : Int)) []) (0 : Nat)
                                    (lapp [CK.int IntKind.i32] (lapp [CK.bool] (lapp [CK.int IntKind.u8] []))) =
                                  List.getD xs (Int.toNat (↑i : Int)) [] ∧
                                (List.length
                                          (l ++
                                            be (Int.toNat (4 : Int))
                                              (Int.toNat
                                                (IntKind.wrap IntKind.u64
                                                  (IntKind.wrap IntKind.i64
                                                    (ivInt
                                                      (ivNth (List.getD xs (Int.toNat (↑i : Int)) []) (0 : Nat))))))) +
                                        List.length
                                          (List.map u8
                                            [(0 : Int),
                                              ivInt
                                                (ivNth (List.getD xs (Int.toNat (↑i : Int)) [])
                                                  ((0 : Nat) + (1 : Nat) + (1 : Nat)))])) *
                                      (1 : Nat) ≤
                                    (140737488355328 : Nat) ∧
                                  List.length
                                          (l ++
                                            be (Int.toNat (4 : Int))
                                              (Int.toNat
                                                (IntKind.wrap IntKind.u64
                                                  (IntKind.wrap IntKind.i64
                                                    (ivInt
                                                      (ivNth (List.getD xs (Int.toNat (↑i : Int)) []) (0 : Nat))))))) +
                                        List.length
                                          (List.map u8
                                            [(0 : Int),
                                              ivInt
                                                (ivNth (List.getD xs (Int.toNat (↑i : Int)) [])
                                                  ((0 : Nat) + (1 : Nat) + (1 : Nat)))]) ≤
                                      (140737488355328 : Nat) ∧
                                    k AX.normal
                                      (St.mk
                                        [AV.imm (IV.sl (3 : Nat) xs), AV.dead, AV.dead, AV.row (1 : Nat) (1 : Nat),
                                          AV.imm
                                            (IV.int IntKind.i64 (IntKind.wrap IntKind.i64 ((↑i : Int) + (1 : Int)))),
                                          AV.imm (IV.int IntKind.u8 (0 : Int)), AV.imm (IV.int IntKind.i64 (↑i : Int)),
                                          AV.imm (IV.sl (3 : Nat) xs),
                                          AV.imm (IV.int IntKind.i64 (↑(List.length xs) : Int)),
                                          AV.imm (IV.bool (decide ((↑i : Int) < (↑(List.length xs) : Int)))),
                                          AV.imm (IV.int IntKind.i64 (↑i : Int)),
                                          AV.imm
                                            (IV.int IntKind.i64 (IntKind.wrap IntKind.i64 ((↑i : Int) + (1 : Int)))),
                                          AV.row (0 : Nat) (0 : Nat), AV.imm (IV.sl (3 : Nat) xs),
                                          AV.imm (IV.int IntKind.i64 (↑i : Int)),
                                          AV.elv
                                            [IV.int IntKind.i32
                                                (ivInt (ivNth (List.getD xs (Int.toNat (↑i : Int)) []) (0 : Nat))),
                                              IV.bool
                                                (ivBool
                                                  (ivNth (List.getD xs (Int.toNat (↑i : Int)) [])
                                                    ((0 : Nat) + (1 : Nat)))),
                                              IV.int IntKind.u8
                                                (ivInt
                                                  (ivNth (List.getD xs (Int.toNat (↑i : Int)) [])
                                                    ((0 : Nat) + (1 : Nat) + (1 : Nat))))],
                                          AV.elv
                                            [IV.int IntKind.i32
                                                (ivInt (ivNth (List.getD xs (Int.toNat (↑i : Int)) []) (0 : Nat))),
                                              IV.bool
                                                (ivBool
                                                  (ivNth (List.getD xs (Int.toNat (↑i : Int)) [])
                                                    ((0 : Nat) + (1 : Nat)))),
                                              IV.int IntKind.u8
                                                (ivInt
                                                  (ivNth (List.getD xs (Int.toNat (↑i : Int)) [])
                                                    ((0 : Nat) + (1 : Nat) + (1 : Nat))))],
                                          AV.imm
                                            (IV.int IntKind.i32
                                              (ivInt (ivNth (List.getD xs (Int.toNat (↑i : Int)) []) (0 : Nat)))),
                                          AV.imm
                                            (IV.int IntKind.i64
                                              (IntKind.wrap IntKind.i64
                                                (ivInt (ivNth (List.getD xs (Int.toNat (↑i : Int)) []) (0 : Nat))))),
                                          AV.imm
                                            (IV.int IntKind.u64
                                              (IntKind.wrap IntKind.u64
                                                (IntKind.wrap IntKind.i64
                                                  (ivInt (ivNth (List.getD xs (Int.toNat (↑i : Int)) []) (0 : Nat)))))),
                                          AV.row (1 : Nat) (0 : Nat), AV.imm (IV.sl (3 : Nat) xs),
                                          AV.imm (IV.int IntKind.i64 (↑i : Int)),
                                          AV.elv
                                            [IV.int IntKind.i32
                                                (ivInt (ivNth (List.getD xs (Int.toNat (↑i : Int)) []) (0 : Nat))),
                                              IV.bool
                                                (ivBool
                                                  (ivNth (List.getD xs (Int.toNat (↑i : Int)) [])
                                                    ((0 : Nat) + (1 : Nat)))),
                                              IV.int IntKind.u8
                                                (ivInt
                                                  (ivNth (List.getD xs (Int.toNat (↑i : Int)) [])
                                                    ((0 : Nat) + (1 : Nat) + (1 : Nat))))],
                                          AV.elv
                                            [IV.bool
                                                (ivBool
                                                  (ivNth (List.getD xs (Int.toNat (↑i : Int)) [])
                                                    ((0 : Nat) + (1 : Nat)))),
                                              IV.int IntKind.u8
                                                (ivInt
                                                  (ivNth (List.getD xs (Int.toNat (↑i : Int)) [])
                                                    ((0 : Nat) + (1 : Nat) + (1 : Nat))))],
                                          AV.imm
                                            (IV.bool
                                              (ivBool
                                                (ivNth (List.getD xs (Int.toNat (↑i : Int)) [])
                                                  ((0 : Nat) + (1 : Nat))))),
                                          AV.row (1 : Nat) (0 : Nat), AV.imm (IV.int IntKind.u8 (0 : Int)),
                                          AV.imm (IV.sl (3 : Nat) xs), AV.imm (IV.int IntKind.i64 (↑i : Int)),
                                          AV.elv
                                            [IV.int IntKind.i32
                                                (ivInt (ivNth (List.getD xs (Int.toNat (↑i : Int)) []) (0 : Nat))),
                                              IV.bool
                                                (ivBool
                                                  (ivNth (List.getD xs (Int.toNat (↑i : Int)) [])
                                                    ((0 : Nat) + (1 : Nat)))),
                                              IV.int IntKind.u8
                                                (ivInt
                                                  (ivNth (List.getD xs (Int.toNat (↑i : Int)) [])
                                                    ((0 : Nat) + (1 : Nat) + (1 : Nat))))],
                                          AV.elv
                                            [IV.int IntKind.u8
                                                (ivInt
                                                  (ivNth (List.getD xs (Int.toNat (↑i : Int)) [])
                                                    ((0 : Nat) + (1 : Nat) + (1 : Nat))))],
                                          AV.imm
                                            (IV.int IntKind.u8
                                              (ivInt
                                                (ivNth (List.getD xs (Int.toNat (↑i : Int)) [])
                                                  ((0 : Nat) + (1 : Nat) + (1 : Nat))))),
                                          AV.full
                                            (IV.bytes
                                              (List.map u8
                                                [(0 : Int),
                                                  ivInt
                                                    (ivNth (List.getD xs (Int.toNat (↑i : Int)) [])
                                                      ((0 : Nat) + (1 : Nat) + (1 : Nat)))])),
                                          AV.row (1 : Nat) (1 : Nat), AV.dead]
                                        [((0 : Nat), Ob.mk false (0 : Nat) (AObj.row (IV.bytes l))),
                                          ((1 : Nat),
                                            Ob.mk true (1 : Nat)
                                              (AObj.row
                                                (IV.bytes
                                                  (l ++
                                                      be (Int.toNat (4 : Int))
                                                        (Int.toNat
                                                          (IntKind.wrap IntKind.u64
                                                            (IntKind.wrap IntKind.i64
                                                              (ivInt
                                                                (ivNth (List.getD xs (Int.toNat (↑i : Int)) [])
                                                                  (0 : Nat)))))) ++
                                                    List.map u8
                                                      [(0 : Int),
                                                        ivInt
                                                          (ivNth (List.getD xs (Int.toNat (↑i : Int)) [])
                                                            ((0 : Nat) + (1 : Nat) + (1 : Nat)))]))))]
                                        (2 : Nat) [])))
  (k (AX.exit (0 : Nat))
    (St.mk
      [AV.imm (IV.sl (3 : Nat) xs), AV.dead, AV.dead, AV.row (0 : Nat) (0 : Nat),
        AV.imm (IV.int IntKind.i64 (↑i : Int)), AV.dead, AV.imm (IV.int IntKind.i64 (↑i : Int)),
        AV.imm (IV.sl (3 : Nat) xs), AV.imm (IV.int IntKind.i64 (↑(List.length xs) : Int)),
        AV.imm (IV.bool (decide ((↑i : Int) < (↑(List.length xs) : Int)))), AV.dead, AV.dead, AV.dead, AV.dead, AV.dead,
        AV.dead, AV.dead, AV.dead, AV.dead, AV.dead, AV.dead, AV.dead, AV.dead, AV.dead, AV.dead, AV.dead, AV.dead,
        AV.dead, AV.dead, AV.dead, AV.dead, AV.dead, AV.dead, AV.dead, AV.dead, AV.dead]
      [((0 : Nat), Ob.mk true (0 : Nat) (AObj.row (IV.bytes l)))] (1 : Nat) []))) := by kernel_rfl
theorem f9_lpa (b : List
  UInt8) (i : Nat) (k : AX → St → Prop) : evCode C2 (loopB (bodyOf Tryd.f9) (0 : Nat)) (h9a b i) k =
  ((6 : Int) ≠ (0 : Int) ∧
  brn (decide ((↑i : Int) < IntKind.wrap IntKind.i64 (Int.tdiv (↑(List.length b) : Int) (6 : Int))))
    ((0 : Int) ≤ IntKind.wrap IntKind.i64 (IntKind.wrap IntKind.i64 ((6 : Int) * (↑i : Int)) + (4 : Int)) ∧
      IntKind.wrap IntKind.i64 (IntKind.wrap IntKind.i64 ((6 : Int) * (↑i : Int)) + (4 : Int)) <
          (↑(List.length b) : Int) ∧
        brn
          (decide
            ((↑(UInt8.toNat
                    (List.getD b
                      (Int.toNat
                        (IntKind.wrap IntKind.i64 (IntKind.wrap IntKind.i64 ((6 : Int) * (↑i : Int)) + (4 : Int))))
                      (0 : UInt8))) :
                Int) >
              (1 : Int)))
          (k AX.ret
            (St.mk
              [AV.imm (IV.bytes b), AV.dead, AV.full (IV.sl (3 : Nat) []), AV.imm (IV.bool false),
                AV.imm (IV.int IntKind.i64 (↑i : Int)), AV.dead, AV.dead, AV.dead, AV.dead,
                AV.imm (IV.int IntKind.i64 (↑i : Int)), AV.imm (IV.bytes b),
                AV.imm (IV.int IntKind.i64 (↑(List.length b) : Int)),
                AV.imm (IV.int IntKind.i64 (IntKind.wrap IntKind.i64 (Int.tdiv (↑(List.length b) : Int) (6 : Int)))),
                AV.imm
                  (IV.bool
                    (decide ((↑i : Int) < IntKind.wrap IntKind.i64 (Int.tdiv (↑(List.length b) : Int) (6 : Int))))),
                AV.dead, AV.dead, AV.imm (IV.bytes b), AV.imm (IV.int IntKind.i64 (↑i : Int)),
                AV.imm (IV.int IntKind.i64 (IntKind.wrap IntKind.i64 ((6 : Int) * (↑i : Int)))),
                AV.imm
                  (IV.int IntKind.i64
                    (IntKind.wrap IntKind.i64 (IntKind.wrap IntKind.i64 ((6 : Int) * (↑i : Int)) + (4 : Int)))),
                AV.elv
                  [IV.int IntKind.u8
                      (↑(UInt8.toNat
                            (List.getD b
                              (Int.toNat
                                (IntKind.wrap IntKind.i64
                                  (IntKind.wrap IntKind.i64 ((6 : Int) * (↑i : Int)) + (4 : Int))))
                              (0 : UInt8))) :
                        Int)],
                AV.imm
                  (IV.int IntKind.u8
                    (↑(UInt8.toNat
                          (List.getD b
                            (Int.toNat
                              (IntKind.wrap IntKind.i64
                                (IntKind.wrap IntKind.i64 ((6 : Int) * (↑i : Int)) + (4 : Int))))
                            (0 : UInt8))) :
                      Int)),
                AV.imm
                  (IV.bool
                    (decide
                      ((↑(UInt8.toNat
                              (List.getD b
                                (Int.toNat
                                  (IntKind.wrap IntKind.i64
                                    (IntKind.wrap IntKind.i64 ((6 : Int) * (↑i : Int)) + (4 : Int))))
                                (0 : UInt8))) :
                          Int) >
                        (1 : Int)))),
                AV.dead, AV.dead, AV.dead, AV.dead, AV.dead, AV.dead, AV.dead, AV.dead, AV.dead, AV.dead, AV.dead,
                AV.dead, AV.dead, AV.dead, AV.dead, AV.dead, AV.dead, AV.dead, AV.dead, AV.dead, AV.dead, AV.dead,
                AV.dead, AV.dead, AV.dead, AV.dead, AV.dead, AV.dead, AV.dead, AV.dead, AV.dead, AV.dead, AV.dead,
                AV.dead]
              [] (0 : Nat) []))
          (k AX.normal
            (St.mk
              [AV.imm (IV.bytes b), AV.dead, AV.dead, AV.dead,
                AV.imm (IV.int IntKind.i64 (IntKind.wrap IntKind.i64 ((↑i : Int) + (1 : Int)))), AV.dead, AV.dead,
                AV.dead, AV.dead, AV.imm (IV.int IntKind.i64 (↑i : Int)), AV.imm (IV.bytes b),
                AV.imm (IV.int IntKind.i64 (↑(List.length b) : Int)),
                AV.imm (IV.int IntKind.i64 (IntKind.wrap IntKind.i64 (Int.tdiv (↑(List.length b) : Int) (6 : Int)))),
                AV.imm
                  (IV.bool
                    (decide ((↑i : Int) < IntKind.wrap IntKind.i64 (Int.tdiv (↑(List.length b) : Int) (6 : Int))))),
                AV.imm (IV.int IntKind.i64 (↑i : Int)),
                AV.imm (IV.int IntKind.i64 (IntKind.wrap IntKind.i64 ((↑i : Int) + (1 : Int)))), AV.imm (IV.bytes b),
                AV.imm (IV.int IntKind.i64 (↑i : Int)),
                AV.imm (IV.int IntKind.i64 (IntKind.wrap IntKind.i64 ((6 : Int) * (↑i : Int)))),
                AV.imm
                  (IV.int IntKind.i64
                    (IntKind.wrap IntKind.i64 (IntKind.wrap IntKind.i64 ((6 : Int) * (↑i : Int)) + (4 : Int)))),
                AV.elv
                  [IV.int IntKind.u8
                      (↑(UInt8.toNat
                            (List.getD b
                              (Int.toNat
                                (IntKind.wrap IntKind.i64
                                  (IntKind.wrap IntKind.i64 ((6 : Int) * (↑i : Int)) + (4 : Int))))
                              (0 : UInt8))) :
                        Int)],
                AV.imm
                  (IV.int IntKind.u8
                    (↑(UInt8.toNat
                          (List.getD b
                            (Int.toNat
                              (IntKind.wrap IntKind.i64
                                (IntKind.wrap IntKind.i64 ((6 : Int) * (↑i : Int)) + (4 : Int))))
                            (0 : UInt8))) :
                      Int)),
                AV.imm
                  (IV.bool
                    (decide
                      ((↑(UInt8.toNat
                              (List.getD b
                                (Int.toNat
                                  (IntKind.wrap IntKind.i64
                                    (IntKind.wrap IntKind.i64 ((6 : Int) * (↑i : Int)) + (4 : Int))))
                                (0 : UInt8))) :
                          Int) >
                        (1 : Int)))),
                AV.dead, AV.dead, AV.dead, AV.dead, AV.dead, AV.dead, AV.dead, AV.dead, AV.dead, AV.dead, AV.dead,
                AV.dead, AV.dead, AV.dead, AV.dead, AV.dead, AV.dead, AV.dead, AV.dead, AV.dead, AV.dead, AV.dead,
                AV.dead, AV.dead, AV.dead, AV.dead, AV.dead, AV.dead, AV.dead, AV.dead, AV.dead, AV.dead, AV.dead,
                AV.dead]
              [] (0 : Nat) [])))
    (k (AX.exit (0 : Nat))
      (St.mk
        [AV.imm (IV.bytes b), AV.dead, AV.dead, AV.dead, AV.imm (IV.int IntKind.i64 (↑i : Int)), AV.dead, AV.dead,
          AV.dead, AV.dead, AV.imm (IV.int IntKind.i64 (↑i : Int)), AV.imm (IV.bytes b),
          AV.imm (IV.int IntKind.i64 (↑(List.length b) : Int)),
          AV.imm (IV.int IntKind.i64 (IntKind.wrap IntKind.i64 (Int.tdiv (↑(List.length b) : Int) (6 : Int)))),
          AV.imm
            (IV.bool (decide ((↑i : Int) < IntKind.wrap IntKind.i64 (Int.tdiv (↑(List.length b) : Int) (6 : Int))))),
          AV.dead, AV.dead, AV.dead, AV.dead, AV.dead, AV.dead, AV.dead, AV.dead, AV.dead, AV.dead, AV.dead, AV.dead,
          AV.dead, AV.dead, AV.dead, AV.dead, AV.dead, AV.dead, AV.dead, AV.dead, AV.dead, AV.dead, AV.dead, AV.dead,
          AV.dead, AV.dead, AV.dead, AV.dead, AV.dead, AV.dead, AV.dead, AV.dead, AV.dead, AV.dead, AV.dead, AV.dead,
          AV.dead, AV.dead, AV.dead, AV.dead, AV.dead, AV.dead, AV.dead]
        [] (0 : Nat) []))) := by kernel_rfl
theorem f9_lpb (b : List
  UInt8) (L : List Ty) (i : Nat) (k : AX → St → Prop) : evCode C2 (loopB (bodyOf Tryd.f9) (1 : Nat)) (h9b b L i) k =
  ((6 : Int) ≠ (0 : Int) ∧
  brn (decide ((↑i : Int) < IntKind.wrap IntKind.i64 (Int.tdiv (↑(List.length b) : Int) (6 : Int))))
    ((↑(List.length b) : Int) ≤ big ∧
      (0 : Int) ≤ IntKind.wrap IntKind.i64 ((6 : Int) * (↑i : Int)) ∧
        IntKind.wrap IntKind.i64 ((6 : Int) * (↑i : Int)) ≤ big ∧
          (1 : Int) ≤ (4 : Int) ∧
            (4 : Int) ≤ (8 : Int) ∧
              (0 : Int) ≤ IntKind.wrap IntKind.i64 (IntKind.wrap IntKind.i64 ((6 : Int) * (↑i : Int)) + (4 : Int)) ∧
                IntKind.wrap IntKind.i64 (IntKind.wrap IntKind.i64 ((6 : Int) * (↑i : Int)) + (4 : Int)) <
                    (↑(List.length b) : Int) ∧
                  (0 : Int) ≤ IntKind.wrap IntKind.i64 (IntKind.wrap IntKind.i64 ((6 : Int) * (↑i : Int)) + (5 : Int)) ∧
                    IntKind.wrap IntKind.i64 (IntKind.wrap IntKind.i64 ((6 : Int) * (↑i : Int)) + (5 : Int)) <
                        (↑(List.length b) : Int) ∧
                      (List.length (List.map cellsT L) +
                              List.length
                                [[IV.int IntKind.i32
                                      (IntKind.wrap IntKind.i32
                                        (sgnN (Int.toNat (4 : Int))
                                          (uintP b (Int.toNat (IntKind.wrap IntKind.i64 ((6 : Int) * (↑i : Int))))
                                            (Int.toNat (4 : Int))))),
                                    IV.bool
                                      ((↑(UInt8.toNat
                                              (List.getD b
                                                (Int.toNat
                                                  (IntKind.wrap IntKind.i64
                                                    (IntKind.wrap IntKind.i64 ((6 : Int) * (↑i : Int)) + (4 : Int))))
                                                (0 : UInt8))) :
                                          Int) ==
                                        (1 : Int)),
                                    IV.int IntKind.u8
                                      (↑(UInt8.toNat
                                            (List.getD b
                                              (Int.toNat
                                                (IntKind.wrap IntKind.i64
                                                  (IntKind.wrap IntKind.i64 ((6 : Int) * (↑i : Int)) + (5 : Int))))
                                              (0 : UInt8))) :
                                        Int)]]) *
                            (8 : Nat) ≤
                          (140737488355328 : Nat) ∧
                        List.length (List.map cellsT L) +
                              List.length
                                [[IV.int IntKind.i32
                                      (IntKind.wrap IntKind.i32
                                        (sgnN (Int.toNat (4 : Int))
                                          (uintP b (Int.toNat (IntKind.wrap IntKind.i64 ((6 : Int) * (↑i : Int))))
                                            (Int.toNat (4 : Int))))),
                                    IV.bool
                                      ((↑(UInt8.toNat
                                              (List.getD b
                                                (Int.toNat
                                                  (IntKind.wrap IntKind.i64
                                                    (IntKind.wrap IntKind.i64 ((6 : Int) * (↑i : Int)) + (4 : Int))))
                                                (0 : UInt8))) :
                                          Int) ==
                                        (1 : Int)),
                                    IV.int IntKind.u8
                                      (↑(UInt8.toNat
                                            (List.getD b
                                              (Int.toNat
                                                (IntKind.wrap IntKind.i64
                                                  (IntKind.wrap IntKind.i64 ((6 : Int) * (↑i : Int)) + (5 : Int))))
                                              (0 : UInt8))) :
                                        Int)]] ≤
                            (140737488355328 : Nat) ∧
                          k AX.normal
                            (St.mk
                              [AV.imm (IV.bytes b), AV.dead, AV.dead, AV.dead, AV.dead, AV.row (0 : Nat) (1 : Nat),
                                AV.imm (IV.int IntKind.i64 (IntKind.wrap IntKind.i64 ((↑i : Int) + (1 : Int)))),
                                AV.imm
                                  (IV.int IntKind.i64
                                    (sgnN (Int.toNat (4 : Int))
                                      (uintP b (Int.toNat (IntKind.wrap IntKind.i64 ((6 : Int) * (↑i : Int))))
                                        (Int.toNat (4 : Int))))),
                                AV.imm
                                  (IV.bool
                                    (okR b (Int.toNat (IntKind.wrap IntKind.i64 ((6 : Int) * (↑i : Int))))
                                      (Int.toNat (4 : Int)))),
                                AV.dead, AV.dead, AV.dead, AV.dead, AV.dead, AV.dead, AV.dead, AV.dead, AV.dead,
                                AV.dead, AV.dead, AV.dead, AV.dead, AV.dead, AV.imm (IV.int IntKind.i64 (↑i : Int)),
                                AV.imm (IV.bytes b), AV.imm (IV.int IntKind.i64 (↑(List.length b) : Int)),
                                AV.imm
                                  (IV.int IntKind.i64
                                    (IntKind.wrap IntKind.i64 (Int.tdiv (↑(List.length b) : Int) (6 : Int)))),
                                AV.imm
                                  (IV.bool
                                    (decide
                                      ((↑i : Int) <
                                        IntKind.wrap IntKind.i64 (Int.tdiv (↑(List.length b) : Int) (6 : Int))))),
                                AV.imm (IV.int IntKind.i64 (↑i : Int)),
                                AV.imm (IV.int IntKind.i64 (IntKind.wrap IntKind.i64 ((↑i : Int) + (1 : Int)))),
                                AV.tup
                                  [AV.imm
                                      (IV.int IntKind.i64
                                        (sgnN (Int.toNat (4 : Int))
                                          (uintP b (Int.toNat (IntKind.wrap IntKind.i64 ((6 : Int) * (↑i : Int))))
                                            (Int.toNat (4 : Int))))),
                                    AV.imm
                                      (IV.bool
                                        (okR b (Int.toNat (IntKind.wrap IntKind.i64 ((6 : Int) * (↑i : Int))))
                                          (Int.toNat (4 : Int))))],
                                AV.imm (IV.bytes b), AV.imm (IV.int IntKind.i64 (↑i : Int)),
                                AV.imm (IV.int IntKind.i64 (IntKind.wrap IntKind.i64 ((6 : Int) * (↑i : Int)))),
                                AV.tup
                                  [AV.imm
                                      (IV.int IntKind.i64
                                        (sgnN (Int.toNat (4 : Int))
                                          (uintP b (Int.toNat (IntKind.wrap IntKind.i64 ((6 : Int) * (↑i : Int))))
                                            (Int.toNat (4 : Int))))),
                                    AV.imm
                                      (IV.bool
                                        (okR b (Int.toNat (IntKind.wrap IntKind.i64 ((6 : Int) * (↑i : Int))))
                                          (Int.toNat (4 : Int))))],
                                AV.imm
                                  (IV.int IntKind.i64
                                    (sgnN (Int.toNat (4 : Int))
                                      (uintP b (Int.toNat (IntKind.wrap IntKind.i64 ((6 : Int) * (↑i : Int))))
                                        (Int.toNat (4 : Int))))),
                                AV.imm
                                  (IV.bool
                                    (okR b (Int.toNat (IntKind.wrap IntKind.i64 ((6 : Int) * (↑i : Int))))
                                      (Int.toNat (4 : Int)))),
                                AV.row (0 : Nat) (0 : Nat),
                                AV.imm
                                  (IV.int IntKind.i64
                                    (sgnN (Int.toNat (4 : Int))
                                      (uintP b (Int.toNat (IntKind.wrap IntKind.i64 ((6 : Int) * (↑i : Int))))
                                        (Int.toNat (4 : Int))))),
                                AV.imm
                                  (IV.int IntKind.i32
                                    (IntKind.wrap IntKind.i32
                                      (sgnN (Int.toNat (4 : Int))
                                        (uintP b (Int.toNat (IntKind.wrap IntKind.i64 ((6 : Int) * (↑i : Int))))
                                          (Int.toNat (4 : Int)))))),
                                AV.imm (IV.bytes b), AV.imm (IV.int IntKind.i64 (↑i : Int)),
                                AV.imm (IV.int IntKind.i64 (IntKind.wrap IntKind.i64 ((6 : Int) * (↑i : Int)))),
                                AV.imm
                                  (IV.int IntKind.i64
                                    (IntKind.wrap IntKind.i64
                                      (IntKind.wrap IntKind.i64 ((6 : Int) * (↑i : Int)) + (4 : Int)))),
                                AV.elv
                                  [IV.int IntKind.u8
                                      (↑(UInt8.toNat
                                            (List.getD b
                                              (Int.toNat
                                                (IntKind.wrap IntKind.i64
                                                  (IntKind.wrap IntKind.i64 ((6 : Int) * (↑i : Int)) + (4 : Int))))
                                              (0 : UInt8))) :
                                        Int)],
                                AV.imm
                                  (IV.int IntKind.u8
                                    (↑(UInt8.toNat
                                          (List.getD b
                                            (Int.toNat
                                              (IntKind.wrap IntKind.i64
                                                (IntKind.wrap IntKind.i64 ((6 : Int) * (↑i : Int)) + (4 : Int))))
                                            (0 : UInt8))) :
                                      Int)),
                                AV.imm
                                  (IV.bool
                                    ((↑(UInt8.toNat
                                            (List.getD b
                                              (Int.toNat
                                                (IntKind.wrap IntKind.i64
                                                  (IntKind.wrap IntKind.i64 ((6 : Int) * (↑i : Int)) + (4 : Int))))
                                              (0 : UInt8))) :
                                        Int) ==
                                      (1 : Int))),
                                AV.imm (IV.bytes b), AV.imm (IV.int IntKind.i64 (↑i : Int)),
                                AV.imm (IV.int IntKind.i64 (IntKind.wrap IntKind.i64 ((6 : Int) * (↑i : Int)))),
                                AV.imm
                                  (IV.int IntKind.i64
                                    (IntKind.wrap IntKind.i64
                                      (IntKind.wrap IntKind.i64 ((6 : Int) * (↑i : Int)) + (5 : Int)))),
                                AV.elv
                                  [IV.int IntKind.u8
                                      (↑(UInt8.toNat
                                            (List.getD b
                                              (Int.toNat
                                                (IntKind.wrap IntKind.i64
                                                  (IntKind.wrap IntKind.i64 ((6 : Int) * (↑i : Int)) + (5 : Int))))
                                              (0 : UInt8))) :
                                        Int)],
                                AV.imm
                                  (IV.int IntKind.u8
                                    (↑(UInt8.toNat
                                          (List.getD b
                                            (Int.toNat
                                              (IntKind.wrap IntKind.i64
                                                (IntKind.wrap IntKind.i64 ((6 : Int) * (↑i : Int)) + (5 : Int))))
                                            (0 : UInt8))) :
                                      Int)),
                                AV.agg
                                  [AV.imm
                                      (IV.int IntKind.i32
                                        (IntKind.wrap IntKind.i32
                                          (sgnN (Int.toNat (4 : Int))
                                            (uintP b (Int.toNat (IntKind.wrap IntKind.i64 ((6 : Int) * (↑i : Int))))
                                              (Int.toNat (4 : Int)))))),
                                    AV.imm
                                      (IV.bool
                                        ((↑(UInt8.toNat
                                                (List.getD b
                                                  (Int.toNat
                                                    (IntKind.wrap IntKind.i64
                                                      (IntKind.wrap IntKind.i64 ((6 : Int) * (↑i : Int)) + (4 : Int))))
                                                  (0 : UInt8))) :
                                            Int) ==
                                          (1 : Int))),
                                    AV.imm
                                      (IV.int IntKind.u8
                                        (↑(UInt8.toNat
                                              (List.getD b
                                                (Int.toNat
                                                  (IntKind.wrap IntKind.i64
                                                    (IntKind.wrap IntKind.i64 ((6 : Int) * (↑i : Int)) + (5 : Int))))
                                                (0 : UInt8))) :
                                          Int))],
                                AV.full
                                  (IV.sl (3 : Nat)
                                    [[IV.int IntKind.i32
                                          (IntKind.wrap IntKind.i32
                                            (sgnN (Int.toNat (4 : Int))
                                              (uintP b (Int.toNat (IntKind.wrap IntKind.i64 ((6 : Int) * (↑i : Int))))
                                                (Int.toNat (4 : Int))))),
                                        IV.bool
                                          ((↑(UInt8.toNat
                                                  (List.getD b
                                                    (Int.toNat
                                                      (IntKind.wrap IntKind.i64
                                                        (IntKind.wrap IntKind.i64 ((6 : Int) * (↑i : Int)) +
                                                          (4 : Int))))
                                                    (0 : UInt8))) :
                                              Int) ==
                                            (1 : Int)),
                                        IV.int IntKind.u8
                                          (↑(UInt8.toNat
                                                (List.getD b
                                                  (Int.toNat
                                                    (IntKind.wrap IntKind.i64
                                                      (IntKind.wrap IntKind.i64 ((6 : Int) * (↑i : Int)) + (5 : Int))))
                                                  (0 : UInt8))) :
                                            Int)]]),
                                AV.row (0 : Nat) (1 : Nat), AV.dead]
                              [((0 : Nat),
                                  Ob.mk true (1 : Nat)
                                    (AObj.row
                                      (IV.sl (3 : Nat)
                                        (List.map cellsT L ++
                                          [[IV.int IntKind.i32
                                                (IntKind.wrap IntKind.i32
                                                  (sgnN (Int.toNat (4 : Int))
                                                    (uintP b
                                                      (Int.toNat (IntKind.wrap IntKind.i64 ((6 : Int) * (↑i : Int))))
                                                      (Int.toNat (4 : Int))))),
                                              IV.bool
                                                ((↑(UInt8.toNat
                                                        (List.getD b
                                                          (Int.toNat
                                                            (IntKind.wrap IntKind.i64
                                                              (IntKind.wrap IntKind.i64 ((6 : Int) * (↑i : Int)) +
                                                                (4 : Int))))
                                                          (0 : UInt8))) :
                                                    Int) ==
                                                  (1 : Int)),
                                              IV.int IntKind.u8
                                                (↑(UInt8.toNat
                                                      (List.getD b
                                                        (Int.toNat
                                                          (IntKind.wrap IntKind.i64
                                                            (IntKind.wrap IntKind.i64 ((6 : Int) * (↑i : Int)) +
                                                              (5 : Int))))
                                                        (0 : UInt8))) :
                                                  Int)]]))))]
                              (1 : Nat) []))
    (k (AX.exit (2 : Nat))
      (St.mk
        [AV.imm (IV.bytes b), AV.dead, AV.dead, AV.dead, AV.dead, AV.row (0 : Nat) (0 : Nat),
          AV.imm (IV.int IntKind.i64 (↑i : Int)), AV.dead, AV.dead, AV.dead, AV.dead, AV.dead, AV.dead, AV.dead,
          AV.dead, AV.dead, AV.dead, AV.dead, AV.dead, AV.dead, AV.dead, AV.dead, AV.dead,
          AV.imm (IV.int IntKind.i64 (↑i : Int)), AV.imm (IV.bytes b),
          AV.imm (IV.int IntKind.i64 (↑(List.length b) : Int)),
          AV.imm (IV.int IntKind.i64 (IntKind.wrap IntKind.i64 (Int.tdiv (↑(List.length b) : Int) (6 : Int)))),
          AV.imm
            (IV.bool (decide ((↑i : Int) < IntKind.wrap IntKind.i64 (Int.tdiv (↑(List.length b) : Int) (6 : Int))))),
          AV.dead, AV.dead, AV.dead, AV.dead, AV.dead, AV.dead, AV.dead, AV.dead, AV.dead, AV.dead, AV.dead, AV.dead,
          AV.dead, AV.dead, AV.dead, AV.dead, AV.dead, AV.dead, AV.dead, AV.dead, AV.dead, AV.dead, AV.dead, AV.dead,
          AV.dead, AV.dead, AV.dead, AV.dead, AV.dead]
        [((0 : Nat), Ob.mk true (0 : Nat) (AObj.row (IV.sl (3 : Nat) (List.map cellsT L))))] (1 : Nat)
        []))) := by kernel_rfl
theorem f8_in (b : List UInt8) (K : List AV → Prop) : evSpec C8 Tryd.f8 [AV.imm (IV.bytes b)] K =
  (LoopI C8 (bodyOf Tryd.f8) (0 : Nat)
  (St.mk
    [AV.imm (IV.bytes b), AV.dead, AV.full (IV.sl (3 : Nat) []), AV.imm (IV.bool false), AV.full (IV.sl (3 : Nat) []),
      AV.imm (IV.int IntKind.i64 (0 : Int)), AV.dead, AV.dead, AV.dead, AV.dead, AV.dead, AV.dead, AV.dead, AV.dead,
      AV.dead, AV.dead, AV.dead, AV.dead, AV.dead, AV.dead, AV.dead, AV.dead, AV.dead, AV.dead, AV.dead, AV.dead,
      AV.dead, AV.dead, AV.dead, AV.dead, AV.dead, AV.dead, AV.dead]
    [] (0 : Nat) [])
  (finK C8 Tryd.f8 K)) := by kernel_rfl
theorem f8_lp (b : List
  UInt8) (L : List Ty) (i : Nat) (k : AX → St → Prop) : evCode C8 (loopB (bodyOf Tryd.f8) (0 : Nat)) (h8 b L i) k =
  (brn (decide (IntKind.wrap IntKind.i64 ((↑i : Int) + (6 : Int)) ≤ (↑(List.length b) : Int)))
  ((0 : Int) ≤ (↑i : Int) ∧
    (↑i : Int) ≤ IntKind.wrap IntKind.i64 ((↑i : Int) + (6 : Int)) ∧
      IntKind.wrap IntKind.i64 ((↑i : Int) + (6 : Int)) ≤ (↑(List.length b) : Int) ∧
        (↑(List.length
                  (List.take (Int.toNat (IntKind.wrap IntKind.i64 ((↑i : Int) + (6 : Int))) - Int.toNat (↑i : Int))
                    (List.drop (Int.toNat (↑i : Int)) b))) :
              Int) ≤
            big ∧
          (0 : Int) ≤ (0 : Int) ∧
            (0 : Int) ≤ big ∧
              (1 : Int) ≤ (4 : Int) ∧
                (4 : Int) ≤ (8 : Int) ∧
                  (0 : Int) ≤ (4 : Int) ∧
                    (4 : Int) <
                        (↑(List.length
                              (List.take
                                (Int.toNat (IntKind.wrap IntKind.i64 ((↑i : Int) + (6 : Int))) - Int.toNat (↑i : Int))
                                (List.drop (Int.toNat (↑i : Int)) b))) :
                          Int) ∧
                      brn
                        (decide
                          ((↑(UInt8.toNat
                                  (List.getD
                                    (List.take
                                      (Int.toNat (IntKind.wrap IntKind.i64 ((↑i : Int) + (6 : Int))) -
                                        Int.toNat (↑i : Int))
                                      (List.drop (Int.toNat (↑i : Int)) b))
                                    (Int.toNat (4 : Int)) (0 : UInt8))) :
                              Int) >
                            (1 : Int)))
                        ((0 : Int) ≤ (4 : Int) ∧
                          (4 : Int) <
                              (↑(List.length
                                    (List.take
                                      (Int.toNat (IntKind.wrap IntKind.i64 ((↑i : Int) + (6 : Int))) -
                                        Int.toNat (↑i : Int))
                                      (List.drop (Int.toNat (↑i : Int)) b))) :
                                Int) ∧
                            (0 : Int) ≤ (0 : Int) ∧
                              (0 : Int) <
                                  (↑(List.length
                                        [[IV.iface (44 : Nat)
                                              (IV.int IntKind.u8
                                                (↑(UInt8.toNat
                                                      (List.getD
                                                        (List.take
                                                          (Int.toNat
                                                              (IntKind.wrap IntKind.i64 ((↑i : Int) + (6 : Int))) -
                                                            Int.toNat (↑i : Int))
                                                          (List.drop (Int.toNat (↑i : Int)) b))
                                                        (Int.toNat (4 : Int)) (0 : UInt8))) :
                                                  Int))]]) :
                                    Int) ∧
                                kcells
                                      (List.getD
                                        [[IV.iface (44 : Nat)
                                              (IV.int IntKind.u8
                                                (↑(UInt8.toNat
                                                      (List.getD
                                                        (List.take
                                                          (Int.toNat
                                                              (IntKind.wrap IntKind.i64 ((↑i : Int) + (6 : Int))) -
                                                            Int.toNat (↑i : Int))
                                                          (List.drop (Int.toNat (↑i : Int)) b))
                                                        (Int.toNat (4 : Int)) (0 : UInt8))) :
                                                  Int))]]
                                        (Int.toNat (0 : Int)) [])
                                      (0 : Nat) [CK.any] =
                                    List.getD
                                      [[IV.iface (44 : Nat)
                                            (IV.int IntKind.u8
                                              (↑(UInt8.toNat
                                                    (List.getD
                                                      (List.take
                                                        (Int.toNat (IntKind.wrap IntKind.i64 ((↑i : Int) + (6 : Int))) -
                                                          Int.toNat (↑i : Int))
                                                        (List.drop (Int.toNat (↑i : Int)) b))
                                                      (Int.toNat (4 : Int)) (0 : UInt8))) :
                                                Int))]]
                                      (Int.toNat (0 : Int)) [] ∧
                                  (0 : Int) ≤ (0 : Int) ∧
                                    (0 : Int) ≤ IntKind.wrap IntKind.i64 ((0 : Int) + (1 : Int)) ∧
                                      (↑(16 : Nat) : Int) * IntKind.wrap IntKind.i64 ((0 : Int) + (1 : Int)) ≤
                                          (140737488355328 : Int) ∧
                                        IntKind.wrap IntKind.i64 ((0 : Int) + (1 : Int)) ≤ (140737488355328 : Int) ∧
                                          (0 : Int) ≤ (0 : Int) ∧
                                            (0 : Int) <
                                                (↑(List.length
                                                      [[IV.iface (44 : Nat)
                                                            (IV.int IntKind.u8
                                                              (↑(UInt8.toNat
                                                                    (List.getD
                                                                      (List.take
                                                                        (Int.toNat
                                                                            (IntKind.wrap IntKind.i64
                                                                              ((↑i : Int) + (6 : Int))) -
                                                                          Int.toNat (↑i : Int))
                                                                        (List.drop (Int.toNat (↑i : Int)) b))
                                                                      (Int.toNat (4 : Int)) (0 : UInt8))) :
                                                                Int))]]) :
                                                  Int) ∧
                                              kcells
                                                    (List.getD
                                                      [[IV.iface (44 : Nat)
                                                            (IV.int IntKind.u8
                                                              (↑(UInt8.toNat
                                                                    (List.getD
                                                                      (List.take
                                                                        (Int.toNat
                                                                            (IntKind.wrap IntKind.i64
                                                                              ((↑i : Int) + (6 : Int))) -
                                                                          Int.toNat (↑i : Int))
                                                                        (List.drop (Int.toNat (↑i : Int)) b))
                                                                      (Int.toNat (4 : Int)) (0 : UInt8))) :
                                                                Int))]]
                                                      (Int.toNat (0 : Int)) [])
                                                    (0 : Nat) [CK.any] =
                                                  List.getD
                                                    [[IV.iface (44 : Nat)
                                                          (IV.int IntKind.u8
                                                            (↑(UInt8.toNat
                                                                  (List.getD
                                                                    (List.take
                                                                      (Int.toNat
                                                                          (IntKind.wrap IntKind.i64
                                                                            ((↑i : Int) + (6 : Int))) -
                                                                        Int.toNat (↑i : Int))
                                                                      (List.drop (Int.toNat (↑i : Int)) b))
                                                                    (Int.toNat (4 : Int)) (0 : UInt8))) :
                                                              Int))]]
                                                    (Int.toNat (0 : Int)) [] ∧
                                                (List.length
                                                          (List.replicate (Int.toNat (0 : Int))
                                                            [IV.val Value.nilIface]) +
                                                        List.length
                                                          [[kcell CK.any
                                                                (ivNth
                                                                  (List.getD
                                                                    [[IV.iface (44 : Nat)
                                                                          (IV.int IntKind.u8
                                                                            (↑(UInt8.toNat
                                                                                  (List.getD
                                                                                    (List.take
                                                                                      (Int.toNat
                                                                                          (IntKind.wrap IntKind.i64
                                                                                            ((↑i : Int) + (6 : Int))) -
                                                                                        Int.toNat (↑i : Int))
                                                                                      (List.drop (Int.toNat (↑i : Int))
                                                                                        b))
                                                                                    (Int.toNat (4 : Int))
                                                                                    (0 : UInt8))) :
                                                                              Int))]]
                                                                    (Int.toNat (0 : Int)) [])
                                                                  (0 : Nat))]]) *
                                                      (16 : Nat) ≤
                                                    (140737488355328 : Nat) ∧
                                                  List.length
                                                          (List.replicate (Int.toNat (0 : Int))
                                                            [IV.val Value.nilIface]) +
                                                        List.length
                                                          [[kcell CK.any
                                                                (ivNth
                                                                  (List.getD
                                                                    [[IV.iface (44 : Nat)
                                                                          (IV.int IntKind.u8
                                                                            (↑(UInt8.toNat
                                                                                  (List.getD
                                                                                    (List.take
                                                                                      (Int.toNat
                                                                                          (IntKind.wrap IntKind.i64
                                                                                            ((↑i : Int) + (6 : Int))) -
                                                                                        Int.toNat (↑i : Int))
                                                                                      (List.drop (Int.toNat (↑i : Int))
                                                                                        b))
                                                                                    (Int.toNat (4 : Int))
                                                                                    (0 : UInt8))) :
                                                                              Int))]]
                                                                    (Int.toNat (0 : Int)) [])
                                                                  (0 : Nat))]] ≤
                                                      (140737488355328 : Nat) ∧
                                                    k AX.ret
                                                      (St.mk
                                                        [AV.imm (IV.bytes b), AV.dead, AV.full (IV.sl (3 : Nat) []),
                                                          AV.imm (IV.bool false), AV.row (0 : Nat) (0 : Nat),
                                                          AV.imm (IV.int IntKind.i64 (↑i : Int)),
                                                          AV.ptr (4 : Nat) (0 : Nat),
                                                          AV.ifc (69 : Nat) (AV.ptr (3 : Nat) (0 : Nat)),
                                                          AV.ptr (5 : Nat) (0 : Nat),
                                                          AV.imm (IV.int IntKind.i64 (↑i : Int)),
                                                          AV.imm
                                                            (IV.int IntKind.i64
                                                              (IntKind.wrap IntKind.i64 ((↑i : Int) + (6 : Int)))),
                                                          AV.imm (IV.bytes b),
                                                          AV.imm (IV.int IntKind.i64 (↑(List.length b) : Int)),
                                                          AV.imm
                                                            (IV.bool
                                                              (decide
                                                                (IntKind.wrap IntKind.i64 ((↑i : Int) + (6 : Int)) ≤
                                                                  (↑(List.length b) : Int)))),
                                                          AV.dead, AV.dead,
                                                          AV.tup
                                                            [AV.agg
                                                                [AV.imm (IV.int IntKind.i32 (0 : Int)),
                                                                  AV.imm (IV.bool false),
                                                                  AV.imm (IV.int IntKind.u8 (0 : Int))],
                                                              AV.ifc (69 : Nat) (AV.ptr (3 : Nat) (0 : Nat))],
                                                          AV.imm (IV.bytes b), AV.imm (IV.int IntKind.i64 (↑i : Int)),
                                                          AV.imm (IV.int IntKind.i64 (↑i : Int)),
                                                          AV.imm
                                                            (IV.int IntKind.i64
                                                              (IntKind.wrap IntKind.i64 ((↑i : Int) + (6 : Int)))),
                                                          AV.imm
                                                            (IV.bytes
                                                              (List.take
                                                                (Int.toNat
                                                                    (IntKind.wrap IntKind.i64
                                                                      ((↑i : Int) + (6 : Int))) -
                                                                  Int.toNat (↑i : Int))
                                                                (List.drop (Int.toNat (↑i : Int)) b))),
                                                          AV.tup
                                                            [AV.agg
                                                                [AV.imm (IV.int IntKind.i32 (0 : Int)),
                                                                  AV.imm (IV.bool false),
                                                                  AV.imm (IV.int IntKind.u8 (0 : Int))],
                                                              AV.ifc (69 : Nat) (AV.ptr (3 : Nat) (0 : Nat))],
                                                          AV.agg
                                                            [AV.imm (IV.int IntKind.i32 (0 : Int)),
                                                              AV.imm (IV.bool false),
                                                              AV.imm (IV.int IntKind.u8 (0 : Int))],
                                                          AV.ifc (69 : Nat) (AV.ptr (3 : Nat) (0 : Nat)),
                                                          AV.ifc (69 : Nat) (AV.ptr (3 : Nat) (0 : Nat)),
                                                          AV.ifc (46 : Nat) (AV.ptr (5 : Nat) (0 : Nat)),
                                                          AV.imm (IV.bool true), AV.dead, AV.dead, AV.dead, AV.dead,
                                                          AV.dead]
                                                        [((0 : Nat),
                                                            Ob.mk true (0 : Nat)
                                                              (AObj.row (IV.sl (3 : Nat) (List.map cellsT L)))),
                                                          ((1 : Nat),
                                                            Ob.mk true (0 : Nat)
                                                              (AObj.cells
                                                                [AV.imm (IV.int IntKind.i32 (0 : Int)),
                                                                  AV.imm (IV.bool false),
                                                                  AV.imm (IV.int IntKind.u8 (0 : Int))])),
                                                          ((2 : Nat),
                                                            Ob.mk true (1 : Nat)
                                                              (AObj.row
                                                                (IV.sl (1 : Nat)
                                                                  [[IV.iface (44 : Nat)
                                                                        (IV.int IntKind.u8
                                                                          (↑(UInt8.toNat
                                                                                (List.getD
                                                                                  (List.take
                                                                                    (Int.toNat
                                                                                        (IntKind.wrap IntKind.i64
                                                                                          ((↑i : Int) + (6 : Int))) -
                                                                                      Int.toNat (↑i : Int))
                                                                                    (List.drop (Int.toNat (↑i : Int))
                                                                                      b))
                                                                                  (Int.toNat (4 : Int)) (0 : UInt8))) :
                                                                            Int))]]))),
                                                          ((3 : Nat),
                                                            Ob.mk true (0 : Nat)
                                                              (AObj.cells [AV.row (2 : Nat) (1 : Nat)])),
                                                          ((4 : Nat),
                                                            Ob.mk true (0 : Nat)
                                                              (AObj.cells
                                                                [AV.imm (IV.int IntKind.i32 (0 : Int)),
                                                                  AV.imm (IV.bool false),
                                                                  AV.imm (IV.int IntKind.u8 (0 : Int))])),
                                                          ((5 : Nat),
                                                            Ob.mk true (0 : Nat)
                                                              (AObj.cells
                                                                [AV.imm
                                                                    (IV.int IntKind.u8
                                                                      (↑(UInt8.toNat
                                                                            (List.getD
                                                                              (List.take
                                                                                (Int.toNat
                                                                                    (IntKind.wrap IntKind.i64
                                                                                      ((↑i : Int) + (6 : Int))) -
                                                                                  Int.toNat (↑i : Int))
                                                                                (List.drop (Int.toNat (↑i : Int)) b))
                                                                              (Int.toNat (4 : Int)) (0 : UInt8))) :
                                                                        Int))]))]
                                                        (6 : Nat) []))
                        ((0 : Int) ≤ (4 : Int) ∧
                          (4 : Int) <
                              (↑(List.length
                                    (List.take
                                      (Int.toNat (IntKind.wrap IntKind.i64 ((↑i : Int) + (6 : Int))) -
                                        Int.toNat (↑i : Int))
                                      (List.drop (Int.toNat (↑i : Int)) b))) :
                                Int) ∧
                            (0 : Int) ≤ (5 : Int) ∧
                              (5 : Int) <
                                  (↑(List.length
                                        (List.take
                                          (Int.toNat (IntKind.wrap IntKind.i64 ((↑i : Int) + (6 : Int))) -
                                            Int.toNat (↑i : Int))
                                          (List.drop (Int.toNat (↑i : Int)) b))) :
                                    Int) ∧
                                (List.length (List.map cellsT L) +
                                        List.length
                                          [[IV.int IntKind.i32
                                                (IntKind.wrap IntKind.i32
                                                  (sgnN (Int.toNat (4 : Int))
                                                    (uintP
                                                      (List.take
                                                        (Int.toNat (IntKind.wrap IntKind.i64 ((↑i : Int) + (6 : Int))) -
                                                          Int.toNat (↑i : Int))
                                                        (List.drop (Int.toNat (↑i : Int)) b))
                                                      (Int.toNat (0 : Int)) (Int.toNat (4 : Int))))),
                                              IV.bool
                                                ((↑(UInt8.toNat
                                                        (List.getD
                                                          (List.take
                                                            (Int.toNat
                                                                (IntKind.wrap IntKind.i64 ((↑i : Int) + (6 : Int))) -
                                                              Int.toNat (↑i : Int))
                                                            (List.drop (Int.toNat (↑i : Int)) b))
                                                          (Int.toNat (4 : Int)) (0 : UInt8))) :
                                                    Int) ==
                                                  (1 : Int)),
                                              IV.int IntKind.u8
                                                (↑(UInt8.toNat
                                                      (List.getD
                                                        (List.take
                                                          (Int.toNat
                                                              (IntKind.wrap IntKind.i64 ((↑i : Int) + (6 : Int))) -
                                                            Int.toNat (↑i : Int))
                                                          (List.drop (Int.toNat (↑i : Int)) b))
                                                        (Int.toNat (5 : Int)) (0 : UInt8))) :
                                                  Int)]]) *
                                      (8 : Nat) ≤
                                    (140737488355328 : Nat) ∧
                                  List.length (List.map cellsT L) +
                                        List.length
                                          [[IV.int IntKind.i32
                                                (IntKind.wrap IntKind.i32
                                                  (sgnN (Int.toNat (4 : Int))
                                                    (uintP
                                                      (List.take
                                                        (Int.toNat (IntKind.wrap IntKind.i64 ((↑i : Int) + (6 : Int))) -
                                                          Int.toNat (↑i : Int))
                                                        (List.drop (Int.toNat (↑i : Int)) b))
                                                      (Int.toNat (0 : Int)) (Int.toNat (4 : Int))))),
                                              IV.bool
                                                ((↑(UInt8.toNat
                                                        (List.getD
                                                          (List.take
                                                            (Int.toNat
                                                                (IntKind.wrap IntKind.i64 ((↑i : Int) + (6 : Int))) -
                                                              Int.toNat (↑i : Int))
                                                            (List.drop (Int.toNat (↑i : Int)) b))
                                                          (Int.toNat (4 : Int)) (0 : UInt8))) :
                                                    Int) ==
                                                  (1 : Int)),
                                              IV.int IntKind.u8
                                                (↑(UInt8.toNat
                                                      (List.getD
                                                        (List.take
                                                          (Int.toNat
                                                              (IntKind.wrap IntKind.i64 ((↑i : Int) + (6 : Int))) -
                                                            Int.toNat (↑i : Int))
                                                          (List.drop (Int.toNat (↑i : Int)) b))
                                                        (Int.toNat (5 : Int)) (0 : UInt8))) :
                                                  Int)]] ≤
                                      (140737488355328 : Nat) ∧
                                    k AX.normal
                                      (St.mk
                                        [AV.imm (IV.bytes b), AV.dead, AV.dead, AV.dead, AV.row (0 : Nat) (1 : Nat),
                                          AV.imm
                                            (IV.int IntKind.i64 (IntKind.wrap IntKind.i64 ((↑i : Int) + (6 : Int)))),
                                          AV.ptr (2 : Nat) (0 : Nat), AV.imm (IV.val Value.nilIface),
                                          AV.ptr (3 : Nat) (0 : Nat), AV.imm (IV.int IntKind.i64 (↑i : Int)),
                                          AV.imm
                                            (IV.int IntKind.i64 (IntKind.wrap IntKind.i64 ((↑i : Int) + (6 : Int)))),
                                          AV.imm (IV.bytes b), AV.imm (IV.int IntKind.i64 (↑(List.length b) : Int)),
                                          AV.imm
                                            (IV.bool
                                              (decide
                                                (IntKind.wrap IntKind.i64 ((↑i : Int) + (6 : Int)) ≤
                                                  (↑(List.length b) : Int)))),
                                          AV.imm (IV.int IntKind.i64 (↑i : Int)),
                                          AV.imm
                                            (IV.int IntKind.i64 (IntKind.wrap IntKind.i64 ((↑i : Int) + (6 : Int)))),
                                          AV.tup
                                            [AV.agg
                                                [AV.imm
                                                    (IV.int IntKind.i32
                                                      (IntKind.wrap IntKind.i32
                                                        (sgnN (Int.toNat (4 : Int))
                                                          (uintP
                                                            (List.take
                                                              (Int.toNat
                                                                  (IntKind.wrap IntKind.i64 ((↑i : Int) + (6 : Int))) -
                                                                Int.toNat (↑i : Int))
                                                              (List.drop (Int.toNat (↑i : Int)) b))
                                                            (Int.toNat (0 : Int)) (Int.toNat (4 : Int)))))),
                                                  AV.imm
                                                    (IV.bool
                                                      ((↑(UInt8.toNat
                                                              (List.getD
                                                                (List.take
                                                                  (Int.toNat
                                                                      (IntKind.wrap IntKind.i64
                                                                        ((↑i : Int) + (6 : Int))) -
                                                                    Int.toNat (↑i : Int))
                                                                  (List.drop (Int.toNat (↑i : Int)) b))
                                                                (Int.toNat (4 : Int)) (0 : UInt8))) :
                                                          Int) ==
                                                        (1 : Int))),
                                                  AV.imm
                                                    (IV.int IntKind.u8
                                                      (↑(UInt8.toNat
                                                            (List.getD
                                                              (List.take
                                                                (Int.toNat
                                                                    (IntKind.wrap IntKind.i64
                                                                      ((↑i : Int) + (6 : Int))) -
                                                                  Int.toNat (↑i : Int))
                                                                (List.drop (Int.toNat (↑i : Int)) b))
                                                              (Int.toNat (5 : Int)) (0 : UInt8))) :
                                                        Int))],
                                              AV.imm (IV.val Value.nilIface)],
                                          AV.imm (IV.bytes b), AV.imm (IV.int IntKind.i64 (↑i : Int)),
                                          AV.imm (IV.int IntKind.i64 (↑i : Int)),
                                          AV.imm
                                            (IV.int IntKind.i64 (IntKind.wrap IntKind.i64 ((↑i : Int) + (6 : Int)))),
                                          AV.imm
                                            (IV.bytes
                                              (List.take
                                                (Int.toNat (IntKind.wrap IntKind.i64 ((↑i : Int) + (6 : Int))) -
                                                  Int.toNat (↑i : Int))
                                                (List.drop (Int.toNat (↑i : Int)) b))),
                                          AV.tup
                                            [AV.agg
                                                [AV.imm
                                                    (IV.int IntKind.i32
                                                      (IntKind.wrap IntKind.i32
                                                        (sgnN (Int.toNat (4 : Int))
                                                          (uintP
                                                            (List.take
                                                              (Int.toNat
                                                                  (IntKind.wrap IntKind.i64 ((↑i : Int) + (6 : Int))) -
                                                                Int.toNat (↑i : Int))
                                                              (List.drop (Int.toNat (↑i : Int)) b))
                                                            (Int.toNat (0 : Int)) (Int.toNat (4 : Int)))))),
                                                  AV.imm
                                                    (IV.bool
                                                      ((↑(UInt8.toNat
                                                              (List.getD
                                                                (List.take
                                                                  (Int.toNat
                                                                      (IntKind.wrap IntKind.i64
                                                                        ((↑i : Int) + (6 : Int))) -
                                                                    Int.toNat (↑i : Int))
                                                                  (List.drop (Int.toNat (↑i : Int)) b))
                                                                (Int.toNat (4 : Int)) (0 : UInt8))) :
                                                          Int) ==
                                                        (1 : Int))),
                                                  AV.imm
                                                    (IV.int IntKind.u8
                                                      (↑(UInt8.toNat
                                                            (List.getD
                                                              (List.take
                                                                (Int.toNat
                                                                    (IntKind.wrap IntKind.i64
                                                                      ((↑i : Int) + (6 : Int))) -
                                                                  Int.toNat (↑i : Int))
                                                                (List.drop (Int.toNat (↑i : Int)) b))
                                                              (Int.toNat (5 : Int)) (0 : UInt8))) :
                                                        Int))],
                                              AV.imm (IV.val Value.nilIface)],
                                          AV.agg
                                            [AV.imm
                                                (IV.int IntKind.i32
                                                  (IntKind.wrap IntKind.i32
                                                    (sgnN (Int.toNat (4 : Int))
                                                      (uintP
                                                        (List.take
                                                          (Int.toNat
                                                              (IntKind.wrap IntKind.i64 ((↑i : Int) + (6 : Int))) -
                                                            Int.toNat (↑i : Int))
                                                          (List.drop (Int.toNat (↑i : Int)) b))
                                                        (Int.toNat (0 : Int)) (Int.toNat (4 : Int)))))),
                                              AV.imm
                                                (IV.bool
                                                  ((↑(UInt8.toNat
                                                          (List.getD
                                                            (List.take
                                                              (Int.toNat
                                                                  (IntKind.wrap IntKind.i64 ((↑i : Int) + (6 : Int))) -
                                                                Int.toNat (↑i : Int))
                                                              (List.drop (Int.toNat (↑i : Int)) b))
                                                            (Int.toNat (4 : Int)) (0 : UInt8))) :
                                                      Int) ==
                                                    (1 : Int))),
                                              AV.imm
                                                (IV.int IntKind.u8
                                                  (↑(UInt8.toNat
                                                        (List.getD
                                                          (List.take
                                                            (Int.toNat
                                                                (IntKind.wrap IntKind.i64 ((↑i : Int) + (6 : Int))) -
                                                              Int.toNat (↑i : Int))
                                                            (List.drop (Int.toNat (↑i : Int)) b))
                                                          (Int.toNat (5 : Int)) (0 : UInt8))) :
                                                    Int))],
                                          AV.imm (IV.val Value.nilIface), AV.imm (IV.val Value.nilIface),
                                          AV.ifc (46 : Nat) (AV.ptr (3 : Nat) (0 : Nat)), AV.imm (IV.bool false),
                                          AV.row (0 : Nat) (0 : Nat),
                                          AV.agg
                                            [AV.imm
                                                (IV.int IntKind.i32
                                                  (IntKind.wrap IntKind.i32
                                                    (sgnN (Int.toNat (4 : Int))
                                                      (uintP
                                                        (List.take
                                                          (Int.toNat
                                                              (IntKind.wrap IntKind.i64 ((↑i : Int) + (6 : Int))) -
                                                            Int.toNat (↑i : Int))
                                                          (List.drop (Int.toNat (↑i : Int)) b))
                                                        (Int.toNat (0 : Int)) (Int.toNat (4 : Int)))))),
                                              AV.imm
                                                (IV.bool
                                                  ((↑(UInt8.toNat
                                                          (List.getD
                                                            (List.take
                                                              (Int.toNat
                                                                  (IntKind.wrap IntKind.i64 ((↑i : Int) + (6 : Int))) -
                                                                Int.toNat (↑i : Int))
                                                              (List.drop (Int.toNat (↑i : Int)) b))
                                                            (Int.toNat (4 : Int)) (0 : UInt8))) :
                                                      Int) ==
                                                    (1 : Int))),
                                              AV.imm
                                                (IV.int IntKind.u8
                                                  (↑(UInt8.toNat
                                                        (List.getD
                                                          (List.take
                                                            (Int.toNat
                                                                (IntKind.wrap IntKind.i64 ((↑i : Int) + (6 : Int))) -
                                                              Int.toNat (↑i : Int))
                                                            (List.drop (Int.toNat (↑i : Int)) b))
                                                          (Int.toNat (5 : Int)) (0 : UInt8))) :
                                                    Int))],
                                          AV.full
                                            (IV.sl (3 : Nat)
                                              [[IV.int IntKind.i32
                                                    (IntKind.wrap IntKind.i32
                                                      (sgnN (Int.toNat (4 : Int))
                                                        (uintP
                                                          (List.take
                                                            (Int.toNat
                                                                (IntKind.wrap IntKind.i64 ((↑i : Int) + (6 : Int))) -
                                                              Int.toNat (↑i : Int))
                                                            (List.drop (Int.toNat (↑i : Int)) b))
                                                          (Int.toNat (0 : Int)) (Int.toNat (4 : Int))))),
                                                  IV.bool
                                                    ((↑(UInt8.toNat
                                                            (List.getD
                                                              (List.take
                                                                (Int.toNat
                                                                    (IntKind.wrap IntKind.i64
                                                                      ((↑i : Int) + (6 : Int))) -
                                                                  Int.toNat (↑i : Int))
                                                                (List.drop (Int.toNat (↑i : Int)) b))
                                                              (Int.toNat (4 : Int)) (0 : UInt8))) :
                                                        Int) ==
                                                      (1 : Int)),
                                                  IV.int IntKind.u8
                                                    (↑(UInt8.toNat
                                                          (List.getD
                                                            (List.take
                                                              (Int.toNat
                                                                  (IntKind.wrap IntKind.i64 ((↑i : Int) + (6 : Int))) -
                                                                Int.toNat (↑i : Int))
                                                              (List.drop (Int.toNat (↑i : Int)) b))
                                                            (Int.toNat (5 : Int)) (0 : UInt8))) :
                                                      Int)]]),
                                          AV.row (0 : Nat) (1 : Nat), AV.dead]
                                        [((0 : Nat),
                                            Ob.mk true (1 : Nat)
                                              (AObj.row
                                                (IV.sl (3 : Nat)
                                                  (List.map cellsT L ++
                                                    [[IV.int IntKind.i32
                                                          (IntKind.wrap IntKind.i32
                                                            (sgnN (Int.toNat (4 : Int))
                                                              (uintP
                                                                (List.take
                                                                  (Int.toNat
                                                                      (IntKind.wrap IntKind.i64
                                                                        ((↑i : Int) + (6 : Int))) -
                                                                    Int.toNat (↑i : Int))
                                                                  (List.drop (Int.toNat (↑i : Int)) b))
                                                                (Int.toNat (0 : Int)) (Int.toNat (4 : Int))))),
                                                        IV.bool
                                                          ((↑(UInt8.toNat
                                                                  (List.getD
                                                                    (List.take
                                                                      (Int.toNat
                                                                          (IntKind.wrap IntKind.i64
                                                                            ((↑i : Int) + (6 : Int))) -
                                                                        Int.toNat (↑i : Int))
                                                                      (List.drop (Int.toNat (↑i : Int)) b))
                                                                    (Int.toNat (4 : Int)) (0 : UInt8))) :
                                                              Int) ==
                                                            (1 : Int)),
                                                        IV.int IntKind.u8
                                                          (↑(UInt8.toNat
                                                                (List.getD
                                                                  (List.take
                                                                    (Int.toNat
                                                                        (IntKind.wrap IntKind.i64
                                                                          ((↑i : Int) + (6 : Int))) -
                                                                      Int.toNat (↑i : Int))
                                                                    (List.drop (Int.toNat (↑i : Int)) b))
                                                                  (Int.toNat (5 : Int)) (0 : UInt8))) :
                                                            Int)]])))),
                                          ((1 : Nat),
                                            Ob.mk true (0 : Nat)
                                              (AObj.cells
                                                [AV.imm
                                                    (IV.int IntKind.i32
                                                      (IntKind.wrap IntKind.i32
                                                        (sgnN (Int.toNat (4 : Int))
                                                          (uintP
                                                            (List.take
                                                              (Int.toNat
                                                                  (IntKind.wrap IntKind.i64 ((↑i : Int) + (6 : Int))) -
                                                                Int.toNat (↑i : Int))
                                                              (List.drop (Int.toNat (↑i : Int)) b))
                                                            (Int.toNat (0 : Int)) (Int.toNat (4 : Int)))))),
                                                  AV.imm
                                                    (IV.bool
                                                      ((↑(UInt8.toNat
                                                              (List.getD
                                                                (List.take
                                                                  (Int.toNat
                                                                      (IntKind.wrap IntKind.i64
                                                                        ((↑i : Int) + (6 : Int))) -
                                                                    Int.toNat (↑i : Int))
                                                                  (List.drop (Int.toNat (↑i : Int)) b))
                                                                (Int.toNat (4 : Int)) (0 : UInt8))) :
                                                          Int) ==
                                                        (1 : Int))),
                                                  AV.imm
                                                    (IV.int IntKind.u8
                                                      (↑(UInt8.toNat
                                                            (List.getD
                                                              (List.take
                                                                (Int.toNat
                                                                    (IntKind.wrap IntKind.i64
                                                                      ((↑i : Int) + (6 : Int))) -
                                                                  Int.toNat (↑i : Int))
                                                                (List.drop (Int.toNat (↑i : Int)) b))
                                                              (Int.toNat (5 : Int)) (0 : UInt8))) :
                                                        Int))])),
                                          ((2 : Nat),
                                            Ob.mk true (0 : Nat)
                                              (AObj.cells
                                                [AV.imm
                                                    (IV.int IntKind.i32
                                                      (IntKind.wrap IntKind.i32
                                                        (sgnN (Int.toNat (4 : Int))
                                                          (uintP
                                                            (List.take
                                                              (Int.toNat
                                                                  (IntKind.wrap IntKind.i64 ((↑i : Int) + (6 : Int))) -
                                                                Int.toNat (↑i : Int))
                                                              (List.drop (Int.toNat (↑i : Int)) b))
                                                            (Int.toNat (0 : Int)) (Int.toNat (4 : Int)))))),
                                                  AV.imm
                                                    (IV.bool
                                                      ((↑(UInt8.toNat
                                                              (List.getD
                                                                (List.take
                                                                  (Int.toNat
                                                                      (IntKind.wrap IntKind.i64
                                                                        ((↑i : Int) + (6 : Int))) -
                                                                    Int.toNat (↑i : Int))
                                                                  (List.drop (Int.toNat (↑i : Int)) b))
                                                                (Int.toNat (4 : Int)) (0 : UInt8))) :
                                                          Int) ==
                                                        (1 : Int))),
                                                  AV.imm
                                                    (IV.int IntKind.u8
                                                      (↑(UInt8.toNat
                                                            (List.getD
                                                              (List.take
                                                                (Int.toNat
                                                                    (IntKind.wrap IntKind.i64
                                                                      ((↑i : Int) + (6 : Int))) -
                                                                  Int.toNat (↑i : Int))
                                                                (List.drop (Int.toNat (↑i : Int)) b))
                                                              (Int.toNat (5 : Int)) (0 : UInt8))) :
                                                        Int))])),
                                          ((3 : Nat),
                                            Ob.mk true (0 : Nat) (AObj.cells [AV.imm (IV.int IntKind.u8 (0 : Int))]))]
                                        (4 : Nat) [])))
  (k (AX.exit (0 : Nat))
    (St.mk
      [AV.imm (IV.bytes b), AV.dead, AV.dead, AV.dead, AV.row (0 : Nat) (0 : Nat),
        AV.imm (IV.int IntKind.i64 (↑i : Int)), AV.dead, AV.dead, AV.dead, AV.imm (IV.int IntKind.i64 (↑i : Int)),
        AV.imm (IV.int IntKind.i64 (IntKind.wrap IntKind.i64 ((↑i : Int) + (6 : Int)))), AV.imm (IV.bytes b),
        AV.imm (IV.int IntKind.i64 (↑(List.length b) : Int)),
        AV.imm (IV.bool (decide (IntKind.wrap IntKind.i64 ((↑i : Int) + (6 : Int)) ≤ (↑(List.length b) : Int)))),
        AV.dead, AV.dead, AV.dead, AV.dead, AV.dead, AV.dead, AV.dead, AV.dead, AV.dead, AV.dead, AV.dead, AV.dead,
        AV.dead, AV.dead, AV.dead, AV.dead, AV.dead, AV.dead, AV.dead]
      [((0 : Nat), Ob.mk true (0 : Nat) (AObj.row (IV.sl (3 : Nat) (List.map cellsT L))))] (1 : Nat)
      []))) := by kernel_rfl
end Z16

set_option maxRecDepth 100000
namespace Z16
open Go Go.AE Go.Proofs
attribute [local irreducible] loopK evCode evSpec loopB norm
theorem f22_out (b : List
  UInt8) (n : Int) (v : Int) (own : Bool) (l : List
  UInt8) (i : Nat) (K : List AV →
  Prop) : loopK C0 (bodyOf Tryd.f22) (0 : Nat) (finK C0 Tryd.f22 K) (AX.exit (0 : Nat))
  (St.mk
    [AV.imm (IV.bytes b), AV.imm (IV.int IntKind.i64 n), AV.imm (IV.int IntKind.u64 v), AV.dead, AV.dead, AV.dead,
      AV.dead, AV.row (0 : Nat) (0 : Nat), AV.imm (IV.int IntKind.i64 (↑i : Int)), AV.dead,
      AV.imm (IV.int IntKind.i64 (↑i : Int)), AV.imm (IV.int IntKind.i64 n), AV.imm (IV.bool (decide ((↑i : Int) < n))),
      AV.dead, AV.dead, AV.dead, AV.dead, AV.dead, AV.dead, AV.dead, AV.dead, AV.dead, AV.dead, AV.dead, AV.dead,
      AV.dead, AV.dead, AV.dead]
    [((0 : Nat), Ob.mk own (0 : Nat) (AObj.row (IV.bytes l)))] (1 : Nat) []) =
  ((List.length (List.map u8 []) + List.length b) * (1 : Nat) ≤ (140737488355328 : Nat) ∧
  List.length (List.map u8 []) + List.length b ≤ (140737488355328 : Nat) ∧
    (List.length (List.map u8 [] ++ b) + List.length l) * (1 : Nat) ≤ (140737488355328 : Nat) ∧
      List.length (List.map u8 [] ++ b) + List.length l ≤ (140737488355328 : Nat) ∧
        K [AV.new (IV.bytes (List.map u8 [] ++ b ++ l))]) := by kernel_rfl
theorem f9_out (b : List
  UInt8) (i : Nat) (K : List AV →
  Prop) : loopK C2 (bodyOf Tryd.f9) (0 : Nat) (finK C2 Tryd.f9 K) (AX.exit (0 : Nat))
  (St.mk
    (let y :=
      let y :=
        let y :=
          let y := [AV.dead, AV.dead, AV.dead, AV.dead];
          AV.dead :: AV.dead :: AV.dead :: AV.dead :: y;
        AV.dead :: AV.dead :: AV.dead :: AV.dead :: AV.dead :: AV.dead :: AV.dead :: y;
      let y := AV.dead :: AV.dead :: AV.dead :: AV.dead :: AV.dead :: AV.dead :: AV.dead :: y;
      AV.dead :: AV.dead :: AV.dead :: AV.dead :: AV.dead :: AV.dead :: AV.dead :: y;
    let y :=
      let y := AV.dead :: AV.dead :: AV.dead :: AV.dead :: AV.dead :: AV.dead :: AV.dead :: y;
      AV.dead :: AV.dead :: AV.dead :: AV.dead :: AV.dead :: AV.dead :: AV.dead :: y;
    let y :=
      AV.dead ::
        AV.dead ::
          AV.imm (IV.int IntKind.i64 (↑i : Int)) ::
            AV.imm (IV.bytes b) ::
              AV.imm (IV.int IntKind.i64 (↑(List.length b) : Int)) ::
                AV.imm (IV.int IntKind.i64 (IntKind.wrap IntKind.i64 (Int.tdiv (↑(List.length b) : Int) (6 : Int)))) ::
                  AV.imm
                      (IV.bool
                        (decide
                          ((↑i : Int) < IntKind.wrap IntKind.i64 (Int.tdiv (↑(List.length b) : Int) (6 : Int))))) ::
                    y;
    AV.imm (IV.bytes b) ::
      AV.dead :: AV.dead :: AV.dead :: AV.imm (IV.int IntKind.i64 (↑i : Int)) :: AV.dead :: AV.dead :: y)
    [] (0 : Nat) []) =
  (LoopI C2 (bodyOf Tryd.f9) (1 : Nat)
  (St.mk
    [AV.imm (IV.bytes b), AV.dead, AV.dead, AV.dead, AV.imm (IV.int IntKind.i64 (↑i : Int)),
      AV.full (IV.sl (3 : Nat) []), AV.imm (IV.int IntKind.i64 (0 : Int)), AV.dead, AV.dead,
      AV.imm (IV.int IntKind.i64 (↑i : Int)), AV.imm (IV.bytes b), AV.imm (IV.int IntKind.i64 (↑(List.length b) : Int)),
      AV.imm (IV.int IntKind.i64 (IntKind.wrap IntKind.i64 (Int.tdiv (↑(List.length b) : Int) (6 : Int)))),
      AV.imm (IV.bool (decide ((↑i : Int) < IntKind.wrap IntKind.i64 (Int.tdiv (↑(List.length b) : Int) (6 : Int))))),
      AV.dead, AV.dead, AV.dead, AV.dead, AV.dead, AV.dead, AV.dead, AV.dead, AV.dead, AV.dead, AV.dead, AV.dead,
      AV.dead, AV.dead, AV.dead, AV.dead, AV.dead, AV.dead, AV.dead, AV.dead, AV.dead, AV.dead, AV.dead, AV.dead,
      AV.dead, AV.dead, AV.dead, AV.dead, AV.dead, AV.dead, AV.dead, AV.dead, AV.dead, AV.dead, AV.dead, AV.dead,
      AV.dead, AV.dead, AV.dead, AV.dead, AV.dead, AV.dead, AV.dead]
    [] (0 : Nat) [])
  (finK C2 Tryd.f9 K)) := by kernel_rfl
theorem f15_out (xs : List
  (List
    IV)) (n : Int) (i : Nat) (K : List AV →
  Prop) : loopK C0 (bodyOf Tryd.f15) (0 : Nat) (finK C0 Tryd.f15 K) (AX.exit (0 : Nat))
  (St.mk
    (let y :=
      let y :=
        let y := [AV.dead, AV.dead, AV.dead, AV.dead, AV.dead];
        AV.dead :: AV.dead :: AV.dead :: AV.dead :: y;
      let y := AV.dead :: AV.dead :: AV.dead :: AV.dead :: y;
      AV.dead :: AV.dead :: AV.dead :: AV.dead :: y;
    let y :=
      let y := AV.dead :: AV.dead :: AV.dead :: AV.dead :: y;
      AV.imm (IV.sl (3 : Nat) xs) ::
        AV.imm (IV.int IntKind.i64 (↑(List.length xs) : Int)) ::
          AV.imm (IV.bool (decide ((↑i : Int) < (↑(List.length xs) : Int)))) :: AV.dead :: y;
    let y :=
      AV.dead :: AV.imm (IV.int IntKind.i64 (↑i : Int)) :: AV.dead :: AV.imm (IV.int IntKind.i64 (↑i : Int)) :: y;
    AV.imm (IV.sl (3 : Nat) xs) :: AV.imm (IV.int IntKind.i64 n) :: AV.dead :: AV.dead :: y)
    [] (0 : Nat) []) =
  (LoopI C0 (bodyOf Tryd.f15) (1 : Nat)
  (St.mk
    [AV.imm (IV.sl (3 : Nat) xs), AV.imm (IV.int IntKind.i64 n), AV.dead, AV.dead, AV.dead,
      AV.imm (IV.int IntKind.i64 (↑i : Int)), AV.imm (IV.int IntKind.i64 (0 : Int)),
      AV.imm (IV.int IntKind.i64 (↑i : Int)), AV.imm (IV.sl (3 : Nat) xs),
      AV.imm (IV.int IntKind.i64 (↑(List.length xs) : Int)),
      AV.imm (IV.bool (decide ((↑i : Int) < (↑(List.length xs) : Int)))), AV.dead, AV.dead, AV.dead, AV.dead, AV.dead,
      AV.dead, AV.dead, AV.dead, AV.dead, AV.dead, AV.dead, AV.dead, AV.dead, AV.dead, AV.dead, AV.dead, AV.dead,
      AV.dead, AV.dead, AV.dead, AV.dead, AV.dead]
    [] (0 : Nat) [])
  (finK C0 Tryd.f15 K)) := by kernel_rfl
end Z16

