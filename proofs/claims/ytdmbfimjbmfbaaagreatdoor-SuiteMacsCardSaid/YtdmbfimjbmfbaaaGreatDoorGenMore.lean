/-
  Steps of a walk, part 5: copies out of texts, calls of function values, texts repeated. No conditions. Steps of a walk, part 6: a slice of some elements. No conditions. AES: the reference's substitution is that of the table; the way back. No conditions. strings.Repeat of one byte, by the library's contract (laid by the kit's lay-shelf and lay-plain, cut to what is used). Conditions as it says.
-/
import Derived.Test.YtdmbfimjbmfbaaaGreatDoorGenAny
import Derived.Lib.AppendStr
import Derived.Test.YtdmbfimjbmfbaaaGreatDoorOct
import Derived.Shelf.Strings.Repeat
import Derived.Test.YtdmbfimjbmfbaaaGreatDoorRows
import Derived.Test.YtdmbfimjbmfbaaaGreatDoorQuiet
import Derived.ProofKit
namespace Go.Proofs.YtdmbfimjbmfbaaaGreatDoor
open Go.RowKit
set_option linter.unusedSimpArgs false
set_option linter.unusedVariables false
section
variable {P : Program} {ops : Array Oper} {Q : Exit → Act → World → Prop} {w w' : World} {rest : List Oper} {n : Nat} {f : Nat → Value}
variable {ty : TypeId} {x y z : Operand} {v vx vy vz : Value} {t e : TypeId} {F G : Nat → Value}
theorem want_un {o : Oper} {j d : Nat} {b : Bool} {f : Nat → Value} (hg : o.guard = some (j, b)) (hj : (ops[j]?).bind (·.dst) = some d) (hv : Ev n f (.tmp d) undef) (hd : Nat.blt d n = true) : Region.wanted o (yielded ops (fr n f).tmps) = false := by
  have hd' : d < n := by simpa using hd
  have e : f d = undef := by simpa [Ev, fr, Act.eval, hd'] using hv
  simp [Region.wanted, hg, yielded, hj, fr, hd', e, undef]
theorem b_eqs_same {p : List (BitVec 8)} : Bin P .eql t (.string (str p)) (.string (str p)) (.bool true) := by
  have h := b_eqs (P := P) (t := t) (p := p) (q := p)
  rwa [show decide (p = p) = true from decide_eq_true rfl] at h
theorem b_nes_same {p : List (BitVec 8)} : Bin P .neq t (.string (str p)) (.string (str p)) (.bool false) := by
  have h := b_nes (P := P) (t := t) (p := p) (q := p)
  rwa [show decide (p ≠ p) = false from decide_eq_false (fun e => e rfl)] at h
theorem run_copys {t2 : TypeId} {g off m c K : Nat} {et : TypeId} {l : List (BitVec 8)} (ht : P.underlying t = some (.slice e)) (hsz : (P.info? e).map (·.size) = some 1) (hr : Row w g et K F) (hfit : off + m ≤ K) :
    ∃ w', (Builtin.copy_ #[t, t2] ty #[.slice (some ⟨g, off, none⟩) m c, .string (str l)]).run P w = .ok (.int .i64 ((min l.length m : Nat) : Int)) w' ∧
      Row w' g et K (fun j => if off ≤ j ∧ j < off + min l.length m then U8 (gb l (j - off)) else F j) ∧ w.grownBy w' (some g) ∧ w'.heap.size = w.heap.size := by
  obtain ⟨i, hi, hs⟩ := Option.map_eq_some_iff.1 hsz
  have hsize : (sizeOf e).run P w = .ok 1 w := by simp [sizeOf, typeInfo, hi, hs]
  have hcells : (((str l).extract 0 (min l.length m)).data.map fun b => Value.int .u8 b.toNat).toList = (List.range (min l.length m)).map fun j => U8 (gb l j) := by
    apply List.ext_getElem
    · simp [str]
    · intro j h1 h2
      have hj : j < min l.length m := by simpa using h2
      simp only [Array.getElem_toList, Array.getElem_map, List.getElem_map, List.getElem_range]
      have hj2 : j < l.length := by omega
      simp [str, ByteArray.extract, ByteArray.copySlice, gb, hj2, U8]
  have hst := run_storeCells_cells (P := P) g off ((List.range (min l.length m)).map fun j => U8 (gb l j)) 0 w
    (fun j hj => by simp at hj; rw [Nat.add_zero, hr.cell (by omega)]; rfl)
    (fun j hj => by simp at hj; rw [Nat.add_zero, hr.frozen (by omega)])
    (fun v hv => by
      obtain ⟨j, hj, rfl⟩ := List.mem_map.1 hv
      exact U8.oneCell _)
  simp only [Nat.add_zero] at hst
  obtain ⟨h1, h2, h3, h4⟩ := setCells_rest g ((List.range (min l.length m)).map fun j => U8 (gb l j)) off w
  refine ⟨_, ?_, (setCells_row et g K _ off w F hr).congr (fun j _ => ?_), ⟨h1, h2, h3, by omega, fun k hk hne => setCells_other g _ off w k (fun e => hne (by rw [e]))⟩, h4⟩
  · have hlen : (Builtin.lenOf (.string (str l))).run P w = .ok l.length w := by simp [Builtin.lenOf, size_str]
    have hfc : (Builtin.firstCells 1 (min l.length m) (.string (str l))).run P w = .ok (((str l).extract 0 (min l.length m)).data.map fun b => Value.int .u8 b.toNat) w := rfl
    generalize (((str l).extract 0 (min l.length m)).data.map fun b => Value.int .u8 b.toNat) = cells at hcells hfc
    have hmin : Nat.min l.length m = min l.length m := rfl
    unfold Builtin.copy_
    simp only [List.getElem?_toArray, List.getElem?_cons_zero, List.getElem?_cons_succ, Sem.run_bind, run_underlying ht, Result.andThen_ok, hlen, hsize, hmin, hfc, hcells, hst, Sem.run_pure, goInt]
  · by_cases e : off ≤ j ∧ j < off + min l.length m
    · rw [if_pos (by simpa using e), if_pos e]
      simp [show j - off < min l.length m from by omega]
    · rw [if_neg (by simpa using e), if_neg e]
theorem w_copys {d : Nat} {p : String} {aft : Array Edge} {t2 : TypeId} {g off m c K : Nat} {et : TypeId} {l : List (BitVec 8)} (hx : Ev n f x (.slice (some ⟨g, off, none⟩) m c)) (hy : Ev n f y (.string (str l))) (ht : P.underlying t = some (.slice e)) (hsz : (P.info? e).map (·.size) = some 1) (hr : Row w g et K F) (hfit : off + m ≤ K)
    (h : ∀ w', Row w' g et K (fun j => if off ≤ j ∧ j < off + min l.length m then U8 (gb l (j - off)) else F j) → w.grownBy w' (some g) → w'.heap.size = w.heap.size → wpList P ops Q rest (fr n (up f d (.int .i64 ((min l.length m : Nat) : Int)))) w') :
    wpList P ops Q (⟨some d, .call ⟨.builtin .copy, #[x, y], #[t, t2]⟩, ty, p, aft, none⟩ :: rest) (fr n f) w :=
  wpList_plain rfl fun K' hK => by
    obtain ⟨w', hrun, h1, h2, h3⟩ := run_copys (ty := ty) (t2 := t2) (c := c) (l := l) ht hsz hr hfit
    unfold Oper.wp
    have e1 : (fr n f).eval x = .slice (some ⟨g, off, none⟩) m c := hx
    have e2 : (fr n f).eval y = .string (str l) := hy
    have hrun' : (execOp (fr n f).eval ⟨some d, .call ⟨.builtin .copy, #[x, y], #[t, t2]⟩, ty, p, aft, none⟩).run P w = .ok (.value (.int .i64 ((min l.length m : Nat) : Int))) w' := by
      simp only [execOp, resolve, Sem.run_bind, Sem.run_pure, Result.andThen_ok, List.map_toArray, List.map_cons, List.map_nil, e1, e2, invoke, builtin, hrun]
    rw [hrun']
    simp only [Oper.upon, fr_put]
    exact hK _ _ (h w' h1 h2 h3)
/-- a function value is called -/
theorem w_callv {d : Nat} {p : String} {aft : Array Edge} {k : FuncId} {fn : Func} {c : Code} {args : Array Operand} {tys : Array TypeId} {vs caps all : Array Value} {R : Ending → World → Prop} (hz : Ev n f z (.func (.func k) #[] caps)) (hf : P.funcs[k]? = some fn) (hname : (fn.name == "runtime.NumGoroutine") = false) (hb : fn.body = some c)
    (ha : args.map (fr n f).eval = vs) (hall : vs ++ caps = all) (hc : Calls P k all w R) (h : ∀ e w', R e w' → ∃ v, e = .returned v ∧ wpList P ops Q rest (fr n (up f d v)) w') : wpList P ops Q (⟨some d, .call ⟨.value z, args, tys⟩, ty, p, aft, none⟩ :: rest) (fr n f) w :=
  wpList_plain rfl fun K hK => by
    subst hall
    have hz' : (fr n f).eval z = .func (.func k) #[] caps := hz
    unfold Oper.wp
    have e1 : (execOp (fr n f).eval ⟨some d, .call ⟨.value z, args, tys⟩, ty, p, aft, none⟩).run P w = .ok (.enter k (vs ++ caps)) w := by
      simp only [execOp, resolve, ha, hz', Sem.run_bind, Deferred.ofValue, Sem.run_pure, Result.andThen_ok, invoke, Array.append_empty, Array.empty_append]
      exact MuLone.run_callFunc_enter hf hname hb _ _
    rw [e1]
    simp only [Oper.upon]
    refine hc.mono fun e w' he => ?_
    obtain ⟨v, rfl, h'⟩ := h e w' he
    show K ((fr n f).put (some d) v) w'
    rw [fr_put]
    exact hK _ _ h'
end
end Go.Proofs.YtdmbfimjbmfbaaaGreatDoor
namespace Go.Proofs.YtdmbfimjbmfbaaaGreatDoor
open Go.RowKit
set_option linter.unusedSimpArgs false
set_option linter.unusedVariables false
section
variable {P : Program} {ops : Array Oper} {Q : Exit → Act → World → Prop} {w w' : World} {rest : List Oper} {n : Nat} {f : Nat → Value}
variable {ty : TypeId} {x y z : Operand} {v vx vy vz : Value} {t e : TypeId} {F G : Nat → Value}
/-- T{x, y, ..}: a slice of some elements, in a block of its own -/
theorem w_bsn {d : Nat} {p : String} {aft : Array Edge} {m k : Nat} {ps : Array (Nat × Operand)} {vs : Array (Nat × Value)} (hp : (ps.map fun (i, x) => (i, (fr n f).eval x)) = vs)
    (hr : ∀ w, (Instr.buildSlice t k vs).run P w = .ok (.slice (some ⟨w.heap.size, 0, none⟩) k k) (w.alloc (.cells (arr m F) e)))
    (h : ∀ b w', b = w.heap.size → Row w' b e m F → Below w.heap.size w w' → wpList P ops Q rest (fr n (up f d (.slice (some ⟨b, 0, none⟩) k k))) w') : wpList P ops Q (⟨some d, .buildSlice t k ps, ty, p, aft, none⟩ :: rest) (fr n f) w := by
  refine w_new (v := .slice (some ⟨w.heap.size, 0, none⟩) k k) (c := arr m F) (e := e) ?_ rfl (fun w' => h _ w' rfl)
  unfold execOp
  simp only [hp]
  rw [Sem.run_bind, hr w]
  rfl
theorem q_unguard {C : World → Prop} {L : Act → Prop} {op : Op} {d : Option Nat} {p : String} {aft : Array Edge} {g : Option (Nat × Bool)} {a : Act} (hw : Region.wanted ⟨d, op, ty, p, aft, g⟩ (yielded ops a.tmps) = true) (h : wpQuiet P ops C L (⟨d, op, ty, p, aft, none⟩ :: rest) a) : wpQuiet P ops C L (⟨d, op, ty, p, aft, g⟩ :: rest) a := by
  unfold wpQuiet at h ⊢
  rw [if_pos (by simp [Region.wanted])] at h
  rw [if_pos hw]
  exact h
end
end Go.Proofs.YtdmbfimjbmfbaaaGreatDoor
namespace Go.Proofs.YtdmbfimjbmfbaaaGreatDoor
namespace Aes
/-- the way back, as one number of 256 bytes -/
def bkN : Nat := 0x7d0c2155631469e126d677ba7e042b17619953833cbbebc8b0f52aae4d3be0a0ef9cc9939f7ae52d0d4ab519a97f51605fec8027591012b131c7078833a8dd1ff45acd78fec0db9a2079d2c64b3e56fc1bbe18aa0e62b76f89c5291d711af1476edf751ce837f9e28535ade72274ac9673e6b4f0cecff297eadc674f4111913a6b8a130103bdafc1020f3fca8f1e2cd00645b3b80558e4f70ad3bc8c00abd890849d8da75746155edab9edfd5048706c92b6655dcc5ca4d41698688664f6f87225d18b6d49a25b76b224d92866a12e084ec3fa420b954cee3d23c2a632947b54cbe9dec444438e3487ff2f9b8239e37cfbd7f3819ea340bf38a53630d56a0952
def bk (i : Nat) : BitVec 8 := BitVec.ofNat 8 (bkN >>> (8 * i))
theorem bk_sb_all : ∀ n, n < 256 → bk (sb n).toNat = BitVec.ofNat 8 n := by decide +kernel
theorem bk_sb (b : BitVec 8) : bk (sb b.toNat).toNat = b := by rw [bk_sb_all _ b.isLt]; simp
/-- powers -/
def pw (b : BitVec 8) : Nat → BitVec 8
  | 0 => 1#8
  | k + 1 => mul (pw b k) b
def rol (x : BitVec 8) : BitVec 8 := x <<< 1 ||| x >>> 7
/-- the reference's rotations: (x, out) after k rounds -/
def rr (x : BitVec 8) : Nat → BitVec 8 × BitVec 8
  | 0 => (x, x)
  | k + 1 => (rol (rr x k).1, (rr x k).2 ^^^ rol (rr x k).1)
end Aes
end Go.Proofs.YtdmbfimjbmfbaaaGreatDoor
namespace Go.Proofs.YtdmbfimjbmfbaaaGreatDoor
open Go.Shelf Go.RowKit
def rpLays_ren : Go.Shelf.Ren := ⟨fun | 105 => 94 | 212 => 101 | 99 => 102 | 165 => 103 | 166 => 104 | 170 => 105 | 169 => 106 | 263 => 115 | 264 => 116 | 206 => 117 | 240 => 118 | 241 => 119 | 276 => 122 | 277 => 123 | n => n, fun | 9 => 9 | 3 => 3 | 4 => 4 | 20 => 20 | 0 => 0 | 46 => 87 | 109 => 176 | 5 => 5 | 72 => 180 | 76 => 184 | 51 => 103 | 146 => 197 | 53 => 92 | 148 => 199 | 70 => 178 | 37 => 55 | 75 => 183 | 127 => 159 | 164 => 204 | 80 => 149 | n => n, fun | n => n⟩
theorem rpLays : Go.Proofs.Lays.n105 Tryz.prog rpLays_ren := {
  mixed := by kernel_rfl
  f99 := Tryz.func102.trans (congrArg some (by kernel_rfl))
  f105 := Tryz.func94.trans (congrArg some (by kernel_rfl))
  f165 := Tryz.func103.trans (congrArg some (by kernel_rfl))
  f166 := Tryz.func104.trans (congrArg some (by kernel_rfl))
  f169 := Tryz.func106.trans (congrArg some (by kernel_rfl))
  f170 := Tryz.func105.trans (congrArg some (by kernel_rfl))
  f206 := Tryz.func117.trans (congrArg some (by kernel_rfl))
  f212 := Tryz.func101.trans (congrArg some (by kernel_rfl))
  f240 := Tryz.func118.trans (congrArg some (by kernel_rfl))
  f241 := Tryz.func119.trans (congrArg some (by kernel_rfl))
  f263 := Tryz.func115.trans (congrArg some (by kernel_rfl))
  f264 := Tryz.func116.trans (congrArg some (by kernel_rfl))
  f276 := Tryz.func122.trans (congrArg some (by kernel_rfl))
  f277 := Tryz.func123.trans (congrArg some (by kernel_rfl))
  t0 := Tryz.underlying0
  a0 := Tryz.isAgg0
  z0 := Tryz.sizeOf0
  v0 := Tryz.zeroValue0
  t3 := Tryz.underlying3
  a3 := Tryz.isAgg3
  z3 := Tryz.sizeOf3
  v3 := Tryz.zeroValue3
  t4 := Tryz.underlying4
  a4 := Tryz.isAgg4
  z4 := Tryz.sizeOf4
  v4 := Tryz.zeroValue4
  t5 := Tryz.underlying5
  a5 := Tryz.isAgg5
  z5 := Tryz.sizeOf5
  v5 := Tryz.zeroValue5
  t9 := Tryz.underlying9
  a9 := Tryz.isAgg9
  z9 := Tryz.sizeOf9
  v9 := Tryz.zeroValue9
  t20 := Tryz.underlying20
  a20 := Tryz.isAgg20
  z20 := Tryz.sizeOf20
  v20 := Tryz.zeroValue20
  t37 := Tryz.underlying55
  a37 := Tryz.isAgg55
  z37 := Tryz.sizeOf55
  v37 := Tryz.zeroValue55
  t46 := Tryz.underlying87
  a46 := Tryz.isAgg87
  z46 := Tryz.sizeOf87
  v46 := Tryz.zeroValue87
  t51 := Tryz.underlying103
  a51 := Tryz.isAgg103
  z51 := Tryz.sizeOf103
  v51 := Tryz.zeroValue103
  t53 := Tryz.underlying92
  a53 := Tryz.isAgg92
  z53 := Tryz.sizeOf92
  v53 := Tryz.zeroValue92
  t70 := Tryz.underlying178
  a70 := Tryz.isAgg178
  z70 := Tryz.sizeOf178
  v70 := Tryz.zeroValue178
  t72 := Tryz.underlying180
  a72 := Tryz.isAgg180
  z72 := Tryz.sizeOf180
  v72 := Tryz.zeroValue180
  t75 := Tryz.underlying183
  a75 := Tryz.isAgg183
  z75 := Tryz.sizeOf183
  v75 := Tryz.zeroValue183
  t76 := Tryz.underlying184
  a76 := Tryz.isAgg184
  z76 := Tryz.sizeOf184
  v76 := Tryz.zeroValue184
  t109 := Tryz.underlying176
  a109 := Tryz.isAgg176
  z109 := Tryz.sizeOf176
  v109 := Tryz.zeroValue176
  t127 := Tryz.underlying159
  a127 := Tryz.isAgg159
  z127 := Tryz.sizeOf159
  v127 := Tryz.zeroValue159
  t146 := Tryz.underlying197
  a146 := Tryz.isAgg197
  z146 := Tryz.sizeOf197
  v146 := Tryz.zeroValue197
  t148 := Tryz.underlying199
  a148 := Tryz.isAgg199
  z148 := Tryz.sizeOf199
  v148 := Tryz.zeroValue199
  t164 := Tryz.underlying204
  a164 := Tryz.isAgg204
  z164 := Tryz.sizeOf204
  v164 := Tryz.zeroValue204 }
theorem rpExtra : Builder.Extra Tryz.prog rpLays_ren := {
  sizeBuilder := by kernel_rfl
  liesBuilder := by kernel_rfl
  t5 := Tryz.underlying5
  a5 := Tryz.isAgg5
  z5 := Tryz.sizeOf5
  v5 := Tryz.zeroValue5
  infoByte := by kernel_rfl
  cellsByte := by kernel_rfl
  sizeByte := by kernel_rfl
  neB5 := by decide }
theorem rep_c (x : BitVec 8) (c : Nat) (hc : c ≤ 100000) (w : World) :
    Calls Tryz.prog 94 #[.string (str [x]), .int .i64 c] w fun e w' => e = .returned (.string (str (List.replicate c x))) ∧ Below w.heap.size w w' := by
  have hs : (str [x]).size = 1 := rfl
  refine (Any.strings_Repeat rpLays rpExtra (str [x]) c w (by omega) (by rw [hs]; omega)).mono fun e w' h => ⟨?_, h.2⟩
  rw [h.1, show (str [x]).data.toList = List.replicate 1 (UInt8.ofBitVec x) from rfl, Lib.repeatL_replicate, Nat.mul_one]
  unfold str
  rw [List.map_replicate]
end Go.Proofs.YtdmbfimjbmfbaaaGreatDoor
