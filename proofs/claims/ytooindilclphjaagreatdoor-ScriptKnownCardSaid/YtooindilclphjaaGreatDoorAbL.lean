/- The operations of the model's code, made ready; what each comes to. -/
import Derived.Test.YtooindilclphjaaGreatDoorAbK
namespace Go.Ab
noncomputable section

inductive Opnd where
  | tmp (t : Nat)
  | con (v : AV)
  | glob (g : Nat)
  | fn (f : Nat)

def Opnd.ev (tm : Tr AV) : Opnd → AV
  | .tmp t => match tm.get? t with
    | some v => v
    | none => .undef
  | .con v => v
  | .glob g => .ptr g 0
  | .fn f => .fn f [] []

def ofVal : Value → Option AV
  | .bool b => some (.bool b)
  | .int k n => some (.int k n)
  | .string s => some (.str s.data.toList)
  | .pointer none => some .nilp
  | .slice none 0 0 => some .nilsl
  | .map none => some .nilmap
  | .nilFunc => some .nilfn
  | .nilIface => some .nilif
  | _ => none

theorem ofVal_sound {v : Value} {a : AV} (h : ofVal v = some a) (ρ : Ren) : VR ρ a v := by
  unfold ofVal at h
  split at h <;> first | (cases h; rfl) | cases h

def ofVals (l : List Value) : Option (List AV) := allM ofVal l

theorem ofVals_sound {l : List Value} {a : List AV} (h : ofVals l = some a) (ρ : Ren) : VRs ρ a l := by
  obtain ⟨h1, h2⟩ := allM_get h
  refine VRs.of_get h1.symm fun i x hx => ?_
  have hi : i < l.length := by
    rw [h1]
    rcases Nat.lt_or_ge i a.length with c | c
    · exact c
    · rw [List.getElem?_eq_none c] at hx; cases hx
  obtain ⟨y, e1, e2⟩ := h2 i l[i] (List.getElem?_eq_getElem hi)
  rw [hx] at e1; cases e1
  exact ⟨l[i], List.getElem?_eq_getElem hi, ofVal_sound e2 ρ⟩

def opnd (G : List Nat) : Operand → Option Opnd
  | .tmp t => some (.tmp t)
  | .const v => (ofVal v).map .con
  | .global g => if G.contains g then some (.glob g) else none
  | .func f => some (.fn f)

def optOp (G : List Nat) : Option Operand → Option (Option Opnd)
  | none => some none
  | some x => (opnd G x).map some

/-- The temporaries. -/
def TR (ρ : Ren) (tm : Tr AV) (a : Act) : Prop := tm.Full a.tmps.size ∧ ∀ t v, tm.get? t = some v → ∃ v', a.tmps[t]? = some v' ∧ VR ρ v v'

/-- The package-level variables. -/
def Gl (G : List Nat) (ρ : Ren) : Prop := ∀ g, G.contains g = true → ∃ L, ρ g = some L ∧ L.blk = g ∧ L.off = 0

theorem Gl.mono {G : List Nat} {ρ ρ' : Ren} (h : Gl G ρ) (hs : Sub ρ ρ') : Gl G ρ' := fun g hg => let ⟨L, e, r⟩ := h g hg; ⟨L, hs _ _ e, r⟩
theorem TR.mono {ρ ρ' : Ren} {tm : Tr AV} {a : Act} (h : TR ρ tm a) (hs : Sub ρ ρ') : TR ρ' tm a := ⟨h.1, fun t v e => let ⟨v', e1, e2⟩ := h.2 t v e; ⟨v', e1, e2.mono hs⟩⟩

/-- Operands as they stand: for a region whose order is open the frame is not yet whole. -/
def EvR (ρ : Ren) (ev : Opnd → AV) (ea : Operand → Value) (G : List Nat) (x : Operand) : Prop := ∀ k, opnd G x = some k → VR ρ (ev k) (ea x)

theorem EvR.of_TR {ρ : Ren} {tm : Tr AV} {a : Act} {G : List Nat} (h : TR ρ tm a) (hg : Gl G ρ) (x : Operand) : EvR ρ (·.ev tm) a.eval G x := by
  intro k hk
  cases x with
  | tmp t =>
    cases hk
    show VR ρ (match tm.get? t with | some v => v | none => .undef) (a.tmps.getD t undef)
    cases e : tm.get? t with
    | some v =>
      obtain ⟨v', e1, e2⟩ := h.2 t v e
      rw [Array.getD_eq_getD_getElem?, e1]; exact e2
    | none =>
      have : a.tmps[t]? = none := by
        apply Array.getElem?_eq_none
        rcases Nat.lt_or_ge t a.tmps.size with c | c
        · have := (h.1 t).2 c; rw [e] at this; cases this
        · exact c
      rw [Array.getD_eq_getD_getElem?, this]; exact ⟨[], rfl, rfl⟩
  | const v =>
    simp only [opnd, Option.map_eq_some_iff] at hk
    obtain ⟨a', h1, rfl⟩ := hk
    exact ofVal_sound h1 ρ
  | global g =>
    simp only [opnd] at hk
    split at hk
    · rename_i c
      cases hk
      obtain ⟨L, e, r1, r2⟩ := hg g c
      exact ⟨L, e, by rw [r1, r2]; rfl⟩
    · cases hk
  | func f => cases hk; exact ⟨[], [], rfl, rfl, rfl⟩

inductive KR where
  | mov (x : Opnd)
  | pick (c a b : Opnd)
  | build (zs : List AV) (parts : List (Nat × Nat × Opnd))
  | load (sz : Option Nat) (x : Opnd)
  | nilc (x : Opnd)
  | bin (op : BinOp) (x y : Opnd)
  | eq (neg : Bool) (k : EqK) (x y : Opnd)
  | un (op : UnOp) (x : Opnd)
  | conv (k : IntKind) (x : Opnd)
  | strs (x : Opnd)
  | mkif (t : Nat) (x : Opnd)
  | mkfn (f : Nat) (first caps : List Opnd)
  | slice (esz : Nat) (x : Opnd) (lo hi mx : Option Opnd)
  | sliceS (x : Opnd) (lo hi : Option Opnd)
  | sliceA (esz n : Nat) (x : Opnd) (lo hi mx : Option Opnd)
  | faddr (off : Nat) (x : Opnd)
  | iaddr (esz : Nat) (x i : Opnd)
  | iaddrA (esz n : Nat) (x i : Opnd)
  | idxS (x i : Opnd)
  | idxA (esz n : Nat) (sz : Option Nat) (x i : Opnd)
  | fld (off : Nat) (sz : Option Nat) (x : Opnd)
  | look (k : EqK) (zero : AV) (ok : Bool) (m key : Opnd)
  | ext (x : Opnd) (i : Nat)
  | len (k : LenK) (x : Opnd)
  | mm (big : Bool) (x y : Opnd)

inductive KN where
  | new (cs : List AV)
  | box (x : Opnd)
  | map
  | mksl (esz bytes : Nat) (zs : List AV) (l c : Opnd)
  | bsl (esz len : Nat) (zs : List AV) (parts : List (Nat × Nat × Opnd))
  | newb (t : Nat)

inductive KW where
  | store (sz : Nat) (a x : Opnd)
  | app (esz bytes : Nat) (s x : Opnd)
  | copy (esz : Nat) (d s : Opnd)
  | clearM (x : Opnd)
  | clearS (zs : List AV) (x : Opnd)
  | mapup (k : EqK) (m key v : Opnd)
  | delete (k : EqK) (m key : Opnd)
  | s2b (x : Opnd)

inductive KC where
  | fn (f : Nat) (args : List Opnd)
  | val (x : Opnd) (args : List Opnd)
  | inv (x : Opnd) (name : String) (args : List Opnd)

inductive KOp where
  | r (k : KR)
  | n (k : KN)
  | w (k : KW)
  | c (k : KC)
  | x

def evParts (ev : Opnd → AV) : List (Nat × Nat × Opnd) → List (Nat × Nat × AV)
  | [] => []
  | (o, s, x) :: r => (o, s, ev x) :: evParts ev r

def evs (ev : Opnd → AV) : List Opnd → List AV
  | [] => []
  | x :: r => ev x :: evs ev r

def someAgg : Option (List AV) → Option AV
  | some l => some (.agg l)
  | none => none
def strOnly : AV → Option AV
  | .str l => some (.str l)
  | _ => none

def rdK (k : KR) (ev : Opnd → AV) (H : AHeap) : Option AV := match k with
  | .mov x => some (ev x)
  | .pick c a b => aPick (ev c) (ev a) (ev b)
  | .build zs parts => someAgg (aFill zs (evParts ev parts))
  | .load sz x => aLoad sz H (ev x)
  | .nilc x => aNil (ev x)
  | .bin op x y => aBin op (ev x) (ev y)
  | .eq neg k x y => aEq neg k (ev x) (ev y)
  | .un op x => aUn op (ev x)
  | .conv k x => aConv k (ev x)
  | .strs x => strOnly (ev x)
  | .mkif t x => some (.iface t (ev x))
  | .mkfn f a b => some (.fn f (evs ev a) (evs ev b))
  | .slice esz x lo hi mx => aSlice esz H (ev x) (lo.map ev) (hi.map ev) (mx.map ev)
  | .sliceS x lo hi => aSliceS (ev x) (lo.map ev) (hi.map ev)
  | .sliceA esz n x lo hi mx => aSliceA esz n (ev x) (lo.map ev) (hi.map ev) (mx.map ev)
  | .faddr off x => aFaddr off (ev x)
  | .iaddr esz x i => aIaddr esz (ev x) (ev i)
  | .iaddrA esz n x i => aIaddrA esz n (ev x) (ev i)
  | .idxS x i => aIdxS (ev x) (ev i)
  | .idxA esz n sz x i => aIdxA esz n sz (ev x) (ev i)
  | .fld off sz x => aFld off sz (ev x)
  | .look k z ok m key => aLook k z ok H (ev m) (ev key)
  | .ext x i => aExt (ev x) i
  | .len k x => aLen k H (ev x)
  | .mm big x y => aMinMax big (ev x) (ev y)

def nwK (k : KN) (ev : Opnd → AV) : Option (AObj × Mk) := match k with
  | .new cs => some (.cells false 0 cs.length (Tr.ofList cs), .ptr)
  | .box x => some (.cells false 0 (ev x).cells.length (Tr.ofList (ev x).cells), .ptr)
  | .map => some (.map [] 0, .map)
  | .mksl esz bytes zs l c => aMksl esz bytes zs (ev l) (ev c)
  | .bsl esz len zs parts => aBsl esz len zs (evParts ev parts)
  | .newb t => some (.bld t false none, .ptr)

def unitW : Option AHeap → Option (AV × AHeap)
  | some H => some (.undef, H)
  | none => none

def wrK (k : KW) (ev : Opnd → AV) (H : AHeap) : Option (AV × AHeap) := match k with
  | .store sz a x => unitW (aStore sz H (ev a) (ev x))
  | .app esz bytes s x => aApp esz bytes H (ev s) (ev x)
  | .copy esz d s => aCopy esz H (ev d) (ev s)
  | .clearM x => unitW (aClearM H (ev x))
  | .clearS zs x => unitW (aClearS zs H (ev x))
  | .mapup k m key v => unitW (aMapUp k H (ev m) (ev key) (ev v))
  | .delete k m key => unitW (aDelete k H (ev m) (ev key))
  | .s2b x => aS2b H (ev x)

section
variable (P : Program)

/-- A method with a pointer receiver, of the dynamic type itself. -/
def metK (t : Nat) (name : String) : Option Nat :=
  match P.info? t, P.underlying t with
  | some i, some (.pointer _) => match i.methods.find? (·.name == name) with
    | some m => if m.path.isEmpty then (match m.func with
      | some (f, true) => some f
      | _ => none) else none
    | none => none
  | _, _ => none

def clK (k : KC) (ev : Opnd → AV) : Option (Nat × List AV) := match k with
  | .fn f args => some (f, evs ev args)
  | .val x args => match ev x with
    | .fn f a b => some (f, a ++ (evs ev args ++ b))
    | _ => none
  | .inv x name args => match ev x with
    | .iface t v => match metK P t name with
      | some f => some (f, v :: evs ev args)
      | none => none
    | _ => none

/-- A strings.Builder is made. -/
def isBld (i : TypeInfo) (zs : List AV) : Bool := match i.desc, zs with
  | .named n _, [.nilp, .nilsl] => n == "strings.Builder"
  | _, _ => false

def zeroOf (t : Nat) : Option (TypeInfo × List AV) := do
  let i ← P.info? t
  let z ← i.zero
  let zs ← ofVals z.cells.toList
  if z.cells.size = i.size then some (i, zs) else none

def partsOf (G : List Nat) (place : Nat → Option (Nat × Nat)) (parts : List (Nat × Operand)) : Option (List (Nat × Nat × Opnd)) :=
  allM (fun (p : Nat × Operand) => do
    let (o, s) ← place p.1
    let x ← opnd G p.2
    some (o, s, x)) parts

def fieldPlaces (fs : Array Field) : Option (List (Nat × Nat)) := allM (fun (f : Field) => (P.info? f.type).map fun i => (f.offset, i.size)) fs.toList

def compR (G : List Nat) (op : Op) : Option KR :=
  match op with
  | .move x | .assign x => do some (.mov (← opnd G x))
  | .pick c a b => do some (.pick (← opnd G c) (← opnd G a) (← opnd G b))
  | .build t parts => do
    let (_, zs) ← zeroOf P t
    match P.underlying t with
    | some (.struct fs) => do
      let ps ← fieldPlaces P fs
      some (.build zs (← partsOf G (ps[·]?) parts.toList))
    | some (.array _ e) => do
      let i ← P.info? e
      some (.build zs (← partsOf G (fun j => some (j * i.size, i.size)) parts.toList))
    | _ => none
  | .load t x => do some (.load (← partSz P t) (← opnd G x))
  | .nilCheck x => do some (.nilc (← opnd G x))
  | .binOp op t x y _ => do
    let a ← opnd G x
    let b ← opnd G y
    if op = .eql ∨ op = .neq then
      match P.underlying t with
      | some (.int _) | some .string => some (.bin op a b)
      | _ => do
        let k ← eqK P 20 t
        if guardOk P t k x y then some (.eq (decide (op = .neq)) k a b) else none
    else some (.bin op a b)
  | .unOp op _ x => do some (.un op (← opnd G x))
  | .convert s d x => do
    let a ← opnd G x
    match P.underlying s, P.underlying d with
    | some _, some (.int k) => some (.conv k a)
    | some _, some .string => some (.strs a)
    | _, _ => none
  | .makeInterface t x => do
    let a ← opnd G x
    if P.concrete t then some (.mkif t a) else none
  | .makeFunc (.func f) first caps => do some (.mkfn f (← allM (opnd G) first.toList) (← allM (opnd G) caps.toList))
  | .slice t x lo hi mx => do
    let a ← opnd G x
    let l ← optOp G lo
    let h ← optOp G hi
    let m ← optOp G mx
    if mx.isSome && hi.isNone then none else
    match P.underlying t with
    | some (.slice e) => do
      let i ← P.info? e
      some (.slice i.size a l h m)
    | some .string => if mx.isSome then none else some (.sliceS a l h)
    | some (.array n e) => do
      let i ← P.info? e
      some (.sliceA i.size n a l h m)
    | _ => none
  | .fieldAddr s x f => do
    let a ← opnd G x
    match P.underlying s with
    | some (.struct fs) => do
      let fd ← fs[f]?
      let i ← P.info? fd.type
      if i.size = 0 then none else some (.faddr fd.offset a)
    | _ => none
  | .indexAddr t x i => do
    let a ← opnd G x
    let b ← opnd G i
    match P.underlying t with
    | some (.slice e) => do
      let inf ← P.info? e
      some (.iaddr inf.size a b)
    | some (.array n e) => do
      let inf ← P.info? e
      some (.iaddrA inf.size n a b)
    | _ => none
  | .index t x i => do
    let a ← opnd G x
    let b ← opnd G i
    match P.underlying t with
    | some .string => some (.idxS a b)
    | some (.array n e) => do
      let inf ← P.info? e
      let sz ← partSz P e
      some (.idxA inf.size n sz a b)
    | _ => none
  | .field t x f => do
    let a ← opnd G x
    match P.underlying t with
    | some (.struct fs) => do
      let fd ← fs[f]?
      let sz ← partSz P fd.type
      some (.fld fd.offset sz a)
    | _ => none
  | .lookup t m k ok => do
    let a ← opnd G m
    let b ← opnd G k
    match P.underlying t with
    | some (.map kt et) => do
      let ke ← eqK P 20 kt
      let i ← P.info? et
      let z ← i.zero
      let za ← (match z with
        | .agg cs => (ofVals cs.toList).map AV.agg
        | z => ofVal z)
      some (.look ke za ok a b)
    | _ => none
  | .extract x i => do some (.ext (← opnd G x) i)
  | .call { callee := .builtin .len, args, argTypes } => match args.toList, argTypes.toList with
    | [x], [t] => do some (.len (← lenK P t) (← opnd G x))
    | _, _ => none
  | .call { callee := .builtin .min, args, argTypes := _ } => match args.toList with
    | [x, y] => do some (.mm false (← opnd G x) (← opnd G y))
    | _ => none
  | .call { callee := .builtin .max, args, argTypes := _ } => match args.toList with
    | [x, y] => do some (.mm true (← opnd G x) (← opnd G y))
    | _ => none
  | _ => none

def compN (G : List Nat) (op : Op) : Option KN :=
  match op with
  | .alloc t => do
    let (i, zs) ← zeroOf P t
    some (cond (isBld i zs) (.newb t) (.new zs))
  | .box _ x => do some (.box (← opnd G x))
  | .makeMap _ none => some .map
  | .makeSlice t l c =>
    match P.underlying t with
    | some (.slice e) => do
      let (i, zs) ← zeroOf P e
      some (.mksl i.size i.bytes zs (← opnd G l) (← opnd G c))
    | _ => none
  | .buildSlice t len parts =>
    match P.underlying t with
    | some (.slice e) => do
      let (i, zs) ← zeroOf P e
      some (.bsl i.size len zs (← partsOf G (fun j => some (j * i.size, i.size)) parts.toList))
    | _ => none
  | _ => none

def compW (G : List Nat) (op : Op) : Option KW :=
  match op with
  | .store t a x => do
    let i ← P.info? t
    some (.store i.size (← opnd G a) (← opnd G x))
  | .mapUpdate t m k v =>
    match P.underlying t with
    | some (.map kt _) => do some (.mapup (← eqK P 20 kt) (← opnd G m) (← opnd G k) (← opnd G v))
    | _ => none
  | .call { callee := .builtin .append, args, argTypes } => match args.toList, argTypes.toList with
    | [s, x], [t, u] => match P.underlying t with
      | some (.slice e) => do
        let (i, _) ← zeroOf P e
        if srcOk P u then some (.app i.size i.bytes (← opnd G s) (← opnd G x)) else none
      | _ => none
    | _, _ => none
  | .call { callee := .builtin .copy, args, argTypes } => match args.toList, argTypes.toList with
    | [s, x], [t, _] => match P.underlying t with
      | some (.slice e) => do
        let i ← P.info? e
        some (.copy i.size (← opnd G s) (← opnd G x))
      | _ => none
    | _, _ => none
  | .call { callee := .builtin .clear, args, argTypes } => match args.toList, argTypes.toList with
    | [x], [t] => match P.underlying t with
      | some (.slice e) => do
        let (_, zs) ← zeroOf P e
        some (.clearS zs (← opnd G x))
      | some (.map _ _) => do some (.clearM (← opnd G x))
      | _ => none
    | _, _ => none
  | .call { callee := .builtin .delete, args, argTypes } => match args.toList, argTypes.toList with
    | [m, k], [t, _] => match P.underlying t with
      | some (.map kt _) => do some (.delete (← eqK P 20 kt) (← opnd G m) (← opnd G k))
      | _ => none
    | _, _ => none
  | .convert s d x => match P.underlying s, P.underlying d with
    | some .string, some (.slice e) => (match P.underlying e with
      | some (.int .u8) => do some (.s2b (← opnd G x))
      | _ => none)
    | _, _ => none
  | _ => none

def compC (G : List Nat) (op : Op) : Option KC :=
  match op with
  | .call { callee := .value (.func f), args, argTypes := _ } => do some (.fn f (← allM (opnd G) args.toList))
  | .call { callee := .value x, args, argTypes := _ } => do some (.val (← opnd G x) (← allM (opnd G) args.toList))
  | .call { callee := .invoke x name, args, argTypes := _ } => do some (.inv (← opnd G x) name (← allM (opnd G) args.toList))
  | _ => none

end

def compRf (op : Op) : Program → List Nat → Option KR :=
  match op with
  | .move x | .assign x => fun _ G => do some (.mov (← opnd G x))
  | .pick c a b => fun _ G => do some (.pick (← opnd G c) (← opnd G a) (← opnd G b))
  | .build t parts => fun P G => do
    let (_, zs) ← zeroOf P t
    match P.underlying t with
    | some (.struct fs) => do
      let ps ← fieldPlaces P fs
      some (.build zs (← partsOf G (ps[·]?) parts.toList))
    | some (.array _ e) => do
      let i ← P.info? e
      some (.build zs (← partsOf G (fun j => some (j * i.size, i.size)) parts.toList))
    | _ => none
  | .load t x => fun P G => do some (.load (← partSz P t) (← opnd G x))
  | .nilCheck x => fun _ G => do some (.nilc (← opnd G x))
  | .binOp op t x y _ => fun P G => do
    let a ← opnd G x
    let b ← opnd G y
    if op = .eql ∨ op = .neq then
      match P.underlying t with
      | some (.int _) | some .string => some (.bin op a b)
      | _ => do
        let k ← eqK P 20 t
        if guardOk P t k x y then some (.eq (decide (op = .neq)) k a b) else none
    else some (.bin op a b)
  | .unOp op _ x => fun _ G => do some (.un op (← opnd G x))
  | .convert s d x => fun P G => do
    let a ← opnd G x
    match P.underlying s, P.underlying d with
    | some _, some (.int k) => some (.conv k a)
    | some _, some .string => some (.strs a)
    | _, _ => none
  | .makeInterface t x => fun P G => do
    let a ← opnd G x
    if P.concrete t then some (.mkif t a) else none
  | .makeFunc (.func f) first caps => fun _ G => do some (.mkfn f (← allM (opnd G) first.toList) (← allM (opnd G) caps.toList))
  | .slice t x lo hi mx => fun P G => do
    let a ← opnd G x
    let l ← optOp G lo
    let h ← optOp G hi
    let m ← optOp G mx
    if mx.isSome && hi.isNone then none else
    match P.underlying t with
    | some (.slice e) => do
      let i ← P.info? e
      some (.slice i.size a l h m)
    | some .string => if mx.isSome then none else some (.sliceS a l h)
    | some (.array n e) => do
      let i ← P.info? e
      some (.sliceA i.size n a l h m)
    | _ => none
  | .fieldAddr s x f => fun P G => do
    let a ← opnd G x
    match P.underlying s with
    | some (.struct fs) => do
      let fd ← fs[f]?
      let i ← P.info? fd.type
      if i.size = 0 then none else some (.faddr fd.offset a)
    | _ => none
  | .indexAddr t x i => fun P G => do
    let a ← opnd G x
    let b ← opnd G i
    match P.underlying t with
    | some (.slice e) => do
      let inf ← P.info? e
      some (.iaddr inf.size a b)
    | some (.array n e) => do
      let inf ← P.info? e
      some (.iaddrA inf.size n a b)
    | _ => none
  | .index t x i => fun P G => do
    let a ← opnd G x
    let b ← opnd G i
    match P.underlying t with
    | some .string => some (.idxS a b)
    | some (.array n e) => do
      let inf ← P.info? e
      let sz ← partSz P e
      some (.idxA inf.size n sz a b)
    | _ => none
  | .field t x f => fun P G => do
    let a ← opnd G x
    match P.underlying t with
    | some (.struct fs) => do
      let fd ← fs[f]?
      let sz ← partSz P fd.type
      some (.fld fd.offset sz a)
    | _ => none
  | .lookup t m k ok => fun P G => do
    let a ← opnd G m
    let b ← opnd G k
    match P.underlying t with
    | some (.map kt et) => do
      let ke ← eqK P 20 kt
      let i ← P.info? et
      let z ← i.zero
      let za ← (match z with
        | .agg cs => (ofVals cs.toList).map AV.agg
        | z => ofVal z)
      some (.look ke za ok a b)
    | _ => none
  | .extract x i => fun _ G => do some (.ext (← opnd G x) i)
  | .call { callee := .builtin .len, args, argTypes } => fun P G => match args.toList, argTypes.toList with
    | [x], [t] => do some (.len (← lenK P t) (← opnd G x))
    | _, _ => none
  | .call { callee := .builtin .min, args, argTypes := _ } => fun _ G => match args.toList with
    | [x, y] => do some (.mm false (← opnd G x) (← opnd G y))
    | _ => none
  | .call { callee := .builtin .max, args, argTypes := _ } => fun _ G => match args.toList with
    | [x, y] => do some (.mm true (← opnd G x) (← opnd G y))
    | _ => none
  | _ => fun _ _G => none

def compNf (op : Op) : Program → List Nat → Option KN :=
  match op with
  | .alloc t => fun P _G => do
    let (i, zs) ← zeroOf P t
    some (cond (isBld i zs) (.newb t) (.new zs))
  | .box _ x => fun _ G => do some (.box (← opnd G x))
  | .makeMap _ none => fun _ _G => some .map
  | .makeSlice t l c => fun P G =>
    match P.underlying t with
    | some (.slice e) => do
      let (i, zs) ← zeroOf P e
      some (.mksl i.size i.bytes zs (← opnd G l) (← opnd G c))
    | _ => none
  | .buildSlice t len parts => fun P G =>
    match P.underlying t with
    | some (.slice e) => do
      let (i, zs) ← zeroOf P e
      some (.bsl i.size len zs (← partsOf G (fun j => some (j * i.size, i.size)) parts.toList))
    | _ => none
  | _ => fun _ _G => none

def compWf (op : Op) : Program → List Nat → Option KW :=
  match op with
  | .store t a x => fun P G => do
    let i ← P.info? t
    some (.store i.size (← opnd G a) (← opnd G x))
  | .mapUpdate t m k v => fun P G =>
    match P.underlying t with
    | some (.map kt _) => do some (.mapup (← eqK P 20 kt) (← opnd G m) (← opnd G k) (← opnd G v))
    | _ => none
  | .call { callee := .builtin .append, args, argTypes } => fun P G => match args.toList, argTypes.toList with
    | [s, x], [t, u] => match P.underlying t with
      | some (.slice e) => do
        let (i, _) ← zeroOf P e
        if srcOk P u then some (.app i.size i.bytes (← opnd G s) (← opnd G x)) else none
      | _ => none
    | _, _ => none
  | .call { callee := .builtin .copy, args, argTypes } => fun P G => match args.toList, argTypes.toList with
    | [s, x], [t, _] => match P.underlying t with
      | some (.slice e) => do
        let i ← P.info? e
        some (.copy i.size (← opnd G s) (← opnd G x))
      | _ => none
    | _, _ => none
  | .call { callee := .builtin .clear, args, argTypes } => fun P G => match args.toList, argTypes.toList with
    | [x], [t] => match P.underlying t with
      | some (.slice e) => do
        let (_, zs) ← zeroOf P e
        some (.clearS zs (← opnd G x))
      | some (.map _ _) => do some (.clearM (← opnd G x))
      | _ => none
    | _, _ => none
  | .call { callee := .builtin .delete, args, argTypes } => fun P G => match args.toList, argTypes.toList with
    | [m, k], [t, _] => match P.underlying t with
      | some (.map kt _) => do some (.delete (← eqK P 20 kt) (← opnd G m) (← opnd G k))
      | _ => none
    | _, _ => none
  | .convert s d x => fun P G => match P.underlying s, P.underlying d with
    | some .string, some (.slice e) => (match P.underlying e with
      | some (.int .u8) => do some (.s2b (← opnd G x))
      | _ => none)
    | _, _ => none
  | _ => fun _ _G => none

def compCf (op : Op) : Program → List Nat → Option KC :=
  match op with
  | .call { callee := .value (.func f), args, argTypes := _ } => fun _ G => do some (.fn f (← allM (opnd G) args.toList))
  | .call { callee := .value x, args, argTypes := _ } => fun _ G => do some (.val (← opnd G x) (← allM (opnd G) args.toList))
  | .call { callee := .invoke x name, args, argTypes := _ } => fun _ G => do some (.inv (← opnd G x) name (← allM (opnd G) args.toList))
  | _ => fun _ _G => none

theorem compRf_eq (P : Program) (G : List Nat) (op : Op) : compRf op P G = compR P G op := by
  unfold compRf compR
  split <;> rfl
theorem compNf_eq (P : Program) (G : List Nat) (op : Op) : compNf op P G = compN P G op := by
  unfold compNf compN
  split <;> rfl
theorem compWf_eq (P : Program) (G : List Nat) (op : Op) : compWf op P G = compW P G op := by
  unfold compWf compW
  split <;> rfl
theorem compCf_eq (P : Program) (G : List Nat) (op : Op) : compCf op P G = compC G op := by
  unfold compCf compC
  split <;> rfl

section
variable (P : Program)

def comp (G : List Nat) (op : Op) : Option KOp :=
  match compRf op P G with
  | some k => some (.r k)
  | none => match compNf op P G with
    | some k => some (.n k)
    | none => match compWf op P G with
      | some k => some (.w k)
      | none => match compCf op P G with
        | some k => some (.c k)
        | none => some .x

end
end
end Go.Ab
