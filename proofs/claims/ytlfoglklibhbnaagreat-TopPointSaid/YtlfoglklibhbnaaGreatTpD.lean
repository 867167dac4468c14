/- Parts of the proof of TopPoint. No condition of their own. -/
import Derived.Calls
import Derived.Orders
import Derived.LoopN
import Derived.Below
set_option linter.unusedVariables false
set_option linter.unusedSimpArgs false
namespace Go.Proofs.YtlfoglklibhbnaaGreat.Sx
inductive SE where
 | var (i : Nat)
 | lit (n : Int)
 | blit (b : Bool)
 | add (a b : SE)
 | sub (a b : SE)
 | mul (a b : SE)
 | quo (a b : SE)
 | rem (a b : SE)
 | eq (a b : SE)
 | lt (a b : SE)
 | le (a b : SE)
 | no (a : SE)
 | ite (c t e : SE)
 | app (f k : Nat) (args : SE)
 | nil
 | cons (h t : SE)
structure Env where
 v : Nat → Int
 fi : Nat → Nat → List Int → Int
 fb : Nat → Nat → List Int → Bool
 rv : Nat → Value
structure Den where
 i : Int
 b : Bool
 l : List Int
def den (σ : Env) : SE → Den
 | .var i => ⟨σ.v i, false, []⟩
 | .lit n => ⟨n, false, []⟩
 | .blit b => ⟨0, b, []⟩
 | .add x y => ⟨IntKind.i64.wrap ((den σ x).i + (den σ y).i), false, []⟩
 | .sub x y => ⟨IntKind.i64.wrap ((den σ x).i - (den σ y).i), false, []⟩
 | .mul x y => ⟨IntKind.i64.wrap ((den σ x).i * (den σ y).i), false, []⟩
 | .quo x y => ⟨IntKind.i64.wrap ((den σ x).i.tdiv (den σ y).i), false, []⟩
 | .rem x y => ⟨(den σ x).i.tmod (den σ y).i, false, []⟩
 | .eq x y => ⟨0, (den σ x).i == (den σ y).i, []⟩
 | .lt x y => ⟨0, decide ((den σ x).i < (den σ y).i), []⟩
 | .le x y => ⟨0, decide ((den σ x).i ≤ (den σ y).i), []⟩
 | .no x => ⟨0, !(den σ x).b, []⟩
 | .ite c t e => ⟨if (den σ c).b then (den σ t).i else (den σ e).i, if (den σ c).b then (den σ t).b else (den σ e).b, []⟩
 | .app f k args => ⟨σ.fi f k (den σ args).l, σ.fb f k (den σ args).l, []⟩
 | .nil => ⟨0, false, []⟩
 | .cons h t => ⟨0, false, (den σ h).i :: (den σ t).l⟩
abbrev Env.i (σ : Env) (e : SE) : Int := (den σ e).i
abbrev Env.b (σ : Env) (e : SE) : Bool := (den σ e).b
def SE.same : SE → SE → Bool
 | .var i, .var j => Nat.beq i j
 | .lit n, .lit m => decide (n = m)
 | .blit a, .blit b => a == b
 | .add a b, .add c d => a.same c && b.same d
 | .sub a b, .sub c d => a.same c && b.same d
 | .mul a b, .mul c d => a.same c && b.same d
 | .quo a b, .quo c d => a.same c && b.same d
 | .rem a b, .rem c d => a.same c && b.same d
 | .eq a b, .eq c d => a.same c && b.same d
 | .lt a b, .lt c d => a.same c && b.same d
 | .le a b, .le c d => a.same c && b.same d
 | .no a, .no b => a.same b
 | .ite a b c, .ite d e f => a.same d && b.same e && c.same f
 | .app f k a, .app g l b => Nat.beq f g && Nat.beq k l && a.same b
 | .nil, .nil => true
 | .cons a b, .cons c d => a.same c && b.same d
 | _, _ => false
def mkAdd : SE → SE → SE
 | .lit a, .lit b => .lit (IntKind.i64.wrap (a + b))
 | a, b => .add a b
def mkSub : SE → SE → SE
 | .lit a, .lit b => .lit (IntKind.i64.wrap (a - b))
 | a, b => .sub a b
def mkMul : SE → SE → SE
 | .lit a, .lit b => .lit (IntKind.i64.wrap (a * b))
 | a, b => .mul a b
def mkQuo : SE → SE → SE
 | .lit a, .lit b => .lit (IntKind.i64.wrap (a.tdiv b))
 | a, b => .quo a b
def mkRem : SE → SE → SE
 | .lit a, .lit b => .lit (a.tmod b)
 | a, b => .rem a b
def mkNo : SE → SE
 | .blit b => .blit (!b)
 | .no a => a
 | a => .no a
def mkIteB (c t e : SE) : SE :=
 match c with
 | .blit b => bif b then t else e
 | c => match t, e with
  | .blit true, .blit false => c
  | .blit false, .blit true => mkNo c
  | .blit true, .blit true => .blit true
  | .blit false, .blit false => .blit false
  | t, e => .ite c t e
def mkIteI (c t e : SE) : SE :=
 match c with
 | .blit b => bif b then t else e
 | c => bif t.same e then t else .ite c t e
def selfCmp (op : Int → Int → Bool) (raw : SE → SE → SE) (a b : SE) : SE := bif a.same b then .blit (op 0 0) else raw a b
def cmpLit (op : Int → Int → Bool) (raw : SE → SE → SE) : SE → SE → SE
 | .lit a, .lit b => .blit (op a b)
 | .ite c (.lit a) (.lit b), .lit d => mkIteB c (.blit (op a d)) (.blit (op b d))
 | .lit d, .ite c (.lit a) (.lit b) => mkIteB c (.blit (op d a)) (.blit (op d b))
 | .ite c (.lit a) (.ite c2 (.lit a2) (.lit b2)), .lit d => mkIteB c (.blit (op a d)) (mkIteB c2 (.blit (op a2 d)) (.blit (op b2 d)))
 | .ite c (.ite c2 (.lit a2) (.lit b2)) (.lit a), .lit d => mkIteB c (mkIteB c2 (.blit (op a2 d)) (.blit (op b2 d))) (.blit (op a d))
 | a, b => selfCmp op raw a b
def mkEq : SE → SE → SE := cmpLit (fun a b => a == b) .eq
def mkLt : SE → SE → SE := cmpLit (fun a b => decide (a < b)) .lt
def mkLe : SE → SE → SE := cmpLit (fun a b => decide (a ≤ b)) .le
inductive AV where
 | int (e : SE)
 | bool (e : SE)
 | ptr (a : Option (Nat × Nat))
 | slice (a : Option (Nat × Nat)) (len cap : Nat)
 | func (fn : Fn) (first captured : List AV)
 | nilFunc
 | agg (l : List AV)
 | tuple (l : List AV)
 | raw (i : Nat)
 | any
def AV.undef : AV := .tuple []
def AV.cells : AV → List AV
 | .agg l => l
 | x => [x]
def AV.one : AV → Bool
 | .agg _ | .tuple _ | .any => false
 | _ => true
structure Bk where
 cells : List AV
 elem : TypeId
 own : Bool
abbrev Hp := List (Option Bk)
abbrev Pc := List (SE × Bool)
inductive Tree (α : Type) where
 | leaf (a : α)
 | node (g : SE) (t f : Tree α)
 | fail
def Tree.sel {α : Type} (σ : Env) : Tree α → Option α
 | .leaf a => some a
 | .node g t f => if σ.b g then t.sel σ else f.sel σ
 | .fail => none
def Tree.bind {α β : Type} (pc : Pc) : Tree α → (Pc → α → Tree β) → Tree β
 | .leaf a, k => k pc a
 | .node g t f, k => .node g (t.bind ((g, true) :: pc) k) (f.bind ((g, false) :: pc) k)
 | .fail, _ => .fail
def Tree.map {α β : Type} (f : α → β) : Tree α → Tree β
 | .leaf a => .leaf (f a)
 | .node g s t => .node g (s.map f) (t.map f)
 | .fail => .fail
def known (g : SE) : Pc → Option Bool
 | [] => none
 | (h, b) :: rest => bif h.same g then some b else known g rest
def part {β : Type} (pc : Pc) (g : SE) (k : Pc → Bool → Tree β) : Tree β :=
 match g with
 | .blit b => k pc b
 | .no g => match known g pc with
  | some b => k pc (!b)
  | none => .node g (k ((g, true) :: pc) false) (k ((g, false) :: pc) true)
 | g => match known g pc with
  | some b => k pc b
  | none => .node g (k ((g, true) :: pc) true) (k ((g, false) :: pc) false)
def addrSame : Option (Nat × Nat) → Option (Nat × Nat) → Bool
 | none, none => true
 | some (a, b), some (c, d) => Nat.beq a c && Nat.beq b d
 | _, _ => false
def joinCell (g : SE) : AV → AV → AV
 | .int a, .int b => .int (mkIteI g a b)
 | .bool a, .bool b => .bool (mkIteB g a b)
 | .ptr a, .ptr b => bif addrSame a b then .ptr a else .any
 | .slice a l c, .slice b m d => bif addrSame a b && Nat.beq l m && Nat.beq c d then .slice a l c else .any
 | .nilFunc, .nilFunc => .nilFunc
 | .raw i, .raw j => bif Nat.beq i j then .raw i else .any
 | _, _ => .any
def joinCells (g : SE) : List AV → List AV → Option (List AV)
 | [], [] => some []
 | a :: l, b :: m => (joinCells g l m).map (joinCell g a b :: ·)
 | _, _ => none
def sameFn : Fn → Fn → Bool
 | .func f, .func g => Nat.beq f g
 | _, _ => false
def sameCaptured : List AV → List AV → Bool
 | [], [] => true
 | .ptr a :: l, .ptr b :: m => addrSame a b && sameCaptured l m
 | _, _ => false
def joinFlat (g : SE) : AV → AV → AV
 | .agg l, .agg m => match joinCells g l m with | some x => .agg x | none => .any
 | .func f [] c, .func h [] d => bif sameFn f h && sameCaptured c d then .func f [] c else .any
 | a, b => joinCell g a b
def joinFlats (g : SE) : List AV → List AV → Option (List AV)
 | [], [] => some []
 | a :: l, b :: m => (joinFlats g l m).map (joinFlat g a b :: ·)
 | _, _ => none
def joinAV (g : SE) : AV → AV → AV
 | .tuple l, .tuple m => match joinFlats g l m with | some x => .tuple x | none => .any
 | a, b => joinFlat g a b
def joinAVs (g : SE) : List AV → List AV → Option (List AV)
 | [], [] => some []
 | a :: l, b :: m => (joinAVs g l m).map (joinAV g a b :: ·)
 | _, _ => none
def joinBk (g : SE) : Option Bk → Option Bk → Option Bk
 | some a, some b => bif Nat.beq a.elem b.elem && (a.own == b.own) then (joinCells g a.cells b.cells).map (⟨·, a.elem, a.own⟩) else none
 | _, _ => none
def joinHp (g : SE) : Hp → Hp → Hp
 | a :: l, m => match m with
  | b :: m => joinBk g a b :: joinHp g l m
  | [] => none :: l.map fun _ => none
 | [], m => m.map fun _ => none
structure St where
 tm : List AV
 hp : Hp
def clash : List AV → List AV → Bool
 | .func f _ _ :: l, .func g _ _ :: m => bif sameFn f g then clash l m else true
 | _ :: l, _ :: m => clash l m
 | _, _ => false
def joinSt0 (g : SE) (s t : St) : Option St := (joinAVs g s.tm t.tm).map (⟨·, joinHp g s.hp t.hp⟩)
def joinSt (g : SE) (s t : St) : Option St := bif clash s.tm t.tm then none else joinSt0 g s t
def needLeaf {α : Type} (h : SE) (c : α) : Tree α :=
 match h with
 | .blit true => .leaf c
 | h => .node h (.leaf c) .fail
def asLeaf {α : Type} : Tree α → Option (SE × α)
 | .leaf a => some (.blit true, a)
 | .node g t f => match t, f with
  | .leaf a, .fail => some (g, a)
  | .fail, .leaf a => some (mkNo g, a)
  | _, _ => none
 | .fail => none
def isFail {α : Type} : Tree α → Bool
 | .fail => true
 | _ => false
def joinTwo {α : Type} (j : SE → α → α → Option α) (g : SE) (t f : Tree α) : Tree α :=
 match asLeaf t, asLeaf f with
 | some p, some q => match j g p.2 q.2 with
  | some c => needLeaf (mkIteB g p.1 q.1) c
  | none => .node g t f
 | some p, none => bif isFail f then needLeaf (mkIteB g p.1 (.blit false)) p.2 else .node g t f
 | none, some q => bif isFail t then needLeaf (mkIteB g (.blit false) q.1) q.2 else .node g t f
 | none, none => .node g t f
def Tree.join {α : Type} (j : SE → α → α → Option α) : Tree α → Tree α
 | .leaf a => .leaf a
 | .fail => .fail
 | .node g t f => joinTwo j g (t.join j) (f.join j)
structure TI where
 desc : TypeDesc
 size : Nat
 zero : List Value
def TI.agg (t : TI) : Bool := match t.desc with | .struct _ | .array _ _ => true | _ => false
def TI.zeroV (t : TI) : Value := bif t.agg then .agg t.zero.toArray else t.zero.headD undef
def TyOk (P : Program) (t : TypeId) (ti : TI) : Prop :=
 P.underlying t = some ti.desc ∧ (P.info? t).map (fun i => (i.size, i.zero)) = some (ti.size, some ti.zeroV)
def FnOk (P : Program) (f : Nat) (fn : Func) : Prop :=
 P.funcs[f]? = some fn ∧ (fn.name == "runtime.NumGoroutine") = false ∧ fn.body.isNone = false
structure Con where
 f : Nat
 res : List AV → Hp → Option AV
structure Cx where
 ty : List (Nat × TI)
 fn : List (Nat × Func)
 con : List Con
 inl : List Nat
 eqs : List (Nat × Nat)
def find {α : Type} (n : Nat) : List (Nat × α) → Option α
 | [] => none
 | (m, a) :: rest => bif Nat.beq n m then some a else find n rest
def ofConst1 : Value → Option AV
 | .int .i64 n => some (.int (.lit n))
 | .bool b => some (.bool (.blit b))
 | .pointer none => some (.ptr none)
 | .slice none l c => some (.slice none l c)
 | .nilFunc => some .nilFunc
 | _ => none
def ofConsts : List Value → Option (List AV)
 | [] => some []
 | v :: l => match ofConst1 v, ofConsts l with
  | some a, some m => some (a :: m)
  | _, _ => none
def ofConst : Value → Option AV
 | .agg vs => (ofConsts vs.toList).map .agg
 | v => ofConst1 v
def ev (tm : List AV) : Operand → Option AV
 | .tmp t => tm[t]?
 | .const v => ofConst v
 | .func f => some (.func (.func f) [] [])
 | .global _ => none
def evs (tm : List AV) : List Operand → Option (List AV)
 | [] => some []
 | x :: l => match ev tm x, evs tm l with
  | some a, some m => some (a :: m)
  | _, _ => none
inductive Eff where
 | val (v : AV)
 | new (v : AV) (b : Bk)
 | st (n off : Nat) (cs : List AV)
 | out (v : AV) (h : Hp)
def partOf (cx : Cx) (t : TypeId) (cs : List AV) (off : Nat) : Option AV :=
 match find t cx.ty with
 | some ti => bif ti.agg then (bif Nat.ble (off + ti.size) cs.length then some (.agg ((cs.drop off).take ti.size)) else none) else cs[off]?
 | none => none
def fill (place : Nat → Option (Nat × Nat)) (cells : List AV) : List (Nat × AV) → Option (List AV)
 | [] => some cells
 | (i, v) :: rest =>
  match place i with
  | none => none
  | some (off, size) =>
   bif Nat.beq v.cells.length size && Nat.ble (off + size) cells.length then
    fill place (cells.take off ++ v.cells ++ cells.drop (off + size)) rest
   else none
def zeros (cx : Cx) (t : TypeId) : Option (List AV) := (find t cx.ty).bind fun ti => bif ti.agg || Nat.beq ti.zero.length 1 then ofConsts ti.zero else none
def sizeOf (cx : Cx) (t : TypeId) : Option Nat := (find t cx.ty).map (·.size)
def descOf (cx : Cx) (t : TypeId) : Option TypeDesc := (find t cx.ty).map (·.desc)
def evParts (tm : List AV) : List (Nat × Operand) → Option (List (Nat × AV))
 | [] => some []
 | (i, x) :: l => match ev tm x, evParts tm l with
  | some a, some m => some ((i, a) :: m)
  | _, _ => none
def oneAll : List AV → Bool
 | [] => true
 | a :: l => a.one && oneAll l
def oneParts : List (Nat × AV) → Bool
 | [] => true
 | p :: l => oneAll p.2.cells && oneParts l
def readAt (h : Hp) (n off size : Nat) : Option (List AV) :=
 match h[n]? with
 | some (some b) => bif Nat.ble (off + size) b.cells.length then some ((b.cells.drop off).take size) else none
 | _ => none
def allInts : List AV → Option (List SE)
 | [] => some []
 | .int e :: l => (allInts l).map (e :: ·)
 | _ :: _ => none
def eqAll : List SE → List SE → SE
 | a :: l, b :: m => mkIteB (mkEq a b) (eqAll l m) (.blit false)
 | _, _ => .blit true
def among {β : Type} (pc : Pc) (e : SE) (n : Nat) (k : Pc → Nat → Tree β) : Tree β :=
 match e with
 | .lit i => bif decide (0 ≤ i) && decide (i < (n : Int)) then k pc i.toNat else .fail
 | e => go pc e n 0 n k
where
 go (pc : Pc) (e : SE) (n i : Nat) : Nat → (Pc → Nat → Tree β) → Tree β
  | 0, _ => .fail
  | m + 1, k => part pc (mkEq e (.lit i)) fun pc yes => bif yes then k pc i else go pc e n (i + 1) m k
def ofOption {β : Type} : Option β → Tree β
 | some b => .leaf b
 | none => .fail
def val' (v : Option AV) : Tree Eff := ofOption (v.map .val)
def binInt (cx : Cx) (pc : Pc) (op : BinOp) (a b : SE) : Tree Eff :=
 match op with
 | .add => .leaf (.val (.int (mkAdd a b)))
 | .sub => .leaf (.val (.int (mkSub a b)))
 | .mul => .leaf (.val (.int (mkMul a b)))
 | .quo => part pc (mkEq b (.lit 0)) fun _ z => bif z then .fail else .leaf (.val (.int (mkQuo a b)))
 | .rem => part pc (mkEq b (.lit 0)) fun _ z => bif z then .fail else .leaf (.val (.int (mkRem a b)))
 | .eql => .leaf (.val (.bool (mkEq a b)))
 | .neq => .leaf (.val (.bool (mkNo (mkEq a b))))
 | .lss => .leaf (.val (.bool (mkLt a b)))
 | .leq => .leaf (.val (.bool (mkLe a b)))
 | .gtr => .leaf (.val (.bool (mkLt b a)))
 | .geq => .leaf (.val (.bool (mkLe b a)))
 | _ => .fail
def binAgg (cx : Cx) (t : TypeId) (op : BinOp) (l m : List AV) : Option AV :=
 match find t cx.eqs, allInts l, allInts m with
 | some n, some a, some b =>
  bif Nat.beq a.length n && Nat.beq b.length n then
   match op with
   | .eql => some (.bool (eqAll a b))
   | .neq => some (.bool (mkNo (eqAll a b)))
   | _ => none
  else none
 | _, _, _ => none
def minE (a b : SE) : SE := mkIteI (mkLt b a) b a
def maxE (a b : SE) : SE := mkIteI (mkLt a b) b a
def foldE (f : SE → SE → SE) : SE → List SE → SE
 | x, [] => x
 | x, y :: l => foldE f (f x y) l
def fieldsOf (cx : Cx) (t : TypeId) : Option (Array Field) :=
 match descOf cx t with
 | some (.struct fs) => some fs
 | _ => none
def placeOf (cx : Cx) (fs : Array Field) (i : Nat) : Option (Nat × Nat) :=
 match fs.toList[i]? with
 | some f => (sizeOf cx f.type).map fun s => (f.offset, s)
 | none => none
def fieldsKnown (cx : Cx) : List Field → Bool
 | [] => true
 | f :: l => (find f.type cx.ty).isSome && fieldsKnown cx l
def evOpt (tm : List AV) : Option Operand → Option (Option AV)
 | none => some none
 | some x => (ev tm x).map some
def rep {α : Type} (l : List α) : Nat → List α
 | 0 => []
 | n + 1 => l ++ rep l n
def weaken (h : Hp) : Hp := h.map fun b => b.map fun b => { b with own := false }
def isIn (h : Hp) (m : Nat) : Bool := match h[m]? with
 | some (some _) => true
 | _ => false
def namesIn (h : Hp) : List AV → Bool
 | [] => true
 | .ptr (some (m, _)) :: l => isIn h m && namesIn h l
 | .slice (some (m, _)) _ _ :: l => isIn h m && namesIn h l
 | .func _ _ _ :: _ => false
 | .agg _ :: _ => false
 | .tuple _ :: _ => false
 | _ :: l => namesIn h l
def namesIn1 (h : Hp) : AV → Bool
 | .agg l => namesIn h l
 | a => namesIn h [a]
def namesIn1s (h : Hp) : List AV → Bool
 | [] => true
 | a :: l => namesIn1 h a && namesIn1s h l
def namesIn2 (h : Hp) : AV → Bool
 | .tuple l => namesIn1s h l
 | a => namesIn1 h a
def aop (cx : Cx) (callf : Bool → Nat → Pc → List AV → Hp → Tree (AV × Hp)) (pc : Pc) (nm : Nat) (tm : List AV) (h : Hp) (o : Oper) : Tree Eff :=
 match o.op with
 | .move x | .assign x => val' (ev tm x)
 | .pick c a b =>
  match ev tm c with
  | some (.bool e) => part pc e fun _ t => val' (ev tm (bif t then a else b))
  | _ => .fail
 | .alloc t => ofOption ((zeros cx t).map fun z => .new (.ptr (some (nm, 0))) ⟨z, t, true⟩)
 | .box t x => ofOption ((ev tm x).bind fun v => bif oneAll v.cells then some (.new (.ptr (some (nm, 0))) ⟨v.cells, t, true⟩) else none)
 | .build t ps =>
  match evParts tm ps.toList, zeros cx t, descOf cx t with
  | some ps, some z, some (.struct fs) => bif fieldsKnown cx fs.toList && oneParts ps then val' ((fill (placeOf cx fs) z ps).map .agg) else .fail
  | some ps, some z, some (.array _ e) => match sizeOf cx e with
   | some s => bif oneParts ps then val' ((fill (fun i => some (i * s, s)) z ps).map .agg) else .fail
   | none => .fail
  | _, _, _ => .fail
 | .buildSlice t len ps =>
  match evParts tm ps.toList, descOf cx t with
  | some ps, some (.slice e) => match sizeOf cx e, zeros cx e with
   | some s, some z =>
    bif Nat.beq z.length s && Nat.ble (len * s) 16777216 && Nat.blt 0 (len * s) && oneParts ps then
     ofOption ((fill (fun i => some (i * s, s)) (rep z len) ps).bind fun cs => bif oneAll cs then some (.new (.slice (some (nm, 0)) len len) ⟨cs, e, true⟩) else none)
    else .fail
   | _, _ => .fail
  | _, _ => .fail
 | .load t x =>
  match ev tm x, find t cx.ty with
  | some (.ptr (some (n, off))), some ti =>
   bif ti.agg then val' ((readAt h n off ti.size).map .agg)
   else match readAt h n off 1 with
    | some [c] => .leaf (.val c)
    | _ => .fail
  | _, _ => .fail
 | .store t x y =>
  match ev tm x, ev tm y, sizeOf cx t with
  | some (.ptr (some (n, off))), some v, some s =>
   match h[n]? with
   | some (some b) => bif b.own && Nat.beq v.cells.length s && Nat.ble (off + s) b.cells.length && oneAll v.cells then .leaf (.st n off v.cells) else .fail
   | _ => .fail
  | _, _, _ => .fail
 | .nilCheck x =>
  match ev tm x with
  | some (.ptr (some a)) => .leaf (.val (.ptr (some a)))
  | some (.func (.func f) a c) => .leaf (.val (.func (.func f) a c))
  | _ => .fail
 | .binOp op t x y _ =>
  match ev tm x, ev tm y with
  | some (.int a), some (.int b) => binInt cx pc op a b
  | some (.agg l), some (.agg m) => val' (binAgg cx t op l m)
  | some (.bool a), some (.bool b) => match descOf cx t, op with
   | some .bool, .eql => .leaf (.val (.bool (mkIteB a b (mkNo b))))
   | some .bool, .neq => .leaf (.val (.bool (mkIteB a (mkNo b) b)))
   | _, _ => .fail
  | _, _ => .fail
 | .unOp op _ x =>
  match op, ev tm x with
  | .neg, some (.int a) => .leaf (.val (.int (mkSub (.lit 0) a)))
  | .not, some (.bool a) => .leaf (.val (.bool (mkNo a)))
  | _, _ => .fail
 | .fieldAddr t x f =>
  match ev tm x, (fieldsOf cx t).bind (·.toList[f]?) with
  | some (.ptr (some (n, off))), some fd => match sizeOf cx fd.type with
   | some s => bif Nat.blt 0 s then .leaf (.val (.ptr (some (n, off + fd.offset)))) else .fail
   | none => .fail
  | _, _ => .fail
 | .field t x f =>
  match ev tm x, (fieldsOf cx t).bind (·.toList[f]?) with
  | some (.agg cs), some fd => val' (partOf cx fd.type cs fd.offset)
  | _, _ => .fail
 | .indexAddr t x ix =>
  match ev tm x, ev tm ix, descOf cx t with
  | some (.ptr (some (n, off))), some (.int e), some (.array len el) =>
   match sizeOf cx el with
   | some s => among pc e len fun _ i => .leaf (.val (.ptr (some (n, off + i * s))))
   | none => .fail
  | some (.slice (some (n, off)) len _), some (.int e), some (.slice el) =>
   match sizeOf cx el with
   | some s => among pc e len fun _ i => .leaf (.val (.ptr (some (n, off + i * s))))
   | none => .fail
  | _, _, _ => .fail
 | .index t x ix =>
  match ev tm x, ev tm ix, descOf cx t with
  | some (.agg cs), some (.int e), some (.array len el) =>
   match sizeOf cx el with
   | some s => among pc e len fun _ i => val' (partOf cx el cs (i * s))
   | none => .fail
  | _, _, _ => .fail
 | .slice t x lo hi none =>
  match ev tm x, evOpt tm lo, evOpt tm hi, descOf cx t with
  | some (.ptr (some (n, off))), some none, some none, some (.array len el) => match sizeOf cx el with
   | some _ => bif Nat.blt 0 len then .leaf (.val (.slice (some (n, off)) len len)) else .fail
   | none => .fail
  | _, _, _, _ => .fail
 | .extract x i =>
  match ev tm x with
  | some (.tuple l) => val' (l[i]?)
  | _ => .fail
 | .makeFunc (.func f) a c =>
  match evs tm a.toList, evs tm c.toList with
  | some a, some c => .leaf (.val (.func (.func f) a c))
  | _, _ => .fail
 | .convert s d x =>
  match ev tm x, descOf cx s, descOf cx d with
  | some (.int e), some _, some (.int .i64) => .leaf (.val (.int (mkAdd e (.lit 0))))
  | _, _, _ => .fail
 | .call { callee := .builtin b, args, argTypes } =>
  match evs tm args.toList with
  | some vs => match b, vs with
   | .len, [.slice _ l _] => match (argTypes[0]?).bind (descOf cx) with
    | some (.slice _) => .leaf (.val (.int (.lit l)))
    | _ => .fail
   | .min, vs => match allInts vs with
    | some (e :: l) => .leaf (.val (.int (foldE minE e l)))
    | _ => .fail
   | .max, vs => match allInts vs with
    | some (e :: l) => .leaf (.val (.int (foldE maxE e l)))
    | _ => .fail
   | _, _ => .fail
  | none => .fail
 | .call { callee := .value f, args, .. } =>
  match ev tm f, evs tm args.toList with
  | some (.func (.func f) first captured), some vs =>
   match find f cx.fn with
   | some _ =>
    bif cx.inl.contains f then (callf true f pc (first ++ vs ++ captured) h).map fun r => .out r.1 r.2
    else (callf false f pc (first ++ vs ++ captured) h).map fun r => .val r.1
   | none => .fail
  | _, _ => .fail
 | _ => .fail
def isStore : Op → Bool
 | .store .. => true
 | _ => false
def isRead : Op → Bool
 | .load .. | .call _ | .store .. => true
 | _ => false
def befores : List Oper → List Nat → List Nat
 | [], acc => acc
 | o :: l, acc => befores l (acc ++ [o.after.toList.foldl (fun s e => bif Region.binds .any e then s ||| 2 ^ e.on ||| acc.getD e.on 0 else s) 0])
def looks (ops : List Oper) (o : Oper) : List Nat :=
 (o.op.operands.toList.filterMap fun | .tmp t => some t | _ => none) ++
 (match o.guard with
  | some (g, _) => ((ops[g]?).bind (·.dst)).toList
  | none => [])
def stOk (x y : Op) (tx ty : Option Nat) : Bool :=
 !(isStore x && isRead y) || (match tx with
  | none => false
  | some n => !isStore y || (match ty with
   | some m => !(Nat.beq n m)
   | none => false))
def apart (ops : List Oper) (x y : Oper) (tx ty : Option Nat) : Bool :=
 (match x.dst with
  | some d => !(looks ops y).contains d && !(y.dst == some d)
  | none => true) &&
 (match y.dst with
  | some d => !(looks ops x).contains d
  | none => true) &&
 stOk x.op y.op tx ty && stOk y.op x.op ty tx
def pairsOk (ops : List Oper) (bs : List Nat) (tg : List (Option Nat)) (j : Nat) (y : Oper) : Nat → List Oper → Bool
 | i, [] => true
 | i, x :: l => (Nat.ble j i || (bs.getD j 0).testBit i || apart ops x y (tg.getD i none) (tg.getD j none)) && pairsOk ops bs tg j y (i + 1) l
def drawOkAt (ops : List Oper) (bs : List Nat) (tg : List (Option Nat)) : Nat → List Oper → Bool
 | _, [] => true
 | j, y :: l => pairsOk ops bs tg j y 0 ops && drawOkAt ops bs tg (j + 1) l
def edgesOk : Nat → List Oper → Bool
 | _, [] => true
 | j, o :: l => o.after.toList.all (fun e => !Region.binds .any e || Nat.blt e.on j) && edgesOk (j + 1) l
def defOf (t : Nat) : List Oper → Option Op
 | [] => none
 | o :: l => match o.dst with
  | some d => bif Nat.beq d t then some o.op else defOf t l
  | none => defOf t l
def ptrBlk (l : List Oper) (tm : List AV) : Nat → Operand → Option Nat
 | 0, _ => none
 | n + 1, x => match (match x with | .tmp t => defOf t l | _ => none) with
  | some (.indexAddr _ y _) => ptrBlk l tm n y
  | some (.fieldAddr _ y _) => ptrBlk l tm n y
  | some (.move y) => ptrBlk l tm n y
  | some _ => none
  | none => match ev tm x with
   | some (.ptr (some (b, _))) => some b
   | _ => none
def tgtOf (l : List Oper) (tm : List AV) (o : Oper) : Option Nat :=
 match o.op with
 | .store _ x _ => ptrBlk l tm 4 x
 | _ => none
def hid (bs : List Nat) (tg : List (Option Nat)) (j m : Nat) : Nat → Bool
 | 0 => false
 | k + 1 => (!(Nat.beq k j) && !((bs.getD j 0).testBit k) && !((bs.getD k 0).testBit j) && (match tg.getD k none with | some n => Nat.beq n m | none => false)) || hid bs tg j m k
def sees (bs : List Nat) (tg : List (Option Nat)) (h0 j m : Nat) : Bool := (Nat.blt m h0 || (bs.getD j 0).testBit (m - h0)) && !hid bs tg j m tg.length
def maskH (v : Nat → Bool) : Nat → Hp → Hp
 | _, [] => []
 | i, b :: l => (bif v i then b else none) :: maskH v (i + 1) l
def wants {β : Type} (pc : Pc) (ops : List Oper) (tm : List AV) (o : Oper) (k : Pc → Bool → Tree β) : Tree β :=
 match o.guard with
 | none => k pc true
 | some (g, want) => match ((ops[g]?).bind (·.dst)).bind (tm[·]?) with
  | some (.bool e) => part pc e fun pc b => k pc (b == want)
  | some (.tuple []) => k pc false
  | some (.int _) => k pc false
  | _ => .fail
def putT (tm : List AV) : Option Tmp → AV → List AV
 | some d, v => tm.set d v
 | none, _ => tm
def putH (h : Hp) (n off : Nat) (cs : List AV) : Hp :=
 match h[n]? with
 | some (some b) => h.set n (some { b with cells := b.cells.take off ++ cs ++ b.cells.drop (off + cs.length) })
 | _ => h
def Eff.on (nm : Nat) (dst : Option Tmp) (e : Eff) (s : St) : St :=
 match e with
 | .val v => ⟨putT s.tm dst v, s.hp⟩
 | .new v b => ⟨putT s.tm dst v, s.hp.set nm (some b)⟩
 | .st n off cs => ⟨putT s.tm dst .undef, putH s.hp n off cs⟩
 | .out v h => ⟨putT s.tm dst v, h⟩
def Eff.room (e : Eff) (h : Hp) : Hp :=
 match e with
 | .new _ _ => h ++ [none]
 | _ => h
def aplain (cx : Cx) (callf : Bool → Nat → Pc → List AV → Hp → Tree (AV × Hp)) (ops : List Oper) : List Oper → Pc → St → Tree St
 | [], _, s => .leaf s
 | o :: l, pc, s =>
  wants pc ops s.tm o fun pc yes =>
   bif yes then
    (aop cx callf pc s.hp.length s.tm s.hp o).bind pc fun pc e => aplain cx callf ops l pc (e.on s.hp.length o.dst ⟨s.tm, e.room s.hp⟩)
   else aplain cx callf ops l pc ⟨putT s.tm o.dst .undef, s.hp⟩
def drawnEff (o : Oper) (t : Option Nat) (h0 m : Nat) : Eff → Bool
 | .out .. => false
 | .st n _ _ => isStore o.op && (Nat.blt n h0 || m.testBit (n - h0)) && (match t with | none => true | some k => Nat.beq k n)
 | _ => true
def adraw (cx : Cx) (callf : Bool → Nat → Pc → List AV → Hp → Tree (AV × Hp)) (ops : List Oper) (bs : List Nat) (tg : List (Option Nat)) (h0 : Nat) : Nat → List Oper → Pc → St → Tree St
 | _, [], _, s => .leaf s
 | j, o :: l, pc, s =>
  wants pc ops s.tm o fun pc yes =>
   bif yes then
    (aop cx callf pc (h0 + j) s.tm (bif isRead o.op then maskH (sees bs tg h0 j) 0 s.hp else s.hp.map fun _ => none) o).bind pc fun pc e =>
     bif drawnEff o (tg.getD j none) h0 (bs.getD j 0) e then adraw cx callf ops bs tg h0 (j + 1) l pc (e.on (h0 + j) o.dst s) else .fail
   else adraw cx callf ops bs tg h0 (j + 1) l pc ⟨putT s.tm o.dst .undef, s.hp⟩
inductive Ex where
 | normal
 | exit (id : Nat)
 | ret
def Ex.same : Ex → Ex → Bool
 | .normal, .normal => true
 | .exit a, .exit b => Nat.beq a b
 | .ret, .ret => true
 | _, _ => false
def joinEx (g : SE) (a b : Ex × St) : Option (Ex × St) := bif a.1.same b.1 then (joinSt g a.2 b.2).map (fun s => (a.1, s)) else none
def guardsLt (N : Nat) : List Oper → Bool
 | [] => true
 | o :: l => (match o.guard with | some (g, _) => Nat.blt g N | none => true) && guardsLt N l
def allBits (m : Nat) : Nat → Bool
 | 0 => true
 | n + 1 => m.testBit n && allBits m n
def splitLast : List Oper → Option (List Oper × Oper)
 | [] => none
 | o :: l => match splitLast l with
  | none => some ([], o)
  | some p => some (o :: p.1, p.2)
def valCall (o : Oper) : Bool := match o.op, o.guard with
 | .call { callee := .value (.tmp _), .. }, none => true
 | _, _ => false
def lastCall (cx : Cx) (l : List Oper) : Option (List Oper × Oper) :=
 bif cx.inl.isEmpty then none else
  match splitLast l with
  | none => none
  | some p => bif valCall p.2 && edgesOk 0 l && allBits ((befores l []).getD p.1.length 0) p.1.length && guardsLt p.1.length p.1 then some p else none
def aregion (cx : Cx) (callf : Bool → Nat → Pc → List AV → Hp → Tree (AV × Hp)) (l : List Oper) (pc : Pc) (s : St) : Tree St :=
 let bs := befores l []
 let tg := l.map (tgtOf l s.tm)
 bif edgesOk 0 l && drawOkAt l bs tg 0 l then adraw cx callf l bs tg s.hp.length 0 l pc ⟨s.tm, s.hp ++ List.replicate l.length none⟩ else .fail
def aexec (cx : Cx) (callf : Bool → Nat → Pc → List AV → Hp → Tree (AV × Hp)) : Nat → Code → Pc → St → Tree (Ex × St)
 | 0, _, _, _ => .fail
 | n + 1, c, pc, s =>
  match c with
  | .skip => .leaf (.normal, s)
  | .region _ ops false => ((aplain cx callf ops.toList ops.toList pc s).join joinSt).map fun s => (.normal, s)
  | .region _ ops true => ((match lastCall cx ops.toList with
   | some p => (aregion cx callf p.1 pc s).bind pc fun pc s1 => aplain cx callf ops.toList [p.2] pc s1
   | none => aregion cx callf ops.toList pc s).join joinSt).map fun s => (.normal, s)
  | .seq x y => (aexec cx callf n x pc s).bind pc fun pc r => match r with
   | (.normal, s) => aexec cx callf n y pc s
   | (e, s) => .leaf (e, s)
  | .cond c x y => match ev s.tm c with
   | some (.bool e) => (part pc e fun pc b => bif b then aexec cx callf n x pc s else aexec cx callf n y pc s).join joinEx
   | _ => .fail
  | .block id x => ((aexec cx callf n x pc s).map fun r => match r with
   | (.exit i, s) => bif Nat.beq i id then (.normal, s) else (.exit i, s)
   | r => r).join joinEx
  | .loop x => (aexec cx callf n x pc s).bind pc fun pc r => match r with
   | (.normal, s) => aexec cx callf n (.loop x) pc s
   | (e, s) => .leaf (e, s)
  | .exit id => .leaf (.exit id, s)
  | .ret => .leaf (.ret, s)
  | _ => .fail
def aresult (cx : Cx) (s : St) : List ResultVar → Option (List AV)
 | [] => some []
 | .tmp t :: l => match s.tm[t]?, aresult cx s l with
  | some v, some m => some (v :: m)
  | _, _ => none
 | .cell a t :: l => match s.tm[a]?, find t cx.ty, aresult cx s l with
  | some (.ptr (some (n, off))), some ti, some m =>
   bif ti.agg then (readAt s.hp n off ti.size).map fun cs => .agg cs :: m
   else match readAt s.hp n off 1 with
    | some [c] => some (c :: m)
    | _ => none
  | _, _, _ => none
def tuple1 : List AV → AV
 | [v] => v
 | l => .tuple l
def joinRet (g : SE) (a b : AV × Hp) : Option (AV × Hp) := some (joinAV g a.1 b.1, joinHp g a.2 b.2)
def findCon (f : Nat) (vs : List AV) (h : Hp) : List Con → Option AV
 | [] => none
 | c :: l => bif Nat.beq c.f f then (match c.res vs h with | some v => some v | none => findCon f vs h l) else findCon f vs h l
def abody (cx : Cx) (callf : Bool → Nat → Pc → List AV → Hp → Tree (AV × Hp)) (f : Nat) (pc : Pc) (vs : List AV) (h : Hp) : Tree (AV × Hp) :=
 match find f cx.fn with
 | some fn => match fn.body with
  | some c =>
   ((aexec cx callf 100000 c pc ⟨vs ++ List.replicate (fn.ntmps - vs.length) .undef, h⟩).bind pc fun _ r =>
    match r with
    | (.exit _, _) => .fail
    | (_, s) => ofOption ((aresult cx s fn.results.toList).map fun l => (tuple1 l, s.hp))).join joinRet
  | none => .fail
 | none => .fail
def acall (cx : Cx) : Nat → Bool → Nat → Pc → List AV → Hp → Tree (AV × Hp)
 | 0, _, _, _, _, _ => .fail
 | d + 1, all, f, pc, vs, h =>
  bif all then abody cx (acall cx d) f pc vs h
  else match findCon f vs h cx.con with
   | some v => .leaf (v, h)
   | none => (abody cx (acall cx d) f pc vs (weaken h)).bind pc fun _ r =>
    bif namesIn2 h r.1 then .leaf (r.1, h) else .fail
end Go.Proofs.YtlfoglklibhbnaaGreat.Sx
namespace Go.Proofs.YtlfoglklibhbnaaGreat.Sx
theorem SE.same_eq : ∀ {a b : SE}, a.same b = true → a = b := by
 intro a
 induction a <;> intro b h <;> cases b <;> simp_all [SE.same] <;> (try (simp only [Nat.beq_eq_true_eq] at h; simp_all)) <;> grind
section
variable (σ : Env)
theorem i_add (a b : SE) : σ.i (mkAdd a b) = IntKind.i64.wrap (σ.i a + σ.i b) := by unfold mkAdd; split <;> rfl
theorem i_sub (a b : SE) : σ.i (mkSub a b) = IntKind.i64.wrap (σ.i a - σ.i b) := by unfold mkSub; split <;> rfl
theorem i_mul (a b : SE) : σ.i (mkMul a b) = IntKind.i64.wrap (σ.i a * σ.i b) := by unfold mkMul; split <;> rfl
theorem i_quo (a b : SE) : σ.i (mkQuo a b) = IntKind.i64.wrap ((σ.i a).tdiv (σ.i b)) := by unfold mkQuo; split <;> rfl
theorem i_rem (a b : SE) : σ.i (mkRem a b) = (σ.i a).tmod (σ.i b) := by unfold mkRem; split <;> rfl
theorem b_no (a : SE) : σ.b (mkNo a) = !σ.b a := by
 unfold mkNo; split
 ·rfl
 ·simp [Env.b, den]
 ·rfl
theorem b_ite (c t e : SE) : σ.b (mkIteB c t e) = if σ.b c then σ.b t else σ.b e := by
 unfold mkIteB; split
 ·rename_i b; cases b <;> rfl
 ·split
  ·simp [Env.b, den]
  ·simp only [b_no]; simp [Env.b, den]
  ·simp [Env.b, den]
  ·simp [Env.b, den]
  ·rfl
theorem i_ite (c t e : SE) : σ.i (mkIteI c t e) = if σ.b c then σ.i t else σ.i e := by
 unfold mkIteI; split
 ·rename_i b; cases b <;> rfl
 ·cases h : t.same e
  ·rfl
  ·have := SE.same_eq h; subst this; simp
theorem b_self (op : Int → Int → Bool) (raw : SE → SE → SE) (h : ∀ a b, σ.b (raw a b) = op (σ.i a) (σ.i b)) (hr : ∀ x, op x x = op 0 0) (a b : SE) : σ.b (selfCmp op raw a b) = op (σ.i a) (σ.i b) := by
 unfold selfCmp
 cases hs : a.same b
 ·exact h _ _
 ·have := SE.same_eq hs; subst this
  exact (hr _).symm
theorem b_cmp (op : Int → Int → Bool) (raw : SE → SE → SE) (h : ∀ a b, σ.b (raw a b) = op (σ.i a) (σ.i b)) (hr : ∀ x, op x x = op 0 0) (a b : SE) : σ.b (cmpLit op raw a b) = op (σ.i a) (σ.i b) := by
 unfold cmpLit; split
 ·rfl
 ·rw [b_ite]; simp only [Env.i, Env.b, den]; split <;> rfl
 ·rw [b_ite]; simp only [Env.i, Env.b, den]; split <;> rfl
 ·simp only [b_ite]; simp only [Env.i, Env.b, den]; split <;> (try split) <;> rfl
 ·simp only [b_ite]; simp only [Env.i, Env.b, den]; split <;> (try split) <;> rfl
 ·exact b_self σ op raw h hr _ _
theorem b_eq (a b : SE) : σ.b (mkEq a b) = (σ.i a == σ.i b) := b_cmp σ _ _ (fun _ _ => rfl) (fun x => by simp) a b
theorem b_lt (a b : SE) : σ.b (mkLt a b) = decide (σ.i a < σ.i b) := b_cmp σ _ _ (fun _ _ => rfl) (fun x => by simp) a b
theorem b_le (a b : SE) : σ.b (mkLe a b) = decide (σ.i a ≤ σ.i b) := b_cmp σ _ _ (fun _ _ => rfl) (fun x => by simp) a b
end
def pcOk (σ : Env) (pc : Pc) : Prop := ∀ p ∈ pc, σ.b p.1 = p.2
theorem pcOk.nil (σ : Env) : pcOk σ [] := fun _ h => by cases h
theorem pcOk.cons {σ : Env} {pc : Pc} (h : pcOk σ pc) {g : SE} {b : Bool} (hg : σ.b g = b) : pcOk σ ((g, b) :: pc) :=
 List.forall_mem_cons.2 ⟨hg, h⟩
theorem known_ok {σ : Env} {g : SE} {b : Bool} : ∀ {pc : Pc}, pcOk σ pc → known g pc = some b → σ.b g = b
 | [], _, h => by simp [known] at h
 | (h', b') :: rest, hp, h => by
  unfold known at h
  cases hs : h'.same g
  ·simp only [hs, cond_false] at h
   exact known_ok (List.forall_mem_cons.1 hp).2 h
  ·simp only [hs, cond_true] at h
   have := SE.same_eq hs; subst this
   simp at h; subst h
   exact (List.forall_mem_cons.1 hp).1
theorem sel_bind {α β : Type} {σ : Env} {k : Pc → α → Tree β} {b : β} : ∀ {t : Tree α} {pc : Pc}, pcOk σ pc → (t.bind pc k).sel σ = some b →
  ∃ a pc', pcOk σ pc' ∧ t.sel σ = some a ∧ (k pc' a).sel σ = some b
 | .leaf a, pc, hp, h => ⟨a, pc, hp, rfl, h⟩
 | .fail, pc, hp, h => by simp [Tree.bind, Tree.sel] at h
 | .node g t f, pc, hp, h => by
  simp only [Tree.bind, Tree.sel] at h
  cases hg : σ.b g
  ·simp only [hg, Bool.false_eq_true, if_false] at h
   obtain ⟨a, pc', h1, h2, h3⟩ := sel_bind (hp.cons hg) h
   exact ⟨a, pc', h1, by simp [Tree.sel, hg, h2], h3⟩
  ·simp only [hg, if_true] at h
   obtain ⟨a, pc', h1, h2, h3⟩ := sel_bind (hp.cons hg) h
   exact ⟨a, pc', h1, by simp [Tree.sel, hg, h2], h3⟩
theorem sel_map {α β : Type} {σ : Env} {f : α → β} {b : β} : ∀ {t : Tree α}, (t.map f).sel σ = some b → ∃ a, t.sel σ = some a ∧ f a = b
 | .leaf a, h => ⟨a, rfl, by simpa [Tree.map, Tree.sel] using h⟩
 | .fail, h => by simp [Tree.map, Tree.sel] at h
 | .node g t s, h => by
  simp only [Tree.map, Tree.sel] at h
  cases hg : σ.b g
  ·simp only [hg, Bool.false_eq_true, if_false] at h
   obtain ⟨a, h1, h2⟩ := sel_map h
   exact ⟨a, by simp [Tree.sel, hg, h1], h2⟩
  ·simp only [hg, if_true] at h
   obtain ⟨a, h1, h2⟩ := sel_map h
   exact ⟨a, by simp [Tree.sel, hg, h1], h2⟩
theorem sel_part {β : Type} {σ : Env} {pc : Pc} {g : SE} {k : Pc → Bool → Tree β} {b : β} (hp : pcOk σ pc) (h : (part pc g k).sel σ = some b) :
  ∃ pc', pcOk σ pc' ∧ (k pc' (σ.b g)).sel σ = some b := by
 unfold part at h
 split at h
 ·exact ⟨pc, hp, h⟩
 ·rename_i g
  split at h
  ·rename_i b' hk
   have := known_ok hp hk
   refine ⟨pc, hp, ?_⟩
   have e : σ.b (.no g) = !b' := by simp only [Env.b, den] at *; rw [this]
   rw [e]; exact h
  ·simp only [Tree.sel] at h
   cases hg : σ.b g
   ·simp only [hg, Bool.false_eq_true, if_false] at h
    refine ⟨_, hp.cons hg, ?_⟩
    have e : σ.b (.no g) = true := by simp only [Env.b, den] at *; rw [hg]; rfl
    rw [e]; exact h
   ·simp only [hg, if_true] at h
    refine ⟨_, hp.cons hg, ?_⟩
    have e : σ.b (.no g) = false := by simp only [Env.b, den] at *; rw [hg]; rfl
    rw [e]; exact h
 ·split at h
  ·rename_i b' hk
   have := known_ok hp hk
   exact ⟨pc, hp, by rw [this]; exact h⟩
  ·simp only [Tree.sel] at h
   cases hg : σ.b g
   ·simp only [hg, Bool.false_eq_true, if_false] at h
    exact ⟨_, hp.cons hg, h⟩
   ·simp only [hg, if_true] at h
    exact ⟨_, hp.cons hg, h⟩
theorem sel_needLeaf {α : Type} {σ : Env} {h : SE} {c d : α} (hs : (needLeaf h c).sel σ = some d) : σ.b h = true ∧ c = d := by
 unfold needLeaf at hs
 split at hs
 ·exact ⟨rfl, by simpa [Tree.sel] using hs⟩
 ·simp only [Tree.sel] at hs
  cases hb : σ.b h
  ·simp [hb] at hs
  ·simp only [hb, if_true, Option.some.injEq] at hs; exact ⟨rfl, hs⟩
theorem asLeaf_sel {α : Type} {σ : Env} {t : Tree α} {p : SE × α} (h : asLeaf t = some p) (hp : σ.b p.1 = true) : t.sel σ = some p.2 := by
 unfold asLeaf at h
 split at h
 ·simp only [Option.some.injEq] at h; subst h; rfl
 ·split at h
  ·simp only [Option.some.injEq] at h; subst h
   simp only [Tree.sel]; rw [if_pos hp]
  ·simp only [Option.some.injEq] at h; subst h
   rw [b_no] at hp
   simp only [Tree.sel]
   rw [if_neg (by simpa using hp)]
  ·cases h
 ·cases h
theorem sel_joinTwo {α : Type} {σ : Env} {j : SE → α → α → Option α} (R : α → Prop)
  (hj : ∀ g a b c, j g a b = some c → R (if σ.b g then a else b) → R c) {g : SE} {t f : Tree α} {c : α} (h : (joinTwo j g t f).sel σ = some c) :
  ∃ a, (if σ.b g then t.sel σ else f.sel σ) = some a ∧ (R a → R c) := by
 have plain : (Tree.node g t f).sel σ = some c → ∃ a, (if σ.b g then t.sel σ else f.sel σ) = some a ∧ (R a → R c) := fun h => ⟨c, h, id⟩
 unfold joinTwo at h
 split at h
 ·rename_i p q hp hq
  split at h
  ·rename_i c' hc
   obtain ⟨h1, rfl⟩ := sel_needLeaf h
   rw [b_ite] at h1
   refine ⟨if σ.b g then p.2 else q.2, ?_, fun hr => hj g _ _ _ hc hr⟩
   cases hg : σ.b g
   ·rw [hg] at h1
    simp only [Bool.false_eq_true, if_false] at h1 ⊢
    exact asLeaf_sel hq h1
   ·rw [hg] at h1
    simp only [if_true] at h1 ⊢
    exact asLeaf_sel hp h1
  ·exact plain h
 ·rename_i p hp hq
  cases hf : isFail f
  ·rw [hf] at h; exact plain h
  ·rw [hf] at h
   simp only [cond_true] at h
   obtain ⟨h1, rfl⟩ := sel_needLeaf h
   rw [b_ite] at h1
   cases hg : σ.b g
   ·rw [hg] at h1; cases h1
   ·rw [hg] at h1
    simp only [if_true] at h1 ⊢
    exact ⟨p.2, asLeaf_sel hp h1, id⟩
 ·rename_i q hp hq
  cases hf : isFail t
  ·rw [hf] at h; exact plain h
  ·rw [hf] at h
   simp only [cond_true] at h
   obtain ⟨h1, rfl⟩ := sel_needLeaf h
   rw [b_ite] at h1
   cases hg : σ.b g
   ·rw [hg] at h1
    simp only [Bool.false_eq_true, if_false] at h1 ⊢
    exact ⟨q.2, asLeaf_sel hq h1, id⟩
   ·rw [hg] at h1; cases h1
 ·exact plain h
theorem sel_join {α : Type} {σ : Env} {j : SE → α → α → Option α} (R : α → Prop)
  (hj : ∀ g a b c, j g a b = some c → R (if σ.b g then a else b) → R c) :
  ∀ {t : Tree α} {c : α}, (t.join j).sel σ = some c → ∃ a, t.sel σ = some a ∧ (R a → R c)
 | .leaf a, c, h => ⟨a, rfl, by simp only [Tree.join, Tree.sel, Option.some.injEq] at h; subst h; exact id⟩
 | .fail, c, h => by simp [Tree.join, Tree.sel] at h
 | .node g t f, c, h => by
  unfold Tree.join at h
  obtain ⟨a, h1, h2⟩ := sel_joinTwo R hj h
  simp only [Tree.sel]
  cases hg : σ.b g
  ·simp only [hg, Bool.false_eq_true, if_false] at h1 ⊢
   obtain ⟨b, h3, h4⟩ := sel_join R hj h1
   exact ⟨b, h3, fun hb => h2 (h4 hb)⟩
  ·simp only [hg, if_true] at h1 ⊢
   obtain ⟨b, h3, h4⟩ := sel_join R hj h1
   exact ⟨b, h3, fun hb => h2 (h4 hb)⟩
theorem sel_ofOption {β : Type} {σ : Env} {o : Option β} {b : β} (h : (ofOption o).sel σ = some b) : o = some b := by
 cases o <;> simp [ofOption, Tree.sel] at h ⊢; exact h
theorem sel_val' {σ : Env} {o : Option AV} {e : Eff} (h : (val' o).sel σ = some e) : ∃ v, o = some v ∧ e = .val v := by
 have := sel_ofOption h
 cases o <;> simp at this ⊢; exact this.symm
theorem sel_leaf {β : Type} {σ : Env} {a b : β} (h : (Tree.leaf a).sel σ = some b) : a = b := by simpa [Tree.sel] using h
theorem sel_fail {β : Type} {σ : Env} {b : β} (h : (Tree.fail : Tree β).sel σ = some b) : False := by simp [Tree.sel] at h
theorem sel_among_go {β : Type} {σ : Env} {e : SE} {n : Nat} {k : Pc → Nat → Tree β} {b : β} : ∀ (m i : Nat) {pc : Pc}, pcOk σ pc → (among.go pc e n i m k).sel σ = some b →
  ∃ (pc' : Pc) (j : Nat), pcOk σ pc' ∧ σ.i e = (j : Int) ∧ i ≤ j ∧ j < i + m ∧ (k pc' j).sel σ = some b
 | 0, i, pc, hp, h => by simp [among.go, Tree.sel] at h
 | m + 1, i, pc, hp, h => by
  unfold among.go at h
  obtain ⟨pc', hp', h⟩ := sel_part hp h
  rw [b_eq] at h
  have e1 : σ.i (.lit (i : Int)) = i := rfl
  rw [e1] at h
  cases hc : (σ.i e == (i : Int))
  ·simp only [hc, cond_false] at h
   obtain ⟨pc', j, h1, h2, h3, h4, h5⟩ := sel_among_go m (i + 1) hp' h
   exact ⟨pc', j, h1, h2, by omega, by omega, h5⟩
  ·simp only [hc, cond_true] at h
   exact ⟨pc', i, hp', by simpa using hc, by omega, by omega, h⟩
theorem sel_among {β : Type} {σ : Env} {e : SE} {n : Nat} {k : Pc → Nat → Tree β} {b : β} {pc : Pc} (hp : pcOk σ pc) (h : (among pc e n k).sel σ = some b) :
  ∃ (pc' : Pc) (j : Nat), pcOk σ pc' ∧ σ.i e = (j : Int) ∧ j < n ∧ (k pc' j).sel σ = some b := by
 unfold among at h
 split at h
 ·rename_i i
  cases hc : (decide (0 ≤ i) && decide (i < (n : Int)))
  ·simp only [hc, cond_false] at h; exact (sel_fail h).elim
  ·simp only [hc, cond_true] at h
   simp only [Bool.and_eq_true, decide_eq_true_eq] at hc
   exact ⟨pc, i.toNat, hp, by show i = _; omega, by omega, h⟩
 ·obtain ⟨pc', j, h1, h2, h3, h4, h5⟩ := sel_among_go n 0 hp h
  exact ⟨pc', j, h1, h2, by omega, h5⟩
def oneV : Value → Bool
 | .agg _ | .tuple _ => false
 | _ => true
mutual
def rel (σ : Env) (ρ : Nat → Option Nat) : AV → Value → Prop
 | .int e, v => v = .int .i64 (σ.i e)
 | .bool e, v => v = .bool (σ.b e)
 | .ptr none, v => v = .pointer none
 | .ptr (some (n, o)), v => ∃ b, ρ n = some b ∧ v = .pointer (some ⟨b, o, none⟩)
 | .slice none l c, v => v = .slice none l c
 | .slice (some (n, o)) l c, v => ∃ b, ρ n = some b ∧ v = .slice (some ⟨b, o, none⟩) l c
 | .func fn f c, v => ∃ fs cs, v = .func fn fs cs ∧ relL σ ρ f fs.toList ∧ relL σ ρ c cs.toList
 | .nilFunc, v => v = .nilFunc
 | .agg l, v => ∃ vs, v = .agg vs ∧ relL σ ρ l vs.toList
 | .tuple l, v => ∃ vs, v = .tuple vs ∧ relL σ ρ l vs.toList
 | .raw i, v => v = σ.rv i ∧ oneV v = true
 | .any, _ => True
def relL (σ : Env) (ρ : Nat → Option Nat) : List AV → List Value → Prop
 | [], vs => vs = []
 | x :: xs, vs => ∃ v vs', vs = v :: vs' ∧ rel σ ρ x v ∧ relL σ ρ xs vs'
end
def sub (ρ ρ' : Nat → Option Nat) : Prop := ∀ n b, ρ n = some b → ρ' n = some b
theorem sub.refl (ρ : Nat → Option Nat) : sub ρ ρ := fun _ _ h => h
theorem sub.trans {a b c : Nat → Option Nat} (h : sub a b) (k : sub b c) : sub a c := fun n x hx => k n x (h n x hx)
mutual
theorem rel_mono {σ : Env} {ρ ρ' : Nat → Option Nat} (hs : sub ρ ρ') : ∀ (x : AV) (v : Value), rel σ ρ x v → rel σ ρ' x v
 | .int e, v, h => h
 | .bool e, v, h => h
 | .ptr none, v, h => h
 | .ptr (some (n, o)), v, h => let ⟨b, h1, h2⟩ := h; ⟨b, hs _ _ h1, h2⟩
 | .slice none l c, v, h => h
 | .slice (some (n, o)) l c, v, h => let ⟨b, h1, h2⟩ := h; ⟨b, hs _ _ h1, h2⟩
 | .func fn f c, v, h => let ⟨fs, cs, h1, h2, h3⟩ := h; ⟨fs, cs, h1, relL_mono hs f _ h2, relL_mono hs c _ h3⟩
 | .nilFunc, v, h => h
 | .agg l, v, h => let ⟨vs, h1, h2⟩ := h; ⟨vs, h1, relL_mono hs l _ h2⟩
 | .tuple l, v, h => let ⟨vs, h1, h2⟩ := h; ⟨vs, h1, relL_mono hs l _ h2⟩
 | .raw i, v, h => h
 | .any, v, h => h
theorem relL_mono {σ : Env} {ρ ρ' : Nat → Option Nat} (hs : sub ρ ρ') : ∀ (xs : List AV) (vs : List Value), relL σ ρ xs vs → relL σ ρ' xs vs
 | [], vs, h => h
 | x :: xs, vs, h => let ⟨v, vs', h1, h2, h3⟩ := h; ⟨v, vs', h1, rel_mono hs x v h2, relL_mono hs xs vs' h3⟩
end
section
variable {σ : Env} {ρ : Nat → Option Nat}
theorem relL_cons {x : AV} {xs : List AV} {v : Value} {vs : List Value} : relL σ ρ (x :: xs) (v :: vs) ↔ rel σ ρ x v ∧ relL σ ρ xs vs :=
 ⟨fun h => by obtain ⟨a, b, h1, h2, h3⟩ := h; injection h1 with h4 h5; subst h4; subst h5; exact ⟨h2, h3⟩, fun h => ⟨v, vs, rfl, h.1, h.2⟩⟩
theorem relL_length : ∀ {xs : List AV} {vs : List Value}, relL σ ρ xs vs → xs.length = vs.length
 | [], vs, h => by have : vs = [] := h; subst this; rfl
 | x :: xs, vs, h => by obtain ⟨v, vs', rfl, _, h3⟩ := h; simp [relL_length h3]
theorem relL_get : ∀ {xs : List AV} {vs : List Value}, relL σ ρ xs vs → ∀ (i : Nat) (x : AV), xs[i]? = some x → ∃ v, vs[i]? = some v ∧ rel σ ρ x v
 | [], vs, h, i, x, hx => by simp at hx
 | y :: xs, vs, h, i, x, hx => by
  obtain ⟨v, vs', rfl, h2, h3⟩ := h
  cases i with
  | zero => simp at hx; subst hx; exact ⟨v, rfl, h2⟩
  | succ i => simp at hx; simpa using relL_get h3 i x hx
theorem relL_append : ∀ {xs ys : List AV} {vs us : List Value}, relL σ ρ xs vs → relL σ ρ ys us → relL σ ρ (xs ++ ys) (vs ++ us)
 | [], ys, vs, us, h, k => by have : vs = [] := h; subst this; exact k
 | x :: xs, ys, vs, us, h, k => by obtain ⟨v, vs', rfl, h2, h3⟩ := h; exact ⟨v, vs' ++ us, rfl, h2, relL_append h3 k⟩
theorem relL_take : ∀ {xs : List AV} {vs : List Value} (n : Nat), relL σ ρ xs vs → relL σ ρ (xs.take n) (vs.take n)
 | [], vs, n, h => by have : vs = [] := h; subst this; simp; exact rfl
 | x :: xs, vs, 0, h => rfl
 | x :: xs, vs, n + 1, h => by obtain ⟨v, vs', rfl, h2, h3⟩ := h; exact ⟨v, _, rfl, h2, relL_take n h3⟩
theorem relL_drop : ∀ {xs : List AV} {vs : List Value} (n : Nat), relL σ ρ xs vs → relL σ ρ (xs.drop n) (vs.drop n)
 | [], vs, n, h => by have : vs = [] := h; subst this; simp; exact rfl
 | x :: xs, vs, 0, h => h
 | x :: xs, vs, n + 1, h => by obtain ⟨v, vs', rfl, h2, h3⟩ := h; exact relL_drop n h3
theorem relL_set : ∀ {xs : List AV} {vs : List Value} (i : Nat) {x : AV} {v : Value}, relL σ ρ xs vs → rel σ ρ x v → relL σ ρ (xs.set i x) (vs.set i v)
 | [], vs, i, x, v, h, k => by have : vs = [] := h; subst this; simp; exact rfl
 | y :: xs, vs, 0, x, v, h, k => by obtain ⟨u, vs', rfl, h2, h3⟩ := h; exact ⟨v, vs', rfl, k, h3⟩
 | y :: xs, vs, i + 1, x, v, h, k => by obtain ⟨u, vs', rfl, h2, h3⟩ := h; exact ⟨u, _, rfl, h2, relL_set i h3 k⟩
theorem relL_replicate {x : AV} {v : Value} (h : rel σ ρ x v) : ∀ n, relL σ ρ (List.replicate n x) (List.replicate n v)
 | 0 => rfl
 | n + 1 => ⟨v, _, rfl, h, relL_replicate h n⟩
theorem rel_undef : rel σ ρ .undef undef := ⟨#[], rfl, rfl⟩
theorem addrSame_eq {a b : Option (Nat × Nat)} (h : addrSame a b = true) : a = b := by
 unfold addrSame at h
 split at h
 ·rfl
 ·simp only [Bool.and_eq_true] at h; rw [Nat.eq_of_beq_eq_true h.1, Nat.eq_of_beq_eq_true h.2]
 ·cases h
theorem rel_joinCell {g : SE} {a b : AV} {v : Value} (h : rel σ ρ (if σ.b g then a else b) v) : rel σ ρ (joinCell g a b) v := by
 unfold joinCell
 split
 ·show v = _
  rw [i_ite]
  split at h <;> simp_all [rel]
 ·show v = _
  rw [b_ite]
  split at h <;> simp_all [rel]
 ·rename_i a b
  cases hs : addrSame a b
  ·trivial
  ·have := addrSame_eq hs; subst this; simpa using h
 ·rename_i a l c b m d
  cases hs : (addrSame a b && Nat.beq l m && Nat.beq c d)
  ·trivial
  ·simp only [Bool.and_eq_true] at hs
   obtain ⟨⟨h1, h2⟩, h3⟩ := hs
   have := addrSame_eq h1; subst this
   have := Nat.eq_of_beq_eq_true h2; subst this
   have := Nat.eq_of_beq_eq_true h3; subst this
   simpa using h
 ·simpa using h
 ·rename_i i j
  cases hs : Nat.beq i j
  ·trivial
  ·have := Nat.eq_of_beq_eq_true hs; subst this; simpa using h
 ·trivial
theorem relL_joinCells {g : SE} : ∀ {l m r : List AV} {vs : List Value}, joinCells g l m = some r → relL σ ρ (if σ.b g then l else m) vs → relL σ ρ r vs
 | [], [], r, vs, h, k => by simp [joinCells] at h; subst h; simpa using k
 | a :: l, b :: m, r, vs, h, k => by
  simp only [joinCells, Option.map_eq_some_iff] at h
  obtain ⟨r', h1, rfl⟩ := h
  have e : (if σ.b g then a :: l else b :: m) = (if σ.b g then a else b) :: (if σ.b g then l else m) := by split <;> rfl
  rw [e] at k
  obtain ⟨v, vs', rfl, h2, h3⟩ := k
  exact ⟨v, vs', rfl, rel_joinCell h2, relL_joinCells h1 h3⟩
 | [], _ :: _, _, _, h, _ => by simp [joinCells] at h
 | _ :: _, [], _, _, h, _ => by simp [joinCells] at h
theorem sameFn_eq {f g : Fn} (h : sameFn f g = true) : f = g := by
 unfold sameFn at h
 split at h
 ·rw [Nat.eq_of_beq_eq_true h]
 ·cases h
theorem sameCaptured_eq : ∀ {l m : List AV}, sameCaptured l m = true → l = m
 | [], [], _ => rfl
 | .ptr a :: l, .ptr b :: m, h => by
  simp only [sameCaptured, Bool.and_eq_true] at h
  rw [addrSame_eq h.1, sameCaptured_eq h.2]
 | [], _ :: _, h => by simp [sameCaptured] at h
 | x :: l, [], h => by cases x <;> simp [sameCaptured] at h
 | x :: l, y :: m, h => by
  cases x <;> first | (simp [sameCaptured] at h; done) | (cases y <;> first | (simp [sameCaptured] at h; done) | (simp only [sameCaptured, Bool.and_eq_true] at h; rw [addrSame_eq h.1, sameCaptured_eq h.2]))
theorem rel_joinFlat {g : SE} {a b : AV} {v : Value} (h : rel σ ρ (if σ.b g then a else b) v) : rel σ ρ (joinFlat g a b) v := by
 unfold joinFlat
 split
 ·rename_i l m
  split
  ·rename_i x hx
   have e : (if σ.b g then AV.agg l else .agg m) = .agg (if σ.b g then l else m) := by split <;> rfl
   rw [e] at h
   obtain ⟨vs, h1, h2⟩ := h
   exact ⟨vs, h1, relL_joinCells hx h2⟩
  ·trivial
 ·rename_i f c h' d
  cases hs : (sameFn f h' && sameCaptured c d)
  ·trivial
  ·simp only [Bool.and_eq_true] at hs
   have e1 := sameFn_eq hs.1; have e2 := sameCaptured_eq hs.2
   subst e1; subst e2; simpa using h
 ·exact rel_joinCell h
theorem relL_joinFlats {g : SE} : ∀ {l m r : List AV} {vs : List Value}, joinFlats g l m = some r → relL σ ρ (if σ.b g then l else m) vs → relL σ ρ r vs
 | [], [], r, vs, h, k => by simp [joinFlats] at h; subst h; simpa using k
 | a :: l, b :: m, r, vs, h, k => by
  simp only [joinFlats, Option.map_eq_some_iff] at h
  obtain ⟨r', h1, rfl⟩ := h
  have e : (if σ.b g then a :: l else b :: m) = (if σ.b g then a else b) :: (if σ.b g then l else m) := by split <;> rfl
  rw [e] at k
  obtain ⟨v, vs', rfl, h2, h3⟩ := k
  exact ⟨v, vs', rfl, rel_joinFlat h2, relL_joinFlats h1 h3⟩
 | [], _ :: _, _, _, h, _ => by simp [joinFlats] at h
 | _ :: _, [], _, _, h, _ => by simp [joinFlats] at h
theorem rel_joinAV {g : SE} {a b : AV} {v : Value} (h : rel σ ρ (if σ.b g then a else b) v) : rel σ ρ (joinAV g a b) v := by
 unfold joinAV
 split
 ·rename_i l m
  split
  ·rename_i x hx
   have e : (if σ.b g then AV.tuple l else .tuple m) = .tuple (if σ.b g then l else m) := by split <;> rfl
   rw [e] at h
   obtain ⟨vs, h1, h2⟩ := h
   exact ⟨vs, h1, relL_joinFlats hx h2⟩
  ·trivial
 ·exact rel_joinFlat h
theorem relL_joinAVs {g : SE} : ∀ {l m r : List AV} {vs : List Value}, joinAVs g l m = some r → relL σ ρ (if σ.b g then l else m) vs → relL σ ρ r vs
 | [], [], r, vs, h, k => by simp [joinAVs] at h; subst h; simpa using k
 | a :: l, b :: m, r, vs, h, k => by
  simp only [joinAVs, Option.map_eq_some_iff] at h
  obtain ⟨r', h1, rfl⟩ := h
  have e : (if σ.b g then a :: l else b :: m) = (if σ.b g then a else b) :: (if σ.b g then l else m) := by split <;> rfl
  rw [e] at k
  obtain ⟨v, vs', rfl, h2, h3⟩ := k
  exact ⟨v, vs', rfl, rel_joinAV h2, relL_joinAVs h1 h3⟩
 | [], _ :: _, _, _, h, _ => by simp [joinAVs] at h
 | _ :: _, [], _, _, h, _ => by simp [joinAVs] at h
end
end Go.Proofs.YtlfoglklibhbnaaGreat.Sx
