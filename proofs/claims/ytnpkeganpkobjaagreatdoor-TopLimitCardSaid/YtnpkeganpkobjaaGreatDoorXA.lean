import Derived.Calls
import Derived.KernelRfl
set_option linter.all false
namespace Go.Proofs.YtnpkeganpkobjaaGreatDoor.Ev
noncomputable section
inductive T (α : Type) where
  | e
  | n (l : T α) (v : Option α) (r : T α)
def T.get {α : Type} (t : T α) : Nat → Option α :=
  T.rec (motive := fun _ => Nat → Option α) (fun _ => none) (fun _ v _ gl gr k => Nat.rec (motive := fun _ => Option α) v (fun k _ => Bool.rec (motive := fun _ => Option α) (gr (k / 2)) (gl (k / 2)) (Nat.beq (k % 2) 0)) k) t
def T.set {α : Type} (t : T α) : Nat → Option α → T α :=
  T.rec (motive := fun _ => Nat → Option α → T α) (fun _ _ => .e) (fun l v r gl gr k x => Nat.rec (motive := fun _ => T α) (.n l (Option.rec (motive := fun _ => Option α) none (fun _ => x) v) r) (fun k _ => Bool.rec (motive := fun _ => T α) (.n l v (gr (k / 2) x)) (.n (gl (k / 2) x) v r) (Nat.beq (k % 2) 0)) k) t
def T.add {α : Type} : Nat → T α → Nat → Option α → T α
  | 0, t, _, _ => t
  | f + 1, t, k, x => match t with
    | .e => (match k with
      | 0 => .n .e x .e
      | k + 1 => match Nat.beq (k % 2) 0 with
        | true => .n (T.add f .e (k / 2) x) none .e
        | false => .n .e none (T.add f .e (k / 2) x))
    | .n l v r => (match k with
      | 0 => .n l x r
      | k + 1 => match Nat.beq (k % 2) 0 with
        | true => .n (T.add f l (k / 2) x) v r
        | false => .n l v (T.add f r (k / 2) x))
inductive V where
  | undef
  | bool (b : Bool)
  | int (k : IntKind) (n : Int)
  | sint (k : IntKind) (i : Nat)
  | flt (n : Nat)
  | sflt (i : Nat)
  | str (l : List Nat)
  | nilp
  | ptr (id off : Nat)
  | nils
  | slz
  | sl (id off len es : Nat)
  | nilm
  | map (id : Nat)
  | nilf
  | fn (f : Nat) (caps : List V)
  | nili
  | ifc (t : Nat) (v : V)
  | agg (l : List V)
  | tup (l : List V)
  /-- Nothing is known of it. -/
  | any
  /-- A number, unknown. -/
  | iany (k : IntKind)
  | nan
  deriving Inhabited
inductive B where
  | cells (l : List V)
  | map (l : List (V × V))
  | iter (s : List Nat) (pos : Nat)
  /-- Cells whose type is known; all of them, or those in front. -/
  | typ (whole : Bool) (t : TypeId) (l : List V)
  /-- A map of texts, a number each. -/
  | smap
  deriving Inhabited
structure St where
  heap : T B
  next : Nat
  low : Nat
abbrev F := T V
def St.new (s : St) (b : B) : St := ⟨T.add 40 s.heap s.next (some b), s.next + 1, s.low⟩
def minN (a b : Nat) : Nat := match Nat.ble a b with | true => a | false => b
def St.set (s : St) (id : Nat) (b : Option B) : St := ⟨s.heap.set id b, s.next, minN s.low id⟩
inductive Out where
  | norm | exit (id : Nat) | ret
inductive Ex where
  | indexByte | count | bits | frombits | same | noZero
inductive Nm where
  | c (n : Int)
  | s (i : Nat)
structure FE where
  code : Code
  ntmps : Nat
  results : List ResultVar
structure Env where
  P : Program
  G : Nat → Int × Int
  ext : Nat → Option Ex
  fe : Nat → Option FE
  /-- The type whose variables' type is kept in mind, and the one whose rows' is. -/
  bt : TypeId
  rt : TypeId
  /-- Methods behind an interface: who, and the type that is loaded where its receiver is no pointer. -/
  meth : Nat → String → Option (Nat × Option TypeId)
  /-- Closures that do nothing where they are deferred and nothing panics. -/
  idle : Nat → Bool
  /-- Struct types that are keys. -/
  keys : Nat → List V → Bool
  /-- What is given of signs: sums and the like, who is less, who is alike. -/
  ar : BinOp → IntKind → Nm → Nm → Option Nm
  lt : Nm → Nm → Option Bool
  eq : Nm → Nm → Option Bool
  /-- The same of floats: two of them, a number's, a float's number, what is negated. -/
  fb : BinOp → Nm → Nm → Option V
  fc : Nm → Option V
  fi : IntKind → Nm → Option V
  fn : Nm → Option V
  /-- Functions that begin by deferring a closure that asks what was recovered. -/
  door : Nat → Bool
abbrev Rt := Option (V × St)
def ret (v : Option V) (s : St) : Rt := match v with | some v => some (v, s) | none => none
def retN (b : B) (f : Nat → V) (s : St) : Rt := some (f s.next, s.new b)
def ltI (a b : Int × Int) : Option Bool := match decide (a.2 < b.1) with
  | true => some true
  | false => match decide (b.2 ≤ a.1) with | true => some false | false => none
def eqI (a b : Int × Int) : Option Bool := match decide (a.2 < b.1) with
  | true => some false
  | false => match decide (b.2 < a.1) with
    | true => some false
    | false => match decide (a.1 = a.2) && decide (b.1 = b.2) with | true => some true | false => none
def okB (G : Nat → Int × Int) (c : Nat) : Bool := match Nat.blt c 256 with
  | true => true
  | false => decide (0 ≤ (G (c - 256)).1) && decide ((G (c - 256)).2 ≤ 255)
def byteRng (G : Nat → Int × Int) (c : Nat) : Int × Int := match Nat.blt c 256 with | true => (c, c) | false => G (c - 256)
def eqB (G : Nat → Int × Int) (a b : Nat) : Option Bool := match Nat.beq a b with
  | true => some true
  | false => match Nat.blt a 256 && Nat.blt b 256 with
    | true => some false
    | false => match okB G a && okB G b with
      | true => eqI (byteRng G a) (byteRng G b)
      | false => none
def eqS (G : Nat → Int × Int) : List Nat → List Nat → Option Bool
  | [], [] => some true
  | [], _ :: _ => some false
  | _ :: _, [] => some false
  | a :: x, b :: y => match eqB G a b with
    | some true => eqS G x y
    | some false => some false
    | none => none
def ltS (G : Nat → Int × Int) : List Nat → List Nat → Option Bool
  | _, [] => some false
  | [], _ :: _ => some true
  | a :: x, b :: y => match eqB G a b with
    | some true => ltS G x y
    | some false => (match okB G a && okB G b with | true => ltI (byteRng G a) (byteRng G b) | false => none)
    | none => none
def ofBytes (s : ByteArray) : List Nat := s.data.toList.map (·.toNat)
def isNil {α : Type} : List α → Bool | [] => true | _ => false
def ofLeaf : Value → Option V
  | .bool b => some (.bool b)
  | .int k n => some (.int k n)
  | .float .f64 n => some (.flt n)
  | .string s => some (.str (ofBytes s))
  | .pointer none => some .nilp
  | .slice none 0 0 => some .nils
  | .map none => some .nilm
  | .nilFunc => some .nilf
  | .nilIface => some .nili
  | _ => none
def ofLeaves : List Value → Option (List V)
  | [] => some []
  | v :: l => match ofLeaf v with
    | some v => (match ofLeaves l with | some l => some (v :: l) | none => none)
    | none => none
def ofV : Value → Option V
  | .agg a => match ofLeaves a.toList with | some l => some (.agg l) | none => none
  | v => ofLeaf v
def evT (o : Operand) : F → Option V := Operand.rec (motive := fun _ => F → Option V)
    (fun t f => f.get t) (fun v _ => ofV v) (fun _ _ => none) (fun g _ => some (.fn g [])) o
def ev (f : F) (o : Operand) : Option V := evT o f
def evs (f : F) : List Operand → Option (List V)
  | [] => some []
  | o :: l => match ev f o with
    | some v => (match evs f l with | some r => some (v :: r) | none => none)
    | none => none
def V.cells : V → List V
  | .agg l => l
  | v => [v]
def leaf : V → Bool
  | .agg _ => false
  | .tup _ => false
  | .undef => false
  | .any => false
  | _ => true
def isAny : V → Bool
  | .any => true
  | _ => false
def leaves : List V → Bool
  | [] => true
  | v :: l => match leaf v with | true => leaves l | false => false
def lget {α : Type} : List α → Nat → Option α
  | [], _ => none
  | a :: l, n => match n with | 0 => some a | n + 1 => lget l n
def lset {α : Type} : List α → Nat → α → List α
  | [], _, _ => []
  | a :: l, n, v => match n with | 0 => v :: l | n + 1 => a :: lset l n v
def ltake {α : Type} : Nat → List α → Option (List α)
  | 0, _ => some []
  | n + 1, l => match l with
    | [] => none
    | a :: l => match ltake n l with | some r => some (a :: r) | none => none
def ldrop {α : Type} : Nat → List α → Option (List α)
  | 0, l => some l
  | n + 1, l => match l with | [] => none | _ :: l => ldrop n l
def lcut {α : Type} (l : List α) (off n : Nat) : Option (List α) := match ldrop off l with | some l => ltake n l | none => none
def llen {α : Type} : List α → Nat
  | [] => 0
  | _ :: l => llen l + 1
def lsets {α : Type} : List α → Nat → List α → List α
  | l, _, [] => l
  | l, k, v :: r => lsets (lset l k v) (k + 1) r
def rep {α : Type} : Nat → List α → List α
  | 0, _ => []
  | n + 1, l => l ++ rep n l
def aggT : TypeDesc → Bool
  | .struct _ => true
  | .array _ _ => true
  | _ => false
def zeroI (i : TypeInfo) : Option V := match i.zero with | some v => ofV v | none => none
def zeroV (P : Program) (t : TypeId) : Option V := match P.info? t with
  | some i => zeroI i
  | none => none
def sizeT (P : Program) (t : TypeId) : Option Nat := match P.info? t with | some i => some i.size | none => none
def cellsB : Option B → Option (List V)
  | some (.cells l) => some l
  | some (.typ _ _ l) => some l
  | _ => none
def cellsOf (s : St) (id : Nat) : Option (List V) := cellsB (s.heap.get id)
def one {α : Type} : List α → Option α
  | [v] => some v
  | _ => none
def mk1 (P : Program) (t : TypeId) (l : List V) : Option V := match P.underlying t with
  | some d => (match aggT d with | true => some (.agg l) | false => one l)
  | none => none
def loadC (P : Program) (t : TypeId) (l : List V) (off : Nat) : Option V := match sizeT P t with
  | some n => (match lcut l off n with | some c => mk1 P t c | none => none)
  | none => none
def loadT (P : Program) (s : St) (t : TypeId) (id off : Nat) : Option V := match cellsOf s id with
  | some l => loadC P t l off
  | none => none
def storeC (s : St) (id off n : Nat) (l c : List V) : Option St := match Nat.beq (llen c) n && Nat.ble (off + n) (llen l) && leaves c with
  | true => some (s.set id (some (.cells (lsets l off c))))
  | false => none
def storeT (P : Program) (s : St) (t : TypeId) (id off : Nat) (v : V) : Option St := match cellsOf s id with
  | some l => (match sizeT P t with | some n => storeC s id off n l v.cells | none => none)
  | none => none
def i64max : Nat := 9223372036854775808
def wrapK (k : IntKind) (n : Int) : Int := match k with
  | .i64 => (match n with
    | .ofNat m => (match Nat.blt m i64max with | true => .ofNat m | false => IntKind.i64.wrap (.ofNat m))
    | .negSucc m => IntKind.i64.wrap (.negSucc m))
  | k => k.wrap n
def bitI (k : IntKind) (r : BitVec k.bits) : Option V := some (.int k (k.wrap r.toNat))
def binI (op : BinOp) (k : IntKind) (a b : Int) : Option V := match op with
  | .add => some (.int k (wrapK k (a + b)))
  | .sub => some (.int k (wrapK k (a - b)))
  | .mul => some (.int k (wrapK k (a * b)))
  | .quo => (match decide (b = 0) with | true => none | false => some (.int k (wrapK k (a.tdiv b))))
  | .rem => (match decide (b = 0) with | true => none | false => some (.int k (a.tmod b)))
  | .and => bitI k (BitVec.ofInt k.bits a &&& BitVec.ofInt k.bits b)
  | .or => bitI k (BitVec.ofInt k.bits a ||| BitVec.ofInt k.bits b)
  | .xor => bitI k (BitVec.ofInt k.bits a ^^^ BitVec.ofInt k.bits b)
  | .andNot => bitI k (BitVec.ofInt k.bits a &&& ~~~ BitVec.ofInt k.bits b)
  | .eql => some (.bool (decide (a = b)))
  | .neq => some (.bool (!decide (a = b)))
  | .lss => some (.bool (decide (a < b)))
  | .leq => some (.bool (decide (a ≤ b)))
  | .gtr => some (.bool (decide (b < a)))
  | .geq => some (.bool (decide (b ≤ a)))
  | _ => none
def ob (o : Option Bool) : Option V := match o with | some b => some (.bool b) | none => none
def on (o : Option Bool) : Option V := match o with | some b => some (.bool (!b)) | none => none
def shI (op : BinOp) (k : IntKind) (a : Int) (n : Nat) : Option V := match op with
  | .shl => some (.int k (k.wrap (a * 2 ^ (min n k.bits))))
  | .shr => some (.int k (a.fdiv (2 ^ (min n k.bits))))
  | _ => none
def isSh : BinOp → Bool
  | .shl => true
  | .shr => true
  | _ => false
def nmV (k : IntKind) : Nm → V
  | .c n => .int k n
  | .s i => .sint k i
def nmR (k : IntKind) : Option Nm → Option V
  | some r => some (nmV k r)
  | none => none
def rngN (G : Nat → Int × Int) : Nm → Int × Int
  | .c n => (n, n)
  | .s i => G i
def ltN (E : Env) (a b : Nm) : Option Bool := match ltI (rngN E.G a) (rngN E.G b) with
  | some c => some c
  | none => E.lt a b
def eqN2 (E : Env) (a b : Nm) : Option Bool := match eqI (rngN E.G a) (rngN E.G b) with
  | some c => some c
  | none => E.eq a b
def cmpN (E : Env) (op : BinOp) (k : IntKind) (a b : Nm) : Option V := match op with
  | .eql => ob (eqN2 E a b)
  | .neq => on (eqN2 E a b)
  | .lss => ob (ltN E a b)
  | .geq => on (ltN E a b)
  | .gtr => ob (ltN E b a)
  | .leq => on (ltN E b a)
  | op => nmR k (E.ar op k a b)
def bin1 (E : Env) (op : BinOp) (k : IntKind) (a : Int) (y : V) : Option V := match y with
  | .int k' b => (match isSh op with
    | true => (match decide (b < 0) with | true => none | false => shI op k a b.toNat)
    | false => (match decide (k = k') with | true => binI op k a b | false => none))
  | .sint k' i => (match isSh op with
    | true => none
    | false => match decide (k = k') with | true => cmpN E op k (.c a) (.s i) | false => none)
  | _ => none
def bin2 (E : Env) (op : BinOp) (k : IntKind) (i : Nat) (y : V) : Option V := match y with
    | .int k' b => (match isSh op with
      | true => (match decide (b < 0) with | true => none | false => nmR k (E.ar op k (.s i) (.c b)))
      | false => (match decide (k = k') with | true => cmpN E op k (.s i) (.c b) | false => none))
    | .sint k' j => (match isSh op with
      | true => none
      | false => (match decide (k = k') with | true => cmpN E op k (.s i) (.s j) | false => none))
    | _ => none
def binS (G : Nat → Int × Int) (op : BinOp) (a : List Nat) (y : V) : Option V := match y with
  | .str b => (match op with
    | .add => (match Nat.ble (llen a + llen b) 1000000 with | true => some (.str (a ++ b)) | false => none)
    | .eql => ob (eqS G a b)
    | .neq => on (eqS G a b)
    | .lss => ob (ltS G a b)
    | .geq => on (ltS G a b)
    | _ => none)
  | _ => none
def fmt : Ieee.Format := FloatKind.f64.format
def flt? : Option Nat → Option V
  | some r => some (.flt r)
  | none => none
def binF (op : BinOp) (a : Nat) (y : V) : Option V := match y with
  | .flt b => (match op with
    | .add => flt? (fmt.add a b)
    | .sub => flt? (fmt.sub a b)
    | .mul => flt? (fmt.mul a b)
    | .quo => flt? (fmt.div a b)
    | .eql => some (.bool (fmt.order a b == some .eq))
    | .neq => some (.bool (fmt.order a b != some .eq))
    | .lss => some (.bool (fmt.order a b == some .lt))
    | .leq => some (.bool (fmt.order a b == some .lt || fmt.order a b == some .eq))
    | .gtr => some (.bool (fmt.order a b == some .gt))
    | .geq => some (.bool (fmt.order a b == some .gt || fmt.order a b == some .eq))
    | _ => none)
  | _ => none
def nil? (d : Option TypeDesc) : V → Option Bool
  | .nilp => (match d with | some (.pointer _) => some true | _ => none)
  | .ptr _ _ => (match d with | some (.pointer _) => some false | _ => none)
  | .nils => (match d with | some (.slice _) => some true | _ => none)
  | .slz => (match d with | some (.slice _) => some false | _ => none)
  | .sl _ _ _ _ => (match d with | some (.slice _) => some false | _ => none)
  | .nilm => (match d with | some (.map _ _) => some true | _ => none)
  | .map _ => (match d with | some (.map _ _) => some false | _ => none)
  | _ => none
def nilY (d : Option TypeDesc) : V → Bool
  | .nilp => (match d with | some (.pointer _) => true | _ => false)
  | .nils => (match d with | some (.slice _) => true | _ => false)
  | .nilm => (match d with | some (.map _ _) => true | _ => false)
  | _ => false
def sameP (op : BinOp) (c : Bool) : Option V := match c with
  | true => (match op with | .eql => some (.bool true) | .neq => some (.bool false) | _ => none)
  | false => none
def vars (P : Program) : Option TypeDesc → Bool
  | some (.pointer e) => (match sizeT P e with | some (_ + 1) => true | _ => false)
  | _ => false
def eqP (P : Program) (op : BinOp) (t : TypeId) (x y : V) : Option V := match x with
  | .ptr a b => (match y with
    | .ptr c d => sameP op (vars P (P.underlying t) && Nat.beq a c && Nat.beq b d)
    | _ => none)
  | _ => none
def eqN (P : Program) (op : BinOp) (t : TypeId) (x y : V) : Option V := match nilY (P.underlying t) y with
  | true => (match op with
    | .eql => ob (nil? (P.underlying t) x)
    | .neq => on (nil? (P.underlying t) x)
    | _ => none)
  | false => eqP P op t x y
def eqBo (P : Program) (op : BinOp) (t : TypeId) (a : Bool) (y : V) : Option V := match y with
  | .bool b => (match P.underlying t with
    | some .bool => (match op with | .eql => some (.bool (a == b)) | .neq => some (.bool (a != b)) | _ => none)
    | _ => none)
  | _ => none
def binSF (E : Env) (op : BinOp) (a : Nm) (y : V) : Option V := match y with
  | .flt b => E.fb op a (.c b)
  | .sflt j => E.fb op a (.s j)
  | _ => none
def binFF (E : Env) (op : BinOp) (a : Nat) (y : V) : Option V := match y with
  | .sflt j => E.fb op (.c a) (.s j)
  | y => binF op a y
def bin (E : Env) (op : BinOp) (t : TypeId) (x y : V) : Option V := match x with
  | .int k a => bin1 E op k a y
  | .sint k i => bin2 E op k i y
  | .str a => binS E.G op a y
  | .flt a => binFF E op a y
  | .sflt i => binSF E op (.s i) y
  | .bool a => eqBo E.P op t a y
  | x => eqN E.P op t x y
def un (E : Env) (op : UnOp) (x : V) : Option V := match x with
  | .bool b => (match op with | .not => some (.bool !b) | _ => none)
  | .int k n => (match op with | .neg => some (.int k (k.wrap (0 - n))) | _ => none)
  | .flt b => (match op with | .neg => some (.flt (Op.negFloat .f64 b)) | _ => none)
  | .sflt i => (match op with | .neg => E.fn (.s i) | _ => none)
  | _ => none
def byteC : V → Option Nat
  | .int .u8 n => (match n with | .ofNat n => (match Nat.blt n 256 with | true => some n | false => none) | _ => none)
  | .sint .u8 i => some (256 + i)
  | _ => none
def bytesC : List V → Option (List Nat)
  | [] => some []
  | v :: l => match byteC v with
    | some b => (match bytesC l with | some r => some (b :: r) | none => none)
    | none => none
def cellB (c : Nat) : V := match Nat.blt c 256 with | true => .int .u8 c | false => .sint .u8 (c - 256)
def allB (G : Nat → Int × Int) : List Nat → Bool
  | [] => true
  | c :: l => match okB G c with | true => allB G l | false => false
def fitsK (k : IntKind) (r : Int × Int) : Bool := decide (k.min ≤ r.1) && decide (r.2 ≤ k.max)
def u8T (P : Program) (e : TypeId) : Bool := match P.underlying e with | some (.int .u8) => true | _ => false
def u8S (P : Program) (d : TypeDesc) : Bool := match d with | .slice e => u8T P e | _ => false
def convI (d : TypeDesc) (n : Int) : Option V := match d with
  | .int k => some (.int k (wrapK k n))
  | .float .f64 => some (.flt (FloatKind.f64.nearest n))
  | _ => none
def convSI (E : Env) (d : TypeDesc) (i : Nat) : Option V := match d with
  | .int k => (match fitsK k (E.G i) with | true => some (.sint k i) | false => none)
  | .float .f64 => E.fc (.s i)
  | _ => none
def convSF (E : Env) (d : TypeDesc) (i : Nat) : Option V := match d with
  | .int k => E.fi k (.s i)
  | _ => none
def inK (k : IntKind) (o : Option Int) : Option V := match o with
  | some n => (match decide (k.min ≤ n) && decide (n ≤ k.max) with | true => some (.int k n) | false => none)
  | none => none
def convF (d : TypeDesc) (b : Nat) : Option V := match d with
  | .int k => inK k ((FloatKind.f64.decode b).toInt .zero)
  | _ => none
def convS (E : Env) (d : TypeDesc) (l : List Nat) (s : St) : Rt := match d with
  | .string => some (.str l, s)
  | .slice e => (match u8T E.P e && allB E.G l && Nat.ble (llen l) 1000000 with
    | true => retN (.cells (l.map cellB)) (fun id => .sl id 0 (llen l) 1) s
    | false => none)
  | _ => none
def strOf (o : Option (List V)) (off len : Nat) : Option V := match o with
  | some l => (match lcut l off len with
    | some c => (match bytesC c with | some b => some (.str b) | none => none)
    | none => none)
  | none => none
def isStr : TypeDesc → Bool
  | .string => true
  | _ => false
def convL (E : Env) (ds d : TypeDesc) (s : St) (v : V) : Option V := match isStr d && u8S E.P ds with
  | true => (match v with
    | .nils => some (.str [])
    | .slz => some (.str [])
    | .sl id off len es => (match Nat.beq es 1 with | true => strOf (cellsOf s id) off len | false => none)
    | _ => none)
  | false => none
def dirOk (t : TypeId) (ds d : TypeDesc) : Bool := match ds with
  | .pointer v => (match d with | .unsafePointer => Nat.beq v t | _ => false)
  | .unsafePointer => (match d with | .pointer v => Nat.beq v t | _ => false)
  | _ => false
def typB (P : Program) (t : TypeId) : Option B → Bool
  | some (.typ true u l) => Nat.beq u t && (match sizeT P t with | some n => Nat.beq (llen l) n | none => false)
  | _ => false
def convP (E : Env) (ds d : TypeDesc) (s : St) (id off : Nat) : Option V := match Nat.beq off 0 && dirOk E.bt ds d && typB E.P E.bt (s.heap.get id) with
  | true => some (.ptr id 0)
  | false => none
def conv2 (E : Env) (ds d : TypeDesc) (x : V) (s : St) : Rt := match x with
  | .ptr id off => ret (convP E ds d s id off) s
  | .int _ n => ret (convI d n) s
  | .sint _ i => ret (convSI E d i) s
  | .sflt i => ret (convSF E d i) s
  | .flt b => ret (convF d b) s
  | .str l => convS E d l s
  | v => ret (convL E ds d s v) s
def conv (E : Env) (src dst : TypeId) (x : V) (s : St) : Rt := match E.P.underlying src with
  | some ds => (match E.P.underlying dst with | some d => conv2 E ds d x s | none => none)
  | none => none
def fieldOf (P : Program) (t : TypeId) (i : Nat) : Option (Nat × Nat × TypeId) := match P.underlying t with
  | some (.struct fs) => (match lget fs.toList i with
    | some f => (match sizeT P f.type with | some n => some (f.offset, n, f.type) | none => none)
    | none => none)
  | _ => none
def natOf : V → Option Nat
  | .int _ (.ofNat n) => some n
  | _ => none
def placeA (id off i n : Nat) (ok : Bool) : Option V := match ok with | true => some (.ptr id (off + i * n)) | false => none
def indexA (P : Program) (d : Option TypeDesc) (x : V) (i : Nat) : Option V := match x with
  | .sl id off len es => (match d with
    | some (.slice e) => (match sizeT P e with | some n => placeA id off i n (Nat.blt i len && Nat.beq es n) | none => none)
    | _ => none)
  | .ptr id off => (match d with
    | some (.array len e) => (match sizeT P e with | some n => placeA id off i n (Nat.blt i len) | none => none)
    | _ => none)
  | _ => none
def indexAddrV (P : Program) (t : TypeId) (x i : V) : Option V := match natOf i with
  | some i => indexA P (P.underlying t) x i
  | none => none
def byteV (G : Nat → Int × Int) : Option Nat → Option V
  | some c => (match okB G c with | true => some (cellB c) | false => none)
  | none => none
def partV (P : Program) (e : TypeId) (l : List V) (o n : Nat) : Option V := match lcut l o n with | some c => mk1 P e c | none => none
def indexN (E : Env) (d : Option TypeDesc) (x : V) (i : Nat) : Option V := match x with
  | .str l => (match d with | some .string => byteV E.G (lget l i) | _ => none)
  | .agg l => (match d with
    | some (.array len e) => (match sizeT E.P e with
      | some n => (match Nat.blt i len with | true => partV E.P e l (i * n) n | false => none)
      | none => none)
    | _ => none)
  | _ => none
def indexV (E : Env) (t : TypeId) (x i : V) : Option V := match natOf i with
  | some i => indexN E (E.P.underlying t) x i
  | none => none
def optV : Option V → Option Nat
  | some v => natOf v
  | none => none
def optN (f : F) (dflt : Nat) : Option Operand → Option Nat
  | none => some dflt
  | some o => optV (ev f o)
def cutS (l : List Nat) (a b : Option Nat) (m : Bool) : Option V := match a with
  | some a => (match b with
    | some b => (match m && Nat.ble a b && Nat.ble b (llen l) with
      | true => (match lcut l a (b - a) with | some c => some (.str c) | none => none)
      | false => none)
    | none => none)
  | none => none
def cutL (id off len es : Nat) (n a b m : Option Nat) : Option V := match n with
  | some n => (match a with
    | some a => (match b with
      | some b => (match m with
        | some m => (match Nat.ble a b && Nat.ble b m && Nat.ble m len && Nat.beq n es with
          | true => (match Nat.beq a b with | true => (match Nat.beq a 0 with | true => some (.sl id off 0 es) | false => some .slz) | false => some (.sl id (off + a * es) (b - a) es))
          | false => none)
        | none => none)
      | none => none)
    | none => none)
  | none => none
def is0 : Option Nat → Bool
  | some 0 => true
  | _ => false
def sliceV (P : Program) (t : TypeId) (x : V) (f : F) (lo hi mx : Option Operand) : Option V := match mx.isNone || hi.isSome with
  | true => (match x with
    | .str l => (match P.underlying t with
      | some .string => cutS l (optN f 0 lo) (optN f (llen l) hi) mx.isNone
      | _ => none)
    | .sl id off len es => (match P.underlying t with
      | some (.slice e) => cutL id off len es (sizeT P e) (optN f 0 lo) (optN f len hi) (optN f len mx)
      | _ => none)
    | .nils => (match P.underlying t with
      | some (.slice e) => (match (sizeT P e).isSome && is0 (optN f 0 lo) && is0 (optN f 0 hi) && is0 (optN f 0 mx) with | true => some .nils | false => none)
      | _ => none)
    | .slz => (match P.underlying t with
      | some (.slice e) => (match (sizeT P e).isSome && is0 (optN f 0 lo) && is0 (optN f 0 hi) && mx.isNone with | true => some .slz | false => none)
      | _ => none)
    | _ => none)
  | false => none
def eqK1 (G : Nat → Int × Int) (a b : V) : Option Bool := match a with
  | .str a => (match b with | .str b => eqS G a b | _ => none)
  | .int k a => (match b with | .int k' b => (match decide (k = k') with | true => some (decide (a = b)) | false => none) | _ => none)
  | .bool a => (match b with | .bool b => some (a == b) | _ => none)
  | _ => none
def eqKs (G : Nat → Int × Int) : List V → List V → Option Bool
  | [], [] => some true
  | a :: x, b :: y => (match eqK1 G a b with
    | some true => eqKs G x y
    | some false => some false
    | none => none)
  | _, _ => none
def eqK (G : Nat → Int × Int) (a b : V) : Option Bool := match a with
  | .agg a => (match b with | .agg b => eqKs G a b | _ => none)
  | a => eqK1 G a b
def findK (G : Nat → Int × Int) (k : V) : List (V × V) → Nat → Option (Option (Nat × V))
  | [], _ => some none
  | (a, v) :: l, i => match eqK G k a with
    | some true => some (some (i, v))
    | some false => findK G k l (i + 1)
    | none => none
def keyOk (E : Env) (t : TypeId) (k : V) : Bool := match k with
  | .str _ => (match E.P.underlying t with | some .string => true | _ => false)
  | .int j _ => (match E.P.underlying t with | some (.int i) => decide (i = j) | _ => false)
  | .agg l => E.keys t l
  | _ => false
def mapB : Option B → Option (List (V × V))
  | some (.map l) => some l
  | _ => none
def found (z : Option V) (ok : Bool) : Option (Option (Nat × V)) → Option V
  | some (some p) => some (match ok with | true => .tup [p.2, .bool true] | false => p.2)
  | some none => (match z with
    | some z => some (match ok with | true => .tup [z, .bool false] | false => z)
    | none => none)
  | none => none
def lookS (E : Env) (e : TypeId) (ok : Bool) (k : V) : Option B → Option V
  | some .smap => (match ok with
    | true => none
    | false => (match k with
      | .str _ => (match zeroV E.P e with | some (.int .i64 _) => some (.iany .i64) | _ => none)
      | _ => none))
  | _ => none
def lookupV (E : Env) (t : TypeId) (m k : V) (ok : Bool) (s : St) : Option V := match E.P.underlying t with
  | some (.map kt e) => (match keyOk E kt k with
    | true => (match m with
      | .nilm => found (zeroV E.P e) ok (some none)
      | .map id => (match mapB (s.heap.get id) with | some l => found (zeroV E.P e) ok (findK E.G k l 0) | none => lookS E e ok k (s.heap.get id))
      | _ => none)
    | false => none)
  | _ => none
def putK (s : St) (id : Nat) (l : List (V × V)) (k v : V) : Option (Option (Nat × V)) → Option St
  | some (some p) => some (s.set id (some (.map (lset l p.1 (k, v)))))
  | some none => some (s.set id (some (.map (l ++ [(k, v)]))))
  | none => none
def isI64 : V → Bool
  | .int .i64 _ => true
  | .sint .i64 _ => true
  | .iany .i64 => true
  | _ => false
def putS (s : St) (id : Nat) (k v : V) : Option B → Option St
  | some .smap => (match k with
    | .str _ => (match isI64 v with | true => some (s.set id (some .smap)) | false => none)
    | _ => none)
  | _ => none
def updateV (E : Env) (t : TypeId) (m k v : V) (s : St) : Option St := match E.P.underlying t with
  | some (.map kt _) => (match keyOk E kt k with
    | true => (match m with
      | .map id => (match mapB (s.heap.get id) with | some l => putK s id l k v (findK E.G k l 0) | none => putS s id k v (s.heap.get id))
      | _ => none)
    | false => none)
  | _ => none
def parts (f : F) : List (Nat × Operand) → Option (List (Nat × V))
  | [] => some []
  | p :: l => match ev f p.2 with
    | some v => (match parts f l with | some r => some ((p.1, v) :: r) | none => none)
    | none => none
def fillV (place : Nat → Option (Nat × Nat)) : List V → List (Nat × V) → Option (List V)
  | c, [] => some c
  | c, p :: r => match place p.1 with
    | some q => (match (!isAny p.2) && Nat.beq (llen p.2.cells) q.2 && Nat.ble (q.1 + q.2) (llen c) with
      | true => fillV place (lsets c q.1 p.2.cells) r
      | false => none)
    | none => none
def sized (P : Program) : List Field → Bool
  | [] => true
  | f :: l => match sizeT P f.type with | some _ => sized P l | none => false
def fplace (P : Program) (t : TypeId) (i : Nat) : Option (Nat × Nat) := match fieldOf P t i with | some q => some (q.1, q.2.1) | none => none
def eplace (n i : Nat) : Option (Nat × Nat) := some (i * n, n)
def agg? : Option (List V) → Option V
  | some l => some (.agg l)
  | none => none
def buildV (P : Program) (t : TypeId) (ps : List (Nat × V)) : Option V := match zeroV P t with
  | some z => (match P.underlying t with
    | some (.struct fs) => (match sized P fs.toList with | true => agg? (fillV (fplace P t) z.cells ps) | false => none)
    | some (.array _ e) => (match sizeT P e with | some n => agg? (fillV (eplace n) z.cells ps) | none => none)
    | _ => none)
  | none => none
def row? (n k : Nat) (s : St) : Option (List V) → Rt
  | some c => retN (.cells c) (fun id => .sl id 0 n k) s
  | none => none
def buildS (n k : Nat) (z : List V) (ps : List (Nat × V)) (s : St) : Rt := match Nat.beq (llen z) k && Nat.blt 0 k && Nat.ble (n * k) 100000 with
  | true => row? n k s (fillV (eplace k) (rep n z) ps)
  | false => none
def buildSliceV (P : Program) (t : TypeId) (n : Nat) (ps : List (Nat × V)) (s : St) : Rt := match P.underlying t with
  | some (.slice e) => (match sizeT P e with
    | some k => (match zeroV P e with | some z => buildS n k z.cells ps s | none => none)
    | none => none)
  | _ => none
def makeS (l c k : Nat) (z : List V) (s : St) : Rt := match Nat.beq l c && Nat.ble l 100000 && Nat.beq (llen z) k && Nat.blt 0 l && Nat.blt 0 k with
  | true => retN (.cells (rep l z)) (fun id => .sl id 0 l k) s
  | false => none
def makeSliceV (P : Program) (t : TypeId) (l c : Option Nat) (s : St) : Rt := match P.underlying t with
  | some (.slice e) => (match l with
    | some l => (match c with
      | some c => (match P.info? e with
        | some i => (match zeroI i with
          | some z => (match Nat.ble i.bytes 1000000 with | true => makeS l c i.size z.cells s | false => none)
          | none => none)
        | none => none)
      | none => none)
    | none => none)
  | _ => none
def more (E : Env) (n : Nat) (s : St) : V → Option (Nat × List V)
  | .nils => some (0, [])
  | .slz => some (0, [])
  | .str l => (match allB E.G l with | true => some (llen l, l.map cellB) | false => none)
  | .sl id off len es => (match Nat.beq es n with
    | true => (match cellsOf s id with
      | some l => (match lcut l off (len * es) with | some c => some (len, c) | none => none)
      | none => none)
    | false => none)
  | _ => none
def rowB (b : Bool) (e : TypeId) (l : List V) : B := match b with | true => .typ false e l | false => .cells l
def tagB (e : TypeId) : Option B → Bool
  | some (.typ _ u _) => Nat.beq u e
  | _ => false
def grow (b : Bool) (e : TypeId) (s : St) (id len k n : Nat) (c : List V) : Option (List V) → Rt
  | some old => retN (rowB b e (old ++ c)) (fun j => .sl j 0 (len + k) n) (s.set id none)
  | none => none
def app2 (rt e : TypeId) (n : Nat) (x : V) (s : St) (k : Nat) (c : List V) : Rt := match x with
  | .nils => (match k with | 0 => some (.nils, s) | _ => retN (rowB (Nat.beq e rt) e c) (fun id => .sl id 0 k n) s)
  | .sl id off len es => (match Nat.beq es n && Nat.beq off 0 with
    | true => (match cellsOf s id with
      | some l => grow (tagB e (s.heap.get id)) e s id len k n c (ltake (len * es) l)
      | none => none)
    | false => none)
  | _ => none
def app1 (rt e : TypeId) (n : Nat) (x : V) (s : St) : Option (Nat × List V) → Rt
  | some p => (match leaves p.2 && Nat.ble p.1 1000000 && Nat.beq (llen p.2) (p.1 * n) with | true => app2 rt e n x s p.1 p.2 | false => none)
  | none => none
def lenOk : V → Bool
  | .nils => true
  | .sl _ _ len _ => Nat.ble len 1000000
  | _ => false
def isSeq : Option TypeDesc → Bool
  | some (.slice _) => true
  | some .string => true
  | _ => false
def appendV (E : Env) (ts : List TypeId) (x y : V) (s : St) : Rt := match ts with
  | [t, u] => (match E.P.underlying t with
    | some (.slice e) => (match E.P.info? e with
      | some i => (match Nat.ble i.bytes 10000 && Nat.blt 0 i.bytes && Nat.blt 0 i.size && (zeroI i).isSome && Nat.beq (llen (V.cells ((zeroI i).getD .undef))) i.size && lenOk x && isSeq (E.P.underlying u) with
        | true => app1 E.rt e i.size x s (more E i.size s y)
        | false => none)
      | none => none)
    | _ => none)
  | _ => none
def nmOf : V → Option (IntKind × Nm)
  | .int k n => some (k, .c n)
  | .sint k i => some (k, .s i)
  | _ => none
def pick2 (x y : V) : Option Bool → Option V
  | some true => some y
  | some false => some x
  | none => none
def max2V (E : Env) (x y : V) : Option V := match nmOf x with
  | some p => (match nmOf y with
    | some q => (match decide (p.1 = q.1) with | true => pick2 x y (ltN E p.2 q.2) | false => none)
    | none => none)
  | none => none
def min2V (E : Env) (x y : V) : Option V := match nmOf x with
  | some p => (match nmOf y with
    | some q => (match decide (p.1 = q.1) with | true => pick2 x y (ltN E q.2 p.2) | false => none)
    | none => none)
  | none => none
def fold2 (g : V → V → Option V) : V → List V → Option V
  | a, [] => some a
  | a, b :: l => match g a b with | some c => fold2 g c l | none => none
def lenM : Option B → Option V
  | some (.map l) => some (.int .i64 (llen l))
  | _ => none
def lenV (d : Option TypeDesc) (x : V) (s : St) : Option V := match x with
  | .str l => (match d with | some .string => some (.int .i64 (llen l)) | _ => none)
  | .nils => (match d with | some (.slice _) => some (.int .i64 0) | _ => none)
  | .slz => (match d with | some (.slice _) => some (.int .i64 0) | _ => none)
  | .sl _ _ n _ => (match d with | some (.slice _) => some (.int .i64 n) | _ => none)
  | .nilm => (match d with | some (.map _ _) => some (.int .i64 0) | _ => none)
  | .map id => (match d with | some (.map _ _) => lenM (s.heap.get id) | _ => none)
  | _ => none
def st? : Option St → Rt
  | some s => some (.undef, s)
  | none => none
def capV (d : Option TypeDesc) (x : V) : Option V := match x with
  | .nils => (match d with | some (.slice _) => some (.int .i64 0) | _ => none)
  | _ => none
def copyV (P : Program) (d : Option TypeDesc) (x y : V) : Option V := match x with
  | .sl _ _ _ _ => (match y with
    | .nils => (match d with | some (.slice e) => (match sizeT P e with | some _ => some (.int .i64 0) | none => none) | _ => none)
    | _ => none)
  | _ => none
def clearV (d : Option TypeDesc) (x : V) (s : St) : Rt := match x with
  | .map id => (match d with
    | some (.map _ _) => (match mapB (s.heap.get id) with | some _ => some (.undef, s.set id (some (.map []))) | none => none)
    | _ => none)
  | _ => none
def ldel {α : Type} : List α → Nat → List α
  | [], _ => []
  | a :: l, n => match n with | 0 => l | n + 1 => a :: ldel l n
def delK (s : St) (id : Nat) (l : List (V × V)) : Option (Option (Nat × V)) → Option St
  | some (some p) => some (s.set id (some (.map (ldel l p.1))))
  | some none => some s
  | none => none
def deleteV (E : Env) (d : Option TypeDesc) (x k : V) (s : St) : Option St := match x with
  | .map id => (match d with
    | some (.map kt _) => (match keyOk E kt k with
      | true => (match mapB (s.heap.get id) with | some l => delK s id l (findK E.G k l 0) | none => none)
      | false => none)
    | _ => none)
  | _ => none
def dataV (x : V) : Option V := match x with
  | .nils => some .nilp
  | .sl id off len _ => (match Nat.blt 0 len with | true => some (.ptr id off) | false => none)
  | _ => none
def textB (P : Program) (e : TypeId) : Option B → Bool
  | some (.typ _ u _) => Nat.beq u e && (match sizeT P e with | some 1 => true | _ => false)
  | _ => false
def textS (G : Nat → Int × Int) (s : St) (id : Nat) : Option V → Rt
  | some (.str b) => (match allB G b with | true => some (.str b, s.set id none) | false => none)
  | _ => none
def nat64 (v : V) : Option Nat := match v with
  | .int k n => (match k with | .i64 => (match n with | .ofNat n => some n | _ => none) | _ => none)
  | _ => none
def textV (E : Env) (d : Option TypeDesc) (x y : V) (s : St) : Rt := match x with
  | .nilp => (match nat64 y with | some 0 => some (.str [], s) | _ => none)
  | .ptr id off => (match nat64 y with
    | some n => (match d with
      | some (.pointer e) => (match Nat.beq off 0 && Nat.blt 0 n && Nat.blt n 1000000 && textB E.P e (s.heap.get id) with
        | true => textS E.G s id (strOf (cellsOf s id) 0 n)
        | false => none)
      | _ => none)
    | none => none)
  | _ => none
def builtinV (E : Env) (b : Builtin) (ts : List TypeId) (xs : List V) (s : St) : Rt := match b with
  | .len => (match xs with
    | [x] => (match ts with | t :: _ => ret (lenV (E.P.underlying t) x s) s | [] => none)
    | _ => none)
  | .append => (match xs with | [x, y] => appendV E ts x y s | _ => none)
  | .max => (match xs with | a :: l => ret (fold2 (max2V E) a l) s | [] => none)
  | .min => (match xs with | a :: l => ret (fold2 (min2V E) a l) s | [] => none)
  | _ => none
def builtinW (E : Env) (b : Builtin) (ts : List TypeId) (xs : List V) (s : St) : Rt := match b with
  | .cap => (match xs with | [x] => (match ts with | [t] => ret (capV (E.P.underlying t) x) s | _ => none) | _ => none)
  | .copy => (match xs with | [x, y] => (match ts with | [t, _] => ret (copyV E.P (E.P.underlying t) x y) s | _ => none) | _ => none)
  | .clear => (match xs with | [x] => (match ts with | [t] => clearV (E.P.underlying t) x s | _ => none) | _ => none)
  | .delete => (match xs with | [x, k] => (match ts with | t :: _ => st? (deleteV E (E.P.underlying t) x k s) | [] => none) | _ => none)
  | .unsafeSliceData => (match xs with | [x] => ret (dataV x) s | _ => none)
  | .unsafeString => (match xs with | [x, y] => (match ts with | [t, _] => textV E (E.P.underlying t) x y s | _ => none) | _ => none)
  | b => builtinV E b ts xs s
def findB (G : Nat → Int × Int) (c : Nat) : List Nat → Nat → Option Int
  | [], _ => some (-1)
  | b :: l, i => match eqB G b c with
    | some true => some i
    | some false => findB G c l (i + 1)
    | none => none
def countB (G : Nat → Int × Int) (c : Nat) : List Nat → Nat → Option Nat
  | [], n => some n
  | b :: l, n => match eqB G b c with
    | some true => countB G c l (n + 1)
    | some false => countB G c l n
    | none => none
def bytesO (o : Option (List V)) (off len : Nat) : Option (List Nat) := match o with
  | some l => (match lcut l off len with | some c => bytesC c | none => none)
  | none => none
def bytesX (s : St) : V → Option (List Nat)
  | .str l => some l
  | .nils => some []
  | .sl id off len es => (match Nat.beq es 1 with | true => bytesO (cellsOf s id) off len | false => none)
  | _ => none
def ix (G : Nat → Int × Int) (l : Option (List Nat)) (c : Option Nat) : Option V := match l with
  | some l => (match c with
    | some c => (match findB G c l 0 with | some n => some (.int .i64 n) | none => none)
    | none => none)
  | none => none
def cx (G : Nat → Int × Int) (l : Option (List Nat)) (c : Option Nat) : Option V := match l with
  | some l => (match c with
    | some c => (match countB G c l 0 with | some n => some (.int .i64 n) | none => none)
    | none => none)
  | none => none
def exV (E : Env) (s : St) (x : Ex) (l : List V) : Option V := match x with
  | .indexByte => (match l with | [b, c] => ix E.G (bytesX s b) (byteC c) | _ => none)
  | .count => (match l with | [b, c] => cx E.G (bytesX s b) (byteC c) | _ => none)
  | .bits => (match l with | [.flt n] => some (.int .u64 n) | [.sflt i] => (match decide (0 ≤ (E.G i).1) with | true => some (.sint .u64 i) | false => none) | _ => none)
  | .frombits => (match l with | [.int .u64 n] => some (.flt n.toNat) | [.sint .u64 i] => some (.sflt i) | _ => none)
  | .same => one l
  | .noZero => none
abbrev Call := Nat → List V → St → Rt
def noZeroV (rt : TypeId) (s : St) : List V → Rt
  | [y] => (match nat64 y with
    | some n => (match Nat.blt 0 n && Nat.ble n 100000 with | true => retN (.typ false rt []) (fun id => .sl id 0 n 1) s | false => none)
    | none => none)
  | _ => none
def callV (E : Env) (call : Call) (f : Nat) (args : List V) (s : St) : Rt := match E.ext f with
  | some .noZero => noZeroV E.rt s args
  | some e => ret (exV E s e args) s
  | none => call f args s
def map1 (f : V → Option V) : Option V → Option V
  | some v => f v
  | none => none
def map2 (f : V → V → Option V) (a b : Option V) : Option V := match a with
  | some a => (match b with | some b => f a b | none => none)
  | none => none
def opPick (f : F) (c a b : Operand) : Option V := match ev f c with
  | some (.bool true) => ev f a
  | some (.bool false) => ev f b
  | _ => none
def opAlloc (s : St) : Option V → Rt
  | some z => (match isAny z with | true => none | false => retN (.cells z.cells) (fun id => .ptr id 0) s)
  | none => none
def opNew (E : Env) (t : TypeId) (s : St) : Option V → Rt
  | some z => retN (match Nat.beq t E.bt with | true => .typ true t z.cells | false => .cells z.cells) (fun id => .ptr id 0) s
  | none => none
def opBuild (P : Program) (t : TypeId) : Option (List (Nat × V)) → Option V
  | some ps => buildV P t ps
  | none => none
def opBuildS (P : Program) (t : TypeId) (n : Nat) (s : St) : Option (List (Nat × V)) → Rt
  | some ps => buildSliceV P t n ps s
  | none => none
def opLoad (P : Program) (t : TypeId) (s : St) : Option V → Option V
  | some (.ptr id off) => loadT P s t id off
  | _ => none
def opStore (P : Program) (t : TypeId) (s : St) (a x : Option V) : Option St := match a with
  | some (.ptr id off) => (match x with | some v => storeT P s t id off v | none => none)
  | _ => none
def opNil : Option V → Option V
  | some (.ptr a b) => some (.ptr a b)
  | some (.ifc t v) => some (.ifc t v)
  | _ => none
def opConv (E : Env) (a b : TypeId) (s : St) : Option V → Rt
  | some v => conv E a b v s
  | none => none
def isIface : TypeDesc → Bool
  | .interface _ => true
  | _ => false
def opIface (P : Program) (t : TypeId) : Option V → Option V
  | some v => (match P.underlying t with
    | some d => (match isIface d with | true => none | false => some (.ifc t v))
    | none => none)
  | none => none
def opFunc (f : F) (g : Fn) (first : List Operand) (caps : List Operand) : Option V := match g with
  | .func g => (match isNil first with
    | true => (match evs f caps with | some l => some (.fn g l) | none => none)
    | false => none)
  | _ => none
def opField (P : Program) (t : TypeId) (i : Nat) : Option V → Option V
  | some (.ptr id off) => (match fieldOf P t i with
    | some q => (match q.2.1 with | 0 => none | _ => some (.ptr id (off + q.1)))
    | none => none)
  | _ => none
def opPart (P : Program) (t : TypeId) (i : Nat) : Option V → Option V
  | some (.agg l) => (match fieldOf P t i with
    | some q => partV P q.2.2 l q.1 q.2.1
    | none => none)
  | _ => none
def opUpdate (E : Env) (t : TypeId) (s : St) (m k x : Option V) : Option St := match m with
  | some m => (match k with
    | some k => (match x with | some x => updateV E t m k x s | none => none)
    | none => none)
  | none => none
def opRange (P : Program) (t : TypeId) (s : St) : Option V → Rt
  | some (.str l) => (match P.underlying t with
    | some .string => retN (.iter l 0) (fun id => .ptr id 0) s
    | _ => none)
  | _ => none
def runeV (c : Nat) : V := match Nat.blt c 256 with | true => .int .i32 c | false => .sint .i32 (c - 256)
def low7 (G : Nat → Int × Int) (c : Nat) : Bool := decide ((byteRng G c).2 < 128) && decide (0 ≤ (byteRng G c).1)
def nextB (G : Nat → Int × Int) (s : St) (id : Nat) (l : List Nat) (p : Nat) : Rt := match lget l p with
  | none => some (.tup [.bool false], s)
  | some c => (match low7 G c with
    | true => some (.tup [.bool true, .int .i64 p, runeV c], s.set id (some (.iter l (p + 1))))
    | false => none)
def nextI (G : Nat → Int × Int) (s : St) (id : Nat) : Option B → Rt
  | some (.iter l p) => nextB G s id l p
  | _ => none
def opNext (G : Nat → Int × Int) (s : St) : Option V → Rt
  | some (.ptr id off) => (match Nat.beq off 0 with | true => nextI G s id (s.heap.get id) | false => none)
  | _ => none
def opExtract (i : Nat) : Option V → Option V
  | some (.tup l) => lget l i
  | _ => none
def callF (E : Env) (call : Call) (args : List V) (s : St) : Option V → Rt
  | some (.fn g caps) => callV E call g (args ++ caps) s
  | _ => none
def recv (E : Env) (s : St) (v : V) : Option TypeId → Option V
  | none => (match v with | .ptr _ _ => some v | _ => none)
  | some t => opLoad E.P t s (some v)
def invokeV (E : Env) (call : Call) (m : String) (args : List V) (s : St) : Option V → Rt
  | some (.ifc t v) => (match E.meth t m with
    | some q => (match recv E s v q.2 with | some r => call q.1 (r :: args) s | none => none)
    | none => none)
  | _ => none
def opAssert (P : Program) (a : TypeId) (ok : Bool) : Option V → Option V
  | some (.ifc t v) => (match P.underlying a with
    | some d => (match isIface d with
      | true => none
      | false => (match Nat.beq t a with
        | true => some (match ok with | true => .tup [v, .bool true] | false => v)
        | false => none))
    | none => none)
  | _ => none
def opCall (E : Env) (call : Call) (c : Go.Call) (f : F) (s : St) : Rt := match evs f c.args.toList with
  | some args => (match c.callee with
    | .builtin b => builtinW E b c.argTypes.toList args s
    | .value g => callF E call args s (ev f g)
    | .invoke g m => invokeV E call m args s (ev f g))
  | none => none
def idleF (E : Env) : Option V → Rt → Rt
  | some (.fn g _), r => (match E.idle g with | true => r | false => none)
  | _, _ => none
def opDefer (E : Env) (c : Go.Call) (f : F) (s : St) : Rt := match isNil c.args.toList with
  | true => (match c.callee with
    | .value g => idleF E (ev f g) (some (.undef, s))
    | _ => none)
  | false => none
def isNilC : Operand → Bool
  | .const v => (match v with | .nilIface => true | _ => false)
  | _ => false
def ifN (P : Program) (b : BinOp) (t : TypeId) (c : Bool) : Option V := match P.underlying t with
  | some (.interface _) => (match b with | .eql => some (.bool c) | .neq => some (.bool (!c)) | _ => none)
  | _ => none
def opIfNil (P : Program) (b : BinOp) (t : TypeId) : Option V → Option V
  | some .nili => ifN P b t true
  | some (.ifc _ _) => ifN P b t false
  | _ => none
def op (E : Env) (call : Call) (o : Op) (f : F) (s : St) : Rt := match o with
  | .move x => ret (ev f x) s
  | .assign x => ret (ev f x) s
  | .pick c a b => ret (opPick f c a b) s
  | .alloc t => opNew E t s (zeroV E.P t)
  | .box _ x => opAlloc s (ev f x)
  | .build t ps => ret (opBuild E.P t (parts f ps.toList)) s
  | .buildSlice t n ps => opBuildS E.P t n s (parts f ps.toList)
  | .load t a => ret (opLoad E.P t s (ev f a)) s
  | .store t a x => st? (opStore E.P t s (ev f a) (ev f x))
  | .nilCheck x => ret (opNil (ev f x)) s
  | .binOp b t x y _ => (match isNilC y with | true => ret (opIfNil E.P b t (ev f x)) s | false => ret (map2 (bin E b t) (ev f x) (ev f y)) s)
  | .unOp u _ x => ret (map1 (un E u) (ev f x)) s
  | .convert a b x => opConv E a b s (ev f x)
  | .makeInterface t x => ret (opIface E.P t (ev f x)) s
  | .makeFunc g first caps => ret (opFunc f g first.toList caps.toList) s
  | .makeMap _ r => (match r with | none => retN (.map []) .map s | some _ => none)
  | .makeSlice t l c => makeSliceV E.P t (optV (ev f l)) (optV (ev f c)) s
  | .slice t x lo hi mx => ret (map1 (fun v => sliceV E.P t v f lo hi mx) (ev f x)) s
  | .fieldAddr t x i => ret (opField E.P t i (ev f x)) s
  | .field t x i => ret (opPart E.P t i (ev f x)) s
  | .indexAddr t x i => ret (map2 (indexAddrV E.P t) (ev f x) (ev f i)) s
  | .index t x i => ret (map2 (indexV E t) (ev f x) (ev f i)) s
  | .lookup t x k ok => ret (map2 (fun x k => lookupV E t x k ok s) (ev f x) (ev f k)) s
  | .mapUpdate t m k x => st? (opUpdate E t s (ev f m) (ev f k) (ev f x))
  | .range t x => opRange E.P t s (ev f x)
  | .next it str => (match str with | true => opNext E.G s (ev f it) | false => none)
  | .typeAssert x _ a ok => ret (opAssert E.P a ok (ev f x)) s
  | .extract x i => ret (opExtract i (ev f x)) s
  | .call c => opCall E call c f s
  | .defer c => opDefer E c f s
  | _ => none
def opT (o : Op) : Env → Call → F → St → Rt := Op.rec (motive := fun _ => Env → Call → F → St → Rt)
    (fun x E call f s => ret (ev f x) s)
    (fun x E call f s => ret (ev f x) s)
    (fun c a b E call f s => ret (opPick f c a b) s)
    (fun t E call f s => opNew E t s (zeroV E.P t))
    (fun _ x E call f s => opAlloc s (ev f x))
    (fun t ps E call f s => ret (opBuild E.P t (parts f ps.toList)) s)
    (fun t n ps E call f s => opBuildS E.P t n s (parts f ps.toList))
    (fun _ _ _ _ _ _ _ _ => none)
    (fun t a E call f s => ret (opLoad E.P t s (ev f a)) s)
    (fun t a x E call f s => st? (opStore E.P t s (ev f a) (ev f x)))
    (fun _ _ _ _ _ => none)
    (fun _ _ _ _ _ => none)
    (fun x E call f s => ret (opNil (ev f x)) s)
    (fun b t x y _ E call f s => (match isNilC y with | true => ret (opIfNil E.P b t (ev f x)) s | false => ret (map2 (bin E b t) (ev f x) (ev f y)) s))
    (fun u _ x E call f s => ret (map1 (un E u) (ev f x)) s)
    (fun a b x E call f s => opConv E a b s (ev f x))
    (fun _ _ _ _ _ _ => none)
    (fun t x E call f s => ret (opIface E.P t (ev f x)) s)
    (fun g first caps E call f s => ret (opFunc f g first.toList caps.toList) s)
    (fun _ r E call f s => (match r with | none => retN (.map []) .map s | some _ => none))
    (fun _ _ _ _ _ _ => none)
    (fun t l c E call f s => makeSliceV E.P t (optV (ev f l)) (optV (ev f c)) s)
    (fun t x lo hi mx E call f s => ret (map1 (fun v => sliceV E.P t v f lo hi mx) (ev f x)) s)
    (fun t x i E call f s => ret (opField E.P t i (ev f x)) s)
    (fun t x i E call f s => ret (opPart E.P t i (ev f x)) s)
    (fun t x i E call f s => ret (map2 (indexAddrV E.P t) (ev f x) (ev f i)) s)
    (fun t x i E call f s => ret (map2 (indexV E t) (ev f x) (ev f i)) s)
    (fun t x k ok E call f s => ret (map2 (fun x k => lookupV E t x k ok s) (ev f x) (ev f k)) s)
    (fun t m k x E call f s => st? (opUpdate E t s (ev f m) (ev f k) (ev f x)))
    (fun _ _ _ _ _ _ _ => none)
    (fun _ _ _ _ _ _ _ _ => none)
    (fun t x E call f s => opRange E.P t s (ev f x))
    (fun it str E call f s => (match str with | true => opNext E.G s (ev f it) | false => none))
    (fun _ _ _ _ _ => none)
    (fun x _ a ok E call f s => ret (opAssert E.P a ok (ev f x)) s)
    (fun x i E call f s => ret (opExtract i (ev f x)) s)
    (fun c E call f s => opCall E call c f s)
    (fun _ _ _ _ _ => none)
    (fun c E call f s => opDefer E c f s)
    (fun _ _ _ _ _ => none)
    (fun _ _ _ _ _ _ => none)
    (fun _ _ _ _ _ _ _ => none)
    (fun _ _ _ _ _ _ => none) o
def guardT : Option V → Bool → Option Bool
  | some (.bool b), w => some (b == w)
  | some .undef, _ => some false
  | _, _ => none
def guardP (f : F) (w : Bool) : Option Oper → Option Bool
  | some p => (match p.dst with | some t => guardT (f.get t) w | none => none)
  | none => none
def guardOk (ops : List Oper) (f : F) : Option (Nat × Bool) → Option Bool
  | none => some true
  | some q => guardP f q.2 (lget ops q.1)
def putD (f : F) (d : Option Tmp) (v : V) : F := match d with | some t => f.set t (some v) | none => f
def step (E : Env) (call : Call) (all : List Oper) (o : Oper) (f : F) (s : St) : Rt := match guardOk all f o.guard with
  | some true => opT o.op E call f s
  | some false => some (.undef, s)
  | none => none
def regS (E : Env) (call : Call) (all l : List Oper) : F → St → Option (F × St) :=
  List.rec (motive := fun _ => F → St → Option (F × St)) (fun f s => some (f, s))
    (fun o _ ih f s => Option.rec (motive := fun _ => Option (F × St)) none (fun r => ih (putD f o.dst r.1) r.2) (step E call all o f s)) l
def deps (o : Oper) : List Nat := (o.after.toList.filter (Region.binds .any)).map (·.on)
def maskOf (ms : List Nat) : List Nat → Nat → Nat
  | [], m => m
  | d :: l, m => maskOf ms l (Nat.lor (Nat.lor m (2 ^ d)) ((lget ms d).getD 0))
def masks : List Oper → List Nat → List Nat
  | [], ms => ms
  | o :: l, ms => masks l (ms ++ [maskOf ms (deps o) 0])
def depsOk : List Oper → Nat → Bool
  | [], _ => true
  | o :: l, i => (deps o).all (fun d => Nat.blt d i) && depsOk l (i + 1)
structure Was where
  v : V
  to : Option St
def same (s s' : St) : Bool := Nat.beq s'.next s.next && Nat.beq s'.low s.next
def was (s : St) (r : V × St) : Was := match same s r.2 with
  | true => ⟨r.1, none⟩
  | false => ⟨r.1, some ⟨r.2.heap, r.2.next, minN s.low r.2.low⟩⟩
def stepW (E : Env) (call : Call) (all : List Oper) (o : Oper) (f : F) (s : St) : Option Was := match step E call all o f ⟨s.heap, s.next, s.next⟩ with
  | some r => some (was s r)
  | none => none
structure Rc where
  o : Oper
  f : F
  w : Was
def nextSt (s : St) (w : Was) (r : List St) : List St := match w.to with
  | some s' => s' :: s :: r
  | none => s :: r
def cons3 (c : Rc) : Option (F × List Rc × List St) → Option (F × List Rc × List St)
  | some q => some (q.1, c :: q.2.1, q.2.2)
  | none => none
def passD (E : Env) (call : Call) (all : List Oper) : List Oper → F → St → List St → Option (F × List Rc × List St)
  | [], f, s, ss => some (f, [], s :: ss)
  | o :: l, f, s, ss => match stepW E call all o f s with
    | some w => cons3 ⟨o, f, w⟩ (match w.to with
      | some s' => passD E call all l (putD f o.dst w.v) s' (s :: ss)
      | none => passD E call all l (putD f o.dst w.v) s ss)
    | none => none
def reads (all : List Oper) (o : Oper) : List Tmp :=
  (o.op.operands.toList.filterMap fun | .tmp t => some t | _ => none) ++
  (match o.guard with
    | some q => (match lget all q.1 with | some p => p.dst.toList | none => [])
    | none => [])
def dstAt (all : List Oper) (i : Nat) : Option Tmp := match lget all i with | some o => o.dst | none => none
def writesOk (all : List Oper) (ms : List Nat) (i m : Nat) (t : Tmp) : Bool := (List.range (llen all)).all fun j => match dstAt all j == some t with
  | true => Nat.testBit m j || Nat.testBit ((lget ms j).getD 0) i
  | false => true
def readsOk (all : List Oper) (ms : List Nat) (i : Nat) : Bool := match lget all i with
  | some o => (reads all o).all (writesOk all ms i ((lget ms i).getD 0))
  | none => true
def aloneOk (all : List Oper) (i : Nat) : Bool := match dstAt all i with
  | some t => (List.range (llen all)).all fun j => match dstAt all j == some t with | true => Nat.beq i j | false => true
  | none => true
def statOk (all : List Oper) (ms : List Nat) : Bool := depsOk all 0 && Nat.beq (llen ms) (llen all) &&
  (List.range (llen all)).all fun i => readsOk all ms i && aloneOk all i
def turns : List Rc → Nat → List Nat
  | [], _ => []
  | c :: l, i => match c.w.to with | some _ => i :: turns l (i + 1) | none => turns l (i + 1)
def hasAll (m : Nat) : List Nat → Bool
  | [] => true
  | e :: l => match Nat.testBit m e with | true => hasAll m l | false => false
def floats (all : List Oper) (e : Nat) : Bool := match lget all e with
  | some o => (match o.op with
    | .alloc _ => (match o.guard with | none => (match o.dst with | some _ => true | none => false) | some _ => false)
    | _ => false)
  | none => false
def chainOk (all : List Oper) (ms : List Nat) : List Nat → List Nat → Bool
  | _, [] => true
  | old, e :: l => match floats all e || hasAll ((lget ms e).getD 0) old with | true => chainOk all ms (old ++ [e]) l | false => false
def airOk (all : List Oper) (m : Nat) : List Nat → List Nat → Bool
  | _, [] => true
  | old, e :: l => match floats all e && Nat.testBit m e with
    | true => (match hasAll m old with | true => airOk all m (old ++ [e]) l | false => false)
    | false => airOk all m (old ++ [e]) l
def noneHas (ms : List Nat) (i : Nat) : List Nat → Bool
  | [] => true
  | e :: l => match Nat.testBit ((lget ms e).getD 0) i with | true => false | false => noneHas ms i l
def hasNone (m : Nat) : List Nat → Bool
  | [] => true
  | e :: l => match Nat.testBit m e with | true => false | false => hasNone m l
mutual
def vEq : V → V → Bool
  | .undef, .undef => true
  | .bool a, .bool b => a == b
  | .int k a, .int j b => decide (k = j) && decide (a = b)
  | .sint k a, .sint j b => decide (k = j) && Nat.beq a b
  | .flt a, .flt b => Nat.beq a b
  | .sflt a, .sflt b => Nat.beq a b
  | .str a, .str b => decide (a = b)
  | .nilp, .nilp => true
  | .ptr a b, .ptr c d => Nat.beq a c && Nat.beq b d
  | .nils, .nils => true
  | .slz, .slz => true
  | .sl a b c d, .sl x y z w => Nat.beq a x && Nat.beq b y && Nat.beq c z && Nat.beq d w
  | .nilm, .nilm => true
  | .map a, .map b => Nat.beq a b
  | .nilf, .nilf => true
  | .fn a l, .fn b m => Nat.beq a b && vEqs l m
  | .nili, .nili => true
  | .ifc a l, .ifc b m => Nat.beq a b && vEq l m
  | .agg l, .agg m => vEqs l m
  | .tup l, .tup m => vEqs l m
  | .any, .any => true
  | .iany j, .iany k => decide (j = k)
  | .nan, .nan => true
  | _, _ => false
def vEqs : List V → List V → Bool
  | [], [] => true
  | a :: l, b :: m => vEq a b && vEqs l m
  | _, _ => false
end
def asWas (v : V) : Option Was → Bool
  | some w => (match w.to with | none => vEq w.v v | some _ => false)
  | none => false
def stagesOk (E : Env) (call : Call) (all : List Oper) (ms : List Nat) (i : Nat) (c : Rc) : Option Nat → List Nat → List Nat → List St → Bool
  | _, _, _, [] => true
  | k, ahead, es, s :: ss => match k with
    | some 0 => stagesOk E call all ms i c none (match es with | e :: _ => ahead ++ [e] | [] => ahead) es.tail ss
    | k => match noneHas ms i ahead && hasNone ((lget ms i).getD 0) es with
      | true => (match asWas c.w.v (stepW E call all c.o c.f s) with
        | true => stagesOk E call all ms i c (match k with | some (k + 1) => some k | _ => none) (match es with | e :: _ => ahead ++ [e] | [] => ahead) es.tail ss
        | false => false)
      | false => stagesOk E call all ms i c (match k with | some (k + 1) => some k | _ => none) (match es with | e :: _ => ahead ++ [e] | [] => ahead) es.tail ss
def looksOk (E : Env) (call : Call) (all : List Oper) (ms es : List Nat) (ss : List St) : List Rc → Nat → Nat → Bool
  | [], _, _ => true
  | c :: l, i, k => match c.w.to with
    | some _ => looksOk E call all ms es ss l (i + 1) (k + 1)
    | none => (match stagesOk E call all ms i c (some k) [] es ss && airOk all ((lget ms i).getD 0) [] es with
      | true => looksOk E call all ms es ss l (i + 1) k
      | false => false)
def lastD (E : Env) (call : Call) (all : List Oper) (ms : List Nat) : Option (F × List Rc × List St) → Option (F × St)
  | some q => (match q.2.2 with
    | s :: _ => (match chainOk all ms [] (turns q.2.1 0) && looksOk E call all ms (turns q.2.1 0) q.2.2.reverse q.2.1 0 0 with
      | true => some (q.1, s)
      | false => none)
    | [] => none)
  | none => none
def regD (E : Env) (call : Call) (all : List Oper) (f : F) (s : St) : Option (F × St) := match statOk all (masks all []) with
  | true => lastD E call all (masks all []) (passD E call all all f s [])
  | false => none
def reg (E : Env) (call : Call) (all : List Oper) (draw : Bool) (f : F) (s : St) : Option (F × St) := match draw with
  | true => regD E call all f s
  | false => regS E call all all f s
abbrev Got := Option (Out × F × St)
def norm? : Option (F × St) → Got
  | some r => some (.norm, r)
  | none => none
def outB (id : Nat) : Got → Got
  | some (.exit i, r) => (match Nat.beq i id with | true => some (.norm, r) | false => some (.exit i, r))
  | r => r
def then? (k : F → St → Got) : Got → Got
  | some (.norm, f, s) => k f s
  | r => r
def condV (f : F) (c : Operand) : Option Bool := match ev f c with
  | some (.bool b) => some b
  | _ => none
def execT (c : Code) : Env → Call → (Code → F → St → Got) → F → St → Got := Code.rec (motive := fun _ => Env → Call → (Code → F → St → Got) → F → St → Got)
    (fun _ _ _ f s => some (.norm, f, s))
    (fun _ ops draw E call _ f s => norm? (reg E call ops.toList draw f s))
    (fun a b _ _ _ _ rec f s => then? (rec b) (rec a f s))
    (fun c a b _ _ _ _ rec f s => Option.rec (motive := fun _ => Got) none (fun b1 => Bool.rec (motive := fun _ => Got) (rec b f s) (rec a f s) b1) (condV f c))
    (fun id b _ _ _ rec f s => outB id (rec b f s))
    (fun b _ _ _ rec f s => then? (rec (.loop b)) (rec b f s))
    (fun _ _ _ _ _ _ _ _ _ _ _ => none)
    (fun id _ _ _ f s => some (.exit id, f, s))
    (fun b _ _ _ rec f s => rec b f s)
    (fun _ _ _ _ f s => some (.norm, f, s))
    (fun _ _ _ _ _ _ => none)
    (fun _ _ _ f s => some (.ret, f, s))
    (fun _ _ _ _ _ _ => none) c
def exec (E : Env) (call : Call) (n : Nat) : Code → F → St → Got :=
  Nat.rec (motive := fun _ => Code → F → St → Got) (fun _ _ _ => none) (fun _ ih c => execT c E call ih) n
def initF : List V → Nat → F → F
  | [], _, f => f
  | v :: l, k, f => initF l (k + 1) (T.add 40 f k (some v))
def fillU : Nat → Nat → F → F
  | 0, _, f => f
  | n + 1, k, f => fillU n (k + 1) (T.add 40 f k (some .undef))
def resOf (P : Program) (f : F) (s : St) : ResultVar → Option V
  | .tmp t => f.get t
  | .cell a t => opLoad P t s (f.get a)
def resAll (P : Program) (f : F) (s : St) : List ResultVar → Option (List V)
  | [] => some []
  | r :: l => match resOf P f s r with
    | some v => (match resAll P f s l with | some r => some (v :: r) | none => none)
    | none => none
def tupV : List V → V
  | [v] => v
  | l => .tup l
def resV (P : Program) (f : F) (s : St) (l : List ResultVar) : Rt := match resAll P f s l with
  | some l => some (tupV l, s)
  | none => none
def left (P : Program) (l : List ResultVar) : Got → Rt
  | some (.norm, r) => resV P r.1 r.2 l
  | some (.ret, r) => resV P r.1 r.2 l
  | _ => none
mutual
def below (n : Nat) : V → Bool
  | .ptr id _ => Nat.blt id n
  | .sl id _ _ _ => Nat.blt id n
  | .map id => Nat.blt id n
  | .fn _ l => belows n l
  | .ifc _ v => below n v
  | .agg l => belows n l
  | .tup l => belows n l
  | _ => true
def belows (n : Nat) : List V → Bool
  | [] => true
  | v :: l => below n v && belows n l
end
def tidy (s : St) (r : V × St) : V × St := match Nat.ble s.next r.2.low && below s.next r.1 with
  | true => (r.1, s)
  | false => (r.1, ⟨r.2.heap, r.2.next, minN s.low r.2.low⟩)
def tidy? (s : St) : Rt → Rt
  | some r => some (tidy s r)
  | none => none
abbrev Hook := Nat → List V → St → Option Rt
def enter (E : Env) (call : Call) (e : FE) (args : List V) (s : St) : Rt :=
  left E.P e.results (exec E call 1000000 e.code (fillU (e.ntmps - llen args) (llen args) (initF args 0 .e)) s)
def asksR (o : Oper) : Bool := match o.op with
  | .call c => (match c.callee with | .builtin .recover => isNil c.args.toList && isNil (match o.guard with | none => ([] : List Nat) | some _ => [0]) | _ => false)
  | _ => false
def frame0 (e : FE) (args : List V) : F := fillU (e.ntmps - llen args) (llen args) (initF args 0 .e)
def strict (E : Env) : Env := { E with idle := fun _ => false }
def runD (E : Env) (call : Call) (e : FE) (caps : List V) (s : St) : Option St := match e.code with
  | .seq (.region _ ops false) rest => (match ops.toList with
    | o :: l => (match asksR o && isNil e.results with
      | true => (match regS (strict E) call (o :: l) l (putD (frame0 e caps) o.dst .nili) s with
        | some r => (match exec (strict E) call 1000000 rest r.1 r.2 with
          | some (.norm, q) => some q.2
          | some (.ret, q) => some q.2
          | _ => none)
        | none => none)
      | false => none)
    | [] => none)
  | _ => none
def shut2 (E : Env) (call : Call) (results : List ResultVar) (q : F × St) : V → Rt
  | .fn h caps => (match E.fe h with
    | some e => (match runD E call e caps q.2 with | some s => resV E.P q.1 s results | none => none)
    | none => none)
  | _ => none
def shut (E : Env) (call : Call) (results : List ResultVar) (g : V) : Got → Rt
  | some (.norm, q) => shut2 E call results q g
  | some (.ret, q) => shut2 E call results q g
  | _ => none
def opens (f : F) (o : Oper) : Option V := match o.op with
  | .defer c => (match isNil c.args.toList with
    | true => (match c.callee with | .value g => (match o.guard with | none => ev f g | some _ => none) | _ => none)
    | false => none)
  | _ => none
def enter3 (E : Env) (call : Call) (e : FE) (rest : Code) (ops : List Oper) : Got → Rt
  | some (.norm, f, s) => (match ops.reverse with
    | o :: l => (match regS E call ops l.reverse f s with
      | some r => (match opens r.1 o with
        | some g => shut E call e.results g (exec E call 1000000 rest (putD r.1 o.dst .undef) r.2)
        | none => none)
      | none => none)
    | [] => none)
  | _ => none
def enter2 (E : Env) (call : Call) (e : FE) (args : List V) (s : St) : Rt := match e.code with
  | .seq c0 (.seq (.region _ ops false) rest) => enter3 E call e rest ops.toList (exec E call 1000000 c0 (frame0 e args) s)
  | _ => none
def callN (E : Env) (hook : Hook) : Nat → Call
  | 0, _, _, _ => none
  | n + 1, f, args, s => match hook f args s with
    | some r => r
    | none => (match E.fe f with
      | some e => tidy? s (match E.door f with | true => enter2 E (callN E hook n) e args ⟨s.heap, s.next, s.next⟩ | false => enter E (callN E hook n) e args ⟨s.heap, s.next, s.next⟩)
      | none => none)
end
end Go.Proofs.YtnpkeganpkobjaaGreatDoor.Ev
