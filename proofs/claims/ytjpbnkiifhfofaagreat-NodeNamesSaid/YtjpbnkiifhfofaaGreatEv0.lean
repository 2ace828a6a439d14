/- The evaluator's texts EvDef to Sound23, joined. -/
import Derived.WalkKit
set_option maxHeartbeats 1000000
set_option linter.all false
set_option linter.deprecated false
set_option linter.unusedVariables false
set_option linter.unusedSimpArgs false
set_option linter.unnecessarySimpa false
namespace Go.Evl
open Go
inductive PV where
 | val (v:Value)
 | agg (cs:List PV)
 | tup (vs:List PV)
 | ptr (r o:Nat)
 | rp (r k g i j:Nat)
 | ip (xs:List (List PV)) (i j:Nat)
 | sl (r k g off len:Nat)
 | im (xs:List (List PV)) (full:Bool)
 | fn (f:FuncId) (caps:List PV)
 | ifc
 deriving Inhabited
inductive Blk where
 | box (cs:List PV)
 | row (k:Nat) (xs:List (List PV)) (own:Bool)
 | dead
 deriving Inhabited
structure Heap where
 n:Nat
 at_:Nat→Blk
def Heap.empty:Heap:=⟨0,fun _=>.dead⟩
def Heap.put (H:Heap) (r:Nat) (b:Blk):Heap:=⟨H.n,fun i=>if i=r then b else H.at_ i⟩
def Heap.grow (H:Heap) (m:Nat):Heap:=⟨H.n+m,fun i=>if i < H.n then H.at_ i else .dead⟩
def Heap.cut (h H:Heap):Heap:=⟨H.n,fun i=>if i < H.n then h.at_ i else H.at_ i⟩
def uv:PV:=.val undef
def okV:Value→Bool
 | .bool _ | .int _ _ | .float _ _ | .complex _ _ _ | .string _ | .pointer none | .nilFunc | .nilIface=>true
 | _=>false
def ofV1 (v:Value):Option PV :=
 match v with
 | .slice none 0 0=>some (.im [] true)
 | v=>if okV v then some (.val v) else none
def ofVs:List Value→Option (List PV)
 | []=>some []
 | v::vs=>match ofV1 v,ofVs vs with
   | some p,some ps=>some (p::ps)
   | _,_=>none
def ofV:Value→Option PV
 | .agg cs=>(ofVs cs.toList).map PV.agg
 | .tuple cs=>if cs.size=0 then some uv else none
 | v=>ofV1 v
def toVs:List PV→Option (List Value)
 | []=>some []
 | .val v::vs=>(toVs vs).map fun l=>v::l
 | _::_=>none
def toV:PV→Option Value
 | .val v=>some v
 | .agg cs=>(toVs cs).map fun l=>Value.agg l.toArray
 | _=>none
def cellP:PV→Bool
 | .val v=>v.oneCell'
 | .agg _ | .tup _=>false
 | _=>true
def cellsOf:PV→List PV
 | .agg cs=>cs
 | v=>[v]
def pureRun {α:Type} (P:Program):Sem α→Option α
 | .pure a=>some a
 | .program k=>pureRun P (k P)
 | _=>none
inductive How where
 | own | inl | keep
 deriving DecidableEq,Repr,Inhabited
structure ORes where
 v:PV
 h:Heap
 wr:List Nat
 rd:Option (List Nat)
def plain:PV→Option PV
 | .val v=>if v.oneCell' then some (.val v) else none
 | .im xs _=>some (.im xs false)
 | .ifc=>some .ifc
 | _=>none
def plains:List PV→Option (List PV)
 | []=>some []
 | c::cs=>match plain c,plains cs with
   | some c,some cs=>some (c::cs)
   | _,_=>none
def plainss:List (List PV)→Option (List (List PV))
 | []=>some []
 | c::cs=>match plains c,plainss cs with
   | some c,some cs=>some (c::cs)
   | _,_=>none
def expC1 (H:Heap):PV→Option (PV × List Nat)
 | .val v=>if v.oneCell' then some (.val v,[]) else none
 | .im xs _=>some (.im xs false,[])
 | .ifc=>some (.ifc,[])
 | .fn f []=>some (.fn f [],[])
 | .sl r k g off len =>
   match H.at_ r with
   | .row k' xs _ =>
     if k=k'∧g=xs.length∧off+len≤xs.length then
      match plainss ((xs.drop off).take len) with
      | some ys=>some (.im ys false,[r])
      | none=>none
     else none
   | _=>none
 | _=>none
def expCs1 (H:Heap):List PV→Option (List PV × List Nat)
 | []=>some ([],[])
 | c::cs=>match expC1 H c,expCs1 H cs with
   | some (c,is),some (cs,js)=>some (c::cs,is++js)
   | _,_=>none
def expRs (H:Heap):List (List PV)→Option (List (List PV) × List Nat)
 | []=>some ([],[])
 | c::cs=>match expCs1 H c,expRs H cs with
   | some (c,is),some (cs,js)=>some (c::cs,is++js)
   | _,_=>none
def expC (H:Heap):PV→Option (PV × List Nat)
 | .val v=>if v.oneCell' then some (.val v,[]) else none
 | .im xs _=>some (.im xs false,[])
 | .ifc=>some (.ifc,[])
 | .fn f []=>some (.fn f [],[])
 | .sl r k g off len =>
   match H.at_ r with
   | .row k' xs _ =>
     if k=k'∧g=xs.length∧off+len≤xs.length then
      match plainss ((xs.drop off).take len) with
      | some ys=>some (.im ys false,[r])
      | none=>match expRs H ((xs.drop off).take len) with
        | some (ys,is)=>some (.im ys false,r::is)
        | none=>none
     else none
   | _=>none
 | _=>none
def expCs (H:Heap):List PV→Option (List PV × List Nat)
 | []=>some ([],[])
 | c::cs=>match expC H c,expCs H cs with
   | some (c,is),some (cs,js)=>some (c::cs,is++js)
   | _,_=>none
def expA (H:Heap):PV→Option (PV × List Nat)
 | .agg cs=>match expCs H cs with
   | some (cs,is)=>some (.agg cs,is)
   | none=>none
 | v=>expC H v
def expAs (H:Heap):List PV→Option (List PV × List Nat)
 | []=>some ([],[])
 | c::cs=>match expA H c,expAs H cs with
   | some (c,is),some (cs,js)=>some (c::cs,is++js)
   | _,_=>none
def expV (H:Heap):PV→Option (PV × List Nat)
 | .tup vs=>match expAs H vs with
   | some (vs,is)=>some (.tup vs,is)
   | none=>none
 | v=>expA H v
def flatC:PV→Bool
 | .val _ | .ifc=>true
 | .fn _ []=>true
 | .im [] _=>true
 | _=>false
def flatA:PV→Bool
 | .agg cs=>cs.all flatC
 | v=>flatC v
def flatV:PV→Bool
 | .tup vs=>vs.all flatA
 | v=>flatA v
def belowC (n:Nat):PV→Bool
 | .val _ | .ifc | .im .. | .ip ..=>true
 | .ptr r _ | .rp r _ _ _ _ | .sl r _ _ _ _=>r < n
 | _=>false
def belowF (n:Nat):PV→Bool
 | .fn _ cs=>cs.all (belowC n)
 | v=>belowC n v
def Blk.below (n:Nat):Blk→Bool
 | .box cs=>cs.all (belowF n)
 | .row _ xs _=>xs.all (·.all (belowF n))
 | .dead=>true
def freeze1 (H:Heap) (i:Nat):Heap :=
 match H.at_ i with
 | .row k xs true=>H.put i (.row k xs false)
 | _=>H
def freeze (H:Heap) (is:List Nat):Heap:=is.foldl freeze1 H
inductive O where
 | t (i:Nat)
 | c (v:PV)
 deriving Inhabited
inductive COp where
 | mv (x:O)
 | pick (c a b:O)
 | alloc (z:List PV)
 | box (x:O)
 | build (z:List PV) (ps:List (Nat × Nat × O))
 | bsl (k n:Nat) (z:List PV) (ps:List (Nat × Nat × O))
 | brow (k n:Nat) (z:List PV) (ps:List (Nat × Nat × O))
 | ld (n:Nat) (agg:Bool) (p:O)
 | st (n:Nat) (p x:O)
 | nck (x:O)
 | bin (op:BinOp) (t:TypeId) (cx cy:Bool) (x y:O)
 | nilq (neg c:Bool) (x y:O)
 | un (op:UnOp) (x:O)
 | cv (s d:TypeId) (x:O)
 | s2b (x:O)
 | b2s (x:O)
 | fld (off n:Nat) (agg:Bool) (x:O)
 | fad (off:Nat) (p:O)
 | ixa (len s:Nat) (agg:Bool) (x i:O)
 | ixs (x i:O)
 | iaa (len s:Nat) (p i:O)
 | ias (s:Nat) (x i:O)
 | slc (s:Nat) (x:O) (lo hi mx:Option O)
 | mkf (f:FuncId) (caps:List O)
 | ext (x:O) (i:Nat)
 | len (str:Bool) (x:O)
 | app (k:Nat) (x y:O)
 | copy (k:Nat) (x y:O)
 | clr (z:List PV) (x:O)
 | fun_ (b:Builtin) (ts:Array TypeId) (t:TypeId) (xs:List O)
 | call (g:O) (xs:List O)
 | bad
 deriving Inhabited
structure CI where
 dst:Option Nat
 op:COp
 guard:Option (Nat × Bool)
 deriving Inhabited
inductive CC where
 | skip
 | reg (draw:Bool) (ops:List CI) (pairs:List (Nat × Nat))
 | seq (a b:CC)
 | cond (c:O) (a b:CC)
 | block (id:Nat) (b:CC)
 | loop (b:CC)
 | exit (id:Nat)
 | ret
 deriving Inhabited
def CC.closed:List Nat→CC→Bool
 | _,.skip | _,.reg .. | _,.ret=>true
 | ids,.seq a b | ids,.cond _ a b=>closed ids a && closed ids b
 | ids,.block id b=>closed (id::ids) b
 | ids,.loop b=>closed ids b
 | ids,.exit id=>ids.contains id
inductive CR where
 | tmp (t:Nat)
 | cell (t n:Nat) (agg:Bool)
def gB:Nat:=1048576
def lB:Nat:=4194304
def xB:Nat:=2097152
def CC.rest (l:Nat):CC→Option CC
 | .seq a b=>match a.rest l with
   | some r=>some (.seq r b)
   | none=>b.rest l
 | .block id .skip=>if id=lB+l then some .skip else none
 | _=>none
def CC.label?:CC→Option Nat
 | .seq a b=>match a.label? with
   | some l=>some l
   | none=>b.label?
 | .block id .skip=>if lB≤id then some (id - lB) else none
 | _=>none
def CC.outs (y:Nat):CC→Bool
 | .exit id=>decide (id < gB) || id == y
 | .seq a b | .cond _ a b=>outs y a && outs y b
 | .block _ b | .loop b=>outs y b
 | _=>true
def scopeC (l:Nat) (c r:CC):CC:=.block (xB+l) (.seq (.block (gB+l) (.seq c (.exit (xB+l)))) (.loop (.block (gB+l) (.seq r (.exit (xB+l))))))
structure CF where
 body:CC
 res:List CR
structure Env where
 P:Program
 how:FuncId→FuncId→How
 tab:FuncId→Option CF
 prim:FuncId→FuncId→Option (List PV→Heap→Option ORes)
section
variable (P:Program)
def szOf (t:TypeId):Option Nat:=(P.info? t).map (·.size)
def aggT (t:TypeId):Option Bool:=(P.underlying t).map fun | .struct _ | .array _ _=>true | _=>false
def small (t:TypeId):Bool:=match P.info? t with
 | some i=>decide (i.bytes≤1024)
 | none=>false
def zeroC (t:TypeId):Option (List PV) :=
 match (P.info? t).bind (·.zero) with
 | some z=>(ofV z).map cellsOf
 | none=>none
def cO:Operand→Option O
 | .tmp t=>some (.t t)
 | .const v=>(ofV v).map O.c
 | .global _=>none
 | .func f=>some (.c (.fn f []))
def cOs:List Operand→Option (List O)
 | []=>some []
 | x::xs=>match cO x,cOs xs with
   | some x,some xs=>some (x::xs)
   | _,_=>none
def isC:Operand→Bool
 | .const _=>true
 | _=>false
def cParts (place:Nat→Option (Nat × Nat)):List (Nat × Operand)→Option (List (Nat × Nat × O))
 | []=>some []
 | (i,x)::rest=>match place i,cO x,cParts place rest with
   | some (off,s),some x,some rest=>some ((off,s,x)::rest)
   | _,_,_=>none
def cOpt:Option Operand→Option (Option O)
 | none=>some none
 | some x=>(cO x).map some
def fieldOf (t:TypeId) (f:Nat):Option Field :=
 match P.underlying t with
 | some (.struct fs)=>fs[f]?
 | _=>none
def fPlace (fs:Array Field) (i:Nat):Option (Nat × Nat) :=
 match fs[i]? with
 | some f=>(szOf P f.type).map fun s=>(f.offset,s)
 | none=>none
def cOp (o:Oper):Option COp :=
 match o.op with
 | .move x | .assign x=>(cO x).map COp.mv
 | .pick c a b=>do some (.pick (← cO c) (← cO a) (← cO b))
 | .alloc t=>(zeroC P t).map COp.alloc
 | .box _ x=>(cO x).map COp.box
 | .build t parts=>do
   let z ← zeroC P t
   match P.underlying t with
   | some (.struct fs)=>if fs.toList.all (fun f=>(szOf P f.type).isSome) then do some (.build z (← cParts (fPlace P fs) parts.toList)) else none
   | some (.array _ e)=>do
     let s ← szOf P e
     some (.build z (← cParts (fun i=>some (i * s,s)) parts.toList))
   | _=>none
 | .buildSlice t len parts=>do
   match P.underlying t with
   | some (.slice e)=>do
     let s ← szOf P e
     let z ← zeroC P e
     if z.length=s∧0 < s∧len * s≤2 ^ 24∧z.all cellP then do
      let ps ← cParts (fun i=>some (i * s,s)) parts.toList
      some (if s=13∧0 < len then .brow s len (List.replicate len z).flatten ps else .bsl s len (List.replicate len z).flatten ps)
     else none
   | _=>none
 | .load t a=>do some (.ld (← szOf P t) (← aggT P t) (← cO a))
 | .store t a x=>do some (.st (← szOf P t) (← cO a) (← cO x))
 | .nilCheck x=>(cO x).map COp.nck
 | .binOp op t x y _ =>
   match P.underlying t,op with
   | some (.interface _),.eql=>do some (.nilq false (isC x || isC y) (← cO x) (← cO y))
   | some (.interface _),.neq=>do some (.nilq true (isC x || isC y) (← cO x) (← cO y))
   | _,_=>do some (.bin op t (isC x) (isC y) (← cO x) (← cO y))
 | .unOp op _ x=>(cO x).map (COp.un op)
 | .convert s d x=>do
   let x ← cO x
   match P.underlying s,P.underlying d with
   | some .string,some (.slice e)=>match P.underlying e with
     | some (.int .u8)=>some (.s2b x)
     | _=>none
   | some (.slice e),some .string=>match P.underlying e with
     | some (.int .u8)=>some (.b2s x)
     | _=>none
   | _,_=>some (.cv s d x)
 | .field t x f=>do
   let q ← fieldOf P t f
   some (.fld q.offset (← szOf P q.type) (← aggT P q.type) (← cO x))
 | .fieldAddr t x f=>do
   let q ← fieldOf P t f
   let s ← szOf P q.type
   if s=0 then none else some (.fad q.offset (← cO x))
 | .index t x i =>
   match P.underlying t with
   | some (.array len e)=>do some (.ixa len (← szOf P e) (← aggT P e) (← cO x) (← cO i))
   | some .string=>do some (.ixs (← cO x) (← cO i))
   | _=>none
 | .indexAddr t x i =>
   match P.underlying t with
   | some (.array len e)=>do
     let s ← szOf P e
     some (.iaa len s (← cO x) (← cO i))
   | some (.slice e)=>do some (.ias (← szOf P e) (← cO x) (← cO i))
   | _=>none
 | .slice t x lo hi mx =>
   match P.underlying t with
   | some .string=>if mx.isNone then do some (.slc 0 (← cO x) (← cOpt lo) (← cOpt hi) none) else none
   | some (.slice e)=>do
     let s ← szOf P e
     if 0 < s then some (.slc s (← cO x) (← cOpt lo) (← cOpt hi) (← cOpt mx)) else none
   | _=>none
 | .makeFunc (.func f) first caps=>if first.size=0 then (cOs caps.toList).map (COp.mkf f) else none
 | .extract t i=>do some (.ext (← cO t) i)
 | .call { callee:=.value g,args,.. }=>do some (.call (← cO g) (← cOs args.toList))
 | .call { callee:=.builtin b,args,argTypes } =>
   match b,args.toList with
   | .len,[x] =>
     match (argTypes[0]?).bind P.underlying with
     | some .string=>(cO x).map (COp.len true)
     | some (.slice _)=>(cO x).map (COp.len false)
     | _=>none
   | .append,[x,y] =>
     match (argTypes[0]?).bind P.underlying with
     | some (.slice e)=>do
       let s ← szOf P e
       let z ← zeroC P e
       if z.length=s∧0 < s∧small P e then
        match (argTypes[1]?).bind P.underlying with
        | some (.int _)=>none
        | some _=>do some (.app s (← cO x) (← cO y))
        | none=>none
       else none
     | _=>none
   | .copy,[x,y] =>
     match (argTypes[0]?).bind P.underlying with
     | some (.slice e)=>do some (.copy (← szOf P e) (← cO x) (← cO y))
     | _=>none
   | .clear,[x] =>
     match (argTypes[0]?).bind P.underlying with
     | some (.slice e)=>do
       let s ← szOf P e
       let z ← zeroC P e
       if z.length=s∧0 < s∧z.all cellP then some (.clr z (← cO x)) else none
     | _=>none
   | .min,xs | .max,xs | .real,xs | .imag,xs | .complex,xs=>(cOs xs).map (COp.fun_ b argTypes o.type)
   | _,_=>none
 | _=>none
def quietC:COp→Bool
 | .mv _ | .pick .. | .build .. | .nck _ | .bin .. | .nilq .. | .un .. | .cv .. | .s2b _ | .fld .. | .fad .. | .ixa .. | .ixs .. | .iaa .. | .ias .. | .mkf .. | .ext .. | .len .. | .fun_ .. | .bad=>true
 | _=>false
def readC:COp→Bool
 | .ld .. | .slc .. | .b2s _=>true
 | _=>false
def openPairs (ops:Array Oper) (l:List CI):List (Nat × Nat) :=
 (List.range ops.size).flatMap fun i=>((List.range i).filter fun j =>
  match l[i]?,l[j]? with
  | some ci,some cj=>!((Region.before ops).getD i 0).testBit j && !quietC ci.op && !quietC cj.op && !(readC ci.op && readC cj.op)
  | _,_=>false).map fun j=>(j,i)
def bslC:COp→Bool
 | .bsl ..=>true
 | _=>false
def rdsOf:List CI→Nat→List Nat
 | [],_=>[]
 | c::l,i=>if readC c.op || bslC c.op then i::rdsOf l (i+1) else rdsOf l (i+1)
def COp.uses:COp→List O
 | .mv x | .box x | .nck x | .un _ x | .cv _ _ x | .s2b x | .b2s x | .fld _ _ _ x | .fad _ x | .ext x _ | .len _ x | .clr _ x | .ld _ _ x=>[x]
 | .pick c a b=>[c,a,b]
 | .alloc _ | .bad=>[]
 | .build _ ps | .bsl _ _ _ ps | .brow _ _ _ ps=>ps.map fun p=>p.2.2
 | .st _ x y | .bin _ _ _ _ x y | .nilq _ _ x y | .ixa _ _ _ x y | .ixs x y | .iaa _ _ x y | .ias _ x y | .app _ x y | .copy _ x y=>[x,y]
 | .slc _ x lo hi mx=>x::(lo.toList++hi.toList++mx.toList)
 | .mkf _ xs | .fun_ _ _ _ xs=>xs
 | .call g xs=>g::xs
def CI.names (c:CI):List Nat:=(c.op.uses.filterMap fun | .t i=>some i | .c _=>none)++(match c.guard with | some (d,_)=>[d] | none=>[])
def apartN (ci cj:CI):Bool :=
 (match ci.dst with | some d=>!(cj.dst == some d) && !cj.names.contains d | none=>true) && (match cj.dst with | some d=>!ci.names.contains d | none=>true)
def namesOK (ops:Array Oper) (l:List CI):Bool :=
 (List.range ops.size).all fun i=>(List.range i).all fun j =>
  match l[i]?,l[j]? with
  | some ci,some cj=>((Region.before ops).getD i 0).testBit j || apartN ci cj
  | _,_=>false
def topoFrom (m:Region.Mode) (ops:Array Oper):List Nat→List Nat→Bool
 | [],_=>true
 | i::rest,seen=>(match ops[i]? with
   | some o=>o.after.all fun e=>!Region.binds m e || seen.contains e.on
   | none=>false) && topoFrom m ops rest (i::seen)
def topo (m:Region.Mode) (ops:Array Oper) (l:List Nat):Bool :=
 topoFrom m ops l [] && (List.range ops.size).all fun i=>l.contains i
def edgesOK (ops:Array Oper):Bool :=
 (if Region.departs ops then topo .text ops (List.range ops.size) && topo .gc ops (Region.linearise .gc ops 0) else topo .any ops (List.range ops.size)) &&
 (List.range ops.size).all fun i=>match ops[i]? with
  | some o=>o.after.all (fun e=>!Region.binds .any e || decide (e.on < i)) && (match o.guard with
    | none=>true
    | some (j,_)=>((Region.before ops).getD i 0).testBit j && decide (j < i))
  | none=>false
def cGuard (ops:Array Oper):Option (Nat × Bool)→Option (Option (Nat × Bool))
 | none=>some none
 | some (j,w)=>match (ops[j]?).bind (·.dst) with
   | some d=>some (some (d,w))
   | none=>none
def cIs (nt:Nat) (ops:Array Oper):List Oper→Option (List CI)
 | []=>some []
 | o::rest=>match some ((cOp P o).getD .bad),cGuard ops o.guard,cIs nt ops rest with
   | some c,some g,some rest=>if (match o.dst with | some d=>d < nt | none=>true) && (match g with | some (d,_)=>d < nt | none=>true) then some (⟨o.dst,c,g⟩::rest) else none
   | _,_,_=>none
def comp (nt:Nat):Code→Option CC
 | .skip=>some .skip
 | .label l=>some (.block (lB+l) .skip)
 | .goto l=>if l < gB then some (.exit (gB+l)) else none
 | .scope c=>match comp nt c with
   | some c'=>match c'.label? with
     | some l=>match c'.rest l with
       | some r'=>if l < gB∧c'.outs (gB+l)=true∧r'.outs (gB+l)=true then some (scopeC l c' r') else none
       | none=>none
     | none=>none
   | none=>none
 | .region _ ops draw =>
   if draw then
    match cIs P nt ops ops.toList with
    | some l=>if edgesOK ops && namesOK ops l then some (.reg true l (openPairs ops l)) else none
    | none=>none
   else (cIs P nt ops ops.toList).map fun l=>.reg false l []
 | .seq a b=>match comp nt a,comp nt b with
   | some a,some b=>some (.seq a b)
   | _,_=>none
 | .cond c a b=>match cO c,comp nt a,comp nt b with
   | some c,some a,some b=>some (.cond c a b)
   | _,_,_=>none
 | .block id b=>if id < gB then (comp nt b).map (CC.block id) else none
 | .loop b=>(comp nt b).map CC.loop
 | .exit id=>if id < gB then some (.exit id) else none
 | .ret=>some .ret
 | _=>none
def cRes (nt:Nat):List ResultVar→Option (List CR)
 | []=>some []
 | .tmp t::rest=>if t < nt then (cRes nt rest).map fun l=>.tmp t::l else none
 | .cell a t::rest=>match szOf P t,aggT P t,cRes nt rest with
   | some n,some b,some l=>if a < nt then some (.cell a n b::l) else none
   | _,_,_=>none
end
def Env.code (E:Env) (f:FuncId):Option CF :=
 match E.P.funcs[f]? with
 | some fn=>match fn.body with
   | some b=>match comp E.P fn.ntmps b,cRes E.P fn.ntmps fn.results.toList with
     | some c, some r => if fn.name == "runtime.NumGoroutine" || !c.closed [] then none else some ⟨c, r⟩
     | _,_=>none
   | none=>none
 | none=>none
abbrev Tm:=Nat→PV
def Tm.put (σ:Tm) (d:Nat) (v:PV):Tm:=fun i=>if i=d then v else σ i
def Tm.putO (σ:Tm) (d:Option Nat) (v:PV):Tm :=
 match d with
 | some d=>σ.put d v
 | none=>σ
def evO (σ:Tm):O→PV
 | .t i=>σ i
 | .c v=>v
def scal (P:Program) (s:Sem Value):Option PV:=(pureRun P s).bind ofV
def nilIface?:PV→Option Bool
 | .val .nilIface=>some true
 | .ifc=>some false
 | _=>none
def snil (P:Program) (t:TypeId) (neg:Bool) (a:PV):Option PV :=
 match P.underlying t with
 | some (.slice _)=>match a with
   | .im (_::_) _=>some (.val (.bool neg))
   | .sl _ _ _ _ (_+1)=>some (.val (.bool neg))
   | .val (.slice ad _ _)=>some (.val (.bool (ad.isNone != neg)))
   | _=>none
 | _=>none
def pnil (P:Program) (t:TypeId) (neg:Bool) (a:PV):Option PV :=
 match P.underlying t with
 | some (.pointer _)=>match a with
   | .ptr _ _ | .rp _ _ _ _ _ | .ip _ _ _=>some (.val (.bool neg))
   | _=>none
 | _=>none
def evBin (P:Program) (op:BinOp) (t:TypeId) (cx cy:Bool) (a b:PV):Option PV :=
 match toV a,toV b with
 | some va,some vb=>scal P (do eqGuard op t (if cx then .const va else .tmp 0) (if cy then .const vb else .tmp 0) va vb; binOp op t va vb)
 | _,_=>if cy then (match b with
   | .im [] true=>(match op with
     | .eql=>snil P t false a
     | .neq=>snil P t true a
     | _=>none)
   | .val (.pointer none)=>(match op with
     | .eql=>pnil P t false a
     | .neq=>pnil P t true a
     | _=>none)
   | _=>none) else none
def evNil (neg c:Bool) (a b:PV):Option PV :=
 match nilIface? a,nilIface? b with
 | some p,some q=>if p && q then (if c then some (.val (.bool !neg)) else none) else if p || q then some (.val (.bool neg)) else none
 | _,_=>none
def intOf:PV→Option Int
 | .val (.int _ n)=>some n
 | _=>none
def setL {α:Type} (l:List α) (o:Nat) (vs:List α):List α:=l.take o++vs++l.drop (o+vs.length)
def slice0 {α:Type} (l:List α) (o n:Nat):Option (List α):=if o+n≤l.length then some ((l.drop o).take n) else none
def loadC (H:Heap) (p:PV) (n:Nat):Option (List PV × List Nat) :=
 match p with
 | .ptr r o=>match H.at_ r with
   | .box cs=>(slice0 cs o n).map fun l=>(l,[r])
   | _=>none
 | .rp r k g i j=>match H.at_ r with
   | .row k' xs _=>if k=k'∧g=xs.length then match xs[i]? with
     | some cs=>(slice0 cs j n).map fun l=>(l,[r])
     | none=>none else none
   | _=>none
 | .ip xs i j=>match xs[i]? with
   | some cs=>(slice0 cs j n).map fun l=>(l,[])
   | none=>none
 | _=>none
def storeC (H:Heap) (p:PV) (vs:List PV):Option (Heap × Nat) :=
 match p with
 | .ptr r o=>match H.at_ r with
   | .box cs=>if o+vs.length≤cs.length then some (H.put r (.box (setL cs o vs)),r) else none
   | _=>none
 | .rp r k g i j=>match H.at_ r with
   | .row k' xs true=>if k=k'∧g=xs.length then match xs[i]? with
     | some cs=>if j+vs.length≤cs.length then some (H.put r (.row k (xs.set i (setL cs j vs)) true),r) else none
     | none=>none else none
   | _=>none
 | _=>none
def one (agg:Bool) (cs:List PV):Option PV :=
 if agg then some (.agg cs) else match cs with
  | [c]=>some c
  | _=>none
def loadP (H:Heap) (n:Nat) (agg:Bool) (p:PV):Option (PV × List Nat) :=
 match loadC H p n with
 | some (cs,is)=>(one agg cs).map fun v=>(v,is)
 | none=>none
def addP (p:PV) (n:Nat):Option PV :=
 match p with
 | .ptr r o=>some (.ptr r (o+n))
 | .rp r k g i j=>some (.rp r k g i (j+n))
 | .ip xs i j=>some (.ip xs i (j+n))
 | _=>none
def bytesC (s:ByteArray):List (List PV):=s.data.toList.map fun b=>[.val (.int .u8 b.toNat)]
def allLen (k:Nat):List (List PV)→Bool
 | []=>true
 | x::xs=>x.length == k && allLen k xs
def elems (H:Heap) (k:Nat):PV→Option (List (List PV) × List Nat)
 | .im xs _=>if allLen k xs then some (xs,[]) else none
 | .sl r k' g off len=>match H.at_ r with
   | .row k'' xs _=>if k=k'∧k=k''∧g=xs.length∧off+len≤xs.length then some ((xs.drop off).take len,[r]) else none
   | _=>none
 | .val (.string s)=>if k=1 then some (bytesC s,[]) else none
 | .val (.slice _ 0 _)=>some ([],[])
 | _=>none
def lenP:Bool→PV→Option Nat
 | false,.im xs _=>some xs.length
 | false,.sl _ _ _ _ len=>some len
 | true,.val (.string s)=>some s.size
 | _,_=>none
def most:Nat:=2 ^ 36
def appendP (H:Heap) (slot:Nat) (k:Nat) (base:PV) (ys:List (List PV)):Option (PV × Heap × List Nat × List Nat) :=
 if ys.length=0 then (match base with
  | .im .. | .sl ..=>some (base,H,[],[])
  | _=>none) else
 match base with
 | .im xs true=>if allLen k xs∧xs.length+ys.length≤most then some (.sl slot k (xs.length+ys.length) 0 (xs.length+ys.length),H.put slot (.row k (xs++ys) true),[slot],[]) else none
 | .sl r k' g off len=>match H.at_ r with
   | .row k'' xs true =>
     if k=k'∧k=k''∧g=xs.length∧off+len≤xs.length then
      if off+len+ys.length≤xs.length then
       some (.sl r k g off (len+ys.length),H.put r (.row k (setL xs (off+len) ys) true),[r],[r])
      else if off=0∧len+ys.length≤most then
       some (.sl r k (len+ys.length) 0 (len+ys.length),H.put r (.row k (xs.take len++ys) true),[r],[r])
      else none
     else none
   | _=>none
 | _=>none
def sliceP (H:Heap) (s:Nat) (x:PV) (lo hi mx:Option Nat):Option (PV × List Nat) :=
 match x with
 | .val (.string t) =>
   if s=0∧lo.getD 0≤hi.getD t.size∧hi.getD t.size≤t.size then some (.val (.string (t.extract (lo.getD 0) (hi.getD t.size))),[]) else none
 | .im xs full =>
   if 0 < s∧allLen s xs∧lo.getD 0≤hi.getD xs.length∧hi.getD xs.length≤xs.length then
    match mx with
    | none=>some (.im ((xs.take (hi.getD xs.length)).drop (lo.getD 0)) (full && hi.getD xs.length == xs.length),[])
    | some m=>if hi=some m∧full=true then some (.im ((xs.take m).drop (lo.getD 0)) true,[]) else none
   else none
 | .sl r k g off len=>match H.at_ r with
   | .row k' xs _ =>
     if 0 < s∧s=k∧k=k'∧g=xs.length∧lo.getD 0≤hi.getD len∧off+hi.getD len≤xs.length then
      match mx with
      | none=>if lo.getD 0=hi.getD len∧0 < lo.getD 0 then some (.im [] false,[r]) else some (.sl r k g (off+lo.getD 0) (hi.getD len - lo.getD 0),[r])
      | some m=>if hi=some m∧lo.getD 0=m then some (.im [] true,[r]) else if hi.isSome=true∧hi.getD len≤m∧m≤len∧0 < xs.length then some (.sl r k 0 (off+lo.getD 0) (hi.getD len - lo.getD 0),[r]) else none
     else none
   | _=>none
 | _=>none
def fillP (σ:Tm) (cells:List PV):List (Nat × Nat × O)→Option (List PV)
 | []=>some cells
 | (off,size,x)::rest =>
   if (cellsOf (evO σ x)).length=size∧off+size≤cells.length∧(cellsOf (evO σ x)).all cellP then fillP σ (setL cells off (cellsOf (evO σ x))) rest else none
def chunks {α:Type} (k:Nat):Nat→List α→List (List α)
 | 0,_=>[]
 | n+1,l=>l.take k::chunks k n (l.drop k)
def optI (σ:Tm):Option O→Option (Option Nat)
 | none=>some none
 | some x=>match intOf (evO σ x) with
   | some n=>if 0≤n then some (some n.toNat) else none
   | none=>none
def byteOf?:List PV→Option UInt8
 | [.val (.int .u8 n)]=>some (UInt8.ofNat n.toNat)
 | _=>none
def bytesOf:List (List PV)→Option (List UInt8)
 | []=>some []
 | x::xs=>match byteOf? x,bytesOf xs with
   | some b,some bs=>some (b::bs)
   | _,_=>none
def toVss (σ:Tm):List O→Option (List Value)
 | []=>some []
 | x::xs=>match toV (evO σ x),toVss σ xs with
   | some v,some vs=>some (v::vs)
   | _,_=>none
def ret1 (H:Heap) (v:PV):ORes:=⟨v,H,[],some []⟩
def evFun (P:Program) (b:Builtin) (ts:Array TypeId) (t:TypeId) (vs:List Value):Option PV :=
 match b with
 | .min=>scal P (Builtin.min_ ts t vs.toArray)
 | .max=>scal P (Builtin.max_ ts t vs.toArray)
 | .real=>scal P (Builtin.real_ ts t vs.toArray)
 | .imag=>scal P (Builtin.imag_ ts t vs.toArray)
 | .complex=>scal P (Builtin.complex_ ts t vs.toArray)
 | _=>none
def pop (P:Program) (σ:Tm) (H:Heap) (slot:Nat) (o:COp):Option ORes :=
 match o with
 | .mv x=>some (ret1 H (evO σ x))
 | .pick c a b=>match evO σ c with
   | .val (.bool t)=>some (ret1 H (if t then evO σ a else evO σ b))
   | _=>none
 | .alloc z=>some ⟨.ptr slot 0,H.put slot (.box z),[slot],some []⟩
 | .box x=>if (cellsOf (evO σ x)).all cellP then some ⟨.ptr slot 0,H.put slot (.box (cellsOf (evO σ x))),[slot],some []⟩ else none
 | .build z ps=>(fillP σ z ps).map fun cs=>ret1 H (.agg cs)
 | .bsl k n z ps=>match (fillP σ z ps).bind (expCs H) with
   | some (cs,is)=>some ⟨.im (chunks k n cs) true,freeze H is,is,some is⟩
   | none=>none
 | .brow k n z ps=>match fillP σ z ps with
   | some cs=>some ⟨.sl slot k n 0 n,H.put slot (.row k (chunks k n cs) true),[slot],some []⟩
   | none=>none
 | .ld n agg p=>match loadP H n agg (evO σ p) with
   | some (v,is)=>some ⟨v,H,[],some is⟩
   | none=>none
 | .st n p x =>
   if (cellsOf (evO σ x)).length=n∧(cellsOf (evO σ x)).all cellP then
    match storeC H (evO σ p) (cellsOf (evO σ x)) with
    | some (H',r)=>some ⟨uv,H',[r],some [r]⟩
    | none=>none
   else none
 | .nck x=>match evO σ x with
   | .ptr r o=>some (ret1 H (.ptr r o))
   | .rp r k g i j=>some (ret1 H (.rp r k g i j))
   | .ip xs i j=>some (ret1 H (.ip xs i j))
   | _=>none
 | .bin op t cx cy x y=>(evBin P op t cx cy (evO σ x) (evO σ y)).map (ret1 H)
 | .nilq neg c x y=>(evNil neg c (evO σ x) (evO σ y)).map (ret1 H)
 | .un op x=>match toV (evO σ x) with
   | some v=>(scal P (Op.unary op v)).map (ret1 H)
   | none=>none
 | .cv s d x=>match toV (evO σ x) with
   | some v=>(scal P (Go.convert s d v)).map (ret1 H)
   | none=>none
 | .s2b x=>match evO σ x with
   | .val (.string b)=>some (ret1 H (.im (bytesC b) false))
   | _=>none
 | .b2s x=>match evO σ x with
   | .val _=>none
   | x=>match elems H 1 x with
     | some (xs,is)=>match bytesOf xs with
       | some bs=>some ⟨.val (.string ⟨bs.toArray⟩),H,[],some is⟩
       | none=>none
     | none=>none
 | .fld off n agg x=>match evO σ x with
   | .agg cs=>match (slice0 cs off n).bind (one agg) with
     | some v=>some (ret1 H v)
     | none=>none
   | _=>none
 | .fad off p=>(addP (evO σ p) off).map (ret1 H)
 | .ixa len s agg x i=>match evO σ x,intOf (evO σ i) with
   | .agg cs,some n=>if 0≤n∧n < len then
     match (slice0 cs (n.toNat * s) s).bind (one agg) with
     | some v=>some (ret1 H v)
     | none=>none
     else none
   | _,_=>none
 | .ixs x i=>match evO σ x,intOf (evO σ i) with
   | .val (.string s),some n=>if 0≤n then
     match s.data[n.toNat]? with
     | some b=>some (ret1 H (.val (.int .u8 b.toNat)))
     | none=>none
     else none
   | _,_=>none
 | .iaa len s p i=>match intOf (evO σ i) with
   | some n=>if 0≤n∧n < len then (addP (evO σ p) (n.toNat * s)).map (ret1 H) else none
   | none=>none
 | .ias s x i=>match evO σ x,intOf (evO σ i) with
   | .im xs _,some n=>if 0≤n∧n < xs.length∧allLen s xs then some (ret1 H (.ip xs n.toNat 0)) else none
   | .sl r k g off len,some n=>if 0≤n∧n < len∧s=k then some (ret1 H (.rp r k g (off+n.toNat) 0)) else none
   | _,_=>none
 | .slc s x lo hi mx=>match optI σ lo,optI σ hi,optI σ mx with
   | some lo,some hi,some mx=>match sliceP H s (evO σ x) lo hi mx with
     | some (v,is)=>some ⟨v,H,[],some is⟩
     | none=>none
   | _,_,_=>none
 | .mkf f caps=>some (ret1 H (.fn f (caps.map (evO σ))))
 | .ext x i=>match evO σ x with
   | .tup vs=>(vs[i]?).map (ret1 H)
   | _=>none
 | .len b x=>(lenP b (evO σ x)).map fun (n:Nat)=>ret1 H (.val (.int .i64 n))
 | .app k x y=>match elems H k (evO σ y) with
   | some (ys,is)=>match appendP H slot k (evO σ x) ys with
     | some (v,H',wr,rd)=>some ⟨v,H',wr,some (rd++is)⟩
     | none=>none
   | none=>none
 | .copy k x y=>match evO σ x,elems H k (evO σ y) with
   | .sl r k' g off len,some (ys,is)=>match H.at_ r with
     | .row k'' xs true=>if k=k'∧k=k''∧g=xs.length∧off+len≤xs.length then
       some ⟨.val (.int .i64 (min len ys.length:Nat)),H.put r (.row k (setL xs off (ys.take len)) true),[r],some (r::is)⟩ else none
     | _=>none
   | _,_=>none
 | .clr z x=>match evO σ x with
   | .im [] _=>some (ret1 H uv)
   | .sl r k g off len=>match H.at_ r with
     | .row k' xs true=>if k=k'∧k=z.length∧g=xs.length∧off+len≤xs.length then
       some ⟨uv,H.put r (.row k (setL xs off (List.replicate len z)) true),[r],some [r]⟩ else none
     | _=>none
   | _=>none
 | .fun_ b ts t xs=>match toVss σ xs with
   | some vs=>(evFun P b ts t vs).map (ret1 H)
   | none=>none
 | .call _ _ | .bad=>none
def allocs:COp→Bool
 | .alloc _ | .box _ | .app .. | .brow ..=>true
 | _=>false
def nAlloc:List CI→Nat
 | []=>0
 | c::cs=>(if allocs c.op then 1 else 0)+nAlloc cs
inductive Ex where
 | normal | exit (id:Nat) | ret
 deriving DecidableEq,Repr,Inhabited
structure St where
 σ:Tm
 h:Heap
 wl:List Nat
abbrev Log:=List (Nat × List Nat × Option (List Nat))
def resP (st:St):List CR→Option (List PV)
 | []=>some []
 | .tmp t::rest=>match resP st rest with
   | some vs=>some (st.σ t::vs)
   | none=>none
 | .cell t n agg::rest=>match loadP st.h n agg (st.σ t),resP st rest with
   | some (v,_),some vs=>some (v::vs)
   | _,_=>none
def resV (st:St) (l:List CR):Option PV :=
 match resP st l with
 | some [v]=>some v
 | some vs=>some (.tup vs)
 | none=>none
def wants (σ:Tm):Option (Nat × Bool)→Bool
 | none=>true
 | some (d,w)=>match σ d with
   | .val (.bool b)=>b == w
   | _=>false
def hits (w:List Nat):Option (List Nat)→Bool
 | none=>!w.isEmpty
 | some is=>w.any (is.contains ·)
def apart (a b:List Nat × Option (List Nat)):Bool :=
 !hits a.1 b.2 && !hits b.1 a.2 && !a.1.any (b.1.contains ·)
def look (i:Nat):Log→Option (List Nat × Option (List Nat))
 | []=>none
 | (j,a)::rest=>if i=j then some a else look i rest
def ordered (log:Log):List (Nat × Nat)→Bool
 | []=>true
 | (j,i)::rest=>(match look j log,look i log with
   | some a,some b=>apart a b
   | _,_=>true) && ordered log rest
def rdOK (rs:List Nat) (log:Log) (n j:Nat):Bool:=rs.contains j && (match look j log with
 | some ([],some is)=>is.all (· < n)
 | some _=>false
 | none=>true)
def gOK (rs:List Nat) (log:Log) (n:Nat):List (Nat × Nat)→Bool
 | []=>true
 | (j,i)::rest=>(rdOK rs log n j || rdOK rs log n i) && gOK rs log n rest
def start (args:List PV):Tm:=fun i=>args.getD i uv
mutual
def evCall (E:Env):Nat→FuncId→FuncId→List PV→Heap→Option ORes
 | 0,_,_,_,_=>none
 | n+1,caller,f,args,H =>
   match E.prim caller f with
   | some p=>p args H
   | none =>
   match E.tab f with
   | none=>none
   | some c =>
   match E.how caller f with
   | .own=>match expAs H args with
     | none=>none
     | some (as,is)=>match ev E n f c.body ⟨start as,Heap.empty,[]⟩ with
       | none=>none
       | some (_,st)=>match (resV st c.res).bind (expV st.h) with
         | none=>none
         | some (v,_)=>if flatV v then some ⟨v,H,[],some is⟩ else some ⟨v,freeze H is,is,some is⟩
   | .inl=>match ev E n f c.body ⟨start args,H,[]⟩ with
     | none=>none
     | some (_,st)=>match (resV st c.res).bind (expV st.h) with
       | none=>none
       | some (v,is) =>
         let wl:=st.wl.filter (· < H.n)
         let is:=is.filter (· < H.n)
         if wl.all (fun i=>(st.h.at_ i).below H.n) then
          if flatV v then some ⟨v,st.h.cut H,wl,none⟩ else some ⟨v,freeze (st.h.cut H) is,wl++is,none⟩
         else none
   | .keep=>match ev E n f c.body ⟨start args,H,[]⟩ with
     | none=>none
     | some (_,st)=>match resV st c.res with
       | none=>none
       | some v=>some ⟨v,if st.h.n=H.n then st.h.cut H else st.h,st.wl,none⟩
def evOp (E:Env) (n:Nat) (f:FuncId) (σ:Tm) (H:Heap) (slot:Nat) (o:COp):Option ORes :=
 match n with
 | 0=>none
 | n+1 =>
 match o with
 | .call g xs=>match evO σ g with
   | .fn g caps=>evCall E n f g (xs.map (evO σ)++caps) H
   | _=>none
 | o=>pop E.P σ H slot o
def evOps (E:Env) (n:Nat) (f:FuncId):List CI→Nat→Nat→St→Log→Option (St × Log)
 | [],_,_,st,log=>some (st,log)
 | c::rest,i,slot,st,log =>
   match n with
   | 0=>none
   | n+1 =>
     if wants st.σ c.guard then
      match evOp E n f st.σ st.h slot c.op with
      | none=>none
      | some r=>evOps E n f rest (i+1) (if allocs c.op then slot+1 else slot) ⟨st.σ.putO c.dst r.v,r.h,r.wr++st.wl⟩ ((i,r.wr,r.rd)::log)
     else evOps E n f rest (i+1) (if allocs c.op then slot+1 else slot) ⟨st.σ.putO c.dst uv,st.h,st.wl⟩ log
def ev (E:Env):Nat→FuncId→CC→St→Option (Ex × St)
 | 0,_,_,_=>none
 | n+1,f,c,st =>
   match c with
   | .skip=>some (.normal,st)
   | .reg draw ops pairs =>
     match evOps E n f ops 0 st.h.n ⟨st.σ,st.h.grow (nAlloc ops),st.wl⟩ [] with
     | some (st',log)=>if draw then (if (st'.h.n=st.h.n+nAlloc ops∨gOK (rdsOf ops 0) log (st.h.n+nAlloc ops) pairs=true)∧ordered log pairs then some (.normal,st') else none) else some (.normal,st')
     | none=>none
   | .seq a b=>match ev E n f a st with
     | some (.normal,st)=>ev E n f b st
     | r=>r
   | .cond c a b=>match evO st.σ c with
     | .val (.bool t)=>ev E n f (if t then a else b) st
     | _=>none
   | .block id b=>match ev E n f b st with
     | some (.exit j,st)=>if j=id then some (.normal,st) else some (.exit j,st)
     | r=>r
   | .loop b=>match ev E n f b st with
     | some (.normal,st)=>ev E n f (.loop b) st
     | r=>r
   | .exit id=>some (.exit id,st)
   | .ret=>some (.ret,st)
end
end Go.Evl

namespace Go.Evl
open Go
structure G where
 w:World
 Z:Nat→Prop
 ι:Nat→Option Nat
 H:Heap
def isBox:Blk→Prop
 | .box _=>True
 | _=>False
def rowLen:Blk→Option Nat
 | .row _ xs _=>some xs.length
 | _=>none
def rowK:Blk→Option Nat
 | .row k _ _=>some k
 | _=>none
def isOwn:Blk→Prop
 | .box _=>True
 | .row _ _ true=>True
 | _=>False
def Valid (g:G) (r k gen b:Nat):Prop:=g.ι r=some b∧rowLen (g.H.at_ r)=some gen∧rowK (g.H.at_ r)=some k
def GenOK (g:G) (r gen:Nat):Prop:=∃ n,rowLen (g.H.at_ r)=some n∧gen≤n
def sizeIs (w:World) (b n:Nat):Prop:=∃ c t fr,w.heap[b]?=some (.cells c t fr)∧c.size=n
inductive NoIds:PV→Prop
 | val (v:Value):NoIds (.val v)
 | agg (ps:List PV) (h:∀ p∈ps,NoIds p):NoIds (.agg ps)
 | tup (ps:List PV) (h:∀ p∈ps,NoIds p):NoIds (.tup ps)
 | im (xs:List (List PV)) (full:Bool):NoIds (.im xs full)
 | fn (f:FuncId):NoIds (.fn f [])
 | ifc:NoIds .ifc
inductive VR (g:G):Value→PV→Prop
 | val (v:Value):VR g v (.val v)
 | agg (cs:List Value) (ps:List PV) (hl:cs.length=ps.length) (h:∀ (i:Nat) (c:Value) (p:PV),cs[i]?=some c→ps[i]?=some p→VR g c p):VR g (.agg cs.toArray) (.agg ps)
 | tup (cs:List Value) (ps:List PV) (hl:cs.length=ps.length) (h:∀ (i:Nat) (c:Value) (p:PV),cs[i]?=some c→ps[i]?=some p→VR g c p):VR g (.tuple cs.toArray) (.tup ps)
 | ptr (b r o:Nat) (hb:isBox (g.H.at_ r)) (hi:g.ι r=some b):VR g (.pointer (some ⟨b,o,none⟩)) (.ptr r o)
 | rp (a:Addr) (r k gen i j:Nat) (hg:GenOK g r gen) (h:∀ b,Valid g r k gen b→a=⟨b,i * k+j,none⟩):VR g (.pointer (some a)) (.rp r k gen i j)
 | ip (b off k:Nat) (c:Array Value) (t:TypeId) (fr:Nat × Nat) (xs:List (List PV)) (i j:Nat) (cv:Nat→Nat→Value)
   (hZ:g.Z b) (hb:g.w.heap[b]?=some (.cells c t fr)) (hk:∀ x∈xs,x.length=k) (hno:∀ x∈xs,∀ p∈x,NoIds p)
   (hc:∀ (i:Nat) (x:List PV) (j:Nat) (p:PV),xs[i]?=some x→x[j]?=some p→c[off+i * k+j]?=some (cv i j)∧(cv i j).oneCell'=true)
   (h:∀ (i:Nat) (x:List PV) (j:Nat) (p:PV),xs[i]?=some x→x[j]?=some p→VR g (cv i j) p):VR g (.pointer (some ⟨b,off+i * k+j,none⟩)) (.ip xs i j)
 | sl (a:Addr) (r k gen off len cap:Nat) (hlc:len≤cap) (hg:GenOK g r gen)
   (h:∀ b,Valid g r k gen b→a=⟨b,off * k,none⟩∧sizeIs g.w b ((off+cap) * k)):VR g (.slice (some a) len cap) (.sl r k gen off len)
 | imE (a:Option Addr) (cap:Nat) (full:Bool) (hc:full=true→cap=0):VR g (.slice a 0 cap) (.im [] full)
 | imC (b off cap k:Nat) (c:Array Value) (t:TypeId) (fr:Nat × Nat) (xs:List (List PV)) (full:Bool) (cv:Nat→Nat→Value)
   (hx:xs≠[]) (hf:full=true→cap=xs.length∧fr=(0,0)) (hn:xs.length≤cap) (hZ:g.Z b) (hb:g.w.heap[b]?=some (.cells c t fr)) (hk:∀ x∈xs,x.length=k) (hno:∀ x∈xs,∀ p∈x,NoIds p)
   (hc:∀ (i:Nat) (x:List PV) (j:Nat) (p:PV),xs[i]?=some x→x[j]?=some p→c[off+i * k+j]?=some (cv i j)∧(cv i j).oneCell'=true)
   (h:∀ (i:Nat) (x:List PV) (j:Nat) (p:PV),xs[i]?=some x→x[j]?=some p→VR g (cv i j) p):VR g (.slice (some ⟨b,off,none⟩) xs.length cap) (.im xs full)
 | fn (f:FuncId) (cs:List Value) (ps:List PV) (hl:cs.length=ps.length) (h:∀ (i:Nat) (c:Value) (p:PV),cs[i]?=some c→ps[i]?=some p→VR g c p):VR g (.func (.func f) #[] cs.toArray) (.fn f ps)
 | ifc (t:TypeId) (x:Value):VR g (.iface t x) .ifc
def Own (g:G) (b:Nat):Prop:=∃ r,isOwn (g.H.at_ r)∧g.ι r=some b
structure WR (g:G):Prop where
 dead:∀ r,g.H.n≤r→g.H.at_ r = .dead
 lt:∀ r b,g.ι r=some b→b < g.w.heap.size
 box:∀ r cs,g.H.at_ r = .box cs→∃ (b:Nat) (c:Array Value) (t:TypeId),g.ι r=some b∧g.w.heap[b]?=some (.cells c t (0,0))∧c.size=cs.length ∧
  ∀ (j:Nat) (p:PV),cs[j]?=some p→∃ cv,c[j]?=some cv∧VR g cv p
 row:∀ r k xs own,g.H.at_ r = .row k xs own→0 < k∧(∀ x∈xs,x.length=k)∧∃ (b:Nat) (c:Array Value) (t:TypeId) (fr:Nat × Nat),g.ι r=some b∧g.w.heap[b]?=some (.cells c t fr)∧(own=true→fr=(0,0))∧(own=false→g.Z b) ∧
  xs.length * k≤c.size∧∀ (i:Nat) (x:List PV) (j:Nat) (p:PV),xs[i]?=some x→x[j]?=some p→∃ cv,c[i * k+j]?=some cv∧cv.oneCell'=true∧VR g cv p
 inj:∀ r r' b,isOwn (g.H.at_ r)→isOwn (g.H.at_ r')→g.ι r=some b→g.ι r'=some b→r=r'
 z:∀ r b,isOwn (g.H.at_ r)→g.ι r=some b→¬ g.Z b
 zlt:∀ b,g.Z b→b < g.w.heap.size
def Out (w w':World):Prop:=w'.os=w.os∧w'.tape=w.tape∧w'.output=w.output
structure Ext (g g':G):Prop where
 n:g.H.n≤g'.H.n
 sz:g.w.heap.size≤g'.w.heap.size
 zin:∀ b,g.Z b→g'.Z b
 znew:∀ b,g'.Z b→g.Z b∨Own g b∨g.w.heap.size≤b
 keep:∀ b,b < g.w.heap.size→¬ Own g b→g'.w.heap[b]?=g.w.heap[b]?
 size:∀ b n,sizeIs g.w b n→sizeIs g'.w b n
 own:∀ b,Own g' b→Own g b∨g.w.heap.size≤b
 box:∀ r b,isBox (g.H.at_ r)→g.ι r=some b→isBox (g'.H.at_ r)∧g'.ι r=some b
 row:∀ r n,rowLen (g.H.at_ r)=some n→∃ n',rowLen (g'.H.at_ r)=some n'∧n≤n'∧(n'=n→g'.ι r=g.ι r∧rowK (g'.H.at_ r)=rowK (g.H.at_ r))
 out:Out g.w g'.w
theorem Ext.refl (g:G):Ext g g :=
 ⟨Nat.le_refl _,Nat.le_refl _,fun _ h=>h,fun _ h=>.inl h,fun _ _ _=>rfl,fun _ _ h=>h,fun _ h=>.inl h,fun _ _ h h'=>⟨h,h'⟩,fun _ n h=>⟨n,h,Nat.le_refl _,fun _=>⟨rfl,rfl⟩⟩,⟨rfl,rfl,rfl⟩⟩
theorem Ext.trans {g g1 g2:G} (e:Ext g g1) (e':Ext g1 g2):Ext g g2 where
 n:=Nat.le_trans e.n e'.n
 sz:=Nat.le_trans e.sz e'.sz
 zin b h:=e'.zin b (e.zin b h)
 znew b h:=by
  rcases e'.znew b h with h | h | h
  ·exact e.znew b h
  ·rcases e.own b h with h | h
   ·exact .inr (.inl h)
   ·exact .inr (.inr h)
  ·exact .inr (.inr (Nat.le_trans e.sz h))
 keep b hb ho:=by
  rw [e'.keep b (Nat.lt_of_lt_of_le hb e.sz) (fun h=>by rcases e.own b h with h | h; exact ho h; omega),e.keep b hb ho]
 size b n h:=e'.size b n (e.size b n h)
 own b h:=by
  rcases e'.own b h with h | h
  ·exact e.own b h
  ·exact .inr (Nat.le_trans e.sz h)
 box r b h h':=by
  obtain ⟨a,a'⟩:=e.box r b h h'
  exact e'.box r b a a'
 row r n h:=by
  obtain ⟨n1,h1,l1,k1⟩:=e.row r n h
  obtain ⟨n2,h2,l2,k2⟩:=e'.row r n1 h1
  refine ⟨n2,h2,Nat.le_trans l1 l2,fun he=>?_⟩
  have a:n1=n:=by omega
  have b:n2=n1:=by omega
  exact ⟨(k2 b).1.trans (k1 a).1,(k2 b).2.trans (k1 a).2⟩
 out:=⟨e'.out.1.trans e.out.1,e'.out.2.1.trans e.out.2.1,e'.out.2.2.trans e.out.2.2⟩
theorem WR.not_own {g:G} (h:WR g) {b:Nat} (hz:g.Z b):¬ Own g b:=fun ⟨r,ho,hi⟩=>h.z r b ho hi hz
theorem Ext.keepZ {g g':G} (e:Ext g g') (h:WR g) {b:Nat} (hz:g.Z b):g'.w.heap[b]?=g.w.heap[b]? :=
 e.keep b (h.zlt b hz) (h.not_own hz)
theorem GenOK.mono {g g':G} (e:Ext g g') {r gen:Nat} (h:GenOK g r gen):GenOK g' r gen:=by
 obtain ⟨n,hn,hl⟩:=h
 obtain ⟨n',h',l',_⟩:=e.row r n hn
 exact ⟨n',h',Nat.le_trans hl l'⟩
theorem Valid.back {g g':G} (e:Ext g g') {r k gen b:Nat} (hg:GenOK g r gen) (h:Valid g' r k gen b):Valid g r k gen b:=by
 obtain ⟨n,hn,hl⟩:=hg
 obtain ⟨n',h',l',k'⟩:=e.row r n hn
 obtain ⟨h1,h2,h3⟩:=h
 rw [h2] at h'
 have:gen=n':=by simpa using h'
 have hnn:n'=n:=by omega
 obtain ⟨a,b⟩:=k' hnn
 exact ⟨a▸h1,by rw [hn]; congr 1; omega,b▸h3⟩
theorem VR.mono {g g':G} (hW:WR g) (e:Ext g g') {v:Value} {p:PV} (h:VR g v p):VR g' v p:=by
 induction h with
 | val v=>exact .val v
 | agg cs ps hl _ ih=>exact .agg cs ps hl ih
 | tup cs ps hl _ ih=>exact .tup cs ps hl ih
 | ptr b r o hb hi=>obtain ⟨a,a'⟩:=e.box r b hb hi; exact .ptr b r o a a'
 | rp a r k gen i j hg h=>exact .rp a r k gen i j (hg.mono e) fun b hv=>h b (hv.back e hg)
 | ip b off k c t fr xs i j cv hZ hb hk hno hc _ ih=>exact .ip b off k c t fr xs i j cv (e.zin b hZ) (by rw [e.keepZ hW hZ,hb]) hk hno hc ih
 | sl a r k gen off len cap hlc hg h=>exact .sl a r k gen off len cap hlc (hg.mono e) fun b hv=>let ⟨x,y⟩:=h b (hv.back e hg); ⟨x,e.size b _ y⟩
 | imE a cap full hc=>exact .imE a cap full hc
 | imC b off cap k c t fr xs full cv hx hf hn hZ hb hk hno hc _ ih=>exact .imC b off cap k c t fr xs full cv hx hf hn (e.zin b hZ) (by rw [e.keepZ hW hZ,hb]) hk hno hc ih
 | fn f cs ps hl _ ih=>exact .fn f cs ps hl ih
 | ifc t x=>exact .ifc t x
def TR (g:G) (a:Array Value) (σ:Tm):Prop:=∀ t,VR g (a.getD t undef) (σ t)
theorem TR.mono {g g':G} (hW:WR g) (e:Ext g g') {a:Array Value} {σ:Tm} (h:TR g a σ):TR g' a σ:=fun t=>(h t).mono hW e
theorem TR.put {g:G} {a:Array Value} {σ:Tm} (h:TR g a σ) {d:Nat} (hd:d < a.size) {v:Value} {p:PV} (hv:VR g v p):TR g (a.setIfInBounds d v) (σ.put d p):=by
 intro t
 by_cases ht:t=d
 ·subst ht; simp [Tm.put,hd,hv]
 ·have:(a.setIfInBounds d v).getD t undef=a.getD t undef:=by
   simp only [Array.getD_eq_getD_getElem?]
   rw [Array.getElem?_setIfInBounds_ne (Ne.symm ht)]
  rw [this]; simp only [Tm.put,ht,if_false]; exact h t
theorem TR.putO {g:G} {a:Act} {σ:Tm} (h:TR g a.tmps σ) {d:Option Nat} (hd:∀ x,d=some x→x < a.tmps.size) {v:Value} {p:PV} (hv:VR g v p):TR g (a.put d v).tmps (σ.putO d p):=by
 cases d with
 | none=>exact h
 | some d=>exact h.put (hd d rfl) hv
end Go.Evl

namespace Go.Evl
open Go
theorem pureRun_run {α:Type} (P:Program):∀ (s:Sem α) (a:α),pureRun P s=some a→∀ w,s.run P w = .ok a w:=by
 intro s
 induction s with
 | pure x=>intro a h w; simp [pureRun] at h; simp [h]
 | program k ih=>intro a h w; simp only [pureRun] at h; simp only [Sem.run]; exact ih P a h w
 | _=>intro a h; simp [pureRun] at h
theorem ofV1_sound {g:G} {v:Value} {p:PV} (h:ofV1 v=some p):VR g v p:=by
 unfold ofV1 at h
 split at h
 ·simp at h; subst h; exact .imE none 0 true (fun _=>rfl)
 ·split at h
  ·simp at h; subst h; exact .val _
  ·simp at h
theorem ofVs_sound {g:G}:∀ {vs:List Value} {ps:List PV},ofVs vs=some ps→vs.length=ps.length∧∀ (i:Nat) (c:Value) (p:PV),vs[i]?=some c→ps[i]?=some p→VR g c p
 | [],ps,h=>by simp [ofVs] at h; subst h; simp
 | v::vs,ps,h=>by
   simp only [ofVs] at h
   split at h
   ·rename_i p ps' h1 h2
    simp at h; subst h
    obtain ⟨hl,hh⟩:=ofVs_sound (g:=g) h2
    refine ⟨by simp [hl],fun i c q hc hq=>?_⟩
    cases i with
    | zero=>simp at hc hq; subst hc hq; exact ofV1_sound h1
    | succ i=>simp at hc hq; exact hh i c q hc hq
   ·simp at h
theorem ofV_sound {g:G} {v:Value} {p:PV} (h:ofV v=some p):VR g v p:=by
 unfold ofV at h
 split at h
 ·rename_i cs
  simp only [Option.map_eq_some_iff] at h
  obtain ⟨ps,h1,rfl⟩:=h
  obtain ⟨hl,hh⟩:=ofVs_sound (g:=g) h1
  have:=VR.agg (g:=g) cs.toList ps hl hh
  simpa using this
 ·rename_i cs
  split at h
  ·rename_i h0
   simp at h; subst h
   rw [Array.eq_empty_of_size_eq_zero h0]; exact .val _
  ·simp at h
 ·exact ofV1_sound h
theorem okV_one {v:Value} (h:okV v=true):v.oneCell'=true:=by
 cases v <;> simp_all [okV,Value.oneCell']
theorem ofV1_one {v:Value} {p:PV} (h:ofV1 v=some p):v.oneCell'=true∧cellsOf p=[p]:=by
 unfold ofV1 at h
 split at h
 ·simp at h; subst h; simp [Value.oneCell',cellsOf]
 ·split at h
  ·simp at h; subst h; rename_i h'; exact ⟨okV_one h',rfl⟩
  ·simp at h
theorem ofVs_one:∀ {vs:List Value} {ps:List PV},ofVs vs=some ps→∀ v∈vs,v.oneCell'=true
 | [],ps,h=>by simp
 | v::vs,ps,h=>by
   simp only [ofVs] at h
   split at h
   ·rename_i p ps' h1 h2
    intro x hx
    rcases List.mem_cons.1 hx with rfl | hx
    ·exact (ofV1_one h1).1
    ·exact ofVs_one h2 x hx
   ·simp at h
def Cs (g:G) (cs:List Value) (ps:List PV):Prop:=cs.length=ps.length∧∀ (i:Nat) (c:Value) (p:PV),cs[i]?=some c→ps[i]?=some p→VR g c p
theorem Cs.mono {g g':G} (hW:WR g) (e:Ext g g') {cs:List Value} {ps:List PV} (h:Cs g cs ps):Cs g' cs ps:=⟨h.1,fun i c p a b=>(h.2 i c p a b).mono hW e⟩
theorem Cs.nil (g:G):Cs g [] []:=⟨rfl,by simp⟩
theorem Cs.cons {g:G} {c:Value} {p:PV} {cs:List Value} {ps:List PV} (h:VR g c p) (hs:Cs g cs ps):Cs g (c::cs) (p::ps):=by
 refine ⟨by simp [hs.1],fun i x q hx hq=>?_⟩
 cases i with
 | zero=>simp at hx hq; subst hx hq; exact h
 | succ i=>simp at hx hq; exact hs.2 i x q hx hq
theorem Cs.tail {g:G} {c:Value} {p:PV} {cs:List Value} {ps:List PV} (h:Cs g (c::cs) (p::ps)):VR g c p∧Cs g cs ps :=
 ⟨h.2 0 c p (by simp) (by simp),by simpa using h.1,fun i x q hx hq=>h.2 (i+1) x q (by simpa using hx) (by simpa using hq)⟩
theorem Cs.get {g:G} {cs:List Value} {ps:List PV} (h:Cs g cs ps) {i:Nat} {p:PV} (hp:ps[i]?=some p):∃ c,cs[i]?=some c∧VR g c p:=by
 have hi:i < ps.length:=(List.getElem?_eq_some_iff.1 hp).1
 have hi':i < cs.length:=by rw [h.1]; exact hi
 exact ⟨cs[i],List.getElem?_eq_getElem hi',h.2 i _ p (List.getElem?_eq_getElem hi') hp⟩
theorem Cs.append {g:G} {as bs:List Value} {ps qs:List PV} (h:Cs g as ps) (h':Cs g bs qs):Cs g (as++bs) (ps++qs):=by
 refine ⟨by simp [h.1,h'.1],fun i c p hc hp=>?_⟩
 by_cases hi:i < as.length
 ·rw [List.getElem?_append_left hi] at hc
  rw [List.getElem?_append_left (h.1▸hi)] at hp
  exact h.2 i c p hc hp
 ·rw [List.getElem?_append_right (Nat.le_of_not_lt hi)] at hc
  rw [List.getElem?_append_right (by rw [← h.1]; exact Nat.le_of_not_lt hi)] at hp
  rw [← h.1] at hp
  exact h'.2 _ c p hc hp
theorem Cs.take {g:G} {as:List Value} {ps:List PV} (h:Cs g as ps) (n:Nat):Cs g (as.take n) (ps.take n):=by
 refine ⟨by simp [h.1],fun i c p hc hp=>?_⟩
 rw [List.getElem?_take] at hc hp
 split at hc
 ·rename_i hi; simp [hi] at hp; exact h.2 i c p hc hp
 ·simp at hc
theorem Cs.drop {g:G} {as:List Value} {ps:List PV} (h:Cs g as ps) (n:Nat):Cs g (as.drop n) (ps.drop n):=by
 refine ⟨by simp [h.1],fun i c p hc hp=>?_⟩
 rw [List.getElem?_drop] at hc hp
 exact h.2 _ c p hc hp
theorem Cs.setL {g:G} {as bs:List Value} {ps qs:List PV} (h:Cs g as ps) (h':Cs g bs qs) (o:Nat):Cs g (as.take o++bs++as.drop (o+bs.length)) (setL ps o qs):=by
 unfold Evl.setL
 rw [h'.1]
 exact ((h.take o).append h').append (h.drop _)
theorem VR.inv_val {g:G} {v x:Value} (h:VR g v (.val x)):v=x:=by cases h; rfl
theorem VR.inv_agg {g:G} {v:Value} {ps:List PV} (h:VR g v (.agg ps)):∃ cs:List Value,v = .agg cs.toArray∧Cs g cs ps:=by
 cases h with
 | agg cs _ hl h=>exact ⟨cs,rfl,hl,h⟩
theorem VR.inv_tup {g:G} {v:Value} {ps:List PV} (h:VR g v (.tup ps)):∃ cs:List Value,v = .tuple cs.toArray∧Cs g cs ps:=by
 cases h with
 | tup cs _ hl h=>exact ⟨cs,rfl,hl,h⟩
theorem VR.inv_fn {g:G} {v:Value} {f:FuncId} {ps:List PV} (h:VR g v (.fn f ps)):∃ cs:List Value,v = .func (.func f) #[] cs.toArray∧Cs g cs ps:=by
 cases h with
 | fn _ cs _ hl h=>exact ⟨cs,rfl,hl,h⟩
theorem VR.of_agg {g:G} {cs:List Value} {ps:List PV} (h:Cs g cs ps):VR g (.agg cs.toArray) (.agg ps):=.agg cs ps h.1 h.2
theorem VR.of_tup {g:G} {cs:List Value} {ps:List PV} (h:Cs g cs ps):VR g (.tuple cs.toArray) (.tup ps):=.tup cs ps h.1 h.2
theorem toVs_sound {g:G}:∀ {ps:List PV} {vs cs:List Value},toVs ps=some vs→Cs g cs ps→cs=vs
 | [],vs,cs,h,hc=>by
   simp [toVs] at h; subst h
   exact List.eq_nil_of_length_eq_zero (by simpa using hc.1)
 | .val v::ps,vs,cs,h,hc=>by
   simp only [toVs,Option.map_eq_some_iff] at h
   obtain ⟨l,hl,rfl⟩:=h
   cases cs with
   | nil=>simp [Cs] at hc
   | cons c cs =>
     obtain ⟨h1,h2⟩:=hc.tail
     rw [h1.inv_val,toVs_sound hl h2]
 | .agg _::_,_,_,h,_ | .tup _::_,_,_,h,_ | .ptr ..::_,_,_,h,_ | .rp ..::_,_,_,h,_ | .ip ..::_,_,_,h,_ | .sl ..::_,_,_,h,_ | .im ..::_,_,_,h,_ | .fn ..::_,_,_,h,_ | .ifc::_,_,_,h,_=>by simp [toVs] at h
theorem toV_sound {g:G} {v x:Value} {p:PV} (h:VR g v p) (hp:toV p=some x):v=x:=by
 unfold toV at hp
 split at hp
 ·simp at hp; subst hp; exact h.inv_val
 ·simp only [Option.map_eq_some_iff] at hp
  obtain ⟨l,hl,rfl⟩:=hp
  obtain ⟨cs,rfl,hc⟩:=h.inv_agg
  rw [toVs_sound hl hc]
 ·simp at hp
theorem VR.cells {g:G} {v:Value} {p:PV} (h:VR g v p) (hp:(cellsOf p).all cellP=true):Cs g v.cells.toList (cellsOf p)∧∀ c∈v.cells.toList,c.oneCell'=true:=by
 have key:∀ {v:Value} {p:PV},VR g v p→cellP p=true→v.oneCell'=true:=by
  intro v p h hp
  cases h <;> simp_all [cellP,Value.oneCell']
 have one:∀ {v:Value} {p:PV},VR g v p→cellP p=true→v.cells = #[v]:=by
  intro v p h hp
  have:=key h hp
  cases v <;> simp_all [Value.cells,Value.oneCell']
 cases h with
 | agg cs ps hl h =>
   simp only [cellsOf] at hp ⊢
   refine ⟨by rw [show (Value.agg cs.toArray).cells.toList=cs by simp [Value.cells]]; exact ⟨hl,h⟩,?_⟩
   intro c hc
   simp [Value.cells] at hc
   obtain ⟨i,hi,rfl⟩:=List.mem_iff_getElem.1 hc
   have hi':i < ps.length:=hl▸hi
   refine key (h i cs[i] ps[i] (List.getElem?_eq_getElem hi) (List.getElem?_eq_getElem hi')) ?_
   exact List.all_eq_true.1 hp _ (List.getElem_mem hi')
 | tup cs ps hl h=>simp [cellsOf,cellP] at hp
 | val v =>
   simp only [cellsOf,List.all_cons,List.all_nil,Bool.and_true] at hp
   have h1:=one (VR.val (g:=g) v) hp
   rw [h1]
   exact ⟨by simpa [cellsOf] using Cs.cons (VR.val v) (Cs.nil g),by simpa using key (VR.val (g:=g) v) hp⟩
 | ptr b r o hb hi=>exact ⟨by simpa [cellsOf,Value.cells] using Cs.cons (VR.ptr b r o hb hi) (Cs.nil g),by simp [Value.cells,Value.oneCell']⟩
 | rp a r k gen i j hg h=>exact ⟨by simpa [cellsOf,Value.cells] using Cs.cons (VR.rp a r k gen i j hg h) (Cs.nil g),by simp [Value.cells,Value.oneCell']⟩
 | ip b off k c t fr xs i j cv hZ hb hk hno hc h=>exact ⟨by simpa [cellsOf,Value.cells] using Cs.cons (VR.ip b off k c t fr xs i j cv hZ hb hk hno hc h) (Cs.nil g),by simp [Value.cells,Value.oneCell']⟩
 | sl a r k gen off len cap hlc hg h=>exact ⟨by simpa [cellsOf,Value.cells] using Cs.cons (VR.sl a r k gen off len cap hlc hg h) (Cs.nil g),by simp [Value.cells,Value.oneCell']⟩
 | imE a cap full hc=>exact ⟨by simpa [cellsOf,Value.cells] using Cs.cons (VR.imE a cap full hc) (Cs.nil g),by simp [Value.cells,Value.oneCell']⟩
 | imC b off cap k c t fr xs full cv hx hf hn hZ hb hk hno hc h=>exact ⟨by simpa [cellsOf,Value.cells] using Cs.cons (VR.imC b off cap k c t fr xs full cv hx hf hn hZ hb hk hno hc h) (Cs.nil g),by simp [Value.cells,Value.oneCell']⟩
 | fn f cs ps hl h=>exact ⟨by simpa [cellsOf,Value.cells] using Cs.cons (VR.fn f cs ps hl h) (Cs.nil g),by simp [Value.cells,Value.oneCell']⟩
 | ifc t x=>exact ⟨by simpa [cellsOf,Value.cells] using Cs.cons (VR.ifc t x) (Cs.nil g),by simp [Value.cells,Value.oneCell']⟩
end Go.Evl

namespace Go.Evl
open Go
theorem Heap.put_same (H:Heap) (r:Nat) (b:Blk):(H.put r b).at_ r=b:=by simp [Heap.put]
theorem Heap.put_other (H:Heap) {r i:Nat} (b:Blk) (h:i≠r):(H.put r b).at_ i=H.at_ i:=by simp [Heap.put,h]
@[simp] theorem Heap.put_n (H:Heap) (r:Nat) (b:Blk):(H.put r b).n=H.n:=rfl
theorem heap_alloc_old (w:World) (o:Obj) {b:Nat} (h:b < w.heap.size):(w.alloc o).heap[b]?=w.heap[b]?:=by
 simp only [World.alloc,Array.getElem?_push,Nat.ne_of_lt h,if_false]
theorem heap_alloc_new (w:World) (o:Obj):(w.alloc o).heap[w.heap.size]?=some o:=by simp only [World.alloc,Array.getElem?_push,if_true]
def G.allocd (g:G) (slot:Nat) (cells:Array Value) (t:TypeId) (blk:Blk):G :=
 ⟨g.w.alloc (.cells cells t (0,0)),g.Z,fun r=>if r=slot then some g.w.heap.size else g.ι r,g.H.put slot blk⟩
theorem lt_of_heap {w:World} {b:Nat} {o:Obj} (h:w.heap[b]?=some o):b < w.heap.size:=(Array.getElem?_eq_some_iff.1 h).1
theorem ext_alloc {g:G} {slot:Nat} (hd:g.H.at_ slot = .dead) (cells:Array Value) (t:TypeId) (blk:Blk):Ext g (g.allocd slot cells t blk) where
 out:=⟨rfl,rfl,rfl⟩
 n:=Nat.le_refl _
 sz:=by simp [G.allocd]
 zin _ h:=h
 znew _ h:=.inl h
 keep b hb _:=heap_alloc_old _ _ hb
 size b n h:=by
  obtain ⟨c,t',fr,hh,hn⟩:=h
  exact ⟨c,t',fr,by rw [← hh]; exact heap_alloc_old _ _ (lt_of_heap hh),hn⟩
 own b h:=by
  obtain ⟨r,ho,hi⟩:=h
  by_cases hr:r=slot
  ·simp [G.allocd,hr] at hi; omega
  ·simp only [G.allocd,hr,if_false] at hi
   rw [show (g.allocd slot cells t blk).H.at_ r=g.H.at_ r from Heap.put_other _ _ hr] at ho
   exact .inl ⟨r,ho,hi⟩
 box r b h hi:=by
  have hr:r≠slot:=fun e=>by rw [e,hd] at h; exact h
  rw [show (g.allocd slot cells t blk).H.at_ r=g.H.at_ r from Heap.put_other _ _ hr]
  exact ⟨h,by simp [G.allocd,hr,hi]⟩
 row r n h:=by
  have hr:r≠slot:=fun e=>by rw [e,hd] at h; simp [rowLen] at h
  rw [show (g.allocd slot cells t blk).H.at_ r=g.H.at_ r from Heap.put_other _ _ hr]
  exact ⟨n,h,Nat.le_refl _,fun _=>⟨by simp [G.allocd,hr],rfl⟩⟩
def Fits (g:G) (c:Array Value):Blk→Prop
 | .box cs=>c.size=cs.length∧∀ (j:Nat) (p:PV),cs[j]?=some p→∃ cv,c[j]?=some cv∧VR g cv p
 | .row k xs own=>own=true∧0 < k∧(∀ x∈xs,x.length=k)∧xs.length * k≤c.size ∧
   ∀ (i:Nat) (x:List PV) (j:Nat) (p:PV),xs[i]?=some x→x[j]?=some p→∃ cv,c[i * k+j]?=some cv∧cv.oneCell'=true∧VR g cv p
 | .dead=>False
theorem Fits.own {g:G} {c:Array Value}:∀ {b:Blk},Fits g c b→isOwn b
 | .box _,_=>trivial
 | .row _ _ true,_=>trivial
 | .row _ _ false,h=>by simp [Fits] at h
 | .dead,h=>h.elim
theorem Fits.mono {g g':G} (hW:WR g) (e:Ext g g') {c:Array Value}:∀ {b:Blk},Fits g c b→Fits g' c b
 | .box _,⟨h,h'⟩=>⟨h,fun j p hp=>let ⟨cv,a,b⟩:=h' j p hp; ⟨cv,a,b.mono hW e⟩⟩
 | .row ..,⟨h1,h2,h3,h4,h5⟩=>⟨h1,h2,h3,h4,fun i x j p a b=>let ⟨cv,c,d,f⟩:=h5 i x j p a b; ⟨cv,c,d,f.mono hW e⟩⟩
 | .dead,h=>h.elim
theorem wr_one {g g':G} (hW:WR g) (e:Ext g g') {r b:Nat} {c:Array Value} {t:TypeId} {blk:Blk} (hn:g'.H.n=g.H.n) (hr:r < g.H.n)
  (hZ:g'.Z=g.Z) (hH:g'.H=g.H.put r blk) (hi:g'.ι r=some b) (hio:∀ i,i≠r→g'.ι i=g.ι i)
  (hb:g'.w.heap[b]?=some (.cells c t (0,0))) (hf:Fits g c blk)
  (hsz:∀ x o,x≠b→g.w.heap[x]?=some o→g'.w.heap[x]?=some o)
  (hfresh:∀ i,i≠r→isOwn (g.H.at_ i)→g.ι i≠some b) (hz:¬ g.Z b) (hzz:∀ i k xs,i≠r→g.H.at_ i = .row k xs false→g.ι i≠some b):WR g' where
 dead i h:=by
  rw [hn] at h
  rw [hH,Heap.put_other _ _ (by omega)]
  exact hW.dead i h
 lt i x h:=by
  by_cases hir:i=r
  ·subst hir; rw [hi] at h; simp at h; subst h; exact lt_of_heap hb
  ·rw [hio i hir] at h; exact Nat.lt_of_lt_of_le (hW.lt i x h) e.sz
 box i cs h:=by
  by_cases hir:i=r
  ·subst hir
   rw [hH,Heap.put_same] at h
   subst h
   obtain ⟨h1,h2⟩:=hf
   exact ⟨b,c,t,hi,hb,h1,fun j p hp=>let ⟨cv,x,y⟩:=h2 j p hp; ⟨cv,x,y.mono hW e⟩⟩
  ·rw [hH,Heap.put_other _ _ hir] at h
   obtain ⟨b',c',t',h1,h2,h3,h4⟩:=hW.box i cs h
   have hne:b'≠b:=fun hh=>hfresh i hir (by rw [h]; trivial) (hh▸h1)
   exact ⟨b',c',t',by rw [hio i hir,h1],hsz b' _ hne h2,h3,fun j p hp=>let ⟨cv,x,y⟩:=h4 j p hp; ⟨cv,x,y.mono hW e⟩⟩
 row i k xs own h:=by
  by_cases hir:i=r
  ·subst hir
   rw [hH,Heap.put_same] at h
   subst h
   obtain ⟨h1,h2,h3,h4,h5⟩:=hf
   subst h1
   exact ⟨h2,h3,b,c,t,(0,0),hi,hb,fun _=>rfl,by simp,h4,fun i x j p a b=>let ⟨cv,c,d,f⟩:=h5 i x j p a b; ⟨cv,c,d,f.mono hW e⟩⟩
  ·rw [hH,Heap.put_other _ _ hir] at h
   obtain ⟨a1,a2,b',c',t',fr,h1,h2,h3,h4,h5,h6⟩:=hW.row i k xs own h
   have hne:b'≠b:=by
    intro hh
    cases own with
    | true=>exact hfresh i hir (by rw [h]; trivial) (hh▸h1)
    | false=>exact hzz i k xs hir h (hh▸h1)
   exact ⟨a1,a2,b',c',t',fr,by rw [hio i hir,h1],hsz b' _ hne h2,h3,fun ho=>hZ▸h4 ho,h5,fun i x j p a b=>let ⟨cv,c,d,f⟩:=h6 i x j p a b; ⟨cv,c,d,f.mono hW e⟩⟩
 inj i j x hoi hoj hii hij:=by
  by_cases hir:i=r
  ·by_cases hjr:j=r
   ·omega
   ·subst hir
    rw [hi] at hii; simp at hii; subst hii
    rw [hio j hjr] at hij
    rw [hH,Heap.put_other _ _ hjr] at hoj
    exact (hfresh j hjr hoj hij).elim
  ·by_cases hjr:j=r
   ·subst hjr
    rw [hi] at hij; simp at hij; subst hij
    rw [hio i hir] at hii
    rw [hH,Heap.put_other _ _ hir] at hoi
    exact (hfresh i hir hoi hii).elim
   ·rw [hio i hir] at hii
    rw [hio j hjr] at hij
    rw [hH,Heap.put_other _ _ hir] at hoi
    rw [hH,Heap.put_other _ _ hjr] at hoj
    exact hW.inj i j x hoi hoj hii hij
 z i x ho hii:=by
  rw [hZ]
  by_cases hir:i=r
  ·subst hir; rw [hi] at hii; simp at hii; subst hii; exact hz
  ·rw [hio i hir] at hii
   rw [hH,Heap.put_other _ _ hir] at ho
   exact hW.z i x ho hii
 zlt x h:=Nat.lt_of_lt_of_le (hW.zlt x (hZ▸h)) e.sz
theorem wr_alloc {g:G} (hW:WR g) {slot:Nat} (hd:g.H.at_ slot = .dead) (hs:slot < g.H.n) {cells:Array Value} {t:TypeId} {blk:Blk} (hf:Fits g cells blk):WR (g.allocd slot cells t blk):=by
 have e:=ext_alloc hd cells t blk
 refine wr_one hW e (r:=slot) (b:=g.w.heap.size) rfl hs rfl rfl (by simp [G.allocd]) (fun i hi=>by simp [G.allocd,hi]) (heap_alloc_new _ _) hf ?_ ?_ ?_ ?_
 ·intro x o hx ho; rw [← ho]; exact heap_alloc_old _ _ (lt_of_heap ho)
 ·intro i hi ho hh; have:=hW.lt _ _ hh; omega
 ·intro hz; have:=hW.zlt _ hz; omega
 ·intro i k xs hi ho hh; have:=hW.lt _ _ hh; omega
def G.stored (g:G) (r b:Nat) (cells:Array Value) (blk:Blk):G:=⟨g.w.setRow b cells,g.Z,g.ι,g.H.put r blk⟩
theorem ext_store {g:G} (r b:Nat) (c cells:Array Value) (t:TypeId) (blk:Blk) (ho:isOwn (g.H.at_ r)) (hi:g.ι r=some b)
  (hb:g.w.heap[b]?=some (.cells c t (0,0))) (hs:cells.size=c.size)
  (h1:isBox (g.H.at_ r)→isBox blk) (h2:rowLen blk=rowLen (g.H.at_ r)) (h3:rowK blk=rowK (g.H.at_ r)):Ext g (g.stored r b cells blk) where
 out:=⟨by simp [G.stored,World.setRow],by simp [G.stored,World.setRow],by simp [G.stored,World.setRow]⟩
 n:=Nat.le_refl _
 sz:=by simp [G.stored]
 zin _ h:=h
 znew _ h:=.inl h
 keep x hx hno:=by
  have:x≠b:=fun e=>hno ⟨r,ho,e▸hi⟩
  exact setRow_other _ _ _ _ this
 size x n h:=by
  obtain ⟨c',t',fr,hh,hn⟩:=h
  by_cases e:x=b
  ·subst e
   rw [hb] at hh
   simp at hh
   obtain ⟨rfl,rfl,rfl⟩:=hh
   exact ⟨cells,t,(0,0),setRow_heap _ _ _ _ _ _ hb,by rw [hs,hn]⟩
  ·exact ⟨c',t',fr,by rw [← hh]; exact setRow_other _ _ _ _ e,hn⟩
 own x h:=by
  obtain ⟨i,hoi,hii⟩:=h
  by_cases hr:i=r
  ·subst hr
   exact .inl ⟨i,ho,hii⟩
  ·rw [show (g.stored r b cells blk).H.at_ i=g.H.at_ i from Heap.put_other _ _ hr] at hoi
   exact .inl ⟨i,hoi,hii⟩
 box i x h hii:=by
  by_cases hr:i=r
  ·subst hr
   refine ⟨?_,hii⟩
   rw [show (g.stored i b cells blk).H.at_ i=blk from Heap.put_same _ _ _]
   exact h1 h
  ·rw [show (g.stored r b cells blk).H.at_ i=g.H.at_ i from Heap.put_other _ _ hr]
   exact ⟨h,hii⟩
 row i n h:=by
  by_cases hr:i=r
  ·subst hr
   rw [show (g.stored i b cells blk).H.at_ i=blk from Heap.put_same _ _ _]
   exact ⟨n,by rw [h2,h],Nat.le_refl _,fun _=>⟨rfl,h3⟩⟩
  ·rw [show (g.stored r b cells blk).H.at_ i=g.H.at_ i from Heap.put_other _ _ hr]
   exact ⟨n,h,Nat.le_refl _,fun _=>⟨rfl,rfl⟩⟩
theorem WR.lt_n {g:G} (hW:WR g) {r:Nat} (h:g.H.at_ r≠.dead):r < g.H.n:=by
 rcases Nat.lt_or_ge r g.H.n with h' | h'
 ·exact h'
 ·exact (h (hW.dead r h')).elim
theorem isOwn_ne {b:Blk} (h:isOwn b):b≠.dead:=by intro e; subst e; exact h
theorem wr_store {g:G} (hW:WR g) (r b:Nat) (c cells:Array Value) (t:TypeId) (blk:Blk) (ho:isOwn (g.H.at_ r)) (hi:g.ι r=some b)
  (hb:g.w.heap[b]?=some (.cells c t (0,0))) (hs:cells.size=c.size)
  (h1:isBox (g.H.at_ r)→isBox blk) (h2:rowLen blk=rowLen (g.H.at_ r)) (h3:rowK blk=rowK (g.H.at_ r)) (hf:Fits g cells blk):WR (g.stored r b cells blk):=by
 have e:=ext_store r b c cells t blk ho hi hb hs h1 h2 h3
 refine wr_one hW e (r:=r) (b:=b) rfl (hW.lt_n (isOwn_ne ho)) rfl rfl hi (fun i hi=>rfl) (setRow_heap _ _ _ _ _ _ hb) hf ?_ ?_ ?_ ?_
 ·intro x o hx ho; rw [← ho]; exact setRow_other _ _ _ _ hx
 ·intro i hir hoi hh; exact hir (hW.inj i r b hoi ho hh hi)
 ·exact hW.z r b ho hi
 ·intro i k xs hir hoi hh
  obtain ⟨_,_,b',c',t',fr,h1',h2',h3',h4',_⟩:=hW.row i k xs false hoi
  rw [hh] at h1'; simp at h1'; subst h1'
  exact hW.z r b ho hi (h4' rfl)
end Go.Evl

namespace Go.Evl
open Go
variable {P:Program}
theorem run_sz {t:TypeId} {n:Nat} (h:szOf P t=some n) (w:World):(sizeOf t).run P w = .ok n w:=by
 unfold szOf at h
 simp only [Option.map_eq_some_iff] at h
 obtain ⟨i,hi,rfl⟩:=h
 simp [sizeOf,typeInfo,hi]
theorem run_agg {t:TypeId} {b:Bool} (h:aggT P t=some b) (w:World):(isAgg t).run P w = .ok b w:=by
 unfold aggT at h
 simp only [Option.map_eq_some_iff] at h
 obtain ⟨d,hd,rfl⟩:=h
 unfold isAgg
 simp only [Sem.run_bind,run_underlying hd,Result.andThen_ok]
 cases d <;> rfl
theorem run_zero {t:TypeId} {ps:List PV} (h:zeroC P t=some ps) (w:World):∃ z p,(zeroValue t).run P w = .ok z w∧ofV z=some p∧cellsOf p=ps:=by
 unfold zeroC at h
 split at h
 ·rename_i z hz
  simp only [Option.map_eq_some_iff] at h
  obtain ⟨p,hp,rfl⟩:=h
  simp only [Option.bind_eq_some_iff] at hz
  obtain ⟨i,hi,hz⟩:=hz
  exact ⟨z,p,by simp [zeroValue,typeInfo,hi,hz],hp,rfl⟩
 ·simp at h
theorem zero_cells {g:G} {z:Value} {p:PV} (h:ofV z=some p):Cs g z.cells.toList (cellsOf p)∧((cellsOf p).all cellP=true→∀ c∈z.cells.toList,c.oneCell'=true):=by
 unfold ofV at h
 split at h
 ·rename_i cs
  simp only [Option.map_eq_some_iff] at h
  obtain ⟨ps,h1,rfl⟩:=h
  exact ⟨ofVs_sound h1,fun _=>ofVs_one h1⟩
 ·rename_i cs
  split at h
  ·rename_i h0
   simp at h; subst h
   rw [Array.eq_empty_of_size_eq_zero h0]
   exact ⟨Cs.cons (VR.val _) (Cs.nil g),fun q=>by simp [cellsOf,uv,cellP,undef,Value.oneCell'] at q⟩
  ·simp at h
 ·rename_i hn1 hn2
  have h1:=ofV1_one h
  have hv:VR g z p:=ofV1_sound h
  have hc:z.cells = #[z]:=by cases z <;> simp_all [Value.cells,Value.oneCell']
  refine ⟨?_,fun _=>?_⟩
  ·rw [hc,h1.2]; exact Cs.cons hv (Cs.nil g)
  ·rw [hc]; simp [h1.1]
def Res (P:Program) (g:G) (s:Sem Next) (r:ORes):Prop :=
 ∃ (nx:Next) (v:Value) (g':G),s.run P g.w = .ok nx g'.w∧(nx = .value v∨nx = .skip∧v=undef)∧g'.H=r.h∧WR g'∧Ext g g'∧VR g' v r.v
theorem Res.same {g:G} (hW:WR g) {s:Sem Next} {v:Value} {p:PV} {wr:List Nat} {rd:Option (List Nat)} (hr:s.run P g.w = .ok (.value v) g.w) (hv:VR g v p):Res P g s ⟨p,g.H,wr,rd⟩ :=
 ⟨.value v,v,g,hr,.inl rfl,rfl,hW,Ext.refl g,hv⟩
def G.drew (g:G):G:={ g with w:=g.w.drew }
theorem ext_drew (g:G):Ext g g.drew :=
 ⟨Nat.le_refl _,Nat.le_refl _,fun _ h=>h,fun _ h=>.inl h,fun _ _ _=>rfl,fun _ _ h=>h,fun _ h=>.inl h,fun _ _ h h'=>⟨h,h'⟩,fun _ n h=>⟨n,h,Nat.le_refl _,fun _=>⟨rfl,rfl⟩⟩,⟨rfl,rfl,rfl⟩⟩
theorem wr_drew {g:G} (h:WR g):WR g.drew where
 dead:=h.dead
 lt:=h.lt
 box r cs a:=let ⟨b,c,t,x,y,z,u⟩:=h.box r cs a; ⟨b,c,t,x,y,z,fun j p hp=>let ⟨cv,q,s⟩:=u j p hp; ⟨cv,q,s.mono h (ext_drew g)⟩⟩
 row r k xs own a:=let ⟨a1,a2,b,c,t,fr,x,y,z,u,v,s⟩:=h.row r k xs own a; ⟨a1,a2,b,c,t,fr,x,y,z,u,v,fun i x j p d e=>let ⟨cv,q,q',s⟩:=s i x j p d e; ⟨cv,q,q',s.mono h (ext_drew g)⟩⟩
 inj:=h.inj
 z:=h.z
 zlt:=h.zlt
section ops
variable {g:G} {a:Act} {σ:Tm}
theorem eval_sound (hT:TR g a.tmps σ) {x:Operand} {o:O} (h:cO x=some o):VR g (a.eval x) (evO σ o):=by
 cases x with
 | tmp t=>simp [cO] at h; subst h; exact hT t
 | const v =>
   simp only [cO,Option.map_eq_some_iff] at h
   obtain ⟨p,hp,rfl⟩:=h
   exact ofV_sound hp
 | global i=>simp [cO] at h
 | func f=>simp [cO] at h; subst h; exact .fn f [] [] rfl (by simp)
theorem scal_sound {s:Sem Value} {p:PV} (h:scal P s=some p) (w:World):∃ v,s.run P w = .ok v w∧VR g v p:=by
 unfold scal at h
 simp only [Option.bind_eq_some_iff] at h
 obtain ⟨v,h1,h2⟩:=h
 exact ⟨v,pureRun_run P s v h1 w,ofV_sound h2⟩
theorem intOf_sound {v:Value} {p:PV} {n:Int} (h:VR g v p) (hp:intOf p=some n):∃ k,v = .int k n:=by
 unfold intOf at hp
 split at hp
 ·rename_i k m; simp at hp; subst hp; exact ⟨k,h.inv_val⟩
 ·simp at hp
theorem run_asIntOf (k:IntKind) (n:Int) (w:World):(asIntOf (.int k n)).run P w = .ok (k,n) w:=rfl
def At (g:G) (ad:Addr) (cs:List PV):Prop:=∃ vs:List Value,Cs g vs cs∧∀ (j:Nat) (v:Value),vs[j]?=some v→g.w.cell? (ad.add j)=some v
theorem add_none (b o j:Nat):(⟨b,o,none⟩:Addr).add j=⟨b,o+j,none⟩:=by unfold Addr.add; split <;> simp_all
theorem cell_of {w:World} {b:Nat} {c:Array Value} {t:TypeId} {fr:Nat × Nat} (h:w.heap[b]?=some (.cells c t fr)) (o:Nat):w.cell? ⟨b,o,none⟩=c[o]?:=by
 simp [World.cell?,h]
theorem slice0_some {α:Type} {l m:List α} {o n:Nat} (h:slice0 l o n=some m):o+n≤l.length∧m=(l.drop o).take n∧m.length=n:=by
 unfold slice0 at h
 split at h
 ·simp at h; subst h; exact ⟨by assumption,rfl,by simp; omega⟩
 ·simp at h
theorem slice0_get {α:Type} {l m:List α} {o n:Nat} (h:slice0 l o n=some m) {j:Nat} {x:α} (hx:m[j]?=some x):j < n∧l[o+j]?=some x:=by
 obtain ⟨h1,rfl,h3⟩:=slice0_some h
 have hj:j < n:=by have:=(List.getElem?_eq_some_iff.1 hx).1; omega
 refine ⟨hj,?_⟩
 rw [List.getElem?_take,if_pos hj,List.getElem?_drop] at hx
 exact hx
theorem cells_of {g:G} {ps:List PV} {ad:Nat→Option Value} (h:∀ (j:Nat) (p:PV),ps[j]?=some p→∃ v,ad j=some v∧VR g v p):∃ vs:List Value,Cs g vs ps∧∀ (j:Nat) (v:Value),vs[j]?=some v→ad j=some v:=by
 induction ps generalizing ad with
 | nil=>exact ⟨[],Cs.nil g,by simp⟩
 | cons p ps ih =>
   obtain ⟨v,h1,h2⟩:=h 0 p (by simp)
   obtain ⟨vs,h3,h4⟩:=ih (ad:=fun j=>ad (j+1)) (fun j q hq=>h (j+1) q (by simpa using hq))
   refine ⟨v::vs,Cs.cons h2 h3,fun j u hu=>?_⟩
   cases j with
   | zero=>simp at hu; subst hu; exact h1
   | succ j=>exact h4 j u (by simpa using hu)
theorem load_sound (hW:WR g) {v:Value} {p:PV} (hv:VR g v p) {n:Nat} {cs:List PV} {is:List Nat} (h:loadC g.H p n=some (cs,is)) :
  cs.length=n∧∃ b o,v = .pointer (some ⟨b,o,none⟩)∧At g ⟨b,o,none⟩ cs:=by
 unfold loadC at h
 split at h
 ·rename_i r o
  split at h
  ·rename_i cs' hb
   simp only [Option.map_eq_some_iff] at h
   obtain ⟨l,hl,he⟩:=h
   simp at he; obtain ⟨rfl,rfl⟩:=he
   refine ⟨(slice0_some hl).2.2,?_⟩
   cases hv with
   | ptr b _ _ hbx hi =>
     refine ⟨b,o,rfl,?_⟩
     obtain ⟨b',c,t,h1,h2,h3,h4⟩:=hW.box r cs' hb
     rw [hi] at h1; simp at h1; subst h1
     refine cells_of (ad:=fun j=>g.w.cell? ((⟨b,o,none⟩:Addr).add j)) fun j p hp=>?_
     obtain ⟨cv,h5,h6⟩:=h4 (o+j) p (slice0_get hl hp).2
     exact ⟨cv,by rw [add_none,cell_of h2]; exact h5,h6⟩
  ·simp at h
 ·rename_i r k gen i j
  split at h
  ·rename_i k' xs own hb
   split at h
   ·rename_i hk
    obtain ⟨rfl,rfl⟩:=hk
    split at h
    ·rename_i x hx
     simp only [Option.map_eq_some_iff] at h
     obtain ⟨l,hl,he⟩:=h
     simp at he; obtain ⟨rfl,rfl⟩:=he
     refine ⟨(slice0_some hl).2.2,?_⟩
     cases hv with
     | rp ad _ _ _ _ _ hg hh =>
       obtain ⟨a1,a2,b,c,t,fr,h1,h2,h3,h4,h5,h6⟩:=hW.row r k xs own hb
       have hval:Valid g r k xs.length b:=⟨h1,by rw [hb]; rfl,by rw [hb]; rfl⟩
       rw [hh b hval]
       refine ⟨b,_,rfl,?_⟩
       refine cells_of (ad:=fun m=>g.w.cell? ((⟨b,i * k+j,none⟩:Addr).add m)) fun m p hp=>?_
       obtain ⟨cv,h7,h8,h9⟩:=h6 i x (j+m) p hx (slice0_get hl hp).2
       exact ⟨cv,by rw [add_none,cell_of h2,← h7,Nat.add_assoc],h9⟩
    ·simp at h
   ·simp at h
  ·simp at h
 ·rename_i xs i j
  split at h
  ·rename_i x hx
   simp only [Option.map_eq_some_iff] at h
   obtain ⟨l,hl,he⟩:=h
   simp at he; obtain ⟨rfl,rfl⟩:=he
   refine ⟨(slice0_some hl).2.2,?_⟩
   cases hv with
   | ip b off k c t fr _ _ _ cv hZ hb hk hno hc hh =>
     refine ⟨b,_,rfl,?_⟩
     refine cells_of (ad:=fun m=>g.w.cell? ((⟨b,off+i * k+j,none⟩:Addr).add m)) fun m p hp=>?_
     have h1:=(slice0_get hl hp).2
     exact ⟨cv i (j+m),by rw [add_none,cell_of hb,← (hc i x (j+m) p hx h1).1,Nat.add_assoc],hh i x (j+m) p hx h1⟩
  ·simp at h
 ·simp at h
theorem one_sound {vs:List Value} {ps:List PV} (h:Cs g vs ps) {agg:Bool} {p:PV} (ho:one agg ps=some p) :
  (agg=true∧VR g (.agg vs.toArray) p)∨(agg=false∧∃ v,vs=[v]∧VR g v p):=by
 unfold one at ho
 split at ho
 ·rename_i ha; simp at ho; subst ho; exact .inl ⟨ha,VR.of_agg h⟩
 ·rename_i ha
  simp at ha
  split at ho
  ·simp at ho; subst ho
   refine .inr ⟨ha,?_⟩
   match vs,h with
   | [],h=>simp [Cs] at h
   | v::vs,h =>
     have:=h.tail
     have hl:=this.2.1
     simp at hl; subst hl
     exact ⟨v,rfl,this.1⟩
  ·simp at ho
theorem run_loadVar {t:TypeId} {n:Nat} {agg:Bool} (hs:szOf P t=some n) (ha:aggT P t=some agg) {ad:Addr} {vs:List Value} (hl:vs.length=n)
  (hc:∀ (j:Nat) (v:Value),vs[j]?=some v→g.w.cell? (ad.add j)=some v) {p:PV} {ps:List PV} (hcs:Cs g vs ps) (ho:one agg ps=some p) :
  ∃ v,(loadVar t ad).run P g.w = .ok v g.w∧VR g v p:=by
 rcases one_sound hcs ho with ⟨rfl,hv⟩ | ⟨rfl,v,rfl,hv⟩
 ·refine ⟨_,?_,hv⟩
  unfold loadVar
  simp only [Sem.run_bind,run_agg ha,run_sz hs,Result.andThen_ok,if_true,← hl,run_loadCells_list g.w ad vs hc]
  rfl
 ·refine ⟨v,?_,hv⟩
  have h0:=hc 0 v (by simp)
  rw [show ad.add 0=ad by simp [Addr.add]] at h0
  unfold loadVar
  simp [run_agg ha,h0]
theorem ld_sound (hW:WR g) (hT:TR g a.tmps σ) {t:TypeId} {x:Operand} {n:Nat} {agg:Bool} {o:O} (hs:szOf P t=some n) (ha:aggT P t=some agg) (hx:cO x=some o)
  {v:PV} {is:List Nat} (h:loadP g.H n agg (evO σ o)=some (v,is)):∃ u,(Instr.loadAt t (a.eval x)).run P g.w = .ok u g.w∧VR g u v:=by
 unfold loadP at h
 split at h
 ·rename_i cs is' hl
  simp only [Option.map_eq_some_iff] at h
  obtain ⟨p,hp,he⟩:=h
  simp at he; obtain ⟨rfl,rfl⟩:=he
  obtain ⟨hn,b,off,hv,vs,hcs,hc⟩:=load_sound hW (eval_sound hT hx) hl
  obtain ⟨u,h1,h2⟩:=run_loadVar (P:=P) hs ha (by rw [hcs.1,hn]) hc hcs hp
  refine ⟨u,?_,h2⟩
  unfold Instr.loadAt
  rw [hv]
  simp only [Instr.sureAddr,Sem.run_bind,Sem.run_pure,Result.andThen_ok,h1]
 ·simp at h
end ops
end Go.Evl

namespace Go.Evl
open Go
variable {P:Program}
theorem setL_get {α:Type} (c vs:List α) (o q:Nat) (h:o+vs.length≤c.length) :
  (setL c o vs)[q]?=if o≤q∧q < o+vs.length then vs[q - o]? else c[q]?:=by
 unfold setL
 by_cases h1:q < o
 ·rw [List.append_assoc,List.getElem?_append_left (by simp; omega),List.getElem?_take,if_pos h1,if_neg (by omega)]
 ·rw [List.append_assoc,List.getElem?_append_right (by simp; omega)]
  have hm:min o c.length=o:=by omega
  simp only [List.length_take,hm]
  by_cases h2:q < o+vs.length
  ·rw [List.getElem?_append_left (by omega),if_pos (by omega)]
  ·rw [List.getElem?_append_right (by omega),if_neg (by omega),List.getElem?_drop]
   congr 1; omega
theorem setL_length {α:Type} (c vs:List α) (o:Nat) (h:o+vs.length≤c.length):(setL c o vs).length=c.length:=by
 unfold setL; simp; omega
theorem cs_of_get {g:G} {c:List Value} {cs:List PV} (hl:c.length=cs.length) (h:∀ (j:Nat) (p:PV),cs[j]?=some p→∃ cv,c[j]?=some cv∧VR g cv p):Cs g c cs :=
 ⟨hl,fun i x p hx hp=>by obtain ⟨cv,h1,h2⟩:=h i p hp; rw [hx] at h1; simp at h1; subst h1; exact h2⟩
theorem idx_apart {i i' j k:Nat} (hj:j < k) (h:i'≠i) {o l:Nat} (hl:o+l≤k):¬ (i * k+o≤i' * k+j∧i' * k+j < i * k+o+l):=by
 rcases Nat.lt_or_gt_of_ne h with h | h
 ·have:(i'+1) * k≤i * k:=Nat.mul_le_mul_right k h
  rw [Nat.add_mul] at this; omega
 ·have:(i+1) * k≤i' * k:=Nat.mul_le_mul_right k h
  rw [Nat.add_mul] at this; omega
theorem allLen_iff {k:Nat}:∀ {xs:List (List PV)},allLen k xs=true↔∀ x∈xs,x.length=k
 | []=>by simp [allLen]
 | x::xs=>by simp [allLen,allLen_iff (k:=k) (xs:=xs)]
theorem allLen_eq {k k':Nat} {xs:List (List PV)} (h:allLen k xs=true) (hx:xs≠[]) (h':∀ x∈xs,x.length=k'):k=k':=by
 cases xs with
 | nil=>exact (hx rfl).elim
 | cons x xs=>rw [← h' x (by simp),allLen_iff.1 h x (by simp)]
section ops
variable {g:G} {a:Act} {σ:Tm}
theorem run_storeAt {b o:Nat} {c:Array Value} {t:TypeId} (hb:g.w.heap[b]?=some (.cells c t (0,0))) {vs:List Value} (hl:o+vs.length≤c.size) (h1:∀ v∈vs,v.oneCell'=true) :
  (storeCells ⟨b,o,none⟩ vs).run P g.w = .ok () (g.w.setRow b (setL c.toList o vs).toArray):=by
 have:=run_storeCells_at P b o t vs 0 c g.w hb (by simpa using hl) h1
 simpa [setL] using this
theorem storeC_sound (hW:WR g) {v:Value} {p:PV} (hv:VR g v p) {vs:List Value} {ps:List PV} (hc:Cs g vs ps) (h1:∀ v∈vs,v.oneCell'=true) {H':Heap} {r:Nat} (h:storeC g.H p ps=some (H',r)) :
  ∃ ad g',v = .pointer (some ad)∧(storeCells ad vs).run P g.w = .ok () g'.w∧g'.H=H'∧WR g'∧Ext g g':=by
 unfold storeC at h
 split at h
 ·rename_i r' o
  split at h
  ·rename_i cs hb
   split at h
   ·rename_i hle
    simp at h; obtain ⟨rfl,rfl⟩:=h
    cases hv with
    | ptr b _ _ hbx hi =>
      obtain ⟨b',c,t,h2,h3,h4,h5⟩:=hW.box r' cs hb
      rw [hi] at h2; simp at h2; subst h2
      have hcs:Cs g c.toList cs:=cs_of_get (by simpa using h4) (fun j p hp=>by simpa using h5 j p hp)
      have hsz:(setL c.toList o vs).toArray.size=c.size:=by simp; rw [setL_length _ _ _ (by simp [hc.1]; omega)]; simp
      have ho:isOwn (g.H.at_ r'):=by rw [hb]; trivial
      have hf:Fits g (setL c.toList o vs).toArray (.box (setL cs o ps)):=by
       refine ⟨by rw [hsz,h4,setL_length _ _ _ hle],fun j p hp=>?_⟩
       have hcs':=hcs.setL hc o
       obtain ⟨cv,q1,q2⟩:=hcs'.get hp
       exact ⟨cv,by simpa [setL] using q1,q2⟩
      refine ⟨_,g.stored r' b (setL c.toList o vs).toArray (.box (setL cs o ps)),rfl,run_storeAt h3 (by rw [hc.1]; omega) h1,rfl,
       wr_store hW r' b c _ t _ ho hi h3 hsz (fun _=>trivial) (by rw [hb]; rfl) (by rw [hb]; rfl) hf,
       ext_store r' b c _ t _ ho hi h3 hsz (fun _=>trivial) (by rw [hb]; rfl) (by rw [hb]; rfl)⟩
   ·simp at h
  ·simp at h
 ·rename_i r' k gen i j
  split at h
  ·rename_i k' xs hb
   split at h
   ·rename_i hk
    obtain ⟨rfl,rfl⟩:=hk
    split at h
    ·rename_i x hx
     split at h
     ·rename_i hle
      simp at h; obtain ⟨rfl,rfl⟩:=h
      cases hv with
      | rp ad _ _ _ _ _ hg hh =>
        obtain ⟨a1,a2,b,c,t,fr,q1,q2,q3,q4,q5,q6⟩:=hW.row r' k xs true hb
        have hval:Valid g r' k xs.length b:=⟨q1,by rw [hb]; rfl,by rw [hb]; rfl⟩
        have hfr:=q3 rfl; subst hfr
        have hxk:x.length=k:=a2 x (List.mem_of_getElem? hx)
        have hil:i < xs.length:=(List.getElem?_eq_some_iff.1 hx).1
        have hik:(i+1) * k≤xs.length * k:=Nat.mul_le_mul_right k hil
        have hik':i * k+k≤xs.length * k:=by rw [Nat.add_mul] at hik; omega
        have hroom:i * k+j+vs.length≤c.size:=by rw [hc.1]; omega
        rw [hh b hval]
        have hsz:(setL c.toList (i * k+j) vs).toArray.size=c.size:=by simp; rw [setL_length _ _ _ (by simpa using hroom)]; simp
        have ho:isOwn (g.H.at_ r'):=by rw [hb]; trivial
        have hf:Fits g (setL c.toList (i * k+j) vs).toArray (.row k (xs.set i (setL x j ps)) true):=by
         refine ⟨rfl,a1,?_,by rw [hsz]; simpa using q5,?_⟩
         ·intro y hy
          rcases List.mem_or_eq_of_mem_set hy with hy | rfl
          ·exact a2 y hy
          ·rw [setL_length _ _ _ (by omega),hxk]
         ·intro i' y m p hy hp
          have hget:(setL c.toList (i * k+j) vs).toArray[i' * k+m]?=(setL c.toList (i * k+j) vs)[i' * k+m]?:=by simp
          rw [hget,setL_get _ _ _ _ (by simpa using hroom)]
          by_cases hii:i'=i
          ·subst hii
           rw [List.getElem?_set_self hil] at hy
           simp at hy; subst hy
           rw [setL_get _ _ _ _ (by omega)] at hp
           by_cases hm:j≤m∧m < j+ps.length
           ·rw [if_pos hm] at hp
            obtain ⟨cv,s1,s2⟩:=hc.get hp
            rw [if_pos (by rw [hc.1]; omega)]
            have he:i' * k+m - (i' * k+j)=m - j:=by omega
            rw [he]
            exact ⟨cv,s1,h1 cv (List.mem_of_getElem? s1),s2⟩
           ·rw [if_neg hm] at hp
            rw [if_neg (by rw [hc.1]; omega)]
            obtain ⟨cv,s1,s2,s3⟩:=q6 i' x m p hx hp
            exact ⟨cv,by simpa using s1,s2,s3⟩
          ·rw [List.getElem?_set_ne (Ne.symm hii)] at hy
           have hyk:y.length=k:=a2 y (List.mem_of_getElem? hy)
           have hmk:m < k:=by have:=(List.getElem?_eq_some_iff.1 hp).1; omega
           rw [if_neg (idx_apart hmk hii (by rw [hc.1]; omega))]
           obtain ⟨cv,s1,s2,s3⟩:=q6 i' y m p hy hp
           exact ⟨cv,by simpa using s1,s2,s3⟩
        refine ⟨_,g.stored r' b (setL c.toList (i * k+j) vs).toArray (.row k (xs.set i (setL x j ps)) true),rfl,run_storeAt q2 hroom h1,rfl,
         wr_store hW r' b c _ t _ ho q1 q2 hsz (fun hbx=>by rw [hb] at hbx; exact hbx.elim) (by rw [hb]; simp [rowLen]) (by rw [hb]; rfl) hf,
         ext_store r' b c _ t _ ho q1 q2 hsz (fun hbx=>by rw [hb] at hbx; exact hbx.elim) (by rw [hb]; simp [rowLen]) (by rw [hb]; rfl)⟩
     ·simp at h
    ·simp at h
   ·simp at h
  ·simp at h
 ·simp at h
theorem st_sound (hW:WR g) (hT:TR g a.tmps σ) {t:TypeId} {p x:Operand} {n:Nat} {po xo:O} (hs:szOf P t=some n) (hp:cO p=some po) (hx:cO x=some xo)
  (hn:(cellsOf (evO σ xo)).length=n) (hall:(cellsOf (evO σ xo)).all cellP=true) {H':Heap} {r:Nat} (h:storeC g.H (evO σ po) (cellsOf (evO σ xo))=some (H',r)) :
  ∃ g',(Instr.storeAt t (a.eval p) (a.eval x)).run P g.w = .ok () g'.w∧g'.H=H'∧WR g'∧Ext g g':=by
 obtain ⟨hc,h1⟩:=(eval_sound hT hx).cells hall
 obtain ⟨ad,g',hv,hrun,r1,r2,r3⟩:=storeC_sound (P:=P) hW (eval_sound hT hp) hc h1 h
 refine ⟨g',?_,r1,r2,r3⟩
 unfold Instr.storeAt storeVar
 rw [hv]
 have hsize:(a.eval x).cells.size=n:=by rw [← hn,← hc.1]; simp
 simp [Instr.sureAddr,run_sz hs,hsize,hrun]
theorem box_sound (hW:WR g) {slot:Nat} (hd:g.H.at_ slot = .dead) (hs:slot < g.H.n) {vs:List Value} {ps:List PV} (hc:Cs g vs ps) (t:TypeId) :
  ∃ g',g'.w=g.w.alloc (.cells vs.toArray t)∧g'.H=g.H.put slot (.box ps)∧WR g'∧Ext g g'∧VR g' (.pointer (some ⟨g.w.heap.size,0,none⟩)) (.ptr slot 0):=by
 have hf:Fits g vs.toArray (.box ps):=⟨by simpa using hc.1,fun j p hp=>by obtain ⟨cv,h1,h2⟩:=hc.get hp; exact ⟨cv,by simpa using h1,h2⟩⟩
 refine ⟨g.allocd slot vs.toArray t (.box ps),rfl,rfl,wr_alloc hW hd hs hf,ext_alloc hd _ _ _,?_⟩
 refine .ptr _ _ _ ?_ ?_
 ·show isBox ((g.H.put slot (.box ps)).at_ slot)
  rw [Heap.put_same]; trivial
 ·simp [G.allocd]
theorem run_newVar (t:TypeId) (v:Value) (w:World):(newVar t v).run P w = .ok ⟨w.heap.size,0,none⟩ (w.alloc (.cells v.cells t)):=rfl
theorem alloc_sound (hW:WR g) {slot:Nat} (hd:g.H.at_ slot = .dead) (hs:slot < g.H.n) {t:TypeId} {z:List PV} (hz:zeroC P t=some z) :
  ∃ g' v,(Instr.alloc t true (.tuple #[])).run P g.w = .ok v g'.w∧g'.H=g.H.put slot (.box z)∧WR g'∧Ext g g'∧VR g' v (.ptr slot 0):=by
 obtain ⟨zv,p,h1,h2,h3⟩:=run_zero hz g.w
 have hcs:Cs g zv.cells.toList z:=by rw [← h3]; exact (zero_cells h2).1
 obtain ⟨g',e1,e2,e3,e4,e5⟩:=box_sound hW hd hs hcs t
 refine ⟨g',_,?_,e2,e3,e4,e5⟩
 unfold Instr.alloc
 simp only [Sem.run_bind,h1,Result.andThen_ok,run_newVar,Sem.run_pure,e1]
theorem bx_sound (hW:WR g) (hT:TR g a.tmps σ) {slot:Nat} (hd:g.H.at_ slot = .dead) (hs:slot < g.H.n) {t:TypeId} {x:Operand} {xo:O} (hx:cO x=some xo) (hall:(cellsOf (evO σ xo)).all cellP=true) :
  ∃ g' v,(Instr.box t (a.eval x)).run P g.w = .ok v g'.w∧g'.H=g.H.put slot (.box (cellsOf (evO σ xo)))∧WR g'∧Ext g g'∧VR g' v (.ptr slot 0):=by
 obtain ⟨hc,h1⟩:=(eval_sound hT hx).cells hall
 obtain ⟨g',e1,e2,e3,e4,e5⟩:=box_sound hW hd hs hc t
 refine ⟨g',_,?_,e2,e3,e4,e5⟩
 unfold Instr.box
 simp only [Sem.run_bind,Result.andThen_ok,run_newVar,Sem.run_pure,e1]
theorem addP_sound' {v:Value} {p q:PV} (hv:VR g v p) {n:Nat} (h:addP p n=some q):∃ ad:Addr,v = .pointer (some ad)∧VR g (.pointer (some (ad.add n))) q:=by
 unfold addP at h
 split at h
 ·rename_i r o
  simp at h; subst h
  cases hv with
  | ptr b _ _ hb hi=>exact ⟨_,rfl,by rw [add_none]; exact .ptr b r (o+n) hb hi⟩
 ·rename_i r k gen i j
  simp at h; subst h
  cases hv with
  | rp ad _ _ _ _ _ hg hh =>
    refine ⟨ad,rfl,.rp _ _ _ _ _ _ hg fun b hb=>?_⟩
    rw [hh b hb,add_none,Nat.add_assoc]
 ·rename_i xs i j
  simp at h; subst h
  cases hv with
  | ip b off k c t fr _ _ _ cv hZ hb hk hno hc hh =>
    refine ⟨_,rfl,?_⟩
    rw [add_none,Nat.add_assoc]
    exact .ip b off k c t fr xs i (j+n) cv hZ hb hk hno hc hh
 ·simp at h
theorem fad_sound (hT:TR g a.tmps σ) {t:TypeId} {f:Nat} {q:Field} {s:Nat} {x:Operand} {xo:O} (hq:fieldOf P t f=some q) (hs:szOf P q.type=some s) (h0:s≠0) (hx:cO x=some xo)
  {r:PV} (h:addP (evO σ xo) q.offset=some r):∃ v,(Instr.fieldAt t (a.eval x) f).run P g.w = .ok v g.w∧VR g v r:=by
 obtain ⟨ad,hv,hr⟩:=addP_sound' (eval_sound hT hx) h
 refine ⟨_,?_,hr⟩
 unfold fieldOf at hq
 split at hq
 ·rename_i fs hu
  unfold Instr.fieldAt
  rw [hv]
  simp [run_underlying hu,hq,Instr.sureAddr,fieldPlace,run_sz hs,h0]
 ·simp at hq
theorem iaa_sound (hT:TR g a.tmps σ) {t e:TypeId} {len s:Nat} {x i:Operand} {xo io:O} (hu:P.underlying t=some (.array len e)) (hs:szOf P e=some s) (hx:cO x=some xo) (hi:cO i=some io)
  {n:Int} (hn:intOf (evO σ io)=some n) (h0:0≤n∧n < len) {r:PV} (h:addP (evO σ xo) (n.toNat * s)=some r):∃ v,(Instr.indexAt t (a.eval x) (a.eval i)).run P g.w = .ok v g.w∧VR g v r:=by
 obtain ⟨ad,hv,hr⟩:=addP_sound' (eval_sound hT hx) h
 obtain ⟨k,hk⟩:=intOf_sound (eval_sound hT hi) hn
 refine ⟨_,?_,hr⟩
 unfold Instr.indexAt
 rw [hv,hk]
 simp [run_underlying hu,Instr.sureAddr,asIntOf,run_sz hs,h0.1,h0.2]
theorem ias_sound (hW:WR g) (hT:TR g a.tmps σ) {t e:TypeId} {s:Nat} {x i:Operand} {xo io:O} (hu:P.underlying t=some (.slice e)) (hs:szOf P e=some s) (hx:cO x=some xo) (hi:cO i=some io)
  {slot:Nat} {r:ORes} (h:pop P σ g.H slot (.ias s xo io)=some r):∃ v,r.h=g.H∧(Instr.indexAt t (a.eval x) (a.eval i)).run P g.w = .ok v g.w∧VR g v r.v:=by
 have hv:=eval_sound hT hx
 have hvi:=eval_sound hT hi
 simp only [pop] at h
 split at h
 ·rename_i xs full n he hn
  rw [he] at hv
  obtain ⟨k2,hk⟩:=intOf_sound hvi hn
  split at h
  ·rename_i h0
   obtain ⟨h0,hlt',hall⟩:=h0
   simp at h; subst h
   have hlt:n.toNat < xs.length:=by omega
   cases hv':a.eval x with
   | slice ad len cap =>
     rw [hv'] at hv
     cases hv with
     | imE=>simp at hlt
     | imC b off _ k' c t' fr _ _ cv hx0 hf hn' hZ hb hk' hno hc hh =>
       obtain rfl:=allLen_eq hall hx0 hk'
       refine ⟨_,rfl,?_,.ip b off s c t' fr xs n.toNat 0 cv hZ hb hk' hno hc hh⟩
       unfold Instr.indexAt
       rw [hk]
       simp [run_underlying hu,asIntOf,run_sz hs,h0,hlt',add_none]
   | _=>rw [hv'] at hv; cases hv
  ·simp at h
 ·rename_i r' k gen off len n he hn
  rw [he] at hv
  obtain ⟨k2,hk⟩:=intOf_sound hvi hn
  split at h
  ·rename_i h0
   obtain ⟨h0,hlt,rfl⟩:=h0
   simp at h; subst h
   cases hv':a.eval x with
   | slice ad len' cap =>
     rw [hv'] at hv
     cases hv with
     | sl adr _ _ _ _ _ _ hlc hg hh =>
       refine ⟨.pointer (some (adr.add (n.toNat * s))),rfl,?_,.rp _ _ _ _ _ _ hg fun b hb=>?_⟩
       ·unfold Instr.indexAt
        rw [hk]
        simp [run_underlying hu,asIntOf,run_sz hs,h0,hlt]
       ·rw [(hh b hb).1,add_none,Nat.add_mul,Nat.add_zero]
   | _=>rw [hv'] at hv; cases hv
  ·simp at h
 ·simp at h
end ops
end Go.Evl

namespace Go.Evl
open Go
variable {P:Program}
def Bd (v:Option Value) (n:Option Nat):Prop:=(v=none∧n=none)∨∃ (k:IntKind) (m:Int),v=some (.int k m)∧0≤m∧n=some m.toNat
theorem run_sliceBound {k:IntKind} {m:Int} {y:Nat} (h0:0≤m) (h:m.toNat≤y) (code:BoundsCode) (w:World):(Instr.sliceBound (.int k m) y code).run P w = .ok m.toNat w:=by
 have hm:m≤(y:Int):=by omega
 simp [Instr.sliceBound,asIntOf,h0,hm]
theorem run_sliceBounds {b:Bool} {len cap:Nat} {lo hi mx:Option Value} {l h m:Option Nat} (hl:Bd lo l) (hh:Bd hi h) (hm:Bd mx m) (w:World)
  (h1:l.getD 0≤h.getD len) (h2:h.getD len≤m.getD cap) (h3:m.getD cap≤cap) (h4:m.isSome→h.isSome) :
  (Instr.sliceBounds b len cap lo hi mx).run P w = .ok (l.getD 0,h.getD len,m.getD cap) w:=by
 unfold Instr.sliceBounds
 rcases hm with ⟨rfl,rfl⟩ | ⟨km,vm,rfl,hm0,rfl⟩ <;> rcases hh with ⟨rfl,rfl⟩ | ⟨kh,vh,rfl,hh0,rfl⟩ <;> rcases hl with ⟨rfl,rfl⟩ | ⟨kl,vl,rfl,hl0,rfl⟩ <;>
  simp only [Option.getD_none,Option.getD_some,Option.isSome_none,Option.isSome_some] at h1 h2 h3 h4 ⊢ <;>
  first
   | (simp at h4; done)
   | simp [run_sliceBound, *]
theorem cs_sub {off k l n:Nat} {c:Array Value} {xs:List (List PV)} {cv:Nat→Nat→Value}
  (hc:∀ (i:Nat) (x:List PV) (j:Nat) (p:PV),xs[i]?=some x→x[j]?=some p→c[off+i * k+j]?=some (cv i j)∧(cv i j).oneCell'=true) :
  ∀ (i:Nat) (x:List PV) (j:Nat) (p:PV),((xs.take n).drop l)[i]?=some x→x[j]?=some p→c[off+l * k+i * k+j]?=some (cv (l+i) j)∧(cv (l+i) j).oneCell'=true:=by
 intro i x j p hx hp
 rw [List.getElem?_drop,List.getElem?_take] at hx
 split at hx
 ·have:=hc (l+i) x j p hx hp
  rw [Nat.add_mul] at this
  rw [show off+l * k+i * k+j=off+(l * k+i * k)+j by omega]
  exact this
 ·simp at hx
section ops
variable {g:G} {a:Act} {σ:Tm}
theorem optI_sound (hT:TR g a.tmps σ) {x:Option Operand} {o:Option O} (hx:cOpt x=some o) {n:Option Nat} (h:optI σ o=some n):Bd (x.map a.eval) n:=by
 unfold cOpt at hx
 split at hx
 ·simp at hx; subst hx
  simp [optI] at h; subst h
  exact .inl ⟨rfl,rfl⟩
 ·rename_i y
  simp only [Option.map_eq_some_iff] at hx
  obtain ⟨o',h1,rfl⟩:=hx
  simp only [optI] at h
  split at h
  ·rename_i m hm
   split at h
   ·rename_i h0
    simp at h; subst h
    obtain ⟨k,hk⟩:=intOf_sound (eval_sound hT h1) hm
    exact .inr ⟨k,m,by simp [hk],h0,rfl⟩
   ·simp at h
  ·simp at h
def ImAt (g:G) (full:Bool) (ad:Option Addr) (xs:List (List PV)) (k:Nat):Prop :=
 ∃ (b off:Nat) (c:Array Value) (t:TypeId) (fr:Nat × Nat) (cv:Nat→Nat→Value),ad=some ⟨b,off,none⟩∧g.Z b∧g.w.heap[b]?=some (.cells c t fr)∧(full=true→fr=(0,0))∧(∀ x∈xs,x.length=k)∧(∀ x∈xs,∀ p∈x,NoIds p) ∧
  (∀ (i:Nat) (x:List PV) (j:Nat) (p:PV),xs[i]?=some x→x[j]?=some p→c[off+i * k+j]?=some (cv i j)∧(cv i j).oneCell'=true) ∧
  ∀ (i:Nat) (x:List PV) (j:Nat) (p:PV),xs[i]?=some x→x[j]?=some p→VR g (cv i j) p
theorem VR.inv_im {v:Value} {xs:List (List PV)} {full:Bool} (h:VR g v (.im xs full)):∃ ad cap,v = .slice ad xs.length cap∧(full=true→cap=xs.length)∧xs.length≤cap∧(xs≠[]→∃ k,ImAt g full ad xs k):=by
 generalize hp:PV.im xs full=p at h
 cases h with
 | imE ad cap f hc=>simp at hp; obtain ⟨rfl,rfl⟩:=hp; exact ⟨ad,cap,rfl,fun q=>by simp [hc q],Nat.zero_le _,fun h=>(h rfl).elim⟩
 | imC b off cap k c t fr ys f cv hx hf hn hZ hb hk hno hc hh =>
   simp at hp; obtain ⟨rfl,rfl⟩:=hp
   exact ⟨_,cap,rfl,fun q=>(hf q).1,hn,fun _=>⟨k,b,off,c,t,fr,cv,rfl,hZ,hb,fun q=>(hf q).2,hk,hno,hc,hh⟩⟩
 | _=>cases hp
theorem VR.mk_im {ad:Option Addr} {xs:List (List PV)} {full:Bool} {n cap:Nat} (hn:n=xs.length) (hf:full=true→cap=xs.length) (hc:xs.length≤cap) (h:xs≠[]→∃ k,ImAt g full ad xs k):VR g (.slice ad n cap) (.im xs full):=by
 subst hn
 cases xs with
 | nil=>exact .imE _ _ _ hf
 | cons x xs =>
   obtain ⟨k,b,off,c,t,fr,cv,rfl,hZ,hb,hfr,hk,hno,h1,h2⟩:=h (by simp)
   exact .imC b off cap k c t fr _ full cv (by simp) (fun q=>⟨hf q,hfr q⟩) hc hZ hb hk hno h1 h2
theorem ImAt.weak {full full':Bool} {ad:Option Addr} {xs:List (List PV)} {k:Nat} (h:ImAt g full ad xs k) (hw:full'=true→full=true):ImAt g full' ad xs k:=by
 obtain ⟨b,off,c,t,fr,cv,h1,hZ,hb,hfr,hr⟩:=h
 exact ⟨b,off,c,t,fr,cv,h1,hZ,hb,fun q=>hfr (hw q),hr⟩
theorem ImAt.sub {full:Bool} {ad:Option Addr} {xs:List (List PV)} {k:Nat} (h:ImAt g full ad xs k) (l n:Nat):ImAt g full (ad.map (·.add (l * k))) ((xs.take n).drop l) k:=by
 obtain ⟨b,off,c,t,fr,cv,rfl,hZ,hb,hfr,hk,hno,hc,hh⟩:=h
 refine ⟨b,off+l * k,c,t,fr,fun i j=>cv (l+i) j,by simp [add_none],hZ,hb,hfr,?_,?_,cs_sub hc,?_⟩
 ·intro x hx; exact hk x (List.mem_of_mem_take (List.mem_of_mem_drop hx))
 ·intro x hx; exact hno x (List.mem_of_mem_take (List.mem_of_mem_drop hx))
 ·intro i x j p hx hp
  rw [List.getElem?_drop,List.getElem?_take] at hx
  split at hx
  ·exact hh _ x j p hx hp
  ·simp at hx
theorem slice_sound (hW:WR g) {v:Value} {p:PV} (hv:VR g v p) {t e:TypeId} {s:Nat} (hu:P.underlying t=some (.slice e)) (hs:szOf P e=some s) {lo hi mx:Option Value} {l h m:Option Nat}
  (hl:Bd lo l) (hh:Bd hi h) (hm:Bd mx m) {r:PV} {is:List Nat} (hr:sliceP g.H s p l h m=some (r,is)) (hns:∀ t,p≠.val (.string t)):∃ u,(Instr.sliceAt t v lo hi mx).run P g.w = .ok u g.w∧VR g u r:=by
 have hrun:∀ (ad:Option Addr) (n cap:Nat),v = .slice ad n cap→l.getD 0≤h.getD n→h.getD n≤m.getD cap→m.getD cap≤cap→(m.isSome→h.isSome) →
   (Instr.sliceAt t v lo hi mx).run P g.w = .ok (.slice (if m.getD cap=l.getD 0 then ad else ad.map (·.add (l.getD 0 * s))) (h.getD n - l.getD 0) (m.getD cap - l.getD 0)) g.w:=by
  intro ad n cap hvv h1 h2 h3 h4
  unfold Instr.sliceAt
  rw [hvv]
  simp only [Sem.run_bind,run_underlying hu,Result.andThen_ok]
  unfold Instr.slice
  simp [run_underlying hu,run_sz hs,run_sliceBounds hl hh hm g.w h1 h2 h3 h4]
 unfold sliceP at hr
 split at hr
 ·exact (hns _ rfl).elim
 ·rename_i xs full
  split at hr
  ·rename_i hcond
   obtain ⟨_,hall,h1,h2⟩:=hcond
   obtain ⟨ad,cap,hve,hfc,hcc,hat⟩:=hv.inv_im
   have hat':xs≠[]→ImAt g full ad xs s:=by
    intro hx
    obtain ⟨k,hk⟩:=hat hx
    have:s=k:=by obtain ⟨_,_,_,_,_,_,_,_,_,_,hk',_⟩:=hk; exact allLen_eq hall hx hk'
    rw [this]; exact hk
   split at hr
   ·simp at hr; obtain ⟨rfl,rfl⟩:=hr
    refine ⟨_,hrun ad _ cap hve h1 (by simp; omega) (by simp) (by simp),?_⟩
    simp only [Option.getD_none]
    refine VR.mk_im (by simp; omega) ?_ (by simp; omega) ?_
    ·intro q; simp at q ⊢; rw [hfc q.1]; omega
    ·intro hne
     have hlt:l.getD 0 < h.getD xs.length:=by
      rcases Nat.lt_or_ge (l.getD 0) (h.getD xs.length) with q | q
      ·exact q
      ·exact (hne (by rw [List.drop_eq_nil_iff,List.length_take]; omega)).elim
     rw [if_neg (by omega)]
     exact ⟨s,((hat' (by intro q; subst q; simp only [List.length_nil] at h2 hlt; omega)).sub _ _).weak (fun q=>by simp at q; exact q.1)⟩
   ·rename_i m'
    split at hr
    ·rename_i hmh
     obtain ⟨hmh,hfull⟩:=hmh
     subst hmh
     simp at hr; obtain ⟨rfl,rfl⟩:=hr
     simp only [Option.getD_some] at h1 h2
     refine ⟨_,hrun ad _ cap hve (by simpa using h1) (by simp) (by simp; omega) (by simp),?_⟩
     simp only [Option.getD_some]
     refine VR.mk_im (by simp; omega) (fun _=>by simp; omega) (by simp; omega) (fun hne=>?_)
     have hlt:l.getD 0 < m':=by
      rcases Nat.lt_or_ge (l.getD 0) m' with q | q
      ·exact q
      ·exact (hne (by rw [List.drop_eq_nil_iff,List.length_take]; omega)).elim
     rw [if_neg (by omega)]
     exact ⟨s,((hat' (by intro q; subst q; simp only [List.length_nil] at h2 hlt; omega)).sub _ _).weak (fun _=>hfull)⟩
    ·simp at hr
  ·simp at hr
 ·rename_i r' k gen off len
  split at hr
  ·rename_i k' xs own hb
   split at hr
   ·rename_i hcond
    obtain ⟨_,rfl,rfl,rfl,h1,h2⟩:=hcond
    cases hv with
    | sl ad _ _ _ _ _ cap hlc hg hh' =>
      obtain ⟨a1,a2,b,c,t',fr,q1,q2,q3,q4,q5,q6⟩:=hW.row r' s xs own hb
      have hval:Valid g r' s xs.length b:=⟨q1,by rw [hb]; rfl,by rw [hb]; rfl⟩
      obtain ⟨e1,c',t2,fr2,e2,e3⟩:=hh' b hval
      rw [q2] at e2; simp at e2
      obtain ⟨rfl,rfl,rfl⟩:=e2
      have hcap:xs.length≤off+cap:=by
       rw [e3] at q5
       exact Nat.le_of_mul_le_mul_right q5 a1
      split at hr
      ·split at hr
       ·rename_i hlh
        simp at hr; obtain ⟨rfl,rfl⟩:=hr
        refine ⟨_,hrun _ _ cap rfl h1 (by simp; omega) (by simp) (by simp),?_⟩
        exact VR.mk_im (by simp; omega) (by simp) (by simp) (by simp)
       ·rename_i hlh
        simp at hr; obtain ⟨rfl,rfl⟩:=hr
        refine ⟨_,hrun _ _ cap rfl h1 (by simp; omega) (by simp) (by simp),?_⟩
        have haddr:(if (none:Option Nat).getD cap=l.getD 0 then some ad else (some ad).map (·.add (l.getD 0 * s)))=some (ad.add (l.getD 0 * s)):=by
         split
         ·rename_i hcl
          simp at hcl
          have:l.getD 0=0:=by omega
          rw [this]; simp [Addr.add]
         ·rfl
        rw [haddr]
        refine .sl _ _ _ _ _ _ _ (by simp; omega) hg fun b' hb'=>?_
        obtain ⟨z1,z2⟩:=hh' b' hb'
        refine ⟨by rw [z1,add_none,Nat.add_mul],?_⟩
        simp only [Option.getD_none]
        rw [show off+l.getD 0+(cap - l.getD 0)=off+cap by omega]
        exact z2
      ·rename_i m'
       split at hr
       ·rename_i hmh
        obtain ⟨rfl,hlm⟩:=hmh
        simp at hr; obtain ⟨rfl,rfl⟩:=hr
        simp only [Option.getD_some] at h1 h2
        refine ⟨_,hrun _ _ cap rfl (by simpa using h1) (by simp) (by simp; omega) (by simp),?_⟩
        simp only [Option.getD_some]
        exact VR.mk_im (by simp; omega) (by simp; omega) (by simp) (by simp)
       ·split at hr
        ·rename_i hst
         obtain ⟨hs1,hs2,hs3,hs4⟩:=hst
         simp at hr; obtain ⟨rfl,rfl⟩:=hr
         refine ⟨_,hrun _ _ cap rfl h1 (by simpa using hs2) (by simp; omega) (fun _=>hs1),?_⟩
         simp only [Option.getD_some]
         have haddr:∃ ad',(if m'=l.getD 0 then some ad else (some ad).map (·.add (l.getD 0 * s)))=some ad':=by split <;> exact ⟨_,rfl⟩
         obtain ⟨ad',haddr⟩:=haddr
         rw [haddr]
         refine .sl _ _ _ _ _ _ _ (by omega) ⟨xs.length,by rw [hb]; rfl,Nat.zero_le _⟩ fun b' hb'=>?_
         have:=hb'.2.1
         rw [hb] at this
         simp [rowLen] at this
         simp [this] at hs4
        ·simp at hr
   ·simp at hr
  ·simp at hr
 ·simp at hr
theorem slice_str_sound {t:TypeId} (hu:P.underlying t=some .string) {lo hi:Option Value} {l h:Option Nat} (hl:Bd lo l) (hh:Bd hi h) {b:ByteArray} (h1:l.getD 0≤h.getD b.size) (h2:h.getD b.size≤b.size) :
  (Instr.sliceAt t (.string b) lo hi none).run P g.w = .ok (.string (b.extract (l.getD 0) (h.getD b.size))) g.w:=by
 unfold Instr.sliceAt
 simp only [Sem.run_bind,run_underlying hu,Result.andThen_ok]
 unfold Instr.slice
 simp [run_underlying hu,run_sliceBounds hl hh (show Bd none none from .inl ⟨rfl,rfl⟩) g.w h1 (show h.getD b.size≤(none:Option Nat).getD b.size by simpa using h2) (by simp) (by simp)]
end ops
end Go.Evl

namespace Go.Evl
open Go
variable {P:Program}
def Sees (g g':G) (is:List Nat):Prop :=
 (∀ b,g.Z b→g'.Z b∧g'.w.heap[b]?=g.w.heap[b]?) ∧
 ∀ r∈is,∀ b k xs own,g.ι r=some b→g.H.at_ r = .row k xs own→g'.Z b∧g'.w.heap[b]?=g.w.heap[b]?
theorem VR.noids {g g':G} (hZ:∀ b,g.Z b→g'.Z b∧g'.w.heap[b]?=g.w.heap[b]?) {v:Value} {p:PV} (h:VR g v p) (hn:NoIds p):VR g' v p:=by
 induction h with
 | val v=>exact .val v
 | agg cs ps hl _ ih=>cases hn with | agg _ hn=>exact .agg cs ps hl fun i c p hc hp=>ih i c p hc hp (hn p (List.mem_of_getElem? hp))
 | tup cs ps hl _ ih=>cases hn with | tup _ hn=>exact .tup cs ps hl fun i c p hc hp=>ih i c p hc hp (hn p (List.mem_of_getElem? hp))
 | ptr=>cases hn
 | rp=>cases hn
 | ip=>cases hn
 | sl=>cases hn
 | imE a cap full hc=>exact .imE a cap full hc
 | imC b off cap k c t fr xs full cv hx hf hl hZb hb hk hno hc _ ih =>
   exact .imC b off cap k c t fr xs full cv hx hf hl (hZ b hZb).1 (by rw [(hZ b hZb).2,hb]) hk hno hc
    fun i x j p hx hp=>ih i x j p hx hp (hno x (List.mem_of_getElem? hx) p (List.mem_of_getElem? hp))
 | fn f cs ps hl _ _=>cases hn with | fn=>exact .fn f cs [] hl (by simp)
 | ifc t x=>exact .ifc t x
theorem VR.weak {g:G} {v:Value} {xs:List (List PV)} {full:Bool} (h:VR g v (.im xs full)):VR g v (.im xs false):=by
 obtain ⟨ad,cap,rfl,h1,h2,h3⟩:=h.inv_im
 exact VR.mk_im rfl (by simp) h2 fun h=>let ⟨k,q⟩:=h3 h; ⟨k,q.weak (by simp)⟩
theorem plain_sound {g:G} {v:Value} {p q:PV} (h:VR g v p) (hp:plain p=some q):VR g v q∧NoIds q:=by
 unfold plain at hp
 split at hp
 ·split at hp
  ·simp at hp; subst hp; exact ⟨h,.val _⟩
  ·simp at hp
 ·simp at hp; subst hp; exact ⟨h.weak,.im _ _⟩
 ·simp at hp; subst hp; exact ⟨h,.ifc⟩
 ·simp at hp
theorem plains_get:∀ {ps qs:List PV},plains ps=some qs→ps.length=qs.length∧∀ (i:Nat) (q:PV),qs[i]?=some q→∃ p,ps[i]?=some p∧plain p=some q
 | [],qs,h=>by simp [plains] at h; subst h; simp
 | p::ps,qs,h=>by
   simp only [plains] at h
   split at h
   ·rename_i q qs' h1 h2
    simp at h; subst h
    obtain ⟨hl,hh⟩:=plains_get h2
    refine ⟨by simp [hl],fun i q' hq=>?_⟩
    cases i with
    | zero=>simp at hq; subst hq; exact ⟨p,by simp,h1⟩
    | succ i=>obtain ⟨p',a,b⟩:=hh i q' (by simpa using hq); exact ⟨p',by simpa using a,b⟩
   ·simp at h
theorem plainss_get:∀ {ps qs:List (List PV)},plainss ps=some qs→ps.length=qs.length∧∀ (i:Nat) (q:List PV),qs[i]?=some q→∃ p,ps[i]?=some p∧plains p=some q
 | [],qs,h=>by simp [plainss] at h; subst h; simp
 | p::ps,qs,h=>by
   simp only [plainss] at h
   split at h
   ·rename_i q qs' h1 h2
    simp at h; subst h
    obtain ⟨hl,hh⟩:=plainss_get h2
    refine ⟨by simp [hl],fun i q' hq=>?_⟩
    cases i with
    | zero=>simp at hq; subst hq; exact ⟨p,by simp,h1⟩
    | succ i=>obtain ⟨p',a,b⟩:=hh i q' (by simpa using hq); exact ⟨p',by simpa using a,b⟩
   ·simp at h
theorem Sees.left {g g':G} {is js:List Nat} (h:Sees g g' (is++js)):Sees g g' is:=⟨h.1,fun r hr=>h.2 r (by simp [hr])⟩
theorem Sees.right {g g':G} {is js:List Nat} (h:Sees g g' (is++js)):Sees g g' js:=⟨h.1,fun r hr=>h.2 r (by simp [hr])⟩
theorem expC1_sound {g g':G} (hW:WR g) {v:Value} {p q:PV} {is:List Nat} (h:VR g v p) (he:expC1 g.H p=some (q,is)) (hs:Sees g g' is):VR g' v q∧NoIds q:=by
 unfold expC1 at he
 split at he
 ·split at he
  ·simp at he; obtain ⟨rfl,rfl⟩:=he; exact ⟨h.noids hs.1 (.val _),.val _⟩
  ·simp at he
 ·simp at he; obtain ⟨rfl,rfl⟩:=he; exact ⟨h.weak.noids hs.1 (.im _ _),.im _ _⟩
 ·simp at he; obtain ⟨rfl,rfl⟩:=he; exact ⟨h.noids hs.1 .ifc,.ifc⟩
 ·simp at he; obtain ⟨rfl,rfl⟩:=he; exact ⟨h.noids hs.1 (.fn _),.fn _⟩
 ·rename_i r k gen off len
  split at he
  ·rename_i k' xs own hb
   split at he
   ·rename_i hcond
    obtain ⟨rfl,rfl,hle⟩:=hcond
    split at he
    ·rename_i ys hys
     simp at he; obtain ⟨rfl,rfl⟩:=he
     refine ⟨?_,.im _ _⟩
     obtain ⟨hl,hget⟩:=plainss_get hys
     cases h with
     | sl ad _ _ _ _ _ cap hlc hg hh =>
       obtain ⟨a1,a2,b,c,t,fr,q1,q2,q3,q4,q5,q6⟩:=hW.row r k xs own hb
       have hval:Valid g r k xs.length b:=⟨q1,by rw [hb]; rfl,by rw [hb]; rfl⟩
       obtain ⟨e1,c',t2,fr2,e2,e3⟩:=hh b hval
       rw [q2] at e2; simp at e2
       obtain ⟨rfl,rfl,rfl⟩:=e2
       have hcap:xs.length≤off+cap:=by rw [e3] at q5; exact Nat.le_of_mul_le_mul_right q5 a1
       have hlen:ys.length=len:=by rw [← hl]; simp; omega
       obtain ⟨z1,z2⟩:=hs.2 r (by simp) b k xs own q1 hb
       have hel:∀ (i:Nat) (y:List PV) (j:Nat) (p:PV),ys[i]?=some y→y[j]?=some p→∃ cv,c[off * k+i * k+j]?=some cv∧cv.oneCell'=true∧VR g cv p∧NoIds p:=by
        intro i y j p hy hp
        obtain ⟨x,hx,hxy⟩:=hget i y hy
        obtain ⟨p0,hp0,hpp⟩:=(plains_get hxy).2 j p hp
        rw [List.getElem?_take] at hx
        split at hx
        ·rw [List.getElem?_drop] at hx
         obtain ⟨cv,s1,s2,s3⟩:=q6 (off+i) x j p0 hx hp0
         rw [Nat.add_mul] at s1
         have:=plain_sound s3 hpp
         exact ⟨cv,s1,s2,this.1,this.2⟩
        ·simp at hx
       subst e1
       refine VR.mk_im hlen.symm (by simp) (by rw [hlen]; omega) fun _=>⟨k,b,off * k,c,t,fr,fun i j=>(c[off * k+i * k+j]?).getD undef,rfl,z1,by rw [z2,q2],by simp,?_,?_,?_,?_⟩
       ·intro y hy
        obtain ⟨i,hi⟩:=List.mem_iff_getElem?.1 hy
        obtain ⟨x,hx,hxy⟩:=hget i y hi
        rw [← (plains_get hxy).1]
        exact a2 x (List.mem_of_mem_drop (List.mem_of_mem_take (List.mem_of_getElem? hx)))
       ·intro y hy p hp
        obtain ⟨i,hi⟩:=List.mem_iff_getElem?.1 hy
        obtain ⟨j,hj⟩:=List.mem_iff_getElem?.1 hp
        obtain ⟨_,_,_,_,hn⟩:=hel i y j p hi hj
        exact hn
       ·intro i y j p hy hp
        obtain ⟨cv,s1,s2,_,_⟩:=hel i y j p hy hp
        simp only [s1,Option.getD_some]; exact ⟨trivial,s2⟩
       ·intro i y j p hy hp
        obtain ⟨cv,s1,s2,s3,s4⟩:=hel i y j p hy hp
        simp only [s1,Option.getD_some]
        exact s3.noids hs.1 s4
    ·simp at he
   ·simp at he
  ·simp at he
 ·simp at he
theorem expCs1_get {H:Heap}:∀ {ps qs:List PV} {is:List Nat},expCs1 H ps=some (qs,is)→ps.length=qs.length∧∀ (i:Nat) (q:PV),qs[i]?=some q→∃ p js,ps[i]?=some p∧expC1 H p=some (q,js)∧∀ j∈js,j∈is
 | [],qs,is,h=>by simp [expCs1] at h; obtain ⟨rfl,rfl⟩:=h; simp
 | p::ps,qs,is,h=>by
   simp only [expCs1] at h
   split at h
   ·rename_i q i1 qs' i2 h1 h2
    simp at h; obtain ⟨rfl,rfl⟩:=h
    obtain ⟨hl,hh⟩:=expCs1_get h2
    refine ⟨by simp [hl],fun i q' hq=>?_⟩
    cases i with
    | zero=>simp at hq; subst hq; exact ⟨p,i1,by simp,h1,fun j hj=>by simp [hj]⟩
    | succ i=>obtain ⟨p',js,a,b,c⟩:=hh i q' (by simpa using hq); exact ⟨p',js,by simpa using a,b,fun j hj=>by simp [c j hj]⟩
   ·simp at h
theorem expRs_get {H:Heap}:∀ {ps qs:List (List PV)} {is:List Nat},expRs H ps=some (qs,is)→ps.length=qs.length∧∀ (i:Nat) (q:List PV),qs[i]?=some q→∃ p js,ps[i]?=some p∧expCs1 H p=some (q,js)∧∀ j∈js,j∈is
 | [],qs,is,h=>by simp [expRs] at h; obtain ⟨rfl,rfl⟩:=h; simp
 | p::ps,qs,is,h=>by
   simp only [expRs] at h
   split at h
   ·rename_i q i1 qs' i2 h1 h2
    simp at h; obtain ⟨rfl,rfl⟩:=h
    obtain ⟨hl,hh⟩:=expRs_get h2
    refine ⟨by simp [hl],fun i q' hq=>?_⟩
    cases i with
    | zero=>simp at hq; subst hq; exact ⟨p,i1,by simp,h1,fun j hj=>by simp [hj]⟩
    | succ i=>obtain ⟨p',js,a,b,c⟩:=hh i q' (by simpa using hq); exact ⟨p',js,by simpa using a,b,fun j hj=>by simp [c j hj]⟩
   ·simp at h
theorem Sees.sub {g g':G} {is js:List Nat} (h:Sees g g' is) (hj:∀ j∈js,j∈is):Sees g g' js:=⟨h.1,fun r hr=>h.2 r (hj r hr)⟩
theorem expC_sound {g g':G} (hW:WR g) {v:Value} {p q:PV} {is:List Nat} (h:VR g v p) (he:expC g.H p=some (q,is)) (hs:Sees g g' is):VR g' v q∧NoIds q:=by
 unfold expC at he
 split at he
 ·split at he
  ·simp at he; obtain ⟨rfl,rfl⟩:=he; exact ⟨h.noids hs.1 (.val _),.val _⟩
  ·simp at he
 ·simp at he; obtain ⟨rfl,rfl⟩:=he; exact ⟨h.weak.noids hs.1 (.im _ _),.im _ _⟩
 ·simp at he; obtain ⟨rfl,rfl⟩:=he; exact ⟨h.noids hs.1 .ifc,.ifc⟩
 ·simp at he; obtain ⟨rfl,rfl⟩:=he; exact ⟨h.noids hs.1 (.fn _),.fn _⟩
 ·rename_i r k gen off len
  split at he
  ·rename_i k' xs own hb
   split at he
   ·rename_i hcond
    obtain ⟨rfl,rfl,hle⟩:=hcond
    split at he
    ·rename_i ys hys
     simp at he; obtain ⟨rfl,rfl⟩:=he
     refine ⟨?_,.im _ _⟩
     obtain ⟨hl,hget⟩:=plainss_get hys
     cases h with
     | sl ad _ _ _ _ _ cap hlc hg hh =>
       obtain ⟨a1,a2,b,c,t,fr,q1,q2,q3,q4,q5,q6⟩:=hW.row r k xs own hb
       have hval:Valid g r k xs.length b:=⟨q1,by rw [hb]; rfl,by rw [hb]; rfl⟩
       obtain ⟨e1,c',t2,fr2,e2,e3⟩:=hh b hval
       rw [q2] at e2; simp at e2
       obtain ⟨rfl,rfl,rfl⟩:=e2
       have hcap:xs.length≤off+cap:=by rw [e3] at q5; exact Nat.le_of_mul_le_mul_right q5 a1
       have hlen:ys.length=len:=by rw [← hl]; simp; omega
       obtain ⟨z1,z2⟩:=hs.2 r (by simp) b k xs own q1 hb
       have hel:∀ (i:Nat) (y:List PV) (j:Nat) (p:PV),ys[i]?=some y→y[j]?=some p→∃ cv,c[off * k+i * k+j]?=some cv∧cv.oneCell'=true∧VR g cv p∧NoIds p:=by
        intro i y j p hy hp
        obtain ⟨x,hx,hxy⟩:=hget i y hy
        obtain ⟨p0,hp0,hpp⟩:=(plains_get hxy).2 j p hp
        rw [List.getElem?_take] at hx
        split at hx
        ·rw [List.getElem?_drop] at hx
         obtain ⟨cv,s1,s2,s3⟩:=q6 (off+i) x j p0 hx hp0
         rw [Nat.add_mul] at s1
         have:=plain_sound s3 hpp
         exact ⟨cv,s1,s2,this.1,this.2⟩
        ·simp at hx
       subst e1
       refine VR.mk_im hlen.symm (by simp) (by rw [hlen]; omega) fun _=>⟨k,b,off * k,c,t,fr,fun i j=>(c[off * k+i * k+j]?).getD undef,rfl,z1,by rw [z2,q2],by simp,?_,?_,?_,?_⟩
       ·intro y hy
        obtain ⟨i,hi⟩:=List.mem_iff_getElem?.1 hy
        obtain ⟨x,hx,hxy⟩:=hget i y hi
        rw [← (plains_get hxy).1]
        exact a2 x (List.mem_of_mem_drop (List.mem_of_mem_take (List.mem_of_getElem? hx)))
       ·intro y hy p hp
        obtain ⟨i,hi⟩:=List.mem_iff_getElem?.1 hy
        obtain ⟨j,hj⟩:=List.mem_iff_getElem?.1 hp
        obtain ⟨_,_,_,_,hn⟩:=hel i y j p hi hj
        exact hn
       ·intro i y j p hy hp
        obtain ⟨cv,s1,s2,_,_⟩:=hel i y j p hy hp
        simp only [s1,Option.getD_some]; exact ⟨trivial,s2⟩
       ·intro i y j p hy hp
        obtain ⟨cv,s1,s2,s3,s4⟩:=hel i y j p hy hp
        simp only [s1,Option.getD_some]
        exact s3.noids hs.1 s4
    ·split at he
     ·rename_i ys js hys
      simp at he; obtain ⟨rfl,rfl⟩:=he
      refine ⟨?_,.im _ _⟩
      obtain ⟨hl,hget⟩:=expRs_get hys
      cases h with
      | sl ad _ _ _ _ _ cap hlc hg hh =>
        obtain ⟨a1,a2,b,c,t,fr,q1,q2,q3,q4,q5,q6⟩:=hW.row r k xs own hb
        have hval:Valid g r k xs.length b:=⟨q1,by rw [hb]; rfl,by rw [hb]; rfl⟩
        obtain ⟨e1,c',t2,fr2,e2,e3⟩:=hh b hval
        rw [q2] at e2; simp at e2
        obtain ⟨rfl,rfl,rfl⟩:=e2
        have hcap:xs.length≤off+cap:=by rw [e3] at q5; exact Nat.le_of_mul_le_mul_right q5 a1
        have hlen:ys.length=len:=by rw [← hl]; simp; omega
        obtain ⟨z1,z2⟩:=hs.2 r (by simp) b k xs own q1 hb
        have hel:∀ (i:Nat) (y:List PV) (j:Nat) (p:PV),ys[i]?=some y→y[j]?=some p→∃ cv,c[off * k+i * k+j]?=some cv∧cv.oneCell'=true∧VR g' cv p∧NoIds p:=by
         intro i y j p hy hp
         obtain ⟨x,j1,hx,hxy,hj1⟩:=hget i y hy
         obtain ⟨p0,j2,hp0,hpp,hj2⟩:=(expCs1_get hxy).2 j p hp
         rw [List.getElem?_take] at hx
         split at hx
         ·rw [List.getElem?_drop] at hx
          obtain ⟨cv,s1,s2,s3⟩:=q6 (off+i) x j p0 hx hp0
          rw [Nat.add_mul] at s1
          have:=expC1_sound hW s3 hpp (hs.sub fun q hq=>List.mem_cons_of_mem _ (hj1 q (hj2 q hq)))
          exact ⟨cv,s1,s2,this.1,this.2⟩
         ·simp at hx
        subst e1
        refine VR.mk_im hlen.symm (by simp) (by rw [hlen]; omega) fun _=>⟨k,b,off * k,c,t,fr,fun i j=>(c[off * k+i * k+j]?).getD undef,rfl,z1,by rw [z2,q2],by simp,?_,?_,?_,?_⟩
        ·intro y hy
         obtain ⟨i,hi⟩:=List.mem_iff_getElem?.1 hy
         obtain ⟨x,j1,hx,hxy,hj1⟩:=hget i y hi
         rw [← (expCs1_get hxy).1]
         exact a2 x (List.mem_of_mem_drop (List.mem_of_mem_take (List.mem_of_getElem? hx)))
        ·intro y hy p hp
         obtain ⟨i,hi⟩:=List.mem_iff_getElem?.1 hy
         obtain ⟨j,hj⟩:=List.mem_iff_getElem?.1 hp
         obtain ⟨_,_,_,_,hn⟩:=hel i y j p hi hj
         exact hn
        ·intro i y j p hy hp
         obtain ⟨cv,s1,s2,_,_⟩:=hel i y j p hy hp
         simp only [s1,Option.getD_some]; exact ⟨trivial,s2⟩
        ·intro i y j p hy hp
         obtain ⟨cv,s1,s2,s3,s4⟩:=hel i y j p hy hp
         simp only [s1,Option.getD_some]
         exact s3
     ·simp at he
   ·simp at he
  ·simp at he
 ·simp at he
theorem expCs_sound {g g':G} (hW:WR g):∀ {vs:List Value} {ps qs:List PV} {is:List Nat},Cs g vs ps→expCs g.H ps=some (qs,is)→Sees g g' is→Cs g' vs qs∧∀ q∈qs,NoIds q
 | vs,[],qs,is,h,he,hs=>by
   simp [expCs] at he; obtain ⟨rfl,rfl⟩:=he
   have:vs=[]:=List.eq_nil_of_length_eq_zero (by simpa using h.1)
   subst this; exact ⟨Cs.nil _,by simp⟩
 | vs,p::ps,qs,is,h,he,hs=>by
   simp only [expCs] at he
   split at he
   ·rename_i q is1 qs' is2 h1 h2
    simp at he; obtain ⟨rfl,rfl⟩:=he
    cases vs with
    | nil=>simp [Cs] at h
    | cons v vs =>
      obtain ⟨a1,a2⟩:=h.tail
      obtain ⟨b1,b2⟩:=expC_sound hW a1 h1 hs.left
      obtain ⟨c1,c2⟩:=expCs_sound hW a2 h2 hs.right
      exact ⟨Cs.cons b1 c1,by simpa using ⟨b2,c2⟩⟩
   ·simp at he
theorem expA_sound {g g':G} (hW:WR g) {v:Value} {p q:PV} {is:List Nat} (h:VR g v p) (he:expA g.H p=some (q,is)) (hs:Sees g g' is):VR g' v q∧NoIds q:=by
 unfold expA at he
 split at he
 ·split at he
  ·rename_i cs js h1
   simp at he; obtain ⟨rfl,rfl⟩:=he
   obtain ⟨vs,rfl,hc⟩:=h.inv_agg
   obtain ⟨a,b⟩:=expCs_sound hW hc h1 hs
   exact ⟨VR.of_agg a,.agg _ b⟩
  ·simp at he
 ·exact expC_sound hW h he hs
theorem expAs_sound {g g':G} (hW:WR g):∀ {vs:List Value} {ps qs:List PV} {is:List Nat},Cs g vs ps→expAs g.H ps=some (qs,is)→Sees g g' is→Cs g' vs qs∧∀ q∈qs,NoIds q
 | vs,[],qs,is,h,he,hs=>by
   simp [expAs] at he; obtain ⟨rfl,rfl⟩:=he
   have:vs=[]:=List.eq_nil_of_length_eq_zero (by simpa using h.1)
   subst this; exact ⟨Cs.nil _,by simp⟩
 | vs,p::ps,qs,is,h,he,hs=>by
   simp only [expAs] at he
   split at he
   ·rename_i q is1 qs' is2 h1 h2
    simp at he; obtain ⟨rfl,rfl⟩:=he
    cases vs with
    | nil=>simp [Cs] at h
    | cons v vs =>
      obtain ⟨a1,a2⟩:=h.tail
      obtain ⟨b1,b2⟩:=expA_sound hW a1 h1 hs.left
      obtain ⟨c1,c2⟩:=expAs_sound hW a2 h2 hs.right
      exact ⟨Cs.cons b1 c1,by simpa using ⟨b2,c2⟩⟩
   ·simp at he
theorem expV_sound {g g':G} (hW:WR g) {v:Value} {p q:PV} {is:List Nat} (h:VR g v p) (he:expV g.H p=some (q,is)) (hs:Sees g g' is):VR g' v q∧NoIds q:=by
 unfold expV at he
 split at he
 ·split at he
  ·rename_i cs js h1
   simp at he; obtain ⟨rfl,rfl⟩:=he
   obtain ⟨vs,rfl,hc⟩:=h.inv_tup
   obtain ⟨a,b⟩:=expAs_sound hW hc h1 hs
   exact ⟨VR.of_tup a,.tup _ b⟩
  ·simp at he
 ·exact expA_sound hW h he hs
theorem freeze1_n (H:Heap) (i:Nat):(freeze1 H i).n=H.n:=by unfold freeze1; split <;> rfl
theorem freeze1_at (H:Heap) (i r:Nat):(freeze1 H i).at_ r=(if r=i then (match H.at_ r with | .row k xs _=>.row k xs false | b=>b) else H.at_ r):=by
 unfold freeze1
 split
 ·rename_i k xs hb
  by_cases h:r=i
  ·subst h; rw [Heap.put_same,hb]; simp
  ·rw [Heap.put_other _ _ h,if_neg h]
 ·rename_i hno
  split
  ·rename_i h; subst h
   cases hb:H.at_ r with
   | row k xs own=>cases own with
     | true=>exact (hno k xs hb).elim
     | false=>rfl
   | _=>rfl
  ·rfl
theorem freeze_n (H:Heap) (is:List Nat):(freeze H is).n=H.n:=by
 unfold freeze
 induction is generalizing H with
 | nil=>rfl
 | cons i is ih=>simp only [List.foldl_cons]; rw [ih,freeze1_n]
theorem freeze_at (H:Heap) (is:List Nat) (r:Nat):(freeze H is).at_ r=(if r∈is then (match H.at_ r with | .row k xs _=>.row k xs false | b=>b) else H.at_ r):=by
 unfold freeze
 induction is generalizing H with
 | nil=>simp
 | cons i is ih =>
   simp only [List.foldl_cons]
   rw [ih,freeze1_at]
   by_cases h1:r=i
   ·subst h1
    simp only [if_true,List.mem_cons,true_or]
    split
    ·cases H.at_ r <;> rfl
    ·rfl
   ·simp only [h1,if_false,List.mem_cons,false_or]
def G.frozen (g:G) (is:List Nat):G :=
 ⟨g.w,fun b=>g.Z b∨∃ r∈is,g.ι r=some b∧∃ k xs own,g.H.at_ r = .row k xs own,g.ι,freeze g.H is⟩
theorem freeze_own {H:Heap} {is:List Nat} {r:Nat} (h:isOwn ((freeze H is).at_ r)):isOwn (H.at_ r)∧(r∈is→∃ cs,H.at_ r = .box cs):=by
 rw [freeze_at] at h
 by_cases hr:r∈is
 ·rw [if_pos hr] at h
  cases hb:H.at_ r with
  | box cs=>exact ⟨trivial,fun _=>⟨cs,rfl⟩⟩
  | row k xs own=>rw [hb] at h; exact h.elim
  | dead=>rw [hb] at h; exact h.elim
 ·rw [if_neg hr] at h; exact ⟨h,fun q=>(hr q).elim⟩
theorem ext_frozen {g:G} (hW:WR g) (is:List Nat):Ext g (g.frozen is) where
 out:=⟨rfl,rfl,rfl⟩
 n:=Nat.le_of_eq (freeze_n _ _).symm
 sz:=Nat.le_refl _
 zin _ h:=.inl h
 znew b h:=by
  rcases h with h | ⟨r,_,hi,k,xs,own,hb⟩
  ·exact .inl h
  ·cases own with
   | true=>exact .inr (.inl ⟨r,by rw [hb]; trivial,hi⟩)
   | false =>
     obtain ⟨_,_,b',_,_,_,q1,_,_,q4,_⟩:=hW.row r k xs false hb
     rw [hi] at q1; simp at q1; subst q1
     exact .inl (q4 rfl)
 keep _ _ _:=rfl
 size _ _ h:=h
 own b h:=by
  obtain ⟨r,ho,hi⟩:=h
  exact .inl ⟨r,(freeze_own ho).1,hi⟩
 box r b h hi:=by
  refine ⟨?_,hi⟩
  show isBox ((freeze g.H is).at_ r)
  rw [freeze_at]
  cases hb:g.H.at_ r with
  | box cs=>split <;> trivial
  | row k xs own=>rw [hb] at h; exact h.elim
  | dead=>rw [hb] at h; exact h.elim
 row r n h:=by
  show ∃ n',rowLen ((freeze g.H is).at_ r)=some n'∧_
  cases hb:g.H.at_ r with
  | row k xs own =>
    rw [hb] at h
    refine ⟨n,?_,Nat.le_refl _,fun _=>⟨rfl,?_⟩⟩
    ·rw [freeze_at,hb,← h]; split <;> rfl
    ·show rowK ((freeze g.H is).at_ r)=_
     rw [freeze_at,hb]; split <;> rfl
  | box cs=>rw [hb] at h; simp [rowLen] at h
  | dead=>rw [hb] at h; simp [rowLen] at h
theorem freeze_box {H:Heap} {is:List Nat} {r:Nat} {cs:List PV} (h:(freeze H is).at_ r = .box cs):H.at_ r = .box cs:=by
 rw [freeze_at] at h
 split at h
 ·cases hb:H.at_ r with
  | box cs'=>rw [hb] at h; exact h
  | row k xs own=>rw [hb] at h; simp at h
  | dead=>rw [hb] at h; simp at h
 ·exact h
theorem freeze_row {H:Heap} {is:List Nat} {r k:Nat} {xs:List (List PV)} {own:Bool} (h:(freeze H is).at_ r = .row k xs own):∃ own',H.at_ r = .row k xs own'∧(own=true→own'=true∧r∉is)∧(own=false→own'=false∨r∈is):=by
 rw [freeze_at] at h
 split at h
 ·rename_i hr
  cases hb:H.at_ r with
  | box cs'=>rw [hb] at h; simp at h
  | row k' xs' own'=>rw [hb] at h; simp at h; obtain ⟨rfl,rfl,rfl⟩:=h; exact ⟨own',rfl,by simp,fun _=>.inr hr⟩
  | dead=>rw [hb] at h; simp at h
 ·rename_i hr; exact ⟨own,h,fun q=>⟨q,hr⟩,fun q=>.inl q⟩
theorem wr_frozen {g:G} (hW:WR g) (is:List Nat):WR (g.frozen is):=by
 have e:=ext_frozen hW is
 constructor
 ·intro r h
  show (freeze g.H is).at_ r = .dead
  have h':g.H.n≤r:=by rw [← freeze_n g.H is]; exact h
  rw [freeze_at,hW.dead r h']; split <;> rfl
 ·exact hW.lt
 ·intro r cs h
  obtain ⟨b,c,t,h1,h2,h3,h4⟩:=hW.box r cs (freeze_box h)
  exact ⟨b,c,t,h1,h2,h3,fun j p hp=>let ⟨cv,x,y⟩:=h4 j p hp; ⟨cv,x,y.mono hW e⟩⟩
 ·intro r k xs own h
  obtain ⟨own',hb,ht,hf⟩:=freeze_row h
  obtain ⟨a1,a2,b,c,t,fr,q1,q2,q3,q4,q5,q6⟩:=hW.row r k xs own' hb
  refine ⟨a1,a2,b,c,t,fr,q1,q2,fun ho=>q3 (ht ho).1,fun ho=>?_,q5,fun i x j p hx hp=>let ⟨cv,x,y,z⟩:=q6 i x j p hx hp; ⟨cv,x,y,z.mono hW e⟩⟩
  rcases hf ho with h | h
  ·exact .inl (q4 h)
  ·exact .inr ⟨r,h,q1,k,xs,own',hb⟩
 ·intro r r' b h1 h2 h3 h4
  exact hW.inj r r' b (freeze_own h1).1 (freeze_own h2).1 h3 h4
 ·intro r b ho hi hz
  obtain ⟨ho1,ho2⟩:=freeze_own ho
  rcases hz with hz | ⟨r',hr',hi',k,xs,own,hb⟩
  ·exact hW.z r b ho1 hi hz
  ·cases own with
   | true =>
     have:=hW.inj r r' b ho1 (by rw [hb]; trivial) hi hi'
     subst this
     obtain ⟨cs,hcs⟩:=ho2 hr'
     rw [hb] at hcs; simp at hcs
   | false =>
     obtain ⟨_,_,b',_,_,_,q1,_,_,q4,_⟩:=hW.row r' k xs false hb
     rw [hi'] at q1; simp at q1; subst q1
     exact hW.z r b ho1 hi (q4 rfl)
 ·intro b hz
  rcases hz with hz | ⟨r',hr',hi',_⟩
  ·exact hW.zlt b hz
  ·exact hW.lt r' b hi'
theorem sees_frozen (g:G) (is:List Nat):Sees g (g.frozen is) is :=
 ⟨fun b h=>⟨.inl h,rfl⟩,fun r hr b k xs own hi hb=>⟨.inr ⟨r,hr,hi,k,xs,own,hb⟩,rfl⟩⟩
theorem grow_world {g:G} (hW:WR g) (w':World) (Y:Nat→Prop) (hs:g.w.heap.size≤w'.heap.size) (hk:∀ b,b < g.w.heap.size→w'.heap[b]?=g.w.heap[b]?) (hY:∀ b,Y b→g.w.heap.size≤b∧b < w'.heap.size) (hout:Out g.w w') :
  WR ⟨w',fun b=>g.Z b∨Y b,g.ι,g.H⟩∧Ext g ⟨w',fun b=>g.Z b∨Y b,g.ι,g.H⟩:=by
 have e:Ext g ⟨w',fun b=>g.Z b∨Y b,g.ι,g.H⟩:=by
  refine ⟨Nat.le_refl _,hs,fun _ h=>.inl h,?_,fun b hb _=>hk b hb,?_,fun b h=>.inl h,fun _ _ h h'=>⟨h,h'⟩,fun r n h=>⟨n,h,Nat.le_refl _,fun _=>⟨rfl,rfl⟩⟩,hout⟩
  ·intro b h
   rcases h with h | h
   ·exact .inl h
   ·exact .inr (.inr (hY b h).1)
  ·rintro b n ⟨c,t,fr,h1,h2⟩
   exact ⟨c,t,fr,by rw [← h1]; exact hk b (lt_of_heap h1),h2⟩
 refine ⟨⟨hW.dead,fun r b h=>Nat.lt_of_lt_of_le (hW.lt r b h) hs,?_,?_,hW.inj,?_,?_⟩,e⟩
 ·intro r cs h
  obtain ⟨b,c,t,h1,h2,h3,h4⟩:=hW.box r cs h
  exact ⟨b,c,t,h1,by rw [← h2]; exact hk b (lt_of_heap h2),h3,fun j p hp=>let ⟨cv,x,y⟩:=h4 j p hp; ⟨cv,x,y.mono hW e⟩⟩
 ·intro r k xs own h
  obtain ⟨a1,a2,b,c,t,fr,q1,q2,q3,q4,q5,q6⟩:=hW.row r k xs own h
  exact ⟨a1,a2,b,c,t,fr,q1,by rw [← q2]; exact hk b (lt_of_heap q2),q3,fun ho=>.inl (q4 ho),q5,fun i x j p hx hp=>let ⟨cv,x,y,z⟩:=q6 i x j p hx hp; ⟨cv,x,y,z.mono hW e⟩⟩
 ·intro r b ho hi hz
  rcases hz with hz | hz
  ·exact hW.z r b ho hi hz
  ·have:=hW.lt r b hi; have:=(hY b hz).1; omega
 ·intro b hz
  rcases hz with hz | hz
  ·exact Nat.lt_of_lt_of_le (hW.zlt b hz) hs
  ·exact (hY b hz).2
end Go.Evl

namespace Go.Evl
open Go
variable {P:Program}
theorem fold_set (off:Nat):∀ (vs:List Value) (k:Nat) (cells:Array Value),off+k+vs.length≤cells.size →
  (vs.zipIdx k).foldl (fun cs (x:Value × Nat)=>cs.setIfInBounds (off+x.2) x.1) cells=(setL cells.toList (off+k) vs).toArray
 | [],k,cells,h=>by simp [setL]
 | v::vs,k,cells,h=>by
   simp only [List.zipIdx_cons,List.foldl_cons]
   rw [fold_set off vs (k+1) _ (by simp at h ⊢; omega)]
   congr 1
   unfold setL
   have:=list_seg_step cells.toList (off+k) v vs (by simp at h ⊢; omega)
   simp only [Array.toList_setIfInBounds,List.length_cons] at this ⊢
   rw [← this]
   simp [Nat.add_assoc]
section ops
variable {g:G} {a:Act} {σ:Tm}
theorem fill_sound (hT:TR g a.tmps σ) (place:Nat→Option (Nat × Nat)):∀ (parts:List (Nat × Operand)) (ps:List (Nat × Nat × O)) (zs:List Value) (z cs:List PV),
  cParts place parts=some ps→Cs g zs z→fillP σ z ps=some cs →
  ∃ vs:List Value,Instr.fill place zs.toArray (parts.map fun (i,x)=>(i,a.eval x))=some vs.toArray∧Cs g vs cs
 | [],ps,zs,z,cs,hp,hz,hf=>by
   simp [cParts] at hp; subst hp
   simp [fillP] at hf; subst hf
   exact ⟨zs,rfl,hz⟩
 | (i,x)::parts,ps,zs,z,cs,hp,hz,hf=>by
   simp only [cParts] at hp
   split at hp
   ·rename_i off s o rest h1 h2 h3
    simp at hp; subst hp
    simp only [fillP] at hf
    split at hf
    ·rename_i hcond
     obtain ⟨c1,c2,c3⟩:=hcond
     obtain ⟨hcs,_⟩:=(eval_sound hT h2).cells c3
     have hlen:(a.eval x).cells.size=s:=by rw [← c1,← hcs.1]; simp
     have hzl:zs.length=z.length:=hz.1
     have hset:=fold_set off (a.eval x).cells.toList 0 zs.toArray (by simp [hlen]; omega)
     obtain ⟨vs,e1,e2⟩:=fill_sound hT place parts rest _ _ cs h3 (hz.setL hcs off) hf
     refine ⟨vs,?_,e2⟩
     simp only [List.map_cons,Instr.fill,h1]
     rw [if_neg (by simp [hlen]; omega)]
     rw [← Array.foldl_toList,Array.toList_zipIdx,hset]
     simpa [setL] using e1
    ·simp at hf
   ·simp at hp
theorem places_ok (fs:Array Field) (w:World) (hall:∀ f∈fs,∃ s,szOf P f.type=some s) :
  ∃ places:Array (Nat × Nat),(fs.mapM fun (f:Field)=>(do pure (f.offset,← sizeOf f.type):Sem (Nat × Nat))).run P w = .ok places w∧∀ i:Nat,places[i]?=fPlace P fs i:=by
 have key:∀ (l:List Field),(∀ f∈l,∃ s,szOf P f.type=some s)→∃ ps:List (Nat × Nat),(l.mapM fun (f:Field)=>(do pure (f.offset,← sizeOf f.type):Sem (Nat × Nat))).run P w = .ok ps w ∧
   ∀ i:Nat,ps[i]?=match l[i]? with | some f=>(szOf P f.type).map fun s=>(f.offset,s) | none=>none:=by
  intro l
  induction l with
  | nil=>intro _; exact ⟨[],by simp,by simp⟩
  | cons f l ih =>
    intro hl
    obtain ⟨s,hs⟩:=hl f (by simp)
    obtain ⟨ps,h1,h2⟩:=ih fun f hf=>hl f (by simp [hf])
    refine ⟨(f.offset,s)::ps,?_,?_⟩
    ·rw [List.mapM_cons]; simp only [Sem.run_bind,run_sz hs,Result.andThen_ok,Sem.run_pure,h1]
    ·intro i
     cases i with
     | zero=>simp [hs]
     | succ i=>simpa using h2 i
 obtain ⟨ps,h1,h2⟩:=key fs.toList fun f hf=>hall f (by simpa using hf)
 refine ⟨ps.toArray,?_,fun i=>?_⟩
 ·rw [Array.mapM_eq_mapM_toList,Sem.run_map,h1]; rfl
 ·rw [List.getElem?_toArray,h2 i,Array.getElem?_toList]
  unfold fPlace
  cases fs[i]? <;> rfl
theorem part_sound {cs:List Value} {ps l:List PV} (hc:Cs g cs ps) {t:TypeId} {n off:Nat} {agg:Bool} (hs:szOf P t=some n) (ha:aggT P t=some agg) (hl:slice0 ps off n=some l) {p:PV} (ho:one agg l=some p) :
  ∃ v,(part t cs.toArray off).run P g.w = .ok v g.w∧VR g v p:=by
 obtain ⟨h1,rfl,h3⟩:=slice0_some hl
 have hsub:Cs g ((cs.drop off).take n) ((ps.drop off).take n):=(hc.drop off).take n
 rcases one_sound hsub ho with ⟨rfl,hv⟩ | ⟨rfl,v,hv1,hv⟩
 ·refine ⟨_,?_,hv⟩
  unfold part
  simp [run_agg ha,run_sz hs]
 ·refine ⟨v,?_,hv⟩
  have h0:cs[off]?=some v:=by
   have:((cs.drop off).take n)[0]?=some v:=by rw [hv1]; rfl
   rw [List.getElem?_take] at this
   split at this
   ·simpa using this
   ·simp at this
  unfold part
  simp [run_agg ha,h0]
theorem fld_sound (hT:TR g a.tmps σ) {t:TypeId} {f:Nat} {q:Field} {n:Nat} {agg:Bool} {x:Operand} {xo:O} (hq:fieldOf P t f=some q) (hs:szOf P q.type=some n) (ha:aggT P q.type=some agg) (hx:cO x=some xo)
  {cs l:List PV} (he:evO σ xo = .agg cs) (hl:slice0 cs q.offset n=some l) {p:PV} (ho:one agg l=some p):∃ v,(Instr.field t (a.eval x) f).run P g.w = .ok v g.w∧VR g v p:=by
 have hv:=eval_sound hT hx
 rw [he] at hv
 obtain ⟨vs,hve,hc⟩:=hv.inv_agg
 obtain ⟨v,h1,h2⟩:=part_sound (P:=P) hc hs ha hl ho
 refine ⟨v,?_,h2⟩
 unfold fieldOf at hq
 split at hq
 ·rename_i fs hu
  unfold Instr.field
  rw [hve]
  simp [run_underlying hu,hq,asAgg,h1]
 ·simp at hq
theorem ixa_sound (hT:TR g a.tmps σ) {t e:TypeId} {len n:Nat} {agg:Bool} {x i:Operand} {xo io:O} (hu:P.underlying t=some (.array len e)) (hs:szOf P e=some n) (ha:aggT P e=some agg) (hx:cO x=some xo) (hi:cO i=some io)
  {cs l:List PV} (he:evO σ xo = .agg cs) {m:Int} (hm:intOf (evO σ io)=some m) (h0:0≤m∧m < len) (hl:slice0 cs (m.toNat * n) n=some l) {p:PV} (ho:one agg l=some p) :
  ∃ v,(Instr.index t (a.eval x) (a.eval i)).run P g.w = .ok v g.w∧VR g v p:=by
 have hv:=eval_sound hT hx
 rw [he] at hv
 obtain ⟨vs,hve,hc⟩:=hv.inv_agg
 obtain ⟨v,h1,h2⟩:=part_sound (P:=P) hc hs ha hl ho
 obtain ⟨k,hk⟩:=intOf_sound (eval_sound hT hi) hm
 refine ⟨v,?_,h2⟩
 unfold Instr.index
 rw [hve,hk]
 simp [run_underlying hu,asIntOf,run_sz hs,h0.1,h0.2,h1]
theorem ixs_sound (hT:TR g a.tmps σ) {t:TypeId} {x i:Operand} {xo io:O} (hu:P.underlying t=some .string) (hx:cO x=some xo) (hi:cO i=some io)
  {s:ByteArray} (he:evO σ xo = .val (.string s)) {m:Int} (hm:intOf (evO σ io)=some m) (h0:0≤m) {b:UInt8} (hb:s.data[m.toNat]?=some b) :
  ∃ v,(Instr.index t (a.eval x) (a.eval i)).run P g.w = .ok v g.w∧VR g v (.val (.int .u8 b.toNat)):=by
 have hv:=eval_sound hT hx
 rw [he] at hv
 obtain ⟨k,hk⟩:=intOf_sound (eval_sound hT hi) hm
 refine ⟨_,?_,.val _⟩
 have hsb:s[m.toNat]?=some b:=by
  have h1:m.toNat < s.size:=(Array.getElem?_eq_some_iff.1 hb).1
  have h2:=(Array.getElem?_eq_some_iff.1 hb).2
  rw [getElem?_pos s m.toNat h1]
  exact congrArg some h2
 unfold Instr.index
 rw [hv.inv_val,hk]
 simp [run_underlying hu,asIntOf,h0,hsb]
theorem ext_sound (hT:TR g a.tmps σ) {x:Operand} {xo:O} (hx:cO x=some xo) {vs:List PV} (he:evO σ xo = .tup vs) {i:Nat} {p:PV} (hp:vs[i]?=some p):∃ v,(Instr.extract (a.eval x) i).run P g.w = .ok v g.w∧VR g v p:=by
 have hv:=eval_sound hT hx
 rw [he] at hv
 obtain ⟨cs,hve,hc⟩:=hv.inv_tup
 obtain ⟨v,h1,h2⟩:=hc.get hp
 refine ⟨v,?_,h2⟩
 rw [hve]
 simp [Instr.extract,h1]
theorem len_sound {v:Value} {p:PV} (hv:VR g v p) {b:Bool} {n:Nat} (h:lenP b p=some n) {t ty:TypeId} (hu:b=true∧P.underlying t=some .string∨b=false∧∃ e,P.underlying t=some (.slice e)) :
  (Builtin.len_ #[t] ty #[v]).run P g.w = .ok (.int .i64 n) g.w:=by
 unfold Builtin.len_
 rcases hu with ⟨rfl,hu⟩ | ⟨rfl,e,hu⟩
 ·unfold lenP at h
  split at h <;> simp_all
  rw [hv.inv_val]
  simp [run_underlying hu,goInt,h]
 ·unfold lenP at h
  split at h
  ·simp at h; subst h
   obtain ⟨ad,cap,rfl,_⟩:=hv.inv_im
   simp [run_underlying hu,goInt]
  ·simp at h; subst h
   cases hv with
   | sl ad _ _ _ _ _ cap hlc hg hh=>simp [run_underlying hu,goInt]
  ·simp_all
  ·simp at h
end ops
end Go.Evl

namespace Go.Evl
open Go
variable {P:Program}
theorem flat_len {α:Type} {k:Nat}:∀ {xs:List (List α)},(∀ x∈xs,x.length=k)→xs.flatten.length=xs.length * k
 | [],_=>by simp
 | x::xs,h=>by
   simp only [List.flatten_cons,List.length_append,List.length_cons]
   rw [flat_len fun y hy=>h y (by simp [hy]),h x (by simp),Nat.add_mul]; omega
theorem flat_get {α:Type} {k:Nat}:∀ {xs:List (List α)},(∀ x∈xs,x.length=k)→∀ {i j:Nat} {x:List α} {p:α},xs[i]?=some x→x[j]?=some p→xs.flatten[i * k+j]?=some p
 | [],_,i,j,x,p,hx,_=>by simp at hx
 | y::xs,h,i,j,x,p,hx,hp=>by
   have hy:=h y (by simp)
   simp only [List.flatten_cons]
   cases i with
   | zero =>
     simp at hx; subst hx
     have:j < y.length:=(List.getElem?_eq_some_iff.1 hp).1
     rw [List.getElem?_append_left (by omega)]
     simpa using hp
   | succ i =>
     rw [List.getElem?_append_right (by rw [Nat.add_mul]; omega)]
     have hx':xs[i]?=some x:=by simpa using hx
     have:=flat_get (k:=k) (fun z hz=>h z (List.mem_cons_of_mem _ hz)) hx' hp
     rw [← this,hy]
     congr 1
     rw [Nat.add_mul]; omega
theorem flat_get' {α:Type} {k:Nat} {xs:List (List α)} (h:∀ x∈xs,x.length=k) {q:Nat} {p:α} (hq:xs.flatten[q]?=some p):0 < k∧∃ x,xs[q / k]?=some x∧x[q % k]?=some p:=by
 have hlt:q < xs.flatten.length:=(List.getElem?_eq_some_iff.1 hq).1
 rw [flat_len h] at hlt
 have hk:0 < k:=by rcases Nat.eq_zero_or_pos k with rfl | hk; simp at hlt; exact hk
 have hi:q / k < xs.length:=by rw [Nat.div_lt_iff_lt_mul hk]; exact hlt
 refine ⟨hk,xs[q / k],List.getElem?_eq_getElem hi,?_⟩
 have hlen:=h _ (List.getElem_mem hi)
 have hj:q % k < (xs[q / k]).length:=by rw [hlen]; exact Nat.mod_lt _ hk
 have:=flat_get h (List.getElem?_eq_getElem hi) (List.getElem?_eq_getElem hj)
 rw [Nat.mul_comm,Nat.div_add_mod] at this
 rw [this] at hq
 simp at hq
 rw [← hq]; exact List.getElem?_eq_getElem hj
theorem flat_take {α:Type} {k:Nat}:∀ {xs:List (List α)},(∀ x∈xs,x.length=k)→∀ n,(xs.take n).flatten=xs.flatten.take (n * k)
 | [],_,n=>by simp
 | x::xs,h,0=>by simp
 | x::xs,h,n+1=>by
   simp only [List.take_succ_cons,List.flatten_cons]
   have hx:=h x (by simp)
   rw [flat_take (fun y hy=>h y (List.mem_cons_of_mem _ hy)) n,List.take_append,hx,Nat.add_mul,Nat.one_mul,Nat.add_sub_cancel,List.take_of_length_le (l:=x) (by omega)]
theorem flat_drop {α:Type} {k:Nat}:∀ {xs:List (List α)},(∀ x∈xs,x.length=k)→∀ n,(xs.drop n).flatten=xs.flatten.drop (n * k)
 | [],_,n=>by simp
 | x::xs,h,0=>by simp
 | x::xs,h,n+1=>by
   simp only [List.drop_succ_cons,List.flatten_cons]
   have hx:=h x (by simp)
   rw [flat_drop (fun y hy=>h y (List.mem_cons_of_mem _ hy)) n,List.drop_append,hx,Nat.add_mul,Nat.one_mul,Nat.add_sub_cancel,List.drop_eq_nil_of_le (as:=x) (by omega),List.nil_append]
theorem flat_setL {α:Type} {k:Nat} {xs ys:List (List α)} (hx:∀ x∈xs,x.length=k) (hy:∀ y∈ys,y.length=k) (o:Nat):(setL xs o ys).flatten=setL xs.flatten (o * k) ys.flatten:=by
 unfold setL
 simp only [List.flatten_append]
 rw [flat_take hx,flat_drop hx,flat_len hy,Nat.add_mul]
theorem setL_mem {α:Type} {l vs:List α} {o:Nat} {x:α} (h:x∈setL l o vs):x∈l∨x∈vs:=by
 unfold setL at h
 simp only [List.mem_append] at h
 rcases h with (h | h) | h
 ·exact .inl (List.mem_of_mem_take h)
 ·exact .inr h
 ·exact .inl (List.mem_of_mem_drop h)
structure RR (g:G) (k:Nat) (vs:List Value) (xs:List (List PV)):Prop where
 cs:Cs g vs xs.flatten
 len:∀ x∈xs,x.length=k
 one:∀ v∈vs,v.oneCell'=true
theorem RR.size {g:G} {k:Nat} {vs:List Value} {xs:List (List PV)} (h:RR g k vs xs):vs.length=xs.length * k:=by rw [h.cs.1,flat_len h.len]
theorem RR.mono {g g':G} (hW:WR g) (e:Ext g g') {k:Nat} {vs:List Value} {xs:List (List PV)} (h:RR g k vs xs):RR g' k vs xs:=⟨h.cs.mono hW e,h.len,h.one⟩
theorem RR.append {g:G} {k:Nat} {vs ws:List Value} {xs ys:List (List PV)} (h:RR g k vs xs) (h':RR g k ws ys):RR g k (vs++ws) (xs++ys) :=
 ⟨by rw [List.flatten_append]; exact h.cs.append h'.cs,fun x hx=>by rcases List.mem_append.1 hx with q | q; exact h.len x q; exact h'.len x q,fun x hx=>by rcases List.mem_append.1 hx with q | q; exact h.one x q; exact h'.one x q⟩
theorem RR.take {g:G} {k:Nat} {vs:List Value} {xs:List (List PV)} (h:RR g k vs xs) (n:Nat):RR g k (vs.take (n * k)) (xs.take n) :=
 ⟨by rw [flat_take h.len]; exact h.cs.take _,fun x hx=>h.len x (List.mem_of_mem_take hx),fun x hx=>h.one x (List.mem_of_mem_take hx)⟩
theorem RR.drop {g:G} {k:Nat} {vs:List Value} {xs:List (List PV)} (h:RR g k vs xs) (n:Nat):RR g k (vs.drop (n * k)) (xs.drop n) :=
 ⟨by rw [flat_drop h.len]; exact h.cs.drop _,fun x hx=>h.len x (List.mem_of_mem_drop hx),fun x hx=>h.one x (List.mem_of_mem_drop hx)⟩
theorem RR.setL {g:G} {k:Nat} {vs ws:List Value} {xs ys:List (List PV)} (h:RR g k vs xs) (h':RR g k ws ys) (o:Nat):RR g k (setL vs (o * k) ws) (Evl.setL xs o ys):=by
 refine ⟨?_,fun x hx=>by rcases setL_mem hx with q | q; exact h.len x q; exact h'.len x q,fun x hx=>by rcases setL_mem hx with q | q; exact h.one x q; exact h'.one x q⟩
 rw [flat_setL h.len h'.len]
 exact h.cs.setL h'.cs _
theorem RR.nil (g:G) (k:Nat):RR g k [] []:=⟨Cs.nil g,by simp,by simp⟩
theorem row_rr {g:G} {k:Nat} {xs:List (List PV)} {c:Array Value} (hl:∀ x∈xs,x.length=k) (hs:xs.length * k≤c.size)
  (h:∀ (i:Nat) (x:List PV) (j:Nat) (p:PV),xs[i]?=some x→x[j]?=some p→∃ cv,c[i * k+j]?=some cv∧cv.oneCell'=true∧VR g cv p):RR g k (c.toList.take (xs.length * k)) xs:=by
 have key:∀ (q:Nat) (p:PV),xs.flatten[q]?=some p→∃ cv,c[q]?=some cv∧cv.oneCell'=true∧VR g cv p:=by
  intro q p hq
  obtain ⟨hk,x,h1,h2⟩:=flat_get' hl hq
  have:=h _ x _ p h1 h2
  rwa [Nat.mul_comm,Nat.div_add_mod] at this
 have hlen:(c.toList.take (xs.length * k)).length=xs.flatten.length:=by rw [flat_len hl]; simp; omega
 refine ⟨cs_of_get hlen fun q p hq=>?_,hl,?_⟩
 ·obtain ⟨cv,h1,_,h3⟩:=key q p hq
  refine ⟨cv,?_,h3⟩
  have hq':q < xs.length * k:=by rw [← flat_len hl]; exact (List.getElem?_eq_some_iff.1 hq).1
  rw [List.getElem?_take,if_pos hq']; simpa using h1
 ·intro v hv
  obtain ⟨q,hq⟩:=List.mem_iff_getElem?.1 hv
  have hq':q < xs.flatten.length:=by rw [← hlen]; exact (List.getElem?_eq_some_iff.1 hq).1
  obtain ⟨cv,h1,h2,_⟩:=key q _ (List.getElem?_eq_getElem hq')
  rw [List.getElem?_take] at hq
  split at hq
  ·have:c[q]?=some v:=by simpa using hq
   rw [h1] at this; simp at this; subst this; exact h2
  ·simp at hq
theorem rr_fits {g:G} {k:Nat} {xs:List (List PV)} {c:Array Value} (hk:0 < k) {vs:List Value} (h:RR g k vs xs) (hp:vs=c.toList.take (xs.length * k)) (hs:xs.length * k≤c.size):Fits g c (.row k xs true):=by
 refine ⟨rfl,hk,h.len,hs,fun i x j p hx hj=>?_⟩
 have hf:=flat_get h.len hx hj
 obtain ⟨cv,h1,h2⟩:=h.cs.get hf
 refine ⟨cv,?_,h.one cv (List.mem_of_getElem? h1),h2⟩
 rw [hp,List.getElem?_take] at h1
 split at h1
 ·simpa using h1
 ·simp at h1
section ops
variable {g:G} {a:Act} {σ:Tm}
theorem elems_sound (hW:WR g) {v:Value} {p:PV} (hv:VR g v p) {k:Nat} {ys:List (List PV)} {is:List Nat} (h:elems g.H k p=some (ys,is)) :
  ∃ news:List Value,RR g k news ys∧(Builtin.lenOf v).run P g.w = .ok ys.length g.w∧∀ n,n≤ys.length→(Builtin.firstCells k n v).run P g.w = .ok (news.take (n * k)).toArray g.w:=by
 unfold elems at h
 split at h
 ·rename_i xs full
  split at h
  ·rename_i hall
   simp at h; obtain ⟨rfl,rfl⟩:=h
   obtain ⟨ad,cap,rfl,_,hcap,hat⟩:=hv.inv_im
   cases hxs:xs with
   | nil =>
     refine ⟨[],RR.nil g k,rfl,fun n hn=>?_⟩
     simp at hn; subst hn
     cases ad with
     | none=>simp [Builtin.firstCells]
     | some ad=>simp [Builtin.firstCells,loadCells,loadCellsFrom]
   | cons x0 xs0 =>
     rw [← hxs]
     obtain ⟨k',b,off,c,t,fr,cv,rfl,hZ,hb,_,hk,hno,hc,hh⟩:=hat (by rw [hxs]; simp)
     have hkk:k=k':=allLen_eq hall (by rw [hxs]; simp) hk
     subst hkk
     have key:∀ (q:Nat) (p:PV),xs.flatten[q]?=some p→∃ u,g.w.cell? ((⟨b,off,none⟩:Addr).add q)=some u∧(VR g u p∧u.oneCell'=true):=by
      intro q p hq
      obtain ⟨hk0,x,h1,h2⟩:=flat_get' hk hq
      have h3:=hc _ x _ p h1 h2
      rw [Nat.add_assoc,Nat.mul_comm,Nat.div_add_mod] at h3
      exact ⟨_,by rw [add_none,cell_of hb]; exact h3.1,hh _ x _ p h1 h2,h3.2⟩
     obtain ⟨news,n1,n2⟩:=cells_of (g:=g) (ps:=xs.flatten) (ad:=fun q=>g.w.cell? ((⟨b,off,none⟩:Addr).add q)) (fun q p hq=>let ⟨u,z1,z2⟩:=key q p hq; ⟨u,z1,z2.1⟩)
     refine ⟨news,⟨n1,hk,fun u hu=>?_⟩,rfl,fun n hn=>?_⟩
     ·obtain ⟨q,hq⟩:=List.mem_iff_getElem?.1 hu
      have hq':q < xs.flatten.length:=by rw [← n1.1]; exact (List.getElem?_eq_some_iff.1 hq).1
      obtain ⟨u',z1,z2⟩:=key q _ (List.getElem?_eq_getElem hq')
      rw [n2 q u hq] at z1; simp at z1; subst z1; exact z2.2
     ·have hl:(news.take (n * k)).length=n * k:=by
       rw [List.length_take,n1.1,flat_len hk]
       exact Nat.min_eq_left (Nat.mul_le_mul_right k hn)
      exact run_firstCells_some g.w k n _ _ _ (news.take (n * k)) hl fun j u hj=>n2 j u (by rw [List.getElem?_take] at hj; split at hj; exact hj; simp at hj)
  ·simp at h
 ·rename_i r k' gen off len
  split at h
  ·rename_i k'' xs own hb
   split at h
   ·rename_i hcond
    obtain ⟨rfl,rfl,rfl,hle⟩:=hcond
    simp at h; obtain ⟨rfl,rfl⟩:=h
    cases hv with
    | sl ad _ _ _ _ _ cap hlc hg hh =>
      obtain ⟨a1,a2,b,c,t,fr,q1,q2,q3,q4,q5,q6⟩:=hW.row r k xs own hb
      have hval:Valid g r k xs.length b:=⟨q1,by rw [hb]; rfl,by rw [hb]; rfl⟩
      obtain ⟨e1,_⟩:=hh b hval
      subst e1
      have hrr:=row_rr a2 q5 q6
      have hsub:=(hrr.drop off).take len
      have hlen:((xs.drop off).take len).length=len:=by simp; omega
      refine ⟨_,hsub,by rw [hlen]; rfl,fun n hn=>?_⟩
      rw [hlen] at hn
      have hmul:n * k≤len * k:=Nat.mul_le_mul_right k hn
      have hmul2:(off+len) * k≤xs.length * k:=Nat.mul_le_mul_right k hle
      rw [Nat.add_mul] at hmul2
      have hl:(((((c.toList.take (xs.length * k)).drop (off * k)).take (len * k)).take (n * k))).length=n * k:=by simp; omega
      refine run_firstCells_some g.w k n _ _ _ _ hl fun j u hj=>?_
      rw [List.getElem?_take] at hj
      split at hj
      ·rw [List.getElem?_take] at hj
       split at hj
       ·rw [List.getElem?_drop,List.getElem?_take] at hj
        split at hj
        ·rw [add_none,cell_of q2]; simpa using hj
        ·simp at hj
       ·simp at hj
      ·simp at hj
   ·simp at h
  ·simp at h
 ·rename_i s
  split at h
  ·rename_i hk; subst hk
   simp at h; obtain ⟨rfl,rfl⟩:=h
   rw [hv.inv_val]
   have hbl:(bytesC s).length=s.size:=by rw [bytesC,List.length_map,Array.length_toList]; rfl
   have hcs:Cs g (s.data.toList.map fun b=>Value.int .u8 b.toNat) (bytesC s).flatten:=by
    unfold bytesC
    generalize s.data.toList=l
    induction l with
    | nil=>exact Cs.nil g
    | cons b l ih=>simpa using Cs.cons (VR.val _) ih
   refine ⟨s.data.toList.map fun b=>.int .u8 b.toNat,⟨hcs,by simp [bytesC],by simp [Value.oneCell']⟩,by rw [hbl]; rfl,fun n hn=>?_⟩
   rw [hbl] at hn
   simp only [Builtin.firstCells,Sem.run_pure]
   congr 1
   apply Array.ext'
   simp [ByteArray.data_extract,List.extract_eq_take_drop]
  ·simp at h
 ·rename_i ad c
  simp at h; obtain ⟨rfl,rfl⟩:=h
  rw [hv.inv_val]
  refine ⟨[],RR.nil g k,rfl,fun n hn=>?_⟩
  simp at hn; subst hn
  cases ad with
  | none=>simp [Builtin.firstCells]
  | some ad=>simp [Builtin.firstCells,loadCells,loadCellsFrom]
 ·simp at h
end ops
end Go.Evl

namespace Go.Evl
open Go
variable {P:Program}
theorem forced_cap (need old:Nat) (e:TypeId):(Question.appendCap need old e).forced=false:=rfl
theorem zeroCells_eq (z:Array Value) (n:Nat):(Builtin.zeroCells z n).toList=(List.replicate n z.toList).flatten:=by
 rcases Nat.eq_zero_or_pos z.size with h0 | hp
 ·have:z = #[]:=Array.eq_empty_of_size_eq_zero h0
  subst this
  simp [Builtin.zeroCells]
 ·induction n with
  | zero=>simp [Builtin.zeroCells]
  | succ n ih =>
    rw [List.replicate_succ',List.flatten_append,← ih]
    simp only [Builtin.zeroCells,Array.toList_map,Array.toList_range]
    rw [Nat.add_mul,Nat.one_mul,List.range_add,List.map_append,List.map_map]
    congr 1
    simp only [List.flatten_cons,List.flatten_nil,List.append_nil]
    apply List.ext_getElem?
    intro j
    rw [List.getElem?_map]
    by_cases hj:j < z.size
    ·rw [List.getElem?_range hj]
     simp [hj,Nat.mod_eq_of_lt]
    ·rw [List.getElem?_eq_none (by simpa using hj),List.getElem?_eq_none (by simpa using hj)]; rfl
section ops
variable {g:G} {a:Act} {σ:Tm}
def intLike:TypeDesc→Bool
 | .int _=>true
 | _=>false
set_option maxHeartbeats 4000000 in
theorem run_app_room {argTypes:Array TypeId} {ty t tx e:TypeId} {k:Nat} {d:TypeDesc} (h0:argTypes[0]?=some t) (h1:argTypes[1]?=some tx) (hu:P.underlying t=some (.slice e)) (hs:szOf P e=some k)
  (hux:P.underlying tx=some d) (hd:∀ q,d≠.int q) {base:Option Addr} {sLen sCap n:Nat} {x:Value} {news:List Value}
  (hlen:(Builtin.lenOf x).run P g.w = .ok n g.w) (hfirst:(Builtin.firstCells k n x).run P g.w = .ok news.toArray g.w) (hroom:sLen+n≤sCap) {w':World}
  (hst:∀ ad,base=some ad→(storeCells (ad.add (sLen * k)) news).run P g.w = .ok () w') (hnil:base=none→w'=g.w) :
  (Builtin.append_ argTypes ty #[.slice base sLen sCap,x]).run P g.w = .ok (.slice base (sLen+n) sCap) w':=by
 cases base with
 | none=>have:=hnil rfl; subst this; simp [Builtin.append_,h0,h1,run_underlying hu,run_sz hs,run_underlying hux,hlen,hfirst,hroom]
 | some ad=>simp [Builtin.append_,h0,h1,run_underlying hu,run_sz hs,run_underlying hux,hlen,hfirst,hroom,hst ad rfl]
set_option maxHeartbeats 4000000 in
theorem run_app_grow {argTypes:Array TypeId} {ty t tx e:TypeId} {k:Nat} {d:TypeDesc} {i:TypeInfo} {z:Value} (h0:argTypes[0]?=some t) (h1:argTypes[1]?=some tx) (hu:P.underlying t=some (.slice e)) (hs:szOf P e=some k)
  (hi:P.info? e=some i) (hz:i.zero=some z) (hux:P.underlying tx=some d) (hd:∀ q,d≠.int q) {base:Option Addr} {sLen sCap n:Nat} {x:Value} {olds news:List Value}
  (hlen:(Builtin.lenOf x).run P g.w = .ok n g.w) (hfirst:(Builtin.firstCells k n x).run P g.w.drew = .ok news.toArray g.w.drew) (hold:(Builtin.firstCells k sLen (.slice base sLen sCap)).run P g.w.drew = .ok olds.toArray g.w.drew)
  (hroom:¬ sLen+n≤sCap) (hfit:Builtin.nextslicecap (sLen+n) sCap * i.bytes≤281474976710656) (hmax:sLen+n≤9223372036854775807) :
  (Builtin.append_ argTypes ty #[.slice base sLen sCap,x]).run P g.w = .ok (.slice (some ⟨g.w.heap.size,0,none⟩) (sLen+n) (grownCap g.w (sLen+n) sCap e))
   (g.w.drew.alloc (.cells (olds.toArray++news.toArray++Builtin.zeroCells z.cells (grownCap g.w (sLen+n) sCap e - (sLen+n))) e)):=by
 have hti:∀ w,(typeInfo e).run P w = .ok i w:=fun w=>by simp [typeInfo,hi]
 have hzv:∀ w,(zeroValue e).run P w = .ok z w:=fun w=>by simp [zeroValue,typeInfo,hi,hz]
 have h63':¬ (9223372036854775807 < ((sLen:Int)+(n:Int))):=by omega
 have h48':¬ (281474976710656 < Builtin.nextslicecap (sLen+n) sCap * i.bytes):=by omega
 simp [Builtin.append_,h0,h1,run_underlying hu,run_sz hs,run_underlying hux,hlen,hfirst,hold,hroom,hti,hzv,h48',Question.forced,h63',newRow,grownCap]
 congr 2
 apply Array.ext'
 simp [List.append_assoc]
theorem regrow (hW:WR g) {r b k:Nat} {xs xs':List (List PV)} {c c':Array Value} {t t':TypeId} (hb:g.H.at_ r = .row k xs true) (hi:g.ι r=some b) (hh:g.w.heap[b]?=some (.cells c t (0,0)))
  {w':World} {b':Nat} (hh':w'.heap[b']?=some (.cells c' t' (0,0))) (hcase:(b'=b∧c'.size=c.size)∨b'=g.w.heap.size) (hsz:g.w.heap.size≤w'.heap.size)
  (hkeep:∀ x o,x≠b'→g.w.heap[x]?=some o→w'.heap[x]?=some o) (hlt:xs.length < xs'.length) (hf:Fits g c' (.row k xs' true)) (hout:Out g.w w') :
  WR ⟨w',g.Z,fun i=>if i=r then some b' else g.ι i,g.H.put r (.row k xs' true)⟩∧Ext g ⟨w',g.Z,fun i=>if i=r then some b' else g.ι i,g.H.put r (.row k xs' true)⟩:=by
 have hown:isOwn (g.H.at_ r):=by rw [hb]; trivial
 have hOwn:Own g b:=⟨r,hown,hi⟩
 have hblt:=hW.lt r b hi
 have e:Ext g ⟨w',g.Z,fun i=>if i=r then some b' else g.ι i,g.H.put r (.row k xs' true)⟩:=by
  refine ⟨Nat.le_refl _,hsz,fun _ h=>h,fun _ h=>.inl h,?_,?_,?_,?_,?_,hout⟩
  ·intro x hx hno
   have hne:x≠b':=by
    rintro rfl
    rcases hcase with ⟨rfl,_⟩ | h
    ·exact hno hOwn
    ·omega
   have:g.w.heap[x]?=some g.w.heap[x]:=Array.getElem?_eq_getElem hx
   rw [this]; exact hkeep x _ hne this
  ·rintro x n ⟨c0,t0,fr0,h1,h2⟩
   by_cases hne:x=b'
   ·subst hne
    rcases hcase with ⟨rfl,h⟩ | h
    ·rw [hh] at h1; simp at h1; obtain ⟨rfl,rfl,rfl⟩:=h1
     exact ⟨c',t',(0,0),hh',by rw [h,h2]⟩
    ·have:=lt_of_heap h1; omega
   ·exact ⟨c0,t0,fr0,hkeep x _ hne h1,h2⟩
  ·rintro x ⟨i,ho,hx⟩
   by_cases hir:i=r
   ·subst hir
    simp at hx; subst hx
    rcases hcase with ⟨rfl,_⟩ | h
    ·exact .inl hOwn
    ·exact .inr (by omega)
   ·simp only [hir,if_false] at hx
    rw [Heap.put_other _ _ hir] at ho
    exact .inl ⟨i,ho,hx⟩
  ·intro i x hbx hx
   have hir:i≠r:=by rintro rfl; rw [hb] at hbx; exact hbx
   rw [Heap.put_other _ _ hir]
   exact ⟨hbx,by simp [hir,hx]⟩
  ·intro i n hn
   by_cases hir:i=r
   ·subst hir
    rw [hb] at hn; simp [rowLen] at hn; subst hn
    rw [Heap.put_same]
    exact ⟨xs'.length,rfl,by omega,fun q=>by omega⟩
   ·rw [Heap.put_other _ _ hir]
    exact ⟨n,hn,Nat.le_refl _,fun _=>⟨by simp [hir],rfl⟩⟩
 refine ⟨wr_one hW e (r:=r) (b:=b') rfl (hW.lt_n (isOwn_ne hown)) rfl rfl (by simp) (fun i hir=>by simp [hir]) hh' hf hkeep ?_ ?_ ?_,e⟩
 ·intro i hir ho hx
  rcases hcase with ⟨rfl,_⟩ | h
  ·exact hir (hW.inj i r b' ho hown hx hi)
  ·have:=hW.lt i b' hx; omega
 ·intro hz
  rcases hcase with ⟨rfl,_⟩ | h
  ·exact hW.z r b' hown hi hz
  ·have:=hW.zlt b' hz; omega
 ·intro i k' ys hir ho hx
  rcases hcase with ⟨rfl,_⟩ | h
  ·obtain ⟨_,_,b2,_,_,_,q1,_,_,q4,_⟩:=hW.row i k' ys false ho
   rw [hx] at q1; simp at q1; subst q1
   exact hW.z r b' hown hi (q4 rfl)
  ·have:=hW.lt i b' hx; omega
theorem size_grown (z:Array Value) {k:Nat} (hz:z.size=k) (olds news:List Value) {m n cap:Nat} (h1:olds.length=m * k) (h2:news.length=n * k) (hc:m+n≤cap) :
  (olds.toArray++news.toArray++Builtin.zeroCells z (cap - (m+n))).size=cap * k:=by
 simp only [Array.size_append,List.size_toArray,h1,h2,size_zeroCells,hz]
 rw [← Nat.add_mul,← Nat.add_mul]; congr 1; omega
theorem take_grown (z:Array Value) {k:Nat} (olds news:List Value) {m n q:Nat} (h1:olds.length=m * k) (h2:news.length=n * k) :
  (olds.toArray++news.toArray++Builtin.zeroCells z q).toList.take ((m+n) * k)=olds++news:=by
 rw [Array.toList_append,Array.toList_append]
 simp only []
 rw [List.take_left' (by simp [h1,h2,Nat.add_mul])]
theorem app_sound (hW:WR g) {slot:Nat} (hd:g.H.at_ slot = .dead) (hs0:slot < g.H.n) {argTypes:Array TypeId} {ty t tx e:TypeId} {k:Nat} {d:TypeDesc} {z:List PV} (h0:argTypes[0]?=some t) (h1:argTypes[1]?=some tx)
  (hu:P.underlying t=some (.slice e)) (hs:szOf P e=some k) (hz:zeroC P e=some z) (hzl:z.length=k) (hk:0 < k) (hsm:small P e=true) (hux:P.underlying tx=some d) (hdn:∀ q,d≠.int q)
  {v x:Value} {px py:PV} (hv:VR g v px) (hx:VR g x py) {ys:List (List PV)} {is:List Nat} (hy:elems g.H k py=some (ys,is)) {r:PV} {H':Heap} {wr rd:List Nat} (hr:appendP g.H slot k px ys=some (r,H',wr,rd)) :
  ∃ u g',(Builtin.append_ argTypes ty #[v,x]).run P g.w = .ok u g'.w∧g'.H=H'∧WR g'∧Ext g g'∧VR g' u r:=by
 obtain ⟨news,n1,n2,n3⟩:=elems_sound (P:=P) hW hx hy
 have n3':=n3 ys.length (Nat.le_refl _)
 have hnl:=n1.size
 rw [List.take_of_length_le (by omega)] at n3'
 obtain ⟨i,hi,hib⟩:∃ i,P.info? e=some i∧i.bytes≤1024:=by
  unfold small at hsm
  split at hsm
  ·rename_i i hi; exact ⟨i,hi,by simpa using hsm⟩
  ·simp at hsm
 obtain ⟨zv,zp,hzr,hzo,hzc⟩:=run_zero hz g.w
 have hiz:i.zero=some zv:=by
  have : (zeroValue e).run P g.w = match i.zero with | some v => .ok v g.w | none => .halt (.unsupported (.resourceLimit "a value of more than 2^22 cells")) g.w := by
   simp only [zeroValue,typeInfo,Sem.run_bind,run_program,Result.andThen_ok,hi,Sem.run_pure]
   cases i.zero <;> rfl
  rw [this] at hzr
  cases hq:i.zero with
  | none=>rw [hq] at hzr; simp at hzr
  | some q=>rw [hq] at hzr; simp at hzr; rw [hzr]
 have hzs:zv.cells.size=k:=by rw [← hzl,← hzc,← (zero_cells (g:=g) hzo).1.1]; simp
 have hfits:∀ need cap:Nat,need≤most→cap < need→Builtin.nextslicecap need cap * i.bytes≤281474976710656:=by
  intro need cap hn hc
  refine growslice_fits hc ?_
  have:need * i.bytes≤2 ^ 36 * 1024:=Nat.mul_le_mul hn hib
  omega
 have hWd:=wr_drew hW
 have ed:=ext_drew g
 obtain ⟨news',m1,m2,m3⟩:=elems_sound (P:=P) (g:=g.drew) hWd (hx.mono hW ed) hy
 have m3':=m3 ys.length (Nat.le_refl _)
 have hml:=m1.size
 rw [List.take_of_length_le (by omega)] at m3'
 unfold appendP at hr
 split at hr
 ·rename_i hzero
  have hnews:news=[]:=List.eq_nil_of_length_eq_zero (by rw [hnl,hzero]; simp)
  subst hnews
  split at hr
  ·rename_i xs full
   simp at hr; obtain ⟨rfl,rfl,_,_⟩:=hr
   obtain ⟨ad,cap,rfl,hf,hc,hat⟩:=hv.inv_im
   refine ⟨.slice ad xs.length cap,g,?_,rfl,hW,Ext.refl g,hv⟩
   have:=run_app_room (P:=P) (ty:=ty) h0 h1 hu hs hux hdn (base:=ad) (sLen:=xs.length) (sCap:=cap) n2 n3' (by omega) (w':=g.w) (fun _ _=>rfl) (fun _=>rfl)
   rw [hzero] at this; simpa using this
  ·rename_i r' k' gen off len
   simp at hr; obtain ⟨rfl,rfl,_,_⟩:=hr
   cases hv with
   | sl ad _ _ _ _ _ cap hlc hg hh =>
     refine ⟨.slice (some ad) len cap,g,?_,rfl,hW,Ext.refl g,.sl _ _ _ _ _ _ _ hlc hg hh⟩
     have:=run_app_room (P:=P) (ty:=ty) h0 h1 hu hs hux hdn (base:=some ad) (sLen:=len) (sCap:=cap) n2 n3' (by omega) (w':=g.w) (fun _ _=>rfl) (fun _=>rfl)
     rw [hzero] at this; simpa using this
  ·simp at hr
 ·rename_i hpos
  split at hr
  ·rename_i xs
   split at hr
   ·rename_i hcond
    obtain ⟨hall,hmost⟩:=hcond
    simp at hr; obtain ⟨rfl,rfl,_,_⟩:=hr
    obtain ⟨olds,o1,o2,o3⟩:=elems_sound (P:=P) (g:=g.drew) (k:=k) hWd (hv.mono hW ed) (show elems g.drew.H k (.im xs true)=some (xs,[]) by simp [elems,hall])
    have hol:=o1.size
    have o3':=o3 xs.length (Nat.le_refl _)
    rw [List.take_of_length_le (by omega)] at o3'
    obtain ⟨ad,cap,rfl,hf,hc,hat⟩:=hv.inv_im
    have hcap:=hf rfl; subst hcap
    have hge:=grownCap_ge g.w (xs.length+ys.length) xs.length e
    have hsize:=size_grown zv.cells hzs olds news' hol hml hge
    have hrr:RR g.drew k (olds++news') (xs++ys):=o1.append m1
    have hfit:Fits g.drew (olds.toArray++news'.toArray++Builtin.zeroCells zv.cells (grownCap g.w (xs.length+ys.length) xs.length e - (xs.length+ys.length))) (.row k (xs++ys) true):=by
     refine rr_fits hk hrr ?_ ?_
     ·rw [List.length_append,take_grown _ _ _ hol hml]
     ·rw [hsize,List.length_append]; exact Nat.mul_le_mul_right k hge
    refine ⟨_,g.drew.allocd slot _ e (.row k (xs++ys) true),run_app_grow (P:=P) (ty:=ty) h0 h1 hu hs hi hiz hux hdn n2 m3' o3' (by omega) (hfits _ _ hmost (by omega)) (by have:most=68719476736:=rfl; omega),rfl,
     wr_alloc hWd hd hs0 hfit,ed.trans (ext_alloc (g:=g.drew) hd _ _ _),?_⟩
    refine .sl _ _ _ _ _ _ _ hge ⟨(xs++ys).length,?_,by simp⟩ fun b hb=>?_
    ·show rowLen ((g.H.put slot _).at_ slot)=_
     rw [Heap.put_same]; rfl
    ·have hb1:(g.drew.allocd slot _ e (.row k (xs++ys) true)).ι slot=some b:=hb.1
     simp [G.allocd] at hb1
     subst hb1
     refine ⟨by simp [G.drew],_,_,_,heap_alloc_new _ _,?_⟩
     rw [hsize]; simp
   ·simp at hr
  ·rename_i r' k' gen off len
   split at hr
   ·rename_i k'' xs hb
    split at hr
    ·rename_i hcond
     obtain ⟨rfl,rfl,rfl,hle⟩:=hcond
     cases hv with
     | sl ad _ _ _ _ _ cap hlc hg hh =>
       obtain ⟨a1,a2,b,c,t',fr,q1,q2,q3,q4,q5,q6⟩:=hW.row r' k xs true hb
       have hfr:=q3 rfl; subst hfr
       have hval:Valid g r' k xs.length b:=⟨q1,by rw [hb]; rfl,by rw [hb]; rfl⟩
       obtain ⟨e1,c0,t0,fr0,e2,e3⟩:=hh b hval
       rw [q2] at e2; simp at e2
       obtain ⟨rfl,rfl,rfl⟩:=e2
       subst e1
       have hown:isOwn (g.H.at_ r'):=by rw [hb]; trivial
       have hcapx:xs.length≤off+cap:=by rw [e3] at q5; exact Nat.le_of_mul_le_mul_right q5 a1
       have hrr:=row_rr a2 q5 q6
       split at hr
       ·rename_i hin
        simp at hr; obtain ⟨rfl,rfl,_,_⟩:=hr
        have hroom:len+ys.length≤cap:=by omega
        have hfitc:off * k+len * k+news.length≤c.size:=by
         rw [hnl,← Nat.add_mul,← Nat.add_mul,e3]; exact Nat.mul_le_mul_right k (by omega)
        have hst:=run_storeAt (P:=P) (g:=g) q2 hfitc n1.one
        have hsz:(setL c.toList (off * k+len * k) news).toArray.size=c.size:=by simp; rw [setL_length _ _ _ (by simpa using hfitc)]; simp
        have hxl:(setL xs (off+len) ys).length=xs.length:=setL_length _ _ _ hin
        have hfit:Fits g (setL c.toList (off * k+len * k) news).toArray (.row k (setL xs (off+len) ys) true):=by
         have hr2:=hrr.setL n1 (off+len)
         refine rr_fits hk hr2 ?_ ?_
         ·rw [hxl,← Nat.add_mul]
          simp only []
          have hlong:(off+len) * k+news.length≤xs.length * k:=by rw [hnl,← Nat.add_mul]; exact Nat.mul_le_mul_right k hin
          apply List.ext_getElem?
          intro q
          rw [List.getElem?_take,setL_get _ _ _ _ (by simp; omega),setL_get _ _ _ _ (by simp; omega),List.getElem?_take]
          by_cases hq:q < xs.length * k
          ·simp [hq]
          ·rw [if_neg hq,if_neg hq,if_neg (by omega)]
         ·rw [hxl,hsz]; exact q5
        refine ⟨_,g.stored r' b (setL c.toList (off * k+len * k) news).toArray (.row k (setL xs (off+len) ys) true),
         run_app_room (P:=P) (ty:=ty) h0 h1 hu hs hux hdn n2 n3' hroom (fun ad' had=>by simp at had; subst had; rw [add_none]; exact hst) (fun h=>by simp at h),rfl,
         wr_store hW r' b c _ _ _ hown q1 q2 hsz (fun hbx=>by rw [hb] at hbx; exact hbx.elim) (by rw [hb]; simp [rowLen,hxl]) (by rw [hb]; rfl) hfit,
         ext_store r' b c _ _ _ hown q1 q2 hsz (fun hbx=>by rw [hb] at hbx; exact hbx.elim) (by rw [hb]; simp [rowLen,hxl]) (by rw [hb]; rfl),?_⟩
        have ee:=ext_store (g:=g) r' b c (setL c.toList (off * k+len * k) news).toArray t' (.row k (setL xs (off+len) ys) true) hown q1 q2 hsz (fun hbx=>by rw [hb] at hbx; exact hbx.elim) (by rw [hb]; simp [rowLen,hxl]) (by rw [hb]; rfl)
        refine .sl _ _ _ _ _ _ _ hroom (hg.mono ee) fun b2 hb2=>?_
        obtain ⟨s1,s2⟩:=hh b2 (hb2.back ee hg)
        exact ⟨s1,ee.size b2 _ s2⟩
       ·rename_i hnin
        split at hr
        ·rename_i hoff
         obtain ⟨rfl,hmost⟩:=hoff
         simp at hr; obtain ⟨rfl,rfl,_,_⟩:=hr
         simp only [Nat.zero_add,Nat.zero_mul] at *
         have hlt:xs.length < (xs.take len++ys).length:=by simp; omega
         have hlen':(xs.take len++ys).length=len+ys.length:=by simp; omega
         by_cases hroom:len+ys.length≤cap
         ·-- room in the block
          have hfitc:len * k+news.length≤c.size:=by
           rw [hnl,← Nat.add_mul,e3]; exact Nat.mul_le_mul_right k hroom
          have hst:=run_storeAt (P:=P) (g:=g) q2 hfitc n1.one
          have hsz:(setL c.toList (len * k) news).toArray.size=c.size:=by simp; rw [setL_length _ _ _ (by simpa using hfitc)]; simp
          have hfit:Fits g (setL c.toList (len * k) news).toArray (.row k (xs.take len++ys) true):=by
           have hr2:=(hrr.take len).append n1
           refine rr_fits hk hr2 ?_ ?_
           ·rw [hlen']
            have hl1:len * k≤xs.length * k:=Nat.mul_le_mul_right k hle
            have hl2:(c.toList.take (len * k)).length=len * k:=by simp; omega
            unfold setL
            simp only []
            rw [List.take_left' (by simp [hl2,hnl,Nat.add_mul]),List.take_take,Nat.min_eq_left hl1]
           ·rw [hlen',hsz,e3]; exact Nat.mul_le_mul_right k hroom
          obtain ⟨w1,e4⟩:=regrow hW (xs':=xs.take len++ys) hb q1 q2 (w':=g.w.setRow b (setL c.toList (len * k) news).toArray) (b':=b) (setRow_heap _ _ _ _ _ _ q2) (.inl ⟨rfl,hsz⟩) (by simp)
           (fun x o hx ho=>by rw [← ho]; exact setRow_other _ _ _ _ hx) hlt hfit ⟨by simp [World.setRow],by simp [World.setRow],by simp [World.setRow]⟩
          refine ⟨_,_,run_app_room (P:=P) (ty:=ty) h0 h1 hu hs hux hdn n2 n3' hroom (fun ad' had=>by simp at had; subst had; rw [add_none,Nat.zero_add]; exact hst) (fun h=>by simp at h),rfl,w1,e4,?_⟩
          refine .sl _ _ _ _ _ _ _ hroom ⟨_,by show rowLen ((g.H.put r' _).at_ r')=_; rw [Heap.put_same]; rfl,by rw [hlen']; exact Nat.le_refl _⟩ fun b2 hb2=>?_
          have hb3:=hb2.1
          simp at hb3; subst hb3
          refine ⟨by simp,_,_,_,setRow_heap _ _ _ _ _ _ q2,by rw [hsz,e3]; simp⟩
         ·-- a new block
          have hrrd:=hrr.mono hW ed
          have hl1:len * k≤xs.length * k:=Nat.mul_le_mul_right k hle
          have hol:(((c.toList.take (xs.length * k)).take (len * k))).length=len * k:=by simp; omega
          have hold:=run_firstCells_some (P:=P) g.w.drew k len ⟨b,0,none⟩ len cap ((c.toList.take (xs.length * k)).take (len * k)) hol (fun j u hj=>by
           rw [List.getElem?_take] at hj
           split at hj
           ·rw [List.getElem?_take] at hj
            split at hj
            ·rw [add_none,World.cell?_drew,cell_of q2]; simpa using hj
            ·simp at hj
           ·simp at hj)
          have hge:=grownCap_ge g.w (len+ys.length) cap e
          have hsize:=size_grown zv.cells hzs _ news' hol hml hge
          have hfit:Fits g.drew (((c.toList.take (xs.length * k)).take (len * k)).toArray++news'.toArray++Builtin.zeroCells zv.cells (grownCap g.w (len+ys.length) cap e - (len+ys.length))) (.row k (xs.take len++ys) true):=by
           refine rr_fits hk ((hrrd.take len).append m1) ?_ ?_
           ·rw [hlen',take_grown _ _ _ hol hml]
           ·rw [hsize,hlen']; exact Nat.mul_le_mul_right k hge
          obtain ⟨w1,e4⟩:=regrow (g:=g.drew) hWd (xs':=xs.take len++ys) hb q1 q2 (w':=g.w.drew.alloc _) (b':=g.w.heap.size) (heap_alloc_new g.w.drew _) (.inr rfl) (by simp [G.drew])
           (fun x o hx ho=>by rw [← ho]; exact heap_alloc_old _ _ (lt_of_heap ho)) hlt hfit ⟨rfl,rfl,rfl⟩
          refine ⟨_,_,run_app_grow (P:=P) (ty:=ty) h0 h1 hu hs hi hiz hux hdn n2 m3' hold (by omega) (hfits _ _ hmost (by omega)) (by have:most=68719476736:=rfl; omega),rfl,w1,ed.trans e4,?_⟩
          refine .sl _ _ _ _ _ _ _ hge ⟨_,by show rowLen ((g.H.put r' _).at_ r')=_; rw [Heap.put_same]; rfl,by rw [hlen']; exact Nat.le_refl _⟩ fun b2 hb2=>?_
          have hb3:=hb2.1
          simp at hb3; subst hb3
          refine ⟨by simp,_,_,_,heap_alloc_new g.w.drew _,by rw [hsize]; simp⟩
        ·simp at hr
    ·simp at hr
   ·simp at hr
  ·simp at hr
end ops
end Go.Evl

namespace Go.Evl
open Go
variable {P:Program}
theorem over_sound {g:G} (hW:WR g) {r k:Nat} {xs ys:List (List PV)} (hb:g.H.at_ r = .row k xs true) {b:Nat} {c:Array Value} {t:TypeId} (q1:g.ι r=some b) (q2:g.w.heap[b]?=some (.cells c t (0,0)))
  {news:List Value} (n1:RR g k news ys) {o:Nat} (hin:o+ys.length≤xs.length) :
  ∃ g',(storeCells ⟨b,o * k,none⟩ news).run P g.w = .ok () g'.w∧g'.H=g.H.put r (.row k (setL xs o ys) true)∧WR g'∧Ext g g':=by
 obtain ⟨a1,a2,b',c',t',fr,p1,p2,p3,p4,p5,p6⟩:=hW.row r k xs true hb
 rw [q1] at p1; simp at p1; subst p1
 rw [q2] at p2; simp at p2; obtain ⟨rfl,rfl,rfl⟩:=p2
 have hnl:=n1.size
 have hown:isOwn (g.H.at_ r):=by rw [hb]; trivial
 have hlong:o * k+news.length≤xs.length * k:=by rw [hnl,← Nat.add_mul]; exact Nat.mul_le_mul_right k hin
 have hfitc:o * k+news.length≤c.size:=by omega
 have hst:=run_storeAt (P:=P) (g:=g) q2 hfitc n1.one
 have hsz:(setL c.toList (o * k) news).toArray.size=c.size:=by simp; rw [setL_length _ _ _ (by simpa using hfitc)]; simp
 have hxl:(setL xs o ys).length=xs.length:=setL_length _ _ _ hin
 have hrr:=row_rr a2 p5 p6
 have hfit:Fits g (setL c.toList (o * k) news).toArray (.row k (setL xs o ys) true):=by
  refine rr_fits a1 (hrr.setL n1 o) ?_ ?_
  ·rw [hxl]
   simp only []
   apply List.ext_getElem?
   intro q
   rw [List.getElem?_take,setL_get _ _ _ _ (by simp; omega),setL_get _ _ _ _ (by simp; omega),List.getElem?_take]
   by_cases hq:q < xs.length * k
   ·simp [hq]
   ·rw [if_neg hq,if_neg hq,if_neg (by omega)]
  ·rw [hxl,hsz]; exact p5
 exact ⟨g.stored r b (setL c.toList (o * k) news).toArray (.row k (setL xs o ys) true),hst,rfl,
  wr_store hW r b c _ _ _ hown q1 q2 hsz (fun hbx=>by rw [hb] at hbx; exact hbx.elim) (by rw [hb]; simp [rowLen,hxl]) (by rw [hb]; rfl) hfit,
  ext_store r b c _ _ _ hown q1 q2 hsz (fun hbx=>by rw [hb] at hbx; exact hbx.elim) (by rw [hb]; simp [rowLen,hxl]) (by rw [hb]; rfl)⟩
section ops
variable {g:G} {a:Act} {σ:Tm}
theorem copy_sound (hW:WR g) {argTypes:Array TypeId} {ty t e:TypeId} {k:Nat} (h0:argTypes[0]?=some t) (hu:P.underlying t=some (.slice e)) (hs:szOf P e=some k)
  {v x:Value} {py:PV} {r gen off len:Nat} (hv:VR g v (.sl r k gen off len)) (hx:VR g x py) {ys:List (List PV)} {is:List Nat} (hy:elems g.H k py=some (ys,is))
  {xs:List (List PV)} (hb:g.H.at_ r = .row k xs true) (hgen:gen=xs.length) (hle:off+len≤xs.length) :
  ∃ g',(Builtin.copy_ argTypes ty #[v,x]).run P g.w = .ok (.int .i64 (min len ys.length:Nat)) g'.w∧g'.H=g.H.put r (.row k (setL xs off (ys.take len)) true)∧WR g'∧Ext g g':=by
 obtain ⟨news,n1,n2,n3⟩:=elems_sound (P:=P) hW hx hy
 subst hgen
 cases hv with
 | sl ad _ _ _ _ _ cap hlc hg hh =>
   obtain ⟨a1,a2,b,c,t',fr,q1,q2,q3,q4,q5,q6⟩:=hW.row r k xs true hb
   have hfr:=q3 rfl; subst hfr
   have hval:Valid g r k xs.length b:=⟨q1,by rw [hb]; rfl,by rw [hb]; rfl⟩
   obtain ⟨e1,_⟩:=hh b hval
   subst e1
   have hmin:Nat.min ys.length len≤ys.length:=Nat.min_le_left _ _
   have n3':=n3 _ hmin
   have htake:ys.take len=ys.take (Nat.min ys.length len):=by
    rcases Nat.le_total ys.length len with h | h
    ·rw [show Nat.min ys.length len=ys.length from Nat.min_eq_left h,List.take_of_length_le h,List.take_of_length_le (Nat.le_refl _)]
    ·rw [show Nat.min ys.length len=len from Nat.min_eq_right h]
   have hl2:(ys.take len).length≤len:=by simp; omega
   obtain ⟨g',s1,s2,s3,s4⟩:=over_sound (P:=P) hW hb q1 q2 (htake▸n1.take _:RR g k (news.take (Nat.min ys.length len * k)) (ys.take len)) (o:=off) (by omega)
   refine ⟨g',?_,s2,s3,s4⟩
   unfold Builtin.copy_
   simp only [h0,List.getElem?_toArray,List.getElem?_cons_zero,List.getElem?_cons_succ,Sem.run_bind,run_underlying hu,Result.andThen_ok,n2,run_sz hs,n3',s1,Sem.run_pure]
   rw [show Nat.min ys.length len=min len ys.length from Nat.min_comm _ _]
   rfl
theorem zero_rr {z:Value} {p:PV} {ps:List PV} {k:Nat} (hz:ofV z=some p) (hp:cellsOf p=ps) (hk:ps.length=k) (hall:ps.all cellP=true) (n:Nat) :
  RR g k (Builtin.zeroCells z.cells n).toList (List.replicate n ps):=by
 obtain ⟨h1,h2⟩:=zero_cells (g:=g) hz
 subst hp
 rw [zeroCells_eq]
 have hone:=h2 hall
 induction n with
 | zero=>exact RR.nil g k
 | succ n ih =>
   rw [List.replicate_succ,List.flatten_cons,List.replicate_succ]
   have:RR g k z.cells.toList [cellsOf p]:=⟨by simpa using h1,by simpa using hk,hone⟩
   exact this.append ih
theorem clr_sound (hW:WR g) {argTypes:Array TypeId} {ty t e:TypeId} {k:Nat} {z:List PV} (h0:argTypes[0]?=some t) (hu:P.underlying t=some (.slice e)) (hz:zeroC P e=some z) (hzk:z.length=k) (hall:z.all cellP=true)
  {v:Value} {r gen off len:Nat} (hv:VR g v (.sl r k gen off len)) {xs:List (List PV)} (hb:g.H.at_ r = .row k xs true) (hgen:gen=xs.length) (hle:off+len≤xs.length) :
  ∃ g',(Builtin.clear_ argTypes ty #[v]).run P g.w = .ok undef g'.w∧g'.H=g.H.put r (.row k (setL xs off (List.replicate len z)) true)∧WR g'∧Ext g g':=by
 subst hgen
 cases hv with
 | sl ad _ _ _ _ _ cap hlc hg hh =>
   obtain ⟨a1,a2,b,c,t',fr,q1,q2,q3,q4,q5,q6⟩:=hW.row r k xs true hb
   have hfr:=q3 rfl; subst hfr
   have hval:Valid g r k xs.length b:=⟨q1,by rw [hb]; rfl,by rw [hb]; rfl⟩
   obtain ⟨e1,_⟩:=hh b hval
   subst e1
   obtain ⟨zv,zp,z1,z2,z3⟩:=run_zero hz g.w
   have hrr:=zero_rr (g:=g) z2 z3 hzk hall len
   obtain ⟨g',s1,s2,s3,s4⟩:=over_sound (P:=P) hW hb q1 q2 hrr (o:=off) (by simp; omega)
   cases len with
   | zero =>
     simp [Builtin.zeroCells,storeCells] at s1
     refine ⟨g',?_,s2,s3,s4⟩
     simp [Builtin.clear_,h0,run_underlying hu,s1,undef]
   | succ len =>
     refine ⟨g',?_,s2,s3,s4⟩
     simp [Builtin.clear_,h0,run_underlying hu,z1,s1,undef]
theorem clr_empty {argTypes:Array TypeId} {ty t e:TypeId} (h0:argTypes[0]?=some t) (hu:P.underlying t=some (.slice e)) {v:Value} {full:Bool} (hv:VR g v (.im [] full)) :
  (Builtin.clear_ argTypes ty #[v]).run P g.w = .ok undef g.w:=by
 obtain ⟨ad,cap,rfl,_⟩:=hv.inv_im
 cases ad <;> simp [Builtin.clear_,h0,run_underlying hu,undef]
theorem fill_one (hT:TR g a.tmps σ) (place:Nat→Option (Nat × Nat)):∀ (parts:List (Nat × Operand)) (ps:List (Nat × Nat × O)) (zs vs:List Value) (z cs:List PV),
  cParts place parts=some ps→Cs g zs z→fillP σ z ps=some cs→Instr.fill place zs.toArray (parts.map fun (i,x)=>(i,a.eval x))=some vs.toArray→(∀ v∈zs,v.oneCell'=true)→∀ v∈vs,v.oneCell'=true
 | [],ps,zs,vs,z,cs,hp,hz,hf,hi,h1=>by
   simp [Instr.fill] at hi; subst hi; exact h1
 | (i,x)::parts,ps,zs,vs,z,cs,hp,hz,hf,hi,h1=>by
   simp only [cParts] at hp
   split at hp
   ·rename_i off s o rest e1 e2 e3
    simp at hp; subst hp
    simp only [fillP] at hf
    split at hf
    ·rename_i hcond
     obtain ⟨c1,c2,c3⟩:=hcond
     obtain ⟨hcs,hone⟩:=(eval_sound hT e2).cells c3
     have hlen:(a.eval x).cells.size=s:=by rw [← c1,← hcs.1]; simp
     have hzl:zs.length=z.length:=hz.1
     have hset:=fold_set off (a.eval x).cells.toList 0 zs.toArray (by simp [hlen]; omega)
     simp only [List.map_cons,Instr.fill,e1] at hi
     rw [if_neg (by simp [hlen]; omega)] at hi
     rw [← Array.foldl_toList,Array.toList_zipIdx,hset] at hi
     refine fill_one hT place parts rest _ vs _ cs e3 (hz.setL hcs off) hf (by simpa [setL] using hi) ?_
     intro v hv
     have:v∈setL zs off (a.eval x).cells.toList:=by simpa [setL] using hv
     rcases setL_mem this with q | q
     ·exact h1 v q
     ·exact hone v q
    ·simp at hf
   ·simp at hp
theorem build_sound (hT:TR g a.tmps σ) {t:TypeId} {z:List PV} {parts:Array (Nat × Operand)} (hz:zeroC P t=some z) {cs:List PV} {ps:List (Nat × Nat × O)} (hf:fillP σ z ps=some cs)
  (hk:(∃ fs,P.underlying t=some (.struct fs)∧fs.toList.all (fun f=>(szOf P f.type).isSome)=true∧cParts (fPlace P fs) parts.toList=some ps) ∨
   ∃ n e s,P.underlying t=some (.array n e)∧szOf P e=some s∧cParts (fun i=>some (i * s,s)) parts.toList=some ps) :
  ∃ v,(Instr.build t (parts.map fun (i,x)=>(i,a.eval x))).run P g.w = .ok v g.w∧VR g v (.agg cs):=by
 obtain ⟨zv,zp,z1,z2,z3⟩:=run_zero hz g.w
 have hzc:=(zero_cells (g:=g) z2).1
 rw [z3] at hzc
 rcases hk with ⟨fs,hu,hall,hp⟩ | ⟨n,e,s,hu,hs,hp⟩
 ·obtain ⟨places,p1,p2⟩:=places_ok (P:=P) fs g.w (fun f hf=>by
   have:=List.all_eq_true.1 hall f (by simpa using hf)
   simpa [Option.isSome_iff_exists] using this)
  have hpl:(fun i:Nat=>places[i]?)=fPlace P fs:=funext p2
  obtain ⟨vs,f1,f2⟩:=fill_sound hT (fPlace P fs) parts.toList ps _ z cs hp hzc hf
  refine ⟨.agg vs.toArray,?_,VR.of_agg f2⟩
  unfold Instr.build
  simp only [Sem.run_bind,z1,Result.andThen_ok,run_underlying hu,p1,hpl]
  simp only [Array.toArray_toList,Array.toList_map] at f1 ⊢
  rw [f1]
  rfl
 ·obtain ⟨vs,f1,f2⟩:=fill_sound hT (fun i=>some (i * s,s)) parts.toList ps _ z cs hp hzc hf
  refine ⟨.agg vs.toArray,?_,VR.of_agg f2⟩
  unfold Instr.build
  simp only [Sem.run_bind,z1,Result.andThen_ok,run_underlying hu,run_sz hs]
  simp only [Array.toArray_toList,Array.toList_map] at f1 ⊢
  rw [f1]
  rfl
theorem chunks_get {α:Type} (k:Nat):∀ (n:Nat) (l:List α) (i:Nat) (x:List α),(chunks k n l)[i]?=some x→i < n∧x=(l.drop (i * k)).take k
 | 0,l,i,x,h=>by simp [chunks] at h
 | n+1,l,0,x,h=>by simp [chunks] at h; simp [h]
 | n+1,l,i+1,x,h=>by
   simp only [chunks,List.getElem?_cons_succ] at h
   obtain ⟨h1,h2⟩:=chunks_get k n _ i x h
   refine ⟨by omega,?_⟩
   rw [h2,List.drop_drop,Nat.add_mul,Nat.one_mul,Nat.add_comm]
theorem chunks_length {α:Type} (k:Nat):∀ (n:Nat) (l:List α),(chunks k n l).length=n
 | 0,l=>rfl
 | n+1,l=>by simp [chunks,chunks_length k n]
theorem expCs_len {H:Heap}:∀ {ps qs:List PV} {is:List Nat},expCs H ps=some (qs,is)→ps.length=qs.length
 | [],qs,is,h=>by simp [expCs] at h; simp [h]
 | p::ps,qs,is,h=>by
   simp only [expCs] at h
   split at h
   ·rename_i q i1 qs' i2 h1 h2
    simp at h; obtain ⟨rfl,rfl⟩:=h
    simp [expCs_len h2]
   ·simp at h
theorem fillP_len {σ:Tm}:∀ {ps:List (Nat × Nat × O)} {z cs:List PV},fillP σ z ps=some cs→cs.length=z.length
 | [],z,cs,h=>by simp [fillP] at h; simp [h]
 | (off,s,x)::ps,z,cs,h=>by
   simp only [fillP] at h
   split at h
   ·rename_i hc
    rw [fillP_len h,setL_length _ _ _ (by omega)]
   ·simp at h
theorem bsl_sound (hW:WR g) (hT:TR g a.tmps σ) {t e:TypeId} {k n:Nat} {z:List PV} {parts:Array (Nat × Operand)} {ps:List (Nat × Nat × O)} (hu:P.underlying t=some (.slice e)) (hs:szOf P e=some k) (hz:zeroC P e=some z)
  (hzk:z.length=k) (hk:0 < k) (h24:n * k≤2 ^ 24) (hall:z.all cellP=true) (hp:cParts (fun i=>some (i * k,k)) parts.toList=some ps)
  {cs cs':List PV} {is:List Nat} (hf:fillP σ (List.replicate n z).flatten ps=some cs) (he:expCs g.H cs=some (cs',is)) :
  ∃ v g',(Instr.buildSlice t n (parts.map fun (i,x)=>(i,a.eval x))).run P g.w = .ok v g'.w∧g'.H=freeze g.H is∧WR g'∧Ext g g'∧VR g' v (.im (chunks k n cs') true):=by
 obtain ⟨zv,zp,z1,z2,z3⟩:=run_zero hz g.w
 have hrr:=zero_rr (g:=g) z2 z3 hzk hall n
 have hzs:zv.cells.size=k:=by rw [← hzk,← z3,← (zero_cells (g:=g) z2).1.1]; simp
 obtain ⟨vs,f1,f2⟩:=fill_sound hT (fun i=>some (i * k,k)) parts.toList ps (Builtin.zeroCells zv.cells n).toList _ cs hp hrr.cs hf
 have f3:=fill_one hT _ _ _ _ vs _ cs hp hrr.cs hf f1 hrr.one
 have hW1:=wr_frozen hW is
 have e1:=ext_frozen hW is
 obtain ⟨hW2,e2⟩:=grow_world hW1 ((g.frozen is).w.alloc (.cells vs.toArray e)) (fun b=>b=g.w.heap.size) (by simp) (fun b hb=>heap_alloc_old _ _ hb) (fun b hb=>by subst hb; simp [G.frozen]) ⟨rfl,rfl,rfl⟩
 have hnew:((g.frozen is).w.alloc (.cells vs.toArray e)).heap[g.w.heap.size]?=some (.cells vs.toArray e (0,0)):=heap_alloc_new _ _
 refine ⟨.slice (some ⟨g.w.heap.size,0,none⟩) n n,_,?_,rfl,hW2,e1.trans e2,?_⟩
 ·unfold Instr.buildSlice
  have hbig:¬ (n * k > 2 ^ 24):=by omega
  simp only [Sem.run_bind,run_underlying hu,Result.andThen_ok,run_sz hs,if_neg hbig]
  simp only [Array.toArray_toList,Array.toList_map] at f1 ⊢
  by_cases h0:n * k=0
  ·have hn:n=0:=by rcases Nat.mul_eq_zero.1 h0 with h | h; exact h; omega
   subst hn
   have hzc:Builtin.zeroCells zv.cells 0 = #[]:=by simp [Builtin.zeroCells]
   rw [hzc] at f1
   have hr0:∀ f:Nat→Value,(Array.range 0).map f = #[]:=fun f=>by simp
   simp only [Nat.zero_mul,if_true,Sem.run_bind,Sem.run_pure,Result.andThen_ok,hr0,f1]
   simp only [newRow,Sem.run_bind,run_newObj,Sem.run_pure,Result.andThen_ok]
   rfl
  ·have hzc:Builtin.zeroCells zv.cells n=(Array.range (n * k)).map (fun i=>zv.cells[i % zv.cells.size]!):=by simp only [Builtin.zeroCells,hzs]
   rw [hzc] at f1
   simp only [if_neg h0,Sem.run_bind,z1,Sem.run_pure,Result.andThen_ok,f1]
   simp only [newRow,Sem.run_bind,run_newObj,Sem.run_pure,Result.andThen_ok]
   rfl
 ·have hsees:Sees g ⟨(g.frozen is).w.alloc (.cells vs.toArray e),fun b=>(g.frozen is).Z b∨b=g.w.heap.size,(g.frozen is).ι,(g.frozen is).H⟩ is :=
   ⟨fun b hb=>⟨.inl (.inl hb),heap_alloc_old _ _ (hW.zlt b hb)⟩,fun r hr b k' xs own hi hb=>⟨.inl (.inr ⟨r,hr,hi,k',xs,own,hb⟩),heap_alloc_old _ _ (hW.lt r b hi)⟩⟩
  obtain ⟨c1,c2⟩:=expCs_sound hW f2 he hsees
  ·have hlen:cs'.length=n * k:=by
    rw [← expCs_len he,fillP_len hf,flat_len (k:=k) (by intro x hx; rw [List.mem_replicate] at hx; rw [hx.2]; exact hzk)]; simp
   refine VR.mk_im (chunks_length _ _ _).symm (fun _=>(chunks_length _ _ _).symm) (Nat.le_of_eq (chunks_length _ _ _)) fun _=>⟨k,g.w.heap.size,0,vs.toArray,e,(0,0),fun i j=>(vs[i * k+j]?).getD undef,rfl,.inr rfl,hnew,fun _=>rfl,?_,?_,?_,?_⟩
   ·intro x hx
    obtain ⟨i,hi⟩:=List.mem_iff_getElem?.1 hx
    obtain ⟨h1,rfl⟩:=chunks_get k n cs' i x hi
    have:(i+1) * k≤n * k:=Nat.mul_le_mul_right k h1
    rw [Nat.add_mul] at this
    simp; omega
   ·intro x hx p hpx
    obtain ⟨i,hi⟩:=List.mem_iff_getElem?.1 hx
    obtain ⟨h1,rfl⟩:=chunks_get k n cs' i x hi
    exact c2 p (List.mem_of_mem_drop (List.mem_of_mem_take hpx))
   all_goals
    intro i x j p hx hpj
    obtain ⟨h1,rfl⟩:=chunks_get k n cs' i x hx
    rw [List.getElem?_take] at hpj
    split at hpj
    ·rw [List.getElem?_drop] at hpj
     obtain ⟨u,u1,u2⟩:=c1.get hpj
     first
      | exact ⟨by simp [u1],by simp [u1]; exact f3 u (List.mem_of_getElem? u1)⟩
      | (simp only [u1,Option.getD_some]; exact u2)
    ·simp at hpj
theorem brow_sound (hW:WR g) (hT:TR g a.tmps σ) {slot:Nat} (hd:g.H.at_ slot = .dead) (hs0:slot < g.H.n) {t e:TypeId} {k n:Nat} {z:List PV} {parts:Array (Nat × Operand)} {ps:List (Nat × Nat × O)} (hu:P.underlying t=some (.slice e)) (hs:szOf P e=some k) (hz:zeroC P e=some z)
  (hzk:z.length=k) (hk:0 < k) (hn0:0 < n) (h24:n * k≤2 ^ 24) (hall:z.all cellP=true) (hp:cParts (fun i=>some (i * k,k)) parts.toList=some ps)
  {cs:List PV} (hf:fillP σ (List.replicate n z).flatten ps=some cs) :
  ∃ v g',(Instr.buildSlice t n (parts.map fun (i,x)=>(i,a.eval x))).run P g.w = .ok v g'.w∧g'.H=g.H.put slot (.row k (chunks k n cs) true)∧WR g'∧Ext g g'∧VR g' v (.sl slot k n 0 n):=by
 obtain ⟨zv,zp,z1,z2,z3⟩:=run_zero hz g.w
 have hrr:=zero_rr (g:=g) z2 z3 hzk hall n
 have hzs:zv.cells.size=k:=by rw [← hzk,← z3,← (zero_cells (g:=g) z2).1.1]; simp
 obtain ⟨vs,f1,f2⟩:=fill_sound hT (fun i=>some (i * k,k)) parts.toList ps (Builtin.zeroCells zv.cells n).toList _ cs hp hrr.cs hf
 have f3:=fill_one hT _ _ _ _ vs _ cs hp hrr.cs hf f1 hrr.one
 have hlen:cs.length=n * k:=by
  rw [fillP_len hf,flat_len (k:=k) (by intro x hx; rw [List.mem_replicate] at hx; rw [hx.2]; exact hzk)]; simp
 have hvl:vs.length=n * k:=by rw [f2.1,hlen]
 have hcl:(chunks k n cs).length=n:=chunks_length _ _ _
 have hfit:Fits g vs.toArray (.row k (chunks k n cs) true):=by
  refine ⟨rfl,hk,?_,by simp [hcl,hvl],?_⟩
  ·intro x hx
   obtain ⟨i,hi⟩:=List.mem_iff_getElem?.1 hx
   obtain ⟨h1,rfl⟩:=chunks_get k n cs i x hi
   have:(i+1) * k≤n * k:=Nat.mul_le_mul_right k h1
   rw [Nat.add_mul] at this
   simp; omega
  ·intro i x j p hx hpj
   obtain ⟨h1,rfl⟩:=chunks_get k n cs i x hx
   rw [List.getElem?_take] at hpj
   split at hpj
   ·rw [List.getElem?_drop] at hpj
    obtain ⟨u,u1,u2⟩:=f2.get hpj
    exact ⟨u,by simpa using u1,f3 u (List.mem_of_getElem? u1),u2⟩
   ·simp at hpj
 refine ⟨.slice (some ⟨g.w.heap.size,0,none⟩) n n,g.allocd slot vs.toArray e (.row k (chunks k n cs) true),?_,rfl,wr_alloc hW hd hs0 hfit,ext_alloc hd _ _ _,?_⟩
 ·unfold Instr.buildSlice
  have hbig:¬ (n * k > 2 ^ 24):=by omega
  simp only [Sem.run_bind,run_underlying hu,Result.andThen_ok,run_sz hs,if_neg hbig]
  simp only [Array.toArray_toList,Array.toList_map] at f1 ⊢
  have h0:¬ n * k=0:=fun h=>by rcases Nat.mul_eq_zero.1 h with h | h <;> omega
  have hzc:Builtin.zeroCells zv.cells n=(Array.range (n * k)).map (fun i=>zv.cells[i % zv.cells.size]!):=by simp only [Builtin.zeroCells,hzs]
  rw [hzc] at f1
  simp only [if_neg h0,Sem.run_bind,z1,Sem.run_pure,Result.andThen_ok,f1]
  simp only [newRow,Sem.run_bind,run_newObj,Sem.run_pure,Result.andThen_ok]
  rfl
 ·have h:=VR.sl (g:=g.allocd slot vs.toArray e (.row k (chunks k n cs) true)) ⟨g.w.heap.size,0,none⟩ slot k n 0 n n (Nat.le_refl _) ⟨n,by
    show rowLen ((g.H.put slot _).at_ slot)=_
    rw [Heap.put_same]; simp [rowLen,hcl],Nat.le_refl _⟩ fun b hb=>by
    have hb1:(g.allocd slot vs.toArray e (.row k (chunks k n cs) true)).ι slot=some b:=hb.1
    simp [G.allocd] at hb1
    subst hb1
    exact ⟨by simp,_,_,_,heap_alloc_new _ _,by simp [hvl]⟩
  exact h
end ops
end Go.Evl

namespace Go.Evl
open Go
variable {P:Program}
theorem run_v {s:Sem Value} {w w':World} {u:Value} (h:s.run P w = .ok u w'):(do pure (Next.value (← s)):Sem Next).run P w = .ok (.value u) w':=by
 simp only [Sem.run_bind,h,Result.andThen_ok,Sem.run_pure]
theorem run_u {s:Sem Unit} {w w':World} (h:s.run P w = .ok () w'):(do s; pure Next.skip:Sem Next).run P w = .ok .skip w':=by
 simp only [Sem.run_bind,h,Result.andThen_ok,Sem.run_pure]
section ops
variable {g:G} {a:Act} {σ:Tm}
theorem cOs_eval (hT:TR g a.tmps σ):∀ {xs:List Operand} {os:List O},cOs xs=some os→Cs g (xs.map a.eval) (os.map (evO σ))
 | [],os,h=>by simp [cOs] at h; subst h; exact Cs.nil g
 | x::xs,os,h=>by
   simp only [cOs] at h
   split at h
   ·rename_i o os' h1 h2
    simp at h; subst h
    exact Cs.cons (eval_sound hT h1) (cOs_eval hT h2)
   ·simp at h
theorem toVss_sound (hT:TR g a.tmps σ):∀ {xs:List Operand} {os:List O} {vs:List Value},cOs xs=some os→toVss σ os=some vs→xs.map a.eval=vs
 | [],os,vs,h,h'=>by simp [cOs] at h; subst h; simp [toVss] at h'; subst h'; rfl
 | x::xs,os,vs,h,h'=>by
   simp only [cOs] at h
   split at h
   ·rename_i o os' h1 h2
    simp at h; subst h
    simp only [toVss] at h'
    split at h'
    ·rename_i v vs' e1 e2
     simp at h'; subst h'
     rw [List.map_cons,toV_sound (eval_sound hT h1) e1,toVss_sound hT h2 e2]
    ·simp at h'
   ·simp at h
theorem eqGuard_const {op:BinOp} {t:TypeId} {x y:Operand} {va vb:Value} (hx:a.eval x=va) (hy:a.eval y=vb) :
  (eqGuard op t (if isC x then .const va else .tmp 0) (if isC y then .const vb else .tmp 0) va vb)=eqGuard op t x y (a.eval x) (a.eval y):=by
 subst hx; subst hy
 unfold eqGuard
 cases x <;> cases y <;> rfl
theorem nil_sound {v:Value} {p:PV} (hv:VR g v p) {b:Bool} (h:nilIface? p=some b):(b=true∧v = .nilIface)∨(b=false∧∃ t x,v = .iface t x):=by
 unfold nilIface? at h
 split at h
 ·simp at h; subst h; exact .inl ⟨rfl,hv.inv_val⟩
 ·simp at h; subst h
  cases hv with
  | ifc t x=>exact .inr ⟨rfl,t,x,rfl⟩
 ·simp at h
theorem ofV_nil {v:Value} (h:ofV v=some (.im [] true)):v = .slice none 0 0:=by
 unfold ofV at h
 split at h
 ·simp at h
 ·split at h <;> simp [uv] at h
 ·unfold ofV1 at h
  split at h
  ·rfl
  ·split at h <;> simp at h
theorem bin_sound (hT:TR g a.tmps σ) {op:BinOp} {t:TypeId} {x y:Operand} {xo yo:O} (hx:cO x=some xo) (hy:cO y=some yo) {p:PV} (h:evBin P op t (isC x) (isC y) (evO σ xo) (evO σ yo)=some p) :
  ∃ v,(do eqGuard op t x y (a.eval x) (a.eval y); binOp op t (a.eval x) (a.eval y):Sem Value).run P g.w = .ok v g.w∧VR g v p:=by
 have hvx:=eval_sound hT hx
 have hvy:=eval_sound hT hy
 unfold evBin at h
 split at h
 ·rename_i va vb h1 h2
  have e1:=toV_sound hvx h1
  have e2:=toV_sound hvy h2
  obtain ⟨v,r1,r2⟩:=scal_sound (g:=g) h g.w
  rw [eqGuard_const e1 e2,← e1,← e2] at r1
  exact ⟨v,r1,r2⟩
 ·split at h
  ·rename_i hcy
   split at h
   ·rename_i hb
    have hyn:a.eval y = .slice none 0 0:=by
     cases y with
     | const v =>
       simp only [cO,Option.map_eq_some_iff] at hy
       obtain ⟨p,hp,rfl⟩:=hy
       simp only [evO] at hb
       subst hb
       exact ofV_nil hp
     | _=>simp [isC] at hcy
    have key:∀ neg,snil P t neg (evO σ xo)=some p→∃ e,(Op.equal t (a.eval x) (.slice none 0 0)).run P g.w = .ok e g.w∧p = .val (.bool (e != neg))∧∃ ad n c,a.eval x = .slice ad n c:=by
     intro neg hs
     unfold snil at hs
     split at hs
     ·rename_i el hu
      have eqr:∀ ad n c,(Op.equal t (.slice ad n c) (.slice none 0 0)).run P g.w = .ok ad.isNone g.w:=by
       intro ad n c
       unfold Op.equal
       rw [show Op.maxDepth=9999+1 from rfl]
       unfold Op.equalIn
       simp only [Sem.run_bind,run_underlying hu,Result.andThen_ok]
       cases ad <;> rfl
      split at hs
      ·rename_i y0 ys full he
       rw [he] at hvx
       obtain ⟨ad,cap,e1,_,_,hat⟩:=hvx.inv_im
       obtain ⟨k',b,off,c,tt,fr,cv,rfl,_⟩:=hat (by simp)
       simp at hs; subst hs
       rw [e1]
       exact ⟨false,eqr _ _ _,by simp,_,_,_,rfl⟩
      ·rename_i r k gen off len he
       rw [he] at hvx
       simp at hs; subst hs
       generalize hX:a.eval x=X at *
       cases hvx with
       | sl ad _ _ _ _ _ cap hlc hg hh=>exact ⟨false,eqr _ _ _,by simp,_,_,_,rfl⟩
      ·rename_i ad n c he
       rw [he] at hvx
       have:=hvx.inv_val
       simp at hs; subst hs
       rw [this]
       exact ⟨_,eqr _ _ _,rfl,_,_,_,rfl⟩
      ·simp at hs
     ·simp at hs
    have hg:∀ op ad n c,(eqGuard op t x y (.slice ad n c) (.slice none 0 0)).run P g.w = .ok () g.w:=by
     intro op ad n c
     cases op <;> rfl
    split at h
    ·obtain ⟨e,r1,rfl,ad,n,c,hx2⟩:=key false h
     rw [hx2] at r1
     refine ⟨.bool e,?_,by simpa using VR.val _⟩
     rw [hyn,hx2]
     simp only [Sem.run_bind,hg,Result.andThen_ok]
     show (do pure (Value.bool (← Op.equal t _ _)):Sem Value).run P g.w=_
     simp only [Sem.run_bind,r1,Result.andThen_ok,Sem.run_pure]
    ·obtain ⟨e,r1,rfl,ad,n,c,hx2⟩:=key true h
     rw [hx2] at r1
     refine ⟨.bool (!e),?_,by simpa using VR.val _⟩
     rw [hyn,hx2]
     simp only [Sem.run_bind,hg,Result.andThen_ok]
     show (do pure (Value.bool (!(← Op.equal t _ _))):Sem Value).run P g.w=_
     simp only [Sem.run_bind,r1,Result.andThen_ok,Sem.run_pure]
    ·simp at h
   ·rename_i hb
    rw [hb] at hvy
    have hyn:a.eval y = .pointer none:=hvy.inv_val
    have key:∀ neg,pnil P t neg (evO σ xo)=some p→p = .val (.bool neg)∧∃ ad,a.eval x = .pointer (some ad)∧(Op.equal t (a.eval x) (.pointer none)).run P g.w = .ok false g.w:=by
     intro neg hs
     unfold pnil at hs
     split at hs
     ·rename_i el hu
      have eqr:∀ ad,(Op.equal t (.pointer (some ad)) (.pointer none)).run P g.w = .ok false g.w:=by
       intro ad
       unfold Op.equal
       rw [show Op.maxDepth=9999+1 from rfl]
       unfold Op.equalIn
       simp only [Sem.run_bind,run_underlying hu,Result.andThen_ok]
       rfl
      generalize hX:a.eval x=X at *
      split at hs
      all_goals first
       | (simp at hs; done)
       | skip
      all_goals
       rename_i he
       rw [he] at hvx
       simp at hs; subst hs
       cases hvx
       exact ⟨rfl,_,rfl,eqr _⟩
     ·simp at hs
    have hg:∀ op ad,(eqGuard op t x y (.pointer (some ad)) (.pointer none)).run P g.w = .ok () g.w:=by
     intro op ad
     cases op <;> rfl
    split at h
    ·obtain ⟨rfl,ad,hx2,r1⟩:=key false h
     rw [hx2] at r1
     refine ⟨.bool false,?_,.val _⟩
     rw [hyn,hx2]
     simp only [Sem.run_bind,hg,Result.andThen_ok]
     show (do pure (Value.bool (← Op.equal t _ _)):Sem Value).run P g.w=_
     simp only [Sem.run_bind,r1,Result.andThen_ok,Sem.run_pure]
    ·obtain ⟨rfl,ad,hx2,r1⟩:=key true h
     rw [hx2] at r1
     refine ⟨.bool true,?_,.val _⟩
     rw [hyn,hx2]
     simp only [Sem.run_bind,hg,Result.andThen_ok]
     show (do pure (Value.bool (!(← Op.equal t _ _))):Sem Value).run P g.w=_
     simp only [Sem.run_bind,r1,Result.andThen_ok,Sem.run_pure]; rfl
    ·simp at h
   ·simp at h
  ·simp at h
theorem run_equal_nil {t:TypeId} {ms:Array (String × TypeId)} (hu:P.underlying t=some (.interface ms)) {x y:Value} {b:Bool} (w:World)
  (h:(x = .nilIface∧y = .nilIface∧b=true)∨(x = .nilIface∧(∃ u v,y = .iface u v)∧b=false)∨((∃ u v,x = .iface u v)∧y = .nilIface∧b=false)):(Op.equal t x y).run P w = .ok b w:=by
 unfold Op.equal
 rw [show Op.maxDepth=9999+1 from rfl]
 unfold Op.equalIn
 rcases h with ⟨rfl,rfl,rfl⟩ | ⟨rfl,⟨u,v,rfl⟩,rfl⟩ | ⟨⟨u,v,rfl⟩,rfl,rfl⟩ <;> simp only [Sem.run_bind,run_underlying hu,Result.andThen_ok] <;> rfl
theorem nilq_sound (hT:TR g a.tmps σ) {neg:Bool} {t:TypeId} {ms:Array (String × TypeId)} {x y:Operand} {xo yo:O} (hu:P.underlying t=some (.interface ms)) (hx:cO x=some xo) (hy:cO y=some yo) {p:PV} (h:evNil neg (isC x || isC y) (evO σ xo) (evO σ yo)=some p) :
  ∃ v,(do eqGuard (if neg then .neq else .eql) t x y (a.eval x) (a.eval y); binOp (if neg then .neq else .eql) t (a.eval x) (a.eval y):Sem Value).run P g.w = .ok v g.w∧VR g v p:=by
 have hvx:=eval_sound hT hx
 have hvy:=eval_sound hT hy
 unfold evNil at h
 split at h
 ·rename_i p' q' hp' hq'
  rcases nil_sound hvx hp' with ⟨rfl,ex⟩ | ⟨rfl,tx,vx,ex⟩ <;> rcases nil_sound hvy hq' with ⟨rfl,ey⟩ | ⟨rfl,ty,vy,ey⟩ <;> simp at h
  ·obtain ⟨hc,rfl⟩:=h
   rw [ex,ey]
   refine ⟨.bool !neg,?_,.val _⟩
   have hg:∀ op,(eqGuard op t x y .nilIface .nilIface).run P g.w = .ok () g.w:=by
    intro op
    unfold eqGuard
    cases x <;> cases y <;> simp [isC] at hc <;> cases op <;> rfl
   have he:=run_equal_nil (P:=P) hu (x:=.nilIface) (y:=.nilIface) (b:=true) g.w (.inl ⟨rfl,rfl,rfl⟩)
   simp only [Sem.run_bind,hg,Result.andThen_ok]
   cases neg
   ·show (do pure (Value.bool (← Op.equal t .nilIface .nilIface)):Sem Value).run P g.w=_
    simp only [Sem.run_bind,he,Result.andThen_ok,Sem.run_pure]; rfl
   ·show (do pure (Value.bool (!(← Op.equal t .nilIface .nilIface))):Sem Value).run P g.w=_
    simp only [Sem.run_bind,he,Result.andThen_ok,Sem.run_pure]
  all_goals
   subst h
   rw [ex,ey]
   refine ⟨.bool neg,?_,.val _⟩
   have he:=run_equal_nil (P:=P) hu (x:=a.eval x) (y:=a.eval y) (b:=false) g.w (by rw [ex,ey]; simp)
   rw [ex,ey] at he
   have hg:∀ op,(eqGuard op t x y (a.eval x) (a.eval y)).run P g.w = .ok () g.w:=by
    intro op
    rw [ex,ey]
    cases op <;> rfl
   rw [ex,ey] at hg
   simp only [Sem.run_bind,hg,Result.andThen_ok]
   cases neg
   ·show (do pure (Value.bool (← Op.equal t _ _)):Sem Value).run P g.w=_
    simp only [Sem.run_bind,he,Result.andThen_ok,Sem.run_pure]
   ·show (do pure (Value.bool (!(← Op.equal t _ _))):Sem Value).run P g.w=_
    simp only [Sem.run_bind,he,Result.andThen_ok,Sem.run_pure]; rfl
 ·simp at h
end ops
end Go.Evl

namespace Go.Evl
open Go
variable {P:Program}
theorem byteOf_sound {g:G} {x:List PV} {b:UInt8} (h:byteOf? x=some b):∃ n:Int,x=[.val (.int .u8 n)]∧b=UInt8.ofNat n.toNat:=by
 unfold byteOf? at h
 split at h
 ·rename_i n; simp at h; exact ⟨n,rfl,h.symm⟩
 ·simp at h
theorem bytes_sound {g:G}:∀ {xs:List (List PV)} {bs:List UInt8} {vs:List Value},bytesOf xs=some bs→Cs g vs xs.flatten→∃ ns:List Int,vs=ns.map (Value.int .u8)∧bs=ns.map fun n=>UInt8.ofNat n.toNat
 | [],bs,vs,h,hc=>by
   simp [bytesOf] at h; subst h
   have:vs=[]:=List.eq_nil_of_length_eq_zero (by simpa using hc.1)
   exact ⟨[],by simp [this],rfl⟩
 | x::xs,bs,vs,h,hc=>by
   simp only [bytesOf] at h
   split at h
   ·rename_i b bs' h1 h2
    simp at h; subst h
    obtain ⟨n,rfl,rfl⟩:=byteOf_sound (g:=g) h1
    cases vs with
    | nil=>simp [Cs] at hc
    | cons v vs =>
      have hc':Cs g (v::vs) (PV.val (.int .u8 n)::xs.flatten):=by simpa using hc
      obtain ⟨c1,c2⟩:=hc'.tail
      obtain ⟨ns,e1,e2⟩:=bytes_sound h2 c2
      exact ⟨n::ns,by simp [c1.inv_val,e1],by simp [e2]⟩
   ·simp at h
theorem foldl_push (ns:List Int) (s:ByteArray):ns.foldl (fun r n=>r.push (UInt8.ofNat n.toNat)) s=⟨s.data++(ns.map fun n=>UInt8.ofNat n.toNat).toArray⟩:=by
 induction ns generalizing s with
 | nil=>simp
 | cons n ns ih=>rw [List.foldl_cons,ih]; simp [ByteArray.push]
section ops
variable {g:G} {a:Act} {σ:Tm}
theorem b2s_sound (hW:WR g) (hT:TR g a.tmps σ) {s d e:TypeId} {x:Operand} {xo:O} (hs:P.underlying s=some (.slice e)) (he:P.underlying e=some (.int .u8)) (hd:P.underlying d=some .string) (hx:cO x=some xo)
  (hnv:∀ v,evO σ xo≠.val v) {xs:List (List PV)} {is:List Nat} (hel:elems g.H 1 (evO σ xo)=some (xs,is)) {bs:List UInt8} (hb:bytesOf xs=some bs) :
  (Go.convert s d (a.eval x)).run P g.w = .ok (.string ⟨bs.toArray⟩) g.w:=by
 have hv:=eval_sound hT hx
 obtain ⟨news,n1,n2,n3⟩:=elems_sound (P:=P) hW hv hel
 have hnl:=n1.size
 have n3':=n3 xs.length (Nat.le_refl _)
 rw [List.take_of_length_le (by omega)] at n3'
 obtain ⟨ns,e1,e2⟩:=bytes_sound hb n1.cs
 have shape:∃ ad cap,a.eval x = .slice ad xs.length cap:=by
  unfold elems at hel
  split at hel
  ·rename_i ys full hq
   split at hel
   ·simp at hel; obtain ⟨rfl,rfl⟩:=hel
    rw [hq] at hv
    obtain ⟨ad,cap,h,_⟩:=hv.inv_im
    exact ⟨ad,cap,h⟩
   ·simp at hel
  ·rename_i r k' gen off len hq
   rw [hq] at hv
   split at hel
   ·split at hel
    ·rename_i hc
     simp at hel; obtain ⟨rfl,rfl⟩:=hel
     generalize hgv:a.eval x=v at hv
     cases hv with
     | sl ad _ _ _ _ _ cap hlc hg hh=>exact ⟨some ad,cap,by congr 1; simp; omega⟩
    ·simp at hel
   ·simp at hel
  ·rename_i q hq; exact (hnv _ hq).elim
  ·rename_i q hq; exact (hnv _ hq).elim
  ·simp at hel
 obtain ⟨ad,cap,hve⟩:=shape
 rw [hve] at n3' ⊢
 rw [run_convert_bytes_string g.w s d e ad xs.length cap hs he hd]
 cases ad with
 | none =>
   simp [Builtin.firstCells] at n3'
   have:ns=[]:=by rw [e1] at n3'; simpa using n3'
   subst this
   simp at e2; subst e2
   rfl
 | some ad =>
   have hload:(loadCells ad xs.length).run P g.w = .ok (ns.map (Value.int .u8)).toArray g.w:=by
    have:(Builtin.firstCells 1 xs.length (.slice (some ad) xs.length cap)).run P g.w=(loadCells ad xs.length).run P g.w:=by simp [Builtin.firstCells]
    rw [← this,n3',e1]
   rw [run_bytesToString g.w ad xs.length cap ns hload,foldl_push,e2]
   rw [show ByteArray.empty.data = #[] from rfl,Array.empty_append]
theorem s2b_sound (hW:WR g) {s d e:TypeId} (hs:P.underlying s=some .string) (hd:P.underlying d=some (.slice e)) (he:P.underlying e=some (.int .u8)) (b:ByteArray) :
  ∃ v g',(Go.convert s d (.string b)).run P g.w = .ok v g'.w∧g'.H=g.H∧WR g'∧Ext g g'∧VR g' v (.im (bytesC b) false):=by
 have hrun:=run_bytes_of_string (P:=P) g.w s d e b hs hd he
 generalize hcap:grownCap g.w b.size 0 e=cap at hrun
 have hge:b.size≤cap:=by rw [← hcap]; exact grownCap_ge _ _ _ _
 generalize hw':g.w.drew.alloc (.cells (bytesRow b cap) e ((bytesRow b cap).size,(bytesRow b cap).size+1))=w' at hrun
 have hnew:w'.heap[g.w.heap.size]?=some (.cells (bytesRow b cap) e ((bytesRow b cap).size,(bytesRow b cap).size+1)):=by rw [← hw']; exact heap_alloc_new g.w.drew _
 obtain ⟨hW2,e2⟩:=grow_world hW w' (fun x=>x=g.w.heap.size) (by rw [← hw']; simp) (fun x hx=>by rw [← hw']; exact heap_alloc_old g.w.drew _ hx) (fun x hx=>by subst hx; rw [← hw']; simp) (by rw [← hw']; exact ⟨rfl,rfl,rfl⟩)
 refine ⟨_,⟨w',fun x=>g.Z x∨x=g.w.heap.size,g.ι,g.H⟩,hrun,rfl,hW2,e2,?_⟩
 have hbl:(bytesC b).length=b.size:=by rw [bytesC,List.length_map,Array.length_toList]; rfl
 refine VR.mk_im hbl.symm (by simp) (by omega) fun _=>⟨1,g.w.heap.size,0,bytesRow b cap,e,_,fun i j=>((bytesRow b cap)[i]?).getD undef,rfl,.inr rfl,hnew,by simp,?_,?_,?_,?_⟩
 ·intro x hx; simp [bytesC] at hx; obtain ⟨c,_,rfl⟩:=hx; rfl
 ·intro x hx p hp; simp [bytesC] at hx; obtain ⟨c,_,rfl⟩:=hx; simp at hp; subst hp; exact .val _
 all_goals
  intro i x j p hx hp
  simp only [bytesC,List.getElem?_map,Option.map_eq_some_iff] at hx
  obtain ⟨c,hc,rfl⟩:=hx
  have hi:i < b.data.size:=by have:=(List.getElem?_eq_some_iff.1 hc).1; simpa using this
  have hj:j=0:=by have:=(List.getElem?_eq_some_iff.1 hp).1; simp at this; omega
  subst hj
  simp at hp; subst hp
  have hat:=bytesRow_at b cap i hi
  have hci:b.data[i]=c:=by
   have:=(List.getElem?_eq_some_iff.1 hc).2
   simpa using this
  rw [hci] at hat
  first
   | exact ⟨by simp [hat],by simp [hat,Value.oneCell']⟩
   | (simp only [hat,Option.getD_some]; exact .val _)
theorem fun_sound {b:Builtin} {ts:Array TypeId} {t:TypeId} {vs:List Value} {p:PV} (h:evFun P b ts t vs=some p) (consts:Array Bool) :
  ∃ v,(builtin b ts t consts vs.toArray).run P g.w = .ok (.value v) g.w∧VR g v p:=by
 unfold evFun at h
 cases b <;> simp at h <;> (obtain ⟨v,r1,r2⟩:=scal_sound (g:=g) h g.w; exact ⟨v,run_v r1,r2⟩)
end ops
end Go.Evl

namespace Go.Evl
open Go
variable {P:Program}
section ops
variable {g:G} {a:Act} {σ:Tm}
theorem res_v {s:Sem Value} {u:Value} {g':G} {r:ORes} (hr:s.run P g.w = .ok u g'.w) (hH:g'.H=r.h) (hW:WR g') (he:Ext g g') (hv:VR g' u r.v):Res P g (do pure (Next.value (← s))) r :=
 ⟨_,u,g',run_v hr,.inl rfl,hH,hW,he,hv⟩
theorem res_same (hW:WR g) {s:Sem Value} {u:Value} {r:ORes} (hr:s.run P g.w = .ok u g.w) (hH:r.h=g.H) (hv:VR g u r.v):Res P g (do pure (Next.value (← s))) r :=
 res_v hr hH.symm hW (Ext.refl g) hv
theorem map_list {α β:Type} (l:Array α) (f:α→β):l.map f=(l.toList.map f).toArray:=by apply Array.ext'; simp
theorem cond_bool {b:Bool} {x y:Value}:(if b=true then x else y)=if b then x else y:=rfl
theorem pop_sound (hW:WR g) (hT:TR g a.tmps σ) {o:Oper} {co:COp} (hc:cOp P o=some co) {slot:Nat} (hs:allocs co=true→g.H.at_ slot = .dead∧slot < g.H.n) {r:ORes} (hp:pop P σ g.H slot co=some r) :
  Res P g (execOp a.eval o) r:=by
 cases hop:o.op with
 | move x =>
   simp only [cOp,hop,Option.map_eq_some_iff] at hc
   obtain ⟨xo,hx,rfl⟩:=hc
   simp [pop,ret1] at hp; subst hp
   simp only [execOp,hop]
   exact Res.same hW rfl (eval_sound hT hx)
 | assign x =>
   simp only [cOp,hop,Option.map_eq_some_iff] at hc
   obtain ⟨xo,hx,rfl⟩:=hc
   simp [pop,ret1] at hp; subst hp
   simp only [execOp,hop]
   exact Res.same hW rfl (eval_sound hT hx)
 | pick c x y =>
   simp only [cOp,hop,Option.bind_eq_bind,Option.bind_eq_some_iff,Option.some.injEq] at hc
   obtain ⟨c',hc1,x',hx,y',hy,rfl⟩:=hc
   simp only [pop] at hp
   split at hp
   ·rename_i t ht
    simp [ret1] at hp; subst hp
    have hvc:=eval_sound hT hc1
    rw [ht] at hvc
    have hve:=hvc.inv_val
    simp only [execOp,hop]
    refine Res.same hW (v:=if t then a.eval x else a.eval y) ?_ ?_
    ·rw [hve]; cases t <;> rfl
    ·cases t
     ·exact eval_sound hT hy
     ·exact eval_sound hT hx
   ·simp at hp
 | alloc t =>
   simp only [cOp,hop,Option.map_eq_some_iff] at hc
   obtain ⟨z,hz,rfl⟩:=hc
   simp [pop] at hp; subst hp
   obtain ⟨h1,h2⟩:=hs rfl
   obtain ⟨g',v,e1,e2,e3,e4,e5⟩:=alloc_sound (P:=P) hW h1 h2 hz
   simp only [execOp,hop]
   exact res_v e1 e2 e3 e4 e5
 | box t x =>
   simp only [cOp,hop,Option.map_eq_some_iff] at hc
   obtain ⟨xo,hx,rfl⟩:=hc
   simp only [pop] at hp
   split at hp
   ·rename_i hall
    simp at hp; subst hp
    obtain ⟨h1,h2⟩:=hs rfl
    obtain ⟨g',v,e1,e2,e3,e4,e5⟩:=bx_sound (P:=P) hW hT h1 h2 (t:=t) hx hall
    simp only [execOp,hop]
    exact res_v e1 e2 e3 e4 e5
   ·simp at hp
 | build t parts =>
   simp only [cOp,hop,Option.bind_eq_bind,Option.bind_eq_some_iff] at hc
   obtain ⟨z,hz,hc⟩:=hc
   simp only [execOp,hop]
   split at hc
   ·rename_i fs hu
    split at hc
    ·rename_i hall
     simp only [Option.bind_eq_some_iff,Option.some.injEq] at hc
     obtain ⟨ps,hps,rfl⟩:=hc
     simp only [pop,Option.map_eq_some_iff] at hp
     obtain ⟨cs,hcs,rfl⟩:=hp
     obtain ⟨v,r1,r2⟩:=build_sound (P:=P) hT hz hcs (.inl ⟨fs,hu,hall,hps⟩)
     exact res_same hW r1 rfl r2
    ·simp at hc
   ·rename_i n e hu
    simp only [Option.bind_eq_some_iff,Option.some.injEq] at hc
    obtain ⟨s,hse,ps,hps,rfl⟩:=hc
    simp only [pop,Option.map_eq_some_iff] at hp
    obtain ⟨cs,hcs,rfl⟩:=hp
    obtain ⟨v,r1,r2⟩:=build_sound (P:=P) hT hz hcs (.inr ⟨n,e,s,hu,hse,hps⟩)
    exact res_same hW r1 rfl r2
   ·simp at hc
 | buildSlice t len parts =>
   simp only [cOp,hop] at hc
   simp only [execOp,hop]
   split at hc
   ·rename_i e hu
    simp only [Option.bind_eq_bind,Option.bind_eq_some_iff] at hc
    obtain ⟨s,hse,z,hz,hc⟩:=hc
    split at hc
    ·rename_i hcond
     simp only [Option.bind_eq_some_iff,Option.some.injEq] at hc
     obtain ⟨ps,hps,rfl⟩:=hc
     by_cases hrow:s=13∧0 < len
     ·rw [if_pos hrow] at hp hs
      simp only [pop] at hp
      split at hp
      ·rename_i cs hf
       simp at hp; subst hp
       obtain ⟨h1,h2⟩:=hs rfl
       obtain ⟨v,g',e1,e2,e3,e4,e5⟩:=brow_sound (P:=P) hW hT h1 h2 hu hse hz hcond.1 hcond.2.1 hrow.2 hcond.2.2.1 hcond.2.2.2 hps hf
       exact res_v e1 e2 e3 e4 e5
      ·simp at hp
     rw [if_neg hrow] at hp hs
     simp only [pop] at hp
     split at hp
     ·rename_i cs' is he
      simp at hp; subst hp
      simp only [Option.bind_eq_some_iff] at he
      obtain ⟨cs,hf,he⟩:=he
      obtain ⟨v,g',e1,e2,e3,e4,e5⟩:=bsl_sound (P:=P) hW hT hu hse hz hcond.1 hcond.2.1 hcond.2.2.1 hcond.2.2.2 hps hf he
      exact res_v e1 e2 e3 e4 e5
     ·simp at hp
    ·simp at hc
   ·simp at hc
 | load t x =>
   simp only [cOp,hop,Option.bind_eq_bind,Option.bind_eq_some_iff,Option.some.injEq] at hc
   obtain ⟨n,hn,ag,hag,xo,hx,rfl⟩:=hc
   simp only [pop] at hp
   split at hp
   ·rename_i v is hl
    simp at hp; subst hp
    obtain ⟨u,r1,r2⟩:=ld_sound (P:=P) hW hT hn hag hx hl
    simp only [execOp,hop]
    exact res_same hW r1 rfl r2
   ·simp at hp
 | store t p x =>
   simp only [cOp,hop,Option.bind_eq_bind,Option.bind_eq_some_iff,Option.some.injEq] at hc
   obtain ⟨n,hn,po,hpo,xo,hx,rfl⟩:=hc
   simp only [pop] at hp
   split at hp
   ·rename_i hcond
    split at hp
    ·rename_i H' r' hst
     simp at hp; subst hp
     obtain ⟨g',e1,e2,e3,e4⟩:=st_sound (P:=P) hW hT hn hpo hx hcond.1 hcond.2 hst
     simp only [execOp,hop]
     exact ⟨.skip,undef,g',run_u e1,.inr ⟨rfl,rfl⟩,e2,e3,e4,.val _⟩
    ·simp at hp
   ·simp at hp
 | nilCheck x =>
   simp only [cOp,hop,Option.map_eq_some_iff] at hc
   obtain ⟨xo,hx,rfl⟩:=hc
   have hv:=eval_sound hT hx
   simp only [execOp,hop]
   simp only [pop] at hp
   split at hp
   ·rename_i r' o' hq
    simp at hp; subst hp
    rw [hq] at hv
    generalize a.eval x=v at hv
    cases hv with
    | ptr b _ _ hbx hi=>exact Res.same hW rfl (.ptr b r' o' hbx hi)
   ·rename_i r' k gen i j hq
    simp at hp; subst hp
    rw [hq] at hv
    generalize a.eval x=v at hv
    cases hv with
    | rp ad _ _ _ _ _ hg hh=>exact Res.same hW rfl (.rp ad _ _ _ _ _ hg hh)
   ·rename_i xs i j hq
    simp at hp; subst hp
    rw [hq] at hv
    generalize a.eval x=v at hv
    cases hv with
    | ip b off k c t fr _ _ _ cv hZ hb hk hno hc hh=>exact Res.same hW rfl (.ip b off k c t fr xs i j cv hZ hb hk hno hc hh)
   ·simp at hp
 | binOp op t x y yt =>
   simp only [cOp,hop] at hc
   simp only [execOp,hop]
   split at hc
   ·rename_i ms hu
    simp only [Option.bind_eq_bind,Option.bind_eq_some_iff,Option.some.injEq] at hc
    obtain ⟨xo,hx,yo,hy,rfl⟩:=hc
    simp only [pop,Option.map_eq_some_iff] at hp
    obtain ⟨p,hp,rfl⟩:=hp
    obtain ⟨v,r1,r2⟩:=nilq_sound (P:=P) hT (neg:=false) hu hx hy hp
    exact res_same hW r1 rfl r2
   ·rename_i ms hu
    simp only [Option.bind_eq_bind,Option.bind_eq_some_iff,Option.some.injEq] at hc
    obtain ⟨xo,hx,yo,hy,rfl⟩:=hc
    simp only [pop,Option.map_eq_some_iff] at hp
    obtain ⟨p,hp,rfl⟩:=hp
    obtain ⟨v,r1,r2⟩:=nilq_sound (P:=P) hT (neg:=true) hu hx hy hp
    exact res_same hW r1 rfl r2
   ·simp only [Option.bind_eq_bind,Option.bind_eq_some_iff,Option.some.injEq] at hc
    obtain ⟨xo,hx,yo,hy,rfl⟩:=hc
    simp only [pop,Option.map_eq_some_iff] at hp
    obtain ⟨p,hp,rfl⟩:=hp
    obtain ⟨v,r1,r2⟩:=bin_sound (P:=P) hT hx hy hp
    exact res_same hW r1 rfl r2
 | unOp op t x =>
   simp only [cOp,hop,Option.map_eq_some_iff] at hc
   obtain ⟨xo,hx,rfl⟩:=hc
   simp only [pop] at hp
   split at hp
   ·rename_i v hv
    simp only [Option.map_eq_some_iff] at hp
    obtain ⟨p,hp,rfl⟩:=hp
    obtain ⟨u,r1,r2⟩:=scal_sound (g:=g) hp g.w
    rw [← toV_sound (eval_sound hT hx) hv] at r1
    simp only [execOp,hop]
    exact res_same hW r1 rfl r2
   ·simp at hp
 | convert s d x =>
   simp only [cOp,hop,Option.bind_eq_bind,Option.bind_eq_some_iff] at hc
   obtain ⟨xo,hx,hc⟩:=hc
   simp only [execOp,hop]
   split at hc
   ·rename_i e hus hud
    split at hc
    ·rename_i hue
     simp at hc; subst hc
     simp only [pop] at hp
     split at hp
     ·rename_i b hb
      simp at hp; subst hp
      have hv:=eval_sound hT hx
      rw [hb] at hv
      obtain ⟨v,g',e1,e2,e3,e4,e5⟩:=s2b_sound (P:=P) hW hus hud hue b
      rw [← hv.inv_val] at e1
      exact res_v e1 e2 e3 e4 e5
     ·simp at hp
    ·simp at hc
   ·rename_i e hus hud
    split at hc
    ·rename_i hue
     simp at hc; subst hc
     simp only [pop] at hp
     split at hp
     ·simp at hp
     ·rename_i hnv
      split at hp
      ·rename_i xs is hel
       split at hp
       ·rename_i bs hbs
        simp at hp; subst hp
        exact res_same hW (b2s_sound (P:=P) hW hT hus hue hud hx (fun v hv=>hnv v hv) hel hbs) rfl (.val _)
       ·simp at hp
      ·simp at hp
    ·simp at hc
   ·simp at hc; subst hc
    simp only [pop] at hp
    split at hp
    ·rename_i v hv
     simp only [Option.map_eq_some_iff] at hp
     obtain ⟨p,hp,rfl⟩:=hp
     obtain ⟨u,r1,r2⟩:=scal_sound (g:=g) hp g.w
     rw [← toV_sound (eval_sound hT hx) hv] at r1
     exact res_same hW r1 rfl r2
    ·simp at hp
 | field t x f =>
   simp only [cOp,hop,Option.bind_eq_bind,Option.bind_eq_some_iff,Option.some.injEq] at hc
   obtain ⟨q,hq,n,hn,ag,hag,xo,hx,rfl⟩:=hc
   simp only [pop] at hp
   split at hp
   ·rename_i cs hcs
    split at hp
    ·rename_i v hv
     simp at hp; subst hp
     simp only [Option.bind_eq_some_iff] at hv
     obtain ⟨l,hl,ho⟩:=hv
     obtain ⟨u,r1,r2⟩:=fld_sound (P:=P) hT hq hn hag hx hcs hl ho
     simp only [execOp,hop]
     exact res_same hW r1 rfl r2
    ·simp at hp
   ·simp at hp
 | fieldAddr t x f =>
   simp only [cOp,hop,Option.bind_eq_bind,Option.bind_eq_some_iff] at hc
   obtain ⟨q,hq,s,hse,hc⟩:=hc
   split at hc
   ·simp at hc
   ·rename_i h0
    simp only [Option.bind_eq_some_iff,Option.some.injEq] at hc
    obtain ⟨xo,hx,rfl⟩:=hc
    simp only [pop,Option.map_eq_some_iff] at hp
    obtain ⟨p,hp,rfl⟩:=hp
    obtain ⟨u,r1,r2⟩:=fad_sound (P:=P) hT hq hse h0 hx hp
    simp only [execOp,hop]
    exact res_same hW r1 rfl r2
 | index t x i =>
   simp only [cOp,hop] at hc
   simp only [execOp,hop]
   split at hc
   ·rename_i len e hu
    simp only [Option.bind_eq_bind,Option.bind_eq_some_iff,Option.some.injEq] at hc
    obtain ⟨s,hse,ag,hag,xo,hx,io,hi,rfl⟩:=hc
    simp only [pop] at hp
    split at hp
    ·rename_i cs n hcs hn
     split at hp
     ·rename_i h0
      split at hp
      ·rename_i v hv
       simp at hp; subst hp
       simp only [Option.bind_eq_some_iff] at hv
       obtain ⟨l,hl,ho⟩:=hv
       obtain ⟨u,r1,r2⟩:=ixa_sound (P:=P) hT hu hse hag hx hi hcs hn h0 hl ho
       exact res_same hW r1 rfl r2
      ·simp at hp
     ·simp at hp
    ·simp at hp
   ·rename_i hu
    simp only [Option.bind_eq_bind,Option.bind_eq_some_iff,Option.some.injEq] at hc
    obtain ⟨xo,hx,io,hi,rfl⟩:=hc
    simp only [pop] at hp
    split at hp
    ·rename_i s n hss hn
     split at hp
     ·rename_i h0
      split at hp
      ·rename_i b hb
       simp at hp; subst hp
       obtain ⟨u,r1,r2⟩:=ixs_sound (P:=P) hT hu hx hi hss hn h0 hb
       exact res_same hW r1 rfl r2
      ·simp at hp
     ·simp at hp
    ·simp at hp
   ·simp at hc
 | indexAddr t x i =>
   simp only [cOp,hop] at hc
   simp only [execOp,hop]
   split at hc
   ·rename_i len e hu
    simp only [Option.bind_eq_bind,Option.bind_eq_some_iff,Option.some.injEq] at hc
    obtain ⟨s,hse,xo,hx,io,hi,rfl⟩:=hc
    simp only [pop] at hp
    split at hp
    ·rename_i n hn
     split at hp
     ·rename_i h0
      simp only [Option.map_eq_some_iff] at hp
      obtain ⟨p,hp,rfl⟩:=hp
      obtain ⟨u,r1,r2⟩:=iaa_sound (P:=P) hT hu hse hx hi hn h0 hp
      exact res_same hW r1 rfl r2
     ·simp at hp
    ·simp at hp
   ·rename_i e hu
    simp only [Option.bind_eq_bind,Option.bind_eq_some_iff,Option.some.injEq] at hc
    obtain ⟨s,hse,xo,hx,io,hi,rfl⟩:=hc
    obtain ⟨u,r0,r1,r2⟩:=ias_sound (P:=P) hW hT hu hse hx hi hp
    exact res_same hW r1 r0 r2
   ·simp at hc
 | slice t x lo hi mx =>
   simp only [cOp,hop] at hc
   simp only [execOp,hop]
   split at hc
   ·rename_i hu
    split at hc
    ·rename_i hmx
     simp only [Option.bind_eq_bind,Option.bind_eq_some_iff,Option.some.injEq] at hc
     obtain ⟨xo,hx,lo',hlo,hi',hhi,rfl⟩:=hc
     have hmx':mx=none:=by simpa using hmx
     subst hmx'
     simp only [pop] at hp
     split at hp
     ·rename_i lo2 hi2 mx2 h1 h2 h3
      simp [optI] at h3; subst h3
      split at hp
      ·rename_i v is hsl
       simp at hp; subst hp
       have hv:=eval_sound hT hx
       unfold sliceP at hsl
       split at hsl
       ·rename_i b hb
        rw [hb] at hv
        split at hsl
        ·rename_i hcond
         simp at hsl; obtain ⟨rfl,rfl⟩:=hsl
         have:=slice_str_sound (P:=P) (g:=g) hu (optI_sound hT hlo h1) (optI_sound hT hhi h2) hcond.2.1 hcond.2.2
         rw [← hv.inv_val] at this
         exact res_same hW this rfl (.val _)
        ·simp at hsl
       ·simp at hsl
       ·split at hsl <;> simp at hsl
       ·simp at hsl
      ·simp at hp
     ·simp at hp
    ·simp at hc
   ·rename_i e hu
    simp only [Option.bind_eq_bind,Option.bind_eq_some_iff] at hc
    obtain ⟨s,hse,hc⟩:=hc
    split at hc
    case isFalse=>simp at hc
    rename_i hs0
    simp only [Option.bind_eq_some_iff,Option.some.injEq] at hc
    obtain ⟨xo,hx,lo',hlo,hi',hhi,mx',hmx,rfl⟩:=hc
    simp only [pop] at hp
    split at hp
    ·rename_i lo2 hi2 mx2 h1 h2 h3
     split at hp
     ·rename_i v is hsl
      simp at hp; subst hp
      have hv:=eval_sound hT hx
      by_cases hstr:∃ b,evO σ xo = .val (.string b)
      ·obtain ⟨b,hb⟩:=hstr
       rw [hb] at hsl
       simp only [sliceP] at hsl
       split at hsl
       ·omega
       ·simp at hsl
      ·obtain ⟨u,r1,r2⟩:=slice_sound (P:=P) hW hv hu hse (optI_sound hT hlo h1) (optI_sound hT hhi h2) (optI_sound hT hmx h3) hsl (fun b hb=>hstr ⟨b,hb⟩)
       exact res_same hW r1 rfl r2
     ·simp at hp
    ·simp at hp
   ·simp at hc
 | makeFunc f first caps =>
   cases f with
   | func f =>
     simp only [cOp,hop] at hc
     simp only [execOp,hop]
     split at hc
     ·rename_i h0
      simp only [Option.map_eq_some_iff] at hc
      obtain ⟨os,hos,rfl⟩:=hc
      simp [pop,ret1] at hp; subst hp
      have hf:first = #[]:=Array.eq_empty_of_size_eq_zero h0
      subst hf
      have hcs:=cOs_eval hT hos
      refine res_same hW (u:=.func (.func f) #[] (caps.map a.eval)) (by simp [Instr.makeFunc]) rfl ?_
      rw [map_list caps a.eval]
      exact VR.fn (g:=g) f (caps.toList.map a.eval) _ hcs.1 hcs.2
     ·simp at hc
   | _=>simp [cOp,hop] at hc
 | extract t i =>
   simp only [cOp,hop,Option.bind_eq_bind,Option.bind_eq_some_iff,Option.some.injEq] at hc
   obtain ⟨xo,hx,rfl⟩:=hc
   simp only [pop] at hp
   split at hp
   ·rename_i vs hvs
    simp only [Option.map_eq_some_iff] at hp
    obtain ⟨p,hp,rfl⟩:=hp
    obtain ⟨u,r1,r2⟩:=ext_sound (P:=P) hT hx hvs hp
    simp only [execOp,hop]
    exact res_same hW r1 rfl r2
   ·simp at hp
 | call c =>
   obtain ⟨callee,args,argTypes⟩:=c
   cases callee with
   | value f =>
     simp only [cOp,hop,Option.bind_eq_bind,Option.bind_eq_some_iff,Option.some.injEq] at hc
     obtain ⟨_,_,_,_,rfl⟩:=hc
     simp [pop] at hp
   | invoke recv m=>simp [cOp,hop] at hc
   | builtin b =>
     have hex:execOp a.eval o=builtin b argTypes o.type (args.map fun | .const _=>true | _=>false) (args.map a.eval):=by
      simp only [execOp,hop,resolve,invoke]; rfl
     rw [hex]
     generalize (args.map fun | .const _=>true | _=>false:Array Bool)=consts
     simp only [cOp,hop] at hc
     have hargs:=map_list args a.eval
     rw [hargs]
     generalize args.toList=l at hc
     split at hc
     ·-- len
      rename_i x
      have hl:∀ (bb:Bool) (t:TypeId),argTypes[0]?=some t→(bb=true∧P.underlying t=some .string∨bb=false∧∃ e,P.underlying t=some (.slice e))→∀ xo,cO x=some xo→∀ n,lenP bb (evO σ xo)=some n →
        Res P g (builtin .len argTypes o.type consts ([x].map a.eval).toArray) (ret1 g.H (.val (.int .i64 n))):=by
       intro bb t ht hu xo hx n hn
       have h:=len_sound (P:=P) (ty:=o.type) (eval_sound hT hx) hn (t:=t) hu
       have h':(Builtin.len_ argTypes o.type #[a.eval x]).run P g.w = .ok (.int .i64 n) g.w:=by
        rw [← h]; unfold Builtin.len_; simp [ht]
       exact res_same hW h' rfl (.val _)
      split at hc
      ·rename_i hu
       simp only [Option.map_eq_some_iff] at hc
       obtain ⟨xo,hx,rfl⟩:=hc
       simp only [pop,Option.map_eq_some_iff] at hp
       obtain ⟨n,hn,rfl⟩:=hp
       simp only [Option.bind_eq_some_iff] at hu
       obtain ⟨t,ht,hu⟩:=hu
       exact hl true t ht (.inl ⟨rfl,hu⟩) xo hx n hn
      ·rename_i e hu
       simp only [Option.map_eq_some_iff] at hc
       obtain ⟨xo,hx,rfl⟩:=hc
       simp only [pop,Option.map_eq_some_iff] at hp
       obtain ⟨n,hn,rfl⟩:=hp
       simp only [Option.bind_eq_some_iff] at hu
       obtain ⟨t,ht,hu⟩:=hu
       exact hl false t ht (.inr ⟨rfl,e,hu⟩) xo hx n hn
      ·simp at hc
     ·-- append
      rename_i x y
      split at hc
      ·rename_i e hu
       simp only [Option.bind_eq_some_iff] at hu
       obtain ⟨t,ht,hu⟩:=hu
       simp only [Option.bind_eq_bind,Option.bind_eq_some_iff] at hc
       obtain ⟨s,hse,z,hz,hc⟩:=hc
       split at hc
       ·rename_i hcond
        split at hc
        ·simp at hc
        ·rename_i d hdn hux
         simp only [Option.bind_eq_some_iff] at hux
         obtain ⟨tx,htx,hux⟩:=hux
         simp only [Option.bind_eq_some_iff,Option.some.injEq] at hc
         obtain ⟨xo,hx,yo,hy,rfl⟩:=hc
         simp only [pop] at hp
         split at hp
         ·rename_i ys is hel
          split at hp
          ·rename_i v H' wr rd hap
           simp at hp; subst hp
           obtain ⟨h1,h2⟩:=hs rfl
           obtain ⟨u,g',e1,e2,e3,e4,e5⟩:=app_sound (P:=P) (ty:=o.type) hW h1 h2 ht htx hu hse hz hcond.1 hcond.2.1 hcond.2.2 hux (fun q hq=>hdn q (by rw [hq])) (eval_sound hT hx) (eval_sound hT hy) hel hap
           exact res_v (s:=Builtin.append_ argTypes o.type #[a.eval x,a.eval y]) e1 e2 e3 e4 e5
          ·simp at hp
         ·simp at hp
        ·simp at hc
       ·simp at hc
      ·simp at hc
     ·-- copy
      rename_i x y
      split at hc
      ·rename_i e hu
       simp only [Option.bind_eq_some_iff] at hu
       obtain ⟨t,ht,hu⟩:=hu
       simp only [Option.bind_eq_bind,Option.bind_eq_some_iff,Option.some.injEq] at hc
       obtain ⟨s,hse,xo,hx,yo,hy,rfl⟩:=hc
       simp only [pop] at hp
       split at hp
       ·rename_i r' k' gen off len ys is hxq hel
        split at hp
        ·rename_i k'' xs hb
         split at hp
         ·rename_i hcond
          obtain ⟨rfl,rfl,hg1,hle⟩:=hcond
          simp at hp; subst hp
          have hvx:=eval_sound hT hx
          rw [hxq] at hvx
          obtain ⟨g',e1,e2,e3,e4⟩:=copy_sound (P:=P) (ty:=o.type) hW ht hu hse hvx (eval_sound hT hy) hel hb hg1 hle
          exact res_v (s:=Builtin.copy_ argTypes o.type #[a.eval x,a.eval y]) e1 e2 e3 e4 (.val _)
         ·simp at hp
        ·simp at hp
       ·simp at hp
      ·simp at hc
     ·-- clear
      rename_i x
      split at hc
      ·rename_i e hu
       simp only [Option.bind_eq_some_iff] at hu
       obtain ⟨t,ht,hu⟩:=hu
       simp only [Option.bind_eq_bind,Option.bind_eq_some_iff] at hc
       obtain ⟨s,hse,z,hz,hc⟩:=hc
       split at hc
       ·rename_i hcond
        simp only [Option.bind_eq_some_iff,Option.some.injEq] at hc
        obtain ⟨xo,hx,rfl⟩:=hc
        have hvx:=eval_sound hT hx
        simp only [pop] at hp
        split at hp
        ·rename_i full hxq
         simp at hp; subst hp
         rw [hxq] at hvx
         exact res_same (s:=Builtin.clear_ argTypes o.type #[a.eval x]) hW (clr_empty (P:=P) ht hu hvx) rfl (.val _)
        ·rename_i r' k' gen off len hxq
         split at hp
         ·rename_i k'' xs hb
          split at hp
          ·rename_i hc2
           obtain ⟨rfl,hkz,hg1,hle⟩:=hc2
           simp at hp; subst hp
           rw [hxq] at hvx
           obtain ⟨g',e1,e2,e3,e4⟩:=clr_sound (P:=P) (ty:=o.type) hW ht hu hz hkz.symm hcond.2.2 hvx hb hg1 hle
           exact res_v (s:=Builtin.clear_ argTypes o.type #[a.eval x]) e1 e2 e3 e4 (.val _)
          ·simp at hp
         ·simp at hp
        ·simp at hp
       ·simp at hc
      ·simp at hc
     all_goals first
      | (simp at hc; done)
      | (simp only [Option.map_eq_some_iff] at hc
         obtain ⟨os,hos,rfl⟩:=hc
         simp only [pop] at hp
         split at hp
         ·rename_i vs hvs
          simp only [Option.map_eq_some_iff] at hp
          obtain ⟨p,hp,rfl⟩:=hp
          obtain ⟨v,r1,r2⟩:=fun_sound (P:=P) (g:=g) hp consts
          rw [toVss_sound hT hos hvs]
          exact ⟨_,v,g,r1,.inl rfl,rfl,hW,Ext.refl g,r2⟩
         ·simp at hp)
 | _=>simp [cOp,hop] at hc
end ops
end Go.Evl

namespace Go.Evl
open Go
theorem binds_any {m:Region.Mode} {e:Edge} (h:Region.binds .any e=true):Region.binds m e=true:=by
 unfold Region.binds at *
 cases hg:e.ground <;> rw [hg] at h <;> simp at h ⊢
 all_goals exact absurd h (by decide)
def Front (m:Region.Mode) (ops:Array Oper):List Nat→Prop
 | []=>True
 | i::rest=>i∉rest∧(∃ o,ops[i]?=some o∧∀ e∈o.after,Region.binds m e=true→e.on∈rest)∧Front m ops rest
theorem Front.lt {m:Region.Mode} {ops:Array Oper}:∀ {l:List Nat},Front m ops l→∀ i∈l,i < ops.size
 | i::rest,⟨_,⟨o,ho,_⟩,hr⟩,j,hj=>by
   rcases List.mem_cons.1 hj with rfl | hj
   ·exact (Array.getElem?_eq_some_iff.1 ho).1
   ·exact hr.lt j hj
theorem topoFrom_ready {m:Region.Mode} {ops:Array Oper}:∀ (W seen:List Nat),topoFrom m ops W seen=true→∀ (S:Nat→Prop),(∀ x∈seen,S x)→(∃ x∈W,¬ S x) →
  ∃ x∈W,¬ S x∧∃ o,ops[x]?=some o∧∀ e∈o.after,Region.binds m e=true→S e.on
 | [],seen,h,S,hs,⟨x,hx,_⟩=>by simp at hx
 | i::W,seen,h,S,hs,⟨x,hx,hn⟩=>by
   simp only [topoFrom,Bool.and_eq_true] at h
   obtain ⟨h1,h2⟩:=h
   by_cases hi:S i
   ·have hx':x∈W:=by
     rcases List.mem_cons.1 hx with rfl | hx
     ·exact (hn hi).elim
     ·exact hx
    obtain ⟨y,hy,a,b⟩:=topoFrom_ready W (i::seen) h2 S (fun z hz=>by rcases List.mem_cons.1 hz with rfl | hz; exact hi; exact hs z hz) ⟨x,hx',hn⟩
    exact ⟨y,by simp [hy],a,b⟩
   ·refine ⟨i,by simp,hi,?_⟩
    cases ho:ops[i]? with
    | none=>rw [ho] at h1; simp at h1
    | some o =>
      rw [ho] at h1
      refine ⟨o,rfl,fun e he hb=>?_⟩
      have h1':o.after.all (fun e=>!Region.binds m e || seen.contains e.on)=true:=h1
      have:=Array.all_eq_true_iff_forall_mem.1 h1' e he
      simp [hb] at this
      exact hs _ this
theorem go_front {m:Region.Mode} {ops:Array Oper} {W:List Nat} (hW:topo m ops W=true):∀ (fuel t:Nat) (listed:Array Bool) (acc:List Nat),listed.size=ops.size →
  (∀ i,i < ops.size→(listed.getD i true=true↔i∈acc))→(∀ i,listed.getD i false=true↔i∈acc)→Front m ops acc→acc.length+fuel=ops.size →
  ∃ l,Region.linearise.go m ops fuel t listed acc=l.reverse∧Front m ops l∧l.length=ops.size
 | 0,t,listed,acc,hs,h1,h2,hf,hl=>⟨acc,rfl,hf,by omega⟩
 | fuel+1,t,listed,acc,hs,h1,h2,hf,hl=>by
   unfold Region.linearise.go
   have hready:∀ i,i∈((List.range ops.size).filter fun i=>!listed.getD i true && ((ops[i]?).map (·.after.all fun e=>!Region.binds m e || listed.getD e.on false)).getD false) ↔
     i < ops.size∧i∉acc∧∃ o,ops[i]?=some o∧∀ e∈o.after,Region.binds m e=true→e.on∈acc:=by
    intro i
    rw [List.mem_filter,List.mem_range]
    constructor
    ·rintro ⟨hi,hc⟩
     simp only [Bool.and_eq_true,Bool.not_eq_true'] at hc
     obtain ⟨c1,c2⟩:=hc
     refine ⟨hi,fun hm=>by rw [(h1 i hi).2 hm] at c1; simp at c1,?_⟩
     cases ho:ops[i]? with
     | none=>rw [ho] at c2; simp at c2
     | some o =>
       rw [ho] at c2
       simp only [Option.map_some,Option.getD_some] at c2
       refine ⟨o,rfl,fun e he hb=>?_⟩
       have:=Array.all_eq_true_iff_forall_mem.1 c2 e he
       rw [hb] at this
       exact (h2 e.on).1 (by simpa using this)
    ·rintro ⟨hi,hn,o,ho,he⟩
     refine ⟨hi,?_⟩
     simp only [Bool.and_eq_true,Bool.not_eq_true']
     refine ⟨?_,?_⟩
     ·cases hc:listed.getD i true with
      | false=>rfl
      | true=>exact (hn ((h1 i hi).1 hc)).elim
     ·rw [ho]
      simp only [Option.map_some,Option.getD_some]
      refine Array.all_eq_true_iff_forall_mem.2 fun e hem=>?_
      cases hb:Region.binds m e with
      | false=>rfl
      | true=>simpa using (h2 e.on).2 (he e hem hb)
   generalize hrs:((List.range ops.size).filter fun i=>!listed.getD i true && ((ops[i]?).map (·.after.all fun e=>!Region.binds m e || listed.getD e.on false)).getD false)=rs at hready
   have hne:rs≠[]:=by
    simp only [topo,Bool.and_eq_true] at hW
    obtain ⟨w1,w2⟩:=hW
    have hleft:∃ x∈W,x∉acc∧x < ops.size:=by
     have hx:∃ x,x < ops.size∧x∉acc:=by
      apply Classical.byContradiction
      intro hno
      have hall:∀ x,x < ops.size→x∈acc:=fun x hx=>Classical.byContradiction fun h=>hno ⟨x,hx,h⟩
      have hsub:(List.range ops.size).length≤acc.length:=List.Nodup.length_le_of_subset List.nodup_range (fun x hx=>hall x (List.mem_range.1 hx))
      simp at hsub; omega
     obtain ⟨x,hx,hn⟩:=hx
     have:=List.all_eq_true.1 w2 x (List.mem_range.2 hx)
     exact ⟨x,by simpa using this,hn,hx⟩
    obtain ⟨x,hxW,hxn,hx⟩:=hleft
    obtain ⟨y,hy,hyn,o,ho,he⟩:=topoFrom_ready W [] w1 (·∈acc) (by simp) ⟨x,hxW,hxn⟩
    have:y∈rs:=(hready y).2 ⟨(Array.getElem?_eq_some_iff.1 ho).1,hyn,o,ho,he⟩
    intro h; rw [h] at this; simp at this
   have hpos:0 < rs.length:=List.length_pos_iff.2 hne
   have hlt:t % rs.length < rs.length:=Nat.mod_lt _ hpos
   simp only [List.getElem?_eq_getElem hlt]
   generalize hi:rs[t % rs.length]=i
   have hmem:i∈rs:=by rw [← hi]; exact List.getElem_mem hlt
   obtain ⟨hisz,hin,o,ho,he⟩:=(hready i).1 hmem
   refine go_front hW fuel _ _ (i::acc) (by simp [hs]) ?_ ?_ ⟨hin,⟨o,ho,he⟩,hf⟩ (by simp; omega)
   ·intro j hj
    simp only [Array.getD_eq_getD_getElem?,Array.getElem?_setIfInBounds]
    by_cases hij:i=j
    ·subst hij; simp [hs,hisz]
    ·have:=h1 j hj
     simp only [Array.getD_eq_getD_getElem?] at this
     simp [hij,this,Ne.symm hij]
   ·intro j
    simp only [Array.getD_eq_getD_getElem?,Array.getElem?_setIfInBounds]
    by_cases hij:i=j
    ·subst hij; simp [hs,hisz]
    ·have:=h2 j
     simp only [Array.getD_eq_getD_getElem?] at this
     simp [hij,this,Ne.symm hij]
theorem linearise_front {m:Region.Mode} {ops:Array Oper} {W:List Nat} (hW:topo m ops W=true) (t:Nat):∃ l,Region.linearise m ops t=l.reverse∧Front m ops l∧l.length=ops.size:=by
 refine go_front hW ops.size t _ [] (by simp) ?_ ?_ trivial (by simp)
 ·intro i hi; simp [Array.getD_eq_getD_getElem?,hi]
 ·intro i
  simp only [Array.getD_eq_getD_getElem?,Array.getElem?_replicate,List.not_mem_nil,iff_false]
  split <;> simp
theorem Front.any {m:Region.Mode} {ops:Array Oper}:∀ {l:List Nat},Front m ops l→Front .any ops l
 | [],_=>trivial
 | i::rest,⟨h1,⟨o,ho,he⟩,h3⟩=>⟨h1,⟨o,ho,fun e hem hb=>he e hem (binds_any hb)⟩,h3.any⟩
theorem Front.nodup {m:Region.Mode} {ops:Array Oper}:∀ {l:List Nat},Front m ops l→l.Nodup
 | [],_=>List.nodup_nil
 | i::rest,⟨h1,_,h3⟩=>List.nodup_cons.2 ⟨h1,h3.nodup⟩
theorem schedule_front {ops:Array Oper} (h:edgesOK ops=true) (mixed:Bool) (hm:mixed=false) (t:Nat):∃ l,Region.schedule mixed ops t=l.reverse∧Front .any ops l∧l.length=ops.size:=by
 subst hm
 simp only [edgesOK,Bool.and_eq_true] at h
 obtain ⟨h1,_⟩:=h
 unfold Region.schedule
 by_cases hd:Region.departs ops=true
 ·rw [if_pos hd] at h1
  simp only [Bool.and_eq_true] at h1
  simp only [hd,Bool.not_true,Bool.or_false,Bool.false_eq_true,if_false]
  split
  ·obtain ⟨l,e1,e2,e3⟩:=linearise_front h1.1 (t / 2); exact ⟨l,e1,e2.any,e3⟩
  ·obtain ⟨l,e1,e2,e3⟩:=linearise_front h1.2 (t / 2); exact ⟨l,e1,e2.any,e3⟩
 ·rw [if_neg hd] at h1
  have hd':Region.departs ops=false:=by simpa using hd
  simp only [hd',Bool.not_false,Bool.or_true,if_true]
  exact linearise_front h1 t
end Go.Evl

namespace Go.Evl
open Go
def bstep (acc:Array Nat) (o:Oper):Nat:=o.after.foldl (fun s e=>if Region.binds .any e then s ||| 2 ^ e.on ||| acc.getD e.on 0 else s) 0
theorem before_eq (ops:Array Oper):Region.before ops=ops.toList.foldl (fun acc o=>acc.push (bstep acc o)) #[]:=by
 unfold Region.before bstep
 rw [← Array.foldl_toList]
theorem bfold_keep:∀ (l:List Oper) (acc:Array Nat) (k:Nat),k < acc.size→(l.foldl (fun acc o=>acc.push (bstep acc o)) acc).getD k 0=acc.getD k 0
 | [],acc,k,h=>rfl
 | o::l,acc,k,h=>by
   rw [List.foldl_cons,bfold_keep l _ k (by simp; omega)]
   simp [Array.getD_eq_getD_getElem?,Array.getElem?_push,Nat.ne_of_lt h]
theorem bfold_at:∀ (l:List Oper) (acc:Array Nat) (i:Nat) (o:Oper),l[i]?=some o→∃ acc':Array Nat,(l.foldl (fun acc o=>acc.push (bstep acc o)) acc).getD (acc.size+i) 0=bstep acc' o∧acc'.size=acc.size+i ∧
  ∀ k,k < acc.size+i→acc'.getD k 0=(l.foldl (fun acc o=>acc.push (bstep acc o)) acc).getD k 0
 | [],acc,i,o,h=>by simp at h
 | x::l,acc,0,o,h=>by
   simp at h; subst h
   refine ⟨acc,?_,rfl,fun k hk=>?_⟩
   ·rw [List.foldl_cons,bfold_keep l _ _ (by simp)]
    simp [Array.getD_eq_getD_getElem?]
   ·rw [bfold_keep _ _ k (by simpa using hk)]
 | x::l,acc,i+1,o,h=>by
   obtain ⟨acc',h1,h2,h3⟩:=bfold_at l (acc.push (bstep acc x)) i o (by simpa using h)
   simp only [Array.size_push] at h1 h2 h3
   refine ⟨acc',?_,by omega,fun k hk=>?_⟩
   ·rw [List.foldl_cons,← h1]; congr 1; omega
   ·rw [List.foldl_cons]; exact h3 k (by omega)
theorem ors_bit (f:Edge→Nat) (l:List Edge) (j:Nat):∀ s,(l.foldl (fun s e=>if Region.binds .any e then s ||| 2 ^ e.on ||| f e else s) s).testBit j=true→s.testBit j=true∨∃ e∈l,Region.binds .any e=true∧(e.on=j∨(f e).testBit j=true):=by
 induction l with
 | nil=>intro s h; exact .inl h
 | cons e l ih =>
   intro s h
   rw [List.foldl_cons] at h
   rcases ih _ h with h | ⟨e',h1,h2⟩
   ·by_cases hb:Region.binds .any e=true
    ·rw [if_pos hb] at h
     simp only [Nat.testBit_or,Bool.or_eq_true] at h
     rcases h with (h | h) | h
     ·exact .inl h
     ·rw [Nat.testBit_two_pow] at h
      exact .inr ⟨e,by simp,hb,.inl (by simpa using h)⟩
     ·exact .inr ⟨e,by simp,hb,.inr h⟩
    ·rw [if_neg hb] at h; exact .inl h
   ·exact .inr ⟨e',by simp [h1],h2⟩
theorem before_bit {ops:Array Oper} (hb:edgesOK ops=true) {i j:Nat} {o:Oper} (ho:ops[i]?=some o) (h:((Region.before ops).getD i 0).testBit j=true) :
  ∃ e∈o.after,Region.binds .any e=true∧e.on < i∧(e.on=j∨((Region.before ops).getD e.on 0).testBit j=true):=by
 obtain ⟨acc',h1,h2,h3⟩:=bfold_at ops.toList #[] i o (by simpa using ho)
 simp only [Array.size_empty,Nat.zero_add] at h1 h2 h3
 rw [before_eq,h1] at h
 unfold bstep at h
 rw [← Array.foldl_toList] at h
 rcases ors_bit _ _ _ _ h with h | ⟨e,e1,e2,e3⟩
 ·simp at h
 ·have hlt:e.on < i:=by
   simp only [edgesOK,Bool.and_eq_true] at hb
   have hi:i < ops.size:=(Array.getElem?_eq_some_iff.1 ho).1
   have:=List.all_eq_true.1 hb.2 i (List.mem_range.2 hi)
   rw [ho] at this
   simp only [Bool.and_eq_true] at this
   have:=Array.all_eq_true_iff_forall_mem.1 this.1 e (by simpa using e1)
   simpa [e2] using this
  refine ⟨e,by simpa using e1,e2,hlt,?_⟩
  rcases e3 with e3 | e3
  ·exact .inl e3
  ·rw [h3 _ hlt] at e3
   rw [before_eq]; exact .inr e3
theorem Front.suffix {m:Region.Mode} {ops:Array Oper}:∀ {l:List Nat},Front m ops l→∀ x∈l,∃ B,Front m ops (x::B)∧∀ y∈B,y∈l
 | i::rest,h,x,hx=>by
   rcases List.mem_cons.1 hx with rfl | hx
   ·exact ⟨rest,h,fun y hy=>by simp [hy]⟩
   ·obtain ⟨B,h1,h2⟩:=h.2.2.suffix x hx
    exact ⟨B,h1,fun y hy=>by simp [h2 y hy]⟩
theorem before_mem {ops:Array Oper} (hb:edgesOK ops=true):∀ (n x:Nat),x < n→∀ (B:List Nat) (j:Nat),Front .any ops (x::B)→((Region.before ops).getD x 0).testBit j=true→j∈B
 | 0,x,hx,_,_,_,_=>by omega
 | n+1,x,hx,B,j,⟨h1,⟨o,ho,he⟩,h3⟩,hj=>by
   obtain ⟨e,e1,e2,e3,e4⟩:=before_bit hb ho hj
   have hB:=he e e1 e2
   rcases e4 with rfl | e4
   ·exact hB
   ·obtain ⟨B',b1,b2⟩:=h3.suffix e.on hB
    exact b2 j (before_mem hb n e.on (by omega) B' j b1 e4)
theorem front_pairwise {ops:Array Oper} (hb:edgesOK ops=true):∀ {l:List Nat},Front .any ops l→l.reverse.Pairwise fun x y=>((Region.before ops).getD x 0).testBit y=false
 | [],_=>by simp
 | i::rest,h=>by
   rw [List.reverse_cons,List.pairwise_append]
   refine ⟨front_pairwise hb h.2.2,by simp,fun x hx y hy=>?_⟩
   simp at hy; subst hy
   cases hc:((Region.before ops).getD x 0).testBit y with
   | false=>rfl
   | true =>
     obtain ⟨B,b1,b2⟩:=h.2.2.suffix x (by simpa using hx)
     exact (h.1 (b2 y (before_mem hb (x+1) x (Nat.lt_succ_self _) B y b1 hc))).elim
section run
variable {S A:Type} (step:Nat→S→Option (S × A)) (acc:Nat→A)
inductive Run:List Nat→S→S→Prop
 | nil (s:S):Run [] s s
 | cons {x:Nat} {l:List Nat} {s s1 s':S} (h:step x s=some (s1,acc x)) (hr:Run l s1 s'):Run (x::l) s s'
variable {step acc}
def Swap (step:Nat→S→Option (S × A)) (acc:Nat→A) (x y:Nat):Prop :=
 ∀ s s1 s2,step x s=some (s1,acc x)→step y s1=some (s2,acc y)→∃ s1',step y s=some (s1',acc y)∧step x s1'=some (s2,acc x)
theorem Run.front {y:Nat} {B:List Nat}:∀ {L:List Nat} {s s':S},Run step acc (L++y::B) s s'→(∀ x∈L,Swap step acc x y)→Run step acc (y::(L++B)) s s'
 | [],_,_,h,_=>h
 | x::L,s,s',.cons hx hr,hs=>by
   have h1:=Run.front hr fun z hz=>hs z (by simp [hz])
   cases h1 with
   | cons hy hr =>
     obtain ⟨s1',a,b⟩:=hs x (by simp) _ _ _ hx hy
     exact .cons a (.cons b hr)
theorem Run.perm {ord:Nat→Nat→Prop}:∀ {l T:List Nat} {s s':S},l.Perm T→T.Nodup→T.Pairwise (fun x y=>ord x y∨Swap step acc x y)→l.Pairwise (fun x y=>¬ ord y x)→Run step acc T s s'→Run step acc l s s'
 | [],T,s,s',hp,_,_,_,h=>by
   have:T=[]:=List.Perm.eq_nil hp.symm
   subst this; exact h
 | y::l,T,s,s',hp,hn,hpw,hl,h=>by
   have hy:y∈T:=hp.subset (by simp)
   obtain ⟨L,B,rfl⟩:=List.append_of_mem hy
   have hp':l.Perm (L++B):=by
    have:=hp.trans List.perm_middle
    exact List.Perm.cons_inv this
   rw [List.pairwise_append] at hpw
   obtain ⟨p1,p2,p3⟩:=hpw
   rw [List.pairwise_cons] at hl p2
   have hsw:∀ x∈L,Swap step acc x y:=by
    intro x hx
    rcases p3 x hx y (by simp) with h | h
    ·have hxl:x∈l:=hp'.symm.subset (by simp [hx])
     exact (hl.1 x hxl h).elim
    ·exact h
   have hf:=Run.front h hsw
   cases hf with
   | cons hst hr =>
     refine .cons hst (Run.perm hp' ?_ ?_ hl.2 hr)
     ·have:=List.perm_middle.nodup_iff.1 hn
      exact (List.nodup_cons.1 this).2
     ·rw [List.pairwise_append]
      exact ⟨p1,p2.2,fun x hx z hz=>p3 x hx z (by simp [hz])⟩
end run
end Go.Evl

namespace Go.Evl
open Go
def Heap.patch (H h:Heap) (wr:List Nat):Heap:=⟨H.n,fun i=>if i∈wr then h.at_ i else H.at_ i⟩
theorem Heap.ext' {H H':Heap} (hn:H.n=H'.n) (h:∀ i,H.at_ i=H'.at_ i):H=H':=by
 cases H; cases H'; simp at hn h; subst hn; congr; funext i; exact h i
def Agree (H' H:Heap):Option (List Nat)→Prop
 | some is=>H'.n=H.n∧∀ i∈is,H'.at_ i=H.at_ i
 | none=>H'=H
theorem Agree.n {H' H:Heap}:∀ {rd:Option (List Nat)},Agree H' H rd→H'.n=H.n
 | some _,h=>h.1
 | none,h=>by rw [show H'=H from h]
structure Local (f:Tm→Heap→Option ORes) (σ:Tm) (H:Heap) (uses:Tm→Tm→Prop) (r:ORes):Prop where
 n:r.h.n=H.n
 frame:∀ i,i∉r.wr→r.h.at_ i=H.at_ i
 again:∀ σ' H',uses σ' σ→Agree H' H r.rd→f σ' H'=some ⟨r.v,H'.patch r.h r.wr,r.wr,r.rd⟩
theorem patch_nil (H h:Heap):H.patch h []=H:=Heap.ext' rfl fun i=>by simp [Heap.patch]
theorem patch_put (H H':Heap) (r:Nat) (b:Blk):H'.patch (H.put r b) [r]=H'.put r b:=Heap.ext' rfl fun i=>by
 by_cases h:i=r <;> simp [Heap.patch,Heap.put,h]
theorem patch_freeze {H H':Heap} {is:List Nat} (h:∀ i∈is,H'.at_ i=H.at_ i):H'.patch (freeze H is) is=freeze H' is:=Heap.ext' (freeze_n H' is).symm fun i=>by
 rw [freeze_at]
 by_cases hi:i∈is
 ·simp [Heap.patch,hi,freeze_at,h i hi]
 ·simp [Heap.patch,hi]
def SameO (c:COp) (σ' σ:Tm):Prop:=∀ o∈c.uses,evO σ' o=evO σ o
theorem fillP_congr {σ σ':Tm}:∀ {ps:List (Nat × Nat × O)} {cells:List PV},(∀ o∈ps.map (fun p=>p.2.2),evO σ' o=evO σ o)→fillP σ' cells ps=fillP σ cells ps
 | [],_,_=>rfl
 | (off,s,x)::ps,cells,h=>by
   have hx:evO σ' x=evO σ x:=h x (by simp)
   simp only [fillP,hx]
   split
   ·exact fillP_congr fun o ho=>h o (by simp at ho ⊢; exact .inr ho)
   ·rfl
theorem toVss_congr {σ σ':Tm}:∀ {xs:List O},(∀ o∈xs,evO σ' o=evO σ o)→toVss σ' xs=toVss σ xs
 | [],_=>rfl
 | x::xs,h=>by simp only [toVss,h x (by simp),toVss_congr (xs:=xs) fun o ho=>h o (List.mem_cons_of_mem _ ho)]
theorem optI_congr {σ σ':Tm} {x:Option O} (h:∀ o∈x.toList,evO σ' o=evO σ o):optI σ' x=optI σ x:=by
 cases x with
 | none=>rfl
 | some x=>simp only [optI,h x (by simp)]
theorem loadC_local {H H':Heap} {p:PV} {n:Nat} {cs:List PV} {is:List Nat} (h:loadC H p n=some (cs,is)) (ha:∀ i∈is,H'.at_ i=H.at_ i):loadC H' p n=some (cs,is):=by
 unfold loadC at h ⊢
 cases p with
 | ptr r o =>
   simp only at h ⊢
   split at h
   ·rename_i cs' hb
    simp only [Option.map_eq_some_iff] at h
    obtain ⟨l,hl,he⟩:=h
    simp at he; obtain ⟨rfl,rfl⟩:=he
    rw [ha r (by simp),hb]; simp [hl]
   ·simp at h
 | rp r k gen i j =>
   simp only at h ⊢
   split at h
   ·rename_i k' xs own hb
    split at h
    ·rename_i hc
     split at h
     ·rename_i x hx
      simp only [Option.map_eq_some_iff] at h
      obtain ⟨l,hl,he⟩:=h
      simp at he; obtain ⟨rfl,rfl⟩:=he
      rw [ha r (by simp),hb]; simp [hc,hl,hx]
     ·simp at h
    ·simp at h
   ·simp at h
 | ip xs i j=>exact h
 | _=>simp at h
theorem loadP_local {H H':Heap} {p:PV} {n:Nat} {agg:Bool} {v:PV} {is:List Nat} (h:loadP H n agg p=some (v,is)) (ha:∀ i∈is,H'.at_ i=H.at_ i):loadP H' n agg p=some (v,is):=by
 unfold loadP at h ⊢
 split at h
 ·rename_i cs is' hl
  simp only [Option.map_eq_some_iff] at h
  obtain ⟨u,hu,he⟩:=h
  simp at he; obtain ⟨rfl,rfl⟩:=he
  rw [loadC_local hl ha]; simp [hu]
 ·simp at h
theorem storeC_local {H H1:Heap} {p:PV} {vs:List PV} {r:Nat} (h:storeC H p vs=some (H1,r)):(∃ b,H1=H.put r b∧∀ H',H'.at_ r=H.at_ r→storeC H' p vs=some (H'.put r b,r)):=by
 unfold storeC at h
 cases p with
 | ptr r' o =>
   simp only at h
   split at h
   ·rename_i cs hb
    split at h
    ·rename_i hc
     simp at h; obtain ⟨rfl,rfl⟩:=h
     exact ⟨_,rfl,fun H' ha=>by unfold storeC; simp only; rw [ha,hb]; simp [hc]⟩
    ·simp at h
   ·simp at h
 | rp r' k gen i j =>
   simp only at h
   split at h
   ·rename_i k' xs hb
    split at h
    ·rename_i hc
     split at h
     ·rename_i x hx
      split at h
      ·rename_i hl
       simp at h; obtain ⟨rfl,rfl⟩:=h
       exact ⟨_,rfl,fun H' ha=>by unfold storeC; simp only; rw [ha,hb]; simp [hc,hx,hl]⟩
      ·simp at h
     ·simp at h
    ·simp at h
   ·simp at h
 | _=>simp at h
theorem elems_local {H H':Heap} {k:Nat} {p:PV} {ys:List (List PV)} {is:List Nat} (h:elems H k p=some (ys,is)) (ha:∀ i∈is,H'.at_ i=H.at_ i):elems H' k p=some (ys,is):=by
 unfold elems at h ⊢
 cases p with
 | sl r k' gen off len =>
   simp only at h ⊢
   split at h
   ·rename_i k'' xs own hb
    split at h
    ·rename_i hc
     simp at h; obtain ⟨rfl,rfl⟩:=h
     rw [ha r (by simp),hb]; simp only [if_pos hc]
    ·simp at h
   ·simp at h
 | val v=>(cases v <;> first | exact h | (rename_i n c; cases n <;> exact h))
 | _=>exact h
theorem expC1_local {H H':Heap} {p q:PV} {is:List Nat} (h:expC1 H p=some (q,is)) (ha:∀ i∈is,H'.at_ i=H.at_ i):expC1 H' p=some (q,is):=by
 unfold expC1 at h ⊢
 cases p with
 | sl r k gen off len =>
   simp only at h ⊢
   split at h
   ·rename_i k'' xs own hb
    split at h
    ·rename_i hc
     split at h
     ·rename_i ys hys
      simp at h; obtain ⟨rfl,rfl⟩:=h
      rw [ha r (by simp),hb]; simp only [if_pos hc,hys]
     ·simp at h
    ·simp at h
   ·simp at h
 | fn f cs=>cases cs <;> exact h
 | _=>exact h
theorem expCs1_local {H H':Heap}:∀ {ps qs:List PV} {is:List Nat},expCs1 H ps=some (qs,is)→(∀ i∈is,H'.at_ i=H.at_ i)→expCs1 H' ps=some (qs,is)
 | [],_,_,h,_=>h
 | p::ps,qs,is,h,ha=>by
   simp only [expCs1] at h ⊢
   split at h
   ·rename_i q i1 qs' i2 h1 h2
    simp at h; obtain ⟨rfl,rfl⟩:=h
    rw [expC1_local h1 fun i hi=>ha i (by simp [hi]),expCs1_local h2 fun i hi=>ha i (by simp [hi])]
   ·simp at h
theorem expRs_local {H H':Heap}:∀ {ps qs:List (List PV)} {is:List Nat},expRs H ps=some (qs,is)→(∀ i∈is,H'.at_ i=H.at_ i)→expRs H' ps=some (qs,is)
 | [],_,_,h,_=>h
 | p::ps,qs,is,h,ha=>by
   simp only [expRs] at h ⊢
   split at h
   ·rename_i q i1 qs' i2 h1 h2
    simp at h; obtain ⟨rfl,rfl⟩:=h
    rw [expCs1_local h1 fun i hi=>ha i (by simp [hi]),expRs_local h2 fun i hi=>ha i (by simp [hi])]
   ·simp at h
theorem expC_local {H H':Heap} {p q:PV} {is:List Nat} (h:expC H p=some (q,is)) (ha:∀ i∈is,H'.at_ i=H.at_ i):expC H' p=some (q,is):=by
 unfold expC at h ⊢
 cases p with
 | sl r k gen off len =>
   simp only at h ⊢
   split at h
   ·rename_i k'' xs own hb
    split at h
    ·rename_i hc
     split at h
     ·rename_i ys hys
      simp at h; obtain ⟨rfl,rfl⟩:=h
      rw [ha r (by simp),hb]; simp only [if_pos hc,hys]
     ·rename_i hn
      split at h
      ·rename_i ys js hys
       simp at h; obtain ⟨rfl,rfl⟩:=h
       rw [ha r (by simp),hb]; simp only [if_pos hc,hn,expRs_local hys fun i hi=>ha i (by simp [hi])]
      ·simp at h
    ·simp at h
   ·simp at h
 | fn f cs=>cases cs <;> exact h
 | _=>exact h
theorem expCs_local {H H':Heap}:∀ {ps qs:List PV} {is:List Nat},expCs H ps=some (qs,is)→(∀ i∈is,H'.at_ i=H.at_ i)→expCs H' ps=some (qs,is)
 | [],_,_,h,_=>h
 | p::ps,qs,is,h,ha=>by
   simp only [expCs] at h ⊢
   split at h
   ·rename_i q i1 qs' i2 h1 h2
    simp at h; obtain ⟨rfl,rfl⟩:=h
    rw [expC_local h1 fun i hi=>ha i (by simp [hi]),expCs_local h2 fun i hi=>ha i (by simp [hi])]
   ·simp at h
theorem expA_local {H H':Heap} {p q:PV} {is:List Nat} (h:expA H p=some (q,is)) (ha:∀ i∈is,H'.at_ i=H.at_ i):expA H' p=some (q,is):=by
 unfold expA at h ⊢
 cases p with
 | agg cs =>
   simp only at h ⊢
   split at h
   ·rename_i cs' js h1
    simp at h; obtain ⟨rfl,rfl⟩:=h
    rw [expCs_local h1 ha]
   ·simp at h
 | _=>exact expC_local h ha
theorem expAs_local {H H':Heap}:∀ {ps qs:List PV} {is:List Nat},expAs H ps=some (qs,is)→(∀ i∈is,H'.at_ i=H.at_ i)→expAs H' ps=some (qs,is)
 | [],_,_,h,_=>h
 | p::ps,qs,is,h,ha=>by
   simp only [expAs] at h ⊢
   split at h
   ·rename_i q i1 qs' i2 h1 h2
    simp at h; obtain ⟨rfl,rfl⟩:=h
    rw [expA_local h1 fun i hi=>ha i (by simp [hi]),expAs_local h2 fun i hi=>ha i (by simp [hi])]
   ·simp at h
theorem sliceP_local {H H':Heap} {s:Nat} {x:PV} {lo hi mx:Option Nat} {v:PV} {is:List Nat} (h:sliceP H s x lo hi mx=some (v,is)) (ha:∀ i∈is,H'.at_ i=H.at_ i):sliceP H' s x lo hi mx=some (v,is):=by
 unfold sliceP at h ⊢
 cases x with
 | sl r k gen off len =>
   simp only at h ⊢
   split at h
   ·rename_i k' xs own hb
    split at h
    ·rename_i hc
     have hr:is=[r]:=by
      split at h
      ·split at h <;> (simp at h; exact h.2.symm)
      ·split at h
       ·simp at h; exact h.2.symm
       ·split at h
        ·simp at h; exact h.2.symm
        ·simp at h
     rw [ha r (by simp [hr]),hb]
     simp only [if_pos hc] at h ⊢
     exact h
    ·simp at h
   ·simp at h
 | val v=>cases v <;> exact h
 | _=>exact h
theorem appendP_local {H H1:Heap} {slot k:Nat} {base v:PV} {ys:List (List PV)} {wr rd:List Nat} (h:appendP H slot k base ys=some (v,H1,wr,rd)) :
  H1.n=H.n∧(∀ i,i∉wr→H1.at_ i=H.at_ i)∧∀ H',H'.n=H.n→(∀ i∈rd,H'.at_ i=H.at_ i)→appendP H' slot k base ys=some (v,H'.patch H1 wr,wr,rd):=by
 unfold appendP at h
 split at h
 ·rename_i h0
  split at h
  ·simp at h; obtain ⟨rfl,rfl,rfl,rfl⟩:=h
   exact ⟨rfl,fun _ _=>rfl,fun H' hn ha=>by unfold appendP; rw [if_pos h0,patch_nil]⟩
  ·simp at h; obtain ⟨rfl,rfl,rfl,rfl⟩:=h
   exact ⟨rfl,fun _ _=>rfl,fun H' hn ha=>by unfold appendP; rw [if_pos h0,patch_nil]⟩
  ·simp at h
 ·rename_i h0
  split at h
  ·rename_i xs
   split at h
   ·rename_i hc
    simp at h; obtain ⟨rfl,rfl,rfl,rfl⟩:=h
    exact ⟨rfl,fun i hi=>Heap.put_other _ _ (by simpa using hi),fun H' hn ha=>by unfold appendP; rw [if_neg h0,patch_put]; simp [hc]⟩
   ·simp at h
  ·rename_i r k' gen off len
   split at h
   ·rename_i k'' xs hb
    split at h
    ·rename_i hc
     split at h
     ·rename_i hin
      simp at h; obtain ⟨rfl,rfl,rfl,rfl⟩:=h
      exact ⟨rfl,fun i hi=>Heap.put_other _ _ (by simpa using hi),fun H' hn ha=>by unfold appendP; rw [if_neg h0,patch_put]; simp only; rw [ha r (by simp),hb]; simp only [if_pos hc,if_pos hin]⟩
     ·rename_i hin
      split at h
      ·rename_i hoff
       simp at h; obtain ⟨rfl,rfl,rfl,rfl⟩:=h
       exact ⟨rfl,fun i hi=>Heap.put_other _ _ (by simpa using hi),fun H' hn ha=>by unfold appendP; rw [if_neg h0,patch_put]; simp only; rw [ha r (by simp),hb]; simp only [if_pos hc,if_neg hin,if_pos hoff]⟩
      ·simp at h
    ·simp at h
   ·simp at h
  ·simp at h
end Go.Evl

namespace Go.Evl
open Go
variable {P:Program}
def LocalAt (f:Tm→Heap→Option ORes) (co:COp) (σ:Tm) (H:Heap) (r:ORes):Prop :=
 r.h.n=H.n∧(∀ i,i∉r.wr→r.h.at_ i=H.at_ i)∧∀ σ' H',SameO co σ' σ→Agree H' H r.rd→f σ' H'=some ⟨r.v,H'.patch r.h r.wr,r.wr,r.rd⟩
theorem local_same {f:Tm→Heap→Option ORes} {co:COp} {σ:Tm} {H:Heap} {v:PV} {rd:List Nat} (h:∀ σ' H',SameO co σ' σ→(∀ i∈rd,H'.at_ i=H.at_ i)→f σ' H'=some ⟨v,H',[],some rd⟩):LocalAt f co σ H ⟨v,H,[],some rd⟩ :=
 ⟨rfl,fun _ _=>rfl,fun σ' H' hs ha=>by rw [h σ' H' hs ha.2,patch_nil]⟩
theorem local_put {f:Tm→Heap→Option ORes} {co:COp} {σ:Tm} {H:Heap} {v:PV} {rd:List Nat} {r:Nat} {b:Blk} (h:∀ σ' H',SameO co σ' σ→(∀ i∈rd,H'.at_ i=H.at_ i)→f σ' H'=some ⟨v,H'.put r b,[r],some rd⟩):LocalAt f co σ H ⟨v,H.put r b,[r],some rd⟩ :=
 ⟨rfl,fun i hi=>Heap.put_other _ _ (by simpa using hi),fun σ' H' hs ha=>by rw [h σ' H' hs ha.2,patch_put]⟩
theorem pop_local {σ:Tm} {H:Heap} {slot:Nat} {co:COp} {r:ORes} (hp:pop P σ H slot co=some r):LocalAt (fun σ H=>pop P σ H slot co) co σ H r:=by
 cases co with
 | mv x =>
   simp [pop,ret1] at hp; subst hp
   exact local_same fun σ' H' hs ha=>by simp [pop,ret1,hs x (by simp [COp.uses])]
 | pick c x y =>
   simp only [pop] at hp
   split at hp
   ·rename_i t ht
    simp [ret1] at hp; subst hp
    refine local_same fun σ' H' hs ha=>?_
    have h1:=hs c (by simp [COp.uses]); have h2:=hs x (by simp [COp.uses]); have h3:=hs y (by simp [COp.uses])
    simp only [pop,h1,ht,h2,h3,ret1]
   ·simp at hp
 | alloc z =>
   simp [pop] at hp; subst hp
   exact local_put fun σ' H' hs ha=>rfl
 | box x =>
   simp only [pop] at hp
   split at hp
   ·rename_i hc
    simp at hp; subst hp
    refine local_put fun σ' H' hs ha=>?_
    have h1:=hs x (by simp [COp.uses])
    simp only [pop,h1,if_pos hc]
   ·simp at hp
 | build z ps =>
   simp only [pop,Option.map_eq_some_iff] at hp
   obtain ⟨cs,hcs,rfl⟩:=hp
   refine local_same fun σ' H' hs ha=>?_
   simp only [pop,fillP_congr (σ:=σ) (σ':=σ') (fun o ho=>hs o (by simpa [COp.uses] using ho)),hcs,Option.map_some]; rfl
 | bsl k n z ps =>
   simp only [pop] at hp
   split at hp
   ·rename_i cs is he
    simp at hp; subst hp
    simp only [Option.bind_eq_some_iff] at he
    obtain ⟨c0,hf,he⟩:=he
    refine ⟨freeze_n _ _,fun i hi=>by simp only at hi; rw [freeze_at,if_neg hi],fun σ' H' hs ha=>?_⟩
    simp only [pop,fillP_congr (σ:=σ) (σ':=σ') (fun o ho=>hs o (by simpa [COp.uses] using ho)),hf,Option.bind_some,expCs_local he ha.2,patch_freeze ha.2]
   ·simp at hp
 | brow k n z ps =>
   simp only [pop] at hp
   split at hp
   ·rename_i cs hf
    simp at hp; subst hp
    refine local_put fun σ' H' hs ha=>?_
    simp only [pop,fillP_congr (σ:=σ) (σ':=σ') (fun o ho=>hs o (by simpa [COp.uses] using ho)),hf]
   ·simp at hp
 | ld n agg x =>
   simp only [pop] at hp
   split at hp
   ·rename_i v is hl
    simp at hp; subst hp
    refine local_same fun σ' H' hs ha=>?_
    have h1:=hs x (by simp [COp.uses])
    simp only [pop,h1,loadP_local hl ha]
   ·simp at hp
 | st n p x =>
   simp only [pop] at hp
   split at hp
   ·rename_i hc
    split at hp
    ·rename_i H1 r' hst
     simp at hp; subst hp
     obtain ⟨b,rfl,hag⟩:=storeC_local hst
     refine local_put fun σ' H' hs ha=>?_
     have h1:=hs p (by simp [COp.uses]); have h2:=hs x (by simp [COp.uses])
     simp only [pop,h1,h2,if_pos hc,hag H' (ha r' (by simp))]
    ·simp at hp
   ·simp at hp
 | nck x =>
   have key:r=ret1 H (evO σ x)∧∀ σ' H',evO σ' x=evO σ x→pop P σ' H' slot (.nck x)=some (ret1 H' (evO σ x)):=by
    simp only [pop] at hp
    split at hp <;> simp at hp <;> subst hp <;> rename_i hq <;> exact ⟨by rw [hq],fun σ' H' h=>by simp only [pop,h,hq]⟩
   obtain ⟨rfl,hk⟩:=key
   exact local_same fun σ' H' hs ha=>hk σ' H' (hs x (by simp [COp.uses]))
 | bin op t cx cy x y =>
   simp only [pop,Option.map_eq_some_iff] at hp
   obtain ⟨v,hv,rfl⟩:=hp
   refine local_same fun σ' H' hs ha=>?_
   have h1:=hs x (by simp [COp.uses]); have h2:=hs y (by simp [COp.uses])
   simp only [pop,h1,h2,hv,Option.map_some]; rfl
 | nilq neg c x y =>
   simp only [pop,Option.map_eq_some_iff] at hp
   obtain ⟨v,hv,rfl⟩:=hp
   refine local_same fun σ' H' hs ha=>?_
   have h1:=hs x (by simp [COp.uses]); have h2:=hs y (by simp [COp.uses])
   simp only [pop,h1,h2,hv,Option.map_some]; rfl
 | un op x =>
   simp only [pop] at hp
   split at hp
   ·rename_i u hu
    simp only [Option.map_eq_some_iff] at hp
    obtain ⟨v,hv,rfl⟩:=hp
    refine local_same fun σ' H' hs ha=>?_
    have h1:=hs x (by simp [COp.uses])
    simp only [pop,h1,hu,hv,Option.map_some]; rfl
   ·simp at hp
 | cv s d x =>
   simp only [pop] at hp
   split at hp
   ·rename_i u hu
    simp only [Option.map_eq_some_iff] at hp
    obtain ⟨v,hv,rfl⟩:=hp
    refine local_same fun σ' H' hs ha=>?_
    have h1:=hs x (by simp [COp.uses])
    simp only [pop,h1,hu,hv,Option.map_some]; rfl
   ·simp at hp
 | s2b x =>
   simp only [pop] at hp
   split at hp
   ·rename_i b hb
    simp at hp; subst hp
    refine local_same fun σ' H' hs ha=>?_
    have h1:=hs x (by simp [COp.uses])
    simp only [pop,h1,hb]; rfl
   ·simp at hp
 | b2s x =>
   simp only [pop] at hp
   split at hp
   ·simp at hp
   ·rename_i y hny
    split at hp
    ·rename_i xs is hel
     split at hp
     ·rename_i bs hbs
      simp at hp; subst hp
      refine local_same fun σ' H' hs ha=>?_
      have h1:=hs x (by simp [COp.uses])
      simp only [pop,h1,elems_local hel ha,hbs]
     ·simp at hp
    ·simp at hp
 | fld off n agg x =>
   simp only [pop] at hp
   split at hp
   ·rename_i cs hcs
    split at hp
    ·rename_i v hv
     simp at hp; subst hp
     refine local_same fun σ' H' hs ha=>?_
     have h1:=hs x (by simp [COp.uses])
     simp only [pop,h1,hcs,hv]; rfl
    ·simp at hp
   ·simp at hp
 | fad off x =>
   simp only [pop,Option.map_eq_some_iff] at hp
   obtain ⟨v,hv,rfl⟩:=hp
   refine local_same fun σ' H' hs ha=>?_
   have h1:=hs x (by simp [COp.uses])
   simp only [pop,h1,hv,Option.map_some]; rfl
 | ixa len s agg x i =>
   simp only [pop] at hp
   split at hp
   ·rename_i cs n hcs hn
    split at hp
    ·rename_i h0
     split at hp
     ·rename_i v hv
      simp at hp; subst hp
      refine local_same fun σ' H' hs ha=>?_
      have h1:=hs x (by simp [COp.uses]); have h2:=hs i (by simp [COp.uses])
      simp only [pop,h1,h2,hcs,hn,if_pos h0,hv]; rfl
     ·simp at hp
    ·simp at hp
   ·simp at hp
 | ixs x i =>
   simp only [pop] at hp
   split at hp
   ·rename_i s n hcs hn
    split at hp
    ·rename_i h0
     split at hp
     ·rename_i v hv
      simp at hp; subst hp
      refine local_same fun σ' H' hs ha=>?_
      have h1:=hs x (by simp [COp.uses]); have h2:=hs i (by simp [COp.uses])
      simp only [pop,h1,h2,hcs,hn,if_pos h0,hv]; rfl
     ·simp at hp
    ·simp at hp
   ·simp at hp
 | iaa len s x i =>
   simp only [pop] at hp
   split at hp
   ·rename_i n hn
    split at hp
    ·rename_i h0
     simp only [Option.map_eq_some_iff] at hp
     obtain ⟨v,hv,rfl⟩:=hp
     refine local_same fun σ' H' hs ha=>?_
     have h1:=hs x (by simp [COp.uses]); have h2:=hs i (by simp [COp.uses])
     simp only [pop,h1,h2,hn,if_pos h0,hv,Option.map_some]; rfl
    ·simp at hp
   ·simp at hp
 | ias s x i =>
   simp only [pop] at hp
   split at hp
   ·rename_i xs full n hx hn
    split at hp
    ·rename_i h0
     simp at hp; subst hp
     refine local_same fun σ' H' hs ha=>?_
     have h1:=hs x (by simp [COp.uses]); have h2:=hs i (by simp [COp.uses])
     simp only [pop,h1,h2,hx,hn,if_pos h0]; rfl
    ·simp at hp
   ·rename_i r' k gen off len n hx hn
    split at hp
    ·rename_i h0
     simp at hp; subst hp
     refine local_same fun σ' H' hs ha=>?_
     have h1:=hs x (by simp [COp.uses]); have h2:=hs i (by simp [COp.uses])
     simp only [pop,h1,h2,hx,hn,if_pos h0]; rfl
    ·simp at hp
   ·simp at hp
 | slc s x lo hi mx =>
   simp only [pop] at hp
   split at hp
   ·rename_i lo' hi' mx' e1 e2 e3
    split at hp
    ·rename_i v is hsl
     simp at hp; subst hp
     refine local_same fun σ' H' hs ha=>?_
     have h1:=hs x (by simp [COp.uses])
     have h2:=optI_congr (x:=lo) (fun o ho=>hs o (by simp [COp.uses] at ho ⊢; simp [ho]))
     have h3:=optI_congr (x:=hi) (fun o ho=>hs o (by simp [COp.uses] at ho ⊢; simp [ho]))
     have h4:=optI_congr (x:=mx) (fun o ho=>hs o (by simp [COp.uses] at ho ⊢; simp [ho]))
     simp only [pop,h1,h2,h3,h4,e1,e2,e3,sliceP_local hsl ha]
    ·simp at hp
   ·simp at hp
 | mkf f caps =>
   simp [pop,ret1] at hp; subst hp
   refine local_same fun σ' H' hs ha=>?_
   have h1:caps.map (evO σ')=caps.map (evO σ):=List.map_congr_left fun o ho=>hs o (by simpa [COp.uses] using ho)
   simp only [pop,h1]; rfl
 | ext x i =>
   simp only [pop] at hp
   split at hp
   ·rename_i vs hvs
    simp only [Option.map_eq_some_iff] at hp
    obtain ⟨v,hv,rfl⟩:=hp
    refine local_same fun σ' H' hs ha=>?_
    have h1:=hs x (by simp [COp.uses])
    simp only [pop,h1,hvs,hv,Option.map_some]; rfl
   ·simp at hp
 | len b x =>
   simp only [pop,Option.map_eq_some_iff] at hp
   obtain ⟨v,hv,rfl⟩:=hp
   refine local_same fun σ' H' hs ha=>?_
   have h1:=hs x (by simp [COp.uses])
   simp only [pop,h1,hv,Option.map_some]; rfl
 | app k x y =>
   simp only [pop] at hp
   split at hp
   ·rename_i ys is hel
    split at hp
    ·rename_i v H1 wr rd hap
     simp at hp; subst hp
     obtain ⟨a1,a2,a3⟩:=appendP_local hap
     refine ⟨a1,a2,fun σ' H' hs ha=>?_⟩
     have h1:=hs x (by simp [COp.uses]); have h2:=hs y (by simp [COp.uses])
     have ha2:∀ i∈rd++is,H'.at_ i=H.at_ i:=ha.2
     simp only [pop,h1,h2,elems_local hel (fun i hi=>ha2 i (by simp [hi])),a3 H' ha.1 (fun i hi=>ha2 i (by simp [hi]))]
    ·simp at hp
   ·simp at hp
 | copy k x y =>
   simp only [pop] at hp
   split at hp
   ·rename_i r' k' gen off len ys is hx hel
    split at hp
    ·rename_i k'' xs hb
     split at hp
     ·rename_i hc
      simp at hp; subst hp
      refine local_put fun σ' H' hs ha=>?_
      have h1:=hs x (by simp [COp.uses]); have h2:=hs y (by simp [COp.uses])
      simp only [pop,h1,h2,hx,elems_local hel (fun i hi=>ha i (by simp [hi])),ha r' (by simp),hb,if_pos hc]
     ·simp at hp
    ·simp at hp
   ·simp at hp
 | clr z x =>
   simp only [pop] at hp
   split at hp
   ·rename_i full hx
    simp at hp; subst hp
    refine local_same fun σ' H' hs ha=>?_
    have h1:=hs x (by simp [COp.uses])
    simp only [pop,h1,hx]; rfl
   ·rename_i r' k gen off len hx
    split at hp
    ·rename_i k' xs hb
     split at hp
     ·rename_i hc
      simp at hp; subst hp
      refine local_put fun σ' H' hs ha=>?_
      have h1:=hs x (by simp [COp.uses])
      simp only [pop,h1,hx,ha r' (by simp),hb,if_pos hc]
     ·simp at hp
    ·simp at hp
   ·simp at hp
 | fun_ b ts t xs =>
   simp only [pop] at hp
   split at hp
   ·rename_i vs hvs
    simp only [Option.map_eq_some_iff] at hp
    obtain ⟨v,hv,rfl⟩:=hp
    refine local_same fun σ' H' hs ha=>?_
    simp only [pop,toVss_congr (σ:=σ) (σ':=σ') (xs:=xs) (fun o ho=>hs o (by simpa [COp.uses] using ho)),hvs,hv,Option.map_some]; rfl
   ·simp at hp
 | call g xs=>simp [pop] at hp
 | bad=>simp [pop] at hp
theorem pop_quiet {σ:Tm} {H:Heap} {slot:Nat} {co:COp} {r:ORes} (hp:pop P σ H slot co=some r) (hq:quietC co=true):r.wr=[]∧r.rd=some []:=by
 cases co <;> simp [quietC] at hq <;> simp only [pop,ret1] at hp <;> (repeat' split at hp) <;> first
  | (simp at hp; done)
  | (simp only [Option.map_eq_some_iff] at hp; obtain ⟨_,_,rfl⟩:=hp; exact ⟨rfl,rfl⟩)
  | (simp only [Option.some.injEq] at hp; subst hp; exact ⟨rfl,rfl⟩)
theorem pop_reads {σ:Tm} {H:Heap} {slot:Nat} {co:COp} {r:ORes} (hp:pop P σ H slot co=some r) (hq:readC co=true):r.wr=[]∧r.rd≠none:=by
 cases co <;> simp [readC] at hq <;> simp only [pop,ret1] at hp <;> (repeat' split at hp) <;> first
  | (simp at hp; done)
  | (simp only [Option.some.injEq] at hp; subst hp; exact ⟨rfl,by simp⟩)
end Go.Evl

namespace Go.Evl
open Go
theorem ev_mono (E:Env):∀ n,(∀ c f args H r,evCall E n c f args H=some r→evCall E (n+1) c f args H=some r)∧(∀ f σ H slot o r,evOp E n f σ H slot o=some r→evOp E (n+1) f σ H slot o=some r) ∧
  (∀ f l i slot st log r,evOps E n f l i slot st log=some r→evOps E (n+1) f l i slot st log=some r)∧(∀ f c st r,ev E n f c st=some r→ev E (n+1) f c st=some r):=by
 intro n
 induction n with
 | zero =>
   refine ⟨fun c f args H r h=>by simp [evCall] at h,fun f σ H slot o r h=>by simp [evOp] at h,fun f l i slot st log r h=>?_,fun f c st r h=>by simp [ev] at h⟩
   cases l with
   | nil=>simpa [evOps] using h
   | cons x l=>simp [evOps] at h
 | succ n ih =>
   obtain ⟨ih1,ih2,ih3,ih4⟩:=ih
   refine ⟨?_,?_,?_,?_⟩
   ·intro c f args H r h
    rw [evCall] at h ⊢
    split at h
    ·exact h
    ·split at h
     ·exact h
     ·rename_i cf hcf
      split at h
      ·rename_i how
       split at h
       ·exact h
       ·rename_i as is hexp
        split at h
        ·simp at h
        ·rename_i e st hev
         rw [ih4 _ _ _ _ hev]; exact h
      ·split at h
       ·simp at h
       ·rename_i e st hev
        rw [ih4 _ _ _ _ hev]; exact h
      ·split at h
       ·simp at h
       ·rename_i e st hev
        rw [ih4 _ _ _ _ hev]; exact h
   ·intro f σ H slot o r h
    cases o with
    | call g xs =>
      simp only [evOp] at h ⊢
      split at h
      ·exact ih1 _ _ _ _ _ h
      ·simp at h
    | _=>simpa only [evOp] using h
   ·intro f l i slot st log r h
    cases l with
    | nil=>simpa [evOps] using h
    | cons x l =>
      rw [evOps] at h ⊢
      try simp only at h ⊢
      split at h
      ·rename_i hw
       rw [if_pos hw]
       split at h
       ·simp at h
       ·rename_i r' hr
        rw [ih2 _ _ _ _ _ _ hr]
        exact ih3 _ _ _ _ _ _ _ h
      ·rename_i hw
       rw [if_neg hw]
       exact ih3 _ _ _ _ _ _ _ h
   ·intro f c st r h
    cases c with
    | skip=>simpa [ev] using h
    | exit id=>simpa [ev] using h
    | ret=>simpa [ev] using h
    | reg draw ops pairs =>
      rw [ev] at h ⊢
      try simp only at h ⊢
      split at h
      ·rename_i st' log hr
       rw [ih3 _ _ _ _ _ _ _ hr]; exact h
      ·simp at h
    | seq a b =>
      rw [ev] at h ⊢
      try simp only at h ⊢
      split at h
      ·rename_i st' hr
       rw [ih4 _ _ _ _ hr]; exact ih4 _ _ _ _ h
      ·rename_i r' hno
       rw [ih4 _ _ _ _ h]
       cases r with
       | mk e s=>cases e with
         | normal=>exact (hno s h).elim
         | _=>rfl
    | cond c a b =>
      rw [ev] at h ⊢
      try simp only at h ⊢
      split at h
      ·exact ih4 _ _ _ _ h
      ·simp at h
    | block id b =>
      rw [ev] at h ⊢
      try simp only at h ⊢
      split at h
      ·rename_i j st' hr
       rw [ih4 _ _ _ _ hr]; exact h
      ·rename_i r' hno
       rw [ih4 _ _ _ _ h]
       cases r with
       | mk e s=>cases e with
         | exit j=>exact (hno j s h).elim
         | _=>rfl
    | loop b =>
      rw [ev] at h ⊢
      try simp only at h ⊢
      split at h
      ·rename_i st' hr
       rw [ih4 _ _ _ _ hr]; exact ih4 _ _ _ _ h
      ·rename_i r' hno
       rw [ih4 _ _ _ _ h]
       cases r with
       | mk e s=>cases e with
         | normal=>exact (hno s h).elim
         | _=>rfl
theorem evOp_more {E:Env} {n m:Nat} (hm:n≤m) {f:FuncId} {σ:Tm} {H:Heap} {slot:Nat} {o:COp} {r:ORes} (h:evOp E n f σ H slot o=some r):evOp E m f σ H slot o=some r:=by
 induction hm with
 | refl=>exact h
 | step _ ih=>exact (ev_mono E _).2.1 _ _ _ _ _ _ ih
theorem evCall_more {E:Env} {n m:Nat} (hm:n≤m) {c f:FuncId} {args:List PV} {H:Heap} {r:ORes} (h:evCall E n c f args H=some r):evCall E m c f args H=some r:=by
 induction hm with
 | refl=>exact h
 | step _ ih=>exact (ev_mono E _).1 _ _ _ _ _ ih
theorem ev_more {E:Env} {n m:Nat} (hm:n≤m) {f:FuncId} {c:CC} {st:St} {r:Ex × St} (h:ev E n f c st=some r):ev E m f c st=some r:=by
 induction hm with
 | refl=>exact h
 | step _ ih=>exact (ev_mono E _).2.2.2 _ _ _ _ ih
theorem evOps_more {E:Env} {n m:Nat} (hm:n≤m) {f:FuncId} {l:List CI} {i slot:Nat} {st:St} {log:Log} {r:St × Log} (h:evOps E n f l i slot st log=some r):evOps E m f l i slot st log=some r:=by
 induction hm with
 | refl=>exact h
 | step _ ih=>exact (ev_mono E _).2.2.1 _ _ _ _ _ _ _ ih
def Fr (H h:Heap) (wr:List Nat):Prop:=H.n≤h.n∧∀ i,i < H.n→i∉wr→h.at_ i=H.at_ i
theorem Fr.refl (H:Heap) (wr:List Nat):Fr H H wr:=⟨Nat.le_refl _,fun _ _ _=>rfl⟩
theorem Fr.trans {H h h':Heap} {wr wr':List Nat} (a:Fr H h wr) (b:Fr h h' wr'):Fr H h' (wr'++wr) :=
 ⟨Nat.le_trans a.1 b.1,fun i hi hn=>by rw [b.2 i (Nat.lt_of_lt_of_le hi a.1) (fun q=>hn (by simp [q])),a.2 i hi (fun q=>hn (by simp [q]))]⟩
theorem Fr.more {H h:Heap} {wr wr':List Nat} (a:Fr H h wr) (hs:∀ i∈wr,i∈wr'):Fr H h wr':=⟨a.1,fun i hi hn=>a.2 i hi fun q=>hn (hs i q)⟩
structure PrimFr (E:Env):Prop where
 fr:∀ c f p,E.prim c f=some p→∀ args H r,p args H=some r→Fr H r.h r.wr
 loc:∀ c f p,E.prim c f=some p→∀ args H r,p args H=some r→r.h.n=H.n→(∀ i,i∉r.wr→r.h.at_ i=H.at_ i)∧∀ H',Agree H' H r.rd→p args H'=some ⟨r.v,H'.patch r.h r.wr,r.wr,r.rd⟩
theorem ev_frame {E:Env} (hE:PrimFr E):∀ n,(∀ c f args H r,evCall E n c f args H=some r→Fr H r.h r.wr)∧(∀ f σ H slot o r,evOp E n f σ H slot o=some r→Fr H r.h r.wr) ∧
  (∀ f l i slot st log st' log',evOps E n f l i slot st log=some (st',log')→Fr st.h st'.h st'.wl∧∀ i∈st.wl,i∈st'.wl)∧(∀ f c st e st',ev E n f c st=some (e,st')→Fr st.h st'.h st'.wl∧∀ i∈st.wl,i∈st'.wl):=by
 intro n
 induction n with
 | zero =>
   refine ⟨fun c f args H r h=>by simp [evCall] at h,fun f σ H slot o r h=>by simp [evOp] at h,fun f l i slot st log st' log' h=>?_,fun f c st e st' h=>by simp [ev] at h⟩
   cases l with
   | nil=>simp [evOps] at h; obtain ⟨rfl,rfl⟩:=h; exact ⟨Fr.refl _ _,fun i hi=>hi⟩
   | cons x l=>simp [evOps] at h
 | succ n ih =>
   obtain ⟨ih1,ih2,ih3,ih4⟩:=ih
   refine ⟨?_,?_,?_,?_⟩
   ·intro c f args H r h
    rw [evCall] at h
    split at h
    ·rename_i p hp; exact hE.fr _ f p hp args H r h
    ·split at h
     ·simp at h
     ·split at h
      ·split at h
       ·simp at h
       ·split at h
        ·simp at h
        ·split at h
         ·simp at h
         ·split at h
          ·simp at h; subst h; exact Fr.refl _ _
          ·simp at h; subst h
           exact ⟨Nat.le_of_eq (freeze_n _ _).symm,fun i _ hi=>by simp only at hi ⊢; rw [freeze_at,if_neg hi]⟩
      ·split at h
       ·simp at h
       ·rename_i e st hev
        split at h
        ·simp at h
        ·rename_i v is hres
         obtain ⟨hf,_⟩:=ih4 _ _ _ _ _ hev
         have hcut:∀ i,i < H.n→i∉st.wl.filter (· < H.n)→(st.h.cut H).at_ i=H.at_ i:=by
          intro i hi hn
          show (if i < H.n then st.h.at_ i else H.at_ i)=_
          rw [if_pos hi]
          exact hf.2 i hi fun q=>hn (List.mem_filter.2 ⟨q,by simpa using hi⟩)
         try simp only at h
         split at h
         ·split at h
          ·simp at h; subst h
           exact ⟨Nat.le_refl _,fun i hi hn=>hcut i hi hn⟩
          ·simp at h; subst h
           refine ⟨Nat.le_of_eq (freeze_n (st.h.cut H) _).symm,fun i hi hn=>?_⟩
           simp only [List.mem_append,not_or] at hn ⊢
           rw [freeze_at,if_neg hn.2]
           exact hcut i hi hn.1
         ·simp at h
      ·split at h
       ·simp at h
       ·rename_i e st hev
        split at h
        ·simp at h
        ·simp at h; subst h
         have hf:=(ih4 _ _ _ _ _ hev).1
         by_cases hn:st.h.n=H.n
         ·simp only [hn,if_true]
          refine ⟨Nat.le_refl _,fun i hi hno=>?_⟩
          show (if i < H.n then st.h.at_ i else H.at_ i)=_
          rw [if_pos hi]; exact hf.2 i hi hno
         ·simp only [hn,if_false]; exact hf
   ·intro f σ H slot o r h
    cases o with
    | call g xs =>
      simp only [evOp] at h
      split at h
      ·exact ih1 _ _ _ _ _ h
      ·simp at h
    | _ =>
      simp only [evOp] at h
      have:=pop_local h
      exact ⟨Nat.le_of_eq this.1.symm,fun i _ hi=>this.2.1 i hi⟩
   ·intro f l i slot st log st' log' h
    cases l with
    | nil=>simp [evOps] at h; obtain ⟨rfl,rfl⟩:=h; exact ⟨Fr.refl _ _,fun i hi=>hi⟩
    | cons x l =>
      rw [evOps] at h
      try simp only at h
      split at h
      ·split at h
       ·simp at h
       ·rename_i r' hr
        have h1:=ih2 _ _ _ _ _ _ hr
        obtain ⟨h2,h3⟩:=ih3 _ _ _ _ _ _ _ _ h
        refine ⟨?_,fun i hi=>h3 i (by simp [hi])⟩
        refine (h1.trans h2).more fun i hi=>?_
        rcases List.mem_append.1 hi with q | q
        ·exact q
        ·exact h3 i (by simp [q])
      ·obtain ⟨h2,h3⟩:=ih3 _ _ _ _ _ _ _ _ h
       exact ⟨h2,h3⟩
   ·intro f c st e st' h
    cases c with
    | skip=>simp [ev] at h; obtain ⟨_,rfl⟩:=h; exact ⟨Fr.refl _ _,fun i hi=>hi⟩
    | exit id=>simp [ev] at h; obtain ⟨_,rfl⟩:=h; exact ⟨Fr.refl _ _,fun i hi=>hi⟩
    | ret=>simp [ev] at h; obtain ⟨_,rfl⟩:=h; exact ⟨Fr.refl _ _,fun i hi=>hi⟩
    | reg draw ops pairs =>
      rw [ev] at h
      try simp only at h
      split at h
      ·rename_i st2 log hr
       obtain ⟨h2,h3⟩:=ih3 _ _ _ _ _ _ _ _ hr
       have he:st2=st':=by
        split at h
        ·split at h
         ·simp at h; exact h.2
         ·simp at h
        ·simp at h; exact h.2
       subst he
       refine ⟨⟨Nat.le_trans (Nat.le_add_right _ _) h2.1,fun i hi hn=>?_⟩,h3⟩
       rw [h2.2 i (Nat.lt_of_lt_of_le hi (Nat.le_add_right _ _)) hn]
       simp [Heap.grow,hi]
      ·simp at h
    | seq a b =>
      rw [ev] at h
      try simp only at h
      split at h
      ·rename_i st2 hr
       obtain ⟨a1,a2⟩:=ih4 _ _ _ _ _ hr
       obtain ⟨b1,b2⟩:=ih4 _ _ _ _ _ h
       refine ⟨(a1.trans b1).more fun i hi=>?_,fun i hi=>b2 i (a2 i hi)⟩
       rcases List.mem_append.1 hi with q | q
       ·exact q
       ·exact b2 i q
      ·exact ih4 _ _ _ _ _ h
    | cond c a b =>
      rw [ev] at h
      try simp only at h
      split at h
      ·exact ih4 _ _ _ _ _ h
      ·simp at h
    | block id b =>
      rw [ev] at h
      try simp only at h
      split at h
      ·rename_i j st2 hr
       have he:st2=st':=by
        split at h
        ·simp at h; exact h.2
        ·simp at h; exact h.2
       subst he
       exact ih4 _ _ _ _ _ hr
      ·exact ih4 _ _ _ _ _ h
    | loop b =>
      rw [ev] at h
      try simp only at h
      split at h
      ·rename_i st2 hr
       obtain ⟨a1,a2⟩:=ih4 _ _ _ _ _ hr
       obtain ⟨b1,b2⟩:=ih4 _ _ _ _ _ h
       refine ⟨(a1.trans b1).more fun i hi=>?_,fun i hi=>b2 i (a2 i hi)⟩
       rcases List.mem_append.1 hi with q | q
       ·exact q
       ·exact b2 i q
      ·exact ih4 _ _ _ _ _ h
end Go.Evl

namespace Go.Evl
open Go
theorem patch_self {H h:Heap} {wr:List Nat} (hn:h.n=H.n) (hf:∀ i,i∉wr→h.at_ i=H.at_ i):H.patch h wr=h:=Heap.ext' hn.symm fun i=>by
 by_cases hi:i∈wr
 ·simp [Heap.patch,hi]
 ·simp [Heap.patch,hi,hf i hi]
theorem mem_cut {wl:List Nat} {n i:Nat} (h:i∉wl.filter (· < n)) (hi:i < n):i∉wl:=fun q=>h (List.mem_filter.2 ⟨q,by simpa using hi⟩)
theorem evCall_local {E:Env} (hE:PrimFr E) {n:Nat} {c f:FuncId} {args:List PV} {H:Heap} {r:ORes} (h:evCall E n c f args H=some r) (hn:r.h.n=H.n) :
  (∀ i,i∉r.wr→r.h.at_ i=H.at_ i)∧∀ H',Agree H' H r.rd→evCall E n c f args H'=some ⟨r.v,H'.patch r.h r.wr,r.wr,r.rd⟩:=by
 have hfr:=(ev_frame hE n).1 c f args H r h
 have whole:(∀ i,i∉r.wr→r.h.at_ i=H.at_ i)→r.rd=none→(∀ i,i∉r.wr→r.h.at_ i=H.at_ i)∧∀ H',Agree H' H r.rd→evCall E n c f args H'=some ⟨r.v,H'.patch r.h r.wr,r.wr,r.rd⟩:=by
  intro hf hrd
  refine ⟨hf,fun H' ha=>?_⟩
  rw [hrd] at ha
  have:H'=H:=ha
  subst this
  rw [patch_self hn hf,h]
 cases n with
 | zero=>simp [evCall] at h
 | succ n =>
   have h0:=h
   rw [evCall] at h
   split at h
   ·rename_i p hp
    obtain ⟨a,b⟩:=hE.loc _ f p hp args H r h hn
    refine ⟨a,fun H' ha=>?_⟩
    rw [evCall,hp]; exact b H' ha
   ·rename_i hp
    split at h
    ·simp at h
    ·rename_i cf hcf
     split at h
     ·rename_i hhow
      split at h
      ·simp at h
      ·rename_i as is hexp
       split at h
       ·simp at h
       ·rename_i e st hev
        split at h
        ·simp at h
        ·rename_i v is' hres
         split at h
         ·rename_i hflat
          simp at h; subst h
          refine ⟨fun _ _=>rfl,fun H' ha=>?_⟩
          rw [evCall,hp]
          simp only [hcf,hhow,expAs_local hexp ha.2,hev,hres,hflat,if_true,patch_nil]
         ·rename_i hflat
          simp at h; subst h
          refine ⟨fun i hi=>by simp only at hi ⊢; rw [freeze_at,if_neg hi],fun H' ha=>?_⟩
          rw [evCall,hp]
          simp only [hcf,hhow,expAs_local hexp ha.2,hev,hres,if_neg hflat,patch_freeze ha.2]
     ·split at h
      ·simp at h
      ·rename_i e st hev
       split at h
       ·simp at h
       ·rename_i v is hres
        have hfst:=((ev_frame hE n).2.2.2 _ _ _ _ _ hev).1
        have hcut:∀ i,i∉st.wl.filter (· < H.n)→(st.h.cut H).at_ i=H.at_ i:=by
         intro i hi
         show (if i < H.n then st.h.at_ i else H.at_ i)=_
         by_cases hlt:i < H.n
         ·rw [if_pos hlt]; exact hfst.2 i hlt (mem_cut hi hlt)
         ·rw [if_neg hlt]
        try simp only at h
        split at h
        ·split at h
         ·simp at h; subst h
          exact whole (fun i hi=>hcut i hi) rfl
         ·simp at h; subst h
          refine whole (fun i hi=>?_) rfl
          simp only [List.mem_append,not_or] at hi ⊢
          rw [freeze_at,if_neg hi.2]
          exact hcut i hi.1
        ·simp at h
     ·split at h
      ·simp at h
      ·rename_i e st hev
       split at h
       ·simp at h
       ·simp at h; subst h
        have hfst:=((ev_frame hE n).2.2.2 _ _ _ _ _ hev).1
        have hne:st.h.n=H.n:=by
         by_cases q:st.h.n=H.n
         ·exact q
         ·simp only [q,if_false] at hn
        refine whole (fun i hi=>?_) rfl
        simp only [hne,if_true]
        show (if i < H.n then st.h.at_ i else H.at_ i)=_
        by_cases hlt:i < H.n
        ·rw [if_pos hlt]; exact hfst.2 i hlt hi
        ·rw [if_neg hlt]
theorem evOp_local {E:Env} (hE:PrimFr E) {n:Nat} {f:FuncId} {σ:Tm} {H:Heap} {slot:Nat} {co:COp} {r:ORes} (h:evOp E n f σ H slot co=some r) (hn:r.h.n=H.n) :
  (∀ i,i∉r.wr→r.h.at_ i=H.at_ i)∧∀ σ' H',SameO co σ' σ→Agree H' H r.rd→evOp E n f σ' H' slot co=some ⟨r.v,H'.patch r.h r.wr,r.wr,r.rd⟩:=by
 cases n with
 | zero=>simp [evOp] at h
 | succ n =>
   cases co with
   | call g xs =>
     simp only [evOp] at h
     split at h
     ·rename_i g' caps hg
      obtain ⟨a,b⟩:=evCall_local hE h hn
      refine ⟨a,fun σ' H' hs ha=>?_⟩
      have h1:=hs g (by simp [COp.uses])
      have h2:xs.map (evO σ')=xs.map (evO σ):=List.map_congr_left fun o ho=>hs o (by simp [COp.uses,ho])
      simp only [evOp,h1,hg,h2]
      exact b H' ha
     ·simp at h
   | _ =>
     simp only [evOp] at h
     obtain ⟨_,a,b⟩:=pop_local h
     exact ⟨a,fun σ' H' hs ha=>by simp only [evOp]; exact b σ' H' hs ha⟩
abbrev RS:=Tm × Heap
def slotOf (L:List CI) (s0 i:Nat):Nat:=s0+nAlloc (L.take i)
def rstep (E:Env) (n:Nat) (f:FuncId) (L:List CI) (s0:Nat) (i:Nat) (s:RS):Option (RS × Option (List Nat × Option (List Nat))) :=
 match L[i]? with
 | none=>none
 | some c =>
   if wants s.1 c.guard then
    match evOp E n f s.1 s.2 (slotOf L s0 i) c.op with
    | some r=>if r.h.n=s.2.n then some ((s.1.putO c.dst r.v,r.h),some (r.wr,r.rd)) else none
    | none=>none
   else some ((s.1.putO c.dst uv,s.2),none)
theorem nAlloc_append:∀ (a b:List CI),nAlloc (a++b)=nAlloc a+nAlloc b
 | [],b=>by simp [nAlloc]
 | x::a,b=>by simp only [List.cons_append,nAlloc]; rw [nAlloc_append a b]; omega
theorem slotOf_succ {L:List CI} {s0 i:Nat} {c:CI} (h:L[i]?=some c):slotOf L s0 (i+1)=if allocs c.op then slotOf L s0 i+1 else slotOf L s0 i:=by
 unfold slotOf
 rw [List.take_succ,h]
 simp only [Option.toList_some,nAlloc_append,nAlloc]
 split <;> omega
theorem look_lt {log:Log} {i j:Nat} {a:List Nat × Option (List Nat)} (h:j≠i):look j ((i,a)::log)=look j log:=by simp [look,h]
theorem evOps_run {E:Env} (hE:PrimFr E) {n N:Nat} (hN:n≤N) {f:FuncId} {L:List CI} {s0:Nat}:∀ (l:List CI) (n:Nat),n≤N→∀ (i:Nat) (st:St) (log:Log) (st':St) (log':Log),L.drop i=l→evOps E n f l i (slotOf L s0 i) st log=some (st',log')→(∀ j,i≤j→look j log=none)→st'.h.n=st.h.n →
  (∀ j,j < i→look j log'=look j log)∧Run (rstep E N f L s0) (fun j=>look j log') (List.range' i l.length) (st.σ,st.h) (st'.σ,st'.h)
 | [],n,hN,i,st,log,st',log',hL,h,hlog,hn=>by
   simp [evOps] at h; obtain ⟨rfl,rfl⟩:=h
   exact ⟨fun _ _=>rfl,.nil _⟩
 | c::l,0,hN,i,st,log,st',log',hL,h,hlog,hn=>by simp [evOps] at h
 | c::l,n+1,hN,i,st,log,st',log',hL,h,hlog,hn=>by
   have hc:L[i]?=some c:=by
    have:(L.drop i)[0]?=some c:=by rw [hL]; rfl
    simpa using this
   have hL':L.drop (i+1)=l:=by rw [← List.drop_drop,hL]; rfl
   rw [evOps] at h
   try simp only at h
   rw [← slotOf_succ hc] at h
   split at h
   ·rename_i hw
    split at h
    ·simp at h
    ·rename_i r hr
     have hfr1:=(ev_frame hE n).2.1 _ _ _ _ _ _ hr
     have hfr2:=((ev_frame hE n).2.2.1 _ _ _ _ _ _ _ _ h).1
     have hrn:r.h.n=st.h.n:=by have:=hfr1.1; have:=hfr2.1; simp only at *; omega
     have hnone:∀ j,i+1≤j→look j ((i,r.wr,r.rd)::log)=none:=fun j hj=>by rw [look_lt (by omega)]; exact hlog j (by omega)
     obtain ⟨h1,h2⟩:=evOps_run hE hN l n (by omega) (i+1) _ _ st' log' hL' h hnone (by simp only; omega)
     refine ⟨fun j hj=>by rw [h1 j (by omega),look_lt (by omega)],?_⟩
     rw [List.length_cons,List.range'_succ]
     refine .cons (s1:=(st.σ.putO c.dst r.v,r.h)) ?_ h2
     have hlook:look i log'=some (r.wr,r.rd):=by rw [h1 i (by omega)]; simp [look]
     unfold rstep
     rw [hc]
     simp only [hw,if_true,evOp_more (show n≤N by omega) hr,hrn,hlook]
   ·rename_i hw
    have hnone:∀ j,i+1≤j→look j log=none:=fun j hj=>hlog j (by omega)
    obtain ⟨h1,h2⟩:=evOps_run hE hN l n (by omega) (i+1) _ _ st' log' hL' h hnone (by simpa using hn)
    refine ⟨fun j hj=>h1 j (by omega),?_⟩
    rw [List.length_cons,List.range'_succ]
    refine .cons (s1:=(st.σ.putO c.dst uv,st.h)) ?_ h2
    have hlook:look i log'=none:=by rw [h1 i (by omega)]; exact hlog i (Nat.le_refl _)
    unfold rstep
    rw [hc]
    simp only [hw,if_false,hlook]
    rfl
end Go.Evl

namespace Go.Evl
open Go
def Apt (ci cj:CI):Prop:=(∀ d,ci.dst=some d→cj.dst≠some d∧d∉cj.names)∧∀ d,cj.dst=some d→d∉ci.names
theorem apartN_apt {ci cj:CI} (h:apartN ci cj=true):Apt ci cj:=by
 unfold apartN at h
 rw [Bool.and_eq_true] at h
 constructor
 ·intro d hd
  have:=h.1; rw [hd] at this
  simp at this
  exact ⟨this.1,this.2⟩
 ·intro d hd
  have:=h.2; rw [hd] at this
  simpa using this
theorem Apt.symm {ci cj:CI} (h:Apt ci cj):Apt cj ci :=
 ⟨fun d hd=>⟨fun q=>(h.1 d q).1 hd,h.2 d hd⟩,fun d hd=>(h.1 d hd).2⟩
theorem putO_other {σ:Tm} {d:Option Nat} {v:PV} {i:Nat} (h:∀ k,d=some k→k≠i):(σ.putO d v) i = σ i:=by
 cases d with
 | none=>rfl
 | some k=>simp only [Tm.putO,Tm.put]; rw [if_neg (fun q=>h k rfl q.symm)]
theorem same_put {c:CI} {d:Option Nat} {σ:Tm} {v:PV} (h:∀ k,d=some k→k∉c.names):SameO c.op (σ.putO d v) σ:=by
 intro o ho
 cases o with
 | c w=>rfl
 | t i =>
   refine putO_other fun k hk q=>h k hk ?_
   subst q
   unfold CI.names
   exact List.mem_append_left _ (List.mem_filterMap.2 ⟨.t k,ho,rfl⟩)
theorem same_put' {c:CI} {d:Option Nat} {σ:Tm} {v:PV} (h:∀ k,d=some k→k∉c.names):SameO c.op σ (σ.putO d v):=fun o ho=>(same_put h o ho).symm
theorem wants_put {c:CI} {d:Option Nat} {σ:Tm} {v:PV} (h:∀ k,d=some k→k∉c.names):wants (σ.putO d v) c.guard=wants σ c.guard:=by
 cases hg:c.guard with
 | none=>rfl
 | some p =>
   obtain ⟨e,w⟩:=p
   have:(σ.putO d v) e = σ e:=putO_other fun k hk q=>h k hk (by subst q; simp [CI.names,hg])
   simp only [wants,this]
theorem putO_comm {σ:Tm} {d e:Option Nat} {v w:PV} (h:∀ k,d=some k→e≠some k):(σ.putO d v).putO e w=(σ.putO e w).putO d v:=by
 cases d with
 | none=>rfl
 | some d =>
   cases e with
   | none=>rfl
   | some e =>
     have:d≠e:=fun q=>h d rfl (by rw [q])
     funext i
     simp only [Tm.putO,Tm.put]
     by_cases h1:i=e <;> by_cases h2:i=d <;> simp [h1,h2]
     ·exact (this (h2.symm.trans h1)).elim
     all_goals (try subst h1); (try subst h2)
     all_goals simp_all
theorem hits_agree {H h:Heap} {wr:List Nat} {rd:Option (List Nat)} (hn:h.n=H.n) (hf:∀ i,i∉wr→h.at_ i=H.at_ i) (hh:hits wr rd=false):Agree H h rd:=by
 cases rd with
 | none =>
   simp [hits] at hh
   subst hh
   exact Heap.ext' hn.symm fun i=>(hf i (by simp)).symm
 | some is =>
   refine ⟨hn.symm,fun i hi=>(hf i fun q=>?_).symm⟩
   simp only [hits,List.any_eq_false] at hh
   have:=hh i q
   simp [hi] at this
theorem hits_agree' {H h:Heap} {wr:List Nat} {rd:Option (List Nat)} (hn:h.n=H.n) (hf:∀ i,i∉wr→h.at_ i=H.at_ i) (hh:hits wr rd=false):Agree h H rd:=by
 cases rd with
 | none =>
   simp [hits] at hh
   subst hh
   exact Heap.ext' hn fun i=>hf i (by simp)
 | some is =>
   refine ⟨hn,fun i hi=>hf i fun q=>?_⟩
   simp only [hits,List.any_eq_false] at hh
   have:=hh i q
   simp [hi] at this
section
variable {E:Env} {N:Nat} {f:FuncId} {L:List CI} {s0:Nat} {acc:Nat→Option (List Nat × Option (List Nat))}
theorem rstep_swap (hE:PrimFr E) {x y:Nat} {cx cy:CI} (hx:L[x]?=some cx) (hy:L[y]?=some cy) (hn:Apt cx cy)
  (ha:∀ (n:Nat) σ H σ' H' rx ry,evOp E N f σ H (slotOf L s0 x) cx.op=some rx→evOp E N f σ' H' (slotOf L s0 y) cy.op=some ry→acc x=some (rx.wr,rx.rd)→acc y=some (ry.wr,ry.rd)→apart (rx.wr,rx.rd) (ry.wr,ry.rd)=true) :
  Swap (rstep E N f L s0) acc x y:=by
 rintro ⟨σ,H⟩ ⟨σ1,H1⟩ ⟨σ2,H2⟩ h1 h2
 unfold rstep at h1 h2
 rw [hx] at h1
 rw [hy] at h2
 simp only at h1 h2
 by_cases wx:wants σ cx.guard=true
 ·rw [if_pos wx] at h1
  split at h1
  ·rename_i rx hrx
   by_cases nx:rx.h.n=H.n
   ·rw [if_pos nx] at h1
    simp only [Option.some.injEq,Prod.mk.injEq] at h1
    obtain ⟨⟨rfl,rfl⟩,ax⟩:=h1
    obtain ⟨lx1,lx2⟩:=evOp_local hE hrx nx
    rw [wants_put fun k hk=>(hn.1 k hk).2] at h2
    by_cases wy:wants σ cy.guard=true
    ·rw [if_pos wy] at h2
     split at h2
     ·rename_i ry hry
      by_cases ny:ry.h.n=rx.h.n
      ·rw [if_pos ny] at h2
       simp only [Option.some.injEq,Prod.mk.injEq] at h2
       obtain ⟨⟨rfl,rfl⟩,ay⟩:=h2
       obtain ⟨ly1,ly2⟩:=evOp_local hE hry ny
       have hap:=ha 0 _ _ _ _ _ _ hrx hry ax.symm ay.symm
       simp only [apart,Bool.and_eq_true,Bool.not_eq_true'] at hap
       obtain ⟨⟨p1,p2⟩,p3⟩:=hap
       have e1:=ly2 σ H (same_put' fun k hk=>(hn.1 k hk).2) (hits_agree nx lx1 p1)
       have hpn:(H.patch ry.h ry.wr).n=H.n:=rfl
       have hpf:∀ i,i∉ry.wr→(H.patch ry.h ry.wr).at_ i=H.at_ i:=fun i hi=>by simp [Heap.patch,hi]
       have e2:=lx2 (σ.putO cy.dst ry.v) (H.patch ry.h ry.wr) (same_put fun k hk=>hn.2 k hk) (hits_agree' hpn hpf p2)
       have hfin:(H.patch ry.h ry.wr).patch rx.h rx.wr=ry.h:=by
        refine Heap.ext' (by show H.n=_; omega) fun i=>?_
        have hd:i∈rx.wr→i∉ry.wr:=fun q q'=>by
         rw [List.any_eq_false] at p3
         have:=p3 i q
         simp [q'] at this
        by_cases hi:i∈rx.wr
        ·simp only [Heap.patch]; rw [if_pos (by simpa using hi)]
         exact (ly1 i (hd hi)).symm
        ·simp only [Heap.patch]; rw [if_neg (by simpa using hi)]
         by_cases hj:i∈ry.wr
         ·rw [if_pos (by simpa using hj)]
         ·rw [if_neg (by simpa using hj),ly1 i hj,lx1 i hi]
       refine ⟨(σ.putO cy.dst ry.v,H.patch ry.h ry.wr),?_,?_⟩
       ·unfold rstep
        rw [hy]
        simp only [wy,if_true,e1]
        rw [if_pos hpn,ay]
       ·unfold rstep
        rw [hx]
        simp only [wants_put (fun k hk=>hn.2 k hk),wx,if_true,e2]
        rw [if_pos (show ((H.patch ry.h ry.wr).patch rx.h rx.wr).n=(H.patch ry.h ry.wr).n from rfl),ax,hfin,putO_comm fun k hk=>(hn.1 k hk).1]
      ·rw [if_neg ny] at h2; simp at h2
     ·simp at h2
    ·rw [if_neg wy] at h2
     simp only [Option.some.injEq,Prod.mk.injEq] at h2
     obtain ⟨⟨rfl,rfl⟩,ay⟩:=h2
     have e2:=lx2 (σ.putO cy.dst uv) H (same_put fun k hk=>hn.2 k hk) (hits_agree' (wr:=[]) rfl (fun _ _=>rfl) (by cases rx.rd <;> rfl))
     refine ⟨(σ.putO cy.dst uv,H),?_,?_⟩
     ·unfold rstep
      rw [hy]
      simp only [wy,ay]; rfl
     ·unfold rstep
      rw [hx]
      simp only [wants_put (fun k hk=>hn.2 k hk),wx,if_true,e2]
      rw [if_pos (show (H.patch rx.h rx.wr).n=H.n from rfl),ax,patch_self nx lx1,putO_comm fun k hk=>(hn.1 k hk).1]
   ·rw [if_neg nx] at h1; simp at h1
  ·simp at h1
 ·rw [if_neg wx] at h1
  simp only [Option.some.injEq,Prod.mk.injEq] at h1
  obtain ⟨⟨rfl,rfl⟩,ax⟩:=h1
  rw [wants_put fun k hk=>(hn.1 k hk).2] at h2
  by_cases wy:wants σ cy.guard=true
  ·rw [if_pos wy] at h2
   split at h2
   ·rename_i ry hry
    by_cases ny:ry.h.n=H.n
    ·rw [if_pos ny] at h2
     simp only [Option.some.injEq,Prod.mk.injEq] at h2
     obtain ⟨⟨rfl,rfl⟩,ay⟩:=h2
     obtain ⟨ly1,ly2⟩:=evOp_local hE hry ny
     have e1:=ly2 σ H (same_put' fun k hk=>(hn.1 k hk).2) (hits_agree (wr:=[]) rfl (fun _ _=>rfl) (by cases ry.rd <;> rfl))
     rw [patch_self ny ly1] at e1
     refine ⟨(σ.putO cy.dst ry.v,ry.h),?_,?_⟩
     ·unfold rstep
      rw [hy]
      simp only [wy,if_true,e1]
      rw [if_pos ny,ay]
     ·unfold rstep
      rw [hx]
      simp only [wants_put (fun k hk=>hn.2 k hk),wx,ax]
      rw [putO_comm fun k hk=>(hn.1 k hk).1]; rfl
    ·rw [if_neg ny] at h2; simp at h2
   ·simp at h2
  ·rw [if_neg wy] at h2
   simp only [Option.some.injEq,Prod.mk.injEq] at h2
   obtain ⟨⟨rfl,rfl⟩,ay⟩:=h2
   refine ⟨(σ.putO cy.dst uv,H),?_,?_⟩
   ·unfold rstep
    rw [hy]
    simp only [wy,ay]; rfl
   ·unfold rstep
    rw [hx]
    simp only [wants_put (fun k hk=>hn.2 k hk),wx,ax]
    rw [putO_comm fun k hk=>(hn.1 k hk).1]; rfl
end
end Go.Evl

namespace Go.Evl
open Go
theorem nodup_rev {l:List Nat} (h:l.Nodup):l.reverse.Nodup:=List.pairwise_reverse.2 (h.imp Ne.symm)
theorem perm_of_nodup {l T:List Nat} (hn:l.Nodup) (hs:∀ x∈l,x∈T) (hl:l.length=T.length):l.Perm T:=by
 induction l generalizing T with
 | nil =>
   have:T=[]:=List.eq_nil_of_length_eq_zero (by simpa using hl.symm)
   subst this; exact .nil
 | cons x l ih =>
   obtain ⟨A,B,rfl⟩:=List.append_of_mem (hs x (by simp))
   rw [List.nodup_cons] at hn
   refine (List.Perm.cons x (ih hn.2 (fun y hy=>?_) ?_)).trans List.perm_middle.symm
   ·have h1:=hs y (by simp [hy])
    simp only [List.mem_append,List.mem_cons] at h1 ⊢
    rcases h1 with h1 | h1 | h1
    ·exact .inl h1
    ·subst h1; exact (hn.1 hy).elim
    ·exact .inr h1
   ·simp at hl ⊢; omega
theorem front_perm {m:Region.Mode} {ops:Array Oper} {l:List Nat} (h:Front m ops l) (hl:l.length=ops.size):l.reverse.Perm (List.range' 0 ops.size):=by
 refine perm_of_nodup (nodup_rev h.nodup) (fun x hx=>?_) (by simp [hl])
 have:=h.lt x (by simpa using hx)
 simp [List.mem_range'_1]; exact this
theorem topoFrom_range {ops:Array Oper} (h:∀ i,i < ops.size→match ops[i]? with
   | some o=>o.after.all (fun e=>!Region.binds .any e || decide (e.on < i))=true
   | none=>False):∀ (n k:Nat) (seen:List Nat),k+n≤ops.size→(∀ j,j < k→j∈seen)→topoFrom .any ops (List.range' k n) seen=true
 | 0,k,seen,_,_=>rfl
 | n+1,k,seen,hk,hs=>by
   rw [List.range'_succ]
   simp only [topoFrom,Bool.and_eq_true]
   refine ⟨?_,topoFrom_range h n (k+1) (k::seen) (by omega) fun j hj=>?_⟩
   ·have:=h k (by omega)
    cases ho:ops[k]? with
    | none=>rw [ho] at this; exact this.elim
    | some o =>
      rw [ho] at this
      refine Array.all_eq_true_iff_forall_mem.2 fun e he=>?_
      have h1:=Array.all_eq_true_iff_forall_mem.1 this e he
      cases hb:Region.binds .any e with
      | false=>rfl
      | true =>
        rw [hb] at h1
        have h2:e.on < k:=by simpa using h1
        simpa using hs _ h2
   ·by_cases hjk:j=k
    ·simp [hjk]
    ·simp [hs j (by omega)]
theorem topo_any {ops:Array Oper} (h:edgesOK ops=true):topo .any ops (List.range ops.size)=true:=by
 simp only [edgesOK,Bool.and_eq_true] at h
 unfold topo
 rw [Bool.and_eq_true]
 refine ⟨?_,List.all_eq_true.2 fun x hx=>by simpa using hx⟩
 rw [List.range_eq_range']
 refine topoFrom_range (fun i hi=>?_) _ _ _ (by simp) (by simp)
 have:=List.all_eq_true.1 h.2 i (List.mem_range.2 hi)
 cases ho:ops[i]? with
 | none=>rw [ho] at this; simp at this
 | some o =>
   rw [ho] at this
   simp only [Bool.and_eq_true] at this
   exact this.1
theorem schedule_any {ops:Array Oper} (h:edgesOK ops=true) (mixed:Bool) (t:Nat):∃ l,Region.schedule mixed ops t=l.reverse∧Front .any ops l∧l.length=ops.size:=by
 cases mixed with
 | false=>exact schedule_front h false rfl t
 | true =>
   unfold Region.schedule
   simp only [Bool.true_or,if_true]
   exact linearise_front (topo_any h) t
theorem ordered_mem {log:Log}:∀ {pairs:List (Nat × Nat)},ordered log pairs=true→∀ j i,(j,i)∈pairs→∀ a b,look j log=some a→look i log=some b→apart a b=true
 | (j',i')::rest,h,j,i,hm,a,b,ha,hb=>by
   simp only [ordered,Bool.and_eq_true] at h
   rcases List.mem_cons.1 hm with h1 | h1
   ·simp only [Prod.mk.injEq] at h1
    obtain ⟨rfl,rfl⟩:=h1
    have:=h.1
    rw [ha,hb] at this
    exact this
   ·exact ordered_mem h.2 j i h1 a b ha hb
theorem evOp_quiet {E:Env} {N:Nat} {f:FuncId} {σ:Tm} {H:Heap} {slot:Nat} {co:COp} {r:ORes} (h:evOp E N f σ H slot co=some r) (hq:quietC co=true):r.wr=[]∧r.rd=some []:=by
 cases N with
 | zero=>simp [evOp] at h
 | succ n =>
   cases co with
   | call g xs=>simp [quietC] at hq
   | _=>simp only [evOp] at h; exact pop_quiet h hq
theorem evOp_reads {E:Env} {N:Nat} {f:FuncId} {σ:Tm} {H:Heap} {slot:Nat} {co:COp} {r:ORes} (h:evOp E N f σ H slot co=some r) (hq:readC co=true):r.wr=[]∧r.rd≠none:=by
 cases N with
 | zero=>simp [evOp] at h
 | succ n =>
   cases co with
   | call g xs=>simp [readC] at hq
   | _=>simp only [evOp] at h; exact pop_reads h hq
theorem apart_quiet {a b:List Nat × Option (List Nat)} (h1:a.1=[]) (h2:a.2=some []):apart a b=true:=by
 obtain ⟨w,r⟩:=a
 obtain ⟨w',r'⟩:=b
 simp only at h1 h2; subst h1; subst h2
 cases r' <;> simp [apart,hits]
theorem apart_quiet' {a b:List Nat × Option (List Nat)} (h1:b.1=[]) (h2:b.2=some []):apart a b=true:=by
 obtain ⟨w,r⟩:=a
 obtain ⟨w',r'⟩:=b
 simp only at h1 h2; subst h1; subst h2
 cases r <;> simp [apart,hits]
theorem apart_reads {a b:List Nat × Option (List Nat)} (h1:a.1=[]) (h2:b.1=[]):apart a b=true:=by
 obtain ⟨w,r⟩:=a
 obtain ⟨w',r'⟩:=b
 simp only at h1 h2; subst h1; subst h2
 cases r <;> cases r' <;> simp [apart,hits]
theorem range'_pairwise:∀ (n k:Nat),(List.range' k n).Pairwise fun x y=>x < y∧y < k+n
 | 0,k=>by simp
 | n+1,k=>by
   rw [List.range'_succ,List.pairwise_cons]
   refine ⟨fun y hy=>?_,(range'_pairwise n (k+1)).imp fun ⟨a,b⟩=>⟨a,by omega⟩⟩
   rw [List.mem_range'_1] at hy
   omega
theorem any_order {E:Env} (hE:PrimFr E) {N:Nat} {f:FuncId} {ops:Array Oper} {L:List CI} {s0:Nat} {log:Log} {s s':RS} (hlen:L.length=ops.size) (he:edgesOK ops=true) (hn:namesOK ops L=true)
  (ho:ordered log (openPairs ops L)=true) (hr:Run (rstep E N f L s0) (fun j=>look j log) (List.range' 0 ops.size) s s') (mixed:Bool) (t:Nat) :
  ∃ l,Region.schedule mixed ops t=l∧Run (rstep E N f L s0) (fun j=>look j log) l s s'∧l.Nodup∧∀ x∈l,x < ops.size:=by
 obtain ⟨l,h1,h2,h3⟩:=schedule_any he mixed t
 refine ⟨l.reverse,h1,?_,nodup_rev h2.nodup,fun x hx=>h2.lt x (by simpa using hx)⟩
 refine Run.perm (ord:=fun x y=>((Region.before ops).getD y 0).testBit x=true) (front_perm h2 h3) List.nodup_range' ?_ ?_ hr
 ·refine (range'_pairwise ops.size 0).imp fun {x y} ⟨hxy,hy⟩=>?_
  have hy':y < ops.size:=by omega
  by_cases hb:((Region.before ops).getD y 0).testBit x=true
  ·exact .inl hb
  ·refine .inr ?_
   have hb':((Region.before ops).getD y 0).testBit x=false:=by simpa using hb
   have hx:x < L.length:=by omega
   have hyl:y < L.length:=by omega
   have hn1:=List.all_eq_true.1 hn y (List.mem_range.2 hy')
   have hn2:=List.all_eq_true.1 hn1 x (List.mem_range.2 hxy)
   rw [List.getElem?_eq_getElem hx,List.getElem?_eq_getElem hyl] at hn2
   simp only [hb',Bool.false_or] at hn2
   refine rstep_swap hE (List.getElem?_eq_getElem hx) (List.getElem?_eq_getElem hyl) (apartN_apt hn2).symm ?_
   intro n σ H σ' H' rx ry hrx hry ax ay
   by_cases q1:quietC L[x].op=true
   ·obtain ⟨p1,p2⟩:=evOp_quiet hrx q1
    exact apart_quiet p1 p2
   by_cases q2:quietC L[y].op=true
   ·obtain ⟨p1,p2⟩:=evOp_quiet hry q2
    exact apart_quiet' p1 p2
   by_cases q3:readC L[x].op=true∧readC L[y].op=true
   ·exact apart_reads (evOp_reads hrx q3.1).1 (evOp_reads hry q3.2).1
   refine ordered_mem ho x y ?_ _ _ ax ay
   unfold openPairs
   rw [List.mem_flatMap]
   refine ⟨y,List.mem_range.2 hy',List.mem_map.2 ⟨x,List.mem_filter.2 ⟨List.mem_range.2 hxy,?_⟩,rfl⟩⟩
   rw [List.getElem?_eq_getElem hx,List.getElem?_eq_getElem hyl]
   simp only [hb',Bool.not_false,Bool.true_and,Bool.and_eq_true,Bool.not_eq_true']
   refine ⟨⟨by simpa using q2,by simpa using q1⟩,?_⟩
   rw [Bool.and_eq_false_iff]
   by_cases q4:readC L[x].op=true
   ·exact .inl (by simpa using fun q=>q3 ⟨q4,q⟩)
   ·exact .inr (by simpa using q4)
 ·refine (front_pairwise he h2).imp fun {x y} hxy=>?_
  rw [hxy]; exact Bool.false_ne_true
end Go.Evl

namespace Go.Evl
open Go
variable {P:Program}
theorem freeze_dead {H:Heap} {is:List Nat} {i:Nat} (h:H.at_ i = .dead):(freeze H is).at_ i = .dead:=by
 rw [freeze_at]; split <;> simp [h]
theorem put_dead {H:Heap} {r i:Nat} {b:Blk} (h:H.at_ i = .dead) (hr:i≠r):(H.put r b).at_ i = .dead:=by
 rw [Heap.put_other _ _ hr,h]
theorem store_dead {H H1:Heap} {p:PV} {vs:List PV} {r i:Nat} (h:storeC H p vs=some (H1,r)) (hi:H.at_ i = .dead):H1.at_ i = .dead:=by
 unfold storeC at h
 cases p with
 | ptr r' o =>
   simp only at h
   split at h
   ·rename_i cs hb
    split at h
    ·simp at h; obtain ⟨rfl,rfl⟩:=h
     exact put_dead hi fun q=>by rw [← q,hi] at hb; simp at hb
    ·simp at h
   ·simp at h
 | rp r' k gen i' j =>
   simp only at h
   split at h
   ·rename_i k' xs hb
    split at h
    ·split at h
     ·split at h
      ·simp at h; obtain ⟨rfl,rfl⟩:=h
       exact put_dead hi fun q=>by rw [← q,hi] at hb; simp at hb
      ·simp at h
     ·simp at h
    ·simp at h
   ·simp at h
 | _=>simp at h
theorem append_dead {H H1:Heap} {slot k:Nat} {base v:PV} {ys:List (List PV)} {wr rd:List Nat} {i:Nat} (h:appendP H slot k base ys=some (v,H1,wr,rd)) (hi:H.at_ i = .dead) (hs:i≠slot):H1.at_ i = .dead:=by
 unfold appendP at h
 split at h
 ·split at h <;> simp at h <;> (obtain ⟨rfl,rfl,rfl,rfl⟩:=h; exact hi)
 ·split at h
  ·split at h
   ·simp at h; obtain ⟨rfl,rfl,rfl,rfl⟩:=h
    exact put_dead hi hs
   ·simp at h
  ·split at h
   ·rename_i k'' xs hb
    split at h
    ·split at h
     ·simp at h; obtain ⟨rfl,rfl,rfl,rfl⟩:=h
      exact put_dead hi fun q=>by rw [← q,hi] at hb; simp at hb
     ·split at h
      ·simp at h; obtain ⟨rfl,rfl,rfl,rfl⟩:=h
       exact put_dead hi fun q=>by rw [← q,hi] at hb; simp at hb
      ·simp at h
    ·simp at h
   ·simp at h
  ·simp at h
theorem pop_dead {σ:Tm} {H:Heap} {slot:Nat} {co:COp} {r:ORes} {i:Nat} (hp:pop P σ H slot co=some r) (hi:H.at_ i = .dead) (hs:allocs co=true→i≠slot):r.h.at_ i = .dead:=by
 have hq:quietC co=true→r.h.at_ i = .dead:=fun q=>by
  have h1:=(pop_quiet hp q).1
  rw [(pop_local hp).2.1 i (by rw [h1]; simp),hi]
 have hr:readC co=true→r.h.at_ i = .dead:=fun q=>by
  have h1:=(pop_reads hp q).1
  rw [(pop_local hp).2.1 i (by rw [h1]; simp),hi]
 cases co with
 | alloc z=>simp [pop] at hp; subst hp; exact put_dead hi (hs rfl)
 | box x =>
   simp only [pop] at hp
   split at hp
   ·simp at hp; subst hp; exact put_dead hi (hs rfl)
   ·simp at hp
 | bsl k n z ps =>
   simp only [pop] at hp
   split at hp
   ·simp at hp; subst hp; exact freeze_dead hi
   ·simp at hp
 | brow k n z ps =>
   simp only [pop] at hp
   split at hp
   ·simp at hp; subst hp; exact put_dead hi (hs rfl)
   ·simp at hp
 | st n p x =>
   simp only [pop] at hp
   split at hp
   ·split at hp
    ·rename_i H' r' hst
     simp at hp; subst hp; exact store_dead hst hi
    ·simp at hp
   ·simp at hp
 | app k x y =>
   simp only [pop] at hp
   split at hp
   ·split at hp
    ·rename_i v H' wr rd hap
     simp at hp; subst hp; exact append_dead hap hi (hs rfl)
    ·simp at hp
   ·simp at hp
 | copy k x y =>
   simp only [pop] at hp
   split at hp
   ·split at hp
    ·rename_i k'' xs hb
     split at hp
     ·simp at hp; subst hp
      exact put_dead hi fun q=>by rw [← q,hi] at hb; simp at hb
     ·simp at hp
    ·simp at hp
   ·simp at hp
 | clr z x =>
   simp only [pop] at hp
   split at hp
   ·simp [ret1] at hp; subst hp; exact hi
   ·split at hp
    ·rename_i k' xs hb
     split at hp
     ·simp at hp; subst hp
      exact put_dead hi fun q=>by rw [← q,hi] at hb; simp at hb
     ·simp at hp
    ·simp at hp
   ·simp at hp
 | call g xs=>simp [pop] at hp
 | bad=>simp [pop] at hp
 | _=>first | exact hq rfl | exact hr rfl
def Dd (H h:Heap):Prop:=∀ i,i < H.n→H.at_ i = .dead→h.at_ i = .dead
theorem Dd.refl (H:Heap):Dd H H:=fun _ _ h=>h
theorem cut_dead {h H:Heap} (hd:Dd H h):Dd H (h.cut H):=fun i hi hh=>by
 show (if i < H.n then h.at_ i else H.at_ i)=_
 rw [if_pos hi]; exact hd i hi hh
structure PrimDd (E:Env):Prop where
 dd:∀ c f p,E.prim c f=some p→∀ args H r,p args H=some r→Dd H r.h
theorem ev_dead {E:Env} (hE:PrimFr E) (hD:PrimDd E):∀ n,(∀ c f args H r,evCall E n c f args H=some r→Dd H r.h)∧(∀ f σ H slot o r,evOp E n f σ H slot o=some r→∀ i,i < H.n→H.at_ i = .dead→(allocs o=true→i≠slot)→r.h.at_ i = .dead) ∧
  (∀ f l i slot st log st' log',evOps E n f l i slot st log=some (st',log')→∀ j,j < st.h.n→st.h.at_ j = .dead→(j < slot∨slot+nAlloc l≤j)→st'.h.at_ j = .dead)∧(∀ f c st e st',ev E n f c st=some (e,st')→Dd st.h st'.h):=by
 intro n
 induction n with
 | zero =>
   refine ⟨fun c f args H r h=>by simp [evCall] at h,fun f σ H slot o r h=>by simp [evOp] at h,fun f l i slot st log st' log' h=>?_,fun f c st e st' h=>by simp [ev] at h⟩
   cases l with
   | nil=>simp [evOps] at h; obtain ⟨rfl,rfl⟩:=h; exact fun j _ h _=>h
   | cons x l=>simp [evOps] at h
 | succ n ih =>
   obtain ⟨ih1,ih2,ih3,ih4⟩:=ih
   refine ⟨?_,?_,?_,?_⟩
   ·intro c f args H r h
    rw [evCall] at h
    split at h
    ·rename_i p hp; exact hD.dd _ f p hp args H r h
    ·split at h
     ·simp at h
     ·split at h
      ·split at h
       ·simp at h
       ·split at h
        ·simp at h
        ·split at h
         ·simp at h
         ·split at h
          ·simp at h; subst h; exact Dd.refl _
          ·simp at h; subst h
           exact fun i _ hi=>freeze_dead hi
      ·split at h
       ·simp at h
       ·rename_i e st hev
        have hd:Dd H st.h:=ih4 _ _ _ _ _ hev
        split at h
        ·simp at h
        ·try simp only at h
         split at h
         ·split at h
          ·simp at h; subst h; exact cut_dead hd
          ·simp at h; subst h
           exact fun i hi hh=>freeze_dead (cut_dead hd i hi hh)
         ·simp at h
      ·split at h
       ·simp at h
       ·rename_i e st hev
        have hd:Dd H st.h:=ih4 _ _ _ _ _ hev
        split at h
        ·simp at h
        ·simp at h; subst h
         simp only
         split
         ·exact cut_dead hd
         ·exact hd
   ·intro f σ H slot o r h
    cases o with
    | call g xs =>
      simp only [evOp] at h
      split at h
      ·exact fun i hi hh _=>ih1 _ _ _ _ _ h i hi hh
      ·simp at h
    | _ =>
      simp only [evOp] at h
      exact fun i hi hh hs=>pop_dead h hh hs
   ·intro f l i slot st log st' log' h
    cases l with
    | nil=>simp [evOps] at h; obtain ⟨rfl,rfl⟩:=h; exact fun j _ h _=>h
    | cons x l =>
      rw [evOps] at h
      try simp only at h
      split at h
      ·split at h
       ·simp at h
       ·rename_i r' hr
        intro j hj hdj hs
        have h1:=ih2 _ _ _ _ _ _ hr j hj hdj (fun q=>by simp only [nAlloc,q,if_true] at hs; omega)
        refine ih3 _ _ _ _ _ _ _ _ h j (Nat.lt_of_lt_of_le hj ((ev_frame hE n).2.1 _ _ _ _ _ _ hr).1) h1 ?_
        simp only [nAlloc] at hs
        split at hs <;> simp_all <;> omega
      ·intro j hj hdj hs
       refine ih3 _ _ _ _ _ _ _ _ h j hj hdj ?_
       simp only [nAlloc] at hs
       split at hs <;> simp_all <;> omega
   ·intro f c st e st' h
    cases c with
    | skip=>simp [ev] at h; obtain ⟨_,rfl⟩:=h; exact Dd.refl _
    | exit id=>simp [ev] at h; obtain ⟨_,rfl⟩:=h; exact Dd.refl _
    | ret=>simp [ev] at h; obtain ⟨_,rfl⟩:=h; exact Dd.refl _
    | reg draw ops pairs =>
      rw [ev] at h
      try simp only at h
      split at h
      ·rename_i st2 log hr
       have h2:=ih3 _ _ _ _ _ _ _ _ hr
       have he:st2=st':=by
        split at h
        ·split at h
         ·simp at h; exact h.2
         ·simp at h
        ·simp at h; exact h.2
       subst he
       exact fun i hi hd=>h2 i (Nat.lt_of_lt_of_le hi (Nat.le_add_right _ _)) (by simp [Heap.grow,hi,hd]) (.inl hi)
      ·simp at h
    | seq a b =>
      rw [ev] at h
      try simp only at h
      split at h
      ·rename_i st2 hr
       have a1:=ih4 _ _ _ _ _ hr
       have b1:=ih4 _ _ _ _ _ h
       exact fun i hi hd=>b1 i (Nat.lt_of_lt_of_le hi ((ev_frame hE n).2.2.2 _ _ _ _ _ hr).1.1) (a1 i hi hd)
      ·exact ih4 _ _ _ _ _ h
    | cond c a b =>
      rw [ev] at h
      try simp only at h
      split at h
      ·exact ih4 _ _ _ _ _ h
      ·simp at h
    | block id b =>
      rw [ev] at h
      try simp only at h
      split at h
      ·rename_i j st2 hr
       have he:st2=st':=by
        split at h
        ·simp at h; exact h.2
        ·simp at h; exact h.2
       subst he
       exact ih4 _ _ _ _ _ hr
      ·exact ih4 _ _ _ _ _ h
    | loop b =>
      rw [ev] at h
      try simp only at h
      split at h
      ·rename_i st2 hr
       have a1:=ih4 _ _ _ _ _ hr
       have b1:=ih4 _ _ _ _ _ h
       exact fun i hi hd=>b1 i (Nat.lt_of_lt_of_le hi ((ev_frame hE n).2.2.2 _ _ _ _ _ hr).1.1) (a1 i hi hd)
      ·exact ih4 _ _ _ _ _ h
end Go.Evl
