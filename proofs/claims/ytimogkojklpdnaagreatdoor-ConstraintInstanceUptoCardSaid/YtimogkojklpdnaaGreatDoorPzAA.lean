/-
  A part of the library Pm and its contracts (joined by program): Pm PmEv PmRule PmMono PmRuleD PmRel. Conditions: none.
-/
import GoSem.Step
import Derived.Orders
import Derived.Laws.BitsLemmas
import Derived.Laws.AppendOwn
import Derived.Laws.MakeOwn
import Derived.Below
set_option linter.unusedVariables false
set_option linter.unusedSimpArgs false
section
namespace Go.Pm
inductive PV where
  | int (k:IntKind) (n:Int)
  | bool (b:Bool)
  | str (s:ByteArray)
  | agg (cs:List PV)
  | tup (vs:List PV)
  | snap (full:Bool) (es:List PV)
  | mref (id ep off len:Nat)
  | ptr (id ep i off:Nat)
  | sptr (cs:List PV)
  | mapr (id:Nat)
  | nilm
  | nilp
  | nilf
  | fn (f:FuncId) (caps:List PV)
  | bfn (f:FuncId) (k:Nat) (cs:List PV)
  | undef
  | any
  deriving Inhabited
inductive Mu where
  | m | l | f | x
  deriving DecidableEq,Inhabited
structure AObj where
  mu:Mu
  ep:Nat
  esz:Nat
  es:List PV
  deriving Inhabited
abbrev AHeap:=List AObj
structure St where
  ρ:Nat→PV
  h:AHeap
def upd (ρ:Nat→PV) (d:Nat) (v:PV):Nat→PV:=fun t=>if t=d then v else ρ t
def updO (ρ:Nat→PV) (d:Option Nat) (v:PV):Nat→PV:=
  match d with
  | some d=>upd ρ d v
  | none=>ρ
def cells:PV→List PV
  | .agg cs=>cs
  | v=>[v]
def oneC:PV→Bool
  | .agg _ | .tup _ | .undef | .any=>false
  | _=>true
mutual
def isVal:PV→Bool
  | .int .. | .bool _ | .str _ | .nilp | .nilf | .nilm | .snap .. | .sptr _=>true
  | .agg cs=>isVals cs
  | .tup cs=>isVals cs
  | .fn _ cs=>isVals cs
  | .bfn _ _ cs=>isVals cs
  | .mref .. | .ptr .. | .mapr _ | .undef | .any=>false
def isVals:List PV→Bool
  | []=>true
  | c::r=>isVal c && isVals r
end
mutual
def scal:PV→Bool
  | .int .. | .bool _ | .str _ | .nilp | .nilf | .nilm=>true
  | .agg cs=>scals cs
  | .tup cs=>scals cs
  | _=>false
def scals:List PV→Bool
  | []=>true
  | c::r=>scal c && scals r
end
mutual
def nrm:PV→PV
  | .snap _ es=>.snap false (nrms es)
  | .agg cs=>.agg (nrms cs)
  | .tup cs=>.tup (nrms cs)
  | .fn f cs=>.fn f (nrms cs)
  | .bfn f k cs=>.bfn f k (nrms cs)
  | .sptr cs=>.sptr (nrms cs)
  | p=>p
def nrms:List PV→List PV
  | []=>[]
  | c::r=>nrm c::nrms r
end
def cv0:Value→PV
  | .int k n=>.int k n
  | .bool b=>.bool b
  | .string s=>.str s
  | .slice none 0 0=>.snap true []
  | .pointer none=>.nilp
  | .nilFunc=>.nilf
  | .map none=>.nilm
  | _=>.any
def cv:Value→PV
  | .agg cs=>.agg (cs.toList.map cv0)
  | v=>cv0 v
def ev (ρ:Nat→PV):Operand→PV
  | .tmp t=>ρ t
  | .const v=>cv v
  | .func f=>.fn f []
  | .global _=>.any
def tsize (P:Program) (t:TypeId):Option Nat:=(P.info? t).map (·.size)
def tbytes (P:Program) (t:TypeId):Option Nat:=(P.info? t).map (·.bytes)
def tzero (P:Program) (t:TypeId):Option PV:=((P.info? t).bind (·.zero)).map cv
def tagg (P:Program) (t:TypeId):Option Bool:=(P.underlying t).map fun | .struct _ | .array _ _=>true | _=>false
def getM (h:AHeap) (id ep:Nat):Option AObj:=
  match h[id]? with
  | some o=>if o.ep=ep∧o.mu≠.x then some o else none
  | none=>none
def elems (h:AHeap):PV→Option (List PV)
  | .snap _ es=>some es
  | .mref id ep off len=>match getM h id ep with
    | some o=>if off+len≤o.es.length then some ((o.es.drop off).take len) else none
    | none=>none
  | _=>none
def pcells (h:AHeap):PV→Option (List PV)
  | .sptr cs=>some cs
  | .ptr id ep i off=>match getM h id ep with
    | some o=>match o.es[i]? with
      | some e=>some ((cells e).drop off)
      | none=>none
    | none=>none
  | _=>none
def loadP (P:Program) (h:AHeap) (t:TypeId) (p:PV):Option PV:=
  match tsize P t,tagg P t,pcells h p with
  | some sz,some true,some cs=>if 0<sz∧sz≤cs.length then some (.agg (cs.take sz)) else none
  | some _,some false,some cs=>match cs with
    | c::_=>some c
    | []=>none
  | _,_,_=>none
def recell (off sz:Nat) (e v:PV):PV:=
  if off=0∧sz=(cells e).length then v else .agg ((cells e).take off++cells v++(cells e).drop (off+sz))
def storeP (P:Program) (h:AHeap) (t:TypeId) (p v:PV):Option AHeap:=
  match p,tsize P t with
  | .ptr id ep i off,some sz=>match getM h id ep with
    | some o=>match o.es[i]? with
      | some e=>if o.mu=.m∧(cells v).length=sz∧(cells v).all oneC=true∧off+sz≤(cells e).length then
          some (h.set id {o with es:=o.es.set i (recell off sz e v) }) else none
      | none=>none
    | none=>none
  | _,_=>none
def newObj (h:AHeap) (esz:Nat) (es:List PV):AHeap:=h++[{ mu:=.m,ep:=0,esz,es }]
def setRange (cs:List PV) (off:Nat) (vs:List PV):List PV:=cs.take off++vs++cs.drop (off+vs.length)
def fillP (place:Nat→Option (Nat × Nat)) (cs:List PV):List (Nat × PV)→Option (List PV)
  | []=>some cs
  | (i,v)::rest=>match place i with
    | none=>none
    | some (off,size)=>
      if (cells v).length=size∧(cells v).all oneC=true∧off+size≤cs.length then fillP place (setRange cs off (cells v)) rest else none
def fieldPlaces (P:Program) (fs:Array Field) (i:Nat):Option (Nat × Nat):=
  match fs[i]? with
  | some f=>(tsize P f.type).map fun s=>(f.offset,s)
  | none=>none
def buildP (P:Program) (t:TypeId) (parts:List (Nat × PV)):Option PV:=
  match tzero P t,P.underlying t with
  | some z,some (.struct fs)=>if fs.toList.all (fun f=>(tsize P f.type).isSome)=true∧(cells z).all oneC=true then (fillP (fieldPlaces P fs) (cells z) parts).map .agg else none
  | some z,some (.array _ e)=>match tsize P e with
    | some size=>if (cells z).all oneC=true then (fillP (fun i=>some (i * size,size)) (cells z) parts).map .agg else none
    | none=>none
  | _,_=>none
def litP (z:PV) (n:Nat) (parts:List (Nat × PV)):List PV:=parts.foldl (fun es x=>es.set x.1 x.2) (List.replicate n z)
def buildSliceP (P:Program) (lv:Nat) (h:AHeap) (t:TypeId) (len:Nat) (parts:List (Nat × PV)):Option (PV × AHeap):=
  match P.underlying t with
  | some (.slice e)=>match tsize P e,tzero P e with
    | some size,some z=>
      if 0<size∧len * size≤16777216∧(cells z).length=size∧(cells z).all oneC=true∧parts.all (fun p=>decide ((cells p.2).length=size) && (cells p.2).all oneC && decide (p.1<len))=true then
        if isVals (litP z len parts) then some (.snap true (litP z len parts),h)
        else if 2≤lv then some (.mref h.length 0 0 len,newObj h size (litP z len parts)) else none
      else none
    | _,_=>none
  | _=>none
def intOp (op:BinOp) (k:IntKind) (a b:Int):Option PV:=
  match op with
  | .add=>some (.int k (k.wrap (a+b)))
  | .sub=>some (.int k (k.wrap (a - b)))
  | .mul=>some (.int k (k.wrap (a * b)))
  | .quo=>if b=0 then none else some (.int k (k.wrap (a.tdiv b)))
  | .rem=>if b=0 then none else some (.int k (a.tmod b))
  | .eql=>some (.bool (a == b))
  | .neq=>some (.bool (a != b))
  | .lss=>some (.bool (decide (a<b)))
  | .leq=>some (.bool (decide (a≤b)))
  | .gtr=>some (.bool (decide (a > b)))
  | .geq=>some (.bool (decide (a≥b)))
  | .and=>some (.int k (k.wrap (BitVec.ofInt k.bits a &&& BitVec.ofInt k.bits b).toNat))
  | .or=>some (.int k (k.wrap (BitVec.ofInt k.bits a ||| BitVec.ofInt k.bits b).toNat))
  | .xor=>some (.int k (k.wrap (BitVec.ofInt k.bits a ^^^ BitVec.ofInt k.bits b).toNat))
  | _=>none
def shiftOp (op:BinOp) (k:IntKind) (x y:Int):Option PV:=
  if y<0 then none else
  match op with
  | .shl=>some (.int k (k.wrap (x * 2 ^ (min y.toNat k.bits))))
  | .shr=>some (.int k (x.fdiv (2 ^ (min y.toNat k.bits))))
  | _=>none
def strOp (op:BinOp) (x y:ByteArray):Option PV:=
  match op with
  | .add=>if ((x.size+y.size:Nat):Int) > IntKind.i64.max then none else some (.str (x++y))
  | .eql=>some (.bool (x.toList == y.toList))
  | .neq=>some (.bool !(x.toList == y.toList))
  | .lss=>some (.bool (Op.bytesLess x.toList y.toList))
  | .leq=>some (.bool (Op.bytesLess x.toList y.toList || x.toList == y.toList))
  | .gtr=>some (.bool !(Op.bytesLess x.toList y.toList || x.toList == y.toList))
  | .geq=>some (.bool !(Op.bytesLess x.toList y.toList))
  | _=>none
def binP (P:Program) (op:BinOp) (t:TypeId) (x y:PV):Option PV:=
  match x,y with
  | .int k a,.int k' b=>match op with
    | .shl | .shr=>shiftOp op k a b
    | _=>if k=k' then intOp op k a b else none
  | .str a,.str b=>strOp op a b
  | .bool a,.bool b=>match P.underlying t with
    | some .bool=>match op with
      | .eql=>some (.bool (a == b))
      | .neq=>some (.bool !(a == b))
      | _=>none
    | _=>none
  | _,_=>none
def unP (op:UnOp) (x:PV):Option PV:=
  match op,x with
  | .neg,.int k n=>some (.int k (k.wrap (0 - n)))
  | .not,.bool b=>some (.bool !b)
  | _,_=>none
def byteV:PV→Option Int
  | .int .u8 n=>some n
  | _=>none
def bytesP:List PV→Option (List Int)
  | []=>some []
  | c::r=>match byteV c with
    | some n=>match bytesP r with
      | some l=>some (n::l)
      | none=>none
    | none=>none
def strN (xs:List Int):ByteArray:=⟨(xs.map fun n=>UInt8.ofNat n.toNat).toArray⟩
def convP (P:Program) (src dst:TypeId) (x:PV):Option PV:=
  match P.underlying src,P.underlying dst,x with
  | some _,some (.int k),.int _ n=>some (.int k (k.wrap n))
  | some _,some .string,.str s=>some (.str s)
  | some (.slice e),some .string,.snap _ es=>match P.underlying e,bytesP es with
    | some (.int .u8),some l=>some (.str (strN l))
    | _,_=>none
  | _,_,_=>none
def boundP (x:Option PV) (dflt top:Nat):Option Nat:=
  match x with
  | none=>some dflt
  | some (.int _ i)=>if 0≤i∧i≤(top:Int) then some i.toNat else none
  | some _=>none
def beyond (mx hi:Option PV) (len top:Nat):Option Nat:=
  match mx,hi with
  | none,some (.int k i)=>if (len:Int)<i then boundP (some (.int k i)) 0 top else none
  | _,_=>none
def sliceP (P:Program) (h:AHeap) (t:TypeId) (x:PV) (lo hi mx:Option PV):Option PV:=
  match P.underlying t,x with
  | some .string,.str s=>if mx.isSome then none else
    match boundP hi s.size s.size with
    | some b=>match boundP lo 0 b with
      | some a=>some (.str (s.extract a b))
      | none=>none
    | none=>none
  | some (.slice e),.snap full es=>match tsize P e with
    | some sz=>match boundP mx es.length es.length with
      | some m=>match boundP hi es.length m with
        | some b=>match boundP lo 0 b with
          | some a=>if (mx.isSome && hi.isNone)=false∧(es[a]?).all (fun v=>(cells v).length == sz)=true then some (.snap (if mx.isSome then m == b else full && b == es.length) ((es.drop a).take (b - a))) else none
          | none=>none
        | none=>none
      | none=>none
    | none=>none
  | some (.slice e),.mref id ep off len=>match tsize P e,getM h id ep with
    | some sz,some o=>if sz=o.esz∧off+len≤o.es.length then
        match beyond mx hi len (o.es.length - off) with
        | some b=>match boundP lo 0 b with
          | some a=>if a=0 then some (.mref id ep off b) else if b - a=0 then some (.snap false []) else some (.mref id ep (off+a) (b - a))
          | none=>none
        | none=>
        match boundP mx len len with
        | some m=>match boundP hi len m with
          | some b=>match boundP lo 0 b with
            | some a=>if (mx.isSome && hi.isNone)=false then
                (if mx.isSome then (if m=a then some (.snap true []) else some .any)
                 else if a=0 then some (.mref id ep off b) else if b - a=0 then some (.snap false []) else some (.mref id ep (off+a) (b - a)))
              else none
            | none=>none
          | none=>none
        | none=>none
      else none
    | _,_=>none
  | _,_=>none
def fieldOff (P:Program) (s:TypeId) (f:Nat):Option (Nat × TypeId):=
  match P.underlying s with
  | some (.struct fs)=>match fs[f]? with
    | some fl=>match tsize P fl.type with
      | some sz=>if sz=0 then none else some (fl.offset,fl.type)
      | none=>none
    | none=>none
  | _=>none
def fieldAddrP (P:Program) (s:TypeId) (p:PV) (f:Nat):Option PV:=
  match fieldOff P s f,p with
  | some (off,_),.sptr cs=>if off<cs.length then some (.sptr (cs.drop off)) else none
  | some (off,_),.ptr id ep i o=>some (.ptr id ep i (o+off))
  | _,_=>none
def partP (P:Program) (t:TypeId) (cs:List PV) (off:Nat):Option PV:=
  match tagg P t,tsize P t with
  | some true,some sz=>if off+sz≤cs.length then some (.agg ((cs.drop off).take sz)) else none
  | some false,some _=>match cs[off]? with
    | some c=>some c
    | none=>none
  | _,_=>none
def fieldP (P:Program) (s:TypeId) (x:PV) (f:Nat):Option PV:=
  match P.underlying s,x with
  | some (.struct fs),.agg cs=>match fs[f]? with
    | some fl=>partP P fl.type cs fl.offset
    | none=>none
  | _,_=>none
def indexAddrP (P:Program) (h:AHeap) (t:TypeId) (x ix:PV):Option PV:=
  match P.underlying t,x,ix with
  | some (.slice e),.snap _ es,.int _ i=>match tsize P e with
    | some sz=>if 0≤i∧i<(es.length:Int) then
        match es[i.toNat]? with
        | some v=>if 0<sz∧(cells v).length=sz then some (.sptr (cells v)) else none
        | none=>none
      else none
    | none=>none
  | some (.slice e),.mref id ep off len,.int _ i=>match tsize P e,getM h id ep with
    | some sz,some o=>if 0≤i∧i<(len:Int)∧sz=o.esz∧off+len≤o.es.length then some (.ptr id ep (off+i.toNat) 0) else none
    | _,_=>none
  | some (.array n e),.sptr cs,.int _ i=>match tsize P e with
    | some sz=>if 0≤i∧i<(n:Int)∧i.toNat * sz<cs.length then some (.sptr (cs.drop (i.toNat * sz))) else none
    | none=>none
  | some (.array n e),.ptr id ep k o,.int _ i=>match tsize P e with
    | some sz=>if 0≤i∧i<(n:Int) then some (.ptr id ep k (o+i.toNat * sz)) else none
    | none=>none
  | _,_,_=>none
def indexP (P:Program) (t:TypeId) (x ix:PV):Option PV:=
  match P.underlying t,x,ix with
  | some (.array n e),.agg cs,.int _ i=>match tsize P e with
    | some sz=>if 0≤i∧i<(n:Int) then partP P e cs (i.toNat * sz) else none
    | none=>none
  | some .string,.str s,.int _ i=>if 0≤i then
      match s[i.toNat]? with
      | some b=>some (.int .u8 b.toNat)
      | none=>none
    else none
  | _,_,_=>none
def mapO (h:AHeap) (id:Nat):Option AObj:=
  match getM h id 0 with
  | some o=>if o.esz=0 then some o else none
  | none=>none
def sameK:PV→PV→Option Bool
  | .int k a,.int k' b=>if k=k' then some (a == b) else none
  | .str a,.str b=>some (a == b)
  | .bool a,.bool b=>some (a == b)
  | _,_=>none
def findP (k:PV):List PV→Nat→Option (Option (Nat × PV))
  | [],_=>some none
  | e::es,i=>match e with
    | .agg [k',v]=>match sameK k k' with
      | some true=>some (some (i,v))
      | some false=>findP k es (i+1)
      | none=>none
    | _=>none
def keyD (P:Program) (t:TypeId) (k:PV):Bool:=
  match P.underlying t,k with
  | some (.int k),.int k' _=>decide (k'=k)
  | some .string,.str _ | some .bool,.bool _=>true
  | _,_=>false
def lookupRes (ok:Bool) (v:PV) (b:Bool):PV:=if ok then .tup [v,.bool b] else v
def lookupP (P:Program) (h:AHeap) (t:TypeId) (m k:PV) (ok:Bool):Option PV:=
  match P.underlying t with
  | some (.map kt et)=>match tzero P et with
    | some z=>if keyD P kt k=true then
        match m with
        | .nilm=>some (lookupRes ok z false)
        | .mapr id=>match mapO h id with
          | some o=>match findP k o.es 0 with
            | some (some (_,v))=>some (lookupRes ok v true)
            | some none=>some (lookupRes ok z false)
            | none=>none
          | none=>none
        | _=>none
      else none
    | none=>none
  | _=>none
def putP (k v:PV) (es:List PV):Option (List PV):=
  match findP k es 0 with
  | some (some (i,_))=>some (es.set i (.agg [k,v]))
  | some none=>some (es++[.agg [k,v]])
  | none=>none
def updateP (P:Program) (h:AHeap) (t:TypeId) (m k v:PV):Option AHeap:=
  match P.underlying t,m with
  | some (.map kt _),.mapr id=>match mapO h id with
    | some o=>if keyD P kt k=true∧o.mu=.m then
        match putP k v o.es with
        | some es=>some (h.set id {o with es })
        | none=>none
      else none
    | none=>none
  | _,_=>none
def makeMapP (P:Program) (lv:Nat) (h:AHeap) (t:TypeId) (r:Option PV):Option (PV × AHeap):=
  if 1≤lv then
    match r,P.underlying t with
    | none,_=>some (.mapr h.length,newObj h 0 [])
    | some (.int _ _),some (.map _ _)=>some (.mapr h.length,newObj h 0 [])
    | _,_=>none
  else none
def lenP (P:Program) (h:AHeap) (t:TypeId) (x:PV):Option PV:=
  match P.underlying t,x with
  | some .string,.str s=>some (.int .i64 s.size)
  | some (.array n _),_=>some (.int .i64 n)
  | some (.slice _),.snap _ es=>some (.int .i64 es.length)
  | some (.map _ _),.nilm=>some (.int .i64 0)
  | some (.map _ _),.mapr id=>match mapO h id with
    | some o=>some (.int .i64 o.es.length)
    | none=>none
  | some (.slice _),.mref id ep off len=>match getM h id ep with
    | some o=>if off+len≤o.es.length then some (.int .i64 len) else none
    | none=>none
  | _,_=>none
def appendee (P:Program) (h:AHeap) (z:PV) (xt:TypeId) (x:PV):Option (List PV):=
  match P.underlying xt,x with
  | some (.int _),.int _ n=>if 0≤n∧n≤1073741824 then some (List.replicate n.toNat z) else none
  | some (.slice _),x=>elems h x
  | _,_=>none
def roomy (n bytes:Nat):Bool:=decide (n * bytes≤17592186044416) && decide (n≤17592186044416)
def sameObj (id:Nat):PV→Bool
  | .mref i _ _ _=>i == id
  | _=>false
def appendP (P:Program) (lv:Nat) (h:AHeap) (st xt:TypeId) (s x:PV):Option (PV × AHeap):=
  match P.underlying st with
  | some (.slice e)=>match tsize P e,tbytes P e,tzero P e with
    | some sz,some bytes,some z=>match appendee P h z xt x with
      | some ys=>
        if 0<sz∧bytes≤65536∧((cells z).length=sz∧(cells z).all oneC=true)∧ys.all (fun v=>decide ((cells v).length=sz) && (cells v).all oneC)=true then
          match s with
          | .snap full es=>
            if ys.isEmpty then some (s,h)
            else if full=true∧1≤lv∧roomy (es.length+ys.length) bytes=true∧es.all (fun v=>decide ((cells v).length=sz) && (cells v).all oneC)=true then
              some (.mref h.length 0 0 (es.length+ys.length),newObj h sz (es++ys))
            else none
          | .mref id ep off len=>match getM h id ep with
            | some o=>
              if off+len≤o.es.length∧sz=o.esz then
                if ys.isEmpty then some (s,h)
                else if off=0∧2≤lv∧o.mu=.m∧sameObj id x=true∧len+ys.length≤o.es.length then
                  some (.mref id ep 0 (len+ys.length),h.set id {o with es:=o.es.take len++ys++o.es.drop (len+ys.length) })
                else if off=0∧2≤lv∧o.mu=.m∧roomy (len+ys.length) bytes=true then
                  some (.mref id (ep+1) 0 (len+ys.length),h.set id {o with ep:=ep+1,es:=o.es.take len++ys })
                else none
              else none
            | none=>none
          | _=>none
        else none
      | none=>none
    | _,_,_=>none
  | _=>none
def copyP (P:Program) (lv:Nat) (h:AHeap) (dt:TypeId) (d x:PV):Option (PV × AHeap):=
  match P.underlying dt,d,elems h x with
  | some (.slice e),.mref id ep off len,some ys=>match tsize P e,getM h id ep with
    | some sz,some o=>
      if 2≤lv∧o.mu=.m∧sz=o.esz∧off+len≤o.es.length∧ys.all (fun v=>decide ((cells v).length=sz))=true∧(ys.take (min ys.length len)).all (fun v=>decide ((cells v).length=sz) && (cells v).all oneC)=true then
        let n:=min ys.length len
        some (.int .i64 n,h.set id {o with es:=o.es.take off++ys.take n++o.es.drop (off+n) })
      else none
    | _,_=>none
  | _,_,_=>none
def clearP (P:Program) (lv:Nat) (h:AHeap) (t:TypeId) (x:PV):Option (PV × AHeap):=
  match P.underlying t,x with
  | some (.slice e),.mref id ep off len=>match tsize P e,tzero P e,getM h id ep with
    | some sz,some z,some o=>
      if 2≤lv∧o.mu=.m∧sz=o.esz∧off+len≤o.es.length∧(cells z).length=sz∧(cells z).all oneC=true then
        some (.tup [],h.set id {o with es:=o.es.take off++List.replicate len z++o.es.drop (off+len) })
      else none
    | _,_,_=>none
  | some (.slice _),.snap _ []=>some (.tup [],h)
  | _,_=>none
def capP (P:Program) (t:TypeId) (x:PV):Option PV:=
  match P.underlying t,x with
  | some (.slice _),.snap true es=>some (.int .i64 es.length)
  | _,_=>none
def maxP:List PV→Option PV
  | [.int k a,.int _ b]=>some (.int k (if b > a then b else a))
  | _=>none
def minP:List PV→Option PV
  | [.int k a,.int _ b]=>some (.int k (if b<a then b else a))
  | _=>none
def makeSliceP (P:Program) (lv:Nat) (h:AHeap) (t:TypeId) (len cap:PV):Option (PV × AHeap):=
  match P.underlying t,len,cap with
  | some (.slice e),.int _ n,.int _ c=>match tsize P e,tbytes P e,tzero P e with
    | some sz,some bytes,some z=>
      if 1≤lv∧0≤n∧n≤c∧c≤1073741824∧0<sz∧bytes≤65536∧(cells z).length=sz∧(cells z).all oneC=true then
        some (.mref h.length 0 0 n.toNat,newObj h sz (List.replicate n.toNat z))
      else none
    | _,_,_=>none
  | _,_,_=>none
def builtinP (P:Program) (lv:Nat) (h:AHeap) (b:Builtin) (ts:List TypeId) (args:List PV):Option (PV × AHeap):=
  match b,ts,args with
  | .len,t::_,x::_=>(lenP P h t x).map (·,h)
  | .append,st::xt::_,s::x::_=>appendP P lv h st xt s x
  | .copy,dt::_,d::x::_=>copyP P lv h dt d x
  | .clear,t::_,x::_=>clearP P lv h t x
  | .cap,t::_,x::_=>(capP P t x).map (·,h)
  | .max,_,xs=>(maxP xs).map (·,h)
  | .min,_,xs=>(minP xs).map (·,h)
  | _,_,_=>none
def stepOp (P:Program) (lv:Nat) (op:Op) (ρ:Nat→PV) (h:AHeap):Option (PV × AHeap):=
  match op with
  | .move x | .assign x=>some (ev ρ x,h)
  | .pick c a b=>match ev ρ c with
    | .bool t=>some (if t then ev ρ a else ev ρ b,h)
    | _=>none
  | .alloc t=>match tzero P t with
    | some z=>if 1≤lv∧(cells z).all oneC=true∧0<(cells z).length then some (.ptr h.length 0 0 0,newObj h (cells z).length [z]) else none
    | none=>none
  | .box _ x=>if 1≤lv∧(cells (ev ρ x)).all oneC=true∧0<(cells (ev ρ x)).length then some (.ptr h.length 0 0 0,newObj h (cells (ev ρ x)).length [ev ρ x]) else none
  | .build t parts=>(buildP P t (parts.toList.map fun (i,x)=>(i,ev ρ x))).map (·,h)
  | .buildSlice t n parts=>buildSliceP P lv h t n (parts.toList.map fun (i,x)=>(i,ev ρ x))
  | .load t a=>(loadP P h t (ev ρ a)).map (·,h)
  | .store t a x=>if 2≤lv then (storeP P h t (ev ρ a) (ev ρ x)).map (.undef,·) else none
  | .nilCheck x=>match ev ρ x with
    | .ptr id ep i o=>some (.ptr id ep i o,h)
    | .sptr cs=>some (.sptr cs,h)
    | .fn f cs=>some (.fn f cs,h)
    | _=>none
  | .binOp op t x y _=>(binP P op t (ev ρ x) (ev ρ y)).map (·,h)
  | .unOp op _ x=>(unP op (ev ρ x)).map (·,h)
  | .convert s d x=>(convP P s d (ev ρ x)).map (·,h)
  | .makeFunc (.func f) first caps=>if first.isEmpty then some (.fn f (caps.toList.map (ev ρ)),h) else some (.bfn f first.size ((first.toList++caps.toList).map (ev ρ)),h)
  | .makeSlice t l c=>makeSliceP P lv h t (ev ρ l) (ev ρ c)
  | .slice t x lo hi mx=>(sliceP P h t (ev ρ x) (lo.map (ev ρ)) (hi.map (ev ρ)) (mx.map (ev ρ))).map (·,h)
  | .fieldAddr s x f=>(fieldAddrP P s (ev ρ x) f).map (·,h)
  | .field s x f=>(fieldP P s (ev ρ x) f).map (·,h)
  | .indexAddr t x ix=>(indexAddrP P h t (ev ρ x) (ev ρ ix)).map (·,h)
  | .index t x ix=>(indexP P t (ev ρ x) (ev ρ ix)).map (·,h)
  | .makeMap t r=>makeMapP P lv h t (r.map (ev ρ))
  | .lookup t x k ok=>(lookupP P h t (ev ρ x) (ev ρ k) ok).map (·,h)
  | .mapUpdate t m k v | .insert t m k v=>if 2≤lv then (updateP P h t (ev ρ m) (ev ρ k) (ev ρ v)).map (.undef,·) else none
  | .extract x i=>match ev ρ x with
    | .tup vs=>match vs[i]? with
      | some v=>some (v,h)
      | none=>none
    | _=>none
  | _=>none
def rb1 (h:AHeap) (p:PV):Option PV:=
  match p with
  | .mref id ep off len=>match getM h id ep with
    | some o=>if off+len≤o.es.length∧(o.mu=.m∨o.mu=.f)∧isVals ((o.es.drop off).take len)=true then some (.snap false ((o.es.drop off).take len)) else none
    | none=>none
  | p=>if isVal p then some p else none
def rb1s (h:AHeap):List PV→Option (List PV)
  | []=>some []
  | c::r=>match rb1 h c,rb1s h r with
    | some c',some r'=>some (c'::r')
    | _,_=>none
def rbA (h:AHeap) (p:PV):Option PV:=
  match p with
  | .agg cs=>(rb1s h cs).map .agg
  | p=>rb1 h p
def rbAs (h:AHeap):List PV→Option (List PV)
  | []=>some []
  | c::r=>match rbA h c,rbAs h r with
    | some c',some r'=>some (c'::r')
    | _,_=>none
def rb (h:AHeap) (p:PV):Option PV:=
  match p with
  | .tup cs=>(rbAs h cs).map .tup
  | p=>rbA h p
def mapOp (f:PV→Option PV):List PV→Option (List PV)
  | []=>some []
  | c::r=>match f c,mapOp f r with
    | some c',some r'=>some (c'::r')
    | _,_=>none
def rbD:Nat→AHeap→PV→Option PV
  | 0,_,p=>if isVal p then some p else none
  | n+1,h,p=>match p with
    | .mref id ep off len=>match getM h id ep with
      | some o=>if off+len≤o.es.length∧(o.mu=.m∨o.mu=.f) then (mapOp (rbD n h) ((o.es.drop off).take len)).map (.snap false) else none
      | none=>none
    | .agg cs=>(mapOp (rbD n h) cs).map .agg
    | .tup cs=>(mapOp (rbD n h) cs).map .tup
    | p=>if isVal p then some p else none
def rbX (h:AHeap) (p:PV):Option PV:=match rb h p with | some r=>some r | none=>rbD 8 h p
def freeze1 (h:AHeap) (id:Nat):Option AHeap:=
  match h[id]? with
  | some o=>if isVals o.es=true∧(o.mu=.m∨o.mu=.f) then some (h.set id {o with mu:=.f }) else none
  | none=>none
def freezes (h:AHeap):List Nat→Option AHeap
  | []=>some h
  | id::r=>match freeze1 h id with
    | some h'=>freezes h' r
    | none=>none
def frozenAll (h:AHeap) (ids:List Nat):Bool:=ids.all fun id=>match h[id]? with | some o=>decide (o.mu=.f) && isVals o.es | none=>false
def ids1:PV→List Nat
  | .mref id _ _ _=>[id]
  | _=>[]
def idsOf (ps:List PV):List Nat:=ps.flatMap fun p=>(cells p).flatMap ids1
def below1 (n:Nat):PV→Bool
  | .mref id _ _ _=>decide (id<n)
  | .ptr id _ _ _=>decide (id<n)
  | p=>isVal p
def belowA (n:Nat):PV→Bool
  | .agg cs=>cs.all (below1 n)
  | p=>below1 n p
def belowR (n:Nat):PV→Bool
  | .tup cs=>cs.all (belowA n)
  | p=>belowA n p
inductive Mode where
  | no
  | pure
  | opened
  | primQ (g:List PV→Option PV)
  | primL (g:List PV→AHeap→Option (PV × AHeap))
  | ext (g:List PV→Option PV)
structure Cfg where
  P:Program
  mode:FuncId→Mode
abbrev Run:=FuncId→List PV→AHeap→Option (PV × AHeap)
def callPure (run:Run) (lv:Nat) (f:FuncId) (args:List PV) (h:AHeap):Option (PV × AHeap):=
  if isVals args then
    match run f (nrms args) [] with
    | some (r,hc)=>match rbX hc r with
      | some r'=>some (nrm r',h)
      | none=>none
    | none=>none
  else match rbAs h args with
    | some args'=>match run f (nrms args') [] with
      | some (r,hc)=>match rbX hc r with
        | some r'=>if scal r' || frozenAll h (idsOf args) then some (nrm r',h)
          else if 2≤lv then (freezes h (idsOf args)).map (nrm r',·) else none
        | none=>none
      | none=>none
    | none=>match mapOp (rbD 8 h) args with
      | some args'=>match run f (nrms args') [] with
        | some (r,hc)=>match rbX hc r with
          | some r'=>if scal r' then some (nrm r',h) else none
          | none=>none
        | none=>none
      | none=>none
def lock1 (o:AObj):AObj:=match o.mu with | .m=>{o with mu:=.l } | _=>o
def lockCall (run:List PV→AHeap→Option (PV × AHeap)) (lv:Nat) (args:List PV) (h:AHeap):Option (PV × AHeap):=
  if 2≤lv then run args h
  else if 1≤lv then match run args (h.map lock1) with
    | some (r,h')=>if (h'.drop h.length).all (fun o=>decide (o.mu≠.l))=true then some (r,h++h'.drop h.length) else none
    | none=>none
  else none
def callOpen (run:Run) (lv:Nat) (f:FuncId) (args:List PV) (h:AHeap):Option (PV × AHeap):=
  match lockCall (run f) lv args h with
  | some (r,h')=>if belowR h.length r && (h'.take h.length).all (fun o=>o.es.all (belowA h.length)) then some (r,h'.take h.length) else some (r,h')
  | none=>none
def callF (C:Cfg) (run:Run) (lv:Nat) (f:FuncId) (args:List PV) (h:AHeap):Option (PV × AHeap):=
  match C.mode f with
  | .no=>none
  | .pure=>callPure run lv f args h
  | .opened=>callOpen run lv f args h
  | .primQ g=>if isVals args then (g (nrms args)).map (·,h) else none
  | .primL g=>lockCall g lv args h
  | .ext g=>if isVals args then (g (nrms args)).map (·,h) else none
def calleeP (C:Cfg) (run:Run) (lv:Nat) (callee:PV) (args:List PV) (h:AHeap):Option (PV × AHeap):=
  match callee with
  | .fn f caps=>callF C run lv f (args++caps) h
  | .bfn f k cs=>callF C run lv f (cs.take k++args++cs.drop k) h
  | _=>none
def opVal (C:Cfg) (run:Run) (lv:Nat) (op:Op) (ρ:Nat→PV) (h:AHeap):Option (PV × AHeap):=
  match op with
  | .call c=>match c.callee with
    | .value f=>calleeP C run lv (ev ρ f) (c.args.toList.map (ev ρ)) h
    | .builtin b=>builtinP C.P lv h b c.argTypes.toList (c.args.toList.map (ev ρ))
    | .invoke _ _=>none
  | op=>stepOp C.P lv op ρ h
def heapy:Op→Bool
  | .move _ | .assign _ | .pick .. | .binOp .. | .unOp .. | .convert .. | .extract .. | .makeFunc .. | .build .. | .field .. | .index .. | .fieldAddr .. | .nilCheck _=>false
  | _=>true
def aft (o:Oper):List Edge:=o.after.toList.filter (Region.binds .any)
def before (ops:Array Oper):List Nat:=
  ops.toList.foldl (fun acc o=>acc++[(aft o).foldl (fun s e=>s ||| 2 ^ e.on ||| acc.getD e.on 0) 0]) []
def cmpB (b:List Nat) (i j:Nat):Bool:=i == j || (b.getD i 0).testBit j || (b.getD j 0).testBit i
def level (ops:Array Oper) (b:List Nat) (i:Nat):Nat:=
  if ops.toList.zipIdx.all fun (o,j)=>!heapy o.op || cmpB b i j then 2 else 1
def wantedA (ops:Array Oper) (o:Oper) (ρ:Nat→PV):Option Bool:=
  match o.guard with
  | none=>some true
  | some (j,want)=>match (ops.toList[j]?).bind (·.dst) with
    | none=>some false
    | some d=>match ρ d with
      | .bool b=>some (b == want)
      | .undef=>some false
      | _=>none
def opStep (C:Cfg) (run:Run) (ops:Array Oper) (o:Oper) (s:St):Option St:=
  match wantedA ops o s.ρ with
  | some true=>match opVal C run 2 o.op s.ρ s.h with
    | some (v,h')=>some ⟨updO s.ρ o.dst v,h'⟩
    | none=>none
  | some false=>some ⟨updO s.ρ o.dst .undef,s.h⟩
  | none=>none
def evalOps (C:Cfg) (run:Run) (ops:Array Oper):List Oper→St→Option St
  | [],s=>some s
  | o::r,s=>match opStep C run ops o s with
    | some s'=>evalOps C run ops r s'
    | none=>none
def hide1 (o:AObj):AObj:={o with mu:=.x }
def maskE (e:Nat→Bool) (L0:Nat) (own:List Nat) (h:AHeap):AHeap:=
  h.take L0++List.zipWith (fun o j=>if e j then o else hide1 o) (h.drop L0) own
def visible (h:AHeap) (id:Nat):Bool:=match h[id]? with | some o=>decide (o.mu≠.x) | none=>false
mutual
def visR (f:Nat→Bool):PV→Bool
  | .mref id _ _ _=>f id
  | .ptr id _ _ _=>f id
  | .mapr id=>f id
  | .agg cs=>visRs f cs
  | .tup cs=>visRs f cs
  | .fn _ cs=>visRs f cs
  | .bfn _ _ cs=>visRs f cs
  | _=>true
def visRs (f:Nat→Bool):List PV→Bool
  | []=>true
  | c::r=>visR f c && visRs f r
end
def closedH (h:AHeap):Bool:=h.all fun o=>decide (o.mu=.x) || visRs (visible h) o.es
structure DSt where
  s:St
  L0:Nat
  own:List Nat
def opStepD (C:Cfg) (run:Run) (ops:Array Oper) (b:List Nat) (i:Nat) (o:Oper) (x:DSt):Option DSt:=
  match wantedA ops o x.s.ρ with
  | some true=>
    if heapy o.op=false then match opVal C run 1 o.op x.s.ρ x.s.h with
      | some (r,_)=>some ⟨⟨updO x.s.ρ o.dst r,x.s.h⟩,x.L0,x.own⟩
      | none=>none
    else if level ops b i=2 then match opVal C run 2 o.op x.s.ρ x.s.h with
      | some (r,h')=>some ⟨⟨updO x.s.ρ o.dst r,h'⟩,h'.length,[]⟩
      | none=>none
    else
      let M:=maskE (b.getD i 0).testBit x.L0 x.own x.s.h
      if closedH M=true∧(o.op.operands.toList.all fun y=>visR (visible M) (ev x.s.ρ y))=true then
        match opVal C run 1 o.op x.s.ρ M with
        | some (r,h')=>if (h'.drop x.s.h.length).all (fun o=>decide (o.mu≠.l))=true then
            some ⟨⟨updO x.s.ρ o.dst r,x.s.h++h'.drop x.s.h.length⟩,x.L0,x.own++List.replicate (h'.drop x.s.h.length).length i⟩ else none
        | none=>none
      else none
  | some false=>some ⟨⟨updO x.s.ρ o.dst .undef,x.s.h⟩,x.L0,x.own⟩
  | none=>none
def evalOpsD (C:Cfg) (run:Run) (ops:Array Oper) (b:List Nat):Nat→List Oper→DSt→Option DSt
  | _,[],x=>some x
  | i,o::r,x=>match opStepD C run ops b i o x with
    | some x'=>evalOpsD C run ops b (i+1) r x'
    | none=>none
def isRdK:Op→Bool
  | .load .. | .indexAddr ..=>true
  | _=>false
def isBs:Op→Bool
  | .buildSlice ..=>true
  | _=>false
def sinkA (o:Oper):Option Operand:=match o.op,o.dst,o.guard with
  | .store _ a _,none,none=>some a
  | _,_,_=>none
def sinks (ops:Array Oper) (b:List Nat):Option (Operand × Operand):=
  if 2≤ops.size∧cmpB b (ops.size - 2) (ops.size - 1)=false then
    match (ops.toList[ops.size - 2]?).bind sinkA,(ops.toList[ops.size - 1]?).bind sinkA with
    | some x,some y=>some (x,y)
    | _,_=>none
  else none
def levelK (ops:Array Oper) (b:List Nat) (i:Nat) (bs:Bool):Bool:=ops.toList.zipIdx.all fun (o,j)=>!(heapy o.op && !isRdK o.op && (bs || !isBs o.op)) || cmpB b i j || ((sinks ops b).isSome && decide (ops.size≤i+2) && decide (ops.size≤j+2))
def levelR (ops:Array Oper) (b:List Nat) (i:Nat):Bool:=ops.toList.zipIdx.all fun (o,j)=>!(heapy o.op && !isRdK o.op && !isBs o.op) || cmpB b i j || ((sinks ops b).isSome && decide (ops.size≤j+2))
def keepL (h h':AHeap):AHeap:=List.zipWith (fun o o'=>if o.mu=.m then o' else o) h h'++h'.drop h.length
def stillI (h:AHeap) (id:Nat):Bool:=match h[id]? with
  | some o=>decide (o.mu≠.m)
  | none=>false
def rdId (op:Op) (ρ:Nat→PV):Option Nat:=match op with
  | .load _ x=>match ev ρ x with
    | .ptr id _ _ _=>some id
    | _=>none
  | .indexAddr _ x _=>match ev ρ x with
    | .mref id _ _ _=>some id
    | _=>none
  | _=>none
def offT (ops:Array Oper) (ρ:Nat→PV) (x:Operand) (id:Nat):Bool:=(match x with | .tmp t=>!ops.toList.any (fun o=>o.dst == some t) | _=>true) && (match ev ρ x with | .ptr j _ _ _=>decide (j≠id) | _=>false)
def rdOk (ops:Array Oper) (b:List Nat) (i:Nat) (ρ:Nat→PV) (id:Nat):Bool:=match sinks ops b with
  | none=>true
  | some (x,y)=>(cmpB b i (ops.size - 2) || offT ops ρ x id) && (cmpB b i (ops.size - 1) || offT ops ρ y id)
def rdGate (ops:Array Oper) (b:List Nat) (h0:AHeap) (i:Nat) (ρ:Nat→PV) (op:Op):Bool:=match rdId op ρ with
  | none=>true
  | some id=>stillI h0 id || (levelR ops b i && rdOk ops b i ρ id)
def opStepK (C:Cfg) (run:Run) (ops:Array Oper) (b:List Nat) (h0:AHeap) (i:Nat) (o:Oper) (s:St):Option St:=
  match wantedA ops o s.ρ with
  | some true=>
    if heapy o.op=false then match opVal C run 1 o.op s.ρ s.h with
      | some (r,_)=>some ⟨updO s.ρ o.dst r,s.h⟩
      | none=>none
    else if isRdK o.op=true then (if rdGate ops b h0 i s.ρ o.op=true then match stepOp C.P 1 o.op s.ρ s.h with
          | some (r,_)=>some ⟨updO s.ρ o.dst r,s.h⟩
          | none=>none
        else none)
    else match (if isBs o.op then stepOp C.P 1 o.op s.ρ s.h else none) with
      | some (r,_)=>some ⟨updO s.ρ o.dst r,s.h⟩
      | none=>if levelK ops b i (isBs o.op)=true then match opVal C run 2 o.op s.ρ s.h with
          | some (r,h')=>if s.h.length≤h'.length then some ⟨updO s.ρ o.dst r,keepL s.h h'⟩ else none
          | none=>none
        else none
  | some false=>some ⟨updO s.ρ o.dst .undef,s.h⟩
  | none=>none
def evalOpsK (C:Cfg) (run:Run) (ops:Array Oper) (b:List Nat) (h0:AHeap):Nat→List Oper→St→Option St
  | _,[],s=>some s
  | i,o::r,s=>match opStepK C run ops b h0 i o s with
    | some s'=>evalOpsK C run ops b h0 (i+1) r s'
    | none=>none
def lockIds (ops:Array Oper) (b:List Nat) (ρ:Nat→PV):List Nat:=ops.toList.zipIdx.flatMap fun (o,i)=>match o.op with
  | .load _ (.tmp t)=>if ops.toList.any (fun o=>o.dst == some t) || levelR ops b i then [] else match ρ t with
    | .ptr id _ _ _=>[id]
    | _=>[]
  | _=>[]
def lockL (ids:List Nat) (h:AHeap):AHeap:=h.zipIdx.map fun (o,i)=>if ids.contains i then lock1 o else o
def openL (ids:List Nat) (h h':AHeap):AHeap:=h'.zipIdx.map fun (o,i)=>if ids.contains i then (match h[i]? with | some o'=>o' | none=>o) else o
def noLock (ids:List Nat) (h h':AHeap):Bool:=h'.zipIdx.all fun (o,i)=>decide (o.mu≠.l) || (ids.contains i && decide (i<h.length)) || (match h[i]? with | some o'=>decide (o'.mu=.l) | none=>false)
def sinkOk (ops:Array Oper) (b:List Nat) (ρ:Nat→PV):Bool:=match sinks ops b with
  | none=>true
  | some (x,y)=>match ev ρ x,ev ρ y with
    | .ptr i _ _ _,.ptr j _ _ _=>decide (i≠j)
    | _,_=>false
def calmD (C:Cfg) (run:Run) (ops:Array Oper) (s:St):Option St:=
  match evalOpsK C run ops (before ops) (lockL (lockIds ops (before ops) s.ρ) s.h) 0 ops.toList ⟨s.ρ,lockL (lockIds ops (before ops) s.ρ) s.h⟩ with
  | some s'=>if noLock (lockIds ops (before ops) s.ρ) s.h s'.h=true∧sinkOk ops (before ops) s'.ρ=true then some ⟨s'.ρ,openL (lockIds ops (before ops) s.ρ) s.h s'.h⟩ else none
  | none=>none
def appMade (ops:Array Oper) (o:Oper):Bool:=match o.op with
  | .call ⟨.builtin .append,args,_⟩=>match args.toList with
    | .tmp t::_=>ops.toList.any fun o'=>o'.dst == some t && (match o'.op with | .call ⟨.value _,_,_⟩=>true | _=>false)
    | _=>false
  | _=>false
def appTwice (ops:Array Oper):Bool:=ops.toList.zipIdx.any fun (o,i)=>match o.op,o.dst with
  | .call ⟨.builtin .append,_,_⟩,some d=>!(level ops (before ops) i == 2) && ops.toList.any fun o'=>match o'.op with
    | .call ⟨.builtin .append,args,_⟩=>(match args.toList with
      | .tmp t::_=>t == d
      | _=>false)
    | _=>false
  | _,_=>false
def calmS (ops:Array Oper):Bool:=(ops.toList.zipIdx.any fun (o,i)=>appMade ops o && !(level ops (before ops) i == 2)) || (sinks ops (before ops)).isSome || appTwice ops
inductive Ex where
  | normal
  | exit (id:Nat)
  | ret
  deriving DecidableEq
def iter (body:St→Option (Ex × St)):Nat→St→Option (Ex × St)
  | 0,_=>none
  | n+1,s=>match body s with
    | some (.normal,s')=>iter body n s'
    | r=>r
def evalC (C:Cfg) (run:Run) (N:Nat):Code→St→Option (Ex × St)
  | .skip,s=>some (.normal,s)
  | .region _ ops draw,s=>match (if draw then (if calmS ops then calmD C run ops s else (evalOpsD C run ops (before ops) 0 ops.toList ⟨s,s.h.length,[]⟩).map (·.s)) else evalOps C run ops ops.toList s) with
    | some s'=>some (.normal,s')
    | none=>none
  | .seq a b,s=>match evalC C run N a s with
    | some (.normal,s')=>evalC C run N b s'
    | r=>r
  | .cond c a b,s=>match ev s.ρ c with
    | .bool true=>evalC C run N a s
    | .bool false=>evalC C run N b s
    | _=>none
  | .block id c,s=>match evalC C run N c s with
    | some (.exit id',s')=>if id'=id then some (.normal,s') else some (.exit id',s')
    | r=>r
  | .loop c,s=>iter (evalC C run N c) N s
  | .exit id,s=>some (.exit id,s)
  | .label _,s=>some (.normal,s)
  | .scope c,s=>evalC C run N c s
  | .ret,s=>some (.ret,s)
  | _,_=>none
def envOf (args:List PV):Nat→PV:=fun t=>args.getD t .undef
def resultOf (P:Program) (h:AHeap) (ρ:Nat→PV):List ResultVar→Option (List PV)
  | []=>some []
  | r::rest=>match (match r with | .tmp t=>some (ρ t) | .cell a t=>loadP P h t (ρ a)),resultOf P h ρ rest with
    | some v,some vs=>some (v::vs)
    | _,_=>none
def tupOf:List PV→PV
  | [v]=>v
  | vs=>.tup vs
def bodyF (C:Cfg) (run:Run) (n:Nat):Run:=fun f args h=>
  match C.P.funcs[f]? with
  | some fn=>match fn.body with
    | some c=>match evalC C run n c ⟨envOf args,h⟩ with
      | some (.normal,s) | some (.ret,s)=>match resultOf C.P s.h s.ρ fn.results.toList with
        | some vs=>some (tupOf vs,s.h)
        | none=>none
      | _=>none
    | none=>none
  | none=>none
def runF (C:Cfg) (n:Nat):Run:=Nat.rec (fun _ _ _=>none) (fun n r=>bodyF C r n) n
def pureF (C:Cfg) (n:Nat) (f:FuncId) (args:List PV):Option PV:=
  match runF C n f args [] with
  | some (r,h)=>(rbX h r).map nrm
  | none=>none
end Go.Pm
end
section
namespace Go.Pm
def al:List (Nat × PV)→(Nat→PV)→Nat→PV
 | [],ρ,t=>ρ t
 | (k,v)::L,ρ,t=>if t=k then v else al L ρ t
theorem al_all (ρ:Nat→PV):∀ (L:List (Nat × PV)),(∀ x∈L,ρ x.1=x.2)→al L ρ=ρ
 | [],_=>by funext t;rfl
 | (k,v)::L,h=>by
  funext t
  simp only [al]
  split
  ·rename_i hk;rw [hk];exact (h (k,v) (by simp)).symm
  ·rw [al_all ρ L (fun x hx=>h x (by simp [hx]))]
def Ev (C:Cfg) (c:Code) (s:St) (Q:Ex→St→Prop):Prop:=
 ∃ ex s',Q ex s'∧∃ n0,∀ n m,n0≤n→n0≤m→evalC C (runF C n) m c s=some (ex,s')
def EvOps (C:Cfg) (ops:Array Oper) (l:List Oper) (s:St) (Q:St→Prop):Prop:=
 ∃ s',Q s'∧∃ n0,∀ n,n0≤n→evalOps C (runF C n) ops l s=some s'
def CallEv (C:Cfg) (lv:Nat) (f:FuncId) (args:List PV) (h:AHeap) (Q:PV→AHeap→Prop):Prop:=
 ∃ r h',Q r h'∧∃ n0,∀ n,n0≤n→callF C (runF C n) lv f args h=some (r,h')
def FnEv (C:Cfg) (f:FuncId) (args:List PV) (h:AHeap) (Q:PV→AHeap→Prop):Prop:=
 ∃ r h',Q r h'∧∃ n0,∀ n,n0≤n→runF C n f args h=some (r,h')
variable {C:Cfg}
theorem FnEv.mono {f:FuncId} {args:List PV} {h:AHeap} {Q Q':PV→AHeap→Prop} (a:FnEv C f args h Q) (hq:∀ r h,Q r h→Q' r h):FnEv C f args h Q':=by
 obtain ⟨r,h',q,e⟩:=a
 exact ⟨r,h',hq _ _ q,e⟩
theorem Ev.skip {s:St} {Q:Ex→St→Prop} (h:Q .normal s):Ev C .skip s Q:=⟨_,_,h,0,fun _ _ _ _=>rfl⟩
theorem Ev.label {l:Nat} {s:St} {Q:Ex→St→Prop} (h:Q .normal s):Ev C (.label l) s Q:=⟨_,_,h,0,fun _ _ _ _=>rfl⟩
theorem Ev.exit {id:Nat} {s:St} {Q:Ex→St→Prop} (h:Q (.exit id) s):Ev C (.exit id) s Q:=⟨_,_,h,0,fun _ _ _ _=>rfl⟩
theorem Ev.ret {s:St} {Q:Ex→St→Prop} (h:Q .ret s):Ev C .ret s Q:=⟨_,_,h,0,fun _ _ _ _=>rfl⟩
theorem Ev.scope {c:Code} {s:St} {Q:Ex→St→Prop} (h:Ev C c s Q):Ev C (.scope c) s Q:=by
 obtain ⟨ex,s',q,n0,hn⟩:=h
 exact ⟨ex,s',q,n0,fun n m h1 h2=>by simpa [evalC] using hn n m h1 h2⟩
def thenQ (C:Cfg) (b:Code) (Q:Ex→St→Prop):Ex→St→Prop
 | .normal,s=>Ev C b s Q
 | ex,s=>Q ex s
theorem Ev.seq {a b:Code} {s:St} {Q:Ex→St→Prop} (h:Ev C a s (thenQ C b Q)):Ev C (.seq a b) s Q:=by
 obtain ⟨ex,s',q,n0,hn⟩:=h
 cases ex with
 | normal=>
  obtain ⟨ex2,s2,q2,n1,hn1⟩:=q
  exact ⟨ex2,s2,q2,max n0 n1,fun n m h1 h2=>by simp only [evalC,hn n m (by omega) (by omega),hn1 n m (by omega) (by omega)]⟩
 | exit id=>exact ⟨_,_,q,n0,fun n m h1 h2=>by simp only [evalC,hn n m h1 h2]⟩
 | ret=>exact ⟨_,_,q,n0,fun n m h1 h2=>by simp only [evalC,hn n m h1 h2]⟩
theorem Ev.condT {c:Operand} {a b:Code} {s:St} {Q:Ex→St→Prop} (hc:ev s.ρ c=.bool true) (h:Ev C a s Q):Ev C (.cond c a b) s Q:=by
 obtain ⟨ex,s',q,n0,hn⟩:=h
 exact ⟨ex,s',q,n0,fun n m h1 h2=>by simp only [evalC,hc,hn n m h1 h2]⟩
theorem Ev.condF {c:Operand} {a b:Code} {s:St} {Q:Ex→St→Prop} (hc:ev s.ρ c=.bool false) (h:Ev C b s Q):Ev C (.cond c a b) s Q:=by
 obtain ⟨ex,s',q,n0,hn⟩:=h
 exact ⟨ex,s',q,n0,fun n m h1 h2=>by simp only [evalC,hc,hn n m h1 h2]⟩
def blockQ (id:Nat) (Q:Ex→St→Prop):Ex→St→Prop
 | .exit id',s=>if id'=id then Q .normal s else Q (.exit id') s
 | ex,s=>Q ex s
theorem Ev.block {id:Nat} {c:Code} {s:St} {Q:Ex→St→Prop} (h:Ev C c s (blockQ id Q)):Ev C (.block id c) s Q:=by
 obtain ⟨ex,s',q,n0,hn⟩:=h
 cases ex with
 | normal=>exact ⟨_,_,q,n0,fun n m h1 h2=>by simp only [evalC,hn n m h1 h2]⟩
 | exit id'=>
  simp only [blockQ] at q
  by_cases hid:id'=id
  ·rw [if_pos hid] at q
   exact ⟨_,_,q,n0,fun n m h1 h2=>by simp only [evalC,hn n m h1 h2,if_pos hid]⟩
  ·rw [if_neg hid] at q
   exact ⟨_,_,q,n0,fun n m h1 h2=>by simp only [evalC,hn n m h1 h2,if_neg hid]⟩
 | ret=>exact ⟨_,_,q,n0,fun n m h1 h2=>by simp only [evalC,hn n m h1 h2]⟩
def loopQ (I:St→Prop) (Q:Ex→St→Prop):Ex→St→Prop
 | .normal,s=>I s
 | ex,s=>Q ex s
theorem Ev.loop {c:Code} {s:St} {Q:Ex→St→Prop} (I:Nat→St→Prop) (k:Nat) (h0:I k s) (step:∀ k s,I k s→Ev C c s (loopQ (fun s'=>∃ j,j<k∧I j s') Q)):Ev C (.loop c) s Q:=by
 have key:∀ (k:Nat) (s:St),I k s→∃ ex s',Q ex s'∧∃ n0,∀ n m j,n0≤n→n0≤m→n0≤j→iter (evalC C (runF C n) m c) j s=some (ex,s'):=by
  intro k
  induction k using Nat.strongRecOn with
  | ind k ih=>
   intro s hs
   obtain ⟨ex,s',q,n0,hn⟩:=step k s hs
   cases ex with
   | normal=>
    obtain ⟨j,hj,hI⟩:=q
    obtain ⟨ex2,s2,q2,n1,hn1⟩:=ih j hj s' hI
    refine ⟨ex2,s2,q2,max n0 n1+1,fun n m i h1 h2 h3=>?_⟩
    obtain ⟨i,rfl⟩:∃ i',i=i'+1:=⟨i - 1,by omega⟩
    simp only [iter,hn n m (by omega) (by omega),hn1 n m i (by omega) (by omega) (by omega)]
   | exit id=>
    refine ⟨_,_,q,n0+1,fun n m i h1 h2 h3=>?_⟩
    obtain ⟨i,rfl⟩:∃ i',i=i'+1:=⟨i - 1,by omega⟩
    simp only [iter,hn n m (by omega) (by omega)]
   | ret=>
    refine ⟨_,_,q,n0+1,fun n m i h1 h2 h3=>?_⟩
    obtain ⟨i,rfl⟩:∃ i',i=i'+1:=⟨i - 1,by omega⟩
    simp only [iter,hn n m (by omega) (by omega)]
 obtain ⟨ex,s',q,n0,hn⟩:=key k s h0
 exact ⟨ex,s',q,n0,fun n m h1 h2=>by simp only [evalC,hn n m m h1 h2 h2]⟩
theorem Ev.region {id:Nat} {ops:Array Oper} {s:St} {Q:Ex→St→Prop} (h:EvOps C ops ops.toList s (Q .normal)):Ev C (.region id ops false) s Q:=by
 obtain ⟨s',q,n0,hn⟩:=h
 exact ⟨.normal,s',q,n0,fun n m h1 h2=>by simp only [evalC,Bool.false_eq_true,if_false,hn n h1]⟩
theorem EvOps.nil {ops:Array Oper} {s:St} {Q:St→Prop} (h:Q s):EvOps C ops [] s Q:=⟨s,h,0,fun _ _=>rfl⟩
theorem EvOps.step {ops:Array Oper} {o:Oper} {r:List Oper} {s s1:St} {Q:St→Prop} (e:∀ run,opStep C run ops o s=some s1) (h:EvOps C ops r s1 Q):EvOps C ops (o::r) s Q:=by
 obtain ⟨s',q,n0,hn⟩:=h
 exact ⟨s',q,n0,fun n h1=>by simp only [evalOps,e,hn n h1]⟩
theorem EvOps.call {ops:Array Oper} {o:Oper} {r:List Oper} {s:St} {Q:St→Prop} {c:Call} {x:Operand} {f:FuncId} {caps args:List PV} (hw:wantedA ops o s.ρ=some true) (ho:o.op=.call c) (hx:c.callee=.value x) (hf:ev s.ρ x=.fn f caps)
  (ha:c.args.toList.map (ev s.ρ)++caps=args) (hc:CallEv C 2 f args s.h (fun v h'=>EvOps C ops r ⟨updO s.ρ o.dst v,h'⟩ Q)):EvOps C ops (o::r) s Q:=by
 obtain ⟨v,h',⟨s',q,n1,hn1⟩,n0,hn⟩:=hc
 refine ⟨s',q,max n0 n1,fun n h1=>?_⟩
 have:opVal C (runF C n) 2 o.op s.ρ s.h=some (v,h'):=by
  rw [ho]
  simp only [opVal,hx,calleeP,hf,ha]
  exact hn n (by omega)
 simp only [evalOps,opStep,hw,this,hn1 n (by omega)]
theorem FnEv.body {f:FuncId} {fn:Func} {c:Code} {args:List PV} {h:AHeap} {Q:PV→AHeap→Prop} (hf:C.P.funcs[f]?=some fn) (hb:fn.body=some c)
  (e:Ev C c ⟨envOf args,h⟩ (fun ex s=>(ex=.normal∨ex=.ret)∧∃ vs,resultOf C.P s.h s.ρ fn.results.toList=some vs∧Q (tupOf vs) s.h)):FnEv C f args h Q:=by
 obtain ⟨ex,s,⟨hex,vs,hr,q⟩,n0,hn⟩:=e
 refine ⟨_,_,q,n0+1,fun n h1=>?_⟩
 obtain ⟨n,rfl⟩:∃ i',n=i'+1:=⟨n - 1,by omega⟩
 show bodyF C (runF C n) n f args h=_
 unfold bodyF
 rw [hf]
 simp only [hb,hn n n (by omega) (by omega)]
 rcases hex with rfl | rfl <;> simp only [hr]
def Fun (C:Cfg) (f:FuncId) (args:List PV) (r:PV):Prop:=∃ n0,∀ n,n0≤n→∃ r0 hc r1,runF C n f args []=some (r0,hc)∧rbX hc r0=some r1∧nrm r1=r
theorem rbX_of {h:AHeap} {p r:PV} (e:rb h p=some r):rbX h p=some r:=by unfold rbX;rw [e]
theorem Fun.of {f:FuncId} {args:List PV} {r:PV} (e:FnEv C f args [] (fun r0 hc=>∃ r1,rb hc r0=some r1∧nrm r1=r)):Fun C f args r:=by
 obtain ⟨r0,hc,⟨r1,h1,h2⟩,n0,hn⟩:=e
 exact ⟨n0,fun n h=>⟨r0,hc,r1,hn n h,rbX_of h1,h2⟩⟩
theorem Fun.pureF {f:FuncId} {args:List PV} {r:PV} (a:Fun C f args r):∃ n,pureF C n f args=some r:=by
 obtain ⟨n0,hn⟩:=a
 obtain ⟨r0,hc,r1,h1,h2,h3⟩:=hn n0 (Nat.le_refl _)
 exact ⟨n0,by unfold Pm.pureF;rw [h1];simp [h2,h3]⟩
theorem CallEv.pure {lv:Nat} {f:FuncId} {args:List PV} {r:PV} {h:AHeap} {Q:PV→AHeap→Prop} (hm:C.mode f=.pure) (hv:isVals args=true) (a:Fun C f (nrms args) r) (q:Q r h):CallEv C lv f args h Q:=by
 obtain ⟨n0,hn⟩:=a
 refine ⟨r,h,q,n0,fun n h1=>?_⟩
 obtain ⟨r0,hc,r1,e1,e2,e3⟩:=hn n h1
 unfold callF
 rw [hm]
 simp only [callPure,hv,if_true,e1,e2,e3]
theorem CallEv.opened {f:FuncId} {args:List PV} {h:AHeap} {Q:PV→AHeap→Prop} (hm:C.mode f=.opened)
  (a:FnEv C f args h (fun r h'=>Q r (if belowR h.length r && (h'.take h.length).all (fun o=>o.es.all (belowA h.length)) then h'.take h.length else h'))):CallEv C 2 f args h Q:=by
 obtain ⟨r,h',q,n0,hn⟩:=a
 refine ⟨r,_,q,n0,fun n h1=>?_⟩
 unfold callF
 rw [hm]
 simp only [callOpen,lockCall,Nat.le_refl,if_true,hn n h1]
 split <;> rfl
theorem CallEv.ext {lv:Nat} {f:FuncId} {g:List PV→Option PV} {args:List PV} {r:PV} {h:AHeap} {Q:PV→AHeap→Prop} (hm:C.mode f=.ext g) (hv:isVals args=true) (a:g (nrms args)=some r) (q:Q r h):CallEv C lv f args h Q:=by
 refine ⟨r,h,q,0,fun n h1=>?_⟩
 unfold callF
 rw [hm]
 simp only [hv,if_true,a,Option.map_some]
section
variable {ops:Array Oper} {d:Option Nat} {ty:TypeId} {pos:String} {af:Array Edge} {g:Option (Nat × Bool)} {r:List Oper} {ρ:Nat→PV} {h:AHeap} {Q:St→Prop}
theorem EvOps.val {op:Op} {v:PV} {h':AHeap} (hw:wantedA ops ⟨d,op,ty,pos,af,g⟩ ρ=some true) (hc:∀ run,opVal C run 2 op ρ h=some (v,h')) (k:EvOps C ops r ⟨updO ρ d v,h'⟩ Q):EvOps C ops (⟨d,op,ty,pos,af,g⟩::r) ⟨ρ,h⟩ Q:=
 EvOps.step (s1:=⟨updO ρ d v,h'⟩) (fun run=>by simp only [opStep,hw,hc]) k
theorem EvOps.off {op:Op} (hw:wantedA ops ⟨d,op,ty,pos,af,g⟩ ρ=some false) (k:EvOps C ops r ⟨updO ρ d .undef,h⟩ Q):EvOps C ops (⟨d,op,ty,pos,af,g⟩::r) ⟨ρ,h⟩ Q:=
 EvOps.step (s1:=⟨updO ρ d .undef,h⟩) (fun run=>by simp only [opStep,hw]) k
def cmpI:BinOp→Int→Int→Option Prop
 | .eql,a,b=>some (a=b)
 | .neq,a,b=>some (a≠b)
 | .lss,a,b=>some (a<b)
 | .leq,a,b=>some (a≤b)
 | .gtr,a,b=>some (b<a)
 | .geq,a,b=>some (b≤a)
 | _,_,_=>none
theorem EvOps.cmp {bop:BinOp} {t yt:TypeId} {x y:Operand} {k:IntKind} {a b:Int} {p:Prop} (hw:wantedA ops ⟨d,.binOp bop t x y yt,ty,pos,af,g⟩ ρ=some true) (hx:ev ρ x=.int k a) (hy:ev ρ y=.int k b) (hp:cmpI bop a b=some p)
  (k1:p→EvOps C ops r ⟨updO ρ d (.bool true),h⟩ Q) (k2:¬ p→EvOps C ops r ⟨updO ρ d (.bool false),h⟩ Q):EvOps C ops (⟨d,.binOp bop t x y yt,ty,pos,af,g⟩::r) ⟨ρ,h⟩ Q:=by
 by_cases hpp:p
 ·refine EvOps.val (v:=.bool true) (h':=h) hw (fun run=>?_) (k1 hpp)
  simp only [opVal,stepOp,hx,hy]
  cases bop <;> simp only [cmpI,Option.some.injEq,reduceCtorEq] at hp <;> subst hp <;> simp [binP,intOp,hpp]
 ·refine EvOps.val (v:=.bool false) (h':=h) hw (fun run=>?_) (k2 hpp)
  simp only [opVal,stepOp,hx,hy]
  cases bop <;> simp only [cmpI,Option.some.injEq,reduceCtorEq] at hp <;> subst hp <;> simp [binP,intOp,hpp] <;> omega
theorem EvOps.fcall {c:Call} {x:Operand} {f:FuncId} {caps args:List PV} (hw:wantedA ops ⟨d,.call c,ty,pos,af,g⟩ ρ=some true) (hx:c.callee=.value x) (hf:ev ρ x=.fn f caps)
  (ha:c.args.toList.map (ev ρ)++caps=args) (hc:CallEv C 2 f args h (fun v h'=>EvOps C ops r ⟨updO ρ d v,h'⟩ Q)):EvOps C ops (⟨d,.call c,ty,pos,af,g⟩::r) ⟨ρ,h⟩ Q:=
 EvOps.call hw rfl hx hf ha hc
end
end Go.Pm
end
section
namespace Go.Pm
inductive Kd where
 | str
 | bool
 | int (k:IntKind)
 | sl (e:TypeId)
 | arr (n:Nat) (e:TypeId)
 | st (offs:List (Nat × TypeId))
 | mp (k e:TypeId)
 | other
def kdOf:TypeDesc→Kd
 | .string=>.str
 | .bool=>.bool
 | .int k=>.int k
 | .slice e=>.sl e
 | .array n e=>.arr n e
 | .struct fs=>.st (fs.toList.map fun f=>(f.offset,f.type))
 | .map k e=>.mp k e
 | _=>.other
structure Tab (P:Program) where
 ts:Nat→Option Nat
 ta:Nat→Option Bool
 tz:Nat→Option PV
 tb:Nat→Option Nat
 kd:Nat→Option Kd
 hts:∀ t n,ts t=some n→tsize P t=some n
 hta:∀ t n,ta t=some n→tagg P t=some n
 htz:∀ t n,tz t=some n→tzero P t=some n
 htb:∀ t n,tb t=some n→tbytes P t=some n
 hkd:∀ t n,kd t=some n→(P.underlying t).map kdOf=some n
variable {C:Cfg} (T:Tab C.P)
variable {ops:Array Oper} {d:Nat} {ty:TypeId} {pos:String} {af:Array Edge} {r:List Oper} {ρ:Nat→PV} {L:List (Nat × PV)} {h:AHeap} {Q:St→Prop}
theorem kd_inv {P:Program} {t:TypeId} {k:Kd} (e:(P.underlying t).map kdOf=some k):∃ u,P.underlying t=some u∧kdOf u=k:=by
 cases hu:P.underlying t with
 | none=>rw [hu] at e;simp at e
 | some u=>rw [hu] at e;exact ⟨u,rfl,Option.some.inj e⟩
theorem kd_str {P:Program} {t:TypeId} (e:(P.underlying t).map kdOf=some .str):P.underlying t=some .string:=by
 obtain ⟨u,h1,h2⟩:=kd_inv e
 cases u <;> simp [kdOf] at h2;exact h1
theorem kd_bool {P:Program} {t:TypeId} (e:(P.underlying t).map kdOf=some .bool):P.underlying t=some .bool:=by
 obtain ⟨u,h1,h2⟩:=kd_inv e
 cases u <;> simp [kdOf] at h2;exact h1
theorem kd_mp {P:Program} {t k el:TypeId} (e:(P.underlying t).map kdOf=some (.mp k el)):P.underlying t=some (.map k el):=by
 obtain ⟨u,h1,h2⟩:=kd_inv e
 cases u <;> simp [kdOf] at h2
 rw [h1,h2.1,h2.2]
theorem kd_sl {P:Program} {t el:TypeId} (e:(P.underlying t).map kdOf=some (.sl el)):P.underlying t=some (.slice el):=by
 obtain ⟨u,h1,h2⟩:=kd_inv e
 cases u <;> simp [kdOf] at h2;subst h2;exact h1
theorem kd_arr {P:Program} {t el:TypeId} {n:Nat} (e:(P.underlying t).map kdOf=some (.arr n el)):P.underlying t=some (.array n el):=by
 obtain ⟨u,h1,h2⟩:=kd_inv e
 cases u <;> simp [kdOf] at h2;obtain ⟨rfl,rfl⟩:=h2;exact h1
theorem kd_int {P:Program} {t:TypeId} {k:IntKind} (e:(P.underlying t).map kdOf=some (.int k)):P.underlying t=some (.int k):=by
 obtain ⟨u,h1,h2⟩:=kd_inv e
 cases u <;> simp [kdOf] at h2;subst h2;exact h1
theorem kd_st {P:Program} {t:TypeId} {os:List (Nat × TypeId)} (e:(P.underlying t).map kdOf=some (.st os)):∃ fs,P.underlying t=some (.struct fs)∧fs.toList.map (fun f=>(f.offset,f.type))=os:=by
 obtain ⟨u,h1,h2⟩:=kd_inv e
 cases u <;> simp [kdOf] at h2;exact ⟨_,h1,h2⟩
def lk:List (Nat × PV)→Nat→Option PV
 | [],_=>none
 | (k,v)::L,t=>if t=k then some v else lk L t
def evL (L:List (Nat × PV)):Operand→Option PV
 | .tmp t=>lk L t
 | .const (.int k n)=>some (.int k n)
 | .const (.bool b)=>some (.bool b)
 | .const (.string s)=>some (.str s)
 | .const (.slice none 0 0)=>some (.snap true [])
 | .const (.pointer none)=>some .nilp
 | .const .nilFunc=>some .nilf
 | .const (.map none)=>some .nilm
 | .const v=>some (cv v)
 | .func f=>some (.fn f [])
 | .global _=>none
def evsL (L:List (Nat × PV)):List Operand→Option (List PV)
 | []=>some []
 | x::xs=>match evL L x,evsL L xs with
  | some v,some vs=>some (v::vs)
  | _,_=>none
theorem lk_al {L:List (Nat × PV)} {t:Nat} {v:PV} (e:lk L t=some v) (ρ:Nat→PV):al L ρ t=v:=by
 induction L with
 | nil=>cases e
 | cons x L ih=>
  obtain ⟨k,u⟩:=x
  simp only [lk] at e
  simp only [al]
  split at e
  ·rename_i hk;rw [if_pos hk];exact Option.some.inj e
  ·rename_i hk;rw [if_neg hk];exact ih e
theorem evL_ev {L:List (Nat × PV)} {x:Operand} {v:PV} (e:evL L x=some v) (ρ:Nat→PV):ev (al L ρ) x=v:=by
 unfold evL at e
 split at e <;> first
  | exact lk_al e ρ
  | (cases e;done)
  | (obtain rfl:=Option.some.inj e;rfl)
theorem evsL_ev {L:List (Nat × PV)} {ρ:Nat→PV}:∀ {xs:List Operand} {vs:List PV},evsL L xs=some vs→xs.map (ev (al L ρ))=vs
 | [],vs,e=>by simp [evsL] at e;subst e;rfl
 | x::xs,vs,e=>by
  simp only [evsL] at e
  split at e
  ·rename_i v vs' h1 h2
   obtain rfl:=Option.some.inj e
   simp [evL_ev h1,evsL_ev h2]
  ·cases e
theorem al_cons (d:Nat) (v:PV) (L:List (Nat × PV)) (ρ:Nat→PV):updO (al L ρ) (some d) v=al ((d,v)::L) ρ:=by
 funext t
 simp only [updO,upd,al]
theorem EvOps.valL {op:Op} {v:PV} {h':AHeap} (hc:∀ run,opVal C run 2 op (al L ρ) h=some (v,h')) (k:EvOps C ops r ⟨al ((d,v)::L) ρ,h'⟩ Q):EvOps C ops (⟨some d,op,ty,pos,af,none⟩::r) ⟨al L ρ,h⟩ Q:=
 EvOps.val rfl hc (by rw [al_cons];exact k)
theorem R.gOn {op:Op} {j d':Nat} {want b:Bool} (hd:(ops.toList[j]?).bind (·.dst)=some d') (hb:lk L d'=some (.bool b)) (he:(b == want)=true) (k:EvOps C ops (⟨some d,op,ty,pos,af,none⟩::r) ⟨al L ρ,h⟩ Q) :
  EvOps C ops (⟨some d,op,ty,pos,af,some (j,want)⟩::r) ⟨al L ρ,h⟩ Q:=by
 obtain ⟨s',q,n0,hn⟩:=k
 refine ⟨s',q,n0,fun n h1=>?_⟩
 rw [← hn n h1]
 simp only [evalOps,opStep,wantedA,hd,lk_al hb,he]
theorem R.gOff {op:Op} {j d':Nat} {want b:Bool} (hd:(ops.toList[j]?).bind (·.dst)=some d') (hb:lk L d'=some (.bool b)) (he:(b == want)=false) (k:EvOps C ops r ⟨al ((d,.undef)::L) ρ,h⟩ Q) :
  EvOps C ops (⟨some d,op,ty,pos,af,some (j,want)⟩::r) ⟨al L ρ,h⟩ Q:=EvOps.off (by simp only [wantedA,hd,lk_al hb,he]) (by rw [al_cons];exact k)
theorem R.gUn {op:Op} {j d':Nat} {want:Bool} (hd:(ops.toList[j]?).bind (·.dst)=some d') (hb:lk L d'=some .undef) (k:EvOps C ops r ⟨al ((d,.undef)::L) ρ,h⟩ Q) :
  EvOps C ops (⟨some d,op,ty,pos,af,some (j,want)⟩::r) ⟨al L ρ,h⟩ Q:=EvOps.off (by simp only [wantedA,hd,lk_al hb]) (by rw [al_cons];exact k)
theorem R.move {x:Operand} {v:PV} (hx:evL L x=some (v)) (k:EvOps C ops r ⟨al ((d,v)::L) ρ,h⟩ Q):EvOps C ops (⟨some d,.move x,ty,pos,af,none⟩::r) ⟨al L ρ,h⟩ Q:=
 EvOps.valL (fun run=>by simp only [opVal,stepOp,evL_ev hx]) k
theorem R.assign {x:Operand} {v:PV} (hx:evL L x=some (v)) (k:EvOps C ops r ⟨al ((d,v)::L) ρ,h⟩ Q):EvOps C ops (⟨some d,.assign x,ty,pos,af,none⟩::r) ⟨al L ρ,h⟩ Q:=
 EvOps.valL (fun run=>by simp only [opVal,stepOp,evL_ev hx]) k
theorem R.pickT {c x y:Operand} {v:PV} (hc:evL L c=some (.bool true)) (hx:evL L x=some (v)) (k:EvOps C ops r ⟨al ((d,v)::L) ρ,h⟩ Q):EvOps C ops (⟨some d,.pick c x y,ty,pos,af,none⟩::r) ⟨al L ρ,h⟩ Q:=
 EvOps.valL (fun run=>by simp only [opVal,stepOp,evL_ev hc,evL_ev hx,if_true]) k
theorem R.pickF {c x y:Operand} {v:PV} (hc:evL L c=some (.bool false)) (hx:evL L y=some (v)) (k:EvOps C ops r ⟨al ((d,v)::L) ρ,h⟩ Q):EvOps C ops (⟨some d,.pick c x y,ty,pos,af,none⟩::r) ⟨al L ρ,h⟩ Q:=
 EvOps.valL (fun run=>by simp only [opVal,stepOp,evL_ev hc,evL_ev hx,Bool.false_eq_true,if_false]) k
inductive App1 (o:AObj):AHeap→AHeap→Nat→Prop
 | nil:App1 o [] [o] 0
 | cons {x:AObj} {l l':AHeap} {n:Nat}:App1 o l l' n→App1 o (x::l) (x::l') (n+1)
theorem App1.eq {o:AObj} {l l':AHeap} {n:Nat} (a:App1 o l l' n):l'=l++[o]∧n=l.length:=by
 induction a with
 | nil=>exact ⟨rfl,rfl⟩
 | cons _ ih=>obtain ⟨rfl,rfl⟩:=ih;exact ⟨rfl,rfl⟩
theorem R.box {t:TypeId} {x:Operand} {v:PV} {n id:Nat} {h':AHeap} (hx:evL L x=some (v)) (h1:(cells v).all oneC=true) (hl:(cells v).length=n+1) (ha:App1 ⟨.m,0,n+1,[v]⟩ h h' id) (k:EvOps C ops r ⟨al ((d,(.ptr id 0 0 0))::L) ρ,h'⟩ Q) :
  EvOps C ops (⟨some d,.box t x,ty,pos,af,none⟩::r) ⟨al L ρ,h⟩ Q:=by
 obtain ⟨rfl,rfl⟩:=ha.eq
 exact EvOps.valL (fun run=>by simp [opVal,stepOp,evL_ev hx,h1,hl,newObj]) k
theorem R.alloc {t:TypeId} {z:PV} {n id:Nat} {h':AHeap} (hz:T.tz t=some z) (h1:(cells z).all oneC=true) (hl:(cells z).length=n+1) (ha:App1 ⟨.m,0,n+1,[z]⟩ h h' id) (k:EvOps C ops r ⟨al ((d,(.ptr id 0 0 0))::L) ρ,h'⟩ Q) :
  EvOps C ops (⟨some d,.alloc t,ty,pos,af,none⟩::r) ⟨al L ρ,h⟩ Q:=by
 obtain ⟨rfl,rfl⟩:=ha.eq
 exact EvOps.valL (fun run=>by simp [opVal,stepOp,T.htz _ _ hz,h1,hl,newObj]) k
theorem R.load1 {t:TypeId} {x:Operand} {p c:PV} {cs:List PV} {sz:Nat} (hx:evL L x=some (p)) (hs:T.ts t=some sz) (ht:T.ta t=some false) (hp:pcells h p=some (c::cs)) (k:EvOps C ops r ⟨al ((d,c)::L) ρ,h⟩ Q) :
  EvOps C ops (⟨some d,.load t x,ty,pos,af,none⟩::r) ⟨al L ρ,h⟩ Q:=
 EvOps.valL (fun run=>by simp [opVal,stepOp,evL_ev hx,loadP,T.hts _ _ hs,T.hta _ _ ht,hp]) k
inductive TakeR:Nat→List PV→List PV→Prop
 | zero {l:List PV}:TakeR 0 l []
 | succ {n:Nat} {x:PV} {l l':List PV}:TakeR n l l'→TakeR (n+1) (x::l) (x::l')
theorem TakeR.eq {n:Nat} {l l':List PV} (a:TakeR n l l'):l'=l.take n∧n≤l.length:=by
 induction a with
 | zero=>simp
 | succ _ ih=>obtain ⟨rfl,h⟩:=ih;simp;omega
theorem R.loadA {t:TypeId} {x:Operand} {p:PV} {cs cs':List PV} {sz:Nat} (hx:evL L x=some (p)) (hs:T.ts t=some (sz+1)) (ht:T.ta t=some true) (hp:pcells h p=some cs) (hc:TakeR (sz+1) cs cs') (k:EvOps C ops r ⟨al ((d,(.agg cs'))::L) ρ,h⟩ Q) :
  EvOps C ops (⟨some d,.load t x,ty,pos,af,none⟩::r) ⟨al L ρ,h⟩ Q:=by
 obtain ⟨rfl,hle⟩:=hc.eq
 exact EvOps.valL (fun run=>by simp [opVal,stepOp,evL_ev hx,loadP,T.hts _ _ hs,T.hta _ _ ht,hp,hle]) k
theorem fieldOff_of {s:TypeId} {f off:Nat} {ft:TypeId} {os:List (Nat × TypeId)} {sz:Nat} (hk:T.kd s=some (.st os)) (hf:os[f]?=some (off,ft)) (hs:T.ts ft=some (sz+1)):fieldOff C.P s f=some (off,ft):=by
 obtain ⟨fs,h1,h2⟩:=kd_st (T.hkd _ _ hk)
 rw [← h2,List.getElem?_map] at hf
 cases hff:fs.toList[f]? with
 | none=>rw [hff] at hf;cases hf
 | some fl=>
  rw [hff] at hf
  simp at hf
  obtain ⟨rfl,rfl⟩:=hf
  have:fs[f]?=some fl:=by simpa using hff
  simp [fieldOff,h1,this,T.hts _ _ hs]
theorem R.fieldAddr {s:TypeId} {x:Operand} {f id ep i o off:Nat} {ft:TypeId} {os:List (Nat × TypeId)} {sz:Nat} (hx:evL L x=some (.ptr id ep i o)) (hk:T.kd s=some (.st os)) (hf:os[f]?=some (off,ft)) (hs:T.ts ft=some (sz+1))
  (k:EvOps C ops r ⟨al ((d,(.ptr id ep i (o+off)))::L) ρ,h⟩ Q):EvOps C ops (⟨some d,.fieldAddr s x f,ty,pos,af,none⟩::r) ⟨al L ρ,h⟩ Q:=
 EvOps.valL (fun run=>by simp [opVal,stepOp,evL_ev hx,fieldAddrP,fieldOff_of T hk hf hs]) k
theorem R.cmp {bop:BinOp} {t yt:TypeId} {x y:Operand} {k:IntKind} {a b:Int} {p:Prop} (hx:evL L x=some (.int k a)) (hy:evL L y=some (.int k b)) (hp:cmpI bop a b=some p)
  (k1:p→EvOps C ops r ⟨al ((d,(.bool true))::L) ρ,h⟩ Q) (k2:¬ p→EvOps C ops r ⟨al ((d,(.bool false))::L) ρ,h⟩ Q):EvOps C ops (⟨some d,.binOp bop t x y yt,ty,pos,af,none⟩::r) ⟨al L ρ,h⟩ Q:=EvOps.cmp rfl (evL_ev hx ρ) (evL_ev hy ρ) hp (fun hh=>by rw [al_cons];exact k1 hh) (fun hh=>by rw [al_cons];exact k2 hh)
def arith:BinOp→Int→Int→Option Int
 | .add,a,b=>some (a+b)
 | .sub,a,b=>some (a - b)
 | .mul,a,b=>some (a * b)
 | _,_,_=>none
theorem R.arith {bop:BinOp} {t yt:TypeId} {x y:Operand} {k:IntKind} {a b c c':Int} (hx:evL L x=some (.int k a)) (hy:evL L y=some (.int k b)) (hp:Pm.arith bop a b=some c) (hw:k.wrap c=c') (kk:EvOps C ops r ⟨al ((d,(.int k c'))::L) ρ,h⟩ Q) :
  EvOps C ops (⟨some d,.binOp bop t x y yt,ty,pos,af,none⟩::r) ⟨al L ρ,h⟩ Q:=by
 refine EvOps.valL (fun run=>?_) kk
 simp only [opVal,stepOp,evL_ev hx,evL_ev hy]
 cases bop <;> simp only [Pm.arith,Option.some.injEq,reduceCtorEq] at hp <;> subst hp <;> simp [binP,intOp,hw]
theorem R.streq {t yt:TypeId} {x y:Operand} {a b:ByteArray} (hx:evL L x=some (.str a)) (hy:evL L y=some (.str b)) (k1:a.toList=b.toList→EvOps C ops r ⟨al ((d,(.bool true))::L) ρ,h⟩ Q) (k2:a.toList≠b.toList→EvOps C ops r ⟨al ((d,(.bool false))::L) ρ,h⟩ Q) :
  EvOps C ops (⟨some d,.binOp .eql t x y yt,ty,pos,af,none⟩::r) ⟨al L ρ,h⟩ Q:=by
 by_cases hh:a.toList=b.toList
 ·exact EvOps.valL (fun run=>by simp [opVal,stepOp,evL_ev hx,evL_ev hy,binP,strOp,hh]) (k1 hh)
 ·exact EvOps.valL (fun run=>by simp [opVal,stepOp,evL_ev hx,evL_ev hy,binP,strOp,hh]) (k2 hh)
def strCmp:BinOp→ByteArray→ByteArray→Option Bool
 | .lss,a,b=>some (Op.bytesLess a.toList b.toList)
 | .gtr,a,b=>some (!(Op.bytesLess a.toList b.toList || a.toList == b.toList))
 | .neq,a,b=>some (!(a.toList == b.toList))
 | _,_,_=>none
theorem R.strcmp {bop:BinOp} {t yt:TypeId} {x y:Operand} {a b:ByteArray} {p:Bool} (hx:evL L x=some (.str a)) (hy:evL L y=some (.str b)) (hp:strCmp bop a b=some p)
  (k1:p=true→EvOps C ops r ⟨al ((d,.bool true)::L) ρ,h⟩ Q) (k2:p=false→EvOps C ops r ⟨al ((d,.bool false)::L) ρ,h⟩ Q) :
  EvOps C ops (⟨some d,.binOp bop t x y yt,ty,pos,af,none⟩::r) ⟨al L ρ,h⟩ Q:=by
 have key:∀ run,opVal C run 2 (.binOp bop t x y yt) (al L ρ) h=some (.bool p,h):=fun run=>by
  simp only [opVal,stepOp,evL_ev hx,evL_ev hy]
  cases bop <;> simp only [strCmp,Option.some.injEq,reduceCtorEq] at hp <;> subst hp <;> simp [binP,strOp]
 cases p with
 | false=>exact EvOps.valL key (k2 rfl)
 | true=>exact EvOps.valL key (k1 rfl)
theorem R.not {t:TypeId} {x:Operand} {b b':Bool} (hx:evL L x=some (.bool b)) (hb:(!b)=b') (k:EvOps C ops r ⟨al ((d,(.bool b'))::L) ρ,h⟩ Q):EvOps C ops (⟨some d,.unOp .not t x,ty,pos,af,none⟩::r) ⟨al L ρ,h⟩ Q:=
 EvOps.valL (fun run=>by simp [opVal,stepOp,evL_ev hx,unP,hb]) k
theorem R.nilCheck {x:Operand} {id ep i o:Nat} (hx:evL L x=some (.ptr id ep i o)) (k:EvOps C ops r ⟨al ((d,(.ptr id ep i o))::L) ρ,h⟩ Q):EvOps C ops (⟨some d,.nilCheck x,ty,pos,af,none⟩::r) ⟨al L ρ,h⟩ Q:=
 EvOps.valL (fun run=>by simp [opVal,stepOp,evL_ev hx]) k
theorem R.indexS {t el:TypeId} {x ix:Operand} {full:Bool} {es:List PV} {k:IntKind} {i:Nat} {v:PV} {cs:List PV} {sz:Nat} (hx:evL L x=some (.snap full es)) (hi:evL L ix=some (.int k (i:Int))) (hk:T.kd t=some (.sl el)) (hs:T.ts el=some (sz+1))
  (hv:es[i]?=some v) (hc:cells v=cs) (hl:cs.length=sz+1) (kk:EvOps C ops r ⟨al ((d,(.sptr cs))::L) ρ,h⟩ Q):EvOps C ops (⟨some d,.indexAddr t x ix,ty,pos,af,none⟩::r) ⟨al L ρ,h⟩ Q:=by
 have hlt:i<es.length:=by
  rcases Nat.lt_or_ge i es.length with h | h
  ·exact h
  ·rw [List.getElem?_eq_none h] at hv;cases hv
 subst hc
 have hv':es[i]=v:=by rw [List.getElem?_eq_getElem hlt] at hv;exact Option.some.inj hv
 exact EvOps.valL (fun run=>by simp [opVal,stepOp,evL_ev hx,evL_ev hi,indexAddrP,kd_sl (T.hkd _ _ hk),T.hts _ _ hs,hlt,hv',hl]) kk
theorem R.lenStr {t:TypeId} {ts:List TypeId} {x:Operand} {xs:List Operand} {s:ByteArray} (hx:evL L x=some (.str s)) (hk:T.kd t=some .str) (k:EvOps C ops r ⟨al ((d,(.int .i64 s.size))::L) ρ,h⟩ Q) :
  EvOps C ops (⟨some d,.call ⟨.builtin .len,(x::xs).toArray,(t::ts).toArray⟩,ty,pos,af,none⟩::r) ⟨al L ρ,h⟩ Q:=
 EvOps.valL (fun run=>by simp [opVal,evL_ev hx,builtinP,lenP,kd_str (T.hkd _ _ hk)]) k
theorem R.lenS {t el:TypeId} {ts:List TypeId} {x:Operand} {xs:List Operand} {full:Bool} {es:List PV} (hx:evL L x=some (.snap full es)) (hk:T.kd t=some (.sl el)) (k:EvOps C ops r ⟨al ((d,(.int .i64 es.length))::L) ρ,h⟩ Q) :
  EvOps C ops (⟨some d,.call ⟨.builtin .len,(x::xs).toArray,(t::ts).toArray⟩,ty,pos,af,none⟩::r) ⟨al L ρ,h⟩ Q:=
 EvOps.valL (fun run=>by simp [opVal,evL_ev hx,builtinP,lenP,kd_sl (T.hkd _ _ hk)]) k
theorem R.lenM {t el:TypeId} {ts:List TypeId} {x:Operand} {xs:List Operand} {id ep off len:Nat} {o:AObj} (hx:evL L x=some (.mref id ep off len)) (hk:T.kd t=some (.sl el)) (ho:getM h id ep=some o) (hle:off+len≤o.es.length) (k:EvOps C ops r ⟨al ((d,(.int .i64 len))::L) ρ,h⟩ Q) :
  EvOps C ops (⟨some d,.call ⟨.builtin .len,(x::xs).toArray,(t::ts).toArray⟩,ty,pos,af,none⟩::r) ⟨al L ρ,h⟩ Q:=
 EvOps.valL (fun run=>by simp [opVal,evL_ev hx,builtinP,lenP,kd_sl (T.hkd _ _ hk),ho,hle]) k
theorem R.call {x:Operand} {xs:List Operand} {ats:Array TypeId} {f:FuncId} {caps args:List PV} (hf:evL L x=some (.fn f caps)) (ha:evsL L xs=some args)
  (hc:CallEv C 2 f (args++caps) h (fun v h'=>EvOps C ops r ⟨al ((d,v)::L) ρ,h'⟩ Q)):EvOps C ops (⟨some d,.call ⟨.value x,xs.toArray,ats⟩,ty,pos,af,none⟩::r) ⟨al L ρ,h⟩ Q:=
 EvOps.fcall (args:=args++caps) rfl rfl (evL_ev hf ρ) (by simp [evsL_ev ha]) (by simpa only [al_cons] using hc)
theorem Ev.condB {c:Operand} {a b:Code} {Q:Ex→St→Prop} {t:Bool} (hc:evL L c=some (.bool t)) (k:Ev C (bif t then a else b) ⟨al L ρ,h⟩ Q):Ev C (.cond c a b) ⟨al L ρ,h⟩ Q:=by
 cases t
 ·exact Ev.condF (evL_ev hc ρ) k
 ·exact Ev.condT (evL_ev hc ρ) k
theorem wrapI {n:Int} (h1 : -9223372036854775808≤n) (h2:n≤9223372036854775807):IntKind.i64.wrap n=n:=by
 rw [IntKind.wrap_i64];omega
def argL:Nat→List PV→List (Nat × PV)
 | _,[]=>[]
 | n,a::xs=>(n,a)::argL (n+1) xs
theorem envOf_al (args:List PV):envOf args=al (argL 0 args) (fun _=>.undef):=by
 have key:∀ (xs:List PV) (n t:Nat),al (argL n xs) (fun _=>PV.undef) t=if n≤t then xs.getD (t - n) .undef else .undef:=by
  intro xs
  induction xs with
  | nil=>intro n t;simp [argL,al]
  | cons a xs ih=>
   intro n t
   simp only [argL,al,ih]
   by_cases h:t=n
   ·subst h;simp
   ·rw [if_neg h]
    by_cases h2:n≤t
    ·rw [if_pos h2,if_pos (by omega),show t - n=(t - (n+1))+1 by omega,List.getD_cons_succ]
    ·rw [if_neg h2,if_neg (by omega)]
 funext t
 rw [key]
 simp [envOf]
def bodyQ (C:Cfg) (fn:Func) (Q:PV→AHeap→Prop) (ex:Ex) (s:St):Prop:=(ex=.normal∨ex=.ret)∧∃ vs,resultOf C.P s.h s.ρ fn.results.toList=some vs∧Q (tupOf vs) s.h
theorem FnEv.bodyL {f:FuncId} {fn:Func} {c:Code} {args:List PV} {h:AHeap} {Q:PV→AHeap→Prop} (hf:C.P.funcs[f]?=some fn) (hb:fn.body=some c)
  (e:Ev C c ⟨al (argL 0 args) (fun _=>.undef),h⟩ (bodyQ C fn Q)):FnEv C f args h Q:=FnEv.body hf hb (by rw [envOf_al];exact e)
def resT (L:List (Nat × PV)):List ResultVar→Option (List PV)
 | []=>some []
 | .tmp t::r=>match lk L t,resT L r with
  | some v,some vs=>some (v::vs)
  | _,_=>none
 | _=>none
theorem resT_of {P:Program} {L:List (Nat × PV)} {h:AHeap} {ρ:Nat→PV}:∀ {l:List ResultVar} {vs:List PV},resT L l=some vs→resultOf P h (al L ρ) l=some vs
 | [],vs,e=>by simp [resT] at e;subst e;rfl
 | .tmp t::r,vs,e=>by
  simp only [resT] at e
  split at e
  ·rename_i v vs' h1 h2
   obtain rfl:=Option.some.inj e
   simp [resultOf,lk_al h1,resT_of h2]
  ·cases e
 | .cell _ _::r,vs,e=>by simp [resT] at e
theorem bodyQ.ret {fn:Func} {Q:PV→AHeap→Prop} {vs:List PV} (hr:resT L fn.results.toList=some vs) (q:Q (tupOf vs) h):bodyQ C fn Q .ret ⟨al L ρ,h⟩:=⟨.inr rfl,vs,resT_of hr,q⟩
theorem thenQ.normal {b:Code} {Q:Ex→St→Prop} {s:St} (k:Ev C b s Q):thenQ C b Q .normal s:=k
theorem thenQ.ret {b:Code} {Q:Ex→St→Prop} {s:St} (k:Q .ret s):thenQ C b Q .ret s:=k
theorem thenQ.exit {b:Code} {Q:Ex→St→Prop} {s:St} {id:Nat} (k:Q (.exit id) s):thenQ C b Q (.exit id) s:=k
theorem blockQ.normal {id:Nat} {Q:Ex→St→Prop} {s:St} (k:Q .normal s):blockQ id Q .normal s:=k
theorem blockQ.ret {id:Nat} {Q:Ex→St→Prop} {s:St} (k:Q .ret s):blockQ id Q .ret s:=k
theorem blockQ.hit {id:Nat} {Q:Ex→St→Prop} {s:St} (k:Q .normal s):blockQ id Q (.exit id) s:=by simp only [blockQ,if_true];exact k
theorem blockQ.miss {id id':Nat} {Q:Ex→St→Prop} {s:St} (h:(id' == id)=false) (k:Q (.exit id') s):blockQ id Q (.exit id') s:=by
 have:¬ id'=id:=by simpa using h
 simp only [blockQ,if_neg this];exact k
theorem loopQ.normal {I:St→Prop} {Q:Ex→St→Prop} {s:St} (k:I s):loopQ I Q .normal s:=k
theorem loopQ.ret {I:St→Prop} {Q:Ex→St→Prop} {s:St} (k:Q .ret s):loopQ I Q .ret s:=k
theorem loopQ.exit {I:St→Prop} {Q:Ex→St→Prop} {s:St} {id:Nat} (k:Q (.exit id) s):loopQ I Q (.exit id) s:=k
def hasL (L:List (Nat × PV)):List (Nat × PV)→Prop
 | []=>True
 | (k,v)::r=>lk L k=some v∧hasL L r
theorem hasL_mem {L:List (Nat × PV)}:∀ {L':List (Nat × PV)},hasL L L'→∀ x∈L',lk L x.1=some x.2
 | [],_,x,hx=>by cases hx
 | (k,v)::r,h,x,hx=>by
  rcases List.mem_cons.1 hx with rfl | hx
  ·exact h.1
  ·exact hasL_mem h.2 x hx
theorem St.keep {L L':List (Nat × PV)} {ρ:Nat→PV} {h:AHeap} (hh:hasL L L'):(⟨al L ρ,h⟩:St)=⟨al L' (al L ρ),h⟩:=by
 rw [al_all (al L ρ) L' (fun x hx=>lk_al (hasL_mem hh x hx) ρ)]
theorem R.allocN {t:TypeId} {z:PV} {n:Nat} (hz:T.tz t=some z) (h1:(cells z).all oneC=true) (hl:(cells z).length=n+1) (k:EvOps C ops r ⟨al ((d,(.ptr h.length 0 0 0))::L) ρ,h++[⟨.m,0,n+1,[z]⟩]⟩ Q) :
  EvOps C ops (⟨some d,.alloc t,ty,pos,af,none⟩::r) ⟨al L ρ,h⟩ Q:=
 EvOps.valL (fun run=>by simp [opVal,stepOp,T.htz _ _ hz,h1,hl,newObj]) k
theorem R.boxN {t:TypeId} {x:Operand} {v:PV} {n:Nat} (hx:evL L x=some v) (h1:(cells v).all oneC=true) (hl:(cells v).length=n+1) (k:EvOps C ops r ⟨al ((d,(.ptr h.length 0 0 0))::L) ρ,h++[⟨.m,0,n+1,[v]⟩]⟩ Q) :
  EvOps C ops (⟨some d,.box t x,ty,pos,af,none⟩::r) ⟨al L ρ,h⟩ Q:=
 EvOps.valL (fun run=>by simp [opVal,stepOp,evL_ev hx,h1,hl,newObj]) k
theorem getM_new {h:AHeap} {n:Nat} {es:List PV}:getM (h++[⟨.m,0,n,es⟩]) h.length 0=some ⟨.m,0,n,es⟩:=by simp [getM]
theorem R.storeN {t:TypeId} {a x:Operand} {e v:PV} {n:Nat} (ha:evL L a=some (.ptr h.length 0 0 0)) (hx:evL L x=some v) (hs:T.ts t=some n) (hl:(cells v).length=n) (h1:(cells v).all oneC=true) (he:(cells e).length=n)
  (k:EvOps C ops r ⟨al L ρ,h++[⟨.m,0,n,[v]⟩]⟩ Q):EvOps C ops (⟨none,.store t a x,ty,pos,af,none⟩::r) ⟨al L ρ,h++[⟨.m,0,n,[e]⟩]⟩ Q:=by
 have k':EvOps C ops r ⟨updO (al L ρ) none .undef,h++[(⟨.m,0,n,[v]⟩:AObj)]⟩ Q:=k
 refine EvOps.val (v:=.undef) (h':=h++[(⟨.m,0,n,[v]⟩:AObj)]) rfl (fun run=>?_) k'
 have hr:recell 0 n e v=v:=by unfold recell;rw [if_pos ⟨rfl,he.symm⟩]
 simp [opVal,stepOp,evL_ev ha,evL_ev hx,storeP,T.hts _ _ hs,getM_new,hl,he,hr]
 simpa using h1
theorem pcN {h:AHeap} {n:Nat} {e:PV}:pcells (h++[⟨.m,0,n,[e]⟩]) (.ptr h.length 0 0 0)=some (cells e):=by simp [pcells,getM_new]
theorem R.loadAN {t:TypeId} {x:Operand} {e:PV} {cs':List PV} {n sz:Nat} (hx:evL L x=some (.ptr h.length 0 0 0)) (hs:T.ts t=some (sz+1)) (ht:T.ta t=some true) (hc:TakeR (sz+1) (cells e) cs')
  (k:EvOps C ops r ⟨al ((d,(.agg cs'))::L) ρ,h++[⟨.m,0,n,[e]⟩]⟩ Q):EvOps C ops (⟨some d,.load t x,ty,pos,af,none⟩::r) ⟨al L ρ,h++[⟨.m,0,n,[e]⟩]⟩ Q:=
 R.loadA T hx hs ht pcN hc k
end Go.Pm
end
section
namespace Go.Pm
def RunLe (r r':Run):Prop:=∀ f args h x,r f args h=some x→r' f args h=some x
variable {C:Cfg} {run run':Run}
theorem callPure_mono (L:RunLe run run') {lv:Nat} {f:FuncId} {args:List PV} {h:AHeap} {x:PV × AHeap} (e:callPure run lv f args h=some x):callPure run' lv f args h=some x:=by
 unfold callPure at e ⊢
 split at e
 ·rename_i hv
  rw [if_pos hv]
  cases hr:run f (nrms args) [] with
  | none=>rw [hr] at e;cases e
  | some y=>rw [hr] at e;rw [L _ _ _ _ hr];exact e
 ·rename_i hv
  rw [if_neg hv]
  cases ha:rbAs h args with
  | none=>
   rw [ha] at e
   simp only at e ⊢
   cases hd:mapOp (rbD 8 h) args with
   | none=>rw [hd] at e;cases e
   | some a=>
    rw [hd] at e
    simp only at e ⊢
    cases hr:run f (nrms a) [] with
    | none=>rw [hr] at e;cases e
    | some y=>rw [hr] at e;rw [L _ _ _ _ hr];exact e
  | some a=>
   rw [ha] at e
   simp only at e ⊢
   cases hr:run f (nrms a) [] with
   | none=>rw [hr] at e;cases e
   | some y=>rw [hr] at e;rw [L _ _ _ _ hr];exact e
theorem lockCall_mono {g g':List PV→AHeap→Option (PV × AHeap)} (L:∀ a h x,g a h=some x→g' a h=some x) {lv:Nat} {args:List PV} {h:AHeap} {x:PV × AHeap} (e:lockCall g lv args h=some x):lockCall g' lv args h=some x:=by
 unfold lockCall at e ⊢
 split at e
 ·rename_i h2;rw [if_pos h2];exact L _ _ _ e
 ·rename_i h2
  rw [if_neg h2]
  split at e
  ·rename_i h1
   rw [if_pos h1]
   cases hr:g args (h.map lock1) with
   | none=>rw [hr] at e;cases e
   | some y=>rw [hr] at e;rw [L _ _ _ hr];exact e
  ·cases e
theorem callOpen_mono (L:RunLe run run') {lv:Nat} {f:FuncId} {args:List PV} {h:AHeap} {x:PV × AHeap} (e:callOpen run lv f args h=some x):callOpen run' lv f args h=some x:=by
 unfold callOpen at e ⊢
 cases hr:lockCall (run f) lv args h with
 | none=>rw [hr] at e;cases e
 | some y=>rw [hr] at e;rw [lockCall_mono (fun a h x=>L f a h x) hr];exact e
theorem callF_mono (L:RunLe run run') {lv:Nat} {f:FuncId} {args:List PV} {h:AHeap} {x:PV × AHeap} (e:callF C run lv f args h=some x):callF C run' lv f args h=some x:=by
 unfold callF at e ⊢
 cases hm:C.mode f <;> simp only [hm] at e ⊢
 ·cases e
 ·exact callPure_mono L e
 ·exact callOpen_mono L e
 ·exact e
 ·exact lockCall_mono (fun _ _ _ x=>x) e
 ·exact e
theorem opVal_mono (L:RunLe run run') {lv:Nat} {op:Op} {ρ:Nat→PV} {h:AHeap} {x:PV × AHeap} (e:opVal C run lv op ρ h=some x):opVal C run' lv op ρ h=some x:=by
 unfold opVal at e ⊢
 split at e
 ·split at e
  ·unfold calleeP at e ⊢
   split at e
   ·exact callF_mono L e
   ·exact callF_mono L e
   ·cases e
  ·exact e
  ·cases e
 ·exact e
theorem opStep_mono (L:RunLe run run') {ops:Array Oper} {o:Oper} {s s':St} (e:opStep C run ops o s=some s'):opStep C run' ops o s=some s':=by
 unfold opStep at e ⊢
 split at e
 ·cases hr:opVal C run 2 o.op s.ρ s.h with
  | none=>rw [hr] at e;cases e
  | some y=>rw [hr] at e;rw [opVal_mono L hr];exact e
 ·exact e
 ·cases e
theorem evalOps_mono (L:RunLe run run') {ops:Array Oper}:∀ {l:List Oper} {s s':St},evalOps C run ops l s=some s'→evalOps C run' ops l s=some s'
 | [],s,s',e=>e
 | o::l,s,s',e=>by
  simp only [evalOps] at e ⊢
  cases hr:opStep C run ops o s with
  | none=>rw [hr] at e;cases e
  | some y=>
   rw [hr] at e
   rw [opStep_mono L hr]
   exact evalOps_mono L e
theorem opStepD_mono (L:RunLe run run') {ops:Array Oper} {b:List Nat} {i:Nat} {o:Oper} {s s':DSt} (e:opStepD C run ops b i o s=some s'):opStepD C run' ops b i o s=some s':=by
 unfold opStepD at e ⊢
 split at e
 ·split at e
  ·rename_i hh
   rw [if_pos hh]
   cases hr:opVal C run 1 o.op s.s.ρ s.s.h with
   | none=>rw [hr] at e;cases e
   | some y=>rw [hr] at e;rw [opVal_mono L hr];exact e
  ·rename_i hh
   rw [if_neg hh]
   split at e
   ·rename_i hl
    rw [if_pos hl]
    cases hr:opVal C run 2 o.op s.s.ρ s.s.h with
    | none=>rw [hr] at e;cases e
    | some y=>rw [hr] at e;rw [opVal_mono L hr];exact e
   ·rename_i hl
    rw [if_neg hl]
    simp only at e ⊢
    split at e
    ·rename_i hc
     rw [if_pos hc]
     cases hr:opVal C run 1 o.op s.s.ρ (maskE (b.getD i 0).testBit s.L0 s.own s.s.h) with
     | none=>rw [hr] at e;cases e
     | some y=>rw [hr] at e;rw [opVal_mono L hr];exact e
    ·cases e
 ·exact e
 ·cases e
theorem evalOpsD_mono (L:RunLe run run') {ops:Array Oper} {b:List Nat}:∀ {l:List Oper} {i:Nat} {s s':DSt},evalOpsD C run ops b i l s=some s'→evalOpsD C run' ops b i l s=some s'
 | [],i,s,s',e=>e
 | o::l,i,s,s',e=>by
  simp only [evalOpsD] at e ⊢
  cases hr:opStepD C run ops b i o s with
  | none=>rw [hr] at e;cases e
  | some y=>
   rw [hr] at e
   rw [opStepD_mono L hr]
   exact evalOpsD_mono L e
theorem opStepK_mono (L:RunLe run run') {ops:Array Oper} {b:List Nat} {h0:AHeap} {i:Nat} {o:Oper} {s s':St} (e:opStepK C run ops b h0 i o s=some s'):opStepK C run' ops b h0 i o s=some s':=by
 unfold opStepK at e ⊢
 split at e
 ·split at e
  ·rename_i hh
   rw [if_pos hh]
   cases hr:opVal C run 1 o.op s.ρ s.h with
   | none=>rw [hr] at e;cases e
   | some y=>rw [hr] at e;rw [opVal_mono L hr];exact e
  ·rename_i hh
   rw [if_neg hh]
   split at e
   ·rename_i hl
    rw [if_pos hl];exact e
   ·rename_i hl
    rw [if_neg hl]
    cases hs:(if isBs o.op then stepOp C.P 1 o.op s.ρ s.h else none) with
    | some y=>rw [hs] at e;exact e
    | none=>
     rw [hs] at e
     simp only at e ⊢
     split at e
     ·rename_i hk
      rw [if_pos hk]
      cases hr:opVal C run 2 o.op s.ρ s.h with
      | none=>rw [hr] at e;cases e
      | some y=>rw [hr] at e;rw [opVal_mono L hr];exact e
     ·cases e
 ·exact e
 ·cases e
theorem evalOpsK_mono (L:RunLe run run') {ops:Array Oper} {b:List Nat} {h0:AHeap}:∀ {l:List Oper} {i:Nat} {s s':St},evalOpsK C run ops b h0 i l s=some s'→evalOpsK C run' ops b h0 i l s=some s'
 | [],i,s,s',e=>e
 | o::l,i,s,s',e=>by
  simp only [evalOpsK] at e ⊢
  cases hr:opStepK C run ops b h0 i o s with
  | none=>rw [hr] at e;cases e
  | some y=>
   rw [hr] at e
   rw [opStepK_mono L hr]
   exact evalOpsK_mono L e
theorem calmD_mono (L:RunLe run run') {ops:Array Oper} {s s':St} (e:calmD C run ops s=some s'):calmD C run' ops s=some s':=by
 unfold calmD at e ⊢
 cases hr:evalOpsK C run ops (before ops) (lockL (lockIds ops (before ops) s.ρ) s.h) 0 ops.toList ⟨s.ρ,lockL (lockIds ops (before ops) s.ρ) s.h⟩ with
 | none=>rw [hr] at e;cases e
 | some y=>rw [hr] at e;rw [evalOpsK_mono L hr];exact e
theorem iter_mono {f f':St→Option (Ex × St)} (L:∀ s x,f s=some x→f' s=some x):∀ {n m:Nat} {s:St} {x:Ex × St},n≤m→iter f n s=some x→iter f' m s=some x
 | 0,m,s,x,_,e=>by simp [iter] at e
 | n+1,m,s,x,hm,e=>by
  obtain ⟨m,rfl⟩:∃ k,m=k+1:=⟨m - 1,by omega⟩
  simp only [iter] at e ⊢
  cases hr:f s with
  | none=>rw [hr] at e;cases e
  | some y=>
   rw [hr] at e
   rw [L _ _ hr]
   obtain ⟨ex,s'⟩:=y
   cases ex with
   | normal=>exact iter_mono L (by omega) e
   | exit id=>exact e
   | ret=>exact e
theorem evalC_mono (L:RunLe run run') {n m:Nat} (hnm:n≤m):∀ (c:Code) {s:St} {x:Ex × St},evalC C run n c s=some x→evalC C run' m c s=some x:=by
 intro c
 induction c with
 | region id ops draw=>
  intro s x e
  simp only [evalC] at e ⊢
  cases draw with
  | false=>
   simp only [Bool.false_eq_true,if_false] at e ⊢
   cases hr:evalOps C run ops ops.toList s with
   | none=>rw [hr] at e;cases e
   | some y=>rw [hr] at e;rw [evalOps_mono L hr];exact e
  | true=>
   simp only [if_true] at e ⊢
   by_cases hk:calmS ops=true
   ·simp only [hk,if_true] at e ⊢
    cases hr:calmD C run ops s with
    | none=>rw [hr] at e;cases e
    | some y=>rw [hr] at e;rw [calmD_mono L hr];exact e
   ·simp only [hk] at e ⊢
    cases hr:evalOpsD C run ops (before ops) 0 ops.toList ⟨s,s.h.length,[]⟩ with
    | none=>rw [hr] at e;simp at e
    | some y=>rw [hr] at e;rw [evalOpsD_mono L hr];exact e
 | seq a b iha ihb=>
  intro s x e
  simp only [evalC] at e ⊢
  cases hr:evalC C run n a s with
  | none=>rw [hr] at e;cases e
  | some y=>
   rw [hr] at e
   rw [iha hr]
   obtain ⟨ex,s'⟩:=y
   cases ex with
   | normal=>exact ihb e
   | exit id=>exact e
   | ret=>exact e
 | cond c a b iha ihb=>
  intro s x e
  simp only [evalC] at e ⊢
  split at e
  ·exact iha e
  ·exact ihb e
  ·cases e
 | block id c ih=>
  intro s x e
  simp only [evalC] at e ⊢
  cases hr:evalC C run n c s with
  | none=>rw [hr] at e;cases e
  | some y=>rw [hr] at e;rw [ih hr];exact e
 | loop c ih=>
  intro s x e
  simp only [evalC] at e ⊢
  exact iter_mono (fun s x=>ih) hnm e
 | scope c ih=>
  intro s x e
  simp only [evalC] at e ⊢
  exact ih e
 | _=>
  intro s x e
  first
   | exact e
   | (simp [evalC] at e;done)
   | (simp only [evalC] at e ⊢;exact e)
theorem bodyF_mono (L:RunLe run run') {n m:Nat} (hnm:n≤m):RunLe (bodyF C run n) (bodyF C run' m):=by
 intro f args h x e
 unfold bodyF at e ⊢
 cases hf:C.P.funcs[f]? with
 | none=>rw [hf] at e;cases e
 | some fn=>
  rw [hf] at e
  simp only at e ⊢
  cases hb:fn.body with
  | none=>rw [hb] at e;cases e
  | some c=>
   rw [hb] at e
   simp only at e ⊢
   cases hr:evalC C run n c ⟨envOf args,h⟩ with
   | none=>rw [hr] at e;cases e
   | some y=>rw [hr] at e;rw [evalC_mono L hnm c hr];exact e
theorem runF_succ (C:Cfg):∀ n,RunLe (runF C n) (runF C (n+1))
 | 0=>fun f args h x e=>by cases e
 | n+1=>bodyF_mono (runF_succ C n) (Nat.le_succ n)
theorem runF_mono (C:Cfg) {n m:Nat} (h:n≤m):RunLe (runF C n) (runF C m):=by
 induction h with
 | refl=>exact fun f args h x e=>e
 | step _ ih=>exact fun f args h x e=>runF_succ C _ f args h x (ih f args h x e)
theorem Fun.of_run {f:FuncId} {args:List PV} {r:PV} {n:Nat} (e:Pm.pureF C n f args=some r):Fun C f args r:=by
 unfold Pm.pureF at e
 cases hr:runF C n f args [] with
 | none=>rw [hr] at e;cases e
 | some y=>
  obtain ⟨r0,hc⟩:=y
  rw [hr] at e
  cases h2:rbX hc r0 with
  | none=>simp [h2] at e
  | some r1=>
   simp [h2] at e
   exact ⟨n,fun m hm=>⟨r0,hc,r1,runF_mono C hm f args [] _ hr,h2,e⟩⟩
end Go.Pm
end
section
namespace Go.Pm
def EvD (C:Cfg) (ops:Array Oper) (i:Nat) (l:List Oper) (x:DSt) (Q:St→Prop):Prop:=
 ∃ y:DSt,Q y.s∧∃ n0,∀ n,n0≤n→evalOpsD C (runF C n) ops (before ops) i l x=some y
variable {C:Cfg} (T:Tab C.P)
variable {ops:Array Oper} {i:Nat} {d:Nat} {ty:TypeId} {pos:String} {af:Array Edge} {r:List Oper} {ρ:Nat→PV} {L:List (Nat × PV)} {h:AHeap} {L0:Nat} {own:List Nat} {Q:St→Prop}
theorem Ev.regionD {id:Nat} {Q:Ex→St→Prop} (k:EvD C ops 0 ops.toList ⟨⟨al L ρ,h⟩,h.length,[]⟩ (Q .normal)) (hk:calmS ops=false:=by rfl):Ev C (.region id ops true) ⟨al L ρ,h⟩ Q:=by
 obtain ⟨y,q,n0,hn⟩:=k
 exact ⟨.normal,y.s,q,n0,fun n m h1 h2=>by simp only [evalC,if_true,hk,Bool.false_eq_true,if_false,hn n h1,Option.map_some]⟩
theorem EvD.nil {s:St} (k:Q s):EvD C ops i [] ⟨s,L0,own⟩ Q:=⟨⟨s,L0,own⟩,k,0,fun _ _=>rfl⟩
theorem EvD.step {o:Oper} {x x1:DSt} (e:∃ n0,∀ n,n0≤n→opStepD C (runF C n) ops (before ops) i o x=some x1) (k:EvD C ops (i+1) r x1 Q):EvD C ops i (o::r) x Q:=by
 obtain ⟨n1,hn1⟩:=e
 obtain ⟨y,q,n0,hn⟩:=k
 exact ⟨y,q,max n0 n1,fun n h1=>by simp only [evalOpsD,hn1 n (by omega),hn n (by omega)]⟩
theorem EvD.plain {op:Op} {v:PV} {h':AHeap} (hh:heapy op=false) (hc:∀ run,opVal C run 1 op (al L ρ) h=some (v,h')) (k:EvD C ops (i+1) r ⟨⟨al ((d,v)::L) ρ,h⟩,L0,own⟩ Q) :
  EvD C ops i (⟨some d,op,ty,pos,af,none⟩::r) ⟨⟨al L ρ,h⟩,L0,own⟩ Q:=by
 refine EvD.step ⟨0,fun n _=>?_⟩ k
 simp only [opStepD,wantedA,hh,if_true,hc,al_cons]
theorem EvD.two {op:Op} {v:PV} {h':AHeap} (hh:heapy op=true) (hl:level ops (before ops) i=2) (hc:∃ n0,∀ n,n0≤n→opVal C (runF C n) 2 op (al L ρ) h=some (v,h')) (k:EvD C ops (i+1) r ⟨⟨al ((d,v)::L) ρ,h'⟩,h'.length,[]⟩ Q) :
  EvD C ops i (⟨some d,op,ty,pos,af,none⟩::r) ⟨⟨al L ρ,h⟩,L0,own⟩ Q:=by
 obtain ⟨n0,hn⟩:=hc
 refine EvD.step ⟨n0,fun n h1=>?_⟩ k
 simp only [opStepD,wantedA,hh,Bool.true_eq_false,if_false,hl,if_true,hn n h1,al_cons]
theorem EvD.one {op:Op} {v:PV} (hh:heapy op=true) (hl:level ops (before ops) i≠2) (hcl:closedH h=true) (hop:(op.operands.toList.all fun y=>visR (visible h) (ev (al L ρ) y))=true)
  (hc:∃ n0,∀ n,n0≤n→opVal C (runF C n) 1 op (al L ρ) h=some (v,h)) (k:EvD C ops (i+1) r ⟨⟨al ((d,v)::L) ρ,h⟩,h.length,[]⟩ Q) :
  EvD C ops i (⟨some d,op,ty,pos,af,none⟩::r) ⟨⟨al L ρ,h⟩,h.length,[]⟩ Q:=by
 obtain ⟨n0,hn⟩:=hc
 refine EvD.step ⟨n0,fun n h1=>?_⟩ k
 have hM:maskE ((before ops).getD i 0).testBit h.length [] h=h:=by simp [maskE]
 simp only [opStepD,wantedA,hh,Bool.true_eq_false,if_false,hl,hM,hcl,hop,and_self,if_true,hn n h1,al_cons]
 simp
theorem visRs_all (f:Nat→Bool) (cs:List PV):visRs f cs=cs.all (visR f):=by
 induction cs with
 | nil=>rfl
 | cons c r ih=>simp [visRs,ih]
theorem EvD.read {op:Op} {v:PV} (hh:heapy op=true) (hcl:closedH h=true) (hop:(op.operands.toList.all fun y=>visR (visible h) (ev (al L ρ) y))=true)
  (hc:∃ n0,∀ n lv,n0≤n→1≤lv→opVal C (runF C n) lv op (al L ρ) h=some (v,h)) (k:EvD C ops (i+1) r ⟨⟨al ((d,v)::L) ρ,h⟩,h.length,[]⟩ Q) :
  EvD C ops i (⟨some d,op,ty,pos,af,none⟩::r) ⟨⟨al L ρ,h⟩,h.length,[]⟩ Q:=by
 obtain ⟨n0,hn⟩:=hc
 by_cases hl:level ops (before ops) i=2
 ·exact EvD.two hh hl ⟨n0,fun n h1=>hn n 2 h1 (by omega)⟩ k
 ·exact EvD.one hh hl hcl hop ⟨n0,fun n h1=>hn n 1 h1 (Nat.le_refl _)⟩ k
theorem D.move {x:Operand} {v:PV} (hx:evL L x=some v) (k:EvD C ops (i+1) r ⟨⟨al ((d,v)::L) ρ,h⟩,L0,own⟩ Q):EvD C ops i (⟨some d,.move x,ty,pos,af,none⟩::r) ⟨⟨al L ρ,h⟩,L0,own⟩ Q:=
 EvD.plain (h':=h) rfl (fun run=>by simp only [opVal,stepOp,evL_ev hx]) k
theorem D.assign {x:Operand} {v:PV} (hx:evL L x=some v) (k:EvD C ops (i+1) r ⟨⟨al ((d,v)::L) ρ,h⟩,L0,own⟩ Q):EvD C ops i (⟨some d,.assign x,ty,pos,af,none⟩::r) ⟨⟨al L ρ,h⟩,L0,own⟩ Q:=
 EvD.plain (h':=h) rfl (fun run=>by simp only [opVal,stepOp,evL_ev hx]) k
theorem D.fieldAddr {s:TypeId} {x:Operand} {f id ep j o off:Nat} {ft:TypeId} {os:List (Nat × TypeId)} {sz:Nat} (hx:evL L x=some (.ptr id ep j o)) (hk:T.kd s=some (.st os)) (hf:os[f]?=some (off,ft)) (hs:T.ts ft=some (sz+1))
  (k:EvD C ops (i+1) r ⟨⟨al ((d,.ptr id ep j (o+off))::L) ρ,h⟩,L0,own⟩ Q):EvD C ops i (⟨some d,.fieldAddr s x f,ty,pos,af,none⟩::r) ⟨⟨al L ρ,h⟩,L0,own⟩ Q:=
 EvD.plain (h':=h) rfl (fun run=>by simp [opVal,stepOp,evL_ev hx,fieldAddrP,fieldOff_of T hk hf hs]) k
theorem D.load1 {t:TypeId} {x:Operand} {p c:PV} {cs:List PV} {sz:Nat} (hcl:closedH h=true) (hx:evL L x=some p) (hv:visR (visible h) p=true) (hs:T.ts t=some sz) (ht:T.ta t=some false) (hp:pcells h p=some (c::cs))
  (k:EvD C ops (i+1) r ⟨⟨al ((d,c)::L) ρ,h⟩,h.length,[]⟩ Q):EvD C ops i (⟨some d,.load t x,ty,pos,af,none⟩::r) ⟨⟨al L ρ,h⟩,h.length,[]⟩ Q:=
 EvD.read rfl hcl (by simp [Op.operands,evL_ev hx,hv]) ⟨0,fun n lv _ _=>by simp [opVal,stepOp,evL_ev hx,loadP,T.hts _ _ hs,T.hta _ _ ht,hp]⟩ k
theorem D.loadA {t:TypeId} {x:Operand} {p:PV} {cs cs':List PV} {sz:Nat} (hcl:closedH h=true) (hx:evL L x=some p) (hv:visR (visible h) p=true) (hs:T.ts t=some (sz+1)) (ht:T.ta t=some true) (hp:pcells h p=some cs) (hc:TakeR (sz+1) cs cs')
  (k:EvD C ops (i+1) r ⟨⟨al ((d,.agg cs')::L) ρ,h⟩,h.length,[]⟩ Q):EvD C ops i (⟨some d,.load t x,ty,pos,af,none⟩::r) ⟨⟨al L ρ,h⟩,h.length,[]⟩ Q:=by
 obtain ⟨rfl,hle⟩:=hc.eq
 exact EvD.read rfl hcl (by simp [Op.operands,evL_ev hx,hv]) ⟨0,fun n lv _ _=>by simp [opVal,stepOp,evL_ev hx,loadP,T.hts _ _ hs,T.hta _ _ ht,hp,hle]⟩ k
theorem D.indexS {t el:TypeId} {x ix:Operand} {full:Bool} {es:List PV} {k:IntKind} {j:Nat} {v:PV} {cs:List PV} {sz:Nat} (hcl:closedH h=true) (hx:evL L x=some (.snap full es)) (hi:evL L ix=some (.int k (j:Int))) (hk:T.kd t=some (.sl el)) (hs:T.ts el=some (sz+1))
  (hv:es[j]?=some v) (hc:cells v=cs) (hl:cs.length=sz+1) (kk:EvD C ops (i+1) r ⟨⟨al ((d,.sptr cs)::L) ρ,h⟩,h.length,[]⟩ Q):EvD C ops i (⟨some d,.indexAddr t x ix,ty,pos,af,none⟩::r) ⟨⟨al L ρ,h⟩,h.length,[]⟩ Q:=by
 have hlt:j<es.length:=by
  rcases Nat.lt_or_ge j es.length with h | h
  ·exact h
  ·rw [List.getElem?_eq_none h] at hv;cases hv
 subst hc
 have hv':es[j]=v:=by rw [List.getElem?_eq_getElem hlt] at hv;exact Option.some.inj hv
 exact EvD.read rfl hcl (by simp [Op.operands,evL_ev hx,evL_ev hi,visR]) ⟨0,fun n lv _ _=>by simp [opVal,stepOp,evL_ev hx,evL_ev hi,indexAddrP,kd_sl (T.hkd _ _ hk),T.hts _ _ hs,hlt,hv',hl]⟩ kk
theorem D.callP {x:Operand} {xs:List Operand} {ats:Array TypeId} {f:FuncId} {caps args:List PV} {v:PV} (hcl:closedH h=true) (hf:evL L x=some (.fn f caps)) (ha:evsL L xs=some args) (hm:C.mode f=.pure) (hvv:isVals (args++caps)=true)
  (hvis:visRs (visible h) args=true) (hcv:visRs (visible h) caps=true) (a:Fun C f (nrms (args++caps)) v)
  (k:EvD C ops (i+1) r ⟨⟨al ((d,v)::L) ρ,h⟩,h.length,[]⟩ Q):EvD C ops i (⟨some d,.call ⟨.value x,xs.toArray,ats⟩,ty,pos,af,none⟩::r) ⟨⟨al L ρ,h⟩,h.length,[]⟩ Q:=by
 obtain ⟨n0,hn⟩:=a
 have he:=evsL_ev (ρ:=ρ) ha
 refine EvD.read rfl hcl ?_ ⟨n0,fun n lv h1 h2=>?_⟩ k
 ·rw [List.all_eq_true]
  intro y hy
  simp [Op.operands,Call.operands] at hy
  rcases hy with rfl | hy
  ·rw [evL_ev hf];simpa [visR] using hcv
  ·rw [visRs_all] at hvis
   have:ev (al L ρ) y∈args:=by rw [← he];exact List.mem_map.2 ⟨y,hy,rfl⟩
   exact List.all_eq_true.1 hvis _ this
 ·obtain ⟨r0,hc,r1,e1,e2,e3⟩:=hn n h1
  simp only [opVal,calleeP,evL_ev hf]
  unfold callF
  rw [hm]
  simp only [he,callPure,hvv,if_true,e1,e2,e3]
end Go.Pm
end
section
namespace Go.Pm
def L2 (R:Value→PV→Prop) (vs:List Value) (cs:List PV):Prop:=vs.length=cs.length∧∀ j,j<cs.length→R (vs.getD j undef) (cs.getD j .any)
inductive SRel (w:World) (A:Nat→Prop):Value→PV→Prop
 | int (k:IntKind) (n:Int):SRel w A (.int k n) (.int k n)
 | bool (b:Bool):SRel w A (.bool b) (.bool b)
 | str (s:ByteArray):SRel w A (.string s) (.str s)
 | nilp:SRel w A (.pointer none) .nilp
 | nilm:SRel w A (.map none) .nilm
 | nilf:SRel w A .nilFunc .nilf
 | agg (vs:List Value) (cs:List PV):vs.length=cs.length→(∀ j,j<cs.length→SRel w A (vs.getD j undef) (cs.getD j .any))→SRel w A (.agg vs.toArray) (.agg cs)
 | tup (vs:List Value) (cs:List PV):vs.length=cs.length→(∀ j,j<cs.length→SRel w A (vs.getD j undef) (cs.getD j .any))→SRel w A (.tuple vs.toArray) (.tup cs)
 | fn (f:FuncId) (vs:List Value) (cs:List PV):vs.length=cs.length→(∀ j,j<cs.length→SRel w A (vs.getD j undef) (cs.getD j .any))→SRel w A (.func (.func f) #[] vs.toArray) (.fn f cs)
 | bfn (f:FuncId) (k:Nat) (vs:List Value) (cs:List PV):vs.length=cs.length→(∀ j,j<cs.length→SRel w A (vs.getD j undef) (cs.getD j .any))→SRel w A (.func (.func f) (vs.take k).toArray (vs.drop k).toArray) (.bfn f k cs)
 | snapE (a:Option Addr) (cap:Nat) (full:Bool):(full=true→cap=0)→SRel w A (.slice a 0 cap) (.snap full [])
 | snap (b off cap sz:Nat) (full:Bool) (es:List PV) (cvs:Nat→Nat→Value):es≠[]→es.length≤cap→(full=true→cap=es.length)→¬ A b→0<sz →
   (∀ i,i<es.length→(cells (es.getD i .any)).length=sz) →
   (∀ i j,i<es.length→j<sz→w.cell? ⟨b,off+(i * sz+j),none⟩=some (cvs i j)) →
   (∀ i j,i<es.length→j<sz→SRel w A (cvs i j) ((cells (es.getD i .any)).getD j .any)) →
   SRel w A (.slice (some ⟨b,off,none⟩) es.length cap) (.snap full es)
 | sptr (b off:Nat) (cs:List PV) (cvs:Nat→Value):cs≠[]→¬ A b→(∀ j,j<cs.length→w.cell? ⟨b,off+j,none⟩=some (cvs j)) →
   (∀ j,j<cs.length→SRel w A (cvs j) (cs.getD j .any))→SRel w A (.pointer (some ⟨b,off,none⟩)) (.sptr cs)
inductive VRel (w:World) (A:Nat→Prop) (β:List (Nat × Nat)) (h:AHeap):Value→PV→Prop
 | val {v:Value} {p:PV}:SRel w A v p→VRel w A β h v p
 | undef:VRel w A β h (.tuple #[]) .undef
 | any (v:Value):VRel w A β h v .any
 | mref (v:Value) (id ep off len:Nat) (o:AObj) (bc:Nat × Nat):(∃ (a:Option Addr) (l c:Nat),v=.slice a l c)→h[id]?=some o→β[id]?=some bc→o.mu≠.x→(ep≤o.ep∧0<o.esz) →
   (o.ep=ep→off+len≤o.es.length→∃ cap,v=.slice (some ⟨bc.1,off * o.esz,none⟩) len cap∧off+cap=bc.2) →
   VRel w A β h v (.mref id ep off len)
 | ptr (v:Value) (id ep i off:Nat) (o:AObj) (bc:Nat × Nat):(∃ a:Addr,v=.pointer (some a))→h[id]?=some o→β[id]?=some bc→o.mu≠.x→(ep≤o.ep∧0<o.esz) →
   (o.ep=ep→v=.pointer (some ⟨bc.1,i * o.esz+off,none⟩)) →
   VRel w A β h v (.ptr id ep i off)
 | mapr (v:Value) (id:Nat) (o:AObj) (bc:Nat × Nat):(∃ r:Nat,v=.map (some r))→h[id]?=some o→β[id]?=some bc→o.mu≠.x→(o.ep=0→v=.map (some bc.1))→VRel w A β h v (.mapr id)
 | agg (vs:List Value) (cs:List PV):vs.length=cs.length→(∀ j,j<cs.length→VRel w A β h (vs.getD j Go.undef) (cs.getD j .any))→VRel w A β h (.agg vs.toArray) (.agg cs)
 | tup (vs:List Value) (cs:List PV):vs.length=cs.length→(∀ j,j<cs.length→VRel w A β h (vs.getD j Go.undef) (cs.getD j .any))→VRel w A β h (.tuple vs.toArray) (.tup cs)
 | fn (f:FuncId) (vs:List Value) (cs:List PV):vs.length=cs.length→(∀ j,j<cs.length→VRel w A β h (vs.getD j Go.undef) (cs.getD j .any))→VRel w A β h (.func (.func f) #[] vs.toArray) (.fn f cs)
 | bfn (f:FuncId) (k:Nat) (vs:List Value) (cs:List PV):vs.length=cs.length→(∀ j,j<cs.length→VRel w A β h (vs.getD j Go.undef) (cs.getD j .any))→VRel w A β h (.func (.func f) (vs.take k).toArray (vs.drop k).toArray) (.bfn f k cs)
def Mb (h:AHeap) (β:List (Nat × Nat)) (b:Nat):Prop:=∃ (id:Nat) (o:AObj) (bc:Nat × Nat),h[id]?=some o∧β[id]?=some bc∧o.mu=.m∧bc.1=b
def Av (F:Nat→Prop) (h:AHeap) (β:List (Nat × Nat)) (b:Nat):Prop:=F b∨Mb h β b
def CRel (w:World) (A:Nat→Prop) (β:List (Nat × Nat)) (h:AHeap) (o:AObj) (bc:Nat × Nat):Prop:=
 ∃ T cs,w.heap[bc.1]?=some (.cells cs T (0,0))∧o.es.length≤bc.2∧bc.2 * o.esz≤cs.size∧0<o.esz ∧
  (∀ (i:Nat) (e:PV),o.es[i]?=some e→(cells e).length=o.esz∧∀ (j:Nat) (p:PV),(cells e)[j]?=some p→∃ v:Value,cs[i * o.esz+j]?=some v∧VRel w A β h v p)
def MRel (w:World) (A:Nat→Prop) (β:List (Nat × Nat)) (h:AHeap) (o:AObj) (bc:Nat × Nat):Prop:=
 o.esz=0∧∃ es clock,w.heap[bc.1]?=some (.map es clock)∧es.size=o.es.length ∧
  (∀ (i:Nat) (e:PV),o.es[i]?=some e→∃ (k v:PV) (m:MapEntry),e=.agg [k,v]∧es[i]?=some m∧VRel w A β h m.key k∧VRel w A β h m.val v)
def ORel (w:World) (A:Nat→Prop) (β:List (Nat × Nat)) (h:AHeap) (o:AObj) (bc:Nat × Nat):Prop:=CRel w A β h o bc∨MRel w A β h o bc
theorem ORel.c {w:World} {A:Nat→Prop} {β:List (Nat × Nat)} {h:AHeap} {o:AObj} {bc:Nat × Nat} (r:ORel w A β h o bc) (hz:0<o.esz):CRel w A β h o bc:=by
 rcases r with r | r
 ·exact r
 ·have:=r.1;omega
theorem ORel.m {w:World} {A:Nat→Prop} {β:List (Nat × Nat)} {h:AHeap} {o:AObj} {bc:Nat × Nat} (r:ORel w A β h o bc) (hz:o.esz=0):MRel w A β h o bc:=by
 rcases r with ⟨_,_,_,_,_,h4,_⟩ | r
 ·omega
 ·exact r
theorem ORel.lt {w:World} {A:Nat→Prop} {β:List (Nat × Nat)} {h:AHeap} {o:AObj} {bc:Nat × Nat} (r:ORel w A β h o bc):bc.1<w.heap.size:=by
 rcases r with ⟨_,_,h1,_⟩ | ⟨_,_,_,h1,_⟩ <;> exact (Array.getElem?_eq_some_iff.1 h1).1
structure HRel (w:World) (F:Nat→Prop) (β:List (Nat × Nat)) (h:AHeap):Prop where
 len:β.length=h.length
 fin:∀ b,F b→b<w.heap.size
 obj:∀ (id:Nat) (o:AObj) (bc:Nat × Nat),h[id]?=some o→β[id]?=some bc→o.mu≠.x→ORel w (Av F h β) β h o bc
 dist:∀ (id id':Nat) (o o':AObj) (bc bc':Nat × Nat),id≠id'→h[id]?=some o→h[id']?=some o'→β[id]?=some bc→β[id']?=some bc'→o.mu=.m→o'.mu≠.x→bc.1≠bc'.1
 out:∀ (id:Nat) (o:AObj) (bc:Nat × Nat),h[id]?=some o→β[id]?=some bc→(o.mu=.m∨o.mu=.f)→¬ F bc.1
def Fwd (h:AHeap) (β:List (Nat × Nat)) (h':AHeap) (β':List (Nat × Nat)):Prop:=
 ∀ (id:Nat) (o:AObj) (bc:Nat × Nat),h[id]?=some o→β[id]?=some bc→o.mu≠.x →
  ∃ (o':AObj) (bc':Nat × Nat),h'[id]?=some o'∧β'[id]?=some bc'∧o'.mu≠.x∧(o.ep≤o'.ep∧(0<o.esz→0<o'.esz))∧(o.ep=o'.ep→o'.esz=o.esz∧(0<o.esz→o'.es.length=o.es.length)∧bc'=bc)
theorem Fwd.refl (h:AHeap) (β:List (Nat × Nat)):Fwd h β h β:=fun _ o bc e1 e2 e3=>⟨o,bc,e1,e2,e3,⟨Nat.le_refl _,fun h=>h⟩,fun _=>⟨rfl,fun _=>rfl,rfl⟩⟩
theorem Fwd.trans {h h1 h2:AHeap} {β β1 β2:List (Nat × Nat)} (a:Fwd h β h1 β1) (b:Fwd h1 β1 h2 β2):Fwd h β h2 β2:=by
 intro id o bc e1 e2 e3
 obtain ⟨o1,c1,f1,f2,f3,f4,f5⟩:=a id o bc e1 e2 e3
 obtain ⟨o2,c2,g1,g2,g3,g4,g5⟩:=b id o1 c1 f1 f2 f3
 have f41:=f4.1
 have g41:=g4.1
 refine ⟨o2,c2,g1,g2,g3,⟨Nat.le_trans f4.1 g4.1,fun hz=>g4.2 (f4.2 hz)⟩,fun e=>?_⟩
 obtain ⟨p1,p2,p3⟩:=f5 (by omega)
 obtain ⟨q1,q2,q3⟩:=g5 (by omega)
 exact ⟨q1.trans p1,fun hz=>(q2 (f4.2 hz)).trans (p2 hz),q3.trans p3⟩
structure Stp (w:World) (h:AHeap) (β:List (Nat × Nat)) (w':World) (h':AHeap) (β':List (Nat × Nat)):Prop where
 size:w.heap.size≤w'.heap.size
 len:h.length≤h'.length
 keep:∀ b,b<w.heap.size→¬ Mb h β b→w'.heap[b]?=w.heap[b]?
 shr:∀ b,b<w.heap.size→Mb h' β' b→Mb h β b
 refs:Fwd h β h' β'
 lck:∀ (id:Nat) (o:AObj),h[id]?=some o→o.mu≠.m→h'[id]?=some o∧β'[id]?=β[id]?
 os:w'.os=w.os
 tape:w'.tape=w.tape
 output:w'.output=w.output
 drawn:w.drawn≤w'.drawn
theorem Stp.refl (w:World) (h:AHeap) (β:List (Nat × Nat)):Stp w h β w h β where
 size:=Nat.le_refl _
 len:=Nat.le_refl _
 keep _ _ _:=rfl
 shr _ _ m:=m
 refs:=Fwd.refl h β
 lck id o h1 _:=⟨h1,rfl⟩
 os:=rfl
 tape:=rfl
 output:=rfl
 drawn:=Nat.le_refl _
theorem Stp.trans {w w1 w2:World} {h h1 h2:AHeap} {β β1 β2:List (Nat × Nat)} (a:Stp w h β w1 h1 β1) (b:Stp w1 h1 β1 w2 h2 β2):Stp w h β w2 h2 β2 where
 size:=Nat.le_trans a.size b.size
 len:=Nat.le_trans a.len b.len
 keep k hk hm:=by
  have h1:¬ Mb h1 β1 k:=fun m=>hm (a.shr k hk m)
  rw [b.keep k (Nat.lt_of_lt_of_le hk a.size) h1,a.keep k hk hm]
 shr k hk m:=a.shr k hk (b.shr k (Nat.lt_of_lt_of_le hk a.size) m)
 refs:=a.refs.trans b.refs
 lck id o e1 e2:=by
  obtain ⟨f1,f2⟩:=a.lck id o e1 e2
  obtain ⟨g1,g2⟩:=b.lck id o f1 e2
  exact ⟨g1,g2.trans f2⟩
 os:=b.os.trans a.os
 tape:=b.tape.trans a.tape
 output:=b.output.trans a.output
 drawn:=Nat.le_trans a.drawn b.drawn
theorem cell_lt {w:World} {b off:Nat} {v:Value} (h:w.cell? ⟨b,off,none⟩=some v):b<w.heap.size:=block_lt_of_cell h
theorem cell_keep {w w':World} {b off:Nat} (h:w'.heap[b]?=w.heap[b]?):w'.cell? ⟨b,off,none⟩=w.cell? ⟨b,off,none⟩:=by
 simp [World.cell?,h]
theorem SRel.mono {w w':World} {A A':Nat→Prop} (hw:∀ b,b<w.heap.size→¬ A b→w'.heap[b]?=w.heap[b]?) (hA:∀ b,b<w.heap.size→¬ A b→¬ A' b)
  {v:Value} {p:PV} (h:SRel w A v p):SRel w' A' v p:=by
 induction h with
 | int k n=>exact .int k n
 | bool b=>exact .bool b
 | str s=>exact .str s
 | nilp=>exact .nilp
 | nilm=>exact .nilm
 | nilf=>exact .nilf
 | agg vs cs hl _ ih=>exact .agg vs cs hl ih
 | tup vs cs hl _ ih=>exact .tup vs cs hl ih
 | fn f vs cs hl _ ih=>exact .fn f vs cs hl ih
 | bfn f k vs cs hl _ ih=>exact .bfn f k vs cs hl ih
 | snapE a cap full hf=>exact .snapE a cap full hf
 | snap b off cap sz full es cvs h1 h2 h3 h4 h5 h6 h7 _ ih=>
  have hne:0<es.length:=List.length_pos_iff.2 h1
  have hb:b<w.heap.size:=cell_lt (h7 0 0 hne h5)
  exact .snap b off cap sz full es cvs h1 h2 h3 (hA b hb h4) h5 h6 (fun i j hi hj=>by rw [cell_keep (hw b hb h4)];exact h7 i j hi hj) ih
 | sptr b off cs cvs h1 h2 h3 _ ih=>
  have hne:0<cs.length:=List.length_pos_iff.2 h1
  have hb:b<w.heap.size:=cell_lt (h3 0 hne)
  exact .sptr b off cs cvs h1 (hA b hb h2) (fun j hj=>by rw [cell_keep (hw b hb h2)];exact h3 j hj) ih
theorem SRel.weak {w:World} {A A':Nat→Prop} (hA:∀ b,A' b→A b) {v:Value} {p:PV} (h:SRel w A v p):SRel w A' v p:=
 h.mono (fun _ _ _=>rfl) (fun b _ hn ha=>hn (hA b ha))
theorem Av.mono {w w':World} {h h':AHeap} {β β':List (Nat × Nat)} {F:Nat→Prop} (s:Stp w h β w' h' β') (b:Nat) (hb:b<w.heap.size) (hn:¬ Av F h β b):¬ Av F h' β' b:=by
 rintro (hf | hm)
 ·exact hn (.inl hf)
 ·exact hn (.inr (s.shr b hb hm))
theorem VRel.fwd {w w':World} {h h':AHeap} {β β':List (Nat × Nat)} {A A':Nat→Prop} (f:Fwd h β h' β') (hw:∀ b,b<w.heap.size→¬ A b→w'.heap[b]?=w.heap[b]?) (hA:∀ b,b<w.heap.size→¬ A b→¬ A' b)
  {v:Value} {p:PV} (hv:VRel w A β h v p):VRel w' A' β' h' v p:=by
 induction hv with
 | val hs=>exact .val (hs.mono hw hA)
 | undef=>exact .undef
 | any v=>exact .any v
 | mref v id ep off len o bc h0 h1 h2 h3 h4 h5=>
  obtain ⟨o',bc',f1,f2,f3,f4,f5⟩:=f id o bc h1 h2 h3
  have h41:=h4.1
  have f41:=f4.1
  refine .mref v id ep off len o' bc' h0 f1 f2 f3 ⟨Nat.le_trans h4.1 f4.1,f4.2 h4.2⟩ (fun e1 e2=>?_)
  obtain ⟨g1,g2,g3⟩:=f5 (by omega)
  have g2:=g2 h4.2
  obtain ⟨cap,k1,k2⟩:=h5 (by omega) (by omega)
  exact ⟨cap,by rw [k1,g3,g1],by rw [k2,g3]⟩
 | ptr v id ep i off o bc h0 h1 h2 h3 h4 h5=>
  obtain ⟨o',bc',f1,f2,f3,f4,f5⟩:=f id o bc h1 h2 h3
  have h41:=h4.1
  have f41:=f4.1
  refine .ptr v id ep i off o' bc' h0 f1 f2 f3 ⟨Nat.le_trans h4.1 f4.1,f4.2 h4.2⟩ (fun e1=>?_)
  obtain ⟨g1,g2,g3⟩:=f5 (by omega)
  rw [h5 (by omega),g3,g1]
 | mapr v id o bc h0 h1 h2 h3 h5=>
  obtain ⟨o',bc',f1,f2,f3,f4,f5⟩:=f id o bc h1 h2 h3
  have f41:=f4.1
  refine .mapr v id o' bc' h0 f1 f2 f3 (fun e1=>?_)
  obtain ⟨g1,g2,g3⟩:=f5 (by omega)
  rw [h5 (by omega),g3]
 | agg vs cs hl _ ih=>exact .agg vs cs hl ih
 | tup vs cs hl _ ih=>exact .tup vs cs hl ih
 | fn f vs cs hl _ ih=>exact .fn f vs cs hl ih
 | bfn f k vs cs hl _ ih=>exact .bfn f k vs cs hl ih
theorem VRel.mono {w w':World} {h h':AHeap} {β β':List (Nat × Nat)} {F:Nat→Prop} (s:Stp w h β w' h' β') {v:Value} {p:PV} (hv:VRel w (Av F h β) β h v p) :
  VRel w' (Av F h' β') β' h' v p:=hv.fwd s.refs (fun b hb hn=>s.keep b hb (fun m=>hn (.inr m))) (fun b hb hn=>Av.mono s b hb hn)
section inv
variable {w:World} {A:Nat→Prop} {β:List (Nat × Nat)} {h:AHeap} {v:Value}
theorem VRel.int_inv {k:IntKind} {n:Int} (hv:VRel w A β h v (.int k n)):v=.int k n:=by cases hv with | val hs=>cases hs;rfl
theorem VRel.bool_inv {b:Bool} (hv:VRel w A β h v (.bool b)):v=.bool b:=by cases hv with | val hs=>cases hs;rfl
theorem VRel.str_inv {s:ByteArray} (hv:VRel w A β h v (.str s)):v=.string s:=by cases hv with | val hs=>cases hs;rfl
theorem VRel.undef_inv (hv:VRel w A β h v .undef):v=.tuple #[]:=by
 cases hv with
 | val hs=>cases hs
 | undef=>rfl
theorem VRel.agg_inv {cs:List PV} (hv:VRel w A β h v (.agg cs)):∃ vs:List Value,v=.agg vs.toArray∧vs.length=cs.length∧∀ j,j<cs.length→VRel w A β h (vs.getD j Go.undef) (cs.getD j .any):=by
 cases hv with
 | val hs=>cases hs with | agg vs _ hl hh=>exact ⟨vs,rfl,hl,fun j hj=>.val (hh j hj)⟩
 | agg vs _ hl hh=>exact ⟨vs,rfl,hl,hh⟩
theorem VRel.tup_inv {cs:List PV} (hv:VRel w A β h v (.tup cs)):∃ vs:List Value,v=.tuple vs.toArray∧vs.length=cs.length∧∀ j,j<cs.length→VRel w A β h (vs.getD j Go.undef) (cs.getD j .any):=by
 cases hv with
 | val hs=>cases hs with | tup vs _ hl hh=>exact ⟨vs,rfl,hl,fun j hj=>.val (hh j hj)⟩
 | tup vs _ hl hh=>exact ⟨vs,rfl,hl,hh⟩
theorem VRel.fn_inv {f:FuncId} {cs:List PV} (hv:VRel w A β h v (.fn f cs)):∃ vs:List Value,v=.func (.func f) #[] vs.toArray∧vs.length=cs.length∧∀ j,j<cs.length→VRel w A β h (vs.getD j Go.undef) (cs.getD j .any):=by
 cases hv with
 | val hs=>cases hs with | fn _ vs _ hl hh=>exact ⟨vs,rfl,hl,fun j hj=>.val (hh j hj)⟩
 | fn _ vs _ hl hh=>exact ⟨vs,rfl,hl,hh⟩
theorem VRel.bfn_inv {f:FuncId} {k:Nat} {cs:List PV} (hv:VRel w A β h v (.bfn f k cs)):∃ vs:List Value,v=.func (.func f) (vs.take k).toArray (vs.drop k).toArray∧vs.length=cs.length∧∀ j,j<cs.length→VRel w A β h (vs.getD j Go.undef) (cs.getD j .any):=by
 cases hv with
 | val hs=>cases hs with | bfn _ _ vs _ hl hh=>exact ⟨vs,rfl,hl,fun j hj=>.val (hh j hj)⟩
 | bfn _ _ vs _ hl hh=>exact ⟨vs,rfl,hl,hh⟩
theorem VRel.snap_inv {f:Bool} {es:List PV} (hv:VRel w A β h v (.snap f es)):SRel w A v (.snap f es):=by cases hv with | val hs=>exact hs
theorem VRel.sptr_inv {cs:List PV} (hv:VRel w A β h v (.sptr cs)):SRel w A v (.sptr cs):=by cases hv with | val hs=>exact hs
theorem VRel.mref_inv {id ep off len:Nat} (hv:VRel w A β h v (.mref id ep off len)):id<h.length∧(∀ o:AObj,h[id]?=some o→ep≤o.ep∧0<o.esz) ∧
  (∀ (o:AObj) (bc:Nat × Nat),h[id]?=some o→β[id]?=some bc→o.mu≠.x→o.ep=ep→off+len≤o.es.length→∃ cap,v=.slice (some ⟨bc.1,off * o.esz,none⟩) len cap∧off+cap=bc.2):=by
 cases hv with
 | val hs=>cases hs
 | mref _ _ _ _ _ o bc h0 h1 h2 h3 h4 h5=>
  refine ⟨?_,fun o' e=>?_,fun o' bc' e1 e2 e3 e4 e5=>?_⟩
  ·rcases Nat.lt_or_ge id h.length with hh | hh
   ·exact hh
   ·rw [List.getElem?_eq_none hh] at h1;cases h1
  ·rw [h1] at e;obtain rfl:=Option.some.inj e;exact h4
  ·rw [h1] at e1;rw [h2] at e2
   obtain rfl:=Option.some.inj e1
   obtain rfl:=Option.some.inj e2
   exact h5 e4 e5
theorem VRel.ptr_inv {id ep i off:Nat} (hv:VRel w A β h v (.ptr id ep i off)):id<h.length∧(∀ o:AObj,h[id]?=some o→ep≤o.ep∧0<o.esz) ∧
  (∀ (o:AObj) (bc:Nat × Nat),h[id]?=some o→β[id]?=some bc→o.mu≠.x→o.ep=ep→v=.pointer (some ⟨bc.1,i * o.esz+off,none⟩)):=by
 cases hv with
 | val hs=>cases hs
 | ptr _ _ _ _ _ o bc h0 h1 h2 h3 h4 h5=>
  refine ⟨?_,fun o' e=>?_,fun o' bc' e1 e2 e3 e4=>?_⟩
  ·rcases Nat.lt_or_ge id h.length with hh | hh
   ·exact hh
   ·rw [List.getElem?_eq_none hh] at h1;cases h1
  ·rw [h1] at e;obtain rfl:=Option.some.inj e;exact h4
  ·rw [h1] at e1;rw [h2] at e2
   obtain rfl:=Option.some.inj e1
   obtain rfl:=Option.some.inj e2
   exact h5 e4
theorem VRel.nilm_inv (hv:VRel w A β h v .nilm):v=.map none:=by cases hv with | val hs=>cases hs;rfl
theorem VRel.mapr_inv {id:Nat} (hv:VRel w A β h v (.mapr id)) {o:AObj} {bc:Nat × Nat} (e1:h[id]?=some o) (e2:β[id]?=some bc) (e3:o.ep=0):v=.map (some bc.1):=by
 cases hv with
 | val hs=>cases hs
 | mapr _ _ o' bc' h0 h1 h2 h3 h5=>
  rw [e1] at h1;rw [e2] at h2
  obtain rfl:=Option.some.inj h1
  obtain rfl:=Option.some.inj h2
  exact h5 e3
end inv
theorem VRel.toS {w:World} {A:Nat→Prop} {β:List (Nat × Nat)} {h:AHeap} {v:Value} {p:PV} (hv:VRel w A β h v p) (hp:isVal p=true):SRel w A v p:=by
 have all:∀ cs:List PV,isVals cs=true→∀ j,j<cs.length→isVal (cs.getD j .any)=true:=by
  intro cs
  induction cs with
  | nil=>intro _ j hj;simp at hj
  | cons c r ih=>
   intro h j hj
   simp [isVals] at h
   cases j with
   | zero=>simpa using h.1
   | succ j=>simpa using ih h.2 j (by simpa using hj)
 induction hv with
 | val hs=>exact hs
 | undef=>simp [isVal] at hp
 | any v=>simp [isVal] at hp
 | mref=>simp [isVal] at hp
 | ptr=>simp [isVal] at hp
 | mapr=>simp [isVal] at hp
 | agg vs cs hl _ ih=>exact .agg vs cs hl fun j hj=>ih j hj (all cs (by simpa [isVal] using hp) j hj)
 | tup vs cs hl _ ih=>exact .tup vs cs hl fun j hj=>ih j hj (all cs (by simpa [isVal] using hp) j hj)
 | fn f vs cs hl _ ih=>exact .fn f vs cs hl fun j hj=>ih j hj (all cs (by simpa [isVal] using hp) j hj)
 | bfn f k vs cs hl _ ih=>exact .bfn f k vs cs hl fun j hj=>ih j hj (all cs (by simpa [isVal] using hp) j hj)
theorem SRel.cells {w:World} {A:Nat→Prop} {v:Value} {p:PV} (hv:SRel w A v p):v.cells.size=(Pm.cells p).length∧∀ (j:Nat) (q:PV),(Pm.cells p)[j]?=some q→∃ u:Value,v.cells[j]?=some u∧SRel w A u q:=by
 have one:∀ (v:Value) (p:PV),SRel w A v p→v.cells = #[v]→Pm.cells p=[p]→v.cells.size=(Pm.cells p).length∧∀ (j:Nat) (q:PV),(Pm.cells p)[j]?=some q→∃ u:Value,v.cells[j]?=some u∧SRel w A u q:=by
  intro v p h e1 e2
  rw [e1,e2]
  refine ⟨rfl,fun j q hq=>?_⟩
  cases j with
  | zero=>simp at hq;subst hq;exact ⟨v,rfl,h⟩
  | succ j=>simp at hq
 cases hv with
 | agg vs cs hl hh=>
  refine ⟨by simpa [Value.cells,Pm.cells] using hl,fun j q hq=>?_⟩
  have hj:j<cs.length:=by
   rcases Nat.lt_or_ge j cs.length with h | h
   ·exact h
   ·simp [Pm.cells,List.getElem?_eq_none h] at hq
  have hq':cs[j]?=some q:=hq
  refine ⟨vs.getD j undef,?_,?_⟩
  ·simp only [Value.cells]
   have:j<vs.length:=by omega
   simp [List.getD,this]
  ·have:=hh j hj
   rwa [List.getD_eq_getElem?_getD (l:=cs),hq'] at this
 | _=>exact one _ _ (by first | exact .int _ _ | exact .bool _ | exact .str _ | exact .nilp | exact .nilm | exact .nilf | (rename_i a b;exact .tup _ _ a b) | (rename_i a b;exact .fn _ _ _ a b) | (rename_i a b;exact .bfn _ _ _ _ a b) | (rename_i a;exact .snapE _ _ _ a) | (rename_i h1 h2 h3 h4 h5 h6 h7 h8;exact .snap _ _ _ _ _ _ _ h1 h2 h3 h4 h5 h6 h7 h8) | (rename_i h1 h2 h3 h4;exact .sptr _ _ _ _ h1 h2 h3 h4)) rfl rfl
end Go.Pm
end
