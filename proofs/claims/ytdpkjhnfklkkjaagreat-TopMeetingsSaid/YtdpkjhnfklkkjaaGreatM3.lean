/-
  Rules of the abstract run, plain laws, and what functions answer, for the law TopMeetings.
  Conditions: none.
-/
import Derived.Test.YtdpkjhnfklkkjaaGreatM2
set_option linter.all false
set_option maxHeartbeats 16000000
namespace Go.Sw
open Go Go.RowKit
inductive Cell where
 |v (u:Value)
 |sl (s:Nat) (es:List (List Cell))
 |p (cs:List Cell)
 |fn (f:FuncId) (cs:List Cell)
 |ob (b n:Nat)
structure Gho where
 rep:World->List Nat->List Value->List Bx->Nat×Array MapEntry×Nat->Prop
 ext:∀{w:World} {X:List Nat} {w':World} {X':List Nat} {us:List Value} {more:List Bx} {mo:Nat×Array MapEntry×Nat},rep w X us more mo->Ext w X w' X'->rep w' X' us more mo
inductive AV where
 |c (x:Cell)
 |agg (cs:List Cell)
 |tup (vs:List AV)
 |ptr (b o:Nat)
 |pe (b n i o:Nat)
 |rd (cs:List Cell)
 |gs (b n:Nat)
 |own (T:TypeId) (s:Nat) (es:List (List Cell))
 |gp (g o:Nat)
 |gh (G:Gho)
 |ago (cs:List Cell)
 |bad
 |any
inductive Bk where
 |var (cs:List Cell)
 |grow (T:TypeId) (s:Nat) (es:List (List Cell))
 |froz (s:Nat) (es:List (List Cell))
 |varo (cs:List Cell)
 |fvar (cs:List Cell)
 |gh (G:Gho)
 |dead
inductive TI where
 |int (k:IntKind)
 |bool
 |str
 |row (n:Nat) (fs:List (Nat×Nat×Bool)) (z:List Cell)
 |slice (e:TypeId) (s:Nat) (by_:Nat) (z:List Cell)
 |arr (n s:Nat) (one:Bool) (z:List Cell)
 |flat (ks:List Nat) (z:List Cell)
 |glob (k:Nat) (cs:List Cell)
 |flag
abbrev Env:=List (Nat×AV)
abbrev aZ:=List (Nat×Bk)
abbrev Tab:=List (TypeId×TI)
def ld{α:Type}(t:Nat):List (Nat×α)->Option α
 |[]=>none
 |(s,v)::r=>cond (Nat.beq s t) (some v) (ld t r)
def up{α:Type}(t:Nat)(x:α):List (Nat×α)->List (Nat×α)
 |[]=>[(t,x)]
 |(s,v)::r=>cond (Nat.beq s t) ((s,x)::r) ((s,v)::up t x r)
def ups{α:Type}:List (Nat×α)->List (Nat×α)->List (Nat×α)
 |[],l=>l
 |(t,x)::r,l=>ups r (up t x l)
@[reducible] def AV.int(k:IntKind)(n:Int):AV:=.c (.v (.int k n))
@[reducible] def AV.bool(b:Bool):AV:=.c (.v (.bool b))
def cv:Value->AV
 |.agg _ => .any
 |.tuple _ => .any
 |v => .c (.v v)
def ae(e:Env):Operand->Option AV
 |.tmp t=>ld t e
 |.const v=>some (cv v)
 |.func f=>some (.c (.v (.func (.func f) #[] #[])))
 |.global g=>some (.gp g 0)
@[reducible] def GK:Nat:=1000000000
@[reducible] def OK:Nat:=2000000000
@[reducible] def WK:Nat:=3000000000
structure OnB (b:Bool) (k:Bool->Prop):Prop where
 t:b=true->k true
 f:b=false->k false
theorem zad:type_of% @OnB.mk:=@OnB.mk
structure Obl (p:Prop) (k:Prop):Prop where
 p:p
 k:k
inductive Elem (es:List (List Cell)) (i:Int) (k:List Cell->Prop):Prop where
 |mk (j:Nat) (e:List Cell) (hi:i=(j:Nat)) (he:es[j]?=some e) (hk:k e)
inductive MkS (l c:Int) (by_:Nat) (k:Nat->Prop):Prop where
 |mk (n m:Nat) (hl:l=(n:Nat)) (hc:c=(m:Nat)) (h:n<=m) (hb:m*(by_+1)<=140737488355328) (hk:k n)
inductive SlP (n:Nat) (lo hi mx:Option Int) (k:Nat->Nat->Prop):Prop where
 |mk (a b m:Nat) (hlo:lo.getD 0=(a:Nat)) (hhi:hi.getD n=(b:Nat)) (hmx:mx.getD n=(m:Nat)) (h1:a<=b) (h2:b<=m) (h3:m<=n) (hm:mx.isSome=true->hi.isSome=true) (hk:k a b)
inductive StrAt (s:ByteArray) (i:Int) (k:Int->Prop):Prop where
 |mk (j:Nat) (hi:i=(j:Nat)) (hj:j<s.size) (hk:k ((s.data.toList.getD j 0).toNat:Nat))
def zq(s:ByteArray):List (List Cell):=s.data.toList.map λb=>[.v (.int .u8 (b.toNat:Nat))]
def vW(e:Env):Option Operand->Option (Option Int)
 |none=>some none
 |some x=>match ae e x with
  |some (.c (.v (.int _ n)))=>some (some n)
  |_=>none
def dU{α:Type}:Nat->List α->List α
 |0,l=>l
 |n+1,_::r=>dU n r
 |_+1,[]=>[]
def PV{α:Type}:Nat->List α->(List α->Prop)->Prop
 |0,l,k=>k l
 |n+1,_::r,k=>PV n r k
 |_+1,[],k=>k []
theorem pJ{α:Type}:∀(n:Nat) (l:List α) (k:List α->Prop),PV n l k=k (dU n l)
 |0,l,k=>rfl
 |n+1,[],k=>rfl
 |n+1,x::r,k=>pJ n r k
def jQ(bx:aZ)(v:AV)(k:AV->aZ->Prop):Prop :=
 match v with
 |.c (.v (.slice none 0 0))=>k (.c (.sl 0 [])) []
 |.c x=>k (.c x) []
 |.agg cs=>k (.agg cs) []
 |.gs b n=>(match ld b bx with
  |some (.grow _ s es)=>Obl (n=es.length) (k (.c (.sl s es)) [(b,.froz s es)])
  |some (.froz s es)=>Obl (n=es.length) (k (.c (.sl s es)) [])
  |_=>False)
 |.ptr b o=>(match ld b bx with
  |some (.var cs)=>PV o cs λl=>k (.c (.p l)) [(b,.fvar cs)]
  |some (.fvar cs)=>PV o cs λl=>k (.c (.p l)) []
  |_=>False)
 |.rd cs=>k (.c (.p cs)) []
 |_=>False
@[reducible] def cellsOf:AV->List Cell
  |.c x=>[x]
  |.agg cs=>cs
  |_=>[]
def jU:List AV->aZ->(List AV->aZ->Prop)->Prop
 |[],bx,k=>k [] []
 |v::r,bx,k=>jQ bx v λv' f=>jU r (ups f bx) λvs g=>k (v'::vs) (f++g)
def je{α β:Type}(f:α->Option β):List α->Option (List β)
 |[]=>some []
 |x::r=>match f x with|some y=>(match je f r with|some l=>some (y::l)|none=>none)|none=>none
def takeN{α:Type}:Nat->List α->Option (List α)
 |0,_=>some []
 |n+1,x::r=>match takeN n r with|some l=>some (x::l)|none=>none
 |_+1,[]=>none
def oK{α:Type}:Nat->List α->List α->Option (List α)
 |0,[],l=>some l
 |0,y::r,_::l=>match oK 0 r l with|some q=>some (y::q)|none=>none
 |n+1,ys,x::l=>match oK n ys l with|some q=>some (x::q)|none=>none
 |_,_,[]=>none
def chunk(s:Nat):Nat->List Cell->Option (List (List Cell))
 |0,[]=>some []
 |0,_::_=>none
 |n+1,cs=>match takeN s cs with
  |some l=>(match chunk s n (dU s cs)with|some r=>some (l::r)|none=>none)
  |none=>none
def jd(ti:TI)(cs:List Cell):Option AV :=
 match ti with
 |.row n _ _=>match takeN n cs with|some l=>some (.agg l)|none=>none
 |.arr n s _ _=>match takeN (n*s) cs with|some l=>some (.agg l)|none=>none
 |.flat _ _=>none
 |.glob _ _=>none
 |.flag=>none
 |_=>match cs with|c::_=>some (.c c)|[]=>none
def YU:TI->Option Nat
 |.row n _ _=>some n
 |.arr n s _ _=>some (n*s)
 |_=>none
def avO:Cell->AV
 |.ob b n => .gs b n
 |c => .c c
def IV:List Cell->aZ->(List Cell->aZ->Prop)->Prop
 |[],_,k=>k [] []
 |.ob b n::r,bx,k=>jQ bx (.gs b n) λv f=>(match v with|.c c=>IV r (ups f bx) λcs g=>k (c::cs) (f++g)|_=>False)
 |c::r,bx,k=>IV r bx λcs g=>k (c::cs) g
def uJ(ti:TI)(cs:List Cell)(bx:aZ)(k:AV->aZ->Prop):Prop :=
 match YU ti with
 |some n=>(match takeN n cs with|some l=>IV l bx λl' f=>k (.agg l') f|none=>False)
 |none=>(match ti,cs with
  |.flat _ _,_=>False
  |.glob _ _,_=>False
  |.flag,_=>False
  |_,c::_=>k (avO c) []
  |_,[]=>False)
def lJ:List Cell->List Nat
 |[]=>[]
 |.ob b _::r=>b::lJ r
 |_::r=>lJ r
def tX:Bk->List Nat
 |.varo cs=>lJ cs
 |_=>[]
def abQ:TI->Nat
 |.row n _ _=>n
 |.arr n s _ _=>n*s
 |.flat _ z=>z.length
 |.glob _ _=>0
 |.flag=>0
 |_=>1
def Lu:TI->Bool
 |.glob _ _=>false
 |.flag=>false
 |_=>true
def szB(ti:TI)(n:Nat):Bool:=match Lu ti with|true=>Nat.beq n (abQ ti)|false=>false
def zeroCells:TI->List Cell
 |.int k=>[.v (.int k 0)]
 |.bool=>[.v (.bool false)]
 |.str=>[.v (.string ByteArray.empty)]
 |.row _ _ z=>z
 |.slice _ _ _ _=>[.sl 0 []]
 |.arr _ _ _ z=>z
 |.flat _ z=>z
 |.glob _ z=>z
 |.flag=>[]
def uz(t:Nat):Tab->Option (List Nat)
 |[]=>none
 |(s,.flat ks _)::r=>cond (Nat.beq s t) (some ks) (uz t r)
 |_::r=>uz t r
def ZF:List Nat->List Cell->List Cell->Option Bool
 |[],[],[]=>some true
 |0::ks,.v (.int k a)::r,.v (.int k' b)::r'=>(match decide (k=k'),ZF ks r r' with|true,some q=>some (decide (a=b)&&q)|_,_=>none)
 |1::ks,.v (.bool p)::r,.v (.bool p')::r'=>(match ZF ks r r' with|some q=>some ((p == p')&&q)|none=>none)
 |2::ks,.v (.string a)::r,.v (.string b)::r'=>(match ZF ks r r' with|some q=>some ((a == b)&&q)|none=>none)
 |_,_,_=>none
def AL(k:IntKind)(a b:Int):Int:=k.wrap (BitVec.ofInt k.bits a &&& BitVec.ofInt k.bits b).toNat
def orI(k:IntKind)(a b:Int):Int:=k.wrap (BitVec.ofInt k.bits a ||| BitVec.ofInt k.bits b).toNat
def DT(op:BinOp)(x y:AV)(k:AV->Prop):Prop :=
 match op,x,y with
 |.add,.c (.v (.int ki a)),.c (.v (.int kj b))=>(match decide (ki=kj)with|true=>k (.int ki (ki.wrap (a+b)))|false=>False)
 |.sub,.c (.v (.int ki a)),.c (.v (.int kj b))=>(match decide (ki=kj)with|true=>k (.int ki (ki.wrap (a-b)))|false=>False)
 |.mul,.c (.v (.int ki a)),.c (.v (.int kj b))=>(match decide (ki=kj)with|true=>k (.int ki (ki.wrap (a*b)))|false=>False)
 |.shl,.c (.v (.int ki a)),.c (.v (.int _ b))=>Obl (0<=b) (k (.int ki (ki.wrap (a*2^(min b.toNat ki.bits)))))
 |.shr,.c (.v (.int ki a)),.c (.v (.int _ b))=>Obl (0<=b) (k (.int ki (a.fdiv (2^(min b.toNat ki.bits)))))
 |.and,.c (.v (.int ki a)),.c (.v (.int kj b))=>(match decide (ki=kj)with|true=>k (.int ki (AL ki a b))|false=>False)
 |.or,.c (.v (.int ki a)),.c (.v (.int kj b))=>(match decide (ki=kj)with|true=>k (.int ki (orI ki a b))|false=>False)
 |.quo,.c (.v (.int ki a)),.c (.v (.int kj b))=>(match decide (ki=kj)with|true=>Obl (b≠0) (k (.int ki (ki.wrap (a.tdiv b))))|false=>False)
 |.rem,.c (.v (.int ki a)),.c (.v (.int kj b))=>(match decide (ki=kj)with|true=>Obl (b≠0) (k (.int ki (a.tmod b)))|false=>False)
 |.lss,.c (.v (.int ki a)),.c (.v (.int kj b))=>(match decide (ki=kj)with|true=>k (.bool (decide (a<b)))|false=>False)
 |.leq,.c (.v (.int ki a)),.c (.v (.int kj b))=>(match decide (ki=kj)with|true=>k (.bool (decide (a<=b)))|false=>False)
 |.gtr,.c (.v (.int ki a)),.c (.v (.int kj b))=>(match decide (ki=kj)with|true=>k (.bool (decide (a>b)))|false=>False)
 |.geq,.c (.v (.int ki a)),.c (.v (.int kj b))=>(match decide (ki=kj)with|true=>k (.bool (decide (a>=b)))|false=>False)
 |.eql,.c (.v (.int ki a)),.c (.v (.int kj b))=>(match decide (ki=kj)with|true=>k (.bool (decide (a=b)))|false=>False)
 |.neq,.c (.v (.int ki a)),.c (.v (.int kj b))=>(match decide (ki=kj)with|true=>k (.bool (!decide (a=b)))|false=>False)
 |.add,.c (.v (.string a)),.c (.v (.string b))=>Obl (a.size+b.size<=9223372036854775807) (k (.c (.v (.string (a++b)))))
 |.eql,.c (.v (.string a)),.c (.v (.string b))=>k (.bool (a.toList == b.toList))
 |.neq,.c (.v (.string a)),.c (.v (.string b))=>k (.bool (!(a.toList == b.toList)))
 |_,_,_=>False
def mD(fs:List (Nat×Nat×Bool)):List (Nat×List Cell)->List Cell->Option (List Cell)
 |[],z=>some z
 |(i,cs)::r,z=>match fs[i]? with
  |some (o,s,_)=>(match Nat.beq cs.length s,oK o cs z with
   |true,some z'=>mD fs r z'
   |_,_=>none)
  |_=>none
def EF(s:Nat):Nat->Nat->List (Nat×Nat×Bool)
 |0,_=>[]
 |n+1,o=>(o,s,false)::EF s n (o+s)
def oL(e:Env):List (Nat×Operand)->aZ->(List (Nat×List Cell)->aZ->Prop)->Prop
 |[],bx,k=>k [] []
 |(i,x)::r,bx,k=>match ae e x with
  |some v=>jQ bx v λv' f=>oL e r (ups f bx) λvs g=>k ((i,cellsOf v')::vs) (f++g)
  |none=>False
def yV(s:Nat):List (Nat×List Cell)->Nat->Option (List (List Cell))
 |[],0=>some []
 |(i,cs)::r,n+1=>match yV s r n with
  |some l=>cond (Nat.beq cs.length s) (some (cs::l)) none
  |none=>none
 |_,_=>none
def inOrder:Nat->List (Nat×Operand)->Bool
 |_,[]=>true
 |n,(i,_)::r=>cond (Nat.beq n i) (inOrder (n+1) r) false
def kX:Cell->Bool
 |.v (.int _ _)=>true
 |.v (.bool _)=>true
 |.v (.string _)=>true
 |_=>false
def lU:AV->Bool
 |.c x=>kX x
 |.agg cs=>cs.all kX
 |.tup vs=>vs.all λv=>match v with|.c x=>kX x|.agg cs=>cs.all kX|_=>false
 |_=>false
def Es:AV->Option Int
 |.c (.v (.int _ n))=>some n
 |_=>none
section
variable (D:FuncId->List AV->AV->Prop) (τ:Tab)
inductive CallP (f:FuncId) (xs:List AV) (k:AV->Prop):Prop where
 |mk (r:AV) (h:D f xs r) (hk:k r)
def afM:Value->Option FuncId
 |.func (.func f) a c=>(match a.toList,c.toList with|[],[]=>some f|_,_=>none)
 |_=>none
def Gg(e:Env)(x:Operand):Option (FuncId×List AV):=match ae e x with
 |some (.c (.v u))=>(match afM u with|some f=>some (f,[])|none=>none)
 |some (.c (.fn f cs))=>some (f,cs.map .c)
 |_=>none
def oQ:AV->Bool
 |.own _ _ _=>true
 |_=>false
@[reducible] def KK:Nat:=1000000
def nD(i:Nat):Nat->List AV->(List AV->aZ->Prop)->Prop
 |_,[],k=>k [] []
 |j,.own T s es::r,k=>nD i (j+KK) r λvs f=>k (.gs (i+j) es.length::vs) ((i+j,.grow T s es)::f)
 |j,v::r,k=>nD i (j+KK) r λvs f=>k (v::vs) f
def mV(d:Option Nat)(r:AV)(k:AV->aZ->Prop):Prop :=
 match r with
 |.own T s es=>(match d with|some i=>k (.gs i es.length) [(i,.grow T s es)]|none=>False)
 |.tup vs=>(match vs.any oQ with
  |false=>k (.tup vs) []
  |true=>(match d,Nat.ble vs.length 3 with|some i,true=>nD i KK vs λvs' f=>k (.tup vs') f|_,_=>False))
 |r=>k r []
inductive WH where
 |no
 |s (b n:Nat) (r:List AV)
 |nil (r:List AV)
def wrL:List AV->WH
 |.gs b n::r => .s b n r
 |.c (.v (.slice none 0 0))::r => .nil r
 |_ => .no
def KP:AV->Bool
 |.c _=>true
 |.agg _=>true
 |_=>false
def wL:AV->Bool
 |.tup vs=>vs.all KP
 |v=>KP v
def uG(b:Nat)(T:TypeId)(s:Nat)(k:AV->aZ->Prop)(r:AV):Prop :=
 match r with
 |.tup [.own T' s' es',v]=>(match Nat.beq T T',Nat.beq s s',wL v with|true,true,true=>k v [(b,.grow T s es')]|_,_,_=>False)
 |.tup [.rd [],v]=>(match wL v with|true=>k v [(b,.dead)]|false=>False)
 |_=>False
def zI(k:AV->aZ->Prop)(r:AV):Prop:=match wL r with|true=>k r []|false=>False
structure LenD (n:Nat) (p q:Prop):Prop where
 t:0<n->p
 f:n=0->q
theorem zae:type_of% @LenD.mk:=@LenD.mk
def wJ(f:FuncId)(b n:Nat)(vs:List AV)(bx:aZ)(k:AV->aZ->Prop):Prop :=
 match ld b bx with
 |some (.grow T s es)=>jU vs bx λa_s fz=>(match fz with
  |[]=>Obl (n=es.length) (LenD es.length (CallP D f (.own T s es::a_s) (uG b T s k)) (CallP D f (.c (.sl s es)::a_s) (zI k)))
  |_::_=>False)
 |_=>False
def wrF(f:FuncId):Bool:=match ld (WK+f) τ with|some .flag=>true|_=>false
def wrH(f:FuncId)(vs:List AV):WH:=match wrF τ f with|true=>wrL vs|false => .no
def Wn:Bool:=match ld OK τ with|some .flag=>true|_=>false
def UD:TI->Bool
 |.slice _ _ _ _=>true
 |_=>false
def Kr:AV->Option (Nat×Nat)
 |.gs b n=>some (b,n)
 |_=>none
def tN(b:Nat)(bx:aZ):Option Nat:=match ld b bx with
 |some (.grow _ _ es)=>some es.length
 |some (.froz _ es)=>some es.length
 |_=>none
def cellsAll:List AV->Option (List Cell)
 |[]=>some []
 |.c c::r=>(match cellsAll r with|some l=>some (c::l)|none=>none)
 |_=>none
def nU(fz g:aZ):Bool :=
 match g with
 |[]=>true
 |g=>!(fz.any λp=>g.any λq=>Nat.beq p.1 q.1)
def qI(r:AV)(fz:aZ):aZ:=match lU r with|true=>[]|false=>fz
def qA:List AV->Option (Nat×List AV)
 |.ptr i 0::r=>some (i,r)
 |_=>none
def LH(i:Nat)(k:AV->aZ->Prop)(r:AV):Prop :=
 match r with
 |.tup [.agg cs,v]=>(match lU v with|true=>k v [(i,.var cs)]|false=>False)
 |_=>False
def zG(i:Nat)(k:AV->aZ->Prop)(r:AV):Prop :=
 match r with
 |.tup [.gh G,v]=>(match KP v with|true=>k v [(i,.gh G)]|false=>False)
 |_=>False
def Dl(f:FuncId)(i:Nat)(vs:List AV)(bx:aZ)(k:AV->aZ->Prop):Prop :=
 match ld i bx with
 |some (.gh G)=>jU vs bx λa_s fz=>(match fz with
  |[]=>CallP D f (.gh G::a_s) (zG i k)
  |_::_=>False)
 |some (.var cs)=>jU vs bx λa_s fz=>(match fz with
  |[]=>CallP D f (.tup [.agg cs]::a_s) (LH i k)
  |_::_=>False)
 |_=>False
def aif:Bool:=match ld (OK+1) τ with|some .flag=>true|_=>false
def yj(bx:aZ)(v:AV)(k:List Cell->Prop):Prop :=
 match v with
 |.c (.v (.slice none 0 0))=>k [.sl 0 []]
 |.c x=>k [x]
 |.agg cs=>k cs
 |.gs b n=>(match tN b bx with|some m=>Obl (n=m) (k [.ob b n])|none=>False)
 |_=>False
def tC(e:Env)(bx:aZ):List (Nat×Operand)->(List (Nat×List Cell)->Prop)->Prop
 |[],k=>k []
 |(i,x)::r,k=>match ae e x with
  |some v=>yj bx v λcs=>tC e bx r λvs=>k ((i,cs)::vs)
  |none=>False
def wG:Option AV->Option (List Cell)
 |some (.ago cs)=>some cs
 |_=>none
def D6:Operand->Bool
 |.const (.slice none 0 0)=>true
 |_=>false
def ajF:Bool:=match ld (OK+2) τ with|some .flag=>true|_=>false
def nilA(o:Oper)(x:Operand):Option (Nat×TypeId×Nat) :=
 match D6 x with
 |true=>(match ajF τ,ld o.type τ,o.dst with
  |true,some (.slice T s _ _),some d=>some (d,T,s)
  |_,_,_=>none)
 |false=>none
def bZ(o:Oper)(e:Env)(bx:aZ)(k:AV->aZ->Prop):Prop :=
 match o.op with
 |.move x=>(match ae e x with|some v=>k v []|none=>False)
 |.assign x=>(match nilA τ o x with
  |some (d,T,s)=>k (.gs d 0) [(d,.grow T s [])]
  |none=>(match ae e x with|some v=>k v []|none=>False))
 |.pick c a b=>(match ae e c with
  |some (.c (.v (.bool p)))=>OnB p λq=>(match ae e (cond q a b)with|some v=>k v []|none=>False)
  |_=>False)
 |.alloc t=>(match ld t τ,o.dst with
  |some ti,some d=>(match Lu ti with|true=>k (.ptr d 0) [(d,.var (zeroCells ti))]|false=>False)
  |_,_=>False)
 |.box t x=>(match o.dst,ae e x with
  |some d,some v=>jQ bx v λv' f=>(match f.any λp=>Nat.beq p.1 d with|false=>k (.ptr d 0) (f++[(d,.var (cellsOf v'))])|true=>False)
  |_,_=>False)
 |.load t x=>(match ld t τ,ae e x with
  |some ti,some (.ptr b off)=>(match ld b bx with
   |some (.var cs)=>(match jd ti (dU off cs)with|some v=>k v []|none=>False)
   |some (.fvar cs)=>(match jd ti (dU off cs)with|some v=>k v []|none=>False)
   |some (.varo cs)=>uJ ti (dU off cs) bx k
   |_=>False)
  |some ti,some (.rd cs)=>(match jd ti cs with|some v=>k v []|none=>False)
  |some ti,some (.c (.p cs))=>(match jd ti cs with|some v=>k v []|none=>False)
  |some ti,some (.gp g off)=>(match ld (GK+g) τ with
   |some (.glob _ cs)=>(match jd ti (dU off cs)with|some v=>k v []|none=>False)
   |_=>False)
  |some ti,some (.pe b n i off)=>(match ld b bx with
   |some (.grow _ s es)=>Obl (n=es.length) (Elem es (i:Nat) λcs=>(match jd ti (dU off cs)with|some v=>k v []|none=>False))
   |some (.froz s es)=>Obl (n=es.length) (Elem es (i:Nat) λcs=>(match jd ti (dU off cs)with|some v=>k v []|none=>False))
   |_=>False)
  |_,_=>False)
 |.store t x y=>(match wG (ae e y)with
  |some ds=>(match ld t τ,ae e x with
   |some ti,some (.ptr b off)=>(match ld b bx with
    |some (.var cs)=>(match szB ti ds.length,oK off ds cs with|true,some cs'=>k .any [(b,.varo cs')]|_,_=>False)
    |_=>False)
   |_,_=>False)
  |none=>(match ld t τ,ae e x,ae e y with
  |some ti,some (.ptr b off),some v=>(match ld b bx with
   |some (.var cs)=>(match Wn τ,UD ti,Kr v with
    |true,true,some (b',n)=>(match tN b' bx,oK off [.ob b' n] cs with|some m,some cs'=>Obl (n=m) (k .any [(b,.varo cs')])|_,_=>False)
    |_,_,_=>jQ bx v λv' f=>(match f.any (λp=>Nat.beq p.1 b),szB ti (cellsOf v').length,oK off (cellsOf v') cs with|false,true,some cs'=>k .any (f++[(b,.var cs')])|_,_,_=>False))
   |some (.varo cs)=>(match UD ti,Kr v with
    |true,some (b',n)=>(match tN b' bx,oK off [.ob b' n] cs with|some m,some cs'=>Obl (n=m) (k .any [(b,.varo cs')])|_,_=>False)
    |_,_=>jQ bx v λv' f=>(match f.any (λp=>Nat.beq p.1 b),szB ti (cellsOf v').length,oK off (cellsOf v') cs with|false,true,some cs'=>k .any (f++[(b,.varo cs')])|_,_,_=>False))
   |_=>False)
  |some ti,some (.pe b n i off),some v=>(match ld b bx with
   |some (.grow T s es)=>jQ bx v λv' f=>(match f with
    |[]=>Obl (n=es.length) (Elem es (i:Nat) λcs=>(match szB ti (cellsOf v').length,oK off (cellsOf v') cs with|true,some cs'=>k .any [(b,.grow T s (es.set i cs'))]|_,_=>False))
    |_=>False)
   |_=>False)
  |_,_,_=>False))
 |.fieldAddr t x i=>(match ld t τ with
  |some (.row _ fs _)=>(match fs[i]?,ae e x with
   |some (off,_,_),some (.ptr b o')=>k (.ptr b (o'+off)) []
   |some (off,_,_),some (.pe b n j o')=>(match ld b bx with
    |some (.grow _ _ es)=>Obl (n=es.length) (k (.pe b n j (o'+off)) [])
    |some (.froz _ es)=>Obl (n=es.length) (k (.pe b n j (o'+off)) [])
    |_=>False)
   |some (off,_,_),some (.rd cs)=>k (.rd (dU off cs)) []
   |some (off,_,_),some (.c (.p cs))=>k (.rd (dU off cs)) []
   |some (off,_,_),some (.gp g o')=>k (.gp g (o'+off)) []
   |_,_=>False)
  |_=>False)
 |.field t x i=>(match ld t τ with
  |some (.row _ fs _)=>(match fs[i]?,ae e x with
   |some (off,s,agg),some (.agg cs)=>(match takeN s (dU off cs)with
    |some l=>(match agg with
     |true=>k (.agg l) []
     |false=>(match l with|c::_=>k (.c c) []|[]=>False))
    |none=>False)
   |_,_=>False)
  |_=>False)
 |.indexAddr t x y=>(match ld t τ,ae e x,ae e y with
  |some (.slice _ s _ _),some (.c (.sl s' es)),some (.c (.v (.int _ i)))=>(match Nat.beq s s' with
   |true=>Elem es i λcs=>k (.rd cs) []
   |false=>False)
  |some (.slice _ s _ _),some (.gs b n),some (.c (.v (.int _ i)))=>(match ld b bx with
   |some (.grow _ s' es)=>(match Nat.beq s s' with
    |true=>Obl (n=es.length) (Elem es i λ_=>k (.pe b n i.toNat 0) [])
    |false=>False)
   |some (.froz s' es)=>(match Nat.beq s s' with
    |true=>Obl (n=es.length) (Elem es i λcs=>k (.rd cs) [])
    |false=>False)
   |_=>False)
  |some (.arr n s _ _),some (.ptr b o'),some (.c (.v (.int _ (.ofNat i))))=>(match Nat.blt i n with
   |true=>k (.ptr b (o'+i*s)) []
   |false=>False)
  |some (.arr n s _ _),some (.gp g o'),some (.c (.v (.int _ (.ofNat i))))=>(match Nat.blt i n with
   |true=>k (.gp g (o'+i*s)) []
   |false=>False)
  |some (.arr n s _ _),some (.rd cs),some (.c (.v (.int _ (.ofNat i))))=>(match Nat.blt i n with
   |true=>k (.rd (dU (i*s) cs)) []
   |false=>False)
  |some (.arr n s _ _),some (.c (.p cs)),some (.c (.v (.int _ (.ofNat i))))=>(match Nat.blt i n with
   |true=>k (.rd (dU (i*s) cs)) []
   |false=>False)
  |some (.arr n s _ _),some (.pe b m j o'),some (.c (.v (.int _ (.ofNat i))))=>(match Nat.blt i n,ld b bx with
   |true,some (.grow _ _ es)=>Obl (m=es.length) (k (.pe b m j (o'+i*s)) [])
   |true,some (.froz _ es)=>Obl (m=es.length) (k (.pe b m j (o'+i*s)) [])
   |_,_=>False)
  |_,_,_=>False)
 |.index t x y=>(match ld t τ,ae e x,ae e y with
  |some .str,some (.c (.v (.string s))),some (.c (.v (.int _ i)))=>StrAt s i λc=>k (.int .u8 c) []
  |_,_,_=>False)
 |.extract x i=>(match ae e x with
  |some (.tup vs)=>(match vs[i]? with|some v=>k v []|none=>False)
  |_=>False)
 |.binOp op t x y u=>(match ae e x,ae e y with
  |some (.c (.v (.bool p))),some (.c (.v (.bool q)))=>(match ld t τ,op with
   |some .bool,.eql=>k (.bool (p == q)) []
   |some .bool,.neq=>k (.bool (p != q)) []
   |_,_=>False)
  |some (.agg cs),some (.agg ds)=>(match uz t τ,op with
   |some ks,.eql=>(match ZF ks cs ds with|some q=>k (.bool q) []|none=>False)
   |some ks,.neq=>(match ZF ks cs ds with|some q=>k (.bool (!q)) []|none=>False)
   |_,_=>False)
  |some a,some b=>DT op a b λv=>k v []
  |_,_=>False)
 |.unOp .not t x=>(match ae e x with|some (.c (.v (.bool b)))=>k (.bool (!b)) []|_=>False)
 |.unOp .neg t x=>(match ae e x with|some (.c (.v (.int ki n)))=>k (.int ki (ki.wrap (0-n))) []|_=>False)
 |.convert src dst x=>(match ld src τ,ld dst τ,ae e x with
  |some (.int _),some (.int ki),some (.c (.v (.int _ n)))=>k (.int ki (ki.wrap n)) []
  |some .str,some (.slice T s _ _),some (.c (.v (.string b)))=>(match ld T τ,Nat.beq s 1 with
   |some (.int .u8),true=>Obl (b.size<=1000000) (k (.c (.sl 1 (zq b))) [])
   |_,_=>False)
  |some (.int _),some .str,some (.c (.v (.int _ n)))=>k (.c (.v (.string (Utf8.encode n)))) []
  |_,_,_=>False)
 |.build t ps=>(match ld t τ with
  |some (.row _ fs z)=>(match aif τ with
   |true=>tC e bx ps.toList λvs=>(match mD fs vs z with|some cs=>k (.ago cs) []|none=>False)
   |false=>oL e ps.toList bx λvs f=>(match mD fs vs z with|some cs=>k (.agg cs) f|none=>False))
  |some (.arr n s _ z)=>oL e ps.toList bx λvs f=>(match mD (EF s n 0) vs z with|some cs=>k (.agg cs) f|none=>False)
  |_=>False)
 |.buildSlice t n ps=>(match ld t τ,inOrder 0 ps.toList with
  |some (.slice T s _ _),true=>oL e ps.toList bx λvs f=>(match yV s vs n,Nat.ble (n*s) 16777216 with
   |some es,true=>(match Wn τ||Nat.beq n 0 with
    |true=>(match o.dst with
     |some d=>(match f.any λp=>Nat.beq p.1 d with|false=>k (.gs d n) (f++[(d,.grow T s es)])|true=>False)
     |none=>False)
    |false=>k (.c (.sl s es)) f)
   |_,_=>False)
  |_,_=>False)
 |.makeSlice t x y=>(match ld t τ,ae e x,ae e y,o.dst with
  |some (.slice T s by_ z),some (.c (.v (.int _ l))),some (.c (.v (.int _ c))),some d=>MkS l c by_ λn=>k (.gs d n) [(d,.grow T s (List.replicate n z))]
  |_,_,_,_=>False)
 |.slice t x lo hi mx=>(match ld t τ,ae e x,vW e lo,vW e hi,vW e mx with
  |some (.slice _ s _ _),some (.c (.sl s' es)),some lo,some hi,some mx=>(match Nat.beq s s' with
   |true=>SlP es.length lo hi mx λa b=>k (.c (.sl s ((es.take b).drop a))) []
   |false=>False)
  |some (.slice _ s _ _),some (.gs b n),some lo,some hi,some mx=>jQ bx (.gs b n) λv f=>(match v with
   |.c (.sl s' es)=>(match Nat.beq s s' with
    |true=>SlP es.length lo hi mx λa b=>k (.c (.sl s ((es.take b).drop a))) f
    |false=>False)
   |_=>False)
  |some .str,some (.c (.v (.string s))),some lo,some hi,some none=>SlP s.size lo hi none λa b=>k (.c (.v (.string (s.extract a b)))) []
  |some (.arr n s _ _),some (.ptr b 0),some none,some none,some none=>(match ld b bx,Nat.ble n 1048576,Nat.blt 0 s with
   |some (.var cs),true,true=>(match chunk s n cs with|some es=>k (.c (.sl s es)) [(b,.dead)]|none=>False)
   |_,_,_=>False)
  |some (.slice _ s _ _),some (.c (.v (.slice none 0 0))),some lo,some hi,some mx=>SlP 0 lo hi mx λ_ _=>k (.c (.v (.slice none 0 0))) []
  |_,_,_,_,_=>False)
 |.nilCheck x=>(match ae e x with
  |some (.ptr b o)=>k (.ptr b o) []
  |some (.rd cs)=>k (.rd cs) []
  |some (.c (.p cs))=>k (.c (.p cs)) []
  |some (.gp g o')=>k (.gp g o') []
  |_=>False)
 |.makeFunc fn first captured=>(match fn,first.toList,je (λx=>ae e x) captured.toList with
  |.func g,[],some vs=>jU vs bx λa_s f=>(match cellsAll a_s with|some cs=>k (.c (.fn g cs)) f|none=>False)
  |_,_,_=>False)
 |.call c=>(match c.callee,je (λx=>ae e x) c.args.toList with
  |.value x,some vs=>(match Gg e x,qA vs with
   |some (f,cap),none=>(match wrH τ f vs with
    |.s b n r=>wJ D f b n (r++cap) bx k
    |.nil r=>jU (r++cap) bx λa_s fz=>CallP D f (.c (.v (.slice none 0 0))::a_s) λr=>mV o.dst r λv g=>(match nU fz g with|true=>k v (qI r fz++g)|false=>False)
    |.no=>jU (vs++cap) bx λa_s fz=>CallP D f a_s λr=>mV o.dst r λv g=>(match nU fz g with|true=>k v (qI r fz++g)|false=>False))
   |some (f,cap),some (i,r)=>Dl D f i (r++cap) bx k
   |none,_=>False)
  |.builtin .len,some [.c (.sl _ es)]=>(match c.argTypes.toList with
   |[t]=>(match ld t τ with|some (.slice _ _ _ _)=>k (.int .i64 (es.length:Nat)) []|_=>False)
   |_=>False)
  |.builtin .len,some [.c (.v (.string s))]=>(match c.argTypes.toList with
   |[t]=>(match ld t τ with|some .str=>k (.int .i64 (s.size:Nat)) []|_=>False)
   |_=>False)
  |.builtin .len,some [.gs b n]=>(match c.argTypes.toList,ld b bx with
   |[t],some (.grow _ s es)=>(match ld t τ with|some (.slice _ _ _ _)=>Obl (n=es.length) (k (.int .i64 (es.length:Nat)) [])|_=>False)
   |[t],some (.froz s es)=>(match ld t τ with|some (.slice _ _ _ _)=>Obl (n=es.length) (k (.int .i64 (es.length:Nat)) [])|_=>False)
   |_,_=>False)
  |.builtin .len,some [.c (.v (.slice none 0 0))]=>(match c.argTypes.toList with
   |[t]=>(match ld t τ with|some (.slice _ _ _ _)=>k (.int .i64 ((0:Nat):Int)) []|_=>False)
   |_=>False)
  |.builtin .append,some [x,y]=>(match c.argTypes.toList with
   |[t,t']=>(match Nat.beq t t',ld t τ with
    |true,some (.slice T s by_ _)=>(match y with
     |.gs c m=>(match x with
      |.gs b n=>jQ bx (.gs c m) λv f=>(match v,ld b bx,Nat.beq b c with
       |.c (.sl s' es'),some (.grow T' s'' es),false=>(match Nat.beq T T',Nat.beq s s'',Nat.beq s s' with
        |true,true,true=>Obl (n=es.length) (Obl ((es++es').length*(by_+1)<=140737488355328) (k (.gs b (es++es').length) (f++[(b,.grow T s (es++es'))])))
        |_,_,_=>False)
       |_,_,_=>False)
      |.c (.v (.slice none 0 0))=>jQ bx (.gs c m) λv f=>(match v,o.dst with
       |.c (.sl s' es'),some d=>(match Nat.beq s s',f.any (λp=>Nat.beq p.1 d)with
        |true,false=>Obl (es'.length*(by_+1)<=140737488355328) (k (.gs d es'.length) (f++[(d,.grow T s es')]))
        |_,_=>False)
       |_,_=>False)
      |_=>False)
     |.c (.v (.slice none 0 0))=>(match x with
      |.c (.v (.slice none 0 0))=>(match o.dst with
       |some d=>k (.gs d 0) [(d,.grow T s [])]
       |none=>False)
      |.gs b n=>(match ld b bx with
       |some (.grow T' s'' es)=>(match Nat.beq T T',Nat.beq s s'' with
        |true,true=>Obl (n=es.length) (Obl ((es++[]).length*(by_+1)<=140737488355328) (k (.gs b (es++[]).length) [(b,.grow T s (es++[]))]))
        |_,_=>False)
       |_=>False)
      |_=>False)
     |.c (.sl s' es')=>(match Nat.beq s s' with
      |true=>(match x with
       |.c (.v (.slice none 0 0))=>(match o.dst with
        |some d=>Obl (es'.length*(by_+1)<=140737488355328) (k (.gs d es'.length) [(d,.grow T s es')])
        |none=>False)
       |.gs b n=>(match ld b bx with
        |some (.grow T' s'' es)=>(match Nat.beq T T',Nat.beq s s'' with
         |true,true=>Obl (n=es.length) (Obl ((es++es').length*(by_+1)<=140737488355328) (k (.gs b (es++es').length) [(b,.grow T s (es++es'))]))
         |_,_=>False)
        |_=>False)
       |_=>False)
      |false=>False)
     |_=>False)
    |_,_=>False)
   |_=>False)
  |.builtin .min,some vs=>(match je Es vs,vs with
   |some (a::r),(.c (.v (.int ki _))::_)=>k (.int ki (r.foldl (λx y=>if y<x then y else x) a)) []
   |_,_=>False)
  |.builtin .max,some vs=>(match je Es vs,vs with
   |some (a::r),(.c (.v (.int ki _))::_)=>k (.int ki (r.foldl (λx y=>if y>x then y else x) a)) []
   |_,_=>False)
  |_,_=>False)
 |_=>False
def wz:List AV->List Nat
 |[]=>[]
 |.gs b _::r=>b::wz r
 |_::r=>wz r
def dY:AV->List Nat
 |.ptr b _=>[b]
 |.pe b _ _ _=>[b]
 |.gs b _=>[b]
 |.tup vs=>wz vs
 |.ago cs=>lJ cs
 |_=>[]
def DF:Op->Bool
 |.alloc _|.box _ _|.makeSlice _ _ _|.buildSlice _ _ _=>true
 |.assign x=>D6 x
 |.call c=>match c.callee with|.builtin .append=>true|.value _=>true|_=>false
 |_=>false
def wQ:Op->Bool
 |.call c=>match c.callee with|.value _=>true|_=>false
 |_=>false
def qN(o:Oper):List Nat:=match DF o.op,o.dst with
 |true,some d=>(match wQ o.op with|true=>[d,d+KK,d+(KK+KK),d+(KK+KK+KK)]|false=>[d])
 |_,_=>[]
def jE(ids:List Nat):aZ->Bool
 |[]=>false
 |(_,.varo cs)::r=>(lJ cs).any (λb=>ids.elem b)||jE ids r
 |_::r=>jE ids r
def kill(ids:List Nat)(e:Env):Env:=e.map λp=>cond ((dY p.2).any λb=>ids.elem b) (p.1,.any) p
def mention(ids:List Nat)(e:Env):Bool:=e.any λp=>(dY p.2).any λb=>ids.elem b
def yF(o:Oper)(v:AV)(e:Env):Env :=
 match o.dst with
 |some t=>(match qN o with
  |[]=>(t,v)::e
  |ids=>(match mention ids e with|true=>(t,v)::kill ids e|false=>(t,v)::e))
 |none=>e
def xH(o:Oper)(v:AV)(e:Env):Env:=match o.dst with|some t=>(t,v)::e|none=>e
def afb(o:Oper)(v:AV)(e:Env)(k:Env->Prop):Prop :=
 match o.dst with
 |some t=>(match qN o with
  |[]=>k ((t,v)::e)
  |ids=>(match mention ids e with|true=>k ((t,v)::kill ids e)|false=>k ((t,v)::e)))
 |none=>k e
def apK(o:Oper)(v:AV)(e:Env)(k:Env->Prop):Prop:=match o.dst with|some t=>k ((t,v)::e)|none=>k e
def upK(t:Nat)(x:Bk):aZ->(aZ->Prop)->Prop
 |[],k=>k [(t,x)]
 |(s,v)::r,k=>match Nat.beq s t with|true=>k ((s,x)::r)|false=>upK t x r λr'=>k ((s,v)::r')
def Xr:aZ->aZ->(aZ->Prop)->Prop
 |[],l,k=>k l
 |(t,x)::r,l,k=>upK t x l λl'=>Xr r l' k
theorem yA(o:Oper)(v:AV)(e:Env)(k:Env->Prop):afb o v e k=k (yF o v e):=by
 unfold afb yF;cases o.dst with
 |none=>rfl
 |some t =>
  simp only;cases qN o with
  |nil=>rfl
  |cons i r=>simp only;cases mention (i::r) e<;>rfl
theorem NY(o:Oper)(v:AV)(e:Env)(k:Env->Prop):apK o v e k=k (xH o v e):=by
 unfold apK xH;cases o.dst<;>rfl
theorem Nr(t:Nat)(x:Bk):∀(l:aZ) (k:aZ->Prop),upK t x l k=k (up t x l)
 |[],k=>rfl
 |(s,v)::r,k=>by
  simp only[upK,up];cases Nat.beq s t with
  |true=>rfl
  |false=>simp only[cond_false];rw[Nr t x r]
theorem oI:∀(f l:aZ) (k:aZ->Prop),Xr f l k=k (ups f l)
 |[],l,k=>rfl
 |(t,x)::r,l,k=>by simp only[Xr,ups];rw[Nr,oI r]
def o9(O:List Oper)(j:Nat):Option Nat:=match O[j]? with|some o=>o.dst|none=>none
def kD(e:Env)(x:Operand):List Nat:=match ae e x with|some v=>dY v|none=>[]
def passes:Op->Bool
 |.move _|.assign _|.pick _ _ _|.fieldAddr _ _ _|.extract _ _=>true
 |_=>false
def tZ(o:Oper)(e:Env):List Nat:=o.op.operands.toList.flatMap (kD e)
def aey:AV->List Nat
 |.pe b _ _ _=>[b]
 |_=>[]
def YF(b:aZ)(i:Nat):List Nat:=match ld i b with|some (.varo cs)=>lJ cs|_=>[]
def kV(o:Oper)(e:Env)(b:aZ):List Nat:=match o.op with|.load _ _=>(tZ o e).flatMap (YF b)|_=>[]
def tY(o:Oper)(e:Env)(b:aZ):List Nat:=cond (passes o.op) (o.op.operands.toList.flatMap λx=>match ae e x with|some v=>aey v|none=>[]) (tZ o e++kV o e b)
def U1(o:Oper)(e:Env)(b:aZ)(v:AV):List Nat :=
 match o.op,v with
 |.load _ _,.gs _ _=>tZ o e
 |.call ⟨.builtin .len,_,_⟩,_=>[]
 |_,_=>tY o e b
structure Lg where
 mn:List Nat
 rd:List Nat
 wr:List Nat
 al:List Nat
def Tm:aZ->List Nat
 |[]=>[]
 |(_,.varo cs)::r=>lJ cs++Tm r
 |_::r=>Tm r
def IX(o:Oper)(e:Env)(b:aZ)(v:AV)(f:aZ):Lg:=⟨tZ o e++(dY v).filter (λi=>!((qN o).elem i))++Tm f,U1 o e b v,f.map (·.1),qN o⟩
def NB(ids:List Nat)(b:aZ)(p:Prop):Prop :=
 match ids with
 |[]=>p
 |ids=>(match jE ids b with|false=>p|true=>False)
def Eb(O:List Oper)(o:Oper)(e:Env)(b:aZ)(k:Env->AV->aZ->Lg->Prop):Prop :=
 match o.guard with
 |none=>NB (qN o) b (bZ D τ o e b λv f=>k e v f (IX o e b v f))
 |some (j,want)=>match o9 O j with
  |some t=>(match ld t e with
   |some (.c (.v (.bool p)))=>OnB p λq=>(match q == want with
    |true=>NB (qN o) b (bZ D τ o ((t,.bool q)::e) b λv f=>k ((t,.bool q)::e) v f (IX o ((t,.bool q)::e) b v f))
    |false=>k ((t,.bool q)::e) .bad [] ⟨[],[],[],[]⟩)
   |some .bad=>k e .bad [] ⟨[],[],[],[]⟩
   |_=>False)
  |none=>False
def wo(O:List Oper):List Oper->Env->aZ->(Env->aZ->Prop)->Prop
 |[],e,b,k=>k e b
 |o::r,e,b,k=>Eb D τ O o e b λe v f _=>afb o v e λe=>Xr f b λb=>wo O r e b k
def Ez(O:List Oper):List Oper->Env->aZ->List Lg->(Env->aZ->List Lg->Prop)->Prop
 |[],e,b,lg,k=>k e b lg
 |o::r,e,b,lg,k=>Eb D τ O o e b λe v f l=>apK o v e λe=>Xr f b λb=>Ez O r e b (lg++[l]) k
def kZ:List Oper->List Nat->List Nat
 |[],acc=>acc
 |o::r,acc=>kZ r (acc++[o.after.toList.foldl (λm e=>cond (Region.binds .any e) (m ||| 2^e.on ||| acc.getD e.on 0) m) 0])
def apart(a b:Lg):Bool :=
 !((a.rd.any λx=>b.wr.elem x) ||(a.wr.any λx=>b.rd.elem x||b.wr.elem x) ||(a.al.any λx=>b.mn.elem x))
def adl(O:List Oper)(lg:List Lg):Bool :=
 let hs:=kZ O []
 (List.range lg.length).all λj=>(List.range j).all λi=>match lg[i]?,lg[j]? with
  |some a,some b=>!(b.al.any λx=>a.mn.elem x||a.al.elem x)&&(Nat.testBit (hs.getD j 0) i||apart a b)
  |_,_=>false
def ZB(O:List Oper):List Nat:=O.flatMap qN
def prep(O:List Oper)(e:Env):Env:=match mention (ZB O) e with|true=>kill (ZB O) e|false=>e
def Yb(O:List Oper)(e:Env)(k:Env->Prop):Prop:=match mention (ZB O) e with|true=>k (kill (ZB O) e)|false=>k e
theorem CY(O:List Oper)(e:Env)(k:Env->Prop):Yb O e k=k (prep O e):=by unfold Yb prep;cases mention (ZB O) e<;>rfl
structure Drw (p:Bool) (k:Prop):Prop where
 ok:p=true
 k:k
theorem zac:type_of% @Drw.mk:=@Drw.mk
def Ee(dr:Bool)(O:List Oper)(e:Env)(b:aZ)(k:Env->aZ->Prop):Prop :=
 match dr with
 |false=>wo D τ O O e b k
 |true=>NB (ZB O) b (Yb O e λe=>Ez D τ O O e b [] λe b lg=>Drw (adl O lg) (k e b))
inductive Ex where
 |normal
 |ret
 |exit (id:Nat)
def SubE:Env->Env->Prop
 |[],_=>True
 |(t,v)::r,e=>ld t e=some v/\SubE r e
def SubB:aZ->aZ->Prop
 |[],_=>True
 |(t,v)::r,e=>ld t e=some v/\SubB r e
def WL(F:(Ex->Env->aZ->Prop)->Env->aZ->Prop)(Q:Ex->Env->aZ->Prop)(e:Env)(b:aZ):Prop :=
 ∀I:Env->aZ->Prop,(∀e b,F (λx e b=>match x with|.normal=>I e b|x=>Q x e b) e b->I e b)->(∀e b e' b',I e b->SubE e e'->SubB b b'->I e' b') ->
  (∀e b t i T s,I ((t,.gs i 0)::e) ((i,.grow T s [])::b)->ld t e=some (.c (.v (.slice none 0 0)))->mention [i] e=false->ld i b=none->0<s->jE [i] b=false->I e b)->I e b
structure Loop (F:(Ex->Env->aZ->Prop)->Env->aZ->Prop) (Q:Ex->Env->aZ->Prop) (e:Env) (b:aZ):Prop where
 wl:WL F Q e b
@[reducible] def FK:Nat:=5000000000
def preS(id:Nat):Env->Option Nat
 |[]=>none
 |(t,.gs _ _)::r=>(match ld (FK+(id*1000+t+1)) τ with|some .flag=>some t|_=>preS id r)
 |_::r=>preS id r
def aej(id:Nat)(e:Env):Option (Nat×Nat×Nat):=match ld FK τ with
 |some .flag=>(match preS τ id e with
  |some t=>(match ld t e with|some (.gs i n)=>some (t,i,n)|_=>none)
  |none=>none)
 |_=>none
def nH:Code->(Ex->Env->aZ->Prop)->Env->aZ->Prop
 |.skip,Q,e,b=>Q .normal e b
 |.region id ops dr,Q,e,b=>(match aej τ id e with
  |none=>Ee D τ dr ops.toList e b (Q .normal)
  |some (t,i,n)=>jQ b (.gs i n) λv f=>Ee D τ dr ops.toList ((t,v)::e) (ups f b) (Q .normal))
 |.seq x y,Q,e,b=>nH x (λz e b=>match z with|.normal=>nH y Q e b|z=>Q z e b) e b
 |.cond c x y,Q,e,b=>(match ae e c with
  |some (.c (.v (.bool p)))=>OnB p λq=>(match q with|true=>nH x Q e b|false=>nH y Q e b)
  |_=>False)
 |.block id x,Q,e,b=>nH x (λz e b=>match z with|.exit i=>(match Nat.beq i id with|true=>Q .normal e b|false=>Q (.exit i) e b)|z=>Q z e b) e b
 |.loop x,Q,e,b=>Loop (nH x) Q e b
 |.exit id,Q,e,b=>Q (.exit id) e b
 |.ret,Q,e,b=>Q .ret e b
 |_,_,_,_=>False
def uM:Nat->List AV->Env
 |_,[]=>[]
 |i,v::r=>(i,v)::uM (i+1) r
def IK(e:Env)(b:aZ)(r:ResultVar)(k:AV->Prop):Prop :=
 match r with
 |.tmp t=>(match ld t e with|some v=>jQ b v λv' _=>k v'|none=>False)
 |.cell a t=>(match ld t τ,ld a e with
  |some ti,some (.ptr i 0)=>(match ld i b with|some (.var cs)=>(match jd ti cs with|some v=>k v|none=>False)|_=>False)
  |_,_=>False)
def CP(e:Env)(b:aZ):List ResultVar->(List AV->Prop)->Prop
 |[],k=>k []
 |r::l,k=>IK τ e b r λv=>CP e b l λvs=>k (v::vs)
def aW:List AV->AV
 |[v]=>v
 |vs => .tup vs
structure Ends (r:AV) (r':AV):Prop where
 eq:r'=r
theorem zaa:type_of% @Ends.mk:=@Ends.mk
def Ai(e:Env):List ResultVar->List (Option (TypeId×Nat))->aZ->(List (Option AV)->aZ->Prop)->Prop
 |[],[],b,k=>k [] b
 |.tmp t::l,some (T,s)::r,b,k=>(match ld t e with
  |some (.gs i n)=>(match ld i b with
   |some (.grow T' s' es)=>(match Nat.beq T T',Nat.beq s s' with
    |true,true=>Obl (n=es.length) (upK i .dead b λb'=>Ai e l r b' λvs b=>k (some (.own T s es)::vs) b)
    |_,_=>False)
   |_=>False)
  |some (.c (.v (.slice none 0 0)))=>(match Nat.blt 0 s with|true=>Ai e l r b λvs b=>k (some (.own T s [])::vs) b|false=>False)
  |_=>False)
 |_::l,none::r,b,k=>Ai e l r b λvs b=>k (none::vs) b
 |_,_,_,_=>False
def OO(e:Env)(b:aZ):List ResultVar->List (Option AV)->(List AV->Prop)->Prop
 |[],[],k=>k []
 |_::l,some v::vs,k=>OO e b l vs λus=>k (v::us)
 |r::l,none::vs,k=>IK τ e b r λv=>OO e b l vs λus=>k (v::us)
 |_,_,_=>False
def Hz(fn:Func)(os:List (Option (TypeId×Nat)))(r:AV):Ex->Env->aZ->Prop
 |.ret,e,b=>Ai e fn.results.toList os b λvs b=>OO τ e b fn.results.toList vs λus=>Ends r (aW us)
 |_,_,_=>False
def EJ(fn:Func)(r:AV):Ex->Env->aZ->Prop
 |.ret,e,b=>CP τ e b fn.results.toList λvs=>Ends r (aW vs)
 |.normal,e,b=>(match fn.results.toList with|[]=>Ends r (.tup [])|_=>False)
 |_,_,_=>False
def oC(O:List Oper)(o:Oper):List Nat:=(o.op.operands.toList.flatMap λx=>match x with|.tmp t=>[t]|_=>[])++(match o.guard with|some (j,_)=>(o9 O j).toList|none=>[])
def PD(O:List Oper):Bool :=
 let hs:=kZ O []
 (List.range O.length).all λj=>(List.range j).all λi=>Nat.testBit (hs.getD j 0) i ||(match O[i]?,O[j]? with
  |some a,some b=>(match a.dst with|some t=>!((oC O b).elem t)&&(match b.dst with|some s=>!(Nat.beq t s)|none=>true)|none=>true)&&(match b.dst with|some s=>!((oC O a).elem s)|none=>true)
  |_,_=>false)
class Kp where
 l:List (Nat×Value)
 h:List (Nat×Obj)
instance(priority:=low) kp0:Kp:=⟨[],[]⟩
def zn[Kp](d:Nat):Bool:=Kp.l.all λp=>!(Nat.beq p.1 d)
def pU[Kp](N:Nat)(O:List Oper):Bool:=O.all λo=>match o.dst with|some d=>Nat.blt d N&&zn d|none=>true
def fV[Kp](N:Nat):Code->Bool
 |.region _ ops dr=>pU N ops.toList&&(!dr ||(Uc ops.toList&&PD ops.toList))
 |.seq x y=>fV N x&&fV N y
 |.cond _ x y=>fV N x&&fV N y
 |.block _ x=>fV N x
 |.loop x=>fV N x
 |_=>true
end
inductive RepC (w:World) (X:List Nat):Value->Cell->Prop where
 |v (u:Value) (h:u.oneCell'=true):RepC w X u (.v u)
 |sl (A:Option Addr) (n cap s:Nat) (uss:List (List Value)) (es:List (List Cell)) (hn:n=es.length) (hu:uss.length=es.length)
  (hc:Cl w X A uss.flatten) (hcap:n<=cap) (hmx:cap<=9223372036854775807)
  (hs:∀(i:Nat) us e,uss[i]?=some us->es[i]?=some e->us.length=s/\e.length=s)
  (hr:∀(i:Nat) us e,uss[i]?=some us->es[i]?=some e->∀(j:Nat) u c,us[j]?=some u->e[j]?=some c->RepC w X u c) :
  RepC w X (.slice A n cap) (.sl s es)
 |p (g o:Nat) (us:List Value) (cs:List Cell) (hl:us.length=cs.length) (hc:Cl w X (some ⟨g,o,none⟩) us) (hr:∀(j:Nat) u c,us[j]?=some u->cs[j]?=some c->RepC w X u c):RepC w X (.pointer (some ⟨g,o,none⟩)) (.p cs)
 |fn (f:FuncId) (us:List Value) (cs:List Cell) (hl:us.length=cs.length) (hr:∀(j:Nat) u c,us[j]?=some u->cs[j]?=some c->RepC w X u c):RepC w X (.func (.func f) #[] us.toArray) (.fn f cs)
theorem RepC.ext{w w':World}{X X':List Nat}{u:Value}{c:Cell}(h:RepC w X u c)(e:Ext w X w' X'):RepC w' X' u c:=by
 induction h with
 |v u h=>exact .v u h
 |sl A n cap s uss es hn hu hc hcap hmx hs hr ih=>exact .sl A n cap s uss es hn hu (hc.ext e) hcap hmx hs ih
 |p g o us cs hl hc hr ih=>exact .p g o us cs hl (hc.ext e) ih
 |fn f us cs hl hr ih=>exact .fn f us cs hl ih
theorem RepC.one{w:World}{X:List Nat}{u:Value}{c:Cell}(h:RepC w X u c):u.oneCell'=true:=by
 cases h with
 |v u h=>exact h
 |sl=>rfl
 |p=>rfl
 |fn=>rfl
theorem RepC.nil(w:World)(X:List Nat)(s:Nat):RepC w X (.slice none 0 0) (.sl s []) :=
 .sl none 0 0 s [] [] rfl rfl (Cl.nil _ _ _) (jg _) ω (λi us e h=>by simp at h) (λi us e h=>by simp at h)
structure RepL (w:World) (X:List Nat) (us:List Value) (cs:List Cell):Prop where
 len:us.length=cs.length
 get:∀(j:Nat) u c,us[j]?=some u->cs[j]?=some c->RepC w X u c
theorem RepL.ext{w w':World}{X X':List Nat}{us:List Value}{cs:List Cell}(h:RepL w X us cs)(e:Ext w X w' X'):RepL w' X' us cs:=⟨h.len,λj u c a b=>(h.get j u c a b).ext e⟩
theorem RepL.nil(w:World)(X:List Nat):RepL w X [] []:=⟨rfl,λj u c h=>by simp at h⟩
theorem RepL.cons{w:World}{X:List Nat}{u:Value}{c:Cell}{us:List Value}{cs:List Cell}(h:RepC w X u c)(k:RepL w X us cs):RepL w X (u::us) (c::cs) :=
 ⟨by simp[k.len],λj x y a b=>by
  cases j with
  |zero=>simp at a b;subst a b;exact h
  |succ j=>exact k.get j x y (by simpa using a) (by simpa using b)⟩
theorem RepL.inv{w:World}{X:List Nat}{us:List Value}{c:Cell}{cs:List Cell}(h:RepL w X us (c::cs)):∃u r,us=u::r/\RepC w X u c/\RepL w X r cs:=by
 have hl:=h.len;cases us with
 |nil=>simp at hl
 |cons u r=>exact⟨u,r,rfl,h.get 0 u c rfl rfl,by simpa using hl,λj x y a b=>h.get (j+1) x y (by simpa using a) (by simpa using b)⟩
theorem RepL.one{w:World}{X:List Nat}{us:List Value}{cs:List Cell}(h:RepL w X us cs):∀u∈us,u.oneCell'=true:=by
 intro u hu;obtain⟨i,hi,rfl⟩:=Vt hu;have hi':i<cs.length:=by rw[<-h.len];exact hi
 exact(h.get i _ _ (pW hi) (pW hi')).one
theorem RepL.drop{w:World}{X:List Nat}{us:List Value}{cs:List Cell}(h:RepL w X us cs)(n:Nat):RepL w X (us.drop n) (cs.drop n) :=
 ⟨by simp[h.len],λj u c a b=>h.get (n+j) u c (by rw[Pj]at a;exact a) (by rw[Pj]at b;exact b)⟩
theorem RepL.take{w:World}{X:List Nat}{us:List Value}{cs:List Cell}(h:RepL w X us cs)(n:Nat):RepL w X (us.take n) (cs.take n) :=
 ⟨by simp[h.len],λj u c a b=>by
  rw[Pz]at a b;split at a
  .rename_i hj;rw[if_pos hj]at b;exact h.get j u c a b
  .cases a⟩
theorem RepL.append{w:World}{X:List Nat}{us vs:List Value}{cs ds:List Cell}(h:RepL w X us cs)(k:RepL w X vs ds):RepL w X (us++vs) (cs++ds) :=
 ⟨by simp[h.len,k.len],λj u c a b=>by
  by_cases hj:j<us.length
  .rw[UA hj]at a;rw[UA (by rw[<-h.len];exact hj)]at b;exact h.get j u c a b
  .rw[ZA ω]at a;rw[ZA (by rw[<-h.len];omega),<-h.len]at b
   exact k.get _ u c a b⟩
structure RepS (w:World) (X:List Nat) (s:Nat) (uss:List (List Value)) (es:List (List Cell)):Prop where
 len:uss.length=es.length
 sz:∀us∈uss,us.length=s
 get:∀(i:Nat) us e,uss[i]?=some us->es[i]?=some e->RepL w X us e
theorem RepS.ext{w w':World}{X X':List Nat}{s:Nat}{us:List (List Value)}{cs:List (List Cell)}(h:RepS w X s us cs)(e:Ext w X w' X'):RepS w' X' s us cs:=⟨h.len,h.sz,λj u c a b=>(h.get j u c a b).ext e⟩
theorem RepS.nil(w:World)(X:List Nat)(s:Nat):RepS w X s [] []:=⟨rfl,λu h=>by simp at h,λj u c h=>by simp at h⟩
theorem RepS.append{w:World}{X:List Nat}{s:Nat}{us vs:List (List Value)}{cs ds:List (List Cell)}(h:RepS w X s us cs)(k:RepS w X s vs ds):RepS w X s (us++vs) (cs++ds) :=
 ⟨by simp[h.len,k.len],λu hu=>by rcases uh.1 hu with hu|hu;exact h.sz u hu;exact k.sz u hu,λj u c a b=>by
  by_cases hj:j<us.length
  .rw[UA hj]at a;rw[UA (by rw[<-h.len];exact hj)]at b;exact h.get j u c a b
  .rw[ZA ω]at a;rw[ZA (by rw[<-h.len];omega),<-h.len]at b
   exact k.get _ u c a b⟩
theorem RepS.of_sl{w:World}{X:List Nat}{u:Value}{s:Nat}{es:List (List Cell)}(h:RepC w X u (.sl s es)):∃A cap uss,u=.slice A es.length cap/\es.length<=cap/\cap<=9223372036854775807/\Cl w X A uss.flatten/\RepS w X s uss es:=by
 cases h with
 |sl A n cap s uss es hn hu hc hcap hmx hs hr =>
  subst hn;refine⟨A,cap,uss,rfl,hcap,hmx,hc,hu,λus hus=>?_,λi us e a b=>⟨?_,hr i us e a b⟩⟩
  .obtain⟨i,hi,rfl⟩:=Vt hus;exact(hs i _ _ (pW hi) (pW ω)).1
  .have:=hs i us e a b;omega
theorem RepS.sl{w:World}{X:List Nat}{A:Option Addr}{cap s:Nat}{uss:List (List Value)}{es:List (List Cell)}(h:RepS w X s uss es)(hc:Cl w X A uss.flatten)(hcap:es.length<=cap)(hmx:cap<=9223372036854775807):RepC w X (.slice A es.length cap) (.sl s es) :=
 .sl A _ cap s uss es rfl h.len hc hcap hmx (λi us e a b=>⟨h.sz us (Gt a),by have:=(h.get i us e a b).len;rw[<-this];exact h.sz us (Gt a)⟩) (λi us e a b=>(h.get i us e a b).get)
theorem fC{s:Nat}:∀{uss:List (List Value)},(∀us∈uss,us.length=s)->uss.flatten.length=uss.length*s
 |[],_=>by simp
 |u::r,h=>by
  have h1:=fC (uss:=r) (λus hu=>h us (by simp[hu]));have h2:=h u η;simp[h1,h2,UY];omega
theorem iZ{s:Nat}:∀{uss:List (List Value)},(∀us∈uss,us.length=s)->∀{i:Nat} {us:List Value},uss[i]?=some us->∀j,j<s->uss.flatten[i*s+j]?=us[j]?
 |[],_,i,us,h,_,_=>by simp at h
 |u::r,hs,0,us,h,j,hj=>by
  have:u=us:=by simpa using h
  subst this;rw[Nat.zero_mul,uY,ZE,UA (by rw[hs u η];exact hj)]
 |u::r,hs,i+1,us,h,j,hj=>by
  have hu:=hs u η;have:=iZ (uss:=r) (λus hm=>hs us (by simp[hm])) (i:=i) (us:=us) (by simpa using h) j hj;rw[ZE,ZA (by rw[hu,UY];omega),hu,<-this];congr 1;rw[UY];omega
inductive RepD (w:World) (X:List Nat):Value->AV->Prop where
 |c {u x} (h:RepC w X u x):RepD w X u (.c x)
 |agg {us:List Value} {cs:List Cell} (h:RepL w X us cs):RepD w X (.agg us.toArray) (.agg cs)
theorem RepD.ext{w w':World}{X X':List Nat}{u:Value}{v:AV}(h:RepD w X u v)(e:Ext w X w' X'):RepD w' X' u v:=by
 cases h with
 |c h=>exact .c (h.ext e)
 |agg h=>exact .agg (h.ext e)
inductive RepR (w:World) (X:List Nat):Value->AV->Prop where
 |d {u v} (h:RepD w X u v):RepR w X u v
 |tup {us:List Value} {vs:List AV} (hl:us.length=vs.length) (h:∀(i:Nat) u v,us[i]?=some u->vs[i]?=some v->RepD w X u v):RepR w X (.tuple us.toArray) (.tup vs)
theorem oneCell_cells{u:Value}(h:u.oneCell'=true):u.cells = #[u]:=by
 cases u<;>first|rfl|(exfalso;revert h;simp[Value.oneCell'])
theorem RepD.cells{w:World}{X:List Nat}{u:Value}{v:AV}(h:RepD w X u v):∃us:List Value,u.cells=us.toArray/\RepL w X us (cellsOf v):=by
 cases h with
 |c h=>exact⟨[u],oneCell_cells h.one,.cons h (.nil _ _)⟩
 |agg h=>exact⟨_,rfl,h⟩
class Wld (P:Program) where
 ok:World->Prop
 keep:∀{w w':World},ok w->Below w.heap.size w w'->ok w'
 gl:List (Nat×List Value)
 glob:∀{w:World},ok w->∀(g:Nat) (us:List Value),(g,us)∈gl->∀(j:Nat) u,us[j]?=some u->w.cell? ((⟨g,0,none⟩:Addr).add j)=some u
@[reducible] def Wld.any(P:Program):Wld P:=⟨λ_=>True,λ_ _=>trivial,[],λ_ _ _ h=>by cases h⟩
class Gr where
 l:List Nat
instance(priority:=low) Wi:Gr:=⟨[]⟩
structure BelG [Gr] (w0 w:World):Prop where
 os:w.os=w0.os
 tape:w.tape=w0.tape
 output:w.output=w0.output
 size:w0.heap.size<=w.heap.size
 block:∀k,k<w0.heap.size->k ∉ Gr.l->w.heap[k]?=w0.heap[k]?
theorem BelG.refl[Gr](w:World):BelG w w:=⟨rfl,rfl,rfl,jg _,λ_ _ _=>rfl⟩
theorem BelG.b0{w0 w:World}(h : @BelG Wi w0 w):Below w0.heap.size w0 w:=⟨h.os,h.tape,h.output,h.size,λk hk=>h.block k hk (by show k ∉ ([]:List Nat);simp)⟩
theorem BelG.call[Gr]{w0 w w':World}(h:BelG w0 w)(hb:Below w.heap.size w w'):BelG w0 w' :=
 ⟨hb.os.trans h.os,hb.tape.trans h.tape,hb.output.trans h.output,fZ h.size hb.size,λk hk hn=>(hb.block k (Ea hk h.size)).trans (h.block k hk hn)⟩
theorem BelG.alloc[Gr]{w0 w:World}(h:BelG w0 w)(o:Obj):BelG w0 (w.alloc o) :=
 ⟨h.os,h.tape,h.output,fZ h.size (by show w.heap.size<=(w.heap.push _).size;rw[Array.size_push];omega),λk hk hn=>(Below.heap_alloc w o k (Ea hk h.size)).trans (h.block k hk hn)⟩
theorem BelG.drew[Gr]{w0 w:World}(h:BelG w0 w):BelG w0 w.drew:=⟨h.os,h.tape,h.output,h.size,h.block⟩
theorem BelG.grown[Gr]{w0 w w':World}{o:Option Nat}(h:BelG w0 w)(hg:w.grownBy w' o)(ho:∀k,o=some k->w0.heap.size<=k\/k∈Gr.l):BelG w0 w' :=
 ⟨hg.os.trans h.os,hg.tape.trans h.tape,hg.output.trans h.output,fZ h.size hg.size,λk hk hn=>(hg.block k (Ea hk h.size) (λe=>by
  rcases ho k e.symm with h1|h1
  .omega
  .exact hn h1)).trans (h.block k hk hn)⟩
theorem QF(m:Nat):m ∉ @Gr.l Wi:=by show m ∉ ([]:List Nat);simp
theorem acK{a:Prop}{b:Nat}(h:a\/b ∈ @Gr.l Wi):a:=h.elim id λh=>absurd h (QF b)
class WOk [Gr] (P:Program) [Wld P] (w0:World):Prop where
 k:∀w,BelG w0 w->Wld.ok P w
theorem WOk.of{P:Program}[Wld P]{w0:World}(h:Wld.ok P w0):@WOk Wi P _ w0:=@WOk.mk Wi P _ w0 λw hb=>Wld.keep h (BelG.b0 hb)
structure StG [Gr] (w0 w:World) (L:List Bx):Prop where
 below:BelG w0 w
 box:∀b∈L,w.heap[b.1]?=some (.cells b.2.2 b.2.1 (0,0))/\(w0.heap.size<=b.1\/b.1∈Gr.l)
 nd:L.Pairwise λa b=>a.1≠b.1
section
variable [Gr] {w0 w w':World} {L L':List Bx}
theorem StG.refl(w:World):StG w w []:=⟨BelG.refl _,λ_ h=>absurd h η,List.Pairwise.nil⟩
theorem StG.lt(h:StG w0 w L){b:Bx}(hb:b∈L):b.1<w.heap.size:=lt_of_heap (h.box b hb).1
theorem StG.bnd(h:StG w0 w L){X:List Nat}(hX:∀m∈X,m<w0.heap.size):∀m∈bl L++X,m<w.heap.size:=by
 intro m hm;rcases uh.1 hm with hm|hm
 .obtain⟨b,hb,rfl⟩:=iV.1 hm;exact h.lt hb
 .exact Ea (hX m hm) h.below.size
theorem StG.get(h:StG w0 w L)(k:Nat){g:Nat}{t:TypeId}{cs:Array Value}(hk:L[k]?=some (g,t,cs)):w.heap[g]?=some (.cells cs t (0,0)) :=
 (h.box _ (Gt hk)).1
theorem StG.base(h:StG w0 w L)(k:Nat){g:Nat}{t:TypeId}{cs:Array Value}(hk:L[k]?=some (g,t,cs)):w0.heap.size<=g\/g∈Gr.l :=
 (h.box _ (Gt hk)).2
theorem StG.drew(h:StG w0 w L):StG w0 w.drew L:=⟨h.below.drew,h.box,h.nd⟩
theorem StG.alloc(h:StG w0 w L)(cs:Array Value)(t:TypeId):StG w0 (w.alloc (.cells cs t)) ((w.heap.size,t,cs)::L):=by
 refine⟨h.below.alloc _,λb hb=>?_, ?_⟩
 .rcases jA.1 hb with rfl|hb
  .exact⟨heap_alloc_new w _,.inl h.below.size⟩
  .exact⟨(Below.heap_alloc w _ _ (h.lt hb)).trans (h.box b hb).1,(h.box b hb).2⟩
 .exact List.pairwise_cons.2 ⟨λb hb=>Nat.ne_of_gt (h.lt hb),h.nd⟩
theorem StG.alloc_(h:StG w0 w L)(o:Obj):StG w0 (w.alloc o) L :=
 ⟨h.below.alloc _,λb hb=>⟨(Below.heap_alloc w _ _ (h.lt hb)).trans (h.box b hb).1,(h.box b hb).2⟩,h.nd⟩
theorem StG.call(h:StG w0 w L)(hb:Below w.heap.size w w'):StG w0 w' L :=
 ⟨h.below.call hb,λb hb'=>⟨(hb.block _ (h.lt hb')).trans (h.box b hb').1,(h.box b hb').2⟩,h.nd⟩
theorem StG.drop(h:StG w0 w L)(hs:L'.Sublist L):StG w0 w L' :=
 ⟨h.below,λb hb=>h.box b (hs.subset hb),h.nd.sublist hs⟩
theorem StG.push(h:StG w0 w L){g:Nat}{t:TypeId}{cs:Array Value}(hg:w.heap[g]?=some (.cells cs t (0,0)))(h0:w0.heap.size<=g)(hn:g ∉ bl L):StG w0 w ((g,t,cs)::L):=by
 refine⟨h.below,λb hb=>?_,List.pairwise_cons.2 ⟨λb hb e=>hn (iV.2 ⟨b,hb,e.symm⟩),h.nd⟩⟩;rcases jA.1 hb with rfl|hb
 .exact⟨hg,.inl h0⟩
 .exact h.box b hb
theorem StG.write(h:StG w0 w L)(k:Nat){g:Nat}{t:TypeId}{cs cs':Array Value}(hk:L[k]?=some (g,t,cs))
 (hg:w.grownBy w' (some g)) (hn:w'.heap[g]?=some (.cells cs' t (0,0))):StG w0 w' (L.set k (g,t,cs')):=by
 refine⟨h.below.grown hg (λk' hk'=>by cases hk';exact h.base k hk),λb hb=>?_,XO h.nd k hk⟩;obtain⟨i,hi,rfl⟩:=Vt hb
 by_cases e:k=i
 .subst e;simp only[List.getElem_set_self];exact⟨hn,h.base k hk⟩
 .rw[List.getElem_set_ne e];have hil:i<L.length:=by simpa using hi
  have hkl:k<L.length:=(qG.1 hk).1;have hm:L[i]∈L:=qbJ hil
  have hne:(L[i]).1≠g:=by
   have hkv:L[k]=(g,t,cs):=by have:=hk;rw[pW hkl]at this;exact UU this
   rcases Nat.lt_or_gt_of_ne e with hlt|hgt
   .have:=qbP.1 h.nd k i hkl hil hlt;rw[hkv]at this;exactλe=>this e.symm
   .have:=qbP.1 h.nd i k hil hkl hgt;rw[hkv]at this;exact this
  exact⟨(hg.block _ (h.lt hm) (λe=>hne (by injection e))).trans (h.box _ hm).1,(h.box _ hm).2⟩
theorem StG.wok{P:Program}[Wld P][h0:WOk P w0](h:StG w0 w L):Wld.ok P w:=h0.k w h.below
end
inductive RepFs (w:World) (X:List Nat):List Value->List AV->List Nat->Prop where
 |nil:RepFs w X [] [] []
 |d {u v us vs G} (h:RepD w X u v) (t:RepFs w X us vs G):RepFs w X (u::us) (v::vs) G
 |own0 {T s us vs G} (h:0<s) (t:RepFs w X us vs G):RepFs w X (.slice none 0 0::us) (.own T s []::vs) G
 |own {g cap:Nat} {T:TypeId} {s:Nat} {es:List (List Cell)} {uss:List (List Value)} {rest us:List Value} {vs:List AV} {G:List Nat} (hs:0<s) (hg:w.heap[g]?=some (.cells (uss.flatten++rest).toArray T (0,0))) (hr:RepS w X s uss es) (hc:cap*s=(uss.flatten++rest).length) (hm:cap<=maxLen) (hn:es.length<=cap)
  (t:RepFs w X us vs G):RepFs w X (.slice (some ⟨g,0,none⟩) es.length cap::us) (.own T s es::vs) (g::G)
def notTup:AV->Bool
 |.tup _=>false
 |_=>true
structure RepF (B:Nat) (w:World) (X:List Nat) (u:Value) (r:AV):Prop where
 ex:∃us vs G,((u=.tuple us.toArray/\r=.tup vs)\/(us=[u]/\vs=[r]/\notTup r=true))/\(∀g∈G,B<=g)/\G.Nodup/\RepFs w (G++X) us vs G
theorem RepFs.of_d{w:World}{X:List Nat}:∀{us:List Value} {vs:List AV},us.length=vs.length->(∀(i:Nat) u v,us[i]?=some u->vs[i]?=some v->RepD w X u v)->RepFs w X us vs []
 |[],[],_,_ => .nil
 |u::us,v::vs,hl,h => .d (h 0 u v rfl rfl) (RepFs.of_d (by simpa using hl) λi x y a b=>h (i+1) x y (by simpa using a) (by simpa using b))
 |[],_::_,hl,_=>by simp at hl
 |_::_,[],hl,_=>by simp at hl
theorem RepD.notTup{w:World}{X:List Nat}{u:Value}{v:AV}(h:RepD w X u v):Sw.notTup v=true:=by cases h<;>rfl
theorem RepR.f{B:Nat}{w:World}{X:List Nat}{u:Value}{r:AV}(h:RepR w X u r):RepF B w X u r:=by
 cases h with
 |d h=>exact⟨[u],[r],[],.inr ⟨rfl,rfl,h.notTup⟩,η,List.nodup_nil,.d h .nil⟩
 |tup hl h=>exact⟨_,_,[],.inl ⟨rfl,rfl⟩,η,List.nodup_nil,RepFs.of_d hl h⟩
def BJ:AV->Bool
 |.own _ _ _=>false
 |.tup vs=>vs.all λv=>!oQ v
 |_=>true
theorem RepFs.d_of{w:World}{X:List Nat}{us:List Value}{vs:List AV}{G:List Nat}(h:RepFs w X us vs G)(hn:vs.all (λv=>!oQ v)=true):G=[]/\us.length=vs.length/\∀(i:Nat) u v,us[i]?=some u->vs[i]?=some v->RepD w X u v:=by
 induction h with
 |nil=>exact⟨rfl,rfl,λi u v h=>by simp at h⟩
 |d h t ih =>
  simp only[List.all_cons,gX]at hn;obtain⟨h1,h2,h3⟩:=ih hn.2;refine⟨h1,by simp[h2],λi x y a b=>?_⟩;cases i with
  |zero=>simp at a b;subst a b;exact h
  |succ i=>exact h3 i x y (by simpa using a) (by simpa using b)
 |own0=>simp[oQ]at hn
 |own=>simp[oQ]at hn
theorem RepF.r{B:Nat}{w:World}{X:List Nat}{u:Value}{r:AV}(h:RepF B w X u r)(hn:BJ r=true:=by rfl):RepR w X u r:=by
 obtain⟨us,vs,G,h1,h2,h3,h4⟩:=h;rcases h1 with⟨rfl,rfl⟩|⟨rfl,rfl,h5⟩
 .obtain⟨rfl,q1,q2⟩:=h4.d_of hn;exact .tup q1 q2
 .obtain⟨rfl,q1,q2⟩:=h4.d_of (by cases r<;>first|rfl|simp[BJ]at hn|simp[Sw.notTup]at h5);exact .d (q2 0 _ _ rfl rfl)
def Oq(P:Program)[Wld P](f:FuncId)(xs:List AV)(r:AV):Prop :=
 fE P f=true/\∀(w:World) (X:List Nat) (vs:List Value),Wld.ok P w->(∀m∈X,m<w.heap.size)->vs.length=xs.length->(∀(i:Nat) u v,vs[i]?=some u->xs[i]?=some v->RepD w X u v) ->
  Calls P f vs.toArray w (Ar λu w'=>RepF w.heap.size w' X u r/\Below w.heap.size w w')
def af6(P:Program)(f:FuncId)(cs:List Cell)(xs:List AV)(cs':List Cell)(r:AV):Prop :=
 fE P f=true/\∀(w:World) (X:List Nat) (g:Nat) (T:TypeId) (us vs:List Value),(∀m∈X,m<w.heap.size)->w.heap[g]?=some (.cells us.toArray T (0,0))->RepL w X us cs ->
  vs.length=xs.length->(∀(i:Nat) u v,vs[i]?=some u->xs[i]?=some v->RepD w X u v) ->
  Calls P f (.pointer (some ⟨g,0,none⟩)::vs).toArray w (Ar λu w'=>RepR w' X u r/\w.grownBy w' (some g)/\∃us':List Value,w'.heap[g]?=some (.cells us'.toArray T (0,0))/\RepL w' X us' cs')
def ae2(P:Program)[Wld P](f:FuncId)(T:TypeId)(s:Nat)(es:List (List Cell))(xs:List AV)(es':List (List Cell))(r:AV):Prop :=
 fE P f=true/\∀(w:World) (X:List Nat) (g cap:Nat) (uss:List (List Value)) (rest vs:List Value),Wld.ok P w->(∀m∈X,m<w.heap.size)->g∈X->w.heap[g]?=some (.cells (uss.flatten++rest).toArray T (0,0))->RepS w X s uss es->cap*s=(uss.flatten++rest).length->cap<=maxLen->es.length<=cap->0<s ->
  vs.length=xs.length->(∀(i:Nat) u v,vs[i]?=some u->xs[i]?=some v->RepD w X u v) ->
  Calls P f (.slice (some ⟨g,0,none⟩) es.length cap::vs).toArray w (Ar λu w'=>RepR w' X u r/\w.grownBy w' (some g)/\es'.length=es.length/\∃(uss':List (List Value)) (rest':List Value),w'.heap[g]?=some (.cells (uss'.flatten++rest').toArray T (0,0))/\RepS w' X s uss' es'/\rest'.length=rest.length)
def EW(P:Program)[Wld P](f:FuncId)(T:TypeId)(s:Nat)(es:List (List Cell))(xs:List AV)(r:AV):Prop :=
 fE P f=true/\∀(w:World) (X:List Nat) (g cap:Nat) (uss:List (List Value)) (rest vs:List Value),Wld.ok P w->(∀m∈X,m<w.heap.size)->g∈X->w.heap[g]?=some (.cells (uss.flatten++rest).toArray T (0,0))->RepS w X s uss es->cap*s=(uss.flatten++rest).length->cap<=maxLen->es.length<=cap->0<s ->
  vs.length=xs.length->(∀(i:Nat) u v,vs[i]?=some u->xs[i]?=some v->RepD w X u v) ->
  Calls P f (.slice (some ⟨g,0,none⟩) es.length cap::vs).toArray w (Ar λu w'=>RepR w' (X.filter λx=>!(Nat.beq x g)) u r/\w.grownBy w' (some g))
def agi(P:Program)[Wld P](f:FuncId)(G:Gho)(xs:List AV)(G':Gho)(r:AV):Prop :=
 fE P f=true/\∀(w:World) (X:List Nat) (g:Nat) (T:TypeId) (us vs:List Value) (more:List Bx) (mo:Nat×Array MapEntry×Nat),Wld.ok P w->(∀m∈X,m<w.heap.size)->g∈X->(∀q∈more,q.1∈X/\q.1≠g/\w.heap[q.1]?=some (.cells q.2.2 q.2.1 (0,0)))->(more.Pairwise λa b=>a.1≠b.1) ->
  w.heap[g]?=some (.cells us.toArray T (0,0))->w.heap[mo.1]?=some (Obj.map mo.2.1 mo.2.2)->G.rep w X us more mo->vs.length=xs.length->(∀(i:Nat) u v,vs[i]?=some u->xs[i]?=some v->RepD w X u v) ->
  Calls P f (.pointer (some ⟨g,0,none⟩)::vs).toArray w (Ar λu w'=>∃(more':List Bx) (mo':Nat×Array MapEntry×Nat),mo'.1=mo.1/\w'.heap[mo.1]?=some (Obj.map mo'.2.1 mo'.2.2)/\(∀q∈more',(q.1∈bl more\/w.heap.size<=q.1)/\w'.heap[q.1]?=some (.cells q.2.2 q.2.1 (0,0)))/\(more'.Pairwise λa b=>a.1≠b.1) /\
   (w'.os=w.os/\w'.tape=w.tape/\w'.output=w.output/\w.heap.size<=w'.heap.size/\∀k,k<w.heap.size->k≠mo.1->k ∉ bl more->w'.heap[k]?=w.heap[k]?)/\RepR w' (bl more'++X) u r/\G'.rep w' (bl more'++X) us more' mo')
def Den(P:Program)[Wld P](f:FuncId)(xs:List AV)(r:AV):Prop :=
 match xs,r with
 |.gh G::a_s,.tup [.gh G',r']=>agi P f G a_s G' r'
 |.tup [.agg cs]::a_s,.tup [.agg cs',r']=>af6 P f cs a_s cs' r'
 |.own T s es::a_s,.tup [.own _ _ es',r']=>ae2 P f T s es a_s es' r'
 |.own T s es::a_s,.tup [.rd [],r']=>EW P f T s es a_s r'
 |xs,r=>Oq P f xs r
def mG:List AV->Bool
 |.tup _::_=>false
 |.own _ _ _::_=>false
 |.gh _::_=>false
 |_=>true
theorem Den.old{P:Program}[Wld P]{f:FuncId}{xs:List AV}{r:AV}(h:Den P f xs r)(hn:mG xs=true):Oq P f xs r:=by
 unfold Den at h;split at h
 .simp[mG]at hn
 .simp[mG]at hn
 .simp[mG]at hn
 .simp[mG]at hn
 .exact h
theorem Den.of{P:Program}[Wld P]{f:FuncId}{xs:List AV}{r:AV}(h:Oq P f xs r)(hn:mG xs=true):Den P f xs r:=by
 unfold Den;split
 .simp[mG]at hn
 .simp[mG]at hn
 .simp[mG]at hn
 .simp[mG]at hn
 .exact h
theorem rP{w:World}{X:List Nat}{us:List Value}{xs:List AV}(hl:us.length=xs.length)(h:∀(i:Nat) u v,us[i]?=some u->xs[i]?=some v->RepD w X u v):mG xs=true:=by
 unfold mG;split
 .match us,hl with
  |u::_,_=>exact(nomatch h 0 u _ rfl rfl)
 .match us,hl with
  |u::_,_=>exact(nomatch h 0 u _ rfl rfl)
 .match us,hl with
  |u::_,_=>exact(nomatch h 0 u _ rfl rfl)
 .rfl
structure MB where
 isVar:Bool
 own:Bool
 g:Option Nat
 T:TypeId
 s:Nat
 n:Nat
 cap:Nat
 us:List Value
 gx:Option (List Bx×Nat×Array MapEntry×Nat)
def hdr(m:MB):Value:=.slice (m.g.map λg=>⟨g,0,none⟩) m.n m.cap
abbrev MM:=Nat->Option MB
def Ws(u:Value)(n:Nat):Prop:=∃a c,u=.slice a n c
inductive RepG (M:MM):Value->AV->Prop where
 |gs {u b n m} (hm:M b=some m) (hv:m.isVar=false) (hle:n<=m.n) (h:m.n=n->u=hdr m) (hu:Ws u n):RepG M u (.gs b n)
inductive RepO1 (w:World) (X:List Nat) (M:MM):Value->Cell->Prop where
 |c {u c} (h:RepC w X u c):RepO1 w X M u c
 |ob {u b n} (h:RepG M u (.gs b n)) (h1:u.oneCell'=true):RepO1 w X M u (.ob b n)
structure RepO (w:World) (X:List Nat) (M:MM) (us:List Value) (cs:List Cell):Prop where
 len:us.length=cs.length
 get:∀(j:Nat) u c,us[j]?=some u->cs[j]?=some c->RepO1 w X M u c
inductive RepV (w:World) (X:List Nat) (M:MM):Value->AV->Prop where
 |d {u v} (h:RepD w X u v):RepV w X M u v
 |tup {us:List Value} {vs:List AV} (hl:us.length=vs.length) (h:∀(i:Nat) u v,us[i]?=some u->vs[i]?=some v->RepD w X u v\/RepG M u v):RepV w X M (.tuple us.toArray) (.tup vs)
 |gp {g o:Nat}:RepV w X M (.pointer (some ⟨g,o,none⟩)) (.gp g o)
 |ptr {b o m g} (hm:M b=some m) (hv:m.isVar=true) (hg:m.g=some g):RepV w X M (.pointer (some ⟨g,o,none⟩)) (.ptr b o)
 |pe {u b n i o m} (hm:M b=some m) (hv:m.isVar=false) (hle:n<=m.n) (h:m.n=n->∃g,m.g=some g/\u=.pointer (some ⟨g,i*m.s+o,none⟩)):RepV w X M u (.pe b n i o)
 |rd {g o:Nat} {us:List Value} {cs:List Cell} (hc:Cl w X (some ⟨g,o,none⟩) us) (h:RepL w X us cs):RepV w X M (.pointer (some ⟨g,o,none⟩)) (.rd cs)
 |gs {u b n m} (hm:M b=some m) (hv:m.isVar=false) (hle:n<=m.n) (h:m.n=n->u=hdr m) (hu:Ws u n):RepV w X M u (.gs b n)
 |ago {us:List Value} {cs:List Cell} (h:RepO w X M us cs):RepV w X M (.agg us.toArray) (.ago cs)
 |bad {u} (h:u=undef):RepV w X M u .bad
 |any {u}:RepV w X M u .any
structure Comp (m m':MB):Prop where
 v:m'.isVar=m.isVar
 g:m.isVar=true->m'.g=m.g
 h:m.isVar=false->(m'.g=m.g/\m'.s=m.s/\m'.n=m.n/\m'.cap=m.cap)\/m.n<m'.n
theorem Comp.refl(m:MB):Comp m m:=⟨rfl,λ_=>rfl,λ_ => .inl ⟨rfl,rfl,rfl,rfl⟩⟩
theorem Y4{vs:List AV}{v:AV}(hv:v∈vs){c:Nat}(hc:c∈wz [v]):c∈wz vs:=by
 induction vs with
 |nil=>cases hv
 |cons x r ih =>
  rcases jA.1 hv with rfl|hv
  .cases v<;>simp[wz]at hc ⊢
   exact .inl hc
  .have:=ih hv;cases x<;>simp only[wz]<;>first|exact this|exact vX _ this
theorem RepG.ext{M M':MM}{u:Value}{v:AV}(h:RepG M u v)(hM:∀b∈wz [v],∀m,M b=some m->∃m',M' b=some m'/\Comp m m'):RepG M' u v:=by
 cases h with
 |gs hm hv hle h hu =>
  obtain⟨m',h1,h2⟩:=hM _ (by simp[wz]) _ hm;rename_i b n m;rcases h2.h hv with⟨e1,e2,e3,e4⟩|hlt
  .exact .gs h1 (h2.v.trans hv) ω (λhn=>by
    have:=h (e3▸hn)
    rw[this];unfold hdr;rw[e1,e3,e4]) hu
  .exact .gs h1 (h2.v.trans hv) ω (λhn=>by omega) hu
theorem RepG.v{w:World}{X:List Nat}{M:MM}{u:Value}{v:AV}(h:RepG M u v):RepV w X M u v:=by
 cases h with
 |gs hm hv hle h hu=>exact .gs hm hv hle h hu
theorem Xp{cs:List Cell}{b n:Nat}(h:Cell.ob b n∈cs):b∈lJ cs:=by
 induction cs with
 |nil=>cases h
 |cons c r ih =>
  rcases jA.1 h with rfl|h
  .simp[lJ]
  .have:=ih h;cases c<;>simp only[lJ]<;>first|exact this|exact vX _ this
theorem RepO.ext{w w':World}{X X':List Nat}{M M':MM}{us:List Value}{cs:List Cell}(h:RepO w X M us cs)(e:Ext w X w' X')(hM:∀b∈lJ cs,∀m,M b=some m->∃m',M' b=some m'/\Comp m m'):RepO w' X' M' us cs :=
 ⟨h.len,λj u c a b=>by
  cases h.get j u c a b with
  |c h=>exact .c (h.ext e)
  |ob h h1=>exact .ob (h.ext λd hd m hm=>hM d (by simp[wz]at hd;subst hd;exact Xp (Gt b)) m hm) h1⟩
theorem RepL.o{w:World}{X:List Nat}{M:MM}{us:List Value}{cs:List Cell}(h:RepL w X us cs):RepO w X M us cs:=⟨h.len,λj u c a b => .c (h.get j u c a b)⟩
theorem RepV.ext{w w':World}{X X':List Nat}{M M':MM}{u:Value}{v:AV}(h:RepV w X M u v)(e:Ext w X w' X')(hM:∀b∈dY v,∀m,M b=some m->∃m',M' b=some m'/\Comp m m'):RepV w' X' M' u v:=by
 cases h with
 |d h=>exact .d (h.ext e)
 |tup hl h =>
  refine .tup hl λi u v a b=>?_
  rcases h i u v a b with h1|h1
  .exact .inl (h1.ext e)
  .refine .inr (h1.ext λc hc=>hM c ?_);exact Y4 (Gt b) hc
 |gp=>exact .gp
 |ptr hm hv hg =>
  obtain⟨m',h1,h2⟩:=hM _ (by simp[dY]) _ hm;exact .ptr h1 (h2.v.trans hv) ((h2.g hv).trans hg)
 |pe hm hv hle h =>
  obtain⟨m',h1,h2⟩:=hM _ (by simp[dY]) _ hm;rename_i b n i o m;rcases h2.h hv with⟨e1,e2,e3,e4⟩|hlt
  .exact .pe h1 (h2.v.trans hv) ω λhn=>by rw[e1,e2];exact h (e3▸hn)
  .exact .pe h1 (h2.v.trans hv) ω λhn=>by omega
 |rd hc h=>exact .rd (hc.ext e) (h.ext e)
 |gs hm hv hle h hu =>
  obtain⟨m',h1,h2⟩:=hM _ (by simp[dY]) _ hm;rename_i b n m;rcases h2.h hv with⟨e1,e2,e3,e4⟩|hlt
  .exact .gs h1 (h2.v.trans hv) ω (λhn=>by
    have:=h (e3▸hn)
    rw[this];unfold hdr;rw[e1,e3,e4]) hu
  .exact .gs h1 (h2.v.trans hv) ω (λhn=>by omega) hu
 |ago h=>exact .ago (h.ext e hM)
 |bad h=>exact .bad h
 |any=>exact .any
def RepM(w:World)(X:List Nat)(M:MM)(m:MB):Bk->Prop
 |.var cs=>m.isVar=true/\m.own=true/\(∃g,m.g=some g)/\RepL w X m.us cs
 |.grow T s es=>m.isVar=false/\m.own=true/\m.T=T/\(m.s=s/\0<s)/\m.n=es.length /\
  ((m.g=none/\es=[]/\m.cap=0)\/∃g uss rest,m.g=some g/\m.us=uss.flatten++rest/\RepS w X s uss es/\m.cap*s=m.us.length/\m.cap<=maxLen/\m.n<=m.cap)
 |.froz s es=>m.isVar=false/\(m.s=s/\0<s)/\m.n=es.length/\RepC w X (hdr m) (.sl s es)
 |.varo cs=>m.isVar=true/\m.own=true/\(∃g,m.g=some g)/\RepO w X M m.us cs
 |.fvar cs=>m.isVar=true/\∃g us,m.g=some g/\Cl w X (some ⟨g,0,none⟩) us/\RepL w X us cs
 |.gh G=>m.isVar=true/\m.own=true/\(∃g,m.g=some g)/\∃x,m.gx=some x/\G.rep w X m.us x.1 x.2
 |.dead=>True
theorem RepM.ext{w w':World}{X X':List Nat}{M M':MM}{m:MB}{x:Bk}(h:RepM w X M m x)(e:Ext w X w' X')(hM:∀b∈tX x,∀m,M b=some m->∃m',M' b=some m'/\Comp m m'):RepM w' X' M' m x:=by
 cases x with
 |var cs=>exact⟨h.1,h.2.1,h.2.2.1,h.2.2.2.ext e⟩
 |grow T s es =>
  obtain⟨h1,h2,h3,h4,h5,h6⟩:=h;refine⟨h1,h2,h3,h4,h5, ?_⟩;rcases h6 with h6|⟨g,uss,rest,a1,a2,a3,a4⟩
  .exact .inl h6
  .exact .inr ⟨g,uss,rest,a1,a2,a3.ext e,a4⟩
 |froz s es=>exact⟨h.1,h.2.1,h.2.2.1,h.2.2.2.ext e⟩
 |varo cs=>exact⟨h.1,h.2.1,h.2.2.1,h.2.2.2.ext e hM⟩
 |fvar cs =>
  obtain⟨h1,g,us,h2,h3,h4⟩:=h;exact⟨h1,g,us,h2,h3.ext e,h4.ext e⟩
 |gh G =>
  obtain⟨h1,h2,h3,x,h4,h5⟩:=h;exact⟨h1,h2,h3,x,h4,G.ext h5 e⟩
 |dead=>trivial
theorem RepM.ext0{w w':World}{X X':List Nat}{M:MM}{m:MB}{x:Bk}(h:RepM w X M m x)(e:Ext w X w' X'):RepM w' X' M m x:=h.ext e λ_ _ m hm=>⟨m,hm,Comp.refl m⟩
structure Ghs (w0 w:World) (S:List Bx) (M:MM):Prop where
 inS:∀b m x,M b=some m->m.gx=some x->(∀q∈x.1,q∈S)/\w.heap[x.2.1]?=some (Obj.map x.2.2.1 x.2.2.2)/\w0.heap.size<=x.2.1/\x.1.Pairwise λa b=>a.1≠b.1
 own:∀b m x b' m' g,M b=some m->m.gx=some x->M b'=some m'->m'.own=true->m'.g=some g->∀q∈x.1,q.1≠g
 uni:∀b m x b' m' x',M b=some m->m.gx=some x->M b'=some m'->m'.gx=some x'->(x.2.1=x'.2.1\/∃q∈x.1,∃q'∈x'.1,q.1=q'.1)->b=b'
theorem Ghs.step{w0 w:World}{S:List Bx}{M:MM}(h:Ghs w0 w S M){w':World}{S':List Bx}{M':MM}(hM:∀b m' x,M' b=some m'->m'.gx=some x->∃m,M b=some m/\m.gx=some x)(hS:∀b m x,M b=some m->m.gx=some x->∀q∈x.1,q∈S->q∈S')
 (hw:∀(g:Nat) (es:Array MapEntry) (c:Nat),w.heap[g]?=some (Obj.map es c)->w'.heap[g]?=some (Obj.map es c)) (ho:∀b m' g,M' b=some m'->m'.own=true->m'.g=some g->(∃b0 m,M b0=some m/\m.own=true/\m.g=some g)\/g ∉ bl S):Ghs w0 w' S' M':=by
 refine⟨λb m' x hm hx=>?_,λb m' x b' m'' g hm hx hm' ho' hg' q hq=>?_,λb m' x b' m'' x' hm hx hm' hx' he=>?_⟩
 .obtain⟨m,h1,h2⟩:=hM b m' x hm hx;obtain⟨k1,k2,k3⟩:=h.inS b m x h1 h2;exact⟨λq hq=>hS b m x h1 h2 q hq (k1 q hq),hw _ _ _ k2,k3⟩
 .obtain⟨m,h1,h2⟩:=hM b m' x hm hx;rcases ho b' m'' g hm' ho' hg' with⟨b0,m0,k1,k2,k3⟩|k
  .exact h.own b m x b0 m0 g h1 h2 k1 k2 k3 q hq
  .exactλe=>k (e▸iV.2 ⟨q,(h.inS b m x h1 h2).1 q hq,rfl⟩)
 .obtain⟨m,h1,h2⟩:=hM b m' x hm hx;obtain⟨m2,k1,k2⟩:=hM b' m'' x' hm' hx';exact h.uni b m x b' m2 x' h1 h2 k1 k2 he
theorem Ghs.kept{w0 w:World}{S:List Bx}{M:MM}(h:Ghs w0 w S M){w':World}(hw:∀(g:Nat) (es:Array MapEntry) (c:Nat),w.heap[g]?=some (Obj.map es c)->w'.heap[g]?=some (Obj.map es c)):Ghs w0 w' S M :=
 h.step (λ_ m _ a b=>⟨m,a,b⟩) (λ_ _ _ _ _ _ _ h=>h) hw (λb m _ a b' c => .inl ⟨b,m,a,b',c⟩)
theorem Gh{w:World}(o:Obj):∀(g:Nat) (es:Array MapEntry) (c:Nat),w.heap[g]?=some (Obj.map es c)->(w.alloc o).heap[g]?=some (Obj.map es c):=λg es c h=>(Below.heap_alloc w o g (lt_of_heap h)).trans h
theorem Fq{w w':World}(hb:Below w.heap.size w w'):∀(g:Nat) (es:Array MapEntry) (c:Nat),w.heap[g]?=some (Obj.map es c)->w'.heap[g]?=some (Obj.map es c):=λg es c h=>(hb.block g (lt_of_heap h)).trans h
theorem zf{w w':World}{o:Option Nat}(hb:w.grownBy w' o)(h0:∀g,o=some g->NoMap w g):∀(g:Nat) (es:Array MapEntry) (c:Nat),w.heap[g]?=some (Obj.map es c)->w'.heap[g]?=some (Obj.map es c):=λg es c h=>(hb.block g (lt_of_heap h) (λe=>h0 g e.symm es c h)).trans h
theorem NoMap.row{w:World}{g:Nat}{c:Array Value}{t:TypeId}{f:Nat×Nat}(h:w.heap[g]?=some (.cells c t f)):NoMap w g:=λes k e=>by rw[h]at e;cases e
structure MS [Gr] (w0 w:World) (S:List Bx) (M:MM):Prop where
 st:StG w0 w S
 gh:Ghs w0 w S M
 inS:∀b m,M b=some m->m.own=true->∀g,m.g=some g->(g,m.T,m.us.toArray)∈S
 inj:∀b b' m m' g,M b=some m->M b'=some m'->m.own=true->m'.own=true->m.g=some g->m'.g=some g->b=b'
def MM.set(M:MM)(b:Nat)(m:MB):MM:=λi=>if i=b then some m else M i
theorem MM.set_same(M:MM)(b:Nat)(m:MB):M.set b m b=some m:=by simp[MM.set]
theorem MM.set_other(M:MM){b i:Nat}(m:MB)(h:i≠b):M.set b m i=M i:=by simp[MM.set,h]
theorem Ghs.set{w0 w:World}{S:List Bx}{M:MM}(h:Ghs w0 w S M){i:Nat}{m':MB}{w':World}{S':List Bx}(hx:∀x,m'.gx=some x->∃m,M i=some m/\m.gx=some x)(hS:∀b m x,M b=some m->m.gx=some x->∀q∈x.1,q∈S->q∈S')
 (hw:∀(g:Nat) (es:Array MapEntry) (c:Nat),w.heap[g]?=some (Obj.map es c)->w'.heap[g]?=some (Obj.map es c)) (ho:∀g,m'.own=true->m'.g=some g->(∃m,M i=some m/\m.own=true/\m.g=some g)\/g ∉ bl S):Ghs w0 w' S' (M.set i m'):=by
 refine h.step (λb mb x hb hg=>?_) hS hw (λb mb g hb h1 h2=>?_)
 .by_cases hi:b=i
  .subst hi;rw[MM.set_same]at hb;cases hb;exact hx x hg
  .rw[MM.set_other _ _ hi]at hb;exact⟨mb,hb,hg⟩
 .by_cases hi:b=i
  .subst hi;rw[MM.set_same]at hb;cases hb;rcases ho g h1 h2 with⟨m,k1,k2,k3⟩|k
   .exact .inl ⟨_,m,k1,k2,k3⟩
   .exact .inr k
  .rw[MM.set_other _ _ hi]at hb;exact .inl ⟨b,mb,hb,h1,h2⟩
def KhOk[Kp](w:World)(X:List Nat):Prop:=∀g o,(g,o)∈Kp.h->w.heap[g]?=some o/\g ∉ X/\NoMap w g
theorem KhOk.ext[Kp]{w w':World}{X X':List Nat}(h:KhOk w X)(e:Ext w X w' X'):KhOk w' X':=λg o hg=>by
 obtain⟨h1,h2,h3⟩:=h g o hg;obtain⟨e1,e2⟩:=e.block g (lt_of_heap h1) h2 h3;exact⟨e1.trans h1,e2,λes c=>by rw[e1];exact h3 es c⟩
def DL[Kp](N t:Nat):Prop:=t<N/\zn t=true
structure Sta [Kp] [Gr] (N:Nat) (w0:World) (X0:List Nat) (S:List Bx) (M:MM) (a:Act) (w:World) (e:Env) (b:aZ):Prop where
 ms:MS w0 w S M
 x0:∀m∈X0,m<w0.heap.size/\m ∉ Gr.l
 sz:a.tmps.size=N
 df:(a.defers=[]/\∀t u,(t,u)∈Kp.l->a.tmps.getD t undef=u)/\KhOk w (bl S++X0)
 env:∀t v,ld t e=some v->RepV w (bl S++X0) M (a.tmps.getD t undef) v
 box:∀i x,ld i b=some x->∃m,M i=some m/\RepM w (bl S++X0) M m x
def Conc[Kp][Gr](N:Nat)(w0:World)(X0:List Nat)(e:Env)(b:aZ)(a:Act)(w:World):Prop:=∃S M,Sta N w0 X0 S M a w e b
theorem Sta.bnd[Kp][Gr]{N:Nat}{w0:World}{X0:List Nat}{S:List Bx}{M:MM}{a:Act}{w:World}{e:Env}{b:aZ}(h:Sta N w0 X0 S M a w e b):∀m∈bl S++X0,m<w.heap.size:=h.ms.st.bnd λm hm=>(h.x0 m hm).1
def Does(P:Program)(o:Oper)(a:Act)(w:World)(R:Value->World->Prop):Prop :=
 (∃u w',(execOp a.eval o).run P w=.ok (.value u) w'/\R u w')\/(∃w',(execOp a.eval o).run P w=.ok .skip w'/\R undef w')\/∃f vs,(execOp a.eval o).run P w=.ok (.enter f vs) w/\Calls P f vs w (Ar R)
theorem Does.wp{P:Program}{o:Oper}{a:Act}{w:World}{R:Value->World->Prop}{K:Act->World->Prop}{Q:Exit->Act->World->Prop}(h:Does P o a w R)(k:∀u w',R u w'->K (a.put o.dst u) w'):o.wp P a w K Q:=by
 unfold Oper.wp;rcases h with⟨u,w',hr,hR⟩|⟨w',hr,hR⟩|⟨f,vs,hr,hc⟩
 .rw[hr];exact k u w' hR
 .rw[hr];exact k _ w' hR
 .rw[hr];simp only[Oper.upon];refine hc.mono ?_;rintro e w' ⟨v,rfl,hR⟩;exact k v w' hR
def Post[Gr](w0:World)(X0:List Nat)(S:List Bx)(M:MM)(w:World)(al:List Nat)(v:AV)(f:aZ)(u:Value)(w':World):Prop :=
 ∃S' M',MS w0 w' S' M'/\Ext w (bl S++X0) w' (bl S'++X0)/\RepV w' (bl S'++X0) M' u v/\(∀i,i ∉ f.map (·.1)->M' i=M i) /\
  (∀i m,M i=some m->i ∉ al->∃m',M' i=some m'/\Comp m m')/\(∀i x,(i,x)∈f->∃m',M' i=some m'/\RepM w' (bl S'++X0) M' m' x)
theorem Post.pure[Gr]{w0:World}{X0:List Nat}{S:List Bx}{M:MM}{w:World}{al:List Nat}{v:AV}{u:Value}(h:MS w0 w S M)(hv:RepV w (bl S++X0) M u v):Post w0 X0 S M w al v [] u w :=
 ⟨S,M,h,Ext.refl _ _,hv,λ_ _=>rfl,λi m hm _=>⟨m,hm,Comp.refl m⟩,λi x hx=>by simp at hx⟩
theorem oO{α:Type}:∀{n:Nat} {l r:List α},takeN n l=some r->r=l.take n/\n<=l.length
 |0,l,r,h=>by simp[takeN]at h;simp[h]
 |n+1,[],r,h=>by simp[takeN]at h
 |n+1,x::l,r,h=>by
  simp only[takeN]at h;cases hq:takeN n l with
  |none=>simp[hq]at h
  |some q =>
   simp[hq]at h;obtain⟨h1,h2⟩:=oO hq;subst h h1;simp;omega
theorem iR{α:Type}:∀(n:Nat) (l:List α),dU n l=l.drop n
 |0,l=>by simp[dU]
 |n+1,[]=>by simp[dU]
 |n+1,x::l=>by simp[dU,iR n l]
theorem lF{α:Type}:∀{n:Nat} {vs l r:List α},oK n vs l=some r->n+vs.length<=l.length/\r=l.take n++vs++l.drop (n+vs.length)
 |0,[],l,r,h=>by simp[oK]at h;simp[h]
 |0,y::vs,[],r,h=>by simp[oK]at h
 |0,y::vs,x::l,r,h=>by
  simp only[oK]at h;cases hq:oK 0 vs l with
  |none=>simp[hq]at h
  |some q =>
   simp[hq]at h;obtain⟨h1,h2⟩:=lF hq;subst h h2;simp at h1 ⊢;exact h1
 |n+1,vs,[],r,h=>by simp[oK]at h
 |n+1,vs,x::l,r,h=>by
  simp only[oK]at h;cases hq:oK n vs l with
  |none=>simp[hq]at h
  |some q =>
   simp[hq]at h;obtain⟨h1,h2⟩:=lF hq;subst h h2;simp;refine⟨ω, ?_⟩;rw[show n+1+vs.length=(n+vs.length)+1 by omega,List.drop_succ_cons]
def zOk:Value->Cell->Bool
 |.bool a,.v (.bool b)=>a == b
 |.int k a,.v (.int k' b)=>decide (k=k')&&decide (a=b)
 |.string s,.v (.string s')=>decide (s=s')
 |.slice none 0 0,.sl _ []=>true
 |.slice none 0 0,.v (.slice none 0 0)=>true
 |.map none,.v (.map none)=>true
 |_,_=>false
def vZ:List Value->List Cell->Bool
 |[],[]=>true
 |u::r,c::l=>zOk u c&&vZ r l
 |_,_=>false
def KF(P:Program)(f:Field)(x:Nat×Nat×Bool):Bool :=
 decide (f.offset=x.1)&&decide ((P.info? f.type).map (·.size)=some x.2.1)&&decide (x.2.1≠0)&&(if x.2.2 then isRow P f.type x.2.1 else jq P f.type)
def pR(P:Program):List Field->List (Nat×Nat×Bool)->Bool
 |[],[]=>true
 |f::r,x::l=>KF P f x&&pR P r l
 |_,_=>false
def kindOk(P:Program)(t:TypeId)(b:Nat):Bool:=match P.underlying t,b with|some (.int _),0=>true|some .bool,1=>true|some .string,2=>true|_,_=>false
def aoq(P:Program):Nat->List Field->List Nat->Bool
 |_,[],[]=>true
 |o,f::r,b::ks=>decide (f.name ≠ "_")&&decide (f.offset=o)&&jq P f.type&&kindOk P f.type b&&aoq P (o+1) r ks
 |_,_,_=>false
def DR(P:Program):Nat->List Field->List Nat->Bool
 |_,[],ks=>ks.isEmpty
 |o,f::r,ks=>decide (f.name ≠ "_")&&decide (f.offset=o)&&(match P.underlying f.type with
  |some (.struct fl)=>!P.stoodInHeld f.type&&isRow P f.type fl.size&&decide (fl.size<=ks.length)&&aoq P 0 fl.toList (ks.take fl.size)&&DR P (o+fl.size) r (ks.drop fl.size)
  |_=>(match ks with
   |b::ks'=>jq P f.type&&kindOk P f.type b&&DR P (o+1) r ks'
   |[]=>false))
def y8(P:Program)(t:TypeId)(ks:List Nat):Bool :=
 match P.underlying t with
 |some (.struct fl)=>!P.stoodInHeld t&&(!P.eqGuardType P.depth t&&DR P 0 fl.toList ks)
 |some (.array n e)=>!P.eqGuardType P.depth t&&(jq P e&&(decide (ks.length=n)&&ks.all (kindOk P e)))
 |_=>false
def iQ(P:Program)[Wld P](t:TypeId):TI->Bool
 |.int k=>jq P t&&decide (X5 P t=some k)&&(match zeroOf P t with|some z=>vZ z.toList [.v (.int k 0)]|none=>false)
 |.bool=>jq P t&&(match P.underlying t with|some .bool=>true|_=>false)&&(match zeroOf P t with|some z=>vZ z.toList [.v (.bool false)]|none=>false)
 |.str=>jq P t&&(match P.underlying t with|some .string=>true|_=>false)&&(match zeroOf P t with|some z=>vZ z.toList [.v (.string ByteArray.empty)]|none=>false)
 |.row n fs z=>isRow P t n&&decide (n≠0)&&(match zeroOf P t with|some zz=>vZ zz.toList z|none=>false)&&(match P.underlying t with|some (.struct fl)=>pR P fl.toList fs|_=>false)
 |.slice e s b z=>jq P t&&decide (s≠0)&&decide (sliceOf P t=some (e,s))&&(match zeroOf P t with|some zz=>vZ zz.toList [.sl 0 []]|none=>false)&&(match Sw.elemOf P e with|some (zz,s',b')=>vZ zz.toList z&&decide (s'=s)&&decide (b'=b)&&decide (zz.size=s)|none=>false)
 |.arr n s one z=>isRow P t (n*s)&&decide (n*s≠0)&&(match zeroOf P t with|some zz=>vZ zz.toList z|none=>false)&&(match P.underlying t with|some (.array m e)=>decide (m=n)&&decide ((P.info? e).map (·.size)=some s)|_=>false)
 |.flat ks z=>isRow P t z.length&&decide (z.length≠0)&&(match zeroOf P t with|some zz=>vZ zz.toList z|none=>false)&&y8 P t ks
 |.glob k cs=>(match(Wld.gl P)[k]? with|some (g,us)=>Nat.beq (GK+g) t&&vZ us cs|none=>false)
 |.flag=>true
def dQ(P:Program)[Wld P](τ:Tab):Bool:=τ.all λp=>iQ P p.1 p.2
theorem Nl{α:Type}{t:Nat}{x:α}:∀{l:List (Nat×α)},ld t l=some x->(t,x)∈l
 |[],h=>by simp[ld]at h
 |(s,v)::r,h=>by
  simp only[ld]at h;cases hb:Nat.beq s t with
  |true =>
   rw[hb]at h;have:=jX hb;subst this;simp at h;subst h;simp
  |false =>
   rw[hb]at h;exact vX _ (Nl h)
theorem bU{P:Program}[Wld P]{τ:Tab}(h:dQ P τ=true){t:TypeId}{ti:TI}(ht:ld t τ=some ti):iQ P t ti=true :=
 oH.1 h _ (Nl ht)
theorem acB{u:Value}{c:Cell}(h:zOk u c=true)(w:World)(X:List Nat):RepC w X u c:=by
 unfold zOk at h;split at h
 .rename_i x y;have:=eq_of_beq h;subst this;exact .v _ rfl
 .simp only[gX,decide_eq_true_eq]at h;obtain⟨rfl,rfl⟩:=h;exact .v _ rfl
 .simp only[decide_eq_true_eq]at h;subst h;exact .v _ rfl
 .exact .nil _ _ _
 .exact .v _ rfl
 .exact .v _ rfl
 .cases h
theorem nP(w:World)(X:List Nat):∀{us:List Value} {cs:List Cell},vZ us cs=true->RepL w X us cs
 |[],[],_ => .nil _ _
 |u::r,c::l,h=>by
  simp only[vZ,gX]at h;exact .cons (acB h.1 w X) (nP w X h.2)
 |[],_::_,h=>by simp[vZ]at h
 |_::_,[],h=>by simp[vZ]at h
theorem zU{P:Program}:∀{fl:List Field} {fs:List (Nat×Nat×Bool)},pR P fl fs=true->∀{i:Nat} {x:Nat×Nat×Bool},fs[i]?=some x->∃f,fl[i]?=some f/\KF P f x=true
 |[],[],_,i,x,hx=>by simp at hx
 |f::r,y::l,h,i,x,hx=>by
  simp only[pR,gX]at h;cases i with
  |zero=>simp at hx;subst hx;exact⟨f,rfl,h.1⟩
  |succ i=>obtain⟨g,h1,h2⟩:=zU h.2 (i:=i) (x:=x) (by simpa using hx);exact⟨g,by simpa using h1,h2⟩
 |[],_::_,h,_,_,_=>by simp[pR]at h
 |_::_,[],h,_,_,_=>by simp[pR]at h
section
variable {P:Program} [Wld P] [Kp] [Gr] {τ:Tab} {N:Nat} {w0:World} {X0:List Nat} {S:List Bx} {M:MM} {a:Act} {w:World} {e:Env} {b:aZ}
variable {d:Option Nat} {ty:TypeId} {pos:String} {af:Array Edge} {gd:Option (Nat × Bool)} {k:AV->aZ->Prop}
def Good(P:Program)(w0:World)(X0:List Nat)(S:List Bx)(M:MM)(a:Act)(w:World)(o:Oper)(k:AV->aZ->Prop):Prop :=
 ∃v f,k v f/\Does P o a w (Post w0 X0 S M w (qN o) v f)
theorem Good.val{o:Oper}{v:AV}{u:Value}(h:MS w0 w S M)(hk:k v [])(hr:(execOp a.eval o).run P w=.ok (.value u) w)(hv:RepV w (bl S++X0) M u v):Good P w0 X0 S M a w o k :=
 ⟨v,[],hk,.inl ⟨u,w,hr,Post.pure h hv⟩⟩
theorem OC{v:Value}(h1:∀cs,v ≠ .agg cs)(h2:∀vs,v ≠ .tuple vs):v.oneCell'=true:=by
 cases v<;>first|rfl|(rename_i x;exact absurd rfl (h1 x))|(rename_i x;exact absurd rfl (h2 x))
theorem Sta.ev(h:Sta N w0 X0 S M a w e b){x:Operand}{v:AV}(hx:ae e x=some v):RepV w (bl S++X0) M (a.eval x) v:=by
 cases x with
 |tmp t=>exact h.env t v hx
 |const u =>
  simp only[ae,qH]at hx;subst hx;unfold cv;split
  .exact .any
  .exact .any
  .rename_i h1 h2;exact .d (.c (.v _ (OC (λcs e=>h1 cs e) (λvs e=>h2 vs e))))
 |func f =>
  simp only[ae,qH]at hx;subst hx;exact .d (.c (.v _ rfl))
 |global g =>
  simp only[ae,qH]at hx;subst hx;exact .gp
theorem RepV.v_{X:List Nat}{u x:Value}(h:RepV w X M u (.c (.v x))):u=x:=by
 cases h with
 |d h=>cases h with
  |c h=>cases h;rfl
theorem RepV.sl_{X:List Nat}{u:Value}{s:Nat}{es:List (List Cell)}(h:RepV w X M u (.c (.sl s es))):RepC w X u (.sl s es):=by
 cases h with
 |d h=>cases h with
  |c h=>exact h
theorem RepV.p_{X:List Nat}{u:Value}{cs:List Cell}(h:RepV w X M u (.c (.p cs))):∃g o us,u=.pointer (some ⟨g,o,none⟩)/\Cl w X (some ⟨g,o,none⟩) us/\RepL w X us cs:=by
 cases h with
 |d h=>cases h with
  |c h=>cases h with
   |p g o us cs hl hc hr=>exact⟨g,o,us,rfl,hc,hl,hr⟩
theorem RepV.gp_{X:List Nat}{u:Value}{g o:Nat}(h:RepV w X M u (.gp g o)):u=.pointer (some ⟨g,o,none⟩):=by
 cases h with
 |d h=>cases h
 |gp=>rfl
theorem RepV.agg_{X:List Nat}{u:Value}{cs:List Cell}(h:RepV w X M u (.agg cs)):∃us:List Value,u=.agg us.toArray/\RepL w X us cs:=by
 cases h with
 |d h=>cases h with
  |agg h=>exact⟨_,rfl,h⟩
theorem RepV.ptr_{X:List Nat}{u:Value}{i o:Nat}(h:RepV w X M u (.ptr i o)):∃m g,M i=some m/\m.isVar=true/\m.g=some g/\u=.pointer (some ⟨g,o,none⟩):=by
 cases h with
 |d h=>cases h
 |ptr hm hv hg=>exact⟨_,_,hm,hv,hg,rfl⟩
theorem RepV.pe_{X:List Nat}{u:Value}{c n i o:Nat}(h:RepV w X M u (.pe c n i o)):∃m,M c=some m/\m.isVar=false/\(m.n=n->∃g,m.g=some g/\u=.pointer (some ⟨g,i*m.s+o,none⟩)):=by
 cases h with
 |d h=>cases h
 |pe hm hv hle h=>exact⟨_,hm,hv,h⟩
theorem RepV.gs_{X:List Nat}{u:Value}{c n:Nat}(h:RepV w X M u (.gs c n)):∃m,M c=some m/\m.isVar=false/\(m.n=n->u=hdr m):=by
 cases h with
 |d h=>cases h
 |gs hm hv hle h hu=>exact⟨_,hm,hv,h⟩
theorem RepV.gs_len{X:List Nat}{u:Value}{c n:Nat}(h:RepV w X M u (.gs c n)):Ws u n:=by
 cases h with
 |d h=>cases h
 |gs hm hv hle h hu=>exact hu
theorem RepV.rd_{X:List Nat}{u:Value}{cs:List Cell}(h:RepV w X M u (.rd cs)):∃g o us,u=.pointer (some ⟨g,o,none⟩)/\Cl w X (some ⟨g,o,none⟩) us/\RepL w X us cs:=by
 cases h with
 |d h=>cases h
 |rd hc h=>exact⟨_,_,_,rfl,hc,h⟩
theorem VP{x:Operand}(h:Sta N w0 X0 S M a w e b)(hk:bZ (Den P) τ ⟨d,.move x,ty,pos,af,gd⟩ e b k):Good P w0 X0 S M a w ⟨d,.move x,ty,pos,af,gd⟩ k:=by
 unfold bZ at hk;cases hx:ae e x with
 |none=>simp[hx]at hk
 |some v=>simp only[hx]at hk;exact .val h.ms hk (bT rfl) (h.ev hx)
theorem Uf{x:Operand}(h:D6 x=true):x=.const (.slice none 0 0):=by
 unfold D6 at h;split at h
 .rfl
 .cases h
theorem TF{o:Oper}{x:Operand}{i T s:Nat}(h:nilA τ o x=some (i,T,s)):x=.const (.slice none 0 0)/\o.dst=some i/\∃by_ z,ld o.type τ=some (.slice T s by_ z):=by
 unfold nilA at h;split at h
 .rename_i h1;split at h
  .rename_i h2 h3 h4;cases h;exact⟨Uf h1,h4,_,_,h3⟩
  .cases h
 .cases h
theorem Nw{x:Operand}(hτ:dQ P τ=true)(h:Sta N w0 X0 S M a w e b)(hk:bZ (Den P) τ ⟨d,.assign x,ty,pos,af,gd⟩ e b k):Good P w0 X0 S M a w ⟨d,.assign x,ty,pos,af,gd⟩ k:=by
 unfold bZ at hk;simp only at hk;split at hk
 .rename_i i T s hn;obtain⟨rfl,hd,by_,z,ht⟩:=TF hn;have hd:d=some i:=hd
  have hs0:0<s:=by
   have h9:=bU hτ ht;simp only[iQ,gX,decide_eq_true_eq]at h9;have:=h9.1.1.1.2;omega
  refine⟨_,_,hk,.inl ⟨.slice none 0 0,w,jF rfl,S,M.set i ⟨false,true,none,T,s,0,0,[],none⟩,⟨h.ms.st,h.ms.gh.set (λx hx=>by cases hx) (λ_ _ _ _ _ _ _ h=>h) (λ_ _ _ h=>h) (λg' h1 h2=>by cases h2),λc mc hc hco gc hgc=>?_,λc c' mc mc' gc h1 h2 h3 h4 h5 h6=>?_⟩,Ext.refl _ _,.gs (MM.set_same _ _ _) rfl (jg _) (λ_=>rfl) ⟨_,_,rfl⟩,λc hc=>MM.set_other _ _ (by simpa using hc),λc m hm hc=>⟨m, ?_,Comp.refl m⟩,λc y hy=>?_⟩⟩
  .by_cases hci:c=i
   .subst hci;rw[MM.set_same]at hc;cases hc;cases hgc
   .rw[MM.set_other _ _ hci]at hc;exact h.ms.inS c mc hc hco gc hgc
  .by_cases hci:c=i
   .subst hci;rw[MM.set_same]at h1;cases h1;cases h5
   .by_cases hci':c'=i
    .subst hci';rw[MM.set_same]at h2;cases h2;cases h6
    .rw[MM.set_other _ _ hci]at h1;rw[MM.set_other _ _ hci']at h2;exact h.ms.inj c c' mc mc' gc h1 h2 h3 h4 h5 h6
  .have hne:c≠i:=λe=>hc (by subst e;simp[qN,DF,D6,wQ,hd])
   rw[MM.set_other _ _ hne];exact hm
  .simp only[pI,ou]at hy;obtain⟨rfl,rfl⟩:=hy;exact⟨_,MM.set_same _ _ _,rfl,rfl,rfl,⟨rfl,hs0⟩,rfl,.inl ⟨rfl,rfl,rfl⟩⟩
 cases hx:ae e x with
 |none=>simp[hx]at hk
 |some v=>simp only[hx]at hk;exact .val h.ms hk (jF rfl) (h.ev hx)
theorem Vp{x y z:Operand}(h:Sta N w0 X0 S M a w e b)(hk:bZ (Den P) τ ⟨d,.pick x y z,ty,pos,af,gd⟩ e b k):Good P w0 X0 S M a w ⟨d,.pick x y z,ty,pos,af,gd⟩ k:=by
 unfold bZ at hk;simp only at hk;split at hk
 .rename_i p hx;have hxv:=(h.ev hx).v_;have hb:(match ae e (cond p y z)with|some v=>k v []|none=>False):=by cases p<;>first|exact hk.t rfl|exact hk.f rfl
  cases hq:ae e (cond p y z)with
  |none=>simp[hq]at hb
  |some v =>
   simp only[hq]at hb;refine .val h.ms hb ?_ (h.ev hq);cases p<;>simp[execOp,hxv,asBool]
 .cases hk
theorem Jz{x:Operand}{i:Nat}(h:Sta N w0 X0 S M a w e b)(hk:bZ (Den P) τ ⟨d,.extract x i,ty,pos,af,gd⟩ e b k):Good P w0 X0 S M a w ⟨d,.extract x i,ty,pos,af,gd⟩ k:=by
 unfold bZ at hk;simp only at hk;split at hk
 .rename_i vs hx;cases hi:vs[i]? with
  |none=>simp[hi]at hk
  |some v =>
   simp only[hi]at hk;have hxv:=h.ev hx;generalize hu:a.eval x=u at hxv;cases hxv with
   |d hd=>cases hd
   |tup hl hh =>
    rename_i us;have hlt:i<us.length:=by rw[hl];exact(qG.1 hi).1
    have hui:us[i]?=some us[i]:=pW hlt;refine .val h.ms hk (CV hu (v:=us[i]) (by simpa using hui)) ?_;rcases hh i _ _ hui hi with h1|h1
    .exact .d h1
    .exact h1.v
 .cases hk
theorem ab6{t:TypeId}{x:Operand}(h:Sta N w0 X0 S M a w e b)(hk:bZ (Den P) τ ⟨d,.unOp .not t x,ty,pos,af,gd⟩ e b k):Good P w0 X0 S M a w ⟨d,.unOp .not t x,ty,pos,af,gd⟩ k:=by
 unfold bZ at hk;simp only at hk;split at hk
 .rename_i p hx;exact .val h.ms hk (afH (h.ev hx).v_) (.d (.c (.v _ rfl)))
 .cases hk
theorem Io{x:Operand}(h:Sta N w0 X0 S M a w e b)(hk:bZ (Den P) τ ⟨d,.nilCheck x,ty,pos,af,gd⟩ e b k):Good P w0 X0 S M a w ⟨d,.nilCheck x,ty,pos,af,gd⟩ k:=by
 unfold bZ at hk;simp only at hk;split at hk
 .rename_i i o hx;have hv:=h.ev hx;obtain⟨m,g,_,_,_,ev⟩:=hv.ptr_;rw[ev]at hv;exact .val h.ms hk (by simp[execOp,ev]) hv
 .rename_i cs hx;have hv:=h.ev hx;obtain⟨g,o,us,ev,_⟩:=hv.rd_;rw[ev]at hv;exact .val h.ms hk (by simp[execOp,ev]) hv
 .rename_i cs hx;have hv:=h.ev hx;obtain⟨g,o,us,ev,_⟩:=hv.p_;rw[ev]at hv;exact .val h.ms hk (by simp[execOp,ev]) hv
 .rename_i g o hx;have hv:=h.ev hx;have ev:=hv.gp_;rw[ev]at hv;exact .val h.ms hk (by simp[execOp,ev]) hv
 .cases hk
theorem aaf{t:TypeId}{x:Operand}(h:Sta N w0 X0 S M a w e b)(hk:bZ (Den P) τ ⟨d,.unOp .neg t x,ty,pos,af,gd⟩ e b k):Good P w0 X0 S M a w ⟨d,.unOp .neg t x,ty,pos,af,gd⟩ k:=by
 unfold bZ at hk;simp only at hk;split at hk
 .rename_i p q hx;exact .val h.ms hk (afv (h.ev hx).v_ rfl) (.d (.c (.v _ rfl)))
 .cases hk
theorem Z9{t:TypeId}{ki:IntKind}(h:iQ P t (.int ki)=true):P.underlying t=some (.int ki):=by
 simp only[iQ,gX,decide_eq_true_eq]at h;have h2:=h.1.2;unfold X5 at h2;split at h2
 .rename_i k' hu;simp at h2;rw[hu,h2]
 .cases h2
theorem adT{ρ:Operand->Value}{t u:TypeId}{x y:Operand}{ki kj:IntKind}{a b:Int}(hx:ρ x=.int ki a)(hy:ρ y=.int kj b)(hb:0<=b):
 (execOp ρ ⟨d,.binOp .shl t x y u,ty,pos,af,gd⟩).run P w=.ok (.value (.int ki (ki.wrap (a*2^(min b.toNat ki.bits))))) w:=by
 have:¬ b<0:=ω
 simp[execOp,hx,hy,eqGuard,binOp,Op.shift,this]
theorem aeT{ρ:Operand->Value}{t u:TypeId}{x y:Operand}{ki kj:IntKind}{a b:Int}(hx:ρ x=.int ki a)(hy:ρ y=.int kj b)(hb:0<=b):
 (execOp ρ ⟨d,.binOp .shr t x y u,ty,pos,af,gd⟩).run P w=.ok (.value (.int ki (a.fdiv (2^(min b.toNat ki.bits))))) w:=by
 have:¬ b<0:=ω
 simp[execOp,hx,hy,eqGuard,binOp,Op.shift,this]
theorem aeC{ρ:Operand->Value}{t u:TypeId}{x y:Operand}{ki:IntKind}{a b:Int}(hx:ρ x=.int ki a)(hy:ρ y=.int ki b):
 (execOp ρ ⟨d,.binOp .and t x y u,ty,pos,af,gd⟩).run P w=.ok (.value (.int ki (AL ki a b))) w:=by
 simp[execOp,hx,hy,eqGuard,binOp,Op.intBits,AL]
theorem aiZ{ρ:Operand->Value}{t u:TypeId}{x y:Operand}{ki:IntKind}{a b:Int}(hx:ρ x=.int ki a)(hy:ρ y=.int ki b):
 (execOp ρ ⟨d,.binOp .or t x y u,ty,pos,af,gd⟩).run P w=.ok (.value (.int ki (orI ki a b))) w:=by
 simp[execOp,hx,hy,eqGuard,binOp,Op.intBits,orI]
theorem FY{t:TypeId}{ks:List Nat}(h:dQ P τ=true)(ht:uz t τ=some ks):y8 P t ks=true:=by
 have:∃z,(t,TI.flat ks z)∈τ:=by
  clear h;induction τ with
  |nil=>cases ht
  |cons x r ih =>
   obtain⟨s,ti⟩:=x;have key:uz t r=some ks->∃z,(t,TI.flat ks z)∈(s,ti)::r:=λht=>by obtain⟨z,hz⟩:=ih ht;exact⟨z,vX _ hz⟩
   cases ti with
   |flat ks' z =>
    cases hb:Nat.beq s t with
    |true =>
     have:=jX hb;subst this;simp only[uz,hb,cond_true,qH]at ht;subst ht;exact⟨_,List.mem_cons_self⟩
    |false =>
     simp only[uz,hb,cond_false]at ht;exact key ht
   |int _=>exact key ht
   |bool=>exact key ht
   |str=>exact key ht
   |row _ _ _=>exact key ht
   |slice _ _ _ _=>exact key ht
   |arr _ _ _ _=>exact key ht
   |glob _ _=>exact key ht
   |flag=>exact key ht
 obtain⟨z,hz⟩:=this;have:=oH.1 h _ hz;simp only[iQ,gX]at this;exact this.2
inductive EqV:Nat->Value->Value->Bool->Prop where
 |int (k1:IntKind) (m1 n1:Int):EqV 0 (.int k1 m1) (.int k1 n1) (decide (m1=n1))
 |bool (p1 q1:Bool):EqV 1 (.bool p1) (.bool q1) (p1 == q1)
 |str (s1 s2:ByteArray):EqV 2 (.string s1) (.string s2) (s1 == s2)
theorem GY{t:TypeId}{b:Nat}{d:Nat}(h1:kindOk P t b=true){x y:Value}{q:Bool}(hxy:EqV b x y q):
 (Op.equalIn (d+1) t x y).run P w=.ok q w:=by
 unfold kindOk at h1;cases hxy with
 |int k m n =>
  split at h1<;>first|cases h1|skip
  all_goals first|(rename_i hu _;simp[Op.equalIn,run_underlying hu];rfl)|simp at *
 |bool p q =>
  split at h1<;>first|cases h1|skip
  all_goals first|(rename_i hu _;simp[Op.equalIn,run_underlying hu];done)|simp at *
 |str a b =>
  split at h1<;>first|cases h1|skip
  all_goals first|(rename_i hu _;simp[Op.equalIn,run_underlying hu];done)|simp at *
def nR:List Nat->List Value->List Value->Option Bool
 |[],[],[]=>some true
 |0::ks,.int k a::r,.int k' b::r'=>(match decide (k=k'),nR ks r r' with|true,some q=>some (decide (a=b)&&q)|_,_=>none)
 |1::ks,.bool p::r,.bool p'::r'=>(match nR ks r r' with|some q=>some ((p == p')&&q)|none=>none)
 |2::ks,.string a::r,.string b::r'=>(match nR ks r r' with|some q=>some ((a == b)&&q)|none=>none)
 |_,_,_=>none
theorem uZ{b:Nat}{ks:List Nat}{us vs:List Value}{q:Bool}(h:nR (b::ks) us vs=some q):
 ∃x us' y vs' e q',us=x::us'/\vs=y::vs'/\q=(e&&q')/\nR ks us' vs'=some q'/\EqV b x y e:=by
 unfold nR at h;split at h
 .exact absurd (by assumption:b::ks=[]) η
 .rename_i hbk;injection hbk with h1 h2
  subst h1 h2;split at h
  .rename_i hk hq;have hkk:=of_decide_eq_true hk;subst hkk;injection h with h
   exact⟨_,_,_,_,_,_,rfl,rfl,h.symm,hq,.int _ _ _⟩
  .cases h
 .rename_i hbk;injection hbk with h1 h2
  subst h1 h2;split at h
  .rename_i hq;injection h with h
   exact⟨_,_,_,_,_,_,rfl,rfl,h.symm,hq,.bool _ _⟩
  .cases h
 .rename_i hbk;injection hbk with h1 h2
  subst h1 h2;split at h
  .rename_i hq;injection h with h
   exact⟨_,_,_,_,_,_,rfl,rfl,h.symm,hq,.str _ _⟩
  .cases h
 .cases h
theorem uT{b:Nat}{ks:List Nat}{us vs:List Value}{x y:Value}{e q:Bool}(he:EqV b x y e)(h:nR ks us vs=some q):nR (b::ks) (x::us) (y::vs)=some (e&&q):=by
 cases he<;>simp[nR,h]
theorem oN{t:TypeId}(h:jq P t=true)(cs:Array Value)(off:Nat){v:Value}(hv:cs[off]?=some v):(part t cs off).run P w=.ok v w:=by
 simp[part,qK h,hv]
theorem Fe{α:Type}{l r:List α}{o:Nat}{x:α}(h:l.drop o=x::r):l[o]?=some x/\l.drop (o+1)=r:=by
 constructor
 .have:=congrArg (λl=>l[0]?) h;simpa using this
 .have:=congrArg (List.drop 1) h;simpa[MR]using this
theorem FB{d:Nat}(us vs:List Value):∀(l:List Field) (ks:List Nat) (o:Nat) (q:Bool),aoq P o l ks=true->nR ks (us.drop o) (vs.drop o)=some q ->
 (forIn l ((none:Option Bool),()) (λf __s=>(if f.name = "_" then pure (ForInStep.yield (none,()))
  else do
   let __do_lift <-part f.type us.toArray f.offset
   let __do_lift_1 <-part f.type vs.toArray f.offset
   let __do_lift <-Op.equalIn (d+1) f.type __do_lift __do_lift_1
   if __do_lift=false then pure (ForInStep.done (some false,()))else pure (ForInStep.yield (none,())):Sem (ForInStep (Option Bool×Unit))))).run P w=.ok (if q then(none,())else(some false,())) w
 |[],[],o,q,_,h=>by
  unfold nR at h;split at h<;>first|(injection h with h;subst h;simp)|cases h|simp_all
 |[],_::_,o,q,hf,_=>by simp[aoq]at hf
 |_::_,[],o,q,hf,_=>by simp[aoq]at hf
 |f::r,b::ks,o,q,hf,h=>by
  simp only[aoq,gX,decide_eq_true_eq]at hf;obtain⟨⟨⟨⟨f1,f2⟩,f3⟩,f4⟩,f5⟩:=hf;obtain⟨x,us',y,vs',e,q',hu,hv,rfl,hq,he⟩:=uZ h;obtain⟨u1,u2⟩:=Fe hu;obtain⟨v1,v2⟩:=Fe hv;have ih:=FB (d:=d) us vs r ks (o+1) q' f5 (by rw[u2,v2];exact hq);have hp1:(part f.type us.toArray f.offset).run P w=.ok x w:=oN f3 _ _ (by rw[f2];simpa using u1);have hp2:(part f.type vs.toArray f.offset).run P w=.ok y w:=oN f3 _ _ (by rw[f2];simpa using v1);have he':=GY (P:=P) (w:=w) (t:=f.type) (d:=d) f4 he;rw[List.forIn_cons];simp only[f1,if_false,Sem.run_bind,hp1,hp2,he',Result.andThen_ok];cases e with
  |false=>simp
  |true=>simp only[if_false,Bool.true_eq_false,Sem.run_pure,Result.andThen_ok,ZC];exact ih
theorem aat{t:TypeId}{fl:Array Field}{d:Nat}{ks:List Nat}(hu:P.underlying t=some (.struct fl))(hs:P.stoodInHeld t=false)(hf:aoq P 0 fl.toList ks=true)(us vs:List Value){q:Bool}(h:nR ks us vs=some q):
 (Op.equalIn (d+2) t (.agg us.toArray) (.agg vs.toArray)).run P w=.ok q w:=by
 unfold Op.equalIn;simp[run_underlying hu,hs];rw[<-Array.forIn_toList,FB us vs fl.toList ks 0 q hf (by simpa using h)];cases q<;>simp
theorem CZ:∀(m:Nat) {ks:List Nat} {us vs:List Value} {q:Bool},m<=ks.length->nR ks us vs=some q ->
 ∃q1 q2,nR (ks.take m) (us.take m) (vs.take m)=some q1/\nR (ks.drop m) (us.drop m) (vs.drop m)=some q2/\q=(q1&&q2)
 |0,ks,us,vs,q,_,h=>⟨true,q,by simp[nR],by simpa using h,η⟩
 |m+1,[],us,vs,q,hm,h=>by simp at hm
 |m+1,b::ks,us,vs,q,hm,h=>by
  obtain⟨x,us',y,vs',e,q',rfl,rfl,rfl,hq,he⟩:=uZ h;obtain⟨q1,q2,h1,h2,h3⟩:=CZ m (ks:=ks) (by simpa using hm) hq;refine⟨e&&q1,q2, ?_,by simpa using h2,by rw[h3,Bool.and_assoc]⟩;simp only[List.take_succ_cons];exact uT he h1
theorem GH{t:TypeId}{n:Nat}(h:isRow P t n=true)(us:List Value)(off:Nat):(part t us.toArray off).run P w=.ok (.agg ((us.drop off).take n).toArray) w:=by
 simp only[part,Sem.run_bind,qJ h,Result.andThen_ok,if_true,oV h,Sem.run_pure];congr 2;apply Jv;rw[Array.toList_extract,List.extract_eq_drop_take];simp
theorem wR{d:Nat}(us vs:List Value):∀(l:List Field) (ks:List Nat) (o:Nat) (q:Bool),DR P o l ks=true->nR ks (us.drop o) (vs.drop o)=some q ->
 (forIn l ((none:Option Bool),()) (λf __s=>(if f.name = "_" then pure (ForInStep.yield (none,()))
  else do
   let __do_lift <-part f.type us.toArray f.offset
   let __do_lift_1 <-part f.type vs.toArray f.offset
   let __do_lift <-Op.equalIn (d+2) f.type __do_lift __do_lift_1
   if __do_lift=false then pure (ForInStep.done (some false,()))else pure (ForInStep.yield (none,())):Sem (ForInStep (Option Bool×Unit))))).run P w=.ok (if q then(none,())else(some false,())) w
 |[],[],o,q,_,h=>by
  unfold nR at h;split at h<;>first|(injection h with h;subst h;simp)|cases h|simp_all
 |[],_::_,o,q,hf,_=>by simp[DR]at hf
 |f::r,ks,o,q,hf,h=>by
  simp only[DR,gX,decide_eq_true_eq]at hf;obtain⟨⟨f1,f2⟩,hf⟩:=hf;rw[List.forIn_cons];split at hf
  .rename_i fl hu;simp only[gX,Jh,decide_eq_true_eq]at hf;obtain⟨⟨⟨⟨g1,g2⟩,g3⟩,g4⟩,g5⟩:=hf;obtain⟨q1,q2,h1,h2,h3⟩:=CZ fl.size g3 h;rw[MR]at h2;rw[MR]at h2;have hp1:=GH (w:=w) g2 us f.offset;have hp2:=GH (w:=w) g2 vs f.offset;have he':=aat (w:=w) (d:=d) hu g1 g4 ((us.drop f.offset).take fl.size) ((vs.drop f.offset).take fl.size) (by rw[f2];exact h1);have ih:=wR (d:=d) us vs r (ks.drop fl.size) (o+fl.size) q2 g5 h2;subst h3;simp only[f1,if_false,Sem.run_bind,hp1,hp2,he',Result.andThen_ok];cases q1 with
   |false=>simp
   |true=>simp only[if_false,Bool.true_eq_false,Sem.run_pure,Result.andThen_ok,ZC];exact ih
  .split at hf
   .rename_i b ks';simp only[gX]at hf;obtain⟨⟨f3,f4⟩,f5⟩:=hf;obtain⟨x,us',y,vs',e,q',hu,hv,hqq,hq,he⟩:=uZ h;obtain⟨u1,u2⟩:=Fe hu;obtain⟨v1,v2⟩:=Fe hv;have ih:=wR (d:=d) us vs r ks' (o+1) q' f5 (by rw[u2,v2];exact hq);have hp1:(part f.type us.toArray f.offset).run P w=.ok x w:=oN f3 _ _ (by rw[f2];simpa using u1);have hp2:(part f.type vs.toArray f.offset).run P w=.ok y w:=oN f3 _ _ (by rw[f2];simpa using v1);have he':=GY (P:=P) (w:=w) (t:=f.type) (d:=d+1) f4 he;subst hqq;simp only[f1,if_false,Sem.run_bind,hp1,hp2,he',Result.andThen_ok];cases e with
    |false=>simp
    |true=>simp only[if_false,Bool.true_eq_false,Sem.run_pure,Result.andThen_ok,ZC];exact ih
   .cases hf
theorem Ye{t:TypeId}{fl:Array Field}{d:Nat}{ks:List Nat}(hu:P.underlying t=some (.struct fl))(hs:P.stoodInHeld t=false)(hf:DR P 0 fl.toList ks=true)(us vs:List Value){q:Bool}(h:nR ks us vs=some q):
 (Op.equalIn (d+3) t (.agg us.toArray) (.agg vs.toArray)).run P w=.ok q w:=by
 unfold Op.equalIn;simp[run_underlying hu,hs];rw[<-Array.forIn_toList,wR us vs fl.toList ks 0 q hf (by simpa using h)];cases q<;>simp
theorem JE{e:TypeId}{d:Nat}(h1:jq P e=true)(us vs:List Value):∀(ks:List Nat) (o:Nat) (q:Bool),ks.all (kindOk P e)=true->nR ks (us.drop o) (vs.drop o)=some q ->
 (forIn (List.range' o ks.length) ((none:Option Bool),()) (λi __s=>(do
  let __do_lift <-part e us.toArray (i*1)
  let __do_lift_1 <-part e vs.toArray (i*1)
  let __do_lift <-Op.equalIn (d+1) e __do_lift __do_lift_1
  if __do_lift=false then pure (ForInStep.done (some false,()))else pure (ForInStep.yield (none,())):Sem (ForInStep (Option Bool×Unit))))).run P w=.ok (if q then(none,())else(some false,())) w
 |[],o,q,_,h=>by
  unfold nR at h;split at h<;>first|(injection h with h;subst h;simp)|cases h|simp_all
 |b::ks,o,q,hf,h=>by
  simp only[List.all_cons,gX]at hf;obtain⟨x,us',y,vs',ee,q',hu,hv,hqq,hq,he⟩:=uZ h;obtain⟨u1,u2⟩:=Fe hu;obtain⟨v1,v2⟩:=Fe hv;have ih:=JE (d:=d) h1 us vs ks (o+1) q' hf.2 (by rw[u2,v2];exact hq);have hp1:(part e us.toArray (o*1)).run P w=.ok x w:=oN h1 _ _ (by simpa using u1);have hp2:(part e vs.toArray (o*1)).run P w=.ok y w:=oN h1 _ _ (by simpa using v1);have he':=GY (P:=P) (w:=w) (t:=e) (d:=d) hf.1 he;subst hqq;simp only[ji,List.range'_succ,List.forIn_cons,Sem.run_bind,hp1,hp2,he',Result.andThen_ok];cases ee with
  |false=>simp
  |true=>simp only[if_false,Bool.true_eq_false,Sem.run_pure,Result.andThen_ok,ZC];exact ih
theorem ZY{t e:TypeId}{n d:Nat}{ks:List Nat}(hu:P.underlying t=some (.array n e))(h1:jq P e=true)(hn:ks.length=n)(hf:ks.all (kindOk P e)=true)(us vs:List Value){q:Bool}(h:nR ks us vs=some q):
 (Op.equalIn (d+2) t (.agg us.toArray) (.agg vs.toArray)).run P w=.ok q w:=by
 subst hn;unfold Op.equalIn;have h2:=JE (w:=w) (d:=d) h1 us vs ks 0 q hf (by simpa using h);simp[run_underlying hu,DZ h1];simp at h2;rw[h2];cases q<;>simp
theorem P5{t:TypeId}{ks:List Nat}{us vs:List Value}{q:Bool}(hf:y8 P t ks=true)(h:nR ks us vs=some q):P.eqGuardType P.depth t=false/\(Op.equal t (.agg us.toArray) (.agg vs.toArray)).run P w=.ok q w:=by
 unfold y8 at hf;split at hf
 .rename_i fl hu;simp only[gX,Jh]at hf;exact⟨hf.2.1,Ye (P:=P) (w:=w) (d:=9997) hu hf.1 hf.2.2 us vs h⟩
 .rename_i n e hu;simp only[gX,Jh,decide_eq_true_eq]at hf;exact⟨hf.1,ZY (P:=P) (w:=w) (d:=9998) hu hf.2.1 hf.2.2.1 hf.2.2.2 us vs h⟩
 .cases hf
theorem aeW{ρ:Operand->Value}{t u:TypeId}{x y:Operand}{ks:List Nat}{us vs:List Value}{q:Bool}(hf:y8 P t ks=true)(hx:ρ x=.agg us.toArray)(hy:ρ y=.agg vs.toArray)(h:nR ks us vs=some q):
 (execOp ρ ⟨d,.binOp .eql t x y u,ty,pos,af,gd⟩).run P w=.ok (.value (.bool q)) w:=by
 obtain⟨h1,h2⟩:=P5 (w:=w) hf h;simp[execOp,hx,hy,eqGuard,binOp,h1,h2]
theorem aeo{ρ:Operand->Value}{t u:TypeId}{x y:Operand}{ks:List Nat}{us vs:List Value}{q:Bool}(hf:y8 P t ks=true)(hx:ρ x=.agg us.toArray)(hy:ρ y=.agg vs.toArray)(h:nR ks us vs=some q):
 (execOp ρ ⟨d,.binOp .neq t x y u,ty,pos,af,gd⟩).run P w=.ok (.value (.bool (!q))) w:=by
 obtain⟨h1,h2⟩:=P5 (w:=w) hf h;simp[execOp,hx,hy,eqGuard,binOp,h1,h2]
theorem RepL.vcons{X:List Nat}{us:List Value}{u:Value}{cs:List Cell}(h:RepL w X us (.v u::cs)):∃us',us=u::us'/\RepL w X us' cs:=by
 have hl:=h.len;cases us with
 |nil=>simp at hl
 |cons x r =>
  have h0:=h.get 0 x (.v u) η η
  have hx:x=u:=by
   generalize hc:Cell.v u=c at h0;cases h0 with
   |v _ _=>injection hc with hc;exact hc.symm
   |sl=>cases hc
   |p=>cases hc
   |fn=>cases hc
  subst hx;exact⟨r,rfl,by simpa using hl,λj y c h1 h2=>h.get (j+1) y c (by simpa using h1) (by simpa using h2)⟩
theorem Ri{X:List Nat}:∀{ks:List Nat} {us vs:List Value} {cs ds:List Cell} {q:Bool},RepL w X us cs->RepL w X vs ds->ZF ks cs ds=some q->nR ks us vs=some q:=by
 intro ks;induction ks with
 |nil =>
  intro us vs cs ds q h1 h2 h;unfold ZF at h;split at h
  .have e1:=h1.len;have e2:=h2.len;simp at e1 e2;subst e1 e2;exact h
  all_goals first|cases h|simp_all
 |cons b ks ih =>
  intro us vs cs ds q h1 h2 h;unfold ZF at h;split at h
  .simp_all
  .rename_i hbk;injection hbk with e1 e2
   subst e1 e2;split at h
   .rename_i hk hq;have hkk:=of_decide_eq_true hk;subst hkk;injection h with h
    obtain⟨u1,rfl,r1⟩:=h1.vcons;obtain⟨u2,rfl,r2⟩:=h2.vcons;subst h;exact uT (.int _ _ _) (ih r1 r2 hq)
   .cases h
  .rename_i hbk;injection hbk with e1 e2
   subst e1 e2;split at h
   .rename_i hq;injection h with h
    obtain⟨u1,rfl,r1⟩:=h1.vcons;obtain⟨u2,rfl,r2⟩:=h2.vcons;subst h;exact uT (.bool _ _) (ih r1 r2 hq)
   .cases h
  .rename_i hbk;injection hbk with e1 e2
   subst e1 e2;split at h
   .rename_i hq;injection h with h
    obtain⟨u1,rfl,r1⟩:=h1.vcons;obtain⟨u2,rfl,r2⟩:=h2.vcons;subst h;exact uT (.str _ _) (ih r1 r2 hq)
   .cases h
  .cases h
theorem boolT{t:TypeId}(h:iQ P t .bool=true):P.underlying t=some .bool:=by
 simp only[iQ,gX]at h;have h2:=h.1.2;split at h2
 .assumption
 .cases h2
theorem SX{t:TypeId}(h:iQ P t .str=true):P.underlying t=some .string:=by
 simp only[iQ,gX]at h;have h2:=h.1.2;split at h2
 .assumption
 .cases h2
theorem abR{ρ:Operand->Value}{t u:TypeId}{x y:Operand}{a b:ByteArray}(hx:ρ x=.string a)(hy:ρ y=.string b)(hb:a.size+b.size<=9223372036854775807):
 (execOp ρ ⟨d,.binOp .add t x y u,ty,pos,af,gd⟩).run P w=.ok (.value (.string (a++b))) w:=by
 have:¬((a.size+b.size:Nat):Int)>9223372036854775807:=ω
 have h2:IntKind.i64.max=9223372036854775807:=ψ
 simp[execOp,hx,hy,eqGuard,binOp,Op.stringOp,h2];omega
theorem aeQ{ρ:Operand->Value}{t u:TypeId}{x y:Operand}{a b:ByteArray}(hx:ρ x=.string a)(hy:ρ y=.string b):
 (execOp ρ ⟨d,.binOp .eql t x y u,ty,pos,af,gd⟩).run P w=.ok (.value (.bool (a.toList == b.toList))) w:=by
 simp[execOp,hx,hy,eqGuard,binOp,Op.stringOp]
theorem aeM{ρ:Operand->Value}{t u:TypeId}{x y:Operand}{a b:ByteArray}(hx:ρ x=.string a)(hy:ρ y=.string b):
 (execOp ρ ⟨d,.binOp .neq t x y u,ty,pos,af,gd⟩).run P w=.ok (.value (.bool (!(a.toList == b.toList)))) w:=by
 simp[execOp,hx,hy,eqGuard,binOp,Op.stringOp]
theorem aa0{op:BinOp}{t u:TypeId}{x y:Operand}(hτ:dQ P τ=true)(h:Sta N w0 X0 S M a w e b)(hk:bZ (Den P) τ ⟨d,.binOp op t x y u,ty,pos,af,gd⟩ e b k):Good P w0 X0 S M a w ⟨d,.binOp op t x y u,ty,pos,af,gd⟩ k:=by
 unfold bZ at hk;simp only at hk;split at hk
 .rename_i p q hx hy;have hxe:=(h.ev hx).v_;have hye:=(h.ev hy).v_;split at hk
  .rename_i ht;exact .val h.ms hk (afx (boolT (bU hτ ht)) hxe hye) (.d (.c (.v _ rfl)))
  .rename_i ht;exact .val h.ms hk (aeR (boolT (bU hτ ht)) hxe hye) (.d (.c (.v _ rfl)))
  .cases hk
 .rename_i cs ds hx hy;split at hk
  .rename_i ks hf;split at hk
   .rename_i q hq;obtain⟨us,hxe,hl⟩:=(h.ev hx).agg_;obtain⟨vs,hye,hm⟩:=(h.ev hy).agg_;exact .val h.ms hk (aeW (FY hτ hf) hxe hye (Ri hl hm hq)) (.d (.c (.v _ rfl)))
   .cases hk
  .rename_i ks hf;split at hk
   .rename_i q hq;obtain⟨us,hxe,hl⟩:=(h.ev hx).agg_;obtain⟨vs,hye,hm⟩:=(h.ev hy).agg_;exact .val h.ms hk (aeo (FY hτ hf) hxe hye (Ri hl hm hq)) (.d (.c (.v _ rfl)))
   .cases hk
  .cases hk
 .rename_i p q _ _ hx hy;have hxv:=h.ev hx;have hyv:=h.ev hy;have hp:∀(ki:IntKind) (n:Int),RepV w (bl S++X0) M (.int ki n) (.c (.v (.int ki n))):=λ_ _ => .d (.c (.v _ rfl))
  have hq:∀(c:Bool),RepV w (bl S++X0) M (.bool c) (.c (.v (.bool c))):=λ_ => .d (.c (.v _ rfl))
  unfold DT at hk
  split at hk<;>first
   |exact False.elim hk|(have hxe:=hxv.v_;have hye:=hyv.v_;exact .val h.ms hk.k (adT hxe hye hk.p) (hp _ _))|(have hxe:=hxv.v_;have hye:=hyv.v_;exact .val h.ms hk.k (aeT hxe hye hk.p) (hp _ _))|(have hxe:=hxv.v_;have hye:=hyv.v_;exact .val h.ms hk.k (abR hxe hye hk.p) (.d (.c (.v _ rfl))))|(have hxe:=hxv.v_;have hye:=hyv.v_;exact .val h.ms hk (aeQ hxe hye) (hq _))|(have hxe:=hxv.v_;have hye:=hyv.v_;exact .val h.ms hk (aeM hxe hye) (hq _))
   |(split at hk<;>first
    |exact False.elim hk
    |(rename_i hd;have hkk:=of_decide_eq_true hd;subst hkk;have hxe:=hxv.v_;have hye:=hyv.v_;first
     |exact .val h.ms hk (dX hxe hye rfl) (hp _ _)|exact .val h.ms hk (iI hxe hye rfl) (hp _ _)|exact .val h.ms hk (zT hxe hye rfl) (hp _ _)|exact .val h.ms hk.k (zJ hxe hye hk.p rfl) (hp _ _)|exact .val h.ms hk.k (Ep hxe hye hk.p rfl) (hp _ _)|exact .val h.ms hk (aeC hxe hye) (hp _ _)|exact .val h.ms hk (aiZ hxe hye) (hp _ _)|exact .val h.ms hk (qF hxe hye) (hq _)|exact .val h.ms hk (aeX hxe hye) (hq _)|exact .val h.ms hk (I4 hxe hye) (hq _)|exact .val h.ms hk (uo hxe hye) (hq _)|exact .val h.ms hk (Y8 hxe hye) (hq _)|exact .val h.ms hk (afq hxe hye) (hq _)))
 .cases hk
def Mem(w:World)(ad:Addr)(us:List Value):Prop:=∀(j:Nat) u,us[j]?=some u->w.cell? (ad.add j)=some u
theorem Mem.drop{ad:Addr}{us:List Value}(h:Mem w ad us)(n:Nat):Mem w (ad.add n) (us.drop n):=λj u hu=>by
 rw[add_add'];exact h _ u (by rwa [Pj]at hu)
theorem Mem.of_row{g:Nat}{us:List Value}{T:TypeId}(hg:w.heap[g]?=some (.cells us.toArray T (0,0))):Mem w ⟨g,0,none⟩ us:=λj u hu=>by
 rw[Addr.add_lit,uY,cell_of_row w g j us.toArray T _ hg];simpa using hu
theorem Mem.of_cl{X:List Nat}{ad:Addr}{us:List Value}(h:Cl w X (some ad) us):Mem w ad us:=λj u hu=>by
 obtain⟨ad',h1,h2⟩:=h.at_ hu;cases h1;exact h2
theorem Sta.row(h:Sta N w0 X0 S M a w e b){i:Nat}{m:MB}{g:Nat}(hm:M i=some m)(ho:m.own=true)(hg:m.g=some g):w.heap[g]?=some (.cells m.us.toArray m.T (0,0)) :=
 (h.ms.st.box _ (h.ms.inS i m hm ho g hg)).1
theorem Dn{X:List Nat}{ρ:Operand->Value}{d:Option Nat}{t:TypeId}{x:Operand}{ti:TI}{ad:Addr}{us:List Value}{cs:List Cell}{v:AV}(ht:iQ P t ti=true)(hx:ρ x=.pointer (some ad))(hm:Mem w ad us)(hr:RepL w X us cs)(hv:jd ti cs=some v):
 ∃u,(execOp ρ ⟨d,.load t x,ty,pos,af,gd⟩).run P w=.ok (.value u) w/\RepV w X M u v:=by
 have big:∀n,isRow P t n=true->takeN n cs=(match v with|.agg l=>some l|_=>none)->(∃l,v=.agg l)->∃u,(execOp ρ ⟨d,.load t x,ty,pos,af,gd⟩).run P w=.ok (.value u) w/\RepV w X M u v:=by
  rintro n hrow ht ⟨l,rfl⟩;obtain⟨rfl,hn⟩:=oO ht;have hlen:(us.take n).length=n:=by rw[xB,hr.len];omega
  exact⟨_,CW (cs:=(us.take n).toArray) (by simp only[Yx,hlen];exact hrow) hx (λj u hu=>hm j u (by
   simp only[TM,Pz]at hu;split at hu
   .exact hu
   .cases hu)),.d (.agg (hr.take n))⟩
 have small:jq P t=true->(∃c r,cs=c::r/\v=.c c)->∃u,(execOp ρ ⟨d,.load t x,ty,pos,af,gd⟩).run P w=.ok (.value u) w/\RepV w X M u v:=by
  rintro hone ⟨c,r,rfl,rfl⟩;obtain⟨u,r',rfl,h1,h2⟩:=hr.inv;have:=hm 0 u rfl;have hz:ad.add 0=ad:=by simp[Addr.add]
  rw[hz]at this;exact⟨u,iP hone hx this,.d (.c h1)⟩
 cases ti with
 |row n fs z =>
  simp only[iQ,gX]at ht;simp only[jd]at hv;cases hq:takeN n cs with
  |none=>simp[hq]at hv
  |some l =>
   simp only[hq,qH]at hv;subst hv;exact big n ht.1.1.1 hq ⟨l,rfl⟩
 |arr n s one z =>
  simp only[iQ,gX]at ht;simp only[jd]at hv;cases hq:takeN (n*s) cs with
  |none=>simp[hq]at hv
  |some l =>
   simp only[hq,qH]at hv;subst hv;exact big _ ht.1.1.1 hq ⟨l,rfl⟩
 |flat ks z=>cases hv
 |glob k z=>cases hv
 |flag=>cases hv
 |int ki =>
  simp only[iQ,gX]at ht;exact small ht.1.1 (by cases cs with|nil=>cases hv|cons c r=>exact⟨c,r,rfl,(UU hv).symm⟩)
 |bool =>
  simp only[iQ,gX]at ht;exact small ht.1.1 (by cases cs with|nil=>cases hv|cons c r=>exact⟨c,r,rfl,(UU hv).symm⟩)
 |str =>
  simp only[iQ,gX]at ht;exact small ht.1.1 (by cases cs with|nil=>cases hv|cons c r=>exact⟨c,r,rfl,(UU hv).symm⟩)
 |slice e' s by_ z =>
  simp only[iQ,gX]at ht;exact small ht.1.1.1.1 (by cases cs with|nil=>cases hv|cons c r=>exact⟨c,r,rfl,(UU hv).symm⟩)
theorem Sta.elems(h:Sta N w0 X0 S M a w e b){i:Nat}{x:Bk}{s:Nat}{es:List (List Cell)}(hx:ld i b=some x)(hg:(∃T,x=.grow T s es)\/x=.froz s es):
 ∃m,M i=some m/\m.isVar=false/\(m.s=s/\0<s)/\m.n=es.length/\∀(j:Nat) cs,es[j]?=some cs->∃g us,m.g=some g/\Mem w ⟨g,j*s,none⟩ us/\RepL w (bl S++X0) us cs:=by
 obtain⟨m,hm,hR⟩:=h.box i x hx;rcases hg with⟨T,rfl⟩|rfl
 .obtain⟨h1,h2,h3,h4,h5,h6⟩:=hR;refine⟨m,hm,h1,h4,h5,λj cs hj=>?_⟩;rcases h6 with⟨_,rfl,_⟩|⟨g,uss,rest,g1,g2,g3,g4,g5,g6⟩
  .simp at hj
  .have hlt:j<uss.length:=by rw[g3.len];exact(qG.1 hj).1
   have huj:uss[j]?=some uss[j]:=pW hlt;refine⟨g,uss[j],g1,λq u hu=>?_,g3.get j _ _ huj hj⟩;have hsz:=g3.sz _ (qbJ hlt);have hqs:q<s:=by rw[<-hsz];exact(qG.1 hu).1
   rw[Addr.add_lit,cell_of_row w g _ _ _ _ (h.row hm h2 g1)];rw[TM,g2];have hfl:=iZ g3.sz huj q hqs;rw[UA,hfl]
   .exact hu
   .rw[<-hfl]at hu;exact(qG.1 hu).1
 .obtain⟨h1,h2,h3,h4⟩:=hR;refine⟨m,hm,h1,h2,h3,λj cs hj=>?_⟩;obtain⟨A,cap,uss,ha,_,_,hcl,hS⟩:=RepS.of_sl h4;have hlt:j<uss.length:=by rw[hS.len];exact(qG.1 hj).1
  have huj:uss[j]?=some uss[j]:=pW hlt;have hsz:=hS.sz _ (qbJ hlt);unfold hdr at ha;injection ha with ha1 ha2 ha3
  subst ha1;cases hgg:m.g with
  |none =>
   have hl0:0<(uss[j]).length:=by rw[hsz];exact h2.2
   have hfl:=iZ hS.sz huj 0 h2.2;obtain⟨ad,had,_⟩:=hcl.at_ (hfl.trans (pW hl0));rw[hgg]at had;cases had
  |some g =>
   refine⟨g,uss[j],rfl,λq u hu=>?_,hS.get j _ _ huj hj⟩;have hqs:q<s:=by rw[<-hsz];exact(qG.1 hu).1
   have hfl:=iZ hS.sz huj q hqs;obtain⟨ad,had,hc⟩:=hcl.at_ (hfl.trans hu);rw[hgg]at had;cases had;rw[Addr.add_lit]at hc ⊢;simpa using hc
end
end Go.Sw
