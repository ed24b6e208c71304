/-
  Rules of the abstract run, plain laws, and what functions answer, for the law TopRepaired.
  Conditions: none.
-/
import Derived.Test.YtmniihkenijjpaaGreatDoorW14
import Derived.ChangeSame
import Derived.Shelf.LaysM
import Derived.Shelf.Strconv.Itoa1
import Derived.Shelf.Strconv.Itoa2
import Derived.Lib.Walk
import Derived.Lib.ItoaMem
import Derived.Lib.ItoaLen
import Derived.Lib.AppendIntMem
import Derived.WalkKit
import Derived.BigCall
import Derived.BigGuard
import Derived.Shelf.Strings.Repeat
import Derived.Lib.Builder
import Derived.Shelf.Strings.Builder1
set_option linter.all false
namespace Go.Sw
open Go Go.Lib Go.RowKit
end Go.Sw
namespace Go.Sw
open Go Go.Lib
end Go.Sw
namespace Go.Sw
open Go
open Go.RowKit
def xarg(bx:Bxs)(v:AV):Option (AV×Bxs) :=
 match v with
 |.c (.v (.slice none 0 0))=>some (.c (.sl 0 []),[])
 |.c x=>some (.c x,[])
 |.agg cs=>some (.agg cs,[])
 |.gs b n=>(match ld b bx with
  |some (.grow _ s es)=>(match Nat.beq n es.length with|true=>some (.c (.sl s es),[(b,.froz s es)])|false=>none)
  |some (.froz s es)=>(match Nat.beq n es.length with|true=>some (.c (.sl s es),[])|false=>none)
  |_=>none)
 |.ptr b o=>(match ld b bx with
  |some (.var cs)=>some (.c (.p (aaz o cs)),[(b,.fvar cs)])
  |some (.fvar cs)=>some (.c (.p (aaz o cs)),[])
  |_=>none)
 |.rd cs=>some (.c (.p cs),[])
 |_=>none
theorem iF{bx:Bxs}{v v':AV}{f:Bxs}{k:AV->Bxs->Prop}(h:xarg bx v=some (v',f))(hk:k v' f):aa9 bx v k:=by
 unfold xarg at h;unfold aa9;split at h
 .cases h;exact hk
 .rename_i x hx;cases h;split<;>first|exact hk|simp_all
 .cases h;exact hk
 .split at h
  .rename_i h1;split at h
   .rename_i h2;cases h;simp only[h1];exact⟨iO h2,hk⟩
   .cases h
  .rename_i h1;split at h
   .rename_i h2;cases h;simp only[h1];exact⟨iO h2,hk⟩
   .cases h
  .cases h
 .split at h
  .rename_i h1;cases h;simp only[h1,abV];exact hk
  .rename_i h1;cases h;simp only[h1,abV];exact hk
  .cases h
 .cases h;exact hk
 .cases h
def yh:List AV->Bxs->Option (List AV×Bxs)
 |[],_=>some ([],[])
 |v::r,bx=>match xarg bx v with
  |some (v',f)=>(match yh r (ups f bx)with
   |some (vs,g)=>some (v'::vs,f++g)
   |none=>none)
  |none=>none
theorem rO:∀{l:List AV} {bx:Bxs} {vs:List AV} {f:Bxs} {k:List AV->Bxs->Prop},yh l bx=some (vs,f)->k vs f->abe l bx k
 |[],bx,vs,f,k,h,hk=>by cases h;exact hk
 |v::r,bx,vs,f,k,h,hk=>by
  simp only[yh]at h;split at h
  .rename_i v' f' h1;split at h
   .rename_i vs' g h2;cases h;exact iF h1 (rO h2 hk)
   .cases h
  .cases h
def sN(e:Env):List (Nat×Operand)->Bxs->Option (List (Nat×List Cell)×Bxs)
 |[],_=>some ([],[])
 |(i,x)::r,bx=>match ae e x with
  |some v=>(match xarg bx v with
   |some (v',f)=>(match sN e r (ups f bx)with
    |some (vs,g)=>some ((i,cellsOf v')::vs,f++g)
    |none=>none)
   |none=>none)
  |none=>none
theorem jD{e:Env}:∀{l:List (Nat×Operand)} {bx:Bxs} {vs:List (Nat×List Cell)} {f:Bxs} {k:List (Nat×List Cell)->Bxs->Prop},sN e l bx=some (vs,f)->k vs f->abH e l bx k
 |[],bx,vs,f,k,h,hk=>by cases h;exact hk
 |(i,x)::r,bx,vs,f,k,h,hk=>by
  simp only[sN]at h;simp only[abH];split at h
  .rename_i v h0;simp only[h0];split at h
   .rename_i v' f' h1;split at h
    .rename_i vs' g h2;cases h;exact iF h1 (jD h2 hk)
    .cases h
   .cases h
  .cases h
def SB(op:BinOp)(x y:AV):Option AV :=
 match op,x,y with
 |.add,.c (.v (.int ki a)),.c (.v (.int kj b))=>(match decide (ki=kj)with|true=>some (.int ki (ki.wrap (a+b)))|false=>none)
 |.sub,.c (.v (.int ki a)),.c (.v (.int kj b))=>(match decide (ki=kj)with|true=>some (.int ki (ki.wrap (a-b)))|false=>none)
 |.mul,.c (.v (.int ki a)),.c (.v (.int kj b))=>(match decide (ki=kj)with|true=>some (.int ki (ki.wrap (a*b)))|false=>none)
 |.shl,.c (.v (.int ki a)),.c (.v (.int _ b))=>(match decide (0<=b)with|true=>some (.int ki (ki.wrap (a*2^(min b.toNat ki.bits))))|false=>none)
 |.shr,.c (.v (.int ki a)),.c (.v (.int _ b))=>(match decide (0<=b)with|true=>some (.int ki (a.fdiv (2^(min b.toNat ki.bits))))|false=>none)
 |.and,.c (.v (.int ki a)),.c (.v (.int kj b))=>(match decide (ki=kj)with|true=>some (.int ki (adC ki a b))|false=>none)
 |.or,.c (.v (.int ki a)),.c (.v (.int kj b))=>(match decide (ki=kj)with|true=>some (.int ki (orI ki a b))|false=>none)
 |.quo,.c (.v (.int ki a)),.c (.v (.int kj b))=>(match decide (ki=kj),decide (b≠0)with|true,true=>some (.int ki (ki.wrap (a.tdiv b)))|_,_=>none)
 |.rem,.c (.v (.int ki a)),.c (.v (.int kj b))=>(match decide (ki=kj),decide (b≠0)with|true,true=>some (.int ki (a.tmod b))|_,_=>none)
 |.lss,.c (.v (.int ki a)),.c (.v (.int kj b))=>(match decide (ki=kj)with|true=>some (.bool (decide (a<b)))|false=>none)
 |.leq,.c (.v (.int ki a)),.c (.v (.int kj b))=>(match decide (ki=kj)with|true=>some (.bool (decide (a<=b)))|false=>none)
 |.gtr,.c (.v (.int ki a)),.c (.v (.int kj b))=>(match decide (ki=kj)with|true=>some (.bool (decide (a>b)))|false=>none)
 |.geq,.c (.v (.int ki a)),.c (.v (.int kj b))=>(match decide (ki=kj)with|true=>some (.bool (decide (a>=b)))|false=>none)
 |.eql,.c (.v (.int ki a)),.c (.v (.int kj b))=>(match decide (ki=kj)with|true=>some (.bool (decide (a=b)))|false=>none)
 |.neq,.c (.v (.int ki a)),.c (.v (.int kj b))=>(match decide (ki=kj)with|true=>some (.bool (!decide (a=b)))|false=>none)
 |.eql,.c (.v (.string a)),.c (.v (.string b))=>some (.bool (a.toList == b.toList))
 |.neq,.c (.v (.string a)),.c (.v (.string b))=>some (.bool (!(a.toList == b.toList)))
 |_,_,_=>none
theorem Nk{op:BinOp}{x y v:AV}{k:AV->Prop}(h:SB op x y=some v)(hk:k v):adJ op x y k:=by
 unfold SB at h;split at h
 all_goals first
  |(cases h;exact hk)|(cases h;done)|(unfold adJ;simp only;split at h<;>first|(rename_i h1;cases h;simp only[h1];exact hk)|(rename_i h1;cases h;simp only[h1];exact⟨by simpa using h1,hk⟩)|(rename_i h1;cases h;exact⟨of_decide_eq_true h1,hk⟩)|(rename_i h1 h2;cases h;simp only[h1];exact⟨of_decide_eq_true h2,hk⟩)|(cases h;done))
def Dt(es:List (List Cell)):Int->Option (List Cell)
 |.ofNat j=>es[j]?
 |.negSucc _=>none
theorem rM{es:List (List Cell)}{i:Int}{e:List Cell}{k:List Cell->Prop}(h:Dt es i=some e)(hk:k e):Elem es i k:=by
 cases i with
 |ofNat j=>exact⟨j,e,rfl,h,hk⟩
 |negSucc j=>cases h
section
variable (C:FuncId->List AV->Option AV) (τ:Tab)
def Ik(ti:TI)(a:AV)(bx:Bxs):Option AV :=
 match a with
 |.ptr b off=>(match ld b bx with
  |some (.var cs)=>aa0 ti (aaz off cs)
  |some (.fvar cs)=>aa0 ti (aaz off cs)
  |_=>none)
 |.rd cs=>aa0 ti cs
 |.c (.p cs)=>aa0 ti cs
 |.gp g off=>(match ld (GK+g) τ with
  |some (.glob _ cs)=>aa0 ti (aaz off cs)
  |_=>none)
 |.pe b n i off=>(match ld b bx with
  |some (.grow _ _ es)=>(match Nat.beq n es.length,es[i]? with|true,some cs=>aa0 ti (aaz off cs)|_,_=>none)
  |some (.froz _ es)=>(match Nat.beq n es.length,es[i]? with|true,some cs=>aa0 ti (aaz off cs)|_,_=>none)
  |_=>none)
 |_=>none
def O7(ti:TI)(b off:Nat)(cs:List Cell)(v:AV)(bx:Bxs):Option Bxs :=
 match xarg bx v with
 |some (v',f)=>(match f.any (λp=>Nat.beq p.1 b),szB ti (cellsOf v').length,abK off (cellsOf v') cs with
  |false,true,some cs'=>some (f++[(b,.var cs')])
  |_,_,_=>none)
 |none=>none
def BI(ti:TI)(a v:AV)(bx:Bxs):Option Bxs :=
 match a with
 |.ptr b off=>(match ld b bx with
  |some (.var cs)=>(match ahm τ,ag5 ti,afO v with
   |true,true,some (b',n)=>(match acw b' bx,abK off [.ob b' n] cs with
    |some m,some cs'=>(match Nat.beq n m with|true=>some [(b,.varo cs')]|false=>none)
    |_,_=>none)
   |_,_,_=>O7 ti b off cs v bx)
  |_=>none)
 |.pe b n i off=>(match ld b bx with
  |some (.grow T s es)=>(match xarg bx v with
   |some (v',[])=>(match Nat.beq n es.length,es[i]? with
    |true,some cs=>(match szB ti (cellsOf v').length,abK off (cellsOf v') cs with
     |true,some cs'=>some [(b,.grow T s (es.set i cs'))]
     |_,_=>none)
    |_,_=>none)
   |_=>none)
  |_=>none)
 |_=>none
def BG(fs:List (Nat×Nat×Bool))(i:Nat)(a:AV)(bx:Bxs):Option AV :=
 match fs[i]?,a with
 |some (off,_,_),.ptr b o'=>some (.ptr b (o'+off))
 |some (off,_,_),.pe b n j o'=>(match ld b bx with
  |some (.grow _ _ es)=>(match Nat.beq n es.length with|true=>some (.pe b n j (o'+off))|false=>none)
  |some (.froz _ es)=>(match Nat.beq n es.length with|true=>some (.pe b n j (o'+off))|false=>none)
  |_=>none)
 |some (off,_,_),.rd cs=>some (.rd (aaz off cs))
 |some (off,_,_),.c (.p cs)=>some (.rd (aaz off cs))
 |some (off,_,_),.gp g o'=>some (.gp g (o'+off))
 |_,_=>none
def SC(ti:TI)(a:AV)(i:Int)(bx:Bxs):Option AV :=
 match ti,a with
 |.slice _ s _ _,.c (.sl s' es)=>(match Nat.beq s s',Dt es i with
  |true,some cs=>some (.rd cs)
  |_,_=>none)
 |.slice _ s _ _,.gs b n=>(match ld b bx with
  |some (.grow _ s' es)=>(match Nat.beq s s',Nat.beq n es.length,Dt es i with
   |true,true,some _=>some (.pe b n i.toNat 0)
   |_,_,_=>none)
  |some (.froz s' es)=>(match Nat.beq s s',Nat.beq n es.length,Dt es i with
   |true,true,some cs=>some (.rd cs)
   |_,_,_=>none)
  |_=>none)
 |.arr n s _ _,.ptr b o'=>(match i with|.ofNat i=>(match Nat.blt i n with|true=>some (.ptr b (o'+i*s))|false=>none)|_=>none)
 |.arr n s _ _,.gp g o'=>(match i with|.ofNat i=>(match Nat.blt i n with|true=>some (.gp g (o'+i*s))|false=>none)|_=>none)
 |.arr n s _ _,.rd cs=>(match i with|.ofNat i=>(match Nat.blt i n with|true=>some (.rd (aaz (i*s) cs))|false=>none)|_=>none)
 |.arr n s _ _,.c (.p cs)=>(match i with|.ofNat i=>(match Nat.blt i n with|true=>some (.rd (aaz (i*s) cs))|false=>none)|_=>none)
 |_,_=>none
def MI(n:Nat)(lo hi mx:Option Int):Option (Nat×Nat) :=
 match lo.getD 0,hi.getD n,mx.getD n with
 |.ofNat a,.ofNat b,.ofNat m=>(match Nat.ble a b,Nat.ble b m,Nat.ble m n,!mx.isSome||hi.isSome with
  |true,true,true,true=>some (a,b)
  |_,_,_,_=>none)
 |_,_,_=>none
theorem D7{n:Nat}{lo hi mx:Option Int}{a b:Nat}{k:Nat->Nat->Prop}(h:MI n lo hi mx=some (a,b))(hk:k a b):SlP n lo hi mx k:=by
 unfold MI at h;split at h
 .rename_i a' b' m h1 h2 h3;split at h
  .rename_i g1 g2 g3 g4;cases h;refine⟨a,b,m,h1,h2,h3,Nat.le_of_ble_eq_true g1,Nat.le_of_ble_eq_true g2,Nat.le_of_ble_eq_true g3,λq=>?_,hk⟩;rw[q]at g4;exact g4
  .cases h
 .cases h
def O9(d:Option Nat)(r:AV):Option (AV×Bxs) :=
 match r with
 |.own T s es=>(match d with|some i=>some (.gs i es.length,[(i,.grow T s es)])|none=>none)
 |.tup vs=>(match vs.any abN with
  |false=>some (.tup vs,[])
  |true=>none)
 |r=>some (r,[])
theorem Og{d:Option Nat}{r v:AV}{f:Bxs}{k:AV->Bxs->Prop}(h:O9 d r=some (v,f))(hk:k v f):abC d r k:=by
 unfold O9 at h;unfold abC;split at h
 .split at h
  .cases h;exact hk
  .cases h
 .rename_i vs;split at h
  .rename_i h1;cases h;simp only[h1];exact hk
  .cases h
 .rename_i hx hy;cases h;split
  .exact absurd rfl (hx _ _ _)
  .exact absurd rfl (hy _)
  .exact hk
def Gw(o:Oper)(f:FuncId)(vs:List AV)(bx:Bxs):Option (AV×Bxs) :=
 match yh vs bx with
 |some (a_s,fz)=>(match C f a_s with
  |some r=>(match O9 o.dst r with
   |some (v,g)=>(match abO fz g with|true=>some (v,acu r fz++g)|false=>none)
   |none=>none)
  |none=>none)
 |none=>none
theorem IU{D:FuncId->List AV->AV->Prop}(hC:∀f xs r,C f xs=some r->D f xs r){o:Oper}{f:FuncId}{vs:List AV}{bx:Bxs}{v:AV}{fz:Bxs}{k:AV->Bxs->Prop}(h:Gw C o f vs bx=some (v,fz))(hk:k v fz):
 abe vs bx λa_s fz=>CallP D f a_s λr=>abC o.dst r λv g=>(match abO fz g with|true=>k v (acu r fz++g)|false=>False):=by
 unfold Gw at h;split at h
 .rename_i a_s fz' h1;split at h
  .rename_i r h2;split at h
   .rename_i v' g h3;split at h
    .rename_i h4;cases h;refine rO h1 ⟨r,hC _ _ _ h2,Og h3 ?_⟩;rw[h4];exact hk
    .cases h
   .cases h
  .cases h
 .cases h
theorem AL{b:Bool}{k:Bool->Prop}(h:k b):OnB b k:=by
 cases b with
 |true=>exact⟨λ_=>h,λq=>nomatch q⟩
 |false=>exact⟨λq=>(nomatch q),λ_=>h⟩
def SA(t:TypeId)(a:AV)(bx:Bxs):Option AV :=
 match ld t τ,a with
 |some (.slice _ _ _ _),.c (.sl _ es)=>some (.int .i64 (es.length:Nat))
 |some .str,.c (.v (.string s))=>some (.int .i64 (s.size:Nat))
 |some (.slice _ _ _ _),.gs b n=>(match ld b bx with
  |some (.grow _ s es)=>(match Nat.beq n es.length with|true=>some (.int .i64 (es.length:Nat))|false=>none)
  |some (.froz s es)=>(match Nat.beq n es.length with|true=>some (.int .i64 (es.length:Nat))|false=>none)
  |_=>none)
 |_,_=>none
def Pq(dst:Option Nat)(t:TypeId)(x y:AV)(bx:Bxs):Option (AV×Bxs) :=
 match ld t τ,y with
 |some (.slice T s by_ _),.c (.sl s' es')=>(match Nat.beq s s' with
  |true=>(match x with
   |.c (.v (.slice none 0 0))=>(match dst,Nat.ble (es'.length*(by_+1)) 140737488355328 with
    |some d,true=>some (.gs d es'.length,[(d,.grow T s es')])
    |_,_=>none)
   |.gs b n=>(match ld b bx with
    |some (.grow T' s'' es)=>(match Nat.beq T T',Nat.beq s s'',Nat.beq n es.length,Nat.ble ((es++es').length*(by_+1)) 140737488355328 with
     |true,true,true,true=>some (.gs b (es++es').length,[(b,.grow T s (es++es'))])
     |_,_,_,_=>none)
    |_=>none)
   |_=>none)
  |false=>none)
 |some (.slice T s by_ _),.gs c m=>(match x with
  |.gs b n=>(match xarg bx (.gs c m),ld b bx,Nat.beq b c with
   |some (.c (.sl s' es'),f),some (.grow T' s'' es),false=>(match Nat.beq T T',Nat.beq s s'',Nat.beq s s',Nat.beq n es.length,Nat.ble ((es++es').length*(by_+1)) 140737488355328 with
    |true,true,true,true,true=>some (.gs b (es++es').length,f++[(b,.grow T s (es++es'))])
    |_,_,_,_,_=>none)
   |_,_,_=>none)
  |.c (.v (.slice none 0 0))=>(match xarg bx (.gs c m),dst with
   |some (.c (.sl s' es'),f),some d=>(match Nat.beq s s',f.any (λp=>Nat.beq p.1 d),Nat.ble (es'.length*(by_+1)) 140737488355328 with
    |true,false,true=>some (.gs d es'.length,f++[(d,.grow T s es')])
    |_,_,_=>none)
   |_,_=>none)
  |_=>none)
 |_,_=>none
def Bq(o:Oper)(c:Call)(e:Env)(bx:Bxs):Option (AV×Bxs) :=
 match c.callee,aaZ (λx=>ae e x) c.args.toList with
 |.value x,some vs=>(match fnA e x,ab1 vs with
  |some (f,cap),none=>(match wrH τ f vs with
   |.no=>Gw C o f (vs++cap) bx
   |_=>none)
  |_,_=>none)
 |.builtin .len,some [a]=>(match c.argTypes.toList with
  |[t]=>(match SA τ t a bx with|some v=>some (v,[])|none=>none)
  |_=>none)
 |.builtin .append,some [x,y]=>(match c.argTypes.toList with
  |[t,t']=>(match Nat.beq t t' with|true=>Pq τ o.dst t x y bx|false=>none)
  |_=>none)
 |.builtin .min,some vs=>(match aaZ aez vs,vs with
  |some (a::r),(.c (.v (.int ki _))::_)=>some (.int ki (r.foldl (λx y=>if y<x then y else x) a),[])
  |_,_=>none)
 |.builtin .max,some vs=>(match aaZ aez vs,vs with
  |some (a::r),(.c (.v (.int ki _))::_)=>some (.int ki (r.foldl (λx y=>if y>x then y else x) a),[])
  |_,_=>none)
 |_,_=>none
def XP(op:BinOp)(t:TypeId)(x y:AV):Option AV :=
 match x,y with
 |.c (.v (.bool p)),.c (.v (.bool q))=>(match ld t τ,op with
  |some .bool,.eql=>some (.bool (p == q))
  |some .bool,.neq=>some (.bool (p != q))
  |_,_=>none)
 |.agg cs,.agg ds=>(match acB t τ,op with
  |some ks,.eql=>(match eqC ks cs ds with|some q=>some (.bool q)|none=>none)
  |some ks,.neq=>(match eqC ks cs ds with|some q=>some (.bool (!q))|none=>none)
  |_,_=>none)
 |a,b=>SB op a b
def Aj(e:Env)(t:TypeId)(ps:List (Nat×Operand))(bx:Bxs):Option (AV×Bxs) :=
 match ld t τ,ai9 τ,sN e ps bx with
 |some (.row _ fs z),false,some (vs,f)=>(match abv fs vs z with|some cs=>some (.agg cs,f)|none=>none)
 |some (.arr n s _ z),_,some (vs,f)=>(match abv (aek s n 0) vs z with|some cs=>some (.agg cs,f)|none=>none)
 |_,_,_=>none
def Xq(d:Option Nat)(e:Env)(t:TypeId)(n:Nat)(ps:List (Nat×Operand))(bx:Bxs):Option (AV×Bxs) :=
 match ld t τ,inOrder 0 ps,sN e ps bx with
 |some (.slice T s _ _),true,some (vs,f)=>(match adr s vs n,Nat.ble (n*s) 16777216 with
  |some es,true=>(match ahm τ||Nat.beq n 0,d with
   |true,some d=>(match f.any λp=>Nat.beq p.1 d with|false=>some (.gs d n,f++[(d,.grow T s es)])|true=>none)
   |true,none=>none
   |false,_=>some (.c (.sl s es),f))
  |_,_=>none)
 |_,_,_=>none
def XT(e:Env)(t:TypeId)(x:AV)(lo hi mx:Option Operand)(bx:Bxs):Option (AV×Bxs) :=
 match ld t τ,x,acQ e lo,acQ e hi,acQ e mx with
 |some (.slice _ s _ _),.c (.sl s' es),some lo,some hi,some mx=>(match Nat.beq s s',MI es.length lo hi mx with
  |true,some (a,b)=>some (.c (.sl s ((es.take b).drop a)),[])
  |_,_=>none)
 |some (.slice _ s _ _),.gs b n,some lo,some hi,some mx=>(match xarg bx (.gs b n)with
  |some (.c (.sl s' es),f)=>(match Nat.beq s s',MI es.length lo hi mx with
   |true,some (a,b)=>some (.c (.sl s ((es.take b).drop a)),f)
   |_,_=>none)
  |_=>none)
 |_,_,_,_,_=>none
def V5(o:Oper)(e:Env)(bx:Bxs):Option (AV×Bxs) :=
 match o.op with
 |.move x=>(match ae e x with|some v=>some (v,[])|none=>none)
 |.assign x=>(match ae e x with|some v=>some (v,[])|none=>none)
 |.pick c a b=>(match ae e c with
  |some (.c (.v (.bool p)))=>(match ae e (cond p a b)with|some v=>some (v,[])|none=>none)
  |_=>none)
 |.alloc t=>(match ld t τ,o.dst with
  |some ti,some d=>(match aft ti with|true=>some (.ptr d 0,[(d,.var (zeroCells ti))])|false=>none)
  |_,_=>none)
 |.box t x=>(match o.dst,ae e x with
  |some d,some v=>(match xarg bx v with
   |some (v',f)=>(match f.any λp=>Nat.beq p.1 d with|false=>some (.ptr d 0,f++[(d,.var (cellsOf v'))])|true=>none)
   |none=>none)
  |_,_=>none)
 |.load t x=>(match ld t τ,ae e x with
  |some ti,some a=>(match Ik τ ti a bx with|some v=>some (v,[])|none=>none)
  |_,_=>none)
 |.store t x y=>(match acS (ae e y),ld t τ,ae e x,ae e y with
  |none,some ti,some a,some v=>(match BI τ ti a v bx with|some f=>some (.any,f)|none=>none)
  |_,_,_,_=>none)
 |.fieldAddr t x i=>(match ld t τ,ae e x with
  |some (.row _ fs _),some a=>(match BG fs i a bx with|some v=>some (v,[])|none=>none)
  |_,_=>none)
 |.field t x i=>(match ld t τ,ae e x with
  |some (.row _ fs _),some (.agg cs)=>(match fs[i]? with
   |some (off,s,agg)=>(match takeN s (aaz off cs)with
    |some l=>(match agg with
     |true=>some (.agg l,[])
     |false=>(match l with|c::_=>some (.c c,[])|[]=>none))
    |none=>none)
   |none=>none)
  |_,_=>none)
 |.indexAddr t x y=>(match ld t τ,ae e x,ae e y with
  |some ti,some a,some (.c (.v (.int _ i)))=>(match SC ti a i bx with|some v=>some (v,[])|none=>none)
  |_,_,_=>none)
 |.index t x y=>(match ld t τ,ae e x,ae e y with
  |some .str,some (.c (.v (.string s))),some (.c (.v (.int _ (.ofNat j))))=>(match Nat.blt j s.size with
   |true=>some (.int .u8 ((s.data.toList.getD j 0).toNat:Nat),[])
   |false=>none)
  |_,_,_=>none)
 |.extract x i=>(match ae e x with
  |some (.tup vs)=>(match vs[i]? with|some v=>some (v,[])|none=>none)
  |_=>none)
 |.binOp op t x y u=>(match ae e x,ae e y with
  |some a,some b=>(match XP τ op t a b with|some v=>some (v,[])|none=>none)
  |_,_=>none)
 |.unOp .not t x=>(match ae e x with|some (.c (.v (.bool b)))=>some (.bool (!b),[])|_=>none)
 |.unOp .neg t x=>(match ae e x with|some (.c (.v (.int ki n)))=>some (.int ki (ki.wrap (0-n)),[])|_=>none)
 |.convert src dst x=>(match ld src τ,ld dst τ,ae e x with
  |some (.int _),some (.int ki),some (.c (.v (.int _ n)))=>some (.int ki (ki.wrap n),[])
  |_,_,_=>none)
 |.build t ps=>Aj τ e t ps.toList bx
 |.buildSlice t n ps=>Xq τ o.dst e t n ps.toList bx
 |.makeSlice t x y=>(match ld t τ,ae e x,ae e y,o.dst with
  |some (.slice T s by_ z),some (.c (.v (.int _ (.ofNat l)))),some (.c (.v (.int _ (.ofNat c)))),some d=>(match Nat.ble l c,Nat.ble (c*(by_+1)) 140737488355328 with
   |true,true=>some (.gs d l,[(d,.grow T s (List.replicate l z))])
   |_,_=>none)
  |_,_,_,_=>none)
 |.slice t x lo hi mx=>(match ae e x with|some a=>XT τ e t a lo hi mx bx|none=>none)
 |.nilCheck x=>(match ae e x with
  |some (.ptr b o)=>some (.ptr b o,[])
  |some (.rd cs)=>some (.rd cs,[])
  |some (.c (.p cs))=>some (.c (.p cs),[])
  |some (.gp g o')=>some (.gp g o',[])
  |_=>none)
 |.makeFunc fn first captured=>(match fn,first.toList,aaZ (λx=>ae e x) captured.toList with
  |.func g,[],some vs=>(match yh vs bx with
   |some (a_s,f)=>(match cellsAll a_s with|some cs=>some (.c (.fn g cs),f)|none=>none)
   |none=>none)
  |_,_,_=>none)
 |.call c=>Bq C τ o c e bx
 |_=>none
variable {C τ} {D:FuncId->List AV->AV->Prop}
theorem JR{ti:TI}{t:TypeId}{x:Operand}{a v:AV}{o:Oper}{e:Env}{bx:Bxs}{k:AV->Bxs->Prop}(ho:o.op=.load t x)(h1:ld t τ=some ti)(h2:ae e x=some a)(h:Ik τ ti a bx=some v)(hk:k v []):aop D τ o e bx k:=by
 unfold aop;simp only[ho,h1,h2];unfold Ik at h;split at h
 .split at h
  .rename_i h3;simp only[h3,h];exact hk
  .rename_i h3;simp only[h3,h];exact hk
  .cases h
 .simp only[h];exact hk
 .simp only[h];exact hk
 .split at h
  .rename_i h3;simp only[h3,h];exact hk
  .cases h
 .split at h
  .rename_i h3;split at h
   .rename_i h4 h5;simp only[h3];refine⟨iO h4,⟨_,_,rfl,h5, ?_⟩⟩;simp only[h];exact hk
   .cases h
  .rename_i h3;split at h
   .rename_i h4 h5;simp only[h3];refine⟨iO h4,⟨_,_,rfl,h5, ?_⟩⟩;simp only[h];exact hk
   .cases h
  .cases h
 .cases h
theorem EU{fs:List (Nat×Nat×Bool)}{n:Nat}{z:List Cell}{t:TypeId}{x:Operand}{i:Nat}{a v:AV}{o:Oper}{e:Env}{bx:Bxs}{k:AV->Bxs->Prop}(ho:o.op=.fieldAddr t x i)(h1:ld t τ=some (.row n fs z))(h2:ae e x=some a)(h:BG fs i a bx=some v)(hk:k v []):aop D τ o e bx k:=by
 unfold aop;simp only[ho,h1,h2];unfold BG at h;split at h
 .rename_i h3;cases h;simp only[h3];exact hk
 .rename_i h3;split at h
  .rename_i h4;split at h
   .rename_i h5;cases h;simp only[h3,h4];exact⟨iO h5,hk⟩
   .cases h
  .rename_i h4;split at h
   .rename_i h5;cases h;simp only[h3,h4];exact⟨iO h5,hk⟩
   .cases h
  .cases h
 .rename_i h3;cases h;simp only[h3];exact hk
 .rename_i h3;cases h;simp only[h3];exact hk
 .rename_i h3;cases h;simp only[h3];exact hk
 .cases h
theorem NT{ti:TI}{ki:IntKind}{t:TypeId}{x y:Operand}{i:Int}{a v:AV}{o:Oper}{e:Env}{bx:Bxs}{k:AV->Bxs->Prop}(ho:o.op=.indexAddr t x y)(h1:ld t τ=some ti)(h2:ae e x=some a)(h3:ae e y=some (.c (.v (.int ki i))))(h:SC ti a i bx=some v)(hk:k v []):aop D τ o e bx k:=by
 unfold aop;simp only[ho,h1,h2,h3];unfold SC at h;split at h
 .split at h
  .rename_i h4 h5;cases h;simp only[h4];exact rM h5 hk
  .cases h
 .split at h
  .rename_i h6;split at h
   .rename_i h4 h5 h7;cases h;simp only[h6,h4];exact⟨iO h5,rM h7 hk⟩
   .cases h
  .rename_i h6;split at h
   .rename_i h4 h5 h7;cases h;simp only[h6,h4];exact⟨iO h5,rM h7 hk⟩
   .cases h
  .cases h
 all_goals first
  |(cases h;done)
  |(split at h
    .split at h
     .rename_i h4;cases h;simp only[h4];exact hk
     .cases h
    .cases h)
theorem Fa{ti:TI}{t:TypeId}{x y:Operand}{a v:AV}{o:Oper}{e:Env}{bx f:Bxs}{k:AV->Bxs->Prop}(ho:o.op=.store t x y)(h0:acS (ae e y)=none)(h1:ld t τ=some ti)(h2:ae e x=some a)(h3:ae e y=some v)(h:BI τ ti a v bx=some f)(hk:k .any f):aop D τ o e bx k:=by
 unfold aop;rw[h3]at h0;simp only[ho,h1,h2,h3,h0];unfold BI at h;split at h
 .split at h
  .rename_i h5;split at h
   .rename_i g1 g2 g3;split at h
    .rename_i g4 g5;split at h
     .rename_i g6;cases h;simp only[h5,g1,g2,g3,g4,g5];exact⟨iO g6,hk⟩
     .cases h
    .cases h
   .rename_i hn;simp only[h5];unfold O7 at h;split at h
    .rename_i h6;split at h
     .rename_i h7 h8 h9;cases h;refine iF h6 ?_;simp only[h7,h8,h9];exact hk
     .cases h
    .cases h
  .cases h
 .split at h
  .rename_i h5;split at h
   .rename_i h6;split at h
    .rename_i h7 h8;split at h
     .rename_i h9 h10;cases h;simp only[h5];refine iF h6 ?_;simp only;refine⟨iO h7,⟨_,_,rfl,h8, ?_⟩⟩;simp only[h9,h10];exact hk
     .cases h
    .cases h
   .cases h
  .cases h
 .cases h
theorem KH{t:TypeId}{c:Call}{a v:AV}{o:Oper}{e:Env}{bx:Bxs}{k:AV->Bxs->Prop}(ho:o.op=.call c)(h0:c.callee=.builtin .len)(h1:aaZ (λx=>ae e x) c.args.toList=some [a])(h2:c.argTypes.toList=[t])(h:SA τ t a bx=some v)(hk:k v []):aop D τ o e bx k:=by
 unfold aop;unfold SA at h;split at h
 .rename_i h3;cases h;simp only[ho,h0,h1,h2,h3];exact hk
 .rename_i h3;cases h;simp only[ho,h0,h1,h2,h3];exact hk
 .rename_i h3;split at h
  .rename_i h4;split at h
   .rename_i h5;cases h;simp only[ho,h0,h1,h2,h3,h4];exact⟨iO h5,hk⟩
   .cases h
  .rename_i h4;split at h
   .rename_i h5;cases h;simp only[ho,h0,h1,h2,h3,h4];exact⟨iO h5,hk⟩
   .cases h
  .cases h
 .cases h
theorem KU{t t':TypeId}{c:Call}{x y v:AV}{o:Oper}{e:Env}{bx f:Bxs}{k:AV->Bxs->Prop}(ho:o.op=.call c)(h0:c.callee=.builtin .append)(h1:aaZ (λx=>ae e x) c.args.toList=some [x,y])(h2:c.argTypes.toList=[t,t'])(hb:Nat.beq t t'=true)(h:Pq τ o.dst t x y bx=some (v,f))(hk:k v f):aop D τ o e bx k:=by
 unfold aop;unfold Pq at h;split at h
 .rename_i h3;split at h
  .rename_i h4;split at h
   .split at h
    .rename_i h5 h6;cases h;simp only[ho,h0,h1,h2,hb,h3,h4,h5];exact⟨Nat.le_of_ble_eq_true h6,hk⟩
    .cases h
   .split at h
    .rename_i h5;split at h
     .rename_i h6 h7 h8 h9;cases h;simp only[ho,h0,h1,h2,hb,h3,h4,h5,h6,h7];exact⟨iO h8,Nat.le_of_ble_eq_true h9,hk⟩
     .cases h
    .cases h
   .cases h
  .cases h
 .rename_i h3;split at h
  .split at h
   .rename_i h4 h5 h6;split at h
    .rename_i g1 g2 g3 g4 g5;cases h;simp only[ho,h0,h1,h2,hb,h3];refine iF h4 ?_;simp only[h5,h6,g1,g2,g3];exact⟨iO g4,Nat.le_of_ble_eq_true g5,hk⟩
    .cases h
   .cases h
  .split at h
   .rename_i h4 h5;split at h
    .rename_i g1 g2 g3;cases h;simp only[ho,h0,h1,h2,hb,h3];refine iF h4 ?_;simp only[h5,g1,g2];exact⟨Nat.le_of_ble_eq_true g3,hk⟩
    .cases h
   .cases h
  .cases h
 .cases h
theorem Ez(hC:∀f xs r,C f xs=some r->D f xs r){c:Call}{v:AV}{o:Oper}{e:Env}{bx f:Bxs}{k:AV->Bxs->Prop}(ho:o.op=.call c)(h:Bq C τ o c e bx=some (v,f))(hk:k v f):aop D τ o e bx k:=by
 unfold Bq at h;split at h
 .rename_i h0 h1;split at h
  .rename_i h2 h3;split at h
   .rename_i h4;unfold aop;simp only[ho,h0,h1,h2,h3,h4];exact IU _ hC h hk
   .cases h
  .cases h
 .rename_i h0 h1;split at h
  .rename_i h2;split at h
   .rename_i h3;cases h;exact KH ho h0 h1 h2 h3 hk
   .cases h
  .cases h
 .rename_i h0 h1;split at h
  .rename_i h2;split at h
   .rename_i h3;exact KU ho h0 h1 h2 h3 h hk
   .cases h
  .cases h
 .rename_i h0 h1;split at h
  .rename_i h2;cases h;unfold aop;simp only[ho,h0,h1,h2];exact hk
  .cases h
 .rename_i h0 h1;split at h
  .rename_i h2;cases h;unfold aop;simp only[ho,h0,h1,h2];exact hk
  .cases h
 .cases h
theorem Qk{op:BinOp}{t u:TypeId}{x y:Operand}{a b v:AV}{o:Oper}{e:Env}{bx:Bxs}{k:AV->Bxs->Prop}(ho:o.op=.binOp op t x y u)(h1:ae e x=some a)(h2:ae e y=some b)(h:XP τ op t a b=some v)(hk:k v []):aop D τ o e bx k:=by
 unfold aop;unfold XP at h;split at h
 .split at h
  .rename_i h3;cases h;simp only[ho,h1,h2,h3];exact hk
  .rename_i h3;cases h;simp only[ho,h1,h2,h3];exact hk
  .cases h
 .split at h
  .rename_i h3;split at h
   .rename_i h4;cases h;simp only[ho,h1,h2,h3,h4];exact hk
   .cases h
  .rename_i h3;split at h
   .rename_i h4;cases h;simp only[ho,h1,h2,h3,h4];exact hk
   .cases h
  .cases h
 .rename_i hx hy;simp only[ho,h1,h2];exact Nk h hk
theorem FM{t:TypeId}{ps:Array (Nat×Operand)}{v:AV}{o:Oper}{e:Env}{bx f:Bxs}{k:AV->Bxs->Prop}(ho:o.op=.build t ps)(h:Aj τ e t ps.toList bx=some (v,f))(hk:k v f):aop D τ o e bx k:=by
 unfold aop;unfold Aj at h;split at h
 .rename_i h1 h2 h3;split at h
  .rename_i h4;cases h;simp only[ho,h1,h2];refine jD h3 ?_;simp only[h4];exact hk
  .cases h
 .rename_i h1 h3;split at h
  .rename_i h4;cases h;simp only[ho,h1];refine jD h3 ?_;simp only[h4];exact hk
  .cases h
 .cases h
theorem QH{t:TypeId}{n:Nat}{ps:Array (Nat×Operand)}{v:AV}{o:Oper}{e:Env}{bx f:Bxs}{k:AV->Bxs->Prop}(ho:o.op=.buildSlice t n ps)(h:Xq τ o.dst e t n ps.toList bx=some (v,f))(hk:k v f):aop D τ o e bx k:=by
 unfold aop;unfold Xq at h;split at h
 .rename_i h1 h2 h3;split at h
  .rename_i h4 h5;split at h
   .rename_i h6 h7;split at h
    .rename_i h8;cases h;simp only[ho,h1,h2];refine jD h3 ?_;simp only[h4,h5,h6,h7,h8];exact hk
    .cases h
   .cases h
   .rename_i h6;cases h;simp only[ho,h1,h2];refine jD h3 ?_;simp only[h4,h5,h6];exact hk
  .cases h
 .cases h
theorem QX{t:TypeId}{x:Operand}{lo hi mx:Option Operand}{a v:AV}{o:Oper}{e:Env}{bx f:Bxs}{k:AV->Bxs->Prop}(ho:o.op=.slice t x lo hi mx)(h0:ae e x=some a)(h:XT τ e t a lo hi mx bx=some (v,f))(hk:k v f):aop D τ o e bx k:=by
 unfold aop;unfold XT at h;split at h
 .rename_i h1 h2 h3 h4;split at h
  .rename_i h5 h6;cases h;simp only[ho,h0,h1,h2,h3,h4,h5];exact D7 h6 hk
  .cases h
 .rename_i h1 h2 h3 h4;split at h
  .rename_i h5;split at h
   .rename_i h6 h7;cases h;simp only[ho,h0,h1,h2,h3,h4];refine iF h5 ?_;simp only[h6];exact D7 h7 hk
   .cases h
  .cases h
 .cases h
theorem J5(hC:∀f xs r,C f xs=some r->D f xs r){v:AV}{o:Oper}{e:Env}{bx f:Bxs}{k:AV->Bxs->Prop}(h:V5 C τ o e bx=some (v,f))(hk:k v f):aop D τ o e bx k:=by
 unfold V5 at h;split at h
 .rename_i ho;split at h
  .rename_i h1;cases h;unfold aop;simp only[ho,h1];exact hk
  .cases h
 .rename_i ho;split at h
  .rename_i h1;cases h;unfold aop;simp only[ho,h1];exact hk
  .cases h
 .rename_i ho;split at h
  .rename_i h1;split at h
   .rename_i h2;cases h;unfold aop;simp only[ho,h1];refine AL ?_;simp only[h2];exact hk
   .cases h
  .cases h
 .rename_i ho;split at h
  .rename_i h1 h2;split at h
   .rename_i h3;cases h;unfold aop;simp only[ho,h1,h2,h3];exact hk
   .cases h
  .cases h
 .rename_i ho;split at h
  .rename_i h1 h2;split at h
   .rename_i h3;split at h
    .rename_i h4;cases h;unfold aop;simp only[ho,h1,h2];refine iF h3 ?_;simp only[h4];exact hk
    .cases h
   .cases h
  .cases h
 .rename_i ho;split at h
  .rename_i h1 h2;split at h
   .rename_i h3;cases h;exact JR ho h1 h2 h3 hk
   .cases h
  .cases h
 .rename_i ho;split at h
  .rename_i h0 h1 h2 h3;split at h
   .rename_i h4;cases h;exact Fa ho h0 h1 h2 h3 h4 hk
   .cases h
  .cases h
 .rename_i ho;split at h
  .rename_i h1 h2;split at h
   .rename_i h3;cases h;exact EU ho h1 h2 h3 hk
   .cases h
  .cases h
 .rename_i ho;split at h
  .rename_i h1 h2;split at h
   .rename_i h3;split at h
    .rename_i h4;split at h
     .cases h;unfold aop;simp only[ho,h1,h2,h3,h4];exact hk
     .split at h
      .cases h;unfold aop;simp only[ho,h1,h2,h3,h4];exact hk
      .cases h
    .cases h
   .cases h
  .cases h
 .rename_i ho;split at h
  .rename_i h1 h2 h3;split at h
   .rename_i h4;cases h;exact NT ho h1 h2 h3 h4 hk
   .cases h
  .cases h
 .rename_i ho;split at h
  .rename_i h1 h2 h3;split at h
   .rename_i h4;cases h;unfold aop;simp only[ho,h1,h2,h3];exact⟨_,rfl,by simpa using h4,hk⟩
   .cases h
  .cases h
 .rename_i ho;split at h
  .rename_i h1;split at h
   .rename_i h2;cases h;unfold aop;simp only[ho,h1,h2];exact hk
   .cases h
  .cases h
 .rename_i ho;split at h
  .rename_i h1 h2;split at h
   .rename_i h3;cases h;exact Qk ho h1 h2 h3 hk
   .cases h
  .cases h
 .rename_i ho;split at h
  .rename_i h1;cases h;unfold aop;simp only[ho,h1];exact hk
  .cases h
 .rename_i ho;split at h
  .rename_i h1;cases h;unfold aop;simp only[ho,h1];exact hk
  .cases h
 .rename_i ho;split at h
  .rename_i h1 h2 h3;cases h;unfold aop;simp only[ho,h1,h2,h3];exact hk
  .cases h
 .rename_i ho;exact FM ho h hk
 .rename_i ho;exact QH ho h hk
 .rename_i ho;split at h
  .rename_i h1 h2 h3 h4;split at h
   .rename_i h5 h6;cases h;unfold aop;simp only[ho,h1,h2,h3,h4];exact⟨_,_,rfl,rfl,Nat.le_of_ble_eq_true h5,Nat.le_of_ble_eq_true h6,hk⟩
   .cases h
  .cases h
 .rename_i ho;split at h
  .rename_i h1;exact QX ho h1 h hk
  .cases h
 .rename_i ho;split at h
  .rename_i h1;cases h;unfold aop;simp only[ho,h1];exact hk
  .rename_i h1;cases h;unfold aop;simp only[ho,h1];exact hk
  .rename_i h1;cases h;unfold aop;simp only[ho,h1];exact hk
  .rename_i h1;cases h;unfold aop;simp only[ho,h1];exact hk
  .cases h
 .rename_i ho;split at h
  .rename_i h1 h2;split at h
   .rename_i h3;split at h
    .rename_i h4;cases h;unfold aop;simp only[ho,h1,h2];refine rO h3 ?_;simp only[h4];exact hk
    .cases h
   .cases h
  .cases h
 .rename_i ho;exact Ez hC ho h hk
 .cases h
end
section
variable (C:FuncId->List AV->Option AV) (τ:Tab)
def Uw{α:Type}(ids:List Nat)(b:Bxs)(p:Option α):Option α :=
 match ids with
 |[]=>p
 |ids=>(match aa3 ids b with|false=>p|true=>none)
def Le(O:List Oper)(o:Oper)(e:Env)(b:Bxs):Option (Env×AV×Bxs×Lg) :=
 match o.guard with
 |none=>Uw (alO o) b (match V5 C τ o e b with|some (v,f)=>some (e,v,f,ae1 o e b v f)|none=>none)
 |some (j,want)=>match abP O j with
  |some t=>(match ld t e with
   |some (.c (.v (.bool p)))=>(match p == want with
    |true=>Uw (alO o) b (match V5 C τ o ((t,.bool p)::e) b with|some (v,f)=>some ((t,.bool p)::e,v,f,ae1 o ((t,.bool p)::e) b v f)|none=>none)
    |false=>some ((t,.bool p)::e,.bad,[],⟨[],[],[],[]⟩))
   |some .bad=>some (e,.bad,[],⟨[],[],[],[]⟩)
   |_=>none)
  |none=>none
def NS(O:List Oper):List Oper->Env->Bxs->Option (Env×Bxs)
 |[],e,b=>some (e,b)
 |o::r,e,b=>match Le C τ O o e b with
  |some (e,v,f,_)=>NS O r (acZ o v e) (ups f b)
  |none=>none
def Oi(O:List Oper):List Oper->Env->Bxs->List Lg->Option (Env×Bxs×List Lg)
 |[],e,b,lg=>some (e,b,lg)
 |o::r,e,b,lg=>match Le C τ O o e b with
  |some (e,v,f,l)=>Oi O r (apE o v e) (ups f b) (lg++[l])
  |none=>none
def PE(dr:Bool)(O:List Oper)(e:Env)(b:Bxs):Option (Env×Bxs) :=
 match dr with
 |false=>NS C τ O O e b
 |true=>Uw (als O) b (match Oi C τ O O (prep O e) b []with
  |some (e,b,lg)=>(match aiF O lg with|true=>some (e,b)|false=>none)
  |none=>none)
def Dz(F:Env->Bxs->Option (Ex×Env×Bxs)):Nat->Env->Bxs->Option (Ex×Env×Bxs)
 |0,_,_=>none
 |n+1,e,b=>match F e b with
  |some (.normal,e,b)=>Dz F n e b
  |r=>r
def uU(n:Nat):Code->Env->Bxs->Option (Ex×Env×Bxs)
 |.skip,e,b=>some (.normal,e,b)
 |.region _ ops dr,e,b=>(match PE C τ dr ops.toList e b with|some (e,b)=>some (.normal,e,b)|none=>none)
 |.seq x y,e,b=>(match uU n x e b with
  |some (.normal,e,b)=>uU n y e b
  |r=>r)
 |.cond c x y,e,b=>(match ae e c with
  |some (.c (.v (.bool p)))=>(match p with|true=>uU n x e b|false=>uU n y e b)
  |_=>none)
 |.block id x,e,b=>(match uU n x e b with
  |some (.exit i,e,b)=>(match Nat.beq i id with|true=>some (.normal,e,b)|false=>some (.exit i,e,b))
  |r=>r)
 |.loop x,e,b=>Dz (uU n x) n e b
 |.exit id,e,b=>some (.exit id,e,b)
 |.ret,e,b=>some (.ret,e,b)
 |_,_,_=>none
variable {C τ} {D:FuncId->List AV->AV->Prop}
theorem Bl{α:Type}{ids:List Nat}{b:Bxs}{q:Option α}{r:α}{p:Prop}(h:Uw ids b q=some r)(hk:q=some r->p):NB ids b p:=by
 cases ids with
 |nil=>exact hk h
 |cons i l =>
  unfold Uw at h;unfold NB;simp only at h ⊢;split at h
  .rename_i h1;rw[h1];exact hk h
  .cases h
theorem CP(hC:∀f xs r,C f xs=some r->D f xs r){O:List Oper}{o:Oper}{e e':Env}{b f:Bxs}{v:AV}{l:Lg}{k:Env->AV->Bxs->Lg->Prop}(h:Le C τ O o e b=some (e',v,f,l))(hk:k e' v f l):adQ D τ O o e b k:=by
 unfold Le at h;unfold adQ;split at h
 .rename_i h1;simp only[h1];refine Bl h λq=>?_
  split at q
  .rename_i h2;cases q;exact J5 hC h2 hk
  .cases q
 .rename_i h1;simp only[h1];split at h
  .rename_i h2;simp only[h2];split at h
   .rename_i h3;simp only[h3];refine AL ?_;split at h
    .rename_i h4;simp only[h4];refine Bl h λq=>?_
     split at q
     .rename_i h5;cases q;exact J5 hC h5 hk
     .cases q
    .rename_i h4;cases h;simp only[h4];exact hk
   .rename_i h3;cases h;simp only[h3];exact hk
   .cases h
  .cases h
theorem Dq(hC:∀f xs r,C f xs=some r->D f xs r){O:List Oper}{k:Env->Bxs->Prop}:∀{l:List Oper} {e e':Env} {b b':Bxs},NS C τ O l e b=some (e',b')->k e' b'->aer D τ O l e b k
 |[],e,e',b,b',h,hk=>by cases h;exact hk
 |o::r,e,e',b,b',h,hk=>by
  simp only[NS]at h;simp only[aer,ae8,acn];split at h
  .rename_i h1;exact CP hC h1 (Dq hC h hk)
  .cases h
theorem D5(hC:∀f xs r,C f xs=some r->D f xs r){O:List Oper}{k:Env->Bxs->List Lg->Prop}:∀{l:List Oper} {e e':Env} {b b':Bxs} {lg lg':List Lg},Oi C τ O l e b lg=some (e',b',lg')->k e' b' lg'->aen D τ O l e b lg k
 |[],e,e',b,b',lg,lg',h,hk=>by cases h;exact hk
 |o::r,e,e',b,b',lg,lg',h,hk=>by
  simp only[Oi]at h;simp only[aen,af5,acn];split at h
  .rename_i h1;exact CP hC h1 (D5 hC h hk)
  .cases h
theorem NU(hC:∀f xs r,C f xs=some r->D f xs r){dr:Bool}{O:List Oper}{e e':Env}{b b':Bxs}{k:Env->Bxs->Prop}(h:PE C τ dr O e b=some (e',b'))(hk:k e' b'):aex D τ dr O e b k:=by
 unfold PE at h;split at h
 .exact Dq hC h hk
 .simp only[aex,aee];refine Bl h λq=>?_
  split at q
  .rename_i h1;split at q
   .rename_i h2;cases q;exact D5 hC h1 ⟨h2,hk⟩
   .cases q
  .cases q
theorem zq{n:Nat}{x:Code}{Q:Ex->Env->Bxs->Prop}(ih:∀{e:Env} {b:Bxs} {z:Ex} {e':Env} {b':Bxs},uU C τ n x e b=some (z,e',b')->∀{Q:Ex->Env->Bxs->Prop},Q z e' b'->awp D τ x Q e b):
 ∀(m:Nat) {e:Env} {b:Bxs} {z:Ex} {e':Env} {b':Bxs},Dz (uU C τ n x) m e b=some (z,e',b')->Q z e' b'->Loop (awp D τ x) Q e b
 |0,e,b,z,e',b',h,hk=>by cases h
 |m+1,e,b,z,e',b',h,hk=>by
  simp only[Dz]at h;refine Loop.unroll ?_;split at h
  .rename_i h1;exact ih h1 (zq ih m h hk)
  .rename_i hn;refine ih h ?_;cases z with
   |normal=>exact absurd h (hn _ _)
   |ret=>exact hk
   |exit i=>exact hk
theorem ku(hC:∀f xs r,C f xs=some r->D f xs r)(n:Nat):∀(c:Code) {e:Env} {b:Bxs} {z:Ex} {e':Env} {b':Bxs},uU C τ n c e b=some (z,e',b')->∀{Q:Ex->Env->Bxs->Prop},Q z e' b'->awp D τ c Q e b
 |.skip,e,b,z,e',b',h,Q,hk=>by cases h;exact hk
 |.ret,e,b,z,e',b',h,Q,hk=>by cases h;exact hk
 |.exit id,e,b,z,e',b',h,Q,hk=>by cases h;exact hk
 |.region id ops dr,e,b,z,e',b',h,Q,hk=>by
  simp only[uU]at h;split at h
  .rename_i h1;cases h;exact NU hC h1 hk
  .cases h
 |.seq x y,e,b,z,e',b',h,Q,hk=>by
  simp only[uU]at h;simp only[awp];split at h
  .rename_i h1;exact ku hC n x h1 (ku hC n y h hk)
  .rename_i hn;refine ku hC n x h ?_;cases z with
   |normal=>exact absurd h (hn _ _)
   |ret=>exact hk
   |exit i=>exact hk
 |.cond c x y,e,b,z,e',b',h,Q,hk=>by
  simp only[uU]at h;simp only[awp];split at h
  .rename_i h1;simp only[h1];refine AL ?_;split at h
   .exact ku hC n x h hk
   .exact ku hC n y h hk
  .cases h
 |.block id x,e,b,z,e',b',h,Q,hk=>by
  simp only[uU]at h;simp only[awp];split at h
  .rename_i h1;refine ku hC n x h1 ?_;simp only;split at h
   .rename_i h2;cases h;simp only[h2];exact hk
   .rename_i h2;cases h;simp only[h2];exact hk
  .rename_i hn;refine ku hC n x h ?_;cases z with
   |normal=>exact hk
   |ret=>exact hk
   |exit i=>exact absurd h (hn _ _ _)
 |.loop x,e,b,z,e',b',h,Q,hk=>by
  simp only[uU]at h;simp only[awp];exact zq (ku hC n x) n h hk
 |.rangeFunc _ _ _ _,e,b,z,e',b',h,Q,hk=>by simp[uU]at h
 |.scope _,e,b,z,e',b',h,Q,hk=>by simp[uU]at h
 |.label _,e,b,z,e',b',h,Q,hk=>by simp[uU]at h
 |.goto _,e,b,z,e',b',h,Q,hk=>by simp[uU]at h
 |.refuse _,e,b,z,e',b',h,Q,hk=>by simp[uU]at h
end
section
variable (τ:Tab)
def Rn(e:Env)(b:Bxs)(r:ResultVar):Option AV :=
 match r with
 |.tmp t=>(match ld t e with|some v=>(match xarg b v with|some (v',_)=>some v'|none=>none)|none=>none)
 |.cell a t=>(match ld t τ,ld a e with
  |some ti,some (.ptr i 0)=>(match ld i b with|some (.var cs)=>aa0 ti cs|_=>none)
  |_,_=>none)
def Df(e:Env)(b:Bxs):List ResultVar->Option (List AV)
 |[]=>some []
 |r::l=>match Rn τ e b r with
  |some v=>(match Df e b l with|some vs=>some (v::vs)|none=>none)
  |none=>none
def Qw(fn:Func):Ex->Env->Bxs->Option AV
 |.ret,e,b=>(match Df τ e b fn.results.toList with|some vs=>some (aai vs)|none=>none)
 |.normal,e,b=>(match fn.results.toList with|[]=>some (.tup [])|_=>none)
 |_,_,_=>none
variable {τ}
theorem Lp{e:Env}{b:Bxs}{r:ResultVar}{v:AV}{k:AV->Prop}(h:Rn τ e b r=some v)(hk:k v):ae3 τ e b r k:=by
 unfold Rn at h;unfold ae3;split at h
 .split at h
  .rename_i h1;split at h
   .rename_i h2;cases h;simp only[h1];exact iF h2 hk
   .cases h
  .cases h
 .split at h
  .rename_i h1 h2;split at h
   .rename_i h3;simp only[h1,h2,h3,h];exact hk
   .cases h
  .cases h
theorem yB{e:Env}{b:Bxs}:∀{l:List ResultVar} {vs:List AV} {k:List AV->Prop},Df τ e b l=some vs->k vs->aeH τ e b l k
 |[],vs,k,h,hk=>by cases h;exact hk
 |r::l,vs,k,h,hk=>by
  simp only[Df]at h;simp only[aeH];split at h
  .rename_i h1;split at h
   .rename_i h2;cases h;exact Lp h1 (yB h2 hk)
   .cases h
  .cases h
theorem Ll{fn:Func}{z:Ex}{e:Env}{b:Bxs}{r:AV}(h:Qw τ fn z e b=some r):af7 τ fn r z e b:=by
 unfold Qw at h;unfold af7;split at h
 .split at h
  .rename_i h1;cases h;exact yB h1 ⟨rfl⟩
  .cases h
 .split at h
  .rename_i h1;cases h;simp only[h1];exact⟨rfl⟩
  .cases h
 .cases h
end
def PD(P:Program)(τ:FuncId->Tab)(C:FuncId->List AV->Option AV)(n:Nat):Nat->FuncId->List AV->Option AV
 |0,f,xs=>C f xs
 |m+1,f,xs=>match C f xs with
  |some r=>some r
  |none=>(match P.funcs[f]? with
   |some fn=>(match fn.body with
    |some c=>(match aaM P f&&(aa6 fn.ntmps c&&(Nat.ble xs.length fn.ntmps&&abA xs))with
     |true=>(match uU (PD P τ C n m) (τ f) n c (aes 0 xs) []with
      |some (z,e,b)=>Qw (τ f) fn z e b
      |none=>none)
     |false=>none)
    |none=>none)
   |none=>none)
theorem Dp{P:Program}[Wld P]{τ:FuncId->Tab}{C:FuncId->List AV->Option AV}{n:Nat}(hτ:∀f,aaH P (τ f)=true)(hm:P.follows .mixedOrders=true)(hC:∀f xs r,C f xs=some r->Den P f xs r):∀(m:Nat) (f:FuncId) (xs:List AV) (r:AV),PD P τ C n m f xs=some r->Den P f xs r
 |0,f,xs,r,h=>hC f xs r h
 |m+1,f,xs,r,h=>by
  simp only[PD]at h;split at h
  .rename_i h1;cases h;exact hC _ _ _ h1
  .split at h
   .rename_i hf;split at h
    .rename_i hb;split at h
     .rename_i hq;simp only[bG]at hq;split at h
      .rename_i hx;exact aaP (hτ f) hm hf hb hq.1 hq.2.1 hq.2.2.1 (ku (Dp hτ hm hC m) n _ hx (Ll h)) hq.2.2.2
      .cases h
     .cases h
    .cases h
   .cases h
end Go.Sw
namespace Go.Proofs.YtmniihkenijjpaaGreatDoor
open Go Go.RowKit Go.Sw
set_option maxRecDepth 100000
set_option maxHeartbeats 16000000
set_option synthInstance.maxSize 4000
set_option synthInstance.maxHeartbeats 400000
def Tn:Tab:=(2000000000,.flag)::tab
theorem Ny:aaH Tryz.prog Tn=true:=ζ
def Vg(f:FuncId):Tab:=match Nat.beq f 148 with|true=>Tn|false=>tab
theorem Lj(f:FuncId):aaH Tryz.prog (Vg f)=true:=by
 unfold Vg;split
 .exact Ny
 .exact fA
instance YS:DenI Tryz.prog 40 [] True (.bool true):=⟨λ_=>Dp (C:=λ_ _=>none) (n:=100) Lj aP (λ_ _ _ h=>nomatch h) 21 _ _ _ ζ⟩
end Go.Proofs.YtmniihkenijjpaaGreatDoor
namespace Go.Sw
open Go
section
variable {cf cg ct cu bf bg bt bu x y:Rat} {cfz ctz cr bfz btz br:Int}
end
section
variable {a b c d m n e f:Rat}
end
structure Cut7 where
 fx:Int
 fy:Int
 fz:Int
 tx:Int
 ty:Int
 tz:Int
 r:Int
section
variable {cf cg ct cu bf bg bt bu x y:Rat} {cfz ctz cr bfz btz br:Int}
end
section
variable {a b c d e f m n:Rat}
end
section
variable {x y:Rat} {L:List Cut7} {o:Rt} {k:Nat}
end
open Go.RowKit
theorem all_map{α:Type}{f:α->List Cell}{p:α->Prop}:∀{es:List (List Cell)},(∀x∈es,∃a,p a/\x=f a)->∃L:List α,L.length=es.length/\(∀a∈L,p a)/\es=L.map f
 |[],_=>⟨[],rfl,λa h=>by simp at h,rfl⟩
 |e::r,h=>by
  obtain⟨a,ha,rfl⟩:=h e η;obtain⟨L,l1,l2,l3⟩:=all_map (es:=r) λx hx=>h x (by simp[hx])
  exact⟨a::L,by simp[l1],λb hb=>by rcases mQ.1 hb with rfl|hb;exact ha;exact l2 b hb,by simp[l3]⟩
abbrev Vf:TS:=.cons .bool (.cons (.slice (.int .u32)) .nil)
abbrev Ou:TS:=.cons Vf (.cons Vf .nil)
abbrev QN:TS:=.cons Ou (.cons Ou .nil)
abbrev PZ:TS:=.cons (.int .i64) (.cons .str (.cons (.slice QN) (.cons Ou .nil)))
abbrev TD:TS:=.cons .str (.cons (.int .i64) (.cons (.int .i64) .nil))
theorem Bf{cs:List Cell}(h:Fit Ou cs):∃r:Rq,cs=QU r:=by
 obtain⟨_,_,⟨_,_,⟨a,rfl⟩,⟨_,_,h1,rfl,rfl⟩,rfl⟩,⟨_,_,⟨_,_,⟨b,rfl⟩,⟨_,_,h2,rfl,rfl⟩,rfl⟩,rfl,rfl⟩,rfl⟩:=h;obtain⟨l,_,_,rfl⟩:=aeS h1;obtain⟨m,_,_,rfl⟩:=aeS h2;exact⟨⟨a,l,b,m⟩,rfl⟩
theorem KQ{cs:List Cell}(h:Fit QN cs):∃p:Rq×Rq,cs=jB p:=by
 obtain⟨_,_,h1,⟨_,_,h2,rfl,rfl⟩,rfl⟩:=h;obtain⟨r,rfl⟩:=Bf h1;obtain⟨s,rfl⟩:=Bf h2;exact⟨(r,s),rfl⟩
theorem IW{cs:List Cell}(h:Fit (.slice QN) cs):∃l:List (Rq×Rq),cs=[.sl 8 (l.map jB)]:=by
 obtain⟨es,h1,h2,rfl⟩:=h
 obtain⟨L,l1,l2,l3⟩:=all_map (f:=jB) (p:=λ_=>True) (es:=es) λx hx=>by
  obtain⟨p,rfl⟩:=KQ (h2 x hx);exact⟨p,trivial,rfl⟩
 exact⟨L,by rw[l3];rfl⟩
theorem MK{cs:List Cell}(h:Fit PZ cs):∃e:EntR,cs=bU e∧-9223372036854775808<=e.kind/\e.kind<=9223372036854775807:=by
 obtain⟨_,_,⟨k,wk,rfl⟩,⟨_,_,⟨s,_,rfl⟩,⟨_,_,h1,⟨_,_,h2,rfl,rfl⟩,rfl⟩,rfl⟩,rfl⟩:=h;obtain⟨l,rfl⟩:=IW h1;obtain⟨r,rfl⟩:=Bf h2;exact⟨⟨k,s,l,r⟩,rfl,ajh wk⟩
theorem JH{cs:List Cell}(h:Fit (.slice TD) cs):∃l:List LayD,cs=[.sl 3 (l.map bI)]:=by
 obtain⟨es,h1,h2,rfl⟩:=h
 obtain⟨L,l1,l2,l3⟩:=all_map (f:=bI) (p:=λ_=>True) (es:=es) λx hx=>by
  obtain⟨_,_,⟨s,_,rfl⟩,⟨_,_,⟨k,_,rfl⟩,⟨_,_,⟨d,_,rfl⟩,rfl,rfl⟩,rfl⟩,rfl⟩:=h2 x hx;exact⟨⟨s,k,d⟩,trivial,rfl⟩
 exact⟨L,by rw[l3];rfl⟩
theorem G6{cs:List Cell}(h:Fit (.slice PZ) cs):∃l:List EntR,cs=[.sl 7 (l.map bU)]:=by
 obtain⟨es,h1,h2,rfl⟩:=h
 obtain⟨L,l1,l2,l3⟩:=all_map (f:=bU) (p:=λ_=>True) (es:=es) λx hx=>by
  obtain⟨e,rfl,_⟩:=MK (h2 x hx);exact⟨e,trivial,rfl⟩
 exact⟨L,by rw[l3];rfl⟩
theorem LY{cs:List Cell}(h:Fit (.cons (.slice TD) (.cons (.slice PZ) .nil)) cs):∃(ls:List LayD) (es:List EntR),cs=[.sl 3 (ls.map bI),.sl 7 (es.map bU)]:=by
 obtain⟨_,_,h1,⟨_,_,h2,rfl,rfl⟩,rfl⟩:=h;obtain⟨ls,rfl⟩:=JH h1;obtain⟨es,rfl⟩:=G6 h2;exact⟨ls,es,rfl⟩
theorem uN{α β:Type}{f g:α->β}:∀{xs:List α} {j:Nat} {u:β},(xs.flatMap λp=>[f p,g p])[j]?=some u->∃i p,xs[i]?=some p/\((j=2*i/\u=f p)\/(j=2*i+1/\u=g p))
 |[],j,u,h=>by simp at h
 |x::r,0,u,h=>by
  simp at h;exact⟨0,x,rfl,.inl ⟨rfl,h.symm⟩⟩
 |x::r,1,u,h=>by
  simp at h;exact⟨0,x,rfl,.inr ⟨rfl,h.symm⟩⟩
 |x::r,j+2,u,h=>by
  have h':(r.flatMap λp=>[f p,g p])[j]?=some u:=by simpa using h
  obtain⟨i,p,h1,h2⟩:=uN h'
  exact⟨i+1,p,by simpa using h1,by
   rcases h2 with⟨rfl,rfl⟩|⟨rfl,rfl⟩
   .exact .inl ⟨ω,rfl⟩
   .exact .inr ⟨ω,rfl⟩⟩
theorem KY{P:Program}{W:World}{l:List (String×DataW Unit)}{nm:String}{xs:List (ByteArray×Int)}{g:Nat}{t e:TypeId}{f0 f1:Field}(h:laidMet P l W)(hm:(nm,DataW.agg (xs.map λp => .agg [.lit (.string p.1.data.toList),.lit (.int .i64 p.2)]))∈l)
 (hg:P.globalNamed nm=some g) (htg:(P.globals[g]?).map (·.type)=some t) (ht:P.underlying t=some (.array xs.length e)) (he:P.underlying e=some (.struct #[f0,f1])) (hs:P.underlying f0.type=some .string) (hi:P.underlying f1.type=some (.int .i64))
 (o0:f0.offset=0) (o1:f1.offset=1) (c0:P.cellsOf f0.type=1) (c1:P.cellsOf f1.type=1) (ce:P.cellsOf e=2) :
 ∀(j:Nat) u,(xs.flatMap λp=>[Value.string p.1,Value.int .i64 p.2])[j]?=some u->W.cell? ((⟨g,0,none⟩:Addr).add j)=some u:=by
 obtain⟨ps,hl,_⟩:=h;obtain⟨g0,t0,cs,fuel,p,hg0,ht0,hv,hd⟩:=adM hl _ hm;obtain rfl:=E5 (hg.symm.trans hg0);obtain rfl:=E5 (htg.symm.trans ht0);obtain⟨ys,m,_,ex,hlen,hxl,hel⟩:=DataW.trod_array ht hd
 have e1:xs.map (λp=>DataW.agg (H:=Unit) [.lit (.string p.1.data.toList),.lit (.int .i64 p.2)])=ys.map (·.1):=by
  have:=(Prod.mk.inj ex).1;exact DataW.agg.inj this
 intro j u hj;obtain⟨i,q,hq,hju⟩:=uN hj;have hi':i<xs.length:=(iy.1 hq).1;have h3:=hel i hi';rw[ce]at h3;have hy:ys[i]?=some ys[i]:=eY ω;rw[hy]at h3;obtain⟨y0,y1,n,ey,hcl,k0,k1⟩:=Go.ChangeShapes.trod_struct2 he h3;obtain⟨s,a0,b0,_⟩:=DataW.trod_string hs k0;obtain⟨z,a1,b1,_⟩:=DataW.trod_int hi k1;rw[o0,c0]at a0;rw[o1,c1]at a1;have h4:(xs.map (λp=>DataW.agg (H:=Unit) [.lit (.string p.1.data.toList),.lit (.int .i64 p.2)]))[i]?=(ys.map (·.1))[i]?:=by rw[e1]
 rw[rE,rE,hq,hy,ey,b0,b1]at h4;simp at h4;obtain⟨h5,h6⟩:=h4
 have h7:s=q.1:=by
  obtain⟨⟨sl⟩⟩:=s;obtain⟨⟨⟨ql⟩⟩,qn⟩:=q;simp at h5;rw[h5]
 subst h6 h7
 have g0':cs.toList[2*i]?=some (.string q.1):=by
  have h8:((((cs.toList.drop (i*2)).take 2).drop 0).take 1)[0]?=some (.string q.1):=by rw[a0];rfl
  rw[List.drop_zero,List.take_take,tH,if_pos ψ,zM,JU,wU]at h8;exact h8
 have g1':cs.toList[2*i+1]?=some (.int .i64 q.2):=by
  have h8:((((cs.toList.drop (i*2)).take 2).drop 1).take 1)[0]?=some (.int .i64 q.2):=by rw[a1];rfl
  rw[tH,if_pos ψ,zM,tH,if_pos ψ,zM,wU]at h8;exact h8
 have hadd:(⟨g,0,none⟩:Addr).add j=⟨g,j,none⟩:=by
  unfold Addr.add;split
  .rename_i h;rw[h]
  .simp
 rw[hadd,World.var?_cell hg hv j];rcases hju with⟨rfl,rfl⟩|⟨rfl,rfl⟩
 .rw[<-g0',Array.getElem?_toList]
 .rw[<-g1',Array.getElem?_toList]
end Go.Sw
namespace Go.Proofs.YtmniihkenijjpaaGreatDoor
open Go Go.RowKit Go.Sw Go.Shelf
set_option maxRecDepth 100000
set_option maxHeartbeats 16000000
def TR:Go.Shelf.Ren:=⟨λn=>if n=283 then 350 else n,λn=>n,λn=>n⟩
theorem PG:Go.Proofs.Lays.n283 Tryz.prog TR where
 mixed:=aP
 f283:=qh Tryz.func350 (congrArg some (Eq.refl _))
 t3:=Tryz.underlying3
 a3:=Tryz.isAgg3
 z3:=Tryz.sizeOf3
 v3:=Tryz.zeroValue3
 t4:=Tryz.underlying4
 a4:=Tryz.isAgg4
 z4:=Tryz.sizeOf4
 v4:=Tryz.zeroValue4
 t9:=Tryz.underlying9
 a9:=Tryz.isAgg9
 z9:=Tryz.sizeOf9
 v9:=Tryz.zeroValue9
instance(priority:=2000) rW:Wld Tryz.prog:=⟨λw=>Lib.TabIs Tryz.prog w "internal/strconv.uint64pow10" .u64 Lib.pow10Tab,λh hb=>afv h hb,[],λ_ _ _ h=>by cases h⟩
instance Xr{f:FuncId}{xs:List AV}{pre:Prop}{r:AV}[h : @DenI Tryz.prog GH f xs pre r]:@DenI Tryz.prog rW f xs pre r:=⟨λhp=>ab9 GH rW (λ_ _=>trivial) (h.den hp)⟩
def tabs:Tab:=tab
theorem Lm : @aaH Tryz.prog rW tabs=true:=ζ
theorem IE(u:Nat)(h1:u<100)(w:World):Calls Tryz.prog 325 #[.int .u64 u,.int .i64 10] w λe w'=>e=.returned (.string ⟨(Lib.decDigits u).toArray⟩)/\Below w.heap.size w w':=by
 have hlt:(u:Int)<100:=ω
 go_enter Tryz.func325,Tryz.ntmps325
 go_wp2_with (go_at_call 350;refine(Any.internal_strconv_small PG u h1 _).mono ?_;rintro e w' ⟨rfl,rfl⟩)
 go_ret
 exact⟨rfl,Below.refl _ _⟩
theorem RU(u:Nat)(hu:u<18446744073709551616)(w:World)(hW:Wld.ok Tryz.prog w):Calls Tryz.prog 325 #[.int .u64 u,.int .i64 10] w λe w'=>e=.returned (.string (kN u))/\Below w.heap.size w w':=by
 by_cases h:u<100
 .exact IE u h w
 .exact LQ u ω hu w hW
instance YF(z:Int):DenI Tryz.prog 325 [.c (.v (.int .u64 z)),.c (.v (.int .i64 10))] (0<=z/\z<18446744073709551616) (.c (.v (.string (kN z.toNat)))):=⟨λhp=>by
 obtain⟨n,rfl⟩:=Int.eq_ofNat_of_zero_le hp.1;refine Den.of ⟨ζ,λw X vs hW hX hl hr=>?_⟩ rfl
 match vs,hl with
 |[u,v],_ =>
 have hu:u=.int .u64 (n:Nat):=by
  have:=hr 0 u _ rfl rfl;cases this with
  |c h=>cases h;rfl
 have hv:v=.int .i64 10:=by
  have:=hr 1 v _ rfl rfl;cases this with
  |c h=>cases h;rfl
 subst hu hv;refine Calls.mono (RU n ω w hW) ?_;rintro e w' ⟨rfl,hb⟩
 exact⟨_,rfl,(RepR.d (.c (.v _ rfl))).f,hb⟩⟩
instance Xj(z:Int):DenI Tryz.prog 289 [.int .u64 z,.int .i64 10] (0<=z/\z<18446744073709551616) (.c (.v (.string (kN z.toNat)))):=⟨λhp=>by
 refine aaP (τ:=tabs) Lm aP Tryz.func289 rfl ζ ζ ζ ?_
 all_goals(repeat'((try(conv=>whnf));first
  |refine y5 ?_ ?_|apply zaq))
 all_goals(try apply zar)
 .exact hp
 .rfl⟩
theorem WC{m:Nat}(hm:m<18446744073709551616)(w:World)(hW:Wld.ok Tryz.prog w):Calls Tryz.prog 289 #[.int .u64 m,.int .i64 10] w λe w'=>e=.returned (.string (kN m))/\Below w.heap.size w w':=by
 have h:=((Xj (m:Int)).den ⟨ω,ω⟩).old rfl;refine(h.2 w [] [.int .u64 m,.int .i64 10] hW η rfl (λi u v hu hv=>?_)).mono ?_
 .match i,hu,hv with
  |0,hu,hv=>simp at hu hv;subst hu hv;exact .c (.v _ rfl)
  |1,hu,hv=>simp at hu hv;subst hu hv;exact .c (.v _ rfl)
 .rintro e w' ⟨u,rfl,hu,hb⟩;refine⟨?_,hb⟩;cases hu.r with
  |d h=>cases h with
   |c h=>cases h;rfl
def OU:Go.Shelf.Ren:=⟨λn=>if n=99 then 292 else if n=105 then 256 else if n=165 then 293 else if n=166 then 288 else if n=169 then 290 else if n=170 then 294 else if n=206 then 328 else if n=212 then 291 else if n=240 then 324 else if n=241 then 329 else if n=263 then 326 else if n=264 then 327 else if n=276 then 349 else if n=277 then 354 else n,λn=>if n=37 then 270 else if n=46 then 228 else if n=51 then 154 else if n=53 then 152 else if n=70 then 269 else if n=72 then 272 else if n=80 then 279 else if n=75 then 274 else if n=76 then 276 else if n=109 then 280 else if n=127 then 315 else if n=146 then 316 else if n=148 then 318 else if n=164 then 337 else n,λn=>n⟩
theorem Jw:Go.Proofs.Lays.n105 Tryz.prog OU where
 mixed:=aP
 f99:=qh Tryz.func292 (congrArg some (Eq.refl _))
 f105:=qh Tryz.func256 (congrArg some (Eq.refl _))
 f165:=qh Tryz.func293 (congrArg some (Eq.refl _))
 f166:=qh Tryz.func288 (congrArg some (Eq.refl _))
 f169:=qh Tryz.func290 (congrArg some (Eq.refl _))
 f170:=qh Tryz.func294 (congrArg some (Eq.refl _))
 f206:=qh Tryz.func328 (congrArg some (Eq.refl _))
 f212:=qh Tryz.func291 (congrArg some (Eq.refl _))
 f240:=qh Tryz.func324 (congrArg some (Eq.refl _))
 f241:=qh Tryz.func329 (congrArg some (Eq.refl _))
 f263:=qh Tryz.func326 (congrArg some (Eq.refl _))
 f264:=qh Tryz.func327 (congrArg some (Eq.refl _))
 f276:=qh Tryz.func349 (congrArg some (Eq.refl _))
 f277:=qh Tryz.func354 (congrArg some (Eq.refl _))
 t0:=Tryz.underlying0
 a0:=Tryz.isAgg0
 z0:=Tryz.sizeOf0
 v0:=Tryz.zeroValue0
 t3:=Tryz.underlying3
 a3:=Tryz.isAgg3
 z3:=Tryz.sizeOf3
 v3:=Tryz.zeroValue3
 t4:=Tryz.underlying4
 a4:=Tryz.isAgg4
 z4:=Tryz.sizeOf4
 v4:=Tryz.zeroValue4
 t5:=Tryz.underlying5
 a5:=Tryz.isAgg5
 z5:=Tryz.sizeOf5
 v5:=Tryz.zeroValue5
 t9:=Tryz.underlying9
 a9:=Tryz.isAgg9
 z9:=Tryz.sizeOf9
 v9:=Tryz.zeroValue9
 t20:=Tryz.underlying20
 a20:=Tryz.isAgg20
 z20:=Tryz.sizeOf20
 v20:=Tryz.zeroValue20
 t37:=Tryz.underlying270
 a37:=Tryz.isAgg270
 z37:=Tryz.sizeOf270
 v37:=Tryz.zeroValue270
 t46:=Tryz.underlying228
 a46:=Tryz.isAgg228
 z46:=Tryz.sizeOf228
 v46:=Tryz.zeroValue228
 t51:=Tryz.underlying154
 a51:=Tryz.isAgg154
 z51:=Tryz.sizeOf154
 v51:=Tryz.zeroValue154
 t53:=Tryz.underlying152
 a53:=Tryz.isAgg152
 z53:=Tryz.sizeOf152
 v53:=Tryz.zeroValue152
 t70:=Tryz.underlying269
 a70:=Tryz.isAgg269
 z70:=Tryz.sizeOf269
 v70:=Tryz.zeroValue269
 t72:=Tryz.underlying272
 a72:=Tryz.isAgg272
 z72:=Tryz.sizeOf272
 v72:=Tryz.zeroValue272
 t75:=Tryz.underlying274
 a75:=Tryz.isAgg274
 z75:=Tryz.sizeOf274
 v75:=Tryz.zeroValue274
 t76:=Tryz.underlying276
 a76:=Tryz.isAgg276
 z76:=Tryz.sizeOf276
 v76:=Tryz.zeroValue276
 t109:=Tryz.underlying280
 a109:=Tryz.isAgg280
 z109:=Tryz.sizeOf280
 v109:=Tryz.zeroValue280
 t127:=Tryz.underlying315
 a127:=Tryz.isAgg315
 z127:=Tryz.sizeOf315
 v127:=Tryz.zeroValue315
 t146:=Tryz.underlying316
 a146:=Tryz.isAgg316
 z146:=Tryz.sizeOf316
 v146:=Tryz.zeroValue316
 t148:=Tryz.underlying318
 a148:=Tryz.isAgg318
 z148:=Tryz.sizeOf318
 v148:=Tryz.zeroValue318
 t164:=Tryz.underlying337
 a164:=Tryz.isAgg337
 z164:=Tryz.sizeOf337
 v164:=Tryz.zeroValue337
theorem OY:Builder.Extra Tryz.prog OU where
 sizeBuilder:=ζ
 liesBuilder:=ζ
 t5:=Tryz.underlying5
 a5:=Tryz.isAgg5
 z5:=Tryz.sizeOf5
 v5:=Tryz.zeroValue5
 infoByte:=ζ
 cellsByte:=ζ
 sizeByte:=ζ
 neB5:=ψ
theorem VF{k:Nat}(hk:k<=9)(w:World):Calls Tryz.prog 256 #[.string ⟨#[48]⟩,.int .i64 k] w λe w'=>e=.returned (.string ⟨(List.replicate k (48:UInt8)).toArray⟩)/\Below w.heap.size w w':=by
 refine(Any.strings_Repeat Jw OY ⟨#[48]⟩ k w ω (by show 1*k<=_;omega)).mono ?_;rintro e w' ⟨rfl,hb⟩;refine⟨?_,hb⟩
 have:Lib.repeatL [(48:UInt8)] k=List.replicate k 48:=by
  have:∀k:Nat,k<=9->Lib.repeatL [(48:UInt8)] k=List.replicate k 48:=by decide +kernel
  exact this k hk
 rw[show(ByteArray.mk #[48]).data.toList=[(48:UInt8)]from rfl,this]
end Go.Proofs.YtmniihkenijjpaaGreatDoor
