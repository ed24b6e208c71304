/-
  Closed runs: the abstract run as a computation that the kernel carries out.
  Functions that write to a slice or a variable of their caller's, by the abstract run: the block is granted.
  Closed runs with functions that write to a slice of their caller's.
  The end of slices.DeleteFunc by hand: what is behind is cleared, the slice is cut.
  Operations on fractions, worked out by the kernel on the cells that stand for them.
  What the functions answer, each out of its text by the abstract run.
  slices.Grow over abstract values, at the nil slice.
  slices.Clone over abstract values, at structs.
  slices.Clone over abstract values: the clone is the caller's own.
  What the functions answer, each out of its text by the abstract run.
  What the functions answer, each out of its text by the abstract run.
  Answers that are known already, found by their arguments.
  What the functions answer, each out of its text by the abstract run.
  Conditions: none.
-/
import Derived.Test.YtbbfmlhkgceabaaGreatM13
import Derived.Laws.CopyRow
import Derived.Shelf.Spec.SlicesGrow
import Derived.Shelf.SlicesE.Clone
set_option linter.all false
namespace Go.Sw
open Go Go.RowKit
set_option linter.unusedVariables false
def fN{α:Type}(n:Nat)(k:Nat→α):α:=match n with|0=>k 0|m+1=>k (m+1)
theorem fN_eq{α:Type}(n:Nat)(k:Nat→α):fN n k=k n:=by cases n<;>rfl
def fI{α:Type}(n:Int)(k:Int→α):α:=match n with|.ofNat m=>fN m λm=>k (.ofNat m)|.negSucc m=>fN m λm=>k (.negSucc m)
theorem fI_eq{α:Type}(n:Int)(k:Int→α):fI n k=k n:=by
 cases n with
 |ofNat m=>exact fN_eq m λm=>k (.ofNat m)
 |negSucc m=>exact fN_eq m λm=>k (.negSucc m)
def fB{α:Type}(b:Bool)(k:Bool→α):α:=match b with|true=>k true|false=>k false
theorem fB_eq{α:Type}(b:Bool)(k:Bool→α):fB b k=k b:=by cases b<;>rfl
def fzV(r:Option (AV × Bxs)):Option (AV × Bxs) :=
 match r with
 |some (.c (.v (.int k n)),f)=>fI n λn=>some (.c (.v (.int k n)),f)
 |some (.c (.v (.bool b)),f)=>fB b λb=>some (.c (.v (.bool b)),f)
 |r=>r
theorem fzV_eq(r:Option (AV × Bxs)):fzV r=r:=by
 unfold fzV
 split
 ·exact fI_eq _ _
 ·exact fB_eq _ _
 ·rfl
def xarg(bx:Bxs)(v:AV):Option (AV × Bxs) :=
 match v with
 |.c (.v (.slice none 0 0))=>some (.c (.sl 0 []),[])
 |.c x=>some (.c x,[])
 |.agg cs=>some (.agg cs,[])
 |.gs b n=>(match ld b bx with
  |some (.grow _ s es)=>(match Nat.beq n es.length with|true=>some (.c (.sl s es),[(b,.froz s es)])|false=>none)
  |some (.froz s es)=>(match Nat.beq n es.length with|true=>some (.c (.sl s es),[])|false=>none)
  |_=>none)
 |.ptr b o=>(match ld b bx with
  |some (.var cs)=>some (.c (.p (dropN o cs)),[(b,.fvar cs)])
  |some (.fvar cs)=>some (.c (.p (dropN o cs)),[])
  |_=>none)
 |.rd cs=>some (.c (.p cs),[])
 |_=>none
theorem xarg_ok{bx:Bxs}{v v':AV}{f:Bxs}{k:AV→Bxs→Prop}(h:xarg bx v=some (v',f))(hk:k v' f):argK bx v k:=by
 unfold xarg at h
 unfold argK
 split at h
 ·cases h;exact hk
 ·rename_i x hx
  cases h
  split<;>first|exact hk|simp_all
 ·cases h;exact hk
 ·split at h
  ·rename_i h1
   split at h
   ·rename_i h2;cases h;simp only [h1];exact ⟨Nat.eq_of_beq_eq_true h2,hk⟩
   ·cases h
  ·rename_i h1
   split at h
   ·rename_i h2;cases h;simp only [h1];exact ⟨Nat.eq_of_beq_eq_true h2,hk⟩
   ·cases h
  ·cases h
 ·split at h
  ·rename_i h1;cases h;simp only [h1,dropK_eq];exact hk
  ·rename_i h1;cases h;simp only [h1,dropK_eq];exact hk
  ·cases h
 ·cases h;exact hk
 ·cases h
def xargs:List AV→Bxs→Option (List AV × Bxs)
 |[],_=>some ([],[])
 |v :: r,bx=>match xarg bx v with
  |some (v',f)=>(match xargs r (ups f bx) with
   |some (vs,g)=>some (v' :: vs,f++g)
   |none=>none)
  |none=>none
theorem xargs_ok:∀{l:List AV} {bx:Bxs} {vs:List AV} {f:Bxs} {k:List AV→Bxs→Prop},xargs l bx=some (vs,f)→k vs f→argsK l bx k
 |[],bx,vs,f,k,h,hk=>by cases h;exact hk
 |v :: r,bx,vs,f,k,h,hk=>by
  simp only [xargs] at h
  split at h
  ·rename_i v' f' h1
   split at h
   ·rename_i vs' g h2
    cases h
    exact xarg_ok h1 (xargs_ok h2 hk)
   ·cases h
  ·cases h
def xparts(e:Env):List (Nat × Operand)→Bxs→Option (List (Nat × List Cell) × Bxs)
 |[],_=>some ([],[])
 |(i,x) :: r,bx=>match ae e x with
  |some v=>(match xarg bx v with
   |some (v',f)=>(match xparts e r (ups f bx) with
    |some (vs,g)=>some ((i,cellsOf v') :: vs,f++g)
    |none=>none)
   |none=>none)
  |none=>none
theorem xparts_ok{e:Env}:∀{l:List (Nat × Operand)} {bx:Bxs} {vs:List (Nat × List Cell)} {f:Bxs} {k:List (Nat × List Cell)→Bxs→Prop},xparts e l bx=some (vs,f)→k vs f→partsK e l bx k
 |[],bx,vs,f,k,h,hk=>by cases h;exact hk
 |(i,x) :: r,bx,vs,f,k,h,hk=>by
  simp only [xparts] at h
  simp only [partsK]
  split at h
  ·rename_i v h0
   simp only [h0]
   split at h
   ·rename_i v' f' h1
    split at h
    ·rename_i vs' g h2
     cases h
     exact xarg_ok h1 (xparts_ok h2 hk)
    ·cases h
   ·cases h
  ·cases h
def xbin(op:BinOp)(x y:AV):Option AV :=
 match op,x,y with
 |.add,.c (.v (.int ki a)),.c (.v (.int kj b))=>(match decide (ki=kj) with|true=>some (.int ki (ki.wrap (a+b)))|false=>none)
 |.sub,.c (.v (.int ki a)),.c (.v (.int kj b))=>(match decide (ki=kj) with|true=>some (.int ki (ki.wrap (a-b)))|false=>none)
 |.mul,.c (.v (.int ki a)),.c (.v (.int kj b))=>(match decide (ki=kj) with|true=>some (.int ki (ki.wrap (a*b)))|false=>none)
 |.shl,.c (.v (.int ki a)),.c (.v (.int _ b))=>(match decide (0≤b) with|true=>some (.int ki (ki.wrap (a*2 ^ (min b.toNat ki.bits))))|false=>none)
 |.shr,.c (.v (.int ki a)),.c (.v (.int _ b))=>(match decide (0≤b) with|true=>some (.int ki (a.fdiv (2 ^ (min b.toNat ki.bits))))|false=>none)
 |.and,.c (.v (.int ki a)),.c (.v (.int kj b))=>(match decide (ki=kj) with|true=>some (.int ki (andI ki a b))|false=>none)
 |.or,.c (.v (.int ki a)),.c (.v (.int kj b))=>(match decide (ki=kj) with|true=>some (.int ki (orI ki a b))|false=>none)
 |.quo,.c (.v (.int ki a)),.c (.v (.int kj b))=>(match decide (ki=kj),decide (b≠0) with|true,true=>some (.int ki (ki.wrap (a.tdiv b)))|_,_=>none)
 |.rem,.c (.v (.int ki a)),.c (.v (.int kj b))=>(match decide (ki=kj),decide (b≠0) with|true,true=>some (.int ki (a.tmod b))|_,_=>none)
 |.lss,.c (.v (.int ki a)),.c (.v (.int kj b))=>(match decide (ki=kj) with|true=>some (.bool (decide (a<b)))|false=>none)
 |.leq,.c (.v (.int ki a)),.c (.v (.int kj b))=>(match decide (ki=kj) with|true=>some (.bool (decide (a≤b)))|false=>none)
 |.gtr,.c (.v (.int ki a)),.c (.v (.int kj b))=>(match decide (ki=kj) with|true=>some (.bool (decide (a > b)))|false=>none)
 |.geq,.c (.v (.int ki a)),.c (.v (.int kj b))=>(match decide (ki=kj) with|true=>some (.bool (decide (a≥b)))|false=>none)
 |.eql,.c (.v (.int ki a)),.c (.v (.int kj b))=>(match decide (ki=kj) with|true=>some (.bool (decide (a=b)))|false=>none)
 |.neq,.c (.v (.int ki a)),.c (.v (.int kj b))=>(match decide (ki=kj) with|true=>some (.bool (!decide (a=b)))|false=>none)
 |.eql,.c (.v (.string a)),.c (.v (.string b))=>some (.bool (a.toList == b.toList))
 |.neq,.c (.v (.string a)),.c (.v (.string b))=>some (.bool (!(a.toList == b.toList)))
 |_,_,_=>none
theorem xbin_ok{op:BinOp}{x y v:AV}{k:AV→Prop}(h:xbin op x y=some v)(hk:k v):binA op x y k:=by
 unfold xbin at h
 split at h
 all_goals first
  |(cases h;exact hk)
  |(cases h;done)
  |(unfold binA;simp only;split at h<;>first|(rename_i h1;cases h;simp only [h1];exact hk)|(rename_i h1;cases h;simp only [h1];exact ⟨by simpa using h1,hk⟩)|(rename_i h1;cases h;exact ⟨of_decide_eq_true h1,hk⟩)|(rename_i h1 h2;cases h;simp only [h1];exact ⟨of_decide_eq_true h2,hk⟩)|(cases h;done))
def xelem(es:List (List Cell)):Int→Option (List Cell)
 |.ofNat j=>es[j]?
 |.negSucc _=>none
theorem xelem_ok{es:List (List Cell)}{i:Int}{e:List Cell}{k:List Cell→Prop}(h:xelem es i=some e)(hk:k e):Elem es i k:=by
 cases i with
 |ofNat j=>exact ⟨j,e,rfl,h,hk⟩
 |negSucc j=>cases h
section
variable (C:FuncId→List AV→Option AV) (τ:Tab)
def xload(ti:TI)(a:AV)(bx:Bxs):Option AV :=
 match a with
 |.ptr b off=>(match ld b bx with
  |some (.var cs)=>rdAs ti (dropN off cs)
  |some (.fvar cs)=>rdAs ti (dropN off cs)
  |_=>none)
 |.rd cs=>rdAs ti cs
 |.c (.p cs)=>rdAs ti cs
 |.gp g off=>(match ld (GK+g) τ with
  |some (.glob _ cs)=>rdAs ti (dropN off cs)
  |_=>none)
 |.pe b n i off=>(match ld b bx with
  |some (.grow _ _ es)=>(match Nat.beq n es.length,es[i]? with|true,some cs=>rdAs ti (dropN off cs)|_,_=>none)
  |some (.froz _ es)=>(match Nat.beq n es.length,es[i]? with|true,some cs=>rdAs ti (dropN off cs)|_,_=>none)
  |_=>none)
 |_=>none
def xdata(ti:TI)(b off:Nat)(cs:List Cell)(v:AV)(bx:Bxs):Option Bxs :=
 match xarg bx v with
 |some (v',f)=>(match f.any (λp=>Nat.beq p.1 b),szB ti (cellsOf v').length,putN off (cellsOf v') cs with
  |false,true,some cs'=>some (f++[(b,.var cs')])
  |_,_,_=>none)
 |none=>none
def xstore(ti:TI)(a v:AV)(bx:Bxs):Option Bxs :=
 match a with
 |.ptr b off=>(match ld b bx with
  |some (.var cs)=>(match ownM τ,isSl ti,gsOf v with
   |true,true,some (b',n)=>(match gsLen b' bx,putN off [.ob b' n] cs with
    |some m,some cs'=>(match Nat.beq n m with|true=>some [(b,.varo cs')]|false=>none)
    |_,_=>none)
   |_,_,_=>xdata ti b off cs v bx)
  |_=>none)
 |.pe b n i off=>(match ld b bx with
  |some (.grow T s es)=>(match xarg bx v with
   |some (v',[])=>(match Nat.beq n es.length,es[i]? with
    |true,some cs=>(match szB ti (cellsOf v').length,putN off (cellsOf v') cs with
     |true,some cs'=>some [(b,.grow T s (es.set i cs'))]
     |_,_=>none)
    |_,_=>none)
   |_=>none)
  |_=>none)
 |_=>none
def xfield(fs:List (Nat × Nat × Bool))(i:Nat)(a:AV)(bx:Bxs):Option AV :=
 match fs[i]?,a with
 |some (off,_,_),.ptr b o'=>some (.ptr b (o'+off))
 |some (off,_,_),.pe b n j o'=>(match ld b bx with
  |some (.grow _ _ es)=>(match Nat.beq n es.length with|true=>some (.pe b n j (o'+off))|false=>none)
  |some (.froz _ es)=>(match Nat.beq n es.length with|true=>some (.pe b n j (o'+off))|false=>none)
  |_=>none)
 |some (off,_,_),.rd cs=>some (.rd (dropN off cs))
 |some (off,_,_),.c (.p cs)=>some (.rd (dropN off cs))
 |some (off,_,_),.gp g o'=>some (.gp g (o'+off))
 |_,_=>none
def xidx(ti:TI)(a:AV)(i:Int)(bx:Bxs):Option AV :=
 match ti,a with
 |.slice _ s _ _,.c (.sl s' es)=>(match Nat.beq s s',xelem es i with
  |true,some cs=>some (.rd cs)
  |_,_=>none)
 |.slice _ s _ _,.gs b n=>(match ld b bx with
  |some (.grow _ s' es)=>(match Nat.beq s s',Nat.beq n es.length,xelem es i with
   |true,true,some _=>some (.pe b n i.toNat 0)
   |_,_,_=>none)
  |some (.froz s' es)=>(match Nat.beq s s',Nat.beq n es.length,xelem es i with
   |true,true,some cs=>some (.rd cs)
   |_,_,_=>none)
  |_=>none)
 |.arr n s _ _,.ptr b o'=>(match i with|.ofNat i=>(match Nat.blt i n with|true=>some (.ptr b (o'+i*s))|false=>none)|_=>none)
 |.arr n s _ _,.gp g o'=>(match i with|.ofNat i=>(match Nat.blt i n with|true=>some (.gp g (o'+i*s))|false=>none)|_=>none)
 |.arr n s _ _,.rd cs=>(match i with|.ofNat i=>(match Nat.blt i n with|true=>some (.rd (dropN (i*s) cs))|false=>none)|_=>none)
 |.arr n s _ _,.c (.p cs)=>(match i with|.ofNat i=>(match Nat.blt i n with|true=>some (.rd (dropN (i*s) cs))|false=>none)|_=>none)
 |_,_=>none
def xslp(n:Nat)(lo hi mx:Option Int):Option (Nat × Nat) :=
 match lo.getD 0,hi.getD n,mx.getD n with
 |.ofNat a,.ofNat b,.ofNat m=>(match Nat.ble a b,Nat.ble b m,Nat.ble m n,!mx.isSome || hi.isSome with
  |true,true,true,true=>some (a,b)
  |_,_,_,_=>none)
 |_,_,_=>none
theorem xslp_ok{n:Nat}{lo hi mx:Option Int}{a b:Nat}{k:Nat→Nat→Prop}(h:xslp n lo hi mx=some (a,b))(hk:k a b):SlP n lo hi mx k:=by
 unfold xslp at h
 split at h
 ·rename_i a' b' m h1 h2 h3
  split at h
  ·rename_i g1 g2 g3 g4
   cases h
   refine ⟨a,b,m,h1,h2,h3,Nat.le_of_ble_eq_true g1,Nat.le_of_ble_eq_true g2,Nat.le_of_ble_eq_true g3,λq=>?_,hk⟩
   rw [q] at g4
   exact g4
  ·cases h
 ·cases h
def xown(d:Option Nat)(r:AV):Option (AV × Bxs) :=
 match r with
 |.own T s es=>(match d with|some i=>some (.gs i es.length,[(i,.grow T s es)])|none=>none)
 |.tup vs=>(match vs.any isOwn with
  |false=>some (.tup vs,[])
  |true=>none)
 |r=>some (r,[])
theorem xown_ok{d:Option Nat}{r v:AV}{f:Bxs}{k:AV→Bxs→Prop}(h:xown d r=some (v,f))(hk:k v f):ownK d r k:=by
 unfold xown at h
 unfold ownK
 split at h
 ·split at h
  ·cases h;exact hk
  ·cases h
 ·rename_i vs
  split at h
  ·rename_i h1;cases h;simp only [h1];exact hk
  ·cases h
 ·rename_i hx hy
  cases h
  split
  ·exact absurd rfl (hx _ _ _)
  ·exact absurd rfl (hy _)
  ·exact hk
def xcall(o:Oper)(f:FuncId)(vs:List AV)(bx:Bxs):Option (AV × Bxs) :=
 match xargs vs bx with
 |some (a_s,fz)=>(match C f a_s with
  |some r=>(match xown o.dst r with
   |some (v,g)=>(match disjB fz g with|true=>some (v,fzOf r fz++g)|false=>none)
   |none=>none)
  |none=>none)
 |none=>none
theorem xcall_ok{D:FuncId→List AV→AV→Prop}(hC:∀f xs r,C f xs=some r→D f xs r){o:Oper}{f:FuncId}{vs:List AV}{bx:Bxs}{v:AV}{fz:Bxs}{k:AV→Bxs→Prop}(h:xcall C o f vs bx=some (v,fz))(hk:k v fz):
 argsK vs bx λa_s fz=>CallP D f a_s λr=>ownK o.dst r λv g=>(match disjB fz g with|true=>k v (fzOf r fz++g)|false=>False):=by
 unfold xcall at h
 split at h
 ·rename_i a_s fz' h1
  split at h
  ·rename_i r h2
   split at h
   ·rename_i v' g h3
    split at h
    ·rename_i h4
     cases h
     refine xargs_ok h1 ⟨r,hC _ _ _ h2,xown_ok h3 ?_⟩
     rw [h4]
     exact hk
    ·cases h
   ·cases h
  ·cases h
 ·cases h
def xcallS(f:FuncId)(b n:Nat)(vs:List AV)(bx:Bxs):Option (AV × Bxs) :=
 match ld b bx with
 |some (.grow T s es)=>(match xargs vs bx with
  |some (a_s,[])=>(match Nat.beq n es.length with
   |true=>(match es with
    |[]=>(match C f (.c (.sl s []) :: a_s) with|some r=>(match dataR r with|true=>some (r,[])|false=>none)|none=>none)
    |e0 :: er=>(match C f (.own T s (e0 :: er) :: a_s) with
     |some (.tup [.own T' s' es',v])=>(match Nat.beq T T',Nat.beq s s',dataR v with|true,true,true=>some (v,[(b,.grow T s es')])|_,_,_=>none)
     |some (.tup [.rd [],v])=>(match dataR v with|true=>some (v,[(b,.dead)])|false=>none)
     |_=>none))
   |false=>none)
  |_=>none)
 |_=>none
theorem xcallS_ok{D:FuncId→List AV→AV→Prop}(hC:∀f xs r,C f xs=some r→D f xs r){f:FuncId}{b n:Nat}{vs:List AV}{bx:Bxs}{v:AV}{fz:Bxs}{k:AV→Bxs→Prop}(h:xcallS C f b n vs bx=some (v,fz))(hk:k v fz):callS D f b n vs bx k:=by
 unfold xcallS at h
 unfold callS
 split at h
 ·rename_i T s es h1
  split at h
  ·rename_i a_s h2
   split at h
   ·rename_i h3
    simp only [h1]
    refine xargs_ok h2 ?_
    refine ⟨Nat.eq_of_beq_eq_true h3, ?_⟩
    split at h
    ·split at h
     ·rename_i r h4
      split at h
      ·rename_i h5
       cases h
       exact ⟨λh0=>absurd h0 (by simp),λ_=>⟨_,hC _ _ _ h4,by unfold callNR;rw [h5];exact hk⟩⟩
      ·cases h
     ·cases h
    ·rename_i e0 er
     split at h
     ·rename_i T' s' es' v' h4
      split at h
      ·rename_i g1 g2 g3
       cases h
       refine ⟨λ_=>⟨_,hC _ _ _ h4, ?_⟩,λh0=>absurd h0 (by simp)⟩
       unfold callSR
       simp only [g1,g2,g3]
       exact hk
      ·cases h
     ·rename_i v' h4
      split at h
      ·rename_i g3
       cases h
       refine ⟨λ_=>⟨_,hC _ _ _ h4, ?_⟩,λh0=>absurd h0 (by simp)⟩
       unfold callSR
       simp only [g3]
       exact hk
      ·cases h
     ·cases h
   ·cases h
  ·cases h
 ·cases h
def xcallN(o:Oper)(f:FuncId)(vs:List AV)(bx:Bxs):Option (AV × Bxs) :=
 match xargs vs bx with
 |some (a_s,fz)=>(match C f (.c (.v (.slice none 0 0)) :: a_s) with
  |some r=>(match xown o.dst r with
   |some (v,g)=>(match disjB fz g with|true=>some (v,fzOf r fz++g)|false=>none)
   |none=>none)
  |none=>none)
 |none=>none
theorem xcallN_ok{D:FuncId→List AV→AV→Prop}(hC:∀f xs r,C f xs=some r→D f xs r){o:Oper}{f:FuncId}{vs:List AV}{bx:Bxs}{v:AV}{fz:Bxs}{k:AV→Bxs→Prop}(h:xcallN C o f vs bx=some (v,fz))(hk:k v fz):
 argsK vs bx λa_s fz=>CallP D f (.c (.v (.slice none 0 0)) :: a_s) λr=>ownK o.dst r λv g=>(match disjB fz g with|true=>k v (fzOf r fz++g)|false=>False):=by
 unfold xcallN at h
 split at h
 ·rename_i a_s fz' h1
  split at h
  ·rename_i r h2
   split at h
   ·rename_i v' g h3
    split at h
    ·rename_i h4
     cases h
     refine xargs_ok h1 ⟨r,hC _ _ _ h2,xown_ok h3 ?_⟩
     rw [h4]
     exact hk
    ·cases h
   ·cases h
  ·cases h
 ·cases h
theorem onB_of{b:Bool}{k:Bool→Prop}(h:k b):OnB b k:=by
 cases b with
 |true=>exact ⟨λ_=>h,λq=>nomatch q⟩
 |false=>exact ⟨λq=>(nomatch q),λ_=>h⟩
def xlen(t:TypeId)(a:AV)(bx:Bxs):Option AV :=
 match ld t τ,a with
 |some (.slice _ _ _ _),.c (.sl _ es)=>some (.int .i64 (es.length:Nat))
 |some (.slice _ _ _ _),.c (.v (.slice none 0 0))=>some (.int .i64 ((0:Nat):Int))
 |some .str,.c (.v (.string s))=>some (.int .i64 (s.size:Nat))
 |some (.slice _ _ _ _),.gs b n=>(match ld b bx with
  |some (.grow _ s es)=>(match Nat.beq n es.length with|true=>some (.int .i64 (es.length:Nat))|false=>none)
  |some (.froz s es)=>(match Nat.beq n es.length with|true=>some (.int .i64 (es.length:Nat))|false=>none)
  |_=>none)
 |_,_=>none
def xapp(dst:Option Nat)(t:TypeId)(x y:AV)(bx:Bxs):Option (AV × Bxs) :=
 match ld t τ,y with
 |some (.slice T s by_ _),.c (.sl s' es')=>(match Nat.beq s s' with
  |true=>(match x with
   |.c (.v (.slice none 0 0))=>(match dst,Nat.ble (es'.length*(by_+1)) 140737488355328 with
    |some d,true=>some (.gs d es'.length,[(d,.grow T s es')])
    |_,_=>none)
   |.gs b n=>(match ld b bx with
    |some (.grow T' s'' es)=>(match Nat.beq T T',Nat.beq s s'',Nat.beq n es.length,Nat.ble ((es++es').length*(by_+1)) 140737488355328 with
     |true,true,true,true=>some (.gs b (es++es').length,[(b,.grow T s (es++es'))])
     |_,_,_,_=>none)
    |_=>none)
   |_=>none)
  |false=>none)
 |some (.slice T s by_ _),.c (.v (.slice none 0 0))=>(match x with
  |.c (.v (.slice none 0 0))=>(match dst with
   |some d=>some (.gs d 0,[(d,.grow T s [])])
   |none=>none)
  |.gs b n=>(match ld b bx with
   |some (.grow T' s'' es)=>(match Nat.beq T T',Nat.beq s s'',Nat.beq n es.length,Nat.ble ((es++[]).length*(by_+1)) 140737488355328 with
    |true,true,true,true=>some (.gs b (es++[]).length,[(b,.grow T s (es++[]))])
    |_,_,_,_=>none)
   |_=>none)
  |_=>none)
 |some (.slice T s by_ _),.gs c m=>(match x with
  |.gs b n=>(match xarg bx (.gs c m),ld b bx,Nat.beq b c with
   |some (.c (.sl s' es'),f),some (.grow T' s'' es),false=>(match Nat.beq T T',Nat.beq s s'',Nat.beq s s',Nat.beq n es.length,Nat.ble ((es++es').length*(by_+1)) 140737488355328 with
    |true,true,true,true,true=>some (.gs b (es++es').length,f++[(b,.grow T s (es++es'))])
    |_,_,_,_,_=>none)
   |_,_,_=>none)
  |.c (.v (.slice none 0 0))=>(match xarg bx (.gs c m),dst with
   |some (.c (.sl s' es'),f),some d=>(match Nat.beq s s',f.any (λp=>Nat.beq p.1 d),Nat.ble (es'.length*(by_+1)) 140737488355328 with
    |true,false,true=>some (.gs d es'.length,f++[(d,.grow T s es')])
    |_,_,_=>none)
   |_,_=>none)
  |_=>none)
 |_,_=>none
def xcallO(o:Oper)(c:Call)(e:Env)(bx:Bxs):Option (AV × Bxs) :=
 match c.callee,mapO (λx=>ae e x) c.args.toList with
 |.value x,some vs=>(match fnA e x,ptrHead vs with
  |some (f,cap),none=>(match wrH τ f vs with
   |.no=>xcall C o f (vs++cap) bx
   |.s b n r=>xcallS C f b n (r++cap) bx
   |.nil r=>xcallN C o f (r++cap) bx)
  |_,_=>none)
 |.builtin .len,some [a]=>(match c.argTypes.toList with
  |[t]=>(match xlen τ t a bx with|some v=>some (v,[])|none=>none)
  |_=>none)
 |.builtin .append,some [x,y]=>(match c.argTypes.toList with
  |[t,t']=>(match Nat.beq t t' with|true=>xapp τ o.dst t x y bx|false=>none)
  |_=>none)
 |.builtin .min,some vs=>(match mapO intA vs,vs with
  |some (a :: r),(.c (.v (.int ki _)) :: _)=>some (.int ki (r.foldl (λx y=>if y<x then y else x) a),[])
  |_,_=>none)
 |.builtin .max,some vs=>(match mapO intA vs,vs with
  |some (a :: r),(.c (.v (.int ki _)) :: _)=>some (.int ki (r.foldl (λx y=>if y > x then y else x) a),[])
  |_,_=>none)
 |_,_=>none
def xbo(op:BinOp)(t:TypeId)(x y:AV):Option AV :=
 match x,y with
 |.c (.v (.bool p)),.c (.v (.bool q))=>(match ld t τ,op with
  |some .bool,.eql=>some (.bool (p == q))
  |some .bool,.neq=>some (.bool (p != q))
  |_,_=>none)
 |.agg cs,.agg ds=>(match flatIn t τ,op with
  |some ks,.eql=>(match eqC ks cs ds with|some q=>some (.bool q)|none=>none)
  |some ks,.neq=>(match eqC ks cs ds with|some q=>some (.bool (!q))|none=>none)
  |_,_=>none)
 |a,b=>xbin op a b
def xbuild(e:Env)(t:TypeId)(ps:List (Nat × Operand))(bx:Bxs):Option (AV × Bxs) :=
 match ld t τ,agoM τ,xparts e ps bx with
 |some (.row _ fs z),false,some (vs,f)=>(match fillA fs vs z with|some cs=>some (.agg cs,f)|none=>none)
 |some (.arr n s _ z),_,some (vs,f)=>(match fillA (arrP s n 0) vs z with|some cs=>some (.agg cs,f)|none=>none)
 |_,_,_=>none
def xbs(d:Option Nat)(e:Env)(t:TypeId)(n:Nat)(ps:List (Nat × Operand))(bx:Bxs):Option (AV × Bxs) :=
 match ld t τ,inOrder 0 ps,xparts e ps bx with
 |some (.slice T s _ _),true,some (vs,f)=>(match litA s vs n,Nat.ble (n*s) 16777216 with
  |some es,true=>(match ownM τ || Nat.beq n 0,d with
   |true,some d=>(match f.any λp=>Nat.beq p.1 d with|false=>some (.gs d n,f++[(d,.grow T s es)])|true=>none)
   |true,none=>none
   |false,_=>some (.c (.sl s es),f))
  |_,_=>none)
 |_,_,_=>none
def xsl(e:Env)(t:TypeId)(x:AV)(lo hi mx:Option Operand)(bx:Bxs):Option (AV × Bxs) :=
 match ld t τ,x,optI e lo,optI e hi,optI e mx with
 |some (.slice _ s _ _),.c (.sl s' es),some lo,some hi,some mx=>(match Nat.beq s s',xslp es.length lo hi mx with
  |true,some (a,b)=>some (.c (.sl s ((es.take b).drop a)),[])
  |_,_=>none)
 |some (.slice _ s _ _),.gs b n,some lo,some hi,some mx=>(match xarg bx (.gs b n) with
  |some (.c (.sl s' es),f)=>(match Nat.beq s s',xslp es.length lo hi mx with
   |true,some (a,b)=>some (.c (.sl s ((es.take b).drop a)),f)
   |_,_=>none)
  |_=>none)
 |some (.slice _ _ _ _),.c (.v (.slice none 0 0)),some lo,some hi,some mx=>(match xslp 0 lo hi mx with|some _=>some (.c (.v (.slice none 0 0)),[])|none=>none)
 |_,_,_,_,_=>none
def xop(o:Oper)(e:Env)(bx:Bxs):Option (AV × Bxs) :=
 match o.op with
 |.move x=>(match ae e x with|some v=>some (v,[])|none=>none)
 |.assign x=>(match nilA τ o x with
  |some (d,T,s)=>some (.gs d 0,[(d,.grow T s [])])
  |none=>(match ae e x with|some v=>some (v,[])|none=>none))
 |.pick c a b=>(match ae e c with
  |some (.c (.v (.bool p)))=>(match ae e (cond p a b) with|some v=>some (v,[])|none=>none)
  |_=>none)
 |.alloc t=>(match ld t τ,o.dst with
  |some ti,some d=>(match isTy ti with|true=>some (.ptr d 0,[(d,.var (zeroCells ti))])|false=>none)
  |_,_=>none)
 |.box t x=>(match o.dst,ae e x with
  |some d,some v=>(match xarg bx v with
   |some (v',f)=>(match f.any λp=>Nat.beq p.1 d with|false=>some (.ptr d 0,f++[(d,.var (cellsOf v'))])|true=>none)
   |none=>none)
  |_,_=>none)
 |.load t x=>(match ld t τ,ae e x with
  |some ti,some a=>(match xload τ ti a bx with|some v=>some (v,[])|none=>none)
  |_,_=>none)
 |.store t x y=>(match agoOf (ae e y),ld t τ,ae e x,ae e y with
  |none,some ti,some a,some v=>(match xstore τ ti a v bx with|some f=>some (.any,f)|none=>none)
  |_,_,_,_=>none)
 |.fieldAddr t x i=>(match ld t τ,ae e x with
  |some (.row _ fs _),some a=>(match xfield fs i a bx with|some v=>some (v,[])|none=>none)
  |_,_=>none)
 |.field t x i=>(match ld t τ,ae e x with
  |some (.row _ fs _),some (.agg cs)=>(match fs[i]? with
   |some (off,s,agg)=>(match takeN s (dropN off cs) with
    |some l=>(match agg with
     |true=>some (.agg l,[])
     |false=>(match l with|c :: _=>some (.c c,[])|[]=>none))
    |none=>none)
   |none=>none)
  |_,_=>none)
 |.indexAddr t x y=>(match ld t τ,ae e x,ae e y with
  |some ti,some a,some (.c (.v (.int _ i)))=>(match xidx ti a i bx with|some v=>some (v,[])|none=>none)
  |_,_,_=>none)
 |.index t x y=>(match ld t τ,ae e x,ae e y with
  |some .str,some (.c (.v (.string s))),some (.c (.v (.int _ (.ofNat j))))=>(match Nat.blt j s.size with
   |true=>some (.int .u8 ((s.data.toList.getD j 0).toNat:Nat),[])
   |false=>none)
  |_,_,_=>none)
 |.extract x i=>(match ae e x with
  |some (.tup vs)=>(match vs[i]? with|some v=>some (v,[])|none=>none)
  |_=>none)
 |.binOp op t x y u=>(match ae e x,ae e y with
  |some a,some b=>(match xbo τ op t a b with|some v=>some (v,[])|none=>none)
  |_,_=>none)
 |.unOp .not t x=>(match ae e x with|some (.c (.v (.bool b)))=>some (.bool (!b),[])|_=>none)
 |.unOp .neg t x=>(match ae e x with|some (.c (.v (.int ki n)))=>some (.int ki (ki.wrap (0-n)),[])|_=>none)
 |.convert src dst x=>(match ld src τ,ld dst τ,ae e x with
  |some (.int _),some (.int ki),some (.c (.v (.int _ n)))=>some (.int ki (ki.wrap n),[])
  |_,_,_=>none)
 |.build t ps=>xbuild τ e t ps.toList bx
 |.buildSlice t n ps=>xbs τ o.dst e t n ps.toList bx
 |.makeSlice t x y=>(match ld t τ,ae e x,ae e y,o.dst with
  |some (.slice T s by_ z),some (.c (.v (.int _ (.ofNat l)))),some (.c (.v (.int _ (.ofNat c)))),some d=>(match Nat.ble l c,Nat.ble (c*(by_+1)) 140737488355328 with
   |true,true=>some (.gs d l,[(d,.grow T s (List.replicate l z))])
   |_,_=>none)
  |_,_,_,_=>none)
 |.slice t x lo hi mx=>(match ae e x with|some a=>xsl τ e t a lo hi mx bx|none=>none)
 |.nilCheck x=>(match ae e x with
  |some (.ptr b o)=>some (.ptr b o,[])
  |some (.rd cs)=>some (.rd cs,[])
  |some (.c (.p cs))=>some (.c (.p cs),[])
  |some (.gp g o')=>some (.gp g o',[])
  |_=>none)
 |.makeFunc fn first captured=>(match fn,first.toList,mapO (λx=>ae e x) captured.toList with
  |.func g,[],some vs=>(match xargs vs bx with
   |some (a_s,f)=>(match cellsAll a_s with|some cs=>some (.c (.fn g cs),f)|none=>none)
   |none=>none)
  |_,_,_=>none)
 |.call c=>xcallO C τ o c e bx
 |_=>none
variable {C τ} {D:FuncId→List AV→AV→Prop}
theorem xload_ok{ti:TI}{t:TypeId}{x:Operand}{a v:AV}{o:Oper}{e:Env}{bx:Bxs}{k:AV→Bxs→Prop}(ho:o.op=.load t x)(h1:ld t τ=some ti)(h2:ae e x=some a)(h:xload τ ti a bx=some v)(hk:k v []):aop D τ o e bx k:=by
 unfold aop
 simp only [ho,h1,h2]
 unfold xload at h
 split at h
 ·split at h
  ·rename_i h3;simp only [h3,h];exact hk
  ·rename_i h3;simp only [h3,h];exact hk
  ·cases h
 ·simp only [h];exact hk
 ·simp only [h];exact hk
 ·split at h
  ·rename_i h3;simp only [h3,h];exact hk
  ·cases h
 ·split at h
  ·rename_i h3
   split at h
   ·rename_i h4 h5
    simp only [h3]
    refine ⟨Nat.eq_of_beq_eq_true h4,⟨_,_,rfl,h5, ?_⟩⟩
    simp only [h];exact hk
   ·cases h
  ·rename_i h3
   split at h
   ·rename_i h4 h5
    simp only [h3]
    refine ⟨Nat.eq_of_beq_eq_true h4,⟨_,_,rfl,h5, ?_⟩⟩
    simp only [h];exact hk
   ·cases h
  ·cases h
 ·cases h
theorem xfield_ok{fs:List (Nat × Nat × Bool)}{n:Nat}{z:List Cell}{t:TypeId}{x:Operand}{i:Nat}{a v:AV}{o:Oper}{e:Env}{bx:Bxs}{k:AV→Bxs→Prop}(ho:o.op=.fieldAddr t x i)(h1:ld t τ=some (.row n fs z))(h2:ae e x=some a)(h:xfield fs i a bx=some v)(hk:k v []):aop D τ o e bx k:=by
 unfold aop
 simp only [ho,h1,h2]
 unfold xfield at h
 split at h
 ·rename_i h3;cases h;simp only [h3];exact hk
 ·rename_i h3
  split at h
  ·rename_i h4
   split at h
   ·rename_i h5;cases h;simp only [h3,h4];exact ⟨Nat.eq_of_beq_eq_true h5,hk⟩
   ·cases h
  ·rename_i h4
   split at h
   ·rename_i h5;cases h;simp only [h3,h4];exact ⟨Nat.eq_of_beq_eq_true h5,hk⟩
   ·cases h
  ·cases h
 ·rename_i h3;cases h;simp only [h3];exact hk
 ·rename_i h3;cases h;simp only [h3];exact hk
 ·rename_i h3;cases h;simp only [h3];exact hk
 ·cases h
theorem xidx_ok{ti:TI}{ki:IntKind}{t:TypeId}{x y:Operand}{i:Int}{a v:AV}{o:Oper}{e:Env}{bx:Bxs}{k:AV→Bxs→Prop}(ho:o.op=.indexAddr t x y)(h1:ld t τ=some ti)(h2:ae e x=some a)(h3:ae e y=some (.c (.v (.int ki i))))(h:xidx ti a i bx=some v)(hk:k v []):aop D τ o e bx k:=by
 unfold aop
 simp only [ho,h1,h2,h3]
 unfold xidx at h
 split at h
 ·split at h
  ·rename_i h4 h5;cases h;simp only [h4];exact xelem_ok h5 hk
  ·cases h
 ·split at h
  ·rename_i h6
   split at h
   ·rename_i h4 h5 h7;cases h;simp only [h6,h4];exact ⟨Nat.eq_of_beq_eq_true h5,xelem_ok h7 hk⟩
   ·cases h
  ·rename_i h6
   split at h
   ·rename_i h4 h5 h7;cases h;simp only [h6,h4];exact ⟨Nat.eq_of_beq_eq_true h5,xelem_ok h7 hk⟩
   ·cases h
  ·cases h
 all_goals first
  |(cases h;done)
  |(split at h
    ·split at h
     ·rename_i h4;cases h;simp only [h4];exact hk
     ·cases h
    ·cases h)
theorem xstore_ok{ti:TI}{t:TypeId}{x y:Operand}{a v:AV}{o:Oper}{e:Env}{bx f:Bxs}{k:AV→Bxs→Prop}(ho:o.op=.store t x y)(h0:agoOf (ae e y)=none)(h1:ld t τ=some ti)(h2:ae e x=some a)(h3:ae e y=some v)(h:xstore τ ti a v bx=some f)(hk:k .any f):aop D τ o e bx k:=by
 unfold aop
 rw [h3] at h0
 simp only [ho,h1,h2,h3,h0]
 unfold xstore at h
 split at h
 ·split at h
  ·rename_i h5
   split at h
   ·rename_i g1 g2 g3
    split at h
    ·rename_i g4 g5
     split at h
     ·rename_i g6
      cases h
      simp only [h5,g1,g2,g3,g4,g5]
      exact ⟨Nat.eq_of_beq_eq_true g6,hk⟩
     ·cases h
    ·cases h
   ·rename_i hn
    simp only [h5]
    unfold xdata at h
    split at h
    ·rename_i h6
     split at h
     ·rename_i h7 h8 h9
      cases h
      refine xarg_ok h6 ?_
      simp only [h7,h8,h9]
      exact hk
     ·cases h
    ·cases h
  ·cases h
 ·split at h
  ·rename_i h5
   split at h
   ·rename_i h6
    split at h
    ·rename_i h7 h8
     split at h
     ·rename_i h9 h10
      cases h
      simp only [h5]
      refine xarg_ok h6 ?_
      simp only
      refine ⟨Nat.eq_of_beq_eq_true h7,⟨_,_,rfl,h8, ?_⟩⟩
      simp only [h9,h10]
      exact hk
     ·cases h
    ·cases h
   ·cases h
  ·cases h
 ·cases h
theorem xlen_ok{t:TypeId}{c:Call}{a v:AV}{o:Oper}{e:Env}{bx:Bxs}{k:AV→Bxs→Prop}(ho:o.op=.call c)(h0:c.callee=.builtin .len)(h1:mapO (λx=>ae e x) c.args.toList=some [a])(h2:c.argTypes.toList=[t])(h:xlen τ t a bx=some v)(hk:k v []):aop D τ o e bx k:=by
 unfold aop
 unfold xlen at h
 split at h
 ·rename_i h3;cases h;simp only [ho,h0,h1,h2,h3];exact hk
 ·rename_i h3;cases h;simp only [ho,h0,h1,h2,h3];exact hk
 ·rename_i h3;cases h;simp only [ho,h0,h1,h2,h3];exact hk
 ·rename_i h3
  split at h
  ·rename_i h4
   split at h
   ·rename_i h5;cases h;simp only [ho,h0,h1,h2,h3,h4];exact ⟨Nat.eq_of_beq_eq_true h5,hk⟩
   ·cases h
  ·rename_i h4
   split at h
   ·rename_i h5;cases h;simp only [ho,h0,h1,h2,h3,h4];exact ⟨Nat.eq_of_beq_eq_true h5,hk⟩
   ·cases h
  ·cases h
 ·cases h
theorem xapp_ok{t t':TypeId}{c:Call}{x y v:AV}{o:Oper}{e:Env}{bx f:Bxs}{k:AV→Bxs→Prop}(ho:o.op=.call c)(h0:c.callee=.builtin .append)(h1:mapO (λx=>ae e x) c.args.toList=some [x,y])(h2:c.argTypes.toList=[t,t'])(hb:Nat.beq t t'=true)(h:xapp τ o.dst t x y bx=some (v,f))(hk:k v f):aop D τ o e bx k:=by
 unfold aop
 unfold xapp at h
 split at h
 ·rename_i h3
  split at h
  ·rename_i h4
   split at h
   ·split at h
    ·rename_i h5 h6;cases h;simp only [ho,h0,h1,h2,hb,h3,h4,h5];exact ⟨Nat.le_of_ble_eq_true h6,hk⟩
    ·cases h
   ·split at h
    ·rename_i h5
     split at h
     ·rename_i h6 h7 h8 h9;cases h;simp only [ho,h0,h1,h2,hb,h3,h4,h5,h6,h7];exact ⟨Nat.eq_of_beq_eq_true h8,Nat.le_of_ble_eq_true h9,hk⟩
     ·cases h
    ·cases h
   ·cases h
  ·cases h
 ·rename_i h3
  split at h
  ·split at h
   ·rename_i h5;cases h;simp only [ho,h0,h1,h2,hb,h3,h5];exact hk
   ·cases h
  ·split at h
   ·rename_i h5
    split at h
    ·rename_i h6 h7 h8 h9;cases h;simp only [ho,h0,h1,h2,hb,h3,h5,h6,h7];exact ⟨Nat.eq_of_beq_eq_true h8,Nat.le_of_ble_eq_true h9,hk⟩
    ·cases h
   ·cases h
  ·cases h
 ·rename_i h3
  split at h
  ·split at h
   ·rename_i h4 h5 h6
    split at h
    ·rename_i g1 g2 g3 g4 g5
     cases h
     simp only [ho,h0,h1,h2,hb,h3]
     refine xarg_ok h4 ?_
     simp only [h5,h6,g1,g2,g3]
     exact ⟨Nat.eq_of_beq_eq_true g4,Nat.le_of_ble_eq_true g5,hk⟩
    ·cases h
   ·cases h
  ·split at h
   ·rename_i h4 h5
    split at h
    ·rename_i g1 g2 g3
     cases h
     simp only [ho,h0,h1,h2,hb,h3]
     refine xarg_ok h4 ?_
     simp only [h5,g1,g2]
     exact ⟨Nat.le_of_ble_eq_true g3,hk⟩
    ·cases h
   ·cases h
  ·cases h
 ·cases h
theorem xcallO_ok(hC:∀f xs r,C f xs=some r→D f xs r){c:Call}{v:AV}{o:Oper}{e:Env}{bx f:Bxs}{k:AV→Bxs→Prop}(ho:o.op=.call c)(h:xcallO C τ o c e bx=some (v,f))(hk:k v f):aop D τ o e bx k:=by
 unfold xcallO at h
 split at h
 ·rename_i h0 h1
  split at h
  ·rename_i h2 h3
   split at h
   ·rename_i h4
    unfold aop
    simp only [ho,h0,h1,h2,h3,h4]
    exact xcall_ok _ hC h hk
   ·rename_i h4
    unfold aop
    simp only [ho,h0,h1,h2,h3,h4]
    exact xcallS_ok _ hC h hk
   ·rename_i h4
    unfold aop
    simp only [ho,h0,h1,h2,h3,h4]
    exact xcallN_ok _ hC h hk
  ·cases h
 ·rename_i h0 h1
  split at h
  ·rename_i h2
   split at h
   ·rename_i h3;cases h;exact xlen_ok ho h0 h1 h2 h3 hk
   ·cases h
  ·cases h
 ·rename_i h0 h1
  split at h
  ·rename_i h2
   split at h
   ·rename_i h3;exact xapp_ok ho h0 h1 h2 h3 h hk
   ·cases h
  ·cases h
 ·rename_i h0 h1
  split at h
  ·rename_i h2;cases h;unfold aop;simp only [ho,h0,h1,h2];exact hk
  ·cases h
 ·rename_i h0 h1
  split at h
  ·rename_i h2;cases h;unfold aop;simp only [ho,h0,h1,h2];exact hk
  ·cases h
 ·cases h
theorem xbo_ok{op:BinOp}{t u:TypeId}{x y:Operand}{a b v:AV}{o:Oper}{e:Env}{bx:Bxs}{k:AV→Bxs→Prop}(ho:o.op=.binOp op t x y u)(h1:ae e x=some a)(h2:ae e y=some b)(h:xbo τ op t a b=some v)(hk:k v []):aop D τ o e bx k:=by
 unfold aop
 unfold xbo at h
 split at h
 ·split at h
  ·rename_i h3;cases h;simp only [ho,h1,h2,h3];exact hk
  ·rename_i h3;cases h;simp only [ho,h1,h2,h3];exact hk
  ·cases h
 ·split at h
  ·rename_i h3
   split at h
   ·rename_i h4;cases h;simp only [ho,h1,h2,h3,h4];exact hk
   ·cases h
  ·rename_i h3
   split at h
   ·rename_i h4;cases h;simp only [ho,h1,h2,h3,h4];exact hk
   ·cases h
  ·cases h
 ·rename_i hx hy
  simp only [ho,h1,h2]
  exact xbin_ok h hk
theorem xbuild_ok{t:TypeId}{ps:Array (Nat × Operand)}{v:AV}{o:Oper}{e:Env}{bx f:Bxs}{k:AV→Bxs→Prop}(ho:o.op=.build t ps)(h:xbuild τ e t ps.toList bx=some (v,f))(hk:k v f):aop D τ o e bx k:=by
 unfold aop
 unfold xbuild at h
 split at h
 ·rename_i h1 h2 h3
  split at h
  ·rename_i h4
   cases h
   simp only [ho,h1,h2]
   refine xparts_ok h3 ?_
   simp only [h4];exact hk
  ·cases h
 ·rename_i h1 h3
  split at h
  ·rename_i h4
   cases h
   simp only [ho,h1]
   refine xparts_ok h3 ?_
   simp only [h4];exact hk
  ·cases h
 ·cases h
theorem xbs_ok{t:TypeId}{n:Nat}{ps:Array (Nat × Operand)}{v:AV}{o:Oper}{e:Env}{bx f:Bxs}{k:AV→Bxs→Prop}(ho:o.op=.buildSlice t n ps)(h:xbs τ o.dst e t n ps.toList bx=some (v,f))(hk:k v f):aop D τ o e bx k:=by
 unfold aop
 unfold xbs at h
 split at h
 ·rename_i h1 h2 h3
  split at h
  ·rename_i h4 h5
   split at h
   ·rename_i h6 h7
    split at h
    ·rename_i h8
     cases h
     simp only [ho,h1,h2]
     refine xparts_ok h3 ?_
     simp only [h4,h5,h6,h7,h8];exact hk
    ·cases h
   ·cases h
   ·rename_i h6
    cases h
    simp only [ho,h1,h2]
    refine xparts_ok h3 ?_
    simp only [h4,h5,h6];exact hk
  ·cases h
 ·cases h
theorem xsl_ok{t:TypeId}{x:Operand}{lo hi mx:Option Operand}{a v:AV}{o:Oper}{e:Env}{bx f:Bxs}{k:AV→Bxs→Prop}(ho:o.op=.slice t x lo hi mx)(h0:ae e x=some a)(h:xsl τ e t a lo hi mx bx=some (v,f))(hk:k v f):aop D τ o e bx k:=by
 unfold aop
 unfold xsl at h
 split at h
 ·rename_i h1 h2 h3 h4
  split at h
  ·rename_i h5 h6
   cases h
   simp only [ho,h0,h1,h2,h3,h4,h5]
   exact xslp_ok h6 hk
  ·cases h
 ·rename_i h1 h2 h3 h4
  split at h
  ·rename_i h5
   split at h
   ·rename_i h6 h7
    cases h
    simp only [ho,h0,h1,h2,h3,h4]
    refine xarg_ok h5 ?_
    simp only [h6]
    exact xslp_ok h7 hk
   ·cases h
  ·cases h
 ·rename_i h1 h2 h3 h4
  split at h
  ·rename_i r h5
   obtain ⟨p,q⟩:=r
   cases h
   simp only [ho,h0,h1,h2,h3,h4]
   exact xslp_ok h5 hk
  ·cases h
 ·cases h
theorem xop_ok(hC:∀f xs r,C f xs=some r→D f xs r){v:AV}{o:Oper}{e:Env}{bx f:Bxs}{k:AV→Bxs→Prop}(h:xop C τ o e bx=some (v,f))(hk:k v f):aop D τ o e bx k:=by
 unfold xop at h
 split at h
 ·rename_i ho;split at h
  ·rename_i h1;cases h;unfold aop;simp only [ho,h1];exact hk
  ·cases h
 ·rename_i ho;split at h
  ·rename_i h1;cases h;unfold aop;simp only [ho,h1];exact hk
  ·rename_i h0
   split at h
   ·rename_i h1;cases h;unfold aop;simp only [ho,h0,h1];exact hk
   ·cases h
 ·rename_i ho;split at h
  ·rename_i h1
   split at h
   ·rename_i h2;cases h;unfold aop;simp only [ho,h1];refine onB_of ?_;simp only [h2];exact hk
   ·cases h
  ·cases h
 ·rename_i ho;split at h
  ·rename_i h1 h2
   split at h
   ·rename_i h3;cases h;unfold aop;simp only [ho,h1,h2,h3];exact hk
   ·cases h
  ·cases h
 ·rename_i ho;split at h
  ·rename_i h1 h2
   split at h
   ·rename_i h3
    split at h
    ·rename_i h4;cases h;unfold aop;simp only [ho,h1,h2];refine xarg_ok h3 ?_;simp only [h4];exact hk
    ·cases h
   ·cases h
  ·cases h
 ·rename_i ho;split at h
  ·rename_i h1 h2
   split at h
   ·rename_i h3;cases h;exact xload_ok ho h1 h2 h3 hk
   ·cases h
  ·cases h
 ·rename_i ho;split at h
  ·rename_i h0 h1 h2 h3
   split at h
   ·rename_i h4;cases h;exact xstore_ok ho h0 h1 h2 h3 h4 hk
   ·cases h
  ·cases h
 ·rename_i ho;split at h
  ·rename_i h1 h2
   split at h
   ·rename_i h3;cases h;exact xfield_ok ho h1 h2 h3 hk
   ·cases h
  ·cases h
 ·rename_i ho;split at h
  ·rename_i h1 h2
   split at h
   ·rename_i h3
    split at h
    ·rename_i h4
     split at h
     ·cases h;unfold aop;simp only [ho,h1,h2,h3,h4];exact hk
     ·split at h
      ·cases h;unfold aop;simp only [ho,h1,h2,h3,h4];exact hk
      ·cases h
    ·cases h
   ·cases h
  ·cases h
 ·rename_i ho;split at h
  ·rename_i h1 h2 h3
   split at h
   ·rename_i h4;cases h;exact xidx_ok ho h1 h2 h3 h4 hk
   ·cases h
  ·cases h
 ·rename_i ho;split at h
  ·rename_i h1 h2 h3
   split at h
   ·rename_i h4;cases h;unfold aop;simp only [ho,h1,h2,h3];exact ⟨_,rfl,by simpa using h4,hk⟩
   ·cases h
  ·cases h
 ·rename_i ho;split at h
  ·rename_i h1
   split at h
   ·rename_i h2;cases h;unfold aop;simp only [ho,h1,h2];exact hk
   ·cases h
  ·cases h
 ·rename_i ho;split at h
  ·rename_i h1 h2
   split at h
   ·rename_i h3;cases h;exact xbo_ok ho h1 h2 h3 hk
   ·cases h
  ·cases h
 ·rename_i ho;split at h
  ·rename_i h1;cases h;unfold aop;simp only [ho,h1];exact hk
  ·cases h
 ·rename_i ho;split at h
  ·rename_i h1;cases h;unfold aop;simp only [ho,h1];exact hk
  ·cases h
 ·rename_i ho;split at h
  ·rename_i h1 h2 h3;cases h;unfold aop;simp only [ho,h1,h2,h3];exact hk
  ·cases h
 ·rename_i ho;exact xbuild_ok ho h hk
 ·rename_i ho;exact xbs_ok ho h hk
 ·rename_i ho;split at h
  ·rename_i h1 h2 h3 h4
   split at h
   ·rename_i h5 h6;cases h;unfold aop;simp only [ho,h1,h2,h3,h4];exact ⟨_,_,rfl,rfl,Nat.le_of_ble_eq_true h5,Nat.le_of_ble_eq_true h6,hk⟩
   ·cases h
  ·cases h
 ·rename_i ho;split at h
  ·rename_i h1;exact xsl_ok ho h1 h hk
  ·cases h
 ·rename_i ho;split at h
  ·rename_i h1;cases h;unfold aop;simp only [ho,h1];exact hk
  ·rename_i h1;cases h;unfold aop;simp only [ho,h1];exact hk
  ·rename_i h1;cases h;unfold aop;simp only [ho,h1];exact hk
  ·rename_i h1;cases h;unfold aop;simp only [ho,h1];exact hk
  ·cases h
 ·rename_i ho;split at h
  ·rename_i h1 h2
   split at h
   ·rename_i h3
    split at h
    ·rename_i h4;cases h;unfold aop;simp only [ho,h1,h2];refine xargs_ok h3 ?_;simp only [h4];exact hk
    ·cases h
   ·cases h
  ·cases h
 ·rename_i ho;exact xcallO_ok hC ho h hk
 ·cases h
end
section
variable (C:FuncId→List AV→Option AV) (τ:Tab)
def xNB{α:Type}(ids:List Nat)(b:Bxs)(p:Option α):Option α :=
 match ids with
 |[]=>p
 |ids=>(match mentionB ids b with|false=>p|true=>none)
def xopg(O:List Oper)(o:Oper)(e:Env)(b:Bxs):Option (Env × AV × Bxs × Lg) :=
 match o.guard with
 |none=>xNB (alO o) b (match fzV (xop C τ o e b) with|some (v,f)=>some (e,v,f,lgOf o e b v f)|none=>none)
 |some (j,want)=>match slotOf O j with
  |some t=>(match ld t e with
   |some (.c (.v (.bool p)))=>(match p == want with
    |true=>xNB (alO o) b (match fzV (xop C τ o ((t,.bool p) :: e) b) with|some (v,f)=>some ((t,.bool p) :: e,v,f,lgOf o ((t,.bool p) :: e) b v f)|none=>none)
    |false=>some ((t,.bool p) :: e,.bad,[],⟨[],[],[],[]⟩))
   |some .bad=>some (e,.bad,[],⟨[],[],[],[]⟩)
   |_=>none)
  |none=>none
def xops(O:List Oper):List Oper→Env→Bxs→Option (Env × Bxs)
 |[],e,b=>some (e,b)
 |o :: r,e,b=>match xopg C τ O o e b with
  |some (e,v,f,_)=>xops O r (putE o v e) (ups f b)
  |none=>none
def xopl(O:List Oper):List Oper→Env→Bxs→List Lg→Option (Env × Bxs × List Lg)
 |[],e,b,lg=>some (e,b,lg)
 |o :: r,e,b,lg=>match xopg C τ O o e b with
  |some (e,v,f,l)=>xopl O r (apE o v e) (ups f b) (lg++[l])
  |none=>none
def xreg(dr:Bool)(O:List Oper)(e:Env)(b:Bxs):Option (Env × Bxs) :=
 match dr with
 |false=>xops C τ O O e b
 |true=>xNB (als O) b (match xopl C τ O O (prep O e) b [] with
  |some (e,b,lg)=>(match ordOk O lg with|true=>some (e,b)|false=>none)
  |none=>none)
def xloop(F:Env→Bxs→Option (Ex × Env × Bxs)):Nat→Env→Bxs→Option (Ex × Env × Bxs)
 |0,_,_=>none
 |n+1,e,b=>match F e b with
  |some (.normal,e,b)=>xloop F n e b
  |r=>r
def xwp(n:Nat):Code→Env→Bxs→Option (Ex × Env × Bxs)
 |.skip,e,b=>some (.normal,e,b)
 |.region id ops dr,e,b=>(match preF τ id e with
  |none=>(match xreg C τ dr ops.toList e b with|some (e,b)=>some (.normal,e,b)|none=>none)
  |some (t,i,n)=>(match xarg b (.gs i n) with
   |some (v,f)=>(match xreg C τ dr ops.toList ((t,v) :: e) (ups f b) with|some (e,b)=>some (.normal,e,b)|none=>none)
   |none=>none))
 |.seq x y,e,b=>(match xwp n x e b with
  |some (.normal,e,b)=>xwp n y e b
  |r=>r)
 |.cond c x y,e,b=>(match ae e c with
  |some (.c (.v (.bool p)))=>(match p with|true=>xwp n x e b|false=>xwp n y e b)
  |_=>none)
 |.block id x,e,b=>(match xwp n x e b with
  |some (.exit i,e,b)=>(match Nat.beq i id with|true=>some (.normal,e,b)|false=>some (.exit i,e,b))
  |r=>r)
 |.loop x,e,b=>xloop (xwp n x) n e b
 |.exit id,e,b=>some (.exit id,e,b)
 |.ret,e,b=>some (.ret,e,b)
 |_,_,_=>none
variable {C τ} {D:FuncId→List AV→AV→Prop}
theorem xNB_ok{α:Type}{ids:List Nat}{b:Bxs}{q:Option α}{r:α}{p:Prop}(h:xNB ids b q=some r)(hk:q=some r→p):NB ids b p:=by
 cases ids with
 |nil=>exact hk h
 |cons i l =>
  unfold xNB at h
  unfold NB
  simp only at h ⊢
  split at h
  ·rename_i h1;rw [h1];exact hk h
  ·cases h
theorem xopg_ok(hC:∀f xs r,C f xs=some r→D f xs r){O:List Oper}{o:Oper}{e e':Env}{b f:Bxs}{v:AV}{l:Lg}{k:Env→AV→Bxs→Lg→Prop}(h:xopg C τ O o e b=some (e',v,f,l))(hk:k e' v f l):aopg D τ O o e b k:=by
 unfold xopg at h
 unfold aopg
 split at h
 ·rename_i h1
  simp only [h1]
  refine xNB_ok h λq=>?_
  split at q
  ·rename_i h2;rw [fzV_eq] at h2;cases q;exact xop_ok hC h2 hk
  ·cases q
 ·rename_i h1
  simp only [h1]
  split at h
  ·rename_i h2
   simp only [h2]
   split at h
   ·rename_i h3
    simp only [h3]
    refine onB_of ?_
    split at h
    ·rename_i h4
     simp only [h4]
     refine xNB_ok h λq=>?_
     split at q
     ·rename_i h5;rw [fzV_eq] at h5;cases q;exact xop_ok hC h5 hk
     ·cases q
    ·rename_i h4;cases h;simp only [h4];exact hk
   ·rename_i h3;cases h;simp only [h3];exact hk
   ·cases h
  ·cases h
theorem xops_ok(hC:∀f xs r,C f xs=some r→D f xs r){O:List Oper}{k:Env→Bxs→Prop}:∀{l:List Oper} {e e':Env} {b b':Bxs},xops C τ O l e b=some (e',b')→k e' b'→aops D τ O l e b k
 |[],e,e',b,b',h,hk=>by cases h;exact hk
 |o :: r,e,e',b,b',h,hk=>by
  simp only [xops] at h
  simp only [aops,putK_eq,upsK_eq]
  split at h
  ·rename_i h1;exact xopg_ok hC h1 (xops_ok hC h hk)
  ·cases h
theorem xopl_ok(hC:∀f xs r,C f xs=some r→D f xs r){O:List Oper}{k:Env→Bxs→List Lg→Prop}:∀{l:List Oper} {e e':Env} {b b':Bxs} {lg lg':List Lg},xopl C τ O l e b lg=some (e',b',lg')→k e' b' lg'→aopl D τ O l e b lg k
 |[],e,e',b,b',lg,lg',h,hk=>by cases h;exact hk
 |o :: r,e,e',b,b',lg,lg',h,hk=>by
  simp only [xopl] at h
  simp only [aopl,apK_eq,upsK_eq]
  split at h
  ·rename_i h1;exact xopg_ok hC h1 (xopl_ok hC h hk)
  ·cases h
theorem xreg_ok(hC:∀f xs r,C f xs=some r→D f xs r){dr:Bool}{O:List Oper}{e e':Env}{b b':Bxs}{k:Env→Bxs→Prop}(h:xreg C τ dr O e b=some (e',b'))(hk:k e' b'):areg D τ dr O e b k:=by
 unfold xreg at h
 split at h
 ·exact xops_ok hC h hk
 ·simp only [areg,prepK_eq]
  refine xNB_ok h λq=>?_
  split at q
  ·rename_i h1
   split at q
   ·rename_i h2;cases q;exact xopl_ok hC h1 ⟨h2,hk⟩
   ·cases q
  ·cases q
theorem xloop_ok{n:Nat}{x:Code}{Q:Ex→Env→Bxs→Prop}(ih:∀{e:Env} {b:Bxs} {z:Ex} {e':Env} {b':Bxs},xwp C τ n x e b=some (z,e',b')→∀{Q:Ex→Env→Bxs→Prop},Q z e' b'→awp D τ x Q e b):
 ∀(m:Nat) {e:Env} {b:Bxs} {z:Ex} {e':Env} {b':Bxs},xloop (xwp C τ n x) m e b=some (z,e',b')→Q z e' b'→Loop (awp D τ x) Q e b
 |0,e,b,z,e',b',h,hk=>by cases h
 |m+1,e,b,z,e',b',h,hk=>by
  simp only [xloop] at h
  refine Loop.unroll ?_
  split at h
  ·rename_i h1
   exact ih h1 (xloop_ok ih m h hk)
  ·rename_i hn
   refine ih h ?_
   cases z with
   |normal=>exact absurd h (hn _ _)
   |ret=>exact hk
   |exit i=>exact hk
theorem xwp_ok(hC:∀f xs r,C f xs=some r→D f xs r)(n:Nat):∀(c:Code) {e:Env} {b:Bxs} {z:Ex} {e':Env} {b':Bxs},xwp C τ n c e b=some (z,e',b')→∀{Q:Ex→Env→Bxs→Prop},Q z e' b'→awp D τ c Q e b
 |.skip,e,b,z,e',b',h,Q,hk=>by cases h;exact hk
 |.ret,e,b,z,e',b',h,Q,hk=>by cases h;exact hk
 |.exit id,e,b,z,e',b',h,Q,hk=>by cases h;exact hk
 |.region id ops dr,e,b,z,e',b',h,Q,hk=>by
  simp only [xwp] at h
  simp only [awp]
  split at h
  ·rename_i h0
   simp only [h0]
   split at h
   ·rename_i h1;cases h;exact xreg_ok hC h1 hk
   ·cases h
  ·rename_i h0
   simp only [h0]
   split at h
   ·rename_i h2
    refine xarg_ok h2 ?_
    split at h
    ·rename_i h1;cases h;exact xreg_ok hC h1 hk
    ·cases h
   ·cases h
 |.seq x y,e,b,z,e',b',h,Q,hk=>by
  simp only [xwp] at h
  simp only [awp]
  split at h
  ·rename_i h1;exact xwp_ok hC n x h1 (xwp_ok hC n y h hk)
  ·rename_i hn
   refine xwp_ok hC n x h ?_
   cases z with
   |normal=>exact absurd h (hn _ _)
   |ret=>exact hk
   |exit i=>exact hk
 |.cond c x y,e,b,z,e',b',h,Q,hk=>by
  simp only [xwp] at h
  simp only [awp]
  split at h
  ·rename_i h1
   simp only [h1]
   refine onB_of ?_
   split at h
   ·exact xwp_ok hC n x h hk
   ·exact xwp_ok hC n y h hk
  ·cases h
 |.block id x,e,b,z,e',b',h,Q,hk=>by
  simp only [xwp] at h
  simp only [awp]
  split at h
  ·rename_i h1
   refine xwp_ok hC n x h1 ?_
   simp only
   split at h
   ·rename_i h2;cases h;simp only [h2];exact hk
   ·rename_i h2;cases h;simp only [h2];exact hk
  ·rename_i hn
   refine xwp_ok hC n x h ?_
   cases z with
   |normal=>exact hk
   |ret=>exact hk
   |exit i=>exact absurd h (hn _ _ _)
 |.loop x,e,b,z,e',b',h,Q,hk=>by
  simp only [xwp] at h
  simp only [awp]
  exact xloop_ok (xwp_ok hC n x) n h hk
 |.rangeFunc _ _ _ _,e,b,z,e',b',h,Q,hk=>by simp [xwp] at h
 |.scope _,e,b,z,e',b',h,Q,hk=>by simp [xwp] at h
 |.label _,e,b,z,e',b',h,Q,hk=>by simp [xwp] at h
 |.goto _,e,b,z,e',b',h,Q,hk=>by simp [xwp] at h
 |.refuse _,e,b,z,e',b',h,Q,hk=>by simp [xwp] at h
end
section
variable (τ:Tab)
def xres(e:Env)(b:Bxs)(r:ResultVar):Option AV :=
 match r with
 |.tmp t=>(match ld t e with|some v=>(match xarg b v with|some (v',_)=>some v'|none=>none)|none=>none)
 |.cell a t=>(match ld t τ,ld a e with
  |some ti,some (.ptr i 0)=>(match ld i b with|some (.var cs)=>rdAs ti cs|_=>none)
  |_,_=>none)
def xress(e:Env)(b:Bxs):List ResultVar→Option (List AV)
 |[]=>some []
 |r :: l=>match xres τ e b r with
  |some v=>(match xress e b l with|some vs=>some (v :: vs)|none=>none)
  |none=>none
def xend(fn:Func):Ex→Env→Bxs→Option AV
 |.ret,e,b=>(match xress τ e b fn.results.toList with|some vs=>some (packA vs)|none=>none)
 |.normal,e,b=>(match fn.results.toList with|[]=>some (.tup [])|_=>none)
 |_,_,_=>none
variable {τ}
theorem xres_ok{e:Env}{b:Bxs}{r:ResultVar}{v:AV}{k:AV→Prop}(h:xres τ e b r=some v)(hk:k v):resK τ e b r k:=by
 unfold xres at h
 unfold resK
 split at h
 ·split at h
  ·rename_i h1
   split at h
   ·rename_i h2;cases h;simp only [h1];exact xarg_ok h2 hk
   ·cases h
  ·cases h
 ·split at h
  ·rename_i h1 h2
   split at h
   ·rename_i h3;simp only [h1,h2,h3,h];exact hk
   ·cases h
  ·cases h
theorem xress_ok{e:Env}{b:Bxs}:∀{l:List ResultVar} {vs:List AV} {k:List AV→Prop},xress τ e b l=some vs→k vs→ressK τ e b l k
 |[],vs,k,h,hk=>by cases h;exact hk
 |r :: l,vs,k,h,hk=>by
  simp only [xress] at h
  simp only [ressK]
  split at h
  ·rename_i h1
   split at h
   ·rename_i h2;cases h;exact xres_ok h1 (xress_ok h2 hk)
   ·cases h
  ·cases h
theorem xend_ok{fn:Func}{z:Ex}{e:Env}{b:Bxs}{r:AV}(h:xend τ fn z e b=some r):endA τ fn r z e b:=by
 unfold xend at h
 unfold endA
 split at h
 ·split at h
  ·rename_i h1;cases h;exact xress_ok h1 ⟨rfl⟩
  ·cases h
 ·split at h
  ·rename_i h1;cases h;simp only [h1];exact ⟨rfl⟩
  ·cases h
 ·cases h
end
end Go.Sw
namespace Go.Sw
open Go Go.RowKit
set_option linter.unusedVariables false
theorem kpFree_eq{k1 k2:Kp}(h:k1.l.map (·.1)=k2.l.map (·.1))(d:Nat):@kpFree k1 d = @kpFree k2 d:=by
 have key:∀l:List (Nat × Value),(l.all λp=>!(Nat.beq p.1 d))=(l.map (·.1)).all λt=>!(Nat.beq t d):=λl=>by
  induction l with
  |nil=>rfl
  |cons p r ih=>simp [List.all_cons,ih]
 unfold kpFree
 rw [key,key,h]
theorem dstsLt_eq{k1 k2:Kp}(h:k1.l.map (·.1)=k2.l.map (·.1))(N:Nat)(O:List Oper):@dstsLt k1 N O = @dstsLt k2 N O:=by
 unfold dstsLt
 congr 1
 funext o
 cases o.dst with
 |none=>rfl
 |some d=>simp only [kpFree_eq h]
theorem textOk_eq{k1 k2:Kp}(h:k1.l.map (·.1)=k2.l.map (·.1))(N:Nat):∀c:Code,@textOk k1 N c = @textOk k2 N c
 |.region _ ops dr=>by simp only [textOk,dstsLt_eq h]
 |.seq x y=>by simp only [textOk,textOk_eq h N x,textOk_eq h N y]
 |.cond _ x y=>by simp only [textOk,textOk_eq h N x,textOk_eq h N y]
 |.block _ x=>by simp only [textOk,textOk_eq h N x]
 |.loop x=>by simp only [textOk,textOk_eq h N x]
 |.skip=>rfl
 |.ret=>rfl
 |.exit _=>rfl
 |.rangeFunc _ _ _ _=>rfl
 |.scope _=>rfl
 |.label _=>rfl
 |.goto _=>rfl
 |.refuse _=>rfl
@[reducible] def kpZ(u:Value):Kp:=⟨[(0,u)],[]⟩
def textOkZ(N:Nat)(c:Code):Bool:=@textOk (kpZ undef) N c
theorem textOkZ_ok{N:Nat}{c:Code}(u:Value)(h:textOkZ N c=true):@textOk (kpZ u) N c=true:=(textOk_eq (k1:=kpZ u) (k2:=kpZ undef) rfl N c).trans h
theorem plainC_any{w w':World}{X X':List Nat}{u:Value}{c:Cell}(hc:plainC c=true)(h:RepC w X u c):RepC w' X' u c:=by
 cases h with
 |v u h=>exact .v u h
 |sl=>simp [plainC] at hc
 |p=>simp [plainC] at hc
 |fn=>simp [plainC] at hc
theorem plainL_any{w w':World}{X X':List Nat}{us:List Value}{cs:List Cell}(hc:cs.all plainC=true)(h:RepL w X us cs):RepL w' X' us cs :=
 ⟨h.len,λj u c a b=>plainC_any (List.all_eq_true.1 hc c (List.mem_of_getElem? b)) (h.get j u c a b)⟩
theorem plainR_any{w w':World}{X X':List Nat}{u:Value}{r:AV}(hp:plainA r=true)(h:RepR w X u r):RepR w' X' u r:=by
 cases h with
 |d h =>
  cases h with
  |c h=>exact .d (.c (plainC_any (by simpa [plainA] using hp) h))
  |agg h=>exact .d (.agg (plainL_any (by simpa [plainA] using hp) h))
 |tup hl h =>
  refine .tup hl λi u v a b=>?_
  have hv:=List.all_eq_true.1 (show (_:List AV).all _=true from hp) v (List.mem_of_getElem? b)
  have hr:=h i u v a b
  cases hr with
  |c h=>exact .c (plainC_any hv h)
  |agg h=>exact .agg (plainL_any hv h)
section
variable {P:Program} [Wld P] {τ:Tab}
theorem arg_env{N:Nat}{a:Act}{u0:Value}{vs:List Value}{xs:List AV}(hl:vs.length=xs.length)(hF:Frm N a (argL 0 (u0 :: vs))):a.tmps.getD 0 undef=u0∧∀t v,ld t (argE 1 xs)=some v→1≤t∧∃u,vs[t-1]?=some u∧xs[t-1]?=some v∧a.tmps.getD t undef=u:=by
 have key:∀(vs:List Value) (i t:Nat) u,vs[t]?=some u→lk (i+t) (argL i vs)=some u:=by
  intro vs
  induction vs with
  |nil=>intro i t u h;simp at h
  |cons x r ih =>
   intro i t u h
   cases t with
   |zero=>simp at h;subst h;simp [argL,lk]
   |succ t =>
    simp only [argL,lk]
    rw [beq_no (by omega)]
    have:=ih (i+1) t u (by simpa using h)
    rw [show i+1+t=i+(t+1) by omega] at this
    exact this
 refine ⟨hF.get 0 u0 (by have:=key (u0 :: vs) 0 0 u0 rfl;simpa using this),λt v hv=>?_⟩
 obtain ⟨h1,h2⟩:=ld_argE xs 1 t v hv
 have hlt:t-1<vs.length:=by rw [hl];exact (List.getElem?_eq_some_iff.1 h2).1
 have h3:vs[t-1]?=some vs[t-1]:=List.getElem?_eq_getElem hlt
 refine ⟨h1,_,h3,h2,hF.get t _ ?_⟩
 have:=key (u0 :: vs) 0 t vs[t-1] (by
  obtain ⟨t',rfl⟩:∃t',t=t'+1:=⟨t-1,by omega⟩
  simpa using h3)
 simpa using this
theorem filt_sub{X:List Nat}{g x:Nat}(h:x∈X.filter λx=>!(Nat.beq x g)):x∈X∧x≠g:=by
 obtain ⟨h1,h2⟩:=List.mem_filter.1 h
 exact ⟨h1,λe=>by subst e;simp at h2⟩
theorem filt_in{X:List Nat}{g x:Nat}(h:x∈X)(hn:x≠g):x∈X.filter λx=>!(Nat.beq x g):=List.mem_filter.2 ⟨h,by simp [beq_no hn]⟩
theorem own_conc{N:Nat}{w:World}{X:List Nat}{g cap:Nat}{T s:Nat}{uss:List (List Value)}{rest vs:List Value}{es:List (List Cell)}{xs:List AV}{a:Act}(hX:∀m∈X,m<w.heap.size)(hgX:g∈X)(hg:w.heap[g]?=some (.cells (uss.flatten++rest).toArray T (0,0)))(hS:RepS w X s uss es)(hc:cap*s=(uss.flatten++rest).length)(hm:cap≤maxLen)(hn:es.length≤cap)(hs:0<s)
 (hl:vs.length=xs.length) (hR:∀(i:Nat) u v,vs[i]?=some u→xs[i]?=some v→RepD w X u v) (hF:Frm N a (argL 0 (.slice (some ⟨g,0,none⟩) es.length cap :: vs))) :
 @Conc (kpZ (.slice (some ⟨g,0,none⟩) es.length cap)) ⟨[g]⟩ N w (X.filter λx=>!(Nat.beq x g)) ((0,.gs 0 es.length) :: argE 1 xs) [(0,.grow T s es)] a w:=by
 letI G:Gr:=⟨[g]⟩
 letI K:Kp:=kpZ (.slice (some ⟨g,0,none⟩) es.length cap)
 obtain ⟨h0,henv⟩:=arg_env hl hF
 have hsub:∀x∈bl [(g,T,(uss.flatten++rest).toArray)]++X.filter (λx=>!(Nat.beq x g)),x∈X:=λx hx=>by
  rcases List.mem_append.1 hx with hx|hx
  ·obtain ⟨q,hq,rfl⟩:=List.mem_map.1 hx
   rw [List.mem_singleton.1 hq];exact hgX
  ·exact (filt_sub hx).1
 let m0:MB:=⟨false,true,some g,T,s,es.length,cap,uss.flatten++rest,none⟩
 have hM:∀b m,(λi=>if i=0 then some m0 else none:MM) b=some m→b=0∧m=m0:=λb m h=>by
  by_cases hb:b=0
  ·subst hb;simp at h;exact ⟨rfl,h.symm⟩
  ·simp [hb] at h
 refine ⟨[(g,T,(uss.flatten++rest).toArray)],(λi=>if i=0 then some m0 else none),⟨⟨BelG.refl _,λq hq=>?_,List.pairwise_singleton _ _⟩,⟨λb m x h hx=>?_,λb m x b' m' g' h hx=>?_,λb m x b' m' x' h hx=>?_⟩,λb m h ho g' hg'=>?_,λb b' m m' g' h h' _ _ _ _=>?_⟩,λm hm'=>?_,hF.size,⟨⟨hF.defers,λt u h=>?_⟩,λ_ _ h=>nomatch h⟩,λt v hv=>?_,λi x h=>?_⟩
 ·rw [List.mem_singleton.1 hq];exact ⟨hg,.inr (List.mem_singleton.2 rfl)⟩
 ·obtain ⟨_,rfl⟩:=hM b m h;cases hx
 ·obtain ⟨_,rfl⟩:=hM b m h;cases hx
 ·obtain ⟨_,rfl⟩:=hM b m h;cases hx
 ·obtain ⟨_,rfl⟩:=hM b m h;cases hg';exact List.mem_singleton.2 rfl
 ·obtain ⟨e1,_⟩:=hM b m h;obtain ⟨e2,_⟩:=hM b' m' h';rw [e1,e2]
 ·obtain ⟨h1,h2⟩:=filt_sub hm'
  exact ⟨hX m h1,λh=>h2 (List.mem_singleton.1 h)⟩
 ·obtain ⟨rfl,rfl⟩:t=0∧u=_:=by
   have:(t,u)∈[(0,Value.slice (some ⟨g,0,none⟩) es.length cap)]:=h
   simpa using this
  exact h0
 ·by_cases ht:t=0
  ·subst ht
   rw [ld_cons_self] at hv
   cases hv
   rw [h0]
   exact .gs (m:=m0) rfl rfl (Nat.le_refl _) (λ_=>rfl) ⟨_,_,rfl⟩
  ·rw [ld_cons_ne _ _ (λe=>ht e.symm)] at hv
   obtain ⟨_,u,k1,k2,k3⟩:=henv t v hv
   rw [k3]
   exact .d ((hR _ u v k1 k2).ext (Ext.drop hsub))
 ·by_cases hi:i=0
  ·subst hi
   rw [ld_cons_self] at h
   cases h
   exact ⟨m0,rfl,rfl,rfl,rfl,⟨rfl,hs⟩,rfl,.inr ⟨g,uss,rest,rfl,rfl,hS.ext (Ext.drop hsub),hc,hm,hn⟩⟩
  ·rw [ld_cons_ne _ _ (λe=>hi e.symm)] at h
   simp [ld] at h
def endS(τ:Tab)(fn:Func)(T s:Nat)(es':List (List Cell))(n:Nat)(r:AV):Ex→Env→Bxs→Prop
 |.ret,e,b=>(ld 0 e=some (.gs 0 n)∧ld 0 b=some (.grow T s es')∧es'.length=n)∧ressK τ e b fn.results.toList λvs=>Ends r (packA vs)
 |.normal,e,b=>(ld 0 e=some (.gs 0 n)∧ld 0 b=some (.grow T s es')∧es'.length=n)∧fn.results.toList=[]∧r=.tup []
 |_,_,_=>False
theorem fin_ret{fn:Func}{a:Act}{w':World}{us:List Value}{R:Value→World→Prop}(hd:a.defers=[])(h1:(fn.results.toList.mapM (resRun a.tmps)).run P w'=.ok us w')(hR:R (if h:us.toArray.size=1 then us.toArray[0] else .tuple us.toArray) w'):a.defers=[]∧∃v,(results fn a.tmps).run P w'=.ok v w'∧Ret R (.returned v) w':=by
 refine ⟨hd,_, ?_,_,rfl,hR⟩
 rw [run_results,Sem.run_bind,Array.mapM_eq_mapM_toList]
 simp [h1]
theorem bel_grown{g:Nat}{w w':World}(h : @BelG ⟨[g]⟩ w w'):w.grownBy w' (some g):=by
 letI G:Gr:=⟨[g]⟩
 exact ⟨h.os,h.tape,h.output,h.size,λk hk hne=>h.block k hk (λhm=>hne (by rw [show k=g from List.mem_singleton.1 hm]))⟩
theorem den_m{f:FuncId}{fn:Func}{c:Code}{T s:Nat}{es:List (List Cell)}{xs:List AV}{r:AV}(hw:∀w:World,Wld.ok P w)(hτ:tabOk P τ=true)(hm:P.follows .mixedOrders=true)(hf:P.funcs[f]?=some fn)(hb:fn.body=some c)(hbody:hasBody P f=true)(ht:textOkZ fn.ntmps c=true)(hle:Nat.ble (xs.length+1) fn.ntmps=true)
 (h:awp (Den P) τ c (endA τ fn r) ((0,.gs 0 es.length) :: argE 1 xs) [(0,.grow T s es)]):DenM P f T s es xs r:=by
 refine ⟨hbody,λw X g cap uss rest vs ho hX hgX hg hS hc hcm hn hs hl hR=>?_⟩
 letI G:Gr:=⟨[g]⟩
 letI K:Kp:=kpZ (.slice (some ⟨g,0,none⟩) es.length cap)
 haveI:WOk P w:=⟨λw' _=>hw w'⟩
 refine enter hf hb rfl (by simp only [List.length_cons,hl];exact hle) λa hF=>?_
 have hcc:=own_conc hX hgX hg hS hc hcm hn hs hl hR hF
 refine awp_ok hτ hm c (textOkZ_ok _ ht) h hcc λx e b a w' hx hc'=>?_
 obtain ⟨S,M,hst⟩:=hc'
 have hgr:=bel_grown hst.ms.st.below
 cases x with
 |normal =>
  simp only [endA] at hx
  split at hx
  ·rename_i hr
   have e:=hx.eq
   subst e
   exact fin_ret (us:=[]) hst.df.1.1 (by rw [hr];simp) ⟨.tup rfl (λi u v h=>by simp at h),hgr⟩
  ·cases hx
 |ret =>
  simp only [endA] at hx
  obtain ⟨us,vs,h1,h2,h3,h4⟩:=ressK_ok hτ hst hx
  have e:=h1.eq
  subst e
  exact fin_ret hst.df.1.1 h2 ⟨pack_ok h3 h4,hgr⟩
 |exit id=>cases hx
theorem den_s{f:FuncId}{fn:Func}{c:Code}{T s:Nat}{es es':List (List Cell)}{xs:List AV}{r:AV}(hw:∀w:World,Wld.ok P w)(hτ:tabOk P τ=true)(hm:P.follows .mixedOrders=true)(hf:P.funcs[f]?=some fn)(hb:fn.body=some c)(hbody:hasBody P f=true)(ht:textOkZ fn.ntmps c=true)(hle:Nat.ble (xs.length+1) fn.ntmps=true)(hp:plainA r=true)
 (h:awp (Den P) τ c (endS τ fn T s es' es.length r) ((0,.gs 0 es.length) :: argE 1 xs) [(0,.grow T s es)]):DenS P f T s es xs es' r:=by
 refine ⟨hbody,λw X g cap uss rest vs ho hX hgX hg hS hc hcm hn hs hl hR=>?_⟩
 letI G:Gr:=⟨[g]⟩
 letI K:Kp:=kpZ (.slice (some ⟨g,0,none⟩) es.length cap)
 haveI:WOk P w:=⟨λw' _=>hw w'⟩
 refine enter hf hb rfl (by simp only [List.length_cons,hl];exact hle) λa hF=>?_
 have hcc:=own_conc hX hgX hg hS hc hcm hn hs hl hR hF
 refine awp_ok hτ hm c (textOkZ_ok _ ht) h hcc λx e b a w' hx hc'=>?_
 obtain ⟨S,M,hst⟩:=hc'
 have hgr:=bel_grown hst.ms.st.below
 have hend:(ld 0 e=some (.gs 0 es.length)∧ld 0 b=some (.grow T s es')∧es'.length=es.length)→es'.length=es.length∧∃(uss':List (List Value)) (rest':List Value),w'.heap[g]?=some (.cells (uss'.flatten++rest').toArray T (0,0))∧RepS w' X s uss' es'∧rest'.length=rest.length:=by
  rintro ⟨k1,k2,k3⟩
  obtain ⟨m,hM,q1,q2,q3,q4,q5,q6⟩:=hst.box 0 _ k2
  have hv:=hst.env 0 _ k1
  have hu0:a.tmps.getD 0 undef=.slice (some ⟨g,0,none⟩) es.length cap:=hst.df.1.2 0 _ (List.mem_singleton.2 rfl)
  rw [hu0] at hv
  cases hv with
  |d hd=>cases hd
  |gs hm' _ _ hh _ =>
   rw [hM] at hm'
   cases hm'
   have he:=hh (by rw [q5,k3])
   unfold hdr at he
   rcases q6 with ⟨g1,_,g3⟩|⟨g',uss',rest',g1,g2,g3,g4,g5,g6⟩
   ·rw [g1] at he;cases he
   ·rw [g1] at he
    simp only [Option.map_some,Value.slice.injEq,Option.some.injEq,Addr.mk.injEq] at he
    obtain ⟨⟨rfl,_⟩,_,hcap⟩:=he
    have hrow:=hst.row hM q2 g1
    rw [g2,q3] at hrow
    have hsub:∀x∈X,x∈bl S++X.filter (λx=>!(Nat.beq x g)):=λx hx=>by
     by_cases hxg:x=g
     ·subst hxg;exact List.mem_append_left _ (List.mem_map.2 ⟨_,hst.ms.inS 0 m hM q2 _ g1,rfl⟩)
     ·exact List.mem_append_right _ (filt_in hx hxg)
    have hS':=g3.ext (Ext.drop hsub)
    refine ⟨k3,uss',rest',hrow,hS', ?_⟩
    have l1:=flatten_len hS'.sz
    have l2:=flatten_len hS.sz
    rw [hS'.len] at l1
    rw [hS.len] at l2
    rw [g2,← hcap,List.length_append] at g4
    rw [List.length_append] at hc
    rw [k3] at l1
    omega
 cases x with
 |normal =>
  obtain ⟨hx1,hr,rfl⟩:=hx
  obtain ⟨e1,e2⟩:=hend hx1
  exact fin_ret (us:=[]) hst.df.1.1 (by rw [hr];simp) ⟨.tup rfl (λi u v h=>by simp at h),hgr,e1,e2⟩
 |ret =>
  obtain ⟨hx1,hx2⟩:=hx
  obtain ⟨e1,e2⟩:=hend hx1
  obtain ⟨us,vs,h1,h2,h3,h4⟩:=ressK_ok hτ hst hx2
  have e:=h1.eq
  subst e
  exact fin_ret hst.df.1.1 h2 ⟨plainR_any hp (pack_ok h3 h4),hgr,e1,e2⟩
 |exit id=>cases hx
end
end Go.Sw
namespace Go.Sw
open Go Go.RowKit
set_option linter.unusedVariables false
def xendS(τ:Tab)(fn:Func)(T s n:Nat)(z:Ex)(e:Env)(b:Bxs):Option AV :=
 match xend τ fn z e b with
 |some r=>(match plainA r,ld 0 e,ld 0 b with
  |true,some (.gs 0 n'),some (.grow T' s' es')=>(match Nat.beq n' n,Nat.beq T' T,Nat.beq s' s,Nat.beq es'.length n with
   |true,true,true,true=>some (.tup [.own T s es',r])
   |_,_,_,_=>none)
  |false,_,_=>some (.tup [.rd [],r])
  |_,_,_=>none)
 |none=>none
theorem xendS_ok{τ:Tab}{fn:Func}{T s n:Nat}{z:Ex}{e:Env}{b:Bxs}{q:AV}(h:xendS τ fn T s n z e b=some q):
 (∃es' r,q=.tup [.own T s es',r]∧plainA r=true∧endS τ fn T s es' n r z e b)∨∃r,q=.tup [.rd [],r]∧endA τ fn r z e b:=by
 unfold xendS at h
 split at h
 ·rename_i r h1
  split at h
  ·rename_i n' T' s' es' h2 h3 h4
   split at h
   ·rename_i g1 g2 g3 g4
    have e1:=Nat.eq_of_beq_eq_true g1
    have e2:=Nat.eq_of_beq_eq_true g2
    have e3:=Nat.eq_of_beq_eq_true g3
    have e4:=Nat.eq_of_beq_eq_true g4
    subst e1 e2 e3
    cases h
    refine .inl ⟨es',r,rfl,h2, ?_⟩
    unfold xend at h1
    split at h1
    ·split at h1
     ·rename_i h5;cases h1;exact ⟨⟨h3,h4,e4⟩,xress_ok h5 ⟨rfl⟩⟩
     ·cases h1
    ·split at h1
     ·rename_i h5;cases h1;exact ⟨⟨h3,h4,e4⟩,h5,rfl⟩
     ·cases h1
    ·cases h1
   ·cases h
  ·cases h;exact .inr ⟨r,rfl,xend_ok h1⟩
  ·cases h
 ·cases h
def resz(k:Nat)(r:AV):AV :=
 match r with
 |.c (.sl 0 []) => .c (.sl k [])
 |.tup (.c (.sl 0 []) :: vs) => .tup (.c (.sl k []) :: vs)
 |r=>r
theorem repC_resz{w:World}{X:List Nat}{u:Value}{a k:Nat}(h:RepC w X u (.sl a [])):RepC w X u (.sl k []):=by
 obtain ⟨A,cap,uss,rfl,h1,h2,h3,h4⟩:=RepS.of_sl h
 exact .sl A 0 cap k [] [] rfl rfl (Cl.nil _ _ _) h1 h2 (λi us e h=>by simp at h) (λi us e h=>by simp at h)
theorem den_resz{P:Program}[Wld P]{f:FuncId}{xs:List AV}{r:AV}(k:Nat)(h:Den P f xs r):Den P f xs (resz k r):=by
 unfold resz
 split
 ·have h1:DenO P f xs (.c (.sl 0 [])):=by
   unfold Den at h
   split at h<;>first|exact h|(rename_i e;cases e)|simp_all
  have h2:DenO P f xs (.c (.sl k [])):=⟨h1.1,λw X vs ho hX hl hR=>(h1.2 w X vs ho hX hl hR).mono λe w' he=>by
   obtain ⟨u,rfl,hr,hB⟩:=he
   refine ⟨u,rfl, ?_,hB⟩
   have:=hr.r rfl
   cases this with
   |d h=>cases h with
    |c h=>exact (RepR.d (.c (repC_resz h))).f⟩
  unfold Den
  split<;>first|exact h2|(rename_i e;cases e)|simp_all
 ·rename_i vs
  have h1:DenO P f xs (.tup (.c (.sl 0 []) :: vs)):=by
   unfold Den at h
   split at h<;>first|exact h|(rename_i e;cases e)|simp_all
  have h2:DenO P f xs (.tup (.c (.sl k []) :: vs)):=⟨h1.1,λw X us ho hX hl hR=>(h1.2 w X us ho hX hl hR).mono λe w' he=>by
   obtain ⟨u,rfl,⟨us,vs',G,hu,hB1,hnd,hF⟩,hB⟩:=he
   refine ⟨u,rfl, ?_,hB⟩
   rcases hu with ⟨rfl,hv⟩|⟨rfl,rfl,hn⟩
   ·cases hv
    cases hF with
    |d h t=>cases h with
     |c h=>exact ⟨_,_,G,.inl ⟨rfl,rfl⟩,hB1,hnd,.d (.c (repC_resz h)) t⟩
   ·cases hn⟩
  unfold Den
  split<;>first|exact h2|(rename_i e;cases e)|simp_all
 ·exact h
def xrunW(P:Program)(τ:FuncId→Tab)(rs:FuncId→Nat)(C0:(FuncId→List AV→Option AV)→FuncId→List AV→Option AV)(n:Nat):Nat→FuncId→List AV→Option AV
 |0,_,_=>none
 |m+1,f,xs=>match C0 (xrunW P τ rs C0 n m) f xs with
  |some r=>some r
  |none=>(match P.funcs[f]? with
   |some fn=>(match fn.body with
    |some c=>(match xs with
     |.own T s es :: a_s=>(match hasBody P f && (textOkZ fn.ntmps c && Nat.ble (a_s.length+1) fn.ntmps) with
      |true=>(match xwp (xrunW P τ rs C0 n m) (τ f) n c ((0,.gs 0 es.length) :: argE 1 a_s) [(0,.grow T s es)] with
       |some (z,e,b)=>xendS (τ f) fn T s es.length z e b
       |none=>none)
      |false=>none)
     |xs=>(match hasBody P f && (textOk fn.ntmps c && (Nat.ble xs.length fn.ntmps && noTup xs)) with
      |true=>(match xwp (xrunW P τ rs C0 n m) (τ f) n c (argE 0 xs) [] with
       |some (z,e,b)=>(match xend (τ f) fn z e b with|some r=>some (resz (rs f) r)|none=>none)
       |none=>none)
      |false=>none))
    |none=>none)
   |none=>none)
theorem xrunW_ok{P:Program}[Wld P]{τ:FuncId→Tab}{rs:FuncId→Nat}{C0:(FuncId→List AV→Option AV)→FuncId→List AV→Option AV}{n:Nat}(hw:∀w:World,Wld.ok P w)(hτ:∀f,tabOk P (τ f)=true)(hm:P.follows .mixedOrders=true)
 (hC:∀C:FuncId→List AV→Option AV,(∀f xs r,C f xs=some r→Den P f xs r)→∀f xs r,C0 C f xs=some r→Den P f xs r):∀(m:Nat) (f:FuncId) (xs:List AV) (r:AV),xrunW P τ rs C0 n m f xs=some r→Den P f xs r
 |0,f,xs,r,h=>nomatch h
 |m+1,f,xs,r,h=>by
  simp only [xrunW] at h
  split at h
  ·rename_i h1;cases h;exact hC _ (xrunW_ok hw hτ hm hC m) _ _ _ h1
  ·split at h
   ·rename_i hf
    split at h
    ·rename_i hb
     split at h
     ·rename_i T s es a_s
      split at h
      ·rename_i hq
       simp only [Bool.and_eq_true] at hq
       split at h
       ·rename_i hx
        rcases xendS_ok h with ⟨es',r',rfl,hp,he⟩|⟨r',rfl,he⟩
        ·exact den_s hw (hτ f) hm hf hb hq.1 hq.2.1 hq.2.2 hp (xwp_ok (xrunW_ok hw hτ hm hC m) n _ hx he)
        ·exact den_m hw (hτ f) hm hf hb hq.1 hq.2.1 hq.2.2 (xwp_ok (xrunW_ok hw hτ hm hC m) n _ hx he)
       ·cases h
      ·cases h
     ·split at h
      ·rename_i hq
       simp only [Bool.and_eq_true] at hq
       split at h
       ·rename_i hx
        split at h
        ·rename_i he
         cases h
         exact den_resz _ (den_of (hτ f) hm hf hb hq.1 hq.2.1 hq.2.2.1 (xwp_ok (xrunW_ok hw hτ hm hC m) n _ hx (xend_ok he)) hq.2.2.2)
        ·cases h
       ·cases h
      ·cases h
    ·cases h
   ·cases h
end Go.Sw
namespace Go.Sw
open Go Go.RowKit Go.Lib
set_option linter.unusedVariables false
section
variable {P:Program} {w:World} {ρ:Operand→Value} {d:Option Tmp} {ty:TypeId} {pos:String} {af:Array Edge} {gd:Option (Nat × Bool)}
theorem ex_slice_ls{t e:TypeId}{s:Nat}{x y:Operand}{g n c:Nat}{k:IntKind}{i:Int}{j:Nat}(ht:sliceOf P t=some (e,s))(hx:ρ x=.slice (some ⟨g,0,none⟩) n c)(hy:ρ y=.int k i)(hi:i=(j:Nat))(h1:j<n)(h2:n≤c):
 (execOp ρ ⟨d,.slice t x (some y) none none,ty,pos,af,gd⟩).run P w=.ok (.value (.slice (some ⟨g,j*s,none⟩) (n-j) (c-j))) w:=by
 subst hi
 have hb:(Instr.sliceBounds true n c (some (.int k (j:Int))) none none).run P w=.ok (j,n,c) w:=by
  simp [Instr.sliceBounds,run_sliceBound,Nat.le_of_lt h1]
 have hne:¬c=j:=by omega
 simp [execOp,hx,hy,run_slice_core ht hb,sliced,hne,Addr.add_lit]
theorem clear_run{t e:TypeId}{z:Value}{s:Nat}(ht:P.underlying t=some (.slice e))(hz:∀w,(zeroValue e).run P w=.ok z w)(hzs:z.cells.size=s)(h1:∀v∈z.cells.toList,v.oneCell'=true){g o n c:Nat}{cs:Array Value}{T:TypeId}(hg:w.heap[g]?=some (.cells cs T (0,0)))(hn:0<n)(hb:o+n*s≤cs.size):
 ∃vs:List Value,vs.length=n*s∧(Builtin.clear_ #[t] ty #[.slice (some ⟨g,o,none⟩) n c]).run P w=.ok (.tuple #[]) (w.setRow g (cs.toList.take o++vs++cs.toList.drop (o+vs.length)).toArray):=by
 obtain ⟨m,rfl⟩:∃m,n=m+1:=⟨n-1,by omega⟩
 have hl:(Builtin.zeroCells z.cells (m+1)).toList.length=(m+1)*s:=by simp [Builtin.zeroCells,hzs,Nat.mul_comm]
 have hst:=run_storeCells_at (P:=P) g o T (Builtin.zeroCells z.cells (m+1)).toList 0 cs w hg (by rw [hl];omega) (λv hv=>by
  simp only [Builtin.zeroCells,Array.toList_map,List.mem_map,Array.mem_toList_iff,Array.mem_range] at hv
  obtain ⟨i,hi,rfl⟩:=hv
  have hp:i % z.cells.size<z.cells.size:=Nat.mod_lt _ (by
   rcases Nat.eq_zero_or_pos z.cells.size with h0|h0
   ·rw [h0,Nat.mul_zero] at hi;omega
   ·exact h0)
  rw [getElem!_pos z.cells _ hp]
  exact h1 _ (by simp))
 simp only [Nat.add_zero] at hst
 refine ⟨_,hl, ?_⟩
 simp [Builtin.clear_,run_underlying ht,hz,hst]
end
theorem den_arg0{P:Program}[Wld P]{f:FuncId}{k:Nat}{r:AV}(h:Den P f [.c (.sl k [])] r):Den P f [.c (.sl 0 [])] r:=by
 have h':=h.old rfl
 refine Den.of ⟨h'.1,λw X vs ho hX hl hR=>h'.2 w X vs ho hX hl λi u v hu hv=>?_⟩ rfl
 match i,hv with
 |0,hv =>
  cases hv
  have:=hR 0 u _ hu rfl
  cases this with
  |c h =>
   obtain ⟨A,cap,uss,rfl,h1,h2,h3,h4⟩:=RepS.of_sl h
   exact .c (.sl A 0 cap k [] [] rfl rfl (Cl.nil _ _ _) h1 h2 (λi us e h=>by simp at h) (λi us e h=>by simp at h))
end Go.Sw
namespace Go.Sw
open Go Go.RowKit
def infoB(P:Program)(t k:Nat):Bool :=
 match P.info? t with
 |some i=>(match i.zero with|some z=>Nat.beq i.size k && (Nat.beq z.cells.size k && Nat.ble i.bytes 1000000)|none=>false)
 |none=>false
theorem infoB_ok{P:Program}{t k:Nat}(h:infoB P t k=true):∃i z,P.info? t=some i∧i.zero=some z∧i.size=k∧z.cells.size=k∧i.bytes≤1000000:=by
 unfold infoB at h
 split at h
 ·rename_i i hi
  split at h
  ·rename_i z hz
   simp only [Bool.and_eq_true] at h
   exact ⟨i,z,hi,hz,Nat.eq_of_beq_eq_true h.1,Nat.eq_of_beq_eq_true h.2.1,Nat.le_of_ble_eq_true h.2.2⟩
  ·cases h
 ·cases h
end Go.Sw
namespace Go.Sw
open Go Go.RowKit
set_option linter.unusedVariables false
def limK{α:Type}:Nat→Nat→(List Nat→Option α)→Option α
 |0,n,k=>(match n with|0=>k []|_+1=>none)
 |f+1,n,k=>(match n with|0=>k []|m+1=>fN ((m+1) % 1000000000) λr=>fN ((m+1) / 1000000000) λq=>limK f q λl=>k (r :: l))
theorem limK_ok{α:Type}:∀(f n:Nat) {k:List Nat→Option α} {r:α},limK f n k=some r→k (lim n)=some r∧(lim n).length≤f
 |0,0,k,r,h=>⟨by rw [lim];exact h,by rw [lim];simp⟩
 |0,_+1,k,r,h=>by cases h
 |f+1,0,k,r,h=>⟨by rw [lim];exact h,by rw [lim];simp⟩
 |f+1,m+1,k,r,h=>by
  simp only [limK,fN_eq] at h
  obtain ⟨h1,h2⟩:=limK_ok f _ h
  rw [lim,if_neg (by omega)]
  exact ⟨h1,by simpa using h2⟩
def eZ{α:Type}(n:Int)(k:Cell→Cell→Option α):Option α :=
 match n with
 |.ofNat m=>limK 40 m λl=>k (.v (.bool false)) (lmc l)
 |.negSucc m=>limK 40 (m+1) λl=>k (.v (.bool true)) (lmc l)
theorem eZ_ok{α:Type}{n:Int}{k:Cell→Cell→Option α}{r:α}(h:eZ n k=some r):k (zs n) (zl n)=some r:=by
 cases n with
 |ofNat m=>exact (limK_ok _ _ h).1
 |negSucc m =>
  have h1:decide (Int.negSucc m<0)=true:=decide_eq_true (Int.negSucc_lt_zero m)
  have h2:=(limK_ok _ _ h).1
  unfold zs
  rw [h1]
  exact h2
def eR(q:Rat):Option AV :=
 match q with
 |⟨n,d,_,_⟩=>fI n λn=>fN d λd=>eZ n λa b=>eZ (d:Nat) λc e=>some (.agg [a,b,c,e])
theorem eR_ok{q:Rat}{r:AV}(h:eR q=some r):r=R q:=by
 obtain ⟨n,d,h1,h2⟩:=q
 simp only [eR,fI_eq,fN_eq] at h
 have:=eZ_ok (eZ_ok h)
 injection this with this
 exact this.symm
def dV:List (List Cell)→Option (List Nat)
 |[]=>some []
 |[.v (.int .u32 (.ofNat x))] :: r=>(match dV r with|some l=>some (x :: l)|none=>none)
 |_=>none
theorem dV_ok:∀{cs:List (List Cell)} {l:List Nat},dV cs=some l→cs=l.map λx=>[.v (u32 x)]
 |[],l,h=>by cases h;rfl
 |c :: r,l,h=>by
  unfold dV at h
  split at h
  ·rename_i heq;cases heq
  ·rename_i x r' heq
   cases heq
   split at h
   ·rename_i l' h1
    cases h
    rw [dV_ok h1]
    rfl
   ·cases h
  ·cases h
def valL:List Nat→Nat
 |[]=>0
 |x :: r=>x+1000000000*valL r
def eqL:List Nat→List Nat→Bool
 |[],[]=>true
 |x :: r,y :: s=>(match Nat.beq x y with|true=>eqL r s|false=>false)
 |_,_=>false
theorem eqL_ok:∀{l m:List Nat},eqL l m=true→l=m
 |[],[],_=>rfl
 |x :: r,y :: s,h=>by
  simp only [eqL] at h
  split at h
  ·rename_i h1
   rw [Nat.eq_of_beq_eq_true h1,eqL_ok h]
  ·cases h
 |[],_ :: _,h=>by cases h
 |_ :: _,[],h=>by cases h
def dZ(s:Bool)(ls:List (List Cell)):Option Int :=
 match dV ls with
 |some l=>fN (valL l) λn=>limK 40 n λl'=>(match eqL l' l with
  |true=>(match s,n with
   |false,n=>some (.ofNat n)
   |true,m+1=>some (.negSucc m)
   |true,0=>none)
  |false=>none)
 |none=>none
theorem dZ_ok{s:Bool}{ls:List (List Cell)}{n:Int}(h:dZ s ls=some n):Cell.v (.bool s)=zs n∧Cell.sl 1 ls=zl n∧sz n≤40:=by
 unfold dZ at h
 split at h
 ·rename_i l h1
  rw [fN_eq] at h
  obtain ⟨h2,h3⟩:=limK_ok _ _ h
  split at h2
  ·rename_i h4
   have h5:=eqL_ok h4
   have h6:=dV_ok h1
   split at h2
   ·cases h2
    refine ⟨rfl, ?_,h3⟩
    show Cell.sl 1 ls=lmc (lim (valL l))
    rw [h5,h6]
   ·rename_i m hm
    cases h2
    rw [hm] at h5 h3
    refine ⟨?_, ?_,h3⟩
    ·have h1:decide (Int.negSucc m<0)=true:=decide_eq_true (Int.negSucc_lt_zero m)
     unfold zs;rw [h1]
    ·show Cell.sl 1 ls=lmc (lim (m+1))
     rw [h5,h6]
   ·cases h2
  ·cases h2
 ·cases h
def decR(v:AV):Option Rat :=
 match v with
 |.agg [.v (.bool s),.sl 1 ls,.v (.bool t),.sl 1 ds]=>(match dZ s ls,dZ t ds with
  |some n,some (.ofNat d)=>fI n λn=>fN d λd=>if h:d≠0∧n.natAbs.Coprime d then some ⟨n,d,h.1,h.2⟩ else none
  |_,_=>none)
 |_=>none
theorem decR_ok{v:AV}{q:Rat}(h:decR v=some q):v=R q∧rz q≤80:=by
 unfold decR at h
 split at h
 ·split at h
  ·rename_i h1 h2
   rw [fI_eq,fN_eq] at h
   split at h
   ·cases h
    obtain ⟨a1,a2,a3⟩:=dZ_ok h1
    obtain ⟨b1,b2,b3⟩:=dZ_ok h2
    refine ⟨?_, ?_⟩
    ·rw [a1,a2,b1,b2];rfl
    ·exact Nat.add_le_add a3 b3
   ·cases h
  ·cases h
 ·cases h
def decI(v:AV):Option Int :=
 match v with
 |.agg [.v (.bool s),.sl 1 ls]=>dZ s ls
 |_=>none
theorem decI_ok{v:AV}{n:Int}(h:decI v=some n):v=Z n∧sz n≤40:=by
 unfold decI at h
 split at h
 ·obtain ⟨a1,a2,a3⟩:=dZ_ok h
  exact ⟨by rw [a1,a2],a3⟩
 ·cases h
def eI(n:Int):Option AV:=fI n λn=>eZ n λa b=>some (.agg [a,b])
theorem eI_ok{n:Int}{r:AV}(h:eI n=some r):r=Z n:=by
 unfold eI at h
 rw [fI_eq] at h
 have:=eZ_ok h
 injection this with this
 exact this.symm
def decQ(v:AV):Option (Rat × Rat × Rat) :=
 match v with
 |.agg [a1,a2,a3,a4,b1,b2,b3,b4,c1,c2,c3,c4]=>(match decR (.agg [a1,a2,a3,a4]),decR (.agg [b1,b2,b3,b4]),decR (.agg [c1,c2,c3,c4]) with
  |some a,some b,some c=>some (a,b,c)
  |_,_,_=>none)
 |_=>none
theorem decQ_ok{v:AV}{q:Rat × Rat × Rat}(h:decQ v=some q):v=Q3 q.1 q.2.1 q.2.2∧rz q.1≤80∧rz q.2.1≤80∧rz q.2.2≤80:=by
 unfold decQ at h
 split at h
 ·split at h
  ·rename_i h1 h2 h3
   cases h
   obtain ⟨e1,r1⟩:=decR_ok h1
   obtain ⟨e2,r2⟩:=decR_ok h2
   obtain ⟨e3,r3⟩:=decR_ok h3
   simp only [AV.agg.injEq,List.cons.injEq,and_true] at e1 e2 e3
   obtain ⟨rfl,rfl,rfl,rfl⟩:=e1
   obtain ⟨rfl,rfl,rfl,rfl⟩:=e2
   obtain ⟨rfl,rfl,rfl,rfl⟩:=e3
   exact ⟨rfl,r1,r2,r3⟩
  ·cases h
 ·cases h
def nnR(q:Rat):Bool:=match q with|⟨.ofNat _,_,_,_⟩=>true|_=>false
theorem nnR_ok{q:Rat}(h:nnR q=true):0≤q:=by
 unfold nnR at h
 split at h
 ·exact Rat.num_nonneg.1 (Int.natCast_nonneg _)
 ·cases h
def nwt:Nat→Nat→Nat→Nat
 |0,_,x=>x
 |f+1,n,x=>fN ((x+n / x) / 2) λy=>match Nat.blt y x with|true=>nwt f n y|false=>x
def sqW(n:Nat):Option Nat :=
 fN n λn=>fN (match n with|0=>0|n=>nwt 2000 n n) λs=>match Nat.ble (s*s) n,Nat.blt n ((s+1)*(s+1)) with
  |true,true=>some s
  |_,_=>none
theorem sqW_ok{n s:Nat}(h:sqW n=some s):isq n=s:=by
 unfold sqW at h
 simp only [fN_eq] at h
 split at h
 ·rename_i h1 h2
  cases h
  generalize (match n with|0=>0|n=>nwt 2000 n n)=s at h1 h2
  have h1:=Nat.le_of_ble_eq_true h1
  have h2:n<(s+1)*(s+1):=Nat.le_of_ble_eq_true h2
  obtain ⟨k1,k2⟩:=isq_ok n
  have a1:s<isq n+1:=by
   rcases Nat.lt_or_ge s (isq n+1) with h|h
   ·exact h
   ·have:=Nat.mul_le_mul h h;omega
  have a2:isq n<s+1:=by
   rcases Nat.lt_or_ge (isq n) (s+1) with h|h
   ·exact h
   ·have:=Nat.mul_le_mul h h;omega
  omega
 ·cases h
def sqQ(a:Rat):Option (Option Rat) :=
 match a with
 |⟨.ofNat n,d,_,_⟩=>(match sqW n,sqW d with
  |some s,some t=>fB (Nat.beq (s*s) n && Nat.beq (t*t) d) λb=>(match b with|true=>some (some ((((s:Nat):Int):Rat) / (((t:Nat):Int):Rat)))|false=>some none)
  |_,_=>none)
 |⟨.negSucc _,_,_,_⟩=>some none
theorem sqQ_ok{a:Rat}{r:Option Rat}(h:sqQ a=some r):(∃q,r=some q∧isSqR a=true∧q=sqR a)∨(r=none∧isSqR a=false):=by
 unfold sqQ at h
 split at h
 ·rename_i n d h1 h2
  split at h
  ·rename_i s t e1 e2
   rw [fB_eq] at h
   have e1:=sqW_ok e1
   have e2:=sqW_ok e2
   have key:isSqR ⟨.ofNat n,d,h1,h2⟩=(Nat.beq (s*s) n && Nat.beq (t*t) d):=by
    unfold isSqR isSq
    show ((decide (0≤(n:Int)) && decide (((isq n:Nat):Int)*((isq n:Nat):Int)=(n:Int))) && (decide (0≤(d:Int)) && decide (((isq d:Nat):Int)*((isq d:Nat):Int)=(d:Int))))=_
    rw [e1,e2]
    have hh:∀a b:Nat,(decide (0≤(b:Int)) && decide ((a:Int)*(a:Int)=(b:Int)))=Nat.beq (a*a) b:=λa b=>by
     rw [show decide (0≤(b:Int))=true from decide_eq_true (by omega),Bool.true_and]
     by_cases hab:a*a=b
     ·rw [hab,Nat.beq_refl];exact decide_eq_true (by rw [← hab];simp)
     ·rw [beq_no hab];exact decide_eq_false (λe=>hab (by have:=e;rw [← Int.natCast_mul] at this;omega))
    rw [hh,hh]
   split at h
   ·rename_i hb
    cases h
    refine .inl ⟨_,rfl,by rw [key,hb], ?_⟩
    show _=((((isq n:Nat):Int)):Rat) / ((((isq d:Nat):Int)):Rat)
    rw [e1,e2]
   ·rename_i hb
    cases h
    exact .inr ⟨rfl,by rw [key,hb]⟩
  ·cases h
 ·cases h
  refine .inr ⟨rfl, ?_⟩
  rename_i m d h1 h2
  unfold isSqR isSq
  rw [show decide (0≤(Rat.mk' (Int.negSucc m) d h1 h2).num)=false from decide_eq_false (by show ¬0≤Int.negSucc m;omega)]
  rfl
def c0r(op:FuncId→Nat)(f:FuncId)(xs:List AV):Option AV :=
 match op f,xs with
 |1,[x,y]=>(match decR x,decR y with|some a,some b=>eR (a+b)|_,_=>none)
 |2,[x,y]=>(match decR x,decR y with|some a,some b=>eR (a-b)|_,_=>none)
 |3,[x,y]=>(match decR x,decR y with|some a,some b=>eR (a*b)|_,_=>none)
 |4,[x,y]=>(match decR x,decR y with|some a,some b=>fI (cmpR a b) λn=>some (.int .i64 n)|_,_=>none)
 |5,[x]=>(match decR x with|some a=>eR (-a)|_=>none)
 |6,[x]=>(match decR x with|some a=>fI (sgnR a) λn=>some (.int .i64 n)|_=>none)
 |7,[x,y]=>(match decR x,decR y with|some a,some b=>(match b with|⟨.ofNat 0,_,_,_⟩=>none|b=>eR (a / b))|_,_=>none)
 |8,[x,y]=>(match decR x,decR y with|some a,some b=>(match b with|⟨.ofNat 0,_,_,_⟩=>none|b=>(match eR (a / b) with|some v=>some (.tup [v,.int .i64 0])|none=>none))|_,_=>none)
 |9,[x]=>(match decR x with|some a=>(match sqQ a with|some (some q)=>(match eR q with|some v=>some (.tup [v,.bool true])|none=>none)|some none=>some (.tup [.agg [.v (.bool false),.sl 1 [],.v (.bool false),.sl 1 []],.bool false])|none=>none)|none=>none)
 |10,[.c (.v (.int .i64 n))]=>(match decide (-9223372036854775808≤n∧n≤9223372036854775807) with|true=>eR (n:Rat)|false=>none)
 |11,[.c (.v (.int .i64 n)),.c (.v (.int .i64 d))]=>(match decide ((-9223372036854775808≤n∧n≤9223372036854775807)∧-9223372036854775808≤d∧d≤9223372036854775807) with|true=>eR ((n:Rat) / d)|false=>none)
 |12,[x,y]=>(match decQ x,decQ y with
  |some p,some q=>(match nnR p.2.2,nnR q.2.2 with
   |true,true=>fI (cmp4 p.1 p.2.1 p.2.2 q.1 q.2.1 q.2.2) λn=>some (.int .i64 n)
   |_,_=>none)
  |_,_=>none)
 |13,[x]=>(match decI x with|some (.ofNat n)=>(match sqW n with|some s=>(match eI (s:Nat) with|some v=>some (.tup [v,.int .i64 0])|none=>none)|none=>none)|_=>none)
 |14,[x,y]=>(match decI x,decI y with
  |some a,some b=>(match b with
   |.ofNat 0=>none
   |b=>(match eI (a.fdiv b),eI (a.fmod b) with|some q,some r=>some (.tup [q,r,.int .i64 0])|_,_=>none))
  |_,_=>none)
 |_,_=>none
def opT(f:FuncId):List (Nat × Nat)→Nat
 |[]=>0
 |(g,k) :: r=>cond (Nat.beq g f) k (opT f r)
theorem opT_mem{f k:Nat}(hk:k≠0):∀{T:List (Nat × Nat)},opT f T=k→(f,k)∈T
 |[],h=>absurd h.symm hk
 |(g,j) :: r,h=>by
  simp only [opT] at h
  cases hb:Nat.beq g f with
  |true =>
   rw [hb] at h
   have:=Nat.eq_of_beq_eq_true hb
   subst this
   have h':j=k:=h
   rw [h'];exact List.mem_cons_self
  |false =>
   rw [hb] at h
   exact List.mem_cons_of_mem _ (opT_mem hk h)
structure OpDen (P:Program) [Wld P] (op:FuncId→Nat):Prop where
 add:∀f,op f=1→∀a b,rz a≤80→rz b≤80→Den P f [R a,R b] (R (a+b))
 sub:∀f,op f=2→∀a b,rz a≤80→rz b≤80→Den P f [R a,R b] (R (a-b))
 mul:∀f,op f=3→∀a b,rz a≤80→rz b≤80→Den P f [R a,R b] (R (a*b))
 cmp:∀f,op f=4→∀a b,rz a≤80→rz b≤80→Den P f [R a,R b] (.int .i64 (cmpR a b))
 neg:∀f,op f=5→∀a,rz a≤80→Den P f [R a] (R (-a))
 sgn:∀f,op f=6→∀a,rz a≤80→Den P f [R a] (.int .i64 (sgnR a))
 over:∀f,op f=7→∀a b,rz a≤80→rz b≤80→b≠0→Den P f [R a,R b] (R (a / b))
 div:∀f,op f=8→∀a b,rz a≤80→rz b≤80→b≠0→Den P f [R a,R b] (.tup [R (a / b),.int .i64 0])
structure OpDen2 (P:Program) [Wld P] (op:FuncId→Nat):Prop where
 sq1:∀f,op f=9→∀a,rz a≤80→isSqR a=true→Den P f [R a] (.tup [R (sqR a),.bool true])
 sq0:∀f,op f=9→∀a,rz a≤80→isSqR a=false→Den P f [R a] (.tup [.agg [.v (.bool false),.sl 1 [],.v (.bool false),.sl 1 []],.bool false])
 int:∀f,op f=10→∀n:Int,(-9223372036854775808≤n∧n≤9223372036854775807)→Den P f [.int .i64 n] (R (n:Rat))
 sqI:∀f,op f=13→∀n:Nat,sz (n:Nat)≤40→Den P f [Z (n:Nat)] (.tup [Z ((isq n:Nat):Int),.int .i64 0])
 dmI:∀f,op f=14→∀a b:Int,sz a≤40→sz b≤40→b≠0→Den P f [Z a,Z b] (.tup [Z (a.fdiv b),Z (a.fmod b),.int .i64 0])
 cmp4:∀f,op f=12→∀a b c d e g,rz a≤80∧rz b≤80∧rz c≤80→rz d≤80∧rz e≤80∧rz g≤80→0≤c→0≤g→Den P f [Q3 a b c,Q3 d e g] (.int .i64 (cmp4 a b c d e g))
 frac:∀f,op f=11→∀n d:Int,((-9223372036854775808≤n∧n≤9223372036854775807)∧-9223372036854775808≤d∧d≤9223372036854775807)→Den P f [.int .i64 n,.int .i64 d] (R ((n:Rat) / d))
theorem rat_ne0{b:Rat}(h:∀(d:Nat) (h1:d≠0) (h2:(Int.ofNat 0).natAbs.Coprime d),b=⟨.ofNat 0,d,h1,h2⟩→False):b≠0:=by
 rintro rfl
 exact h 1 (by decide) (by decide) rfl
theorem c0r_ok{P:Program}[Wld P]{op:FuncId→Nat}(hd:OpDen P op)(hd2:OpDen2 P op){f:FuncId}{xs:List AV}{r:AV}(h:c0r op f xs=some r):Den P f xs r:=by
 unfold c0r at h
 split at h
 all_goals first
  |(cases h;done)
  |(rename_i ho
    split at h
    ·rename_i n hx
     obtain ⟨rfl,x1⟩:=decI_ok hx
     split at h
     ·rename_i s hs
      have hs:=sqW_ok hs
      split at h
      ·rename_i h3
       cases h
       rw [eI_ok h3,← hs]
       exact hd2.sqI _ ho n x1
      ·cases h
     ·cases h
    ·cases h)
  |(rename_i ho
    split at h
    ·rename_i hx hy
     obtain ⟨rfl,x1⟩:=decI_ok hx
     obtain ⟨rfl,y1⟩:=decI_ok hy
     split at h
     ·cases h
     ·rename_i hb
      split at h
      ·rename_i h3 h4
       cases h
       rw [eI_ok h3,eI_ok h4]
       exact hd2.dmI _ ho _ _ x1 y1 (λe=>hb e)
      ·cases h
    ·cases h)
  |(rename_i ho
    split at h
    ·rename_i hx hy
     obtain ⟨rfl,x1⟩:=decQ_ok hx
     obtain ⟨rfl,y1⟩:=decQ_ok hy
     split at h
     ·rename_i n1 n2
      rw [fI_eq] at h
      cases h
      exact hd2.cmp4 _ ho _ _ _ _ _ _ x1 y1 (nnR_ok n1) (nnR_ok n2)
     ·cases h
    ·cases h)
  |(rename_i ho
    split at h
    ·rename_i hx hy
     obtain ⟨rfl,x1⟩:=decR_ok hx
     obtain ⟨rfl,y1⟩:=decR_ok hy
     first
      |(rw [eR_ok h];first|exact hd.add _ ho _ _ x1 y1|exact hd.sub _ ho _ _ x1 y1|exact hd.mul _ ho _ _ x1 y1)
      |(rw [fI_eq] at h;cases h;exact hd.cmp _ ho _ _ x1 y1)
      |(split at h
        ·cases h
        ·rename_i hb
         have hb0:=rat_ne0 (λd h1 h2 e=>hb _ _ _ e)
         first
          |(rw [eR_ok h];exact hd.over _ ho _ _ x1 y1 hb0)
          |(split at h
            ·rename_i h3;cases h;rw [eR_ok h3];exact hd.div _ ho _ _ x1 y1 hb0
            ·cases h))
    ·cases h)
  |(rename_i ho
    split at h
    ·rename_i hx
     obtain ⟨rfl,x1⟩:=decR_ok hx
     first
      |(rw [eR_ok h];exact hd.neg _ ho _ x1)
      |(rw [fI_eq] at h;cases h;exact hd.sgn _ ho _ x1)
      |(split at h
        ·rename_i hq
         rcases sqQ_ok hq with ⟨q,e,k1,k2⟩|⟨e,_⟩
         ·cases e
          split at h
          ·rename_i h3;cases h;rw [eR_ok h3,k2];exact hd2.sq1 _ ho _ x1 k1
          ·cases h
         ·cases e
        ·rename_i hq
         rcases sqQ_ok hq with ⟨q,e,k1,k2⟩|⟨e,k1⟩
         ·cases e
         ·cases h;exact hd2.sq0 _ ho _ x1 k1
        ·cases h)
    ·cases h)
  |(rename_i ho
    split at h
    ·rename_i hx
     rw [eR_ok h]
     first
      |exact hd2.int _ ho _ (of_decide_eq_true hx)
      |exact hd2.frac _ ho _ _ (of_decide_eq_true hx)
    ·cases h)
end Go.Sw
namespace Go.Proofs.YtbbfmlhkgceabaaGreat
open Go Go.RowKit Go.Sw
set_option linter.unusedVariables false
set_option maxRecDepth 100000
set_option maxHeartbeats 8000000
set_option synthInstance.maxSize 4000
set_option synthInstance.maxHeartbeats 400000
def tabx:Tab:=[(3000000000+117,.flag),(3000000000+165,.flag),(3000000000+206,.flag),(3000000000+220,.flag),(3000000000+116,.flag)]++tab
theorem tabx_ok:tabOk Tryz.prog tabx=true:=by kernel_rfl
def taby:Tab:=[(5000000000,.flag),(5000009006,.flag)]++tabx
theorem taby_ok:tabOk Tryz.prog taby=true:=by kernel_rfl
def tabz:Tab:=(2000000000,.flag) :: tabx
theorem tabz_ok:tabOk Tryz.prog tabz=true:=by kernel_rfl
def tabX(f:FuncId):Tab:=match Nat.beq f 198 with|true=>taby|false=>(match ([158,160]:List Nat).any λg=>Nat.beq f g with|true=>tabz|false=>tabx)
theorem tabX_ok(f:FuncId):tabOk Tryz.prog (tabX f)=true:=by
 unfold tabX
 split
 ·exact taby_ok
 ·split
  ·exact tabz_ok
  ·exact tabx_ok
end Go.Proofs.YtbbfmlhkgceabaaGreat
namespace Go.Sw
open Go Go.RowKit Go.Proofs Go.Shelf
set_option linter.unusedVariables false
theorem zeroCells_len(z:Array Value)(n:Nat):(Builtin.zeroCells z n).size=n*z.size:=by
 simp [Builtin.zeroCells]
theorem den_grow{P:Program}[Wld P]{ρ:Ren}(L:Lays8.n4 P ρ)(hb:hasBody P (ρ.f 4)=true)(i0:TypeInfo)(z:Value)(hi0:P.info? (ρ.t 25)=some i0)(hz0:i0.zero=some z)(hs0:0<i0.size)(hzs:z.cells.size=i0.size)(hby:i0.bytes≤1000000){n:Nat}(hn:n≤1000000):
 Den P (ρ.f 4) [.c (.v (.slice none 0 0)),.c (.v (.int .i64 (n:Nat)))] (.own (ρ.t 25) i0.size []):=by
 refine Den.of ⟨hb,λw X vs hW hX hl hr=>?_⟩ rfl
 match vs,hl with
 |[u,v],_ =>
 have hu:u=.slice none 0 0:=by
  have:=hr 0 u _ rfl rfl
  cases this with
  |c h=>cases h;rfl
 have hv:v=.int .i64 (n:Nat):=by
  have:=hr 1 v _ rfl rfl
  cases this with
  |c h=>cases h;rfl
 subst hu hv
 have h48:n*i0.bytes≤140737488355328:=Nat.le_trans (Nat.mul_le_mul hn hby) (by omega)
 by_cases h0:n=0
 ·subst h0
  refine Calls.mono (Any8.slices_Grow_room L none 0 0 0 w (by omega) (by omega) (by omega) (by omega)) ?_
  rintro e w' ⟨rfl,rfl⟩
  exact ⟨_,rfl,⟨⟨[_],[_],[],.inr ⟨rfl,rfl,rfl⟩,by simp,List.nodup_nil,.own0 hs0 .nil⟩⟩,Below.refl _ _⟩
 ·have hgc:=grownCap_ge w (0+n) 0 (ρ.t 25)
  have hgm:=grownCap_le_maxLen w (0+n) 0 (ρ.t 25) (by unfold maxLen;omega)
  refine Calls.mono (Any8.slices_Grow_grow L i0 z hi0 hz0 hs0 none 0 0 n [] w (by omega) (by omega) (by rw [Nat.zero_add];exact h48) (by omega) (by simp) (λ_=>rfl) (λa h=>by cases h)) ?_
  rintro e w' ⟨rfl,rfl⟩
  refine ⟨_,rfl,⟨⟨[_],[_],[w.heap.size],.inr ⟨rfl,rfl,rfl⟩,by simp,by simp, ?_⟩⟩,((Below.refl _ w).drew).alloc (Nat.le_refl _) _⟩
  refine RepFs.own (es:=[]) (uss:=[]) (rest:=(([]:List Value).toArray++Builtin.zeroCells z.cells (0+n-0)++Builtin.zeroCells z.cells (grownCap w (0+n) 0 (ρ.t 25)-(0+n))).toList) hs0 ?_ (RepS.nil _ _ _) ?_ hgm (Nat.zero_le _) .nil
  ·have key:∀(o:Obj),(w.drew.alloc o).heap[w.heap.size]?=some o:=λo=>by
    show (w.heap.push o)[w.heap.size]?=some o
    exact Array.getElem?_push_size
   rw [key]
   simp only [List.flatten_nil,List.nil_append,Array.toArray_toList]
  ·simp only [List.flatten_nil,List.nil_append,Array.length_toList,Array.size_append,zeroCells_len,hzs,List.size_toArray,List.length_nil]
   rw [Nat.zero_add,Nat.zero_add,← Nat.add_mul]
   rw [Nat.zero_add] at hgc
   rw [show n-0+(grownCap w n 0 (ρ.t 25)-n)=grownCap w n 0 (ρ.t 25) by omega]
end Go.Sw
namespace Go.Sw
open Go Go.RowKit Go.Proofs Go.Shelf Go.Lib
set_option linter.unusedVariables false
set_option maxHeartbeats 2000000 in
set_option maxRecDepth 100000 in
theorem clone_at{P:Program}{ρ:Ren}(L:SlLaysE0.n41 P ρ)(i0:TypeInfo)(z:Value)(size bytes:Nat)(hi:P.info? (ρ.t 23)=some i0)(hz0:i0.zero=some z)(hz1:i0.size=size)(hz2:i0.bytes=bytes)(hzs:z.cells.size=size)(hsz:0<size)
 (z23:∀w,(Go.sizeOf (ρ.t 23)).run P w=.ok size w) (a:Addr) (n c:Nat) (news:List Value) (w:World) (hl:news.length=n*size) (hn:n≤maxLen) (hbig:n*bytes≤140737488355328)
 (hc:∀j u,news[j]?=some u→w.cell? (a.add j)=some u) (h1:∀u∈news,u.oneCell'=true) :
 Calls P (ρ.f 41) #[.slice (some a) n c] w λe w'=>∃v',e=.returned v'∧w'.ownsRow w.heap.size (ρ.t 23) size v' n news∧Below w.heap.size w w':=by
 have mixed:=L.mixed;have t4:=L.t4;have a4:=L.a4;have z4:=L.z4;have v4:=L.v4;have t22:=L.t22;have a22:=L.a22;have z22:=L.z22;have v22:=L.v22
 have q22:∀(w:World) (a:Option Addr) (n c n' c':Nat),(binOp .eql (ρ.t 22) (.slice a n c) (.slice none n' c')).run P w=.ok (.bool a.isNone) w:=λw a n c n' c'=>Lib.run_eql_slice_nil w _ _ a n c n' c' L.t22
 have u22:∀w,Sem.run P (underlying (ρ.t 22)) w=.ok (TypeDesc.slice (ρ.t 23)) w:=run_underlying t22
 have A:Aside (∀j u,news[j]?=some u→w.cell? (a.add j)=some u):=hc
 clear hc
 obtain ⟨_,_,FG⟩:=L.f41
 go_enter FG,SlBodyN.n41_ntmps ρ
 go_wp2_with (at_builtin;refine wpList_append_own _ rfl _ _ (ρ.t 22) rfl w.heap.size (ρ.t 23) i0 z size bytes t22 hi hz0 hz1 hz2 hzs hsz _ _ _ rfl (World.ownsRow_made w #[] 0 (Nat.le_refl _) (Nat.zero_le _) (by simp)) a n c news rfl ?qc1 ?qc2 ?qc3 ?qc4 ?qc5 ?qc6 ?_)
 case qc1=>exact hl
 case qc2=>exact λj u hj=>Lib.cell?_alloc_some _ (A.out j u hj)
 case qc3=>exact h1
 case qc4=>rw [Nat.zero_add];exact hn
 case qc5=>rw [Nat.zero_add];exact hbig
 case qc6=>simp
 intro v' w1 hown hgrow hnil
 go_wp2
 go_ret
 exact ⟨v',rfl,by simpa using hown,((Below.refl _ w).alloc (Nat.le_refl _) _).grown hgrow (by simp) (by intro k hk;simp [Value.ownBlock] at hk;omega)⟩
theorem den_clone_own{P:Program}[Wld P]{ρ:Ren}(L:SlLaysE0.n41 P ρ)(hb:hasBody P (ρ.f 41)=true)(i0:TypeInfo)(z:Value){k:Nat}(hi:P.info? (ρ.t 23)=some i0)(hz0:i0.zero=some z)(hz1:i0.size=k)(hby:i0.bytes≤1000000)(hzs:z.cells.size=k)(hk:0<k)
 (z23:∀w,(Go.sizeOf (ρ.t 23)).run P w=.ok k w) {es:List (List Cell)} (hn:es.length≤1000000):Den P (ρ.f 41) [.c (.sl k es)] (.own (ρ.t 23) k es):=by
 refine Den.of ⟨hb,λw X vs hW hX hl hr=>?_⟩ rfl
 match vs,hl with
 |[u],_ =>
 have hu:RepC w X u (.sl k es):=by
  have:=hr 0 u _ rfl rfl
  cases this with
  |c h=>exact h
 obtain ⟨A,cap,uss,rfl,hcap,hmx,hc,hS⟩:=RepS.of_sl hu
 have hone:∀us∈uss,∀u∈us,u.oneCell'=true:=λus hu=>by
  obtain ⟨j,hj,rfl⟩:=List.getElem_of_mem hu
  exact (hS.get j _ _ (List.getElem?_eq_getElem hj) (List.getElem?_eq_getElem (by rw [← hS.len];exact hj))).one
 have hfl:uss.flatten.length=es.length*k:=by rw [flatten_len hS.sz,hS.len]
 cases A with
 |none =>
  have h0:uss.flatten=[]:=by
   by_cases h:uss.flatten=[]
   ·exact h
   ·obtain ⟨ad,h1,_⟩:=hc h;cases h1
  rw [h0] at hfl
  have:es=[]:=by
   rcases Nat.eq_zero_or_pos es.length with h|h
   ·exact List.eq_nil_of_length_eq_zero h
   ·have:=Nat.mul_pos h hk;simp at hfl;omega
  subst this
  refine Calls.mono (AnyE.slices_Clone_nil L _ _ w) ?_
  rintro e w' ⟨rfl,rfl⟩
  exact ⟨_,rfl,⟨[_],[_],[],.inr ⟨rfl,rfl,rfl⟩,by simp,List.nodup_nil,.own0 hk .nil⟩,Below.refl _ _⟩
 |some a =>
  refine Calls.mono (clone_at L i0 z k i0.bytes hi hz0 hz1 rfl hzs hk z23 a es.length cap uss.flatten w hfl (by unfold maxLen;omega) (Nat.le_trans (Nat.mul_le_mul hn hby) (by omega)) (λj u hj=>?_) (λu hu=>?_)) ?_
  ·obtain ⟨ad,h1,_,_,h2⟩:=hc (λh=>by rw [h] at hj;cases hj)
   cases h1
   exact h2 j u hj
  ·obtain ⟨us,h1,h2⟩:=List.mem_flatten.1 hu
   exact hone us h1 u h2
  ·rintro e w' ⟨v',rfl,hown,hB⟩
   refine ⟨v',rfl, ?_,hB⟩
   rcases hown with ⟨_,⟨rfl,h0⟩|⟨g,cap',cur,rfl,h1,h2,h3,h4,h5,h6⟩⟩
   ·have:es=[]:=List.eq_nil_of_length_eq_zero h0
    subst this
    exact ⟨[_],[_],[],.inr ⟨rfl,rfl,rfl⟩,by simp,List.nodup_nil,.own0 hk .nil⟩
   ·have hS':=hS.ext ((Ext.call X hB).add h1)
    have hcur:cur=(uss.flatten++cur.toList.drop (es.length*k)).toArray:=by rw [← h6,List.take_append_drop]
    have hlen:(uss.flatten++cur.toList.drop (es.length*k)).length=cur.size:=by rw [← h6,List.take_append_drop];simp
    exact ⟨[_],[_],[g],.inr ⟨rfl,rfl,rfl⟩,by simpa using h1,by simp,.own hk (by rw [← hcur];exact h2) hS' (by rw [hlen];exact h5.symm) h4 h3 .nil⟩
end Go.Sw
namespace Go.Proofs.YtbbfmlhkgceabaaGreat
open Go Go.RowKit Go.Sw
set_option linter.unusedVariables false
set_option maxRecDepth 100000
set_option maxHeartbeats 8000000
set_option synthInstance.maxSize 4000
set_option synthInstance.maxHeartbeats 400000
def opx(f:FuncId):Nat:=opT f [(26,1),(21,2),(27,3),(18,4),(55,5),(17,6),(231,8),(280,9),(42,10),(229,11),(48,1),(254,2),(49,3),(62,4),(284,5),(45,6),(289,8),(46,9),(30,10),(15,11),(241,12),(6,12),(125,13),(124,14)]
def rsX(f:FuncId):Nat:=opT f [(64,66),(67,66),(68,66),(90,1),(98,1),(104,1),(105,1),(109,66),(110,66),(111,66),(112,66),(114,66),(116,66),(119,66),(120,66),(136,1),(137,1),(140,1),(143,1),(144,1),(146,1),(147,1),(149,1),(158,66),(159,20),(160,66),(169,66),(171,20),(172,66),(176,12),(182,1),(183,1),(196,20),(198,20),(219,20),(220,20),(221,20),(224,20),(248,20),(249,20),(250,20),(265,20),(266,20),(267,20),(274,20)]
theorem op_ok:OpDen Tryz.prog opx where
 add:=(by intro f hf;have h:=opT_mem (by decide) hf;simp only [List.mem_cons,Prod.mk.injEq,List.not_mem_nil,or_false,Nat.reduceEqDiff,and_false,false_or,and_true] at h;(try rcases h with rfl|rfl)<;>(try subst h)<;>(intro a b ha hb;exact DenI.den (by first|trivial|((repeat' apply And.intro)<;>first|assumption|omega))))
 sub:=(by intro f hf;have h:=opT_mem (by decide) hf;simp only [List.mem_cons,Prod.mk.injEq,List.not_mem_nil,or_false,Nat.reduceEqDiff,and_false,false_or,and_true] at h;(try rcases h with rfl|rfl)<;>(try subst h)<;>(intro a b ha hb;exact DenI.den (by first|trivial|((repeat' apply And.intro)<;>first|assumption|omega))))
 mul:=(by intro f hf;have h:=opT_mem (by decide) hf;simp only [List.mem_cons,Prod.mk.injEq,List.not_mem_nil,or_false,Nat.reduceEqDiff,and_false,false_or,and_true] at h;(try rcases h with rfl|rfl)<;>(try subst h)<;>(intro a b ha hb;exact DenI.den (by first|trivial|((repeat' apply And.intro)<;>first|assumption|omega))))
 cmp:=(by intro f hf;have h:=opT_mem (by decide) hf;simp only [List.mem_cons,Prod.mk.injEq,List.not_mem_nil,or_false,Nat.reduceEqDiff,and_false,false_or,and_true] at h;(try rcases h with rfl|rfl)<;>(try subst h)<;>(intro a b ha hb;exact DenI.den (by first|trivial|((repeat' apply And.intro)<;>first|assumption|omega))))
 neg:=(by intro f hf;have h:=opT_mem (by decide) hf;simp only [List.mem_cons,Prod.mk.injEq,List.not_mem_nil,or_false,Nat.reduceEqDiff,and_false,false_or,and_true] at h;(try rcases h with rfl|rfl)<;>(try subst h)<;>(intro a ha;exact DenI.den (by first|trivial|((repeat' apply And.intro)<;>first|assumption|omega))))
 sgn:=(by intro f hf;have h:=opT_mem (by decide) hf;simp only [List.mem_cons,Prod.mk.injEq,List.not_mem_nil,or_false,Nat.reduceEqDiff,and_false,false_or,and_true] at h;(try rcases h with rfl|rfl)<;>(try subst h)<;>(intro a ha;exact DenI.den (by first|trivial|((repeat' apply And.intro)<;>first|assumption|omega))))
 over:=(by intro f hf;have h:=opT_mem (by decide) hf;simp at h)
 div:=(by intro f hf;have h:=opT_mem (by decide) hf;simp only [List.mem_cons,Prod.mk.injEq,List.not_mem_nil,or_false,Nat.reduceEqDiff,and_false,false_or,and_true] at h;(try rcases h with rfl|rfl)<;>(try subst h)<;>(intro a b ha hb h0;exact (DenC.den (by (repeat' apply And.intro)<;>first|assumption|omega)).2 h0))
theorem op_ok2:OpDen2 Tryz.prog opx where
 sq1:=(by intro f hf;have h:=opT_mem (by decide) hf;simp only [List.mem_cons,Prod.mk.injEq,List.not_mem_nil,or_false,Nat.reduceEqDiff,and_false,false_or,and_true] at h;(try rcases h with rfl|rfl)<;>(try subst h)<;>(intro a ha hc;exact (DenC.den (by omega)).1 hc))
 sq0:=(by intro f hf;have h:=opT_mem (by decide) hf;simp only [List.mem_cons,Prod.mk.injEq,List.not_mem_nil,or_false,Nat.reduceEqDiff,and_false,false_or,and_true] at h;(try rcases h with rfl|rfl)<;>(try subst h)<;>(intro a ha hc;exact (DenC.den (by omega)).2 (by rw [hc];decide)))
 int:=(by intro f hf;have h:=opT_mem (by decide) hf;simp only [List.mem_cons,Prod.mk.injEq,List.not_mem_nil,or_false,Nat.reduceEqDiff,and_false,false_or,and_true] at h;(try rcases h with rfl|rfl)<;>(try subst h)<;>(intro n hn;exact DenI.den hn))
 frac:=(by intro f hf;have h:=opT_mem (by decide) hf;simp only [List.mem_cons,Prod.mk.injEq,List.not_mem_nil,or_false,Nat.reduceEqDiff,and_false,false_or,and_true] at h;(try rcases h with rfl|rfl)<;>(try subst h)<;>(intro n d hn;exact DenI.den hn))
 sqI:=(by intro f hf;have h:=opT_mem (by decide) hf;simp only [List.mem_cons,Prod.mk.injEq,List.not_mem_nil,or_false,Nat.reduceEqDiff,and_false,false_or,and_true] at h;(try rcases h with rfl|rfl)<;>(try subst h)<;>(intro n hn;have h:=(i_sqrt (n:Nat)).den (by omega);rw [if_neg (by omega),if_neg (by omega)] at h;exact h))
 dmI:=(by intro f hf;have h:=opT_mem (by decide) hf;simp only [List.mem_cons,Prod.mk.injEq,List.not_mem_nil,or_false,Nat.reduceEqDiff,and_false,false_or,and_true] at h;(try rcases h with rfl|rfl)<;>(try subst h)<;>(intro a b ha hb h0;have h:=(ih_divmod a b).den (by first|omega|(constructor<;>omega));rw [if_neg h0,if_neg h0] at h;exact h))
 cmp4:=(by intro f hf;have h:=opT_mem (by decide) hf;simp only [List.mem_cons,Prod.mk.injEq,List.not_mem_nil,or_false,Nat.reduceEqDiff,and_false,false_or,and_true] at h;(try rcases h with rfl|rfl)<;>(try subst h)<;>(intro a b c d e g h1 h2 h3 h4;exact DenI.den ⟨by omega,by omega,by omega,by omega,by omega,by omega,h3,h4⟩))
def cptRen:Go.Shelf.Ren:=⟨λn=>if n=41 then 221 else n,λn=>if n=22 then 180 else if n=23 then 54 else n,id⟩
theorem cptLay:Go.Proofs.SlLaysE0.n41 Tryz.prog cptRen where
 mixed:=mixed_
 f41:=⟨ "slices.Clone[[]swarf/api.Point,swarf/api.Point]",by decide,Eq.trans Tryz.func221 (congrArg some (Eq.refl _))⟩
 t4:=Tryz.underlying4
 a4:=Tryz.isAgg4
 z4:=Tryz.sizeOf4
 v4:=Tryz.zeroValue4
 t22:=Tryz.underlying180
 a22:=Tryz.isAgg180
 z22:=Tryz.sizeOf180
 v22:=Tryz.zeroValue180
theorem cpt_cl{es:List (List Cell)}(hn:es.length≤1000000):Den Tryz.prog 221 [.c (.sl 20 es)] (.own 54 20 es):=by
 obtain ⟨i0,z,h1,h2,h3,h4,h5⟩:=infoB_ok (P:=Tryz.prog) (t:=54) (k:=20) (by kernel_rfl)
 exact den_clone_own cptLay (by kernel_rfl) i0 z h1 h2 h3 h5 h4 (by decide) Tryz.sizeOf54 hn
def ccuRen:Go.Shelf.Ren:=⟨λn=>if n=41 then 114 else n,λn=>if n=22 then 42 else if n=23 then 89 else n,id⟩
theorem ccuLay:Go.Proofs.SlLaysE0.n41 Tryz.prog ccuRen where
 mixed:=mixed_
 f41:=⟨ "slices.Clone[[]swarf/api.Curve,swarf/api.Curve]",by decide,Eq.trans Tryz.func114 (congrArg some (Eq.refl _))⟩
 t4:=Tryz.underlying4
 a4:=Tryz.isAgg4
 z4:=Tryz.sizeOf4
 v4:=Tryz.zeroValue4
 t22:=Tryz.underlying42
 a22:=Tryz.isAgg42
 z22:=Tryz.sizeOf42
 v22:=Tryz.zeroValue42
theorem ccu_cl{es:List (List Cell)}(hn:es.length≤1000000):Den Tryz.prog 114 [.c (.sl 66 es)] (.own 89 66 es):=by
 obtain ⟨i0,z,h1,h2,h3,h4,h5⟩:=infoB_ok (P:=Tryz.prog) (t:=89) (k:=66) (by kernel_rfl)
 exact den_clone_own ccuLay (by kernel_rfl) i0 z h1 h2 h3 h5 h4 (by decide) Tryz.sizeOf89 hn
def groRen:Go.Shelf.Ren:=⟨λn=>if n=4 then 169 else n,λn=>if n=22 then 42 else if n=25 then 89 else n,id⟩
theorem groLay:Go.Proofs.Lays8.n4 Tryz.prog groRen where
 mixed:=mixed_
 f4:=⟨ "slices.Grow[[]swarf/api.Curve,swarf/api.Curve]",by decide,Eq.trans Tryz.func169 (congrArg some (Eq.refl _))⟩
 t0:=Tryz.underlying0
 a0:=Tryz.isAgg0
 z0:=Tryz.sizeOf0
 v0:=Tryz.zeroValue0
 t3:=Tryz.underlying3
 a3:=Tryz.isAgg3
 z3:=Tryz.sizeOf3
 v3:=Tryz.zeroValue3
 t4:=Tryz.underlying4
 a4:=Tryz.isAgg4
 z4:=Tryz.sizeOf4
 v4:=Tryz.zeroValue4
 t9:=Tryz.underlying9
 a9:=Tryz.isAgg9
 z9:=Tryz.sizeOf9
 v9:=Tryz.zeroValue9
 t20:=Tryz.underlying20
 a20:=Tryz.isAgg20
 z20:=Tryz.sizeOf20
 v20:=Tryz.zeroValue20
 t22:=Tryz.underlying42
 a22:=Tryz.isAgg42
 z22:=Tryz.sizeOf42
 v22:=Tryz.zeroValue42
theorem gro_den{n:Nat}(hn:n≤1000000):Den Tryz.prog 169 [.c (.v (.slice none 0 0)),.c (.v (.int .i64 (n:Nat)))] (.own 89 66 []):=by
 obtain ⟨i0,z,h1,h2,h3,h4,h5⟩:=infoB_ok (P:=Tryz.prog) (t:=89) (k:=66) (by kernel_rfl)
 have h:=den_grow groLay (by kernel_rfl) i0 z h1 h2 (by omega) (by omega) h5 (n:=n) hn
 rw [h3] at h
 exact h
set_option maxHeartbeats 16000000 in
theorem del1{e:List Cell}{pf:FuncId}{pc:List Cell}(hI:Den Tryz.prog 268 [.c (.sl 20 [e]),.c (.fn pf pc)] (.int .i64 0)):DenM Tryz.prog 220 54 20 [e] [.c (.fn pf pc)] (.c (.sl 20 [])):=by
 refine ⟨by kernel_rfl,λw X g cap uss rest vs ho hX hgX hg hS hc hcm hn hs hl hR=>?_⟩
 letI G:Gr:=⟨[g]⟩
 letI K:Kp:=kpZ (.slice (some ⟨g,0,none⟩) 1 cap)
 haveI:WOk Tryz.prog w:=⟨λw' _=>trivial⟩
 refine enter Tryz.func220 rfl rfl (by simp only [List.length_cons,hl];rfl) λa hF=>?_
 have hcc:=own_conc hX hgX hg hS hc hcm hn hs hl hR hF
 refine cut_ok (τ:=tab) tab_ok mixed_ 4 _ (QA:=λz e' bx=>z=.normal∧SubE [(0,.gs 0 1),(5,.int .i64 0)] e'∧SubB [(0,.grow 54 20 [e])] bx) (textOkZ_ok _ (by kernel_rfl)) ?_ hcc (λe' b a1 w1 hq hc2=>?_) (λx e' b a w hx hq hc=>absurd hq.1 hx)
 case refine_1 =>
  haveI ii:DenI Tryz.prog 268 [.c (.sl 20 [e]),.c (.fn pf pc)] True (.int .i64 0):=⟨λ_=>hI⟩
  clear hcc hF
  (conv=>whnf)
  all_goals (repeat' ((try (conv=>whnf));first
   |refine call_0 ?_
   |refine call_i ?_ ?_
   |refine call_c ?_ (λ_=>?_) (λ_=>?_)
   |(with_reducible refine onB_t ?_)
   |(with_reducible refine onB_f ?_)
   |(with_reducible refine onB_d (λ_=>?_) (λ_=>?_))
   |(with_reducible refine onB_n (λ_=>?_) (λ_=>?_))
   |refine OnB.mk (λ_=>?_) (λ_=>?_)
   |refine obl_i ?_ ?_
   |refine Drw.mk (by kernel_rfl) ?_
   |refine mks_i ?_ ?_
   |refine slp_i ?_ ?_
   |(with_reducible refine elem_u ?_ ?_)
   |(with_reducible refine elem_0 ?_)
   |(with_reducible refine elem_1 ?_)
   |refine Ends.mk ?_))
  all_goals (try refine Pr.mk ?_)
  all_goals first
   |((conv=>whnf);refine Sw.Loop.unroll ?_)
   |skip
  all_goals (repeat' ((try rw [w01]);(try rw [w11]);(try (conv=>whnf));first
   |refine call_0 ?_
   |refine call_i ?_ ?_
   |(with_reducible refine onB_t ?_)
   |(with_reducible refine onB_f ?_)
   |refine onB_yes (by simp only [List.length_cons,List.length_nil];decide) ?_
   |refine onB_no (by simp only [List.length_cons,List.length_nil];decide) ?_
   |refine onB_yes (by decide) ?_
   |refine onB_no (by decide) ?_
   |(with_reducible refine onB_d (λ_=>?_) (λ_=>?_))
   |(with_reducible refine onB_n (λ_=>?_) (λ_=>?_))
   |refine OnB.mk (λ_=>?_) (λ_=>?_)
   |refine obl_i ?_ ?_
   |refine Drw.mk (by kernel_rfl) ?_
   |refine mks_i ?_ ?_
   |refine slp_i ?_ ?_
   |(with_reducible refine elem_u ?_ ?_)
   |(with_reducible refine elem_0 ?_)
   |(with_reducible refine elem_1 ?_)
   |refine Ends.mk ?_))
  all_goals (try refine Pr.mk ?_)
  all_goals first
   |omega
   |trivial
   |exact ⟨rfl,⟨rfl,rfl,trivial⟩,⟨rfl,trivial⟩⟩
   |(exfalso;simp at *;done)
   |skip
 replace hc2:=hc2.sub hq.2.1 hq.2.2
 obtain ⟨S,M,hst⟩:=hc2
 obtain ⟨m,hM,q1,q2,q3,q4,q5,q6⟩:=hst.box 0 _ rfl
 have hv:=hst.env 0 _ rfl
 have hu0:a1.tmps.getD 0 undef=.slice (some ⟨g,0,none⟩) 1 cap:=hst.df.1.2 0 _ (List.mem_singleton.2 rfl)
 have h5:a1.tmps.getD 5 undef=.int .i64 0:=(hst.env 5 _ rfl).v_
 rw [hu0] at hv
 cases hv with
 |d hd=>cases hd
 |gs hm' _ _ hh _ =>
 rw [hM] at hm'
 cases hm'
 have he:=hh (by rw [q5];rfl)
 unfold hdr at he
 rcases q6 with ⟨g1,_,g3⟩|⟨g',uss',rest',g1,g2,g3,g4,g5,g6⟩
 ·rw [g1] at he;cases he
 rw [g1] at he
 simp only [Option.map_some,Value.slice.injEq,Option.some.injEq,Addr.mk.injEq] at he
 obtain ⟨⟨rfl,_⟩,_,hcap⟩:=he
 have hrow:=hst.row hM q2 g1
 have hsz:m.us.toArray.size=cap*20:=by rw [List.size_toArray,← g4,← hcap]
 have hcap1:1≤cap:=hn
 have hgr:=bel_grown hst.ms.st.below
 obtain ⟨_,hsl,_⟩:=sliceT (tab_at tab_ok (t:=180) rfl)
 have hFm:Frm 42 a1 [(0,.slice (some ⟨g,0,none⟩) 1 cap),(5,.int .i64 0)]:=((show Frm 42 a1 [] from ⟨hst.sz,hst.df.1.1,λt v h=>by simp [lk] at h⟩).cons h5).cons hu0
 refine c_seq (c_reg (wp1 rfl (ex_move (hFm.ev rfl)) ?_))
 replace hFm:=hFm.put (d:=36) (by decide) (.slice (some ⟨g,0,none⟩) 1 cap)
 refine wp1 rfl (ex_move (hFm.ev rfl)) ?_
 replace hFm:=hFm.put (d:=37) (by decide) (.int .i64 0)
 refine wp1 rfl (ex_slice_ls (j:=0) hsl (hFm.ev rfl) (hFm.ev rfl) rfl (by decide) hcap1) ?_
 replace hFm:=hFm.put (d:=38) (by decide) (.slice (some ⟨g,0*20,none⟩) (1-0) (cap-0))
 obtain ⟨zs,hz1,hz2⟩:=clear_run (P:=Tryz.prog) (ty:=0) (t:=180) (s:=20) (n:=1-0) (o:=0*20) (c:=cap-0) Tryz.underlying180 Tryz.zeroValue54 rfl (λv hv=>List.all_eq_true.1 (by rfl:(List.all _ λv:Value=>v.oneCell')=true) v hv) hrow (by decide) (by rw [hsz];omega)
 have h38:=hFm.ev (x:=.tmp 38) rfl
 refine wp1 (u:=.tuple #[]) (w':=w1.setRow g (m.us.toArray.toList.take (0*20)++zs++m.us.toArray.toList.drop (0*20+zs.length)).toArray) rfl (by
  simp only [execOp,resolve,invoke,builtin,List.map_toArray,List.map_cons,List.map_nil,h38,Sem.run_bind,Sem.run_pure,Result.andThen_ok]
  rw [hz2]
  simp) ?_
 have hgr2:=grownBy_setRow w1 g (m.us.toArray.toList.take (0*20)++zs++m.us.toArray.toList.drop (0*20+zs.length)).toArray
 generalize w1.setRow g (m.us.toArray.toList.take (0*20)++zs++m.us.toArray.toList.drop (0*20+zs.length)).toArray=w2 at hgr2
 refine (show Exit.then _ _ .normal _ _ from x_tn (c_seq (c_reg ?_)))
 refine wp1 rfl (ex_move (hFm.ev rfl)) ?_
 replace hFm:=hFm.put (d:=39) (by decide) (.slice (some ⟨g,0,none⟩) 1 cap)
 refine wp1 rfl (ex_move (hFm.ev rfl)) ?_
 replace hFm:=hFm.put (d:=40) (by decide) (.int .i64 0)
 refine wp1 rfl (ex_slice_h (j:=0) hsl (hFm.ev rfl) (hFm.ev rfl) rfl (Nat.zero_le _)) ?_
 replace hFm:=hFm.put (d:=41) (by decide) (.slice (some ⟨g,0,none⟩) 0 cap)
 refine wp1 rfl (ex_assign (hFm.ev rfl)) ?_
 replace hFm:=hFm.put (d:=4) (by decide) (.slice (some ⟨g,0,none⟩) 0 cap)
 refine (show Exit.then _ _ .normal _ _ from x_tn (c_ret ?_))
 refine fin_res rfl hFm.defers (res_tmp hFm rfl) ⟨_,rfl,.d (.c (.sl _ 0 cap 20 [] [] rfl rfl (Cl.nil _ _ _) (Nat.zero_le _) (by unfold maxLen at hcm;omega) (λi us e h=>by simp at h) (λi us e h=>by simp at h))),⟨hgr2.os.trans hgr.os,hgr2.tape.trans hgr.tape,hgr2.output.trans hgr.output,Nat.le_trans hgr.size hgr2.size,λk hk hne=>(hgr2.block k (Nat.lt_of_lt_of_le hk hgr.size) hne).trans (hgr.block k hk hne)⟩⟩
end Go.Proofs.YtbbfmlhkgceabaaGreat
namespace Go.Sw
open Go Go.RowKit
set_option linter.unusedVariables false
def eqVl:Value→Value→Bool
 |.int k a,.int k' b=>(match decide (k=k') with|true=>decide (a=b)|false=>false)
 |.bool a,.bool b=>(match a,b with|true,true=>true|false,false=>true|_,_=>false)
 |_,_=>false
theorem eqVl_ok{u v:Value}(h:eqVl u v=true):u=v:=by
 unfold eqVl at h
 split at h
 ·split at h
  ·rename_i h1
   rw [of_decide_eq_true h1,of_decide_eq_true h]
  ·cases h
 ·split at h<;>first|rfl|cases h
 ·cases h
def eqLs{α:Type}(f:α→α→Bool):List α→List α→Bool
 |[],[]=>true
 |x :: r,y :: s=>(match f x y with|true=>eqLs f r s|false=>false)
 |_,_=>false
theorem eqLs_ok{α:Type}{f:α→α→Bool}(hf:∀x y,f x y=true→x=y):∀{l m:List α},eqLs f l m=true→l=m
 |[],[],_=>rfl
 |x :: r,y :: s,h=>by
  simp only [eqLs] at h
  split at h
  ·rename_i h1;rw [hf x y h1,eqLs_ok hf h]
  ·cases h
 |[],_ :: _,h=>by cases h
 |_ :: _,[],h=>by cases h
def eqCe:Nat→Cell→Cell→Bool
 |0,_,_=>false
 |n+1,x,y=>match x,y with
  |.v u,.v v=>eqVl u v
  |.sl s es,.sl t fs=>(match Nat.beq s t with|true=>eqLs (eqLs (eqCe n)) es fs|false=>false)
  |_,_=>false
theorem eqCe_ok:∀(n:Nat) (x y:Cell),eqCe n x y=true→x=y
 |0,_,_,h=>by cases h
 |n+1,x,y,h=>by
  simp only [eqCe] at h
  split at h
  ·rw [eqVl_ok h]
  ·split at h
   ·rename_i h1
    rw [Nat.eq_of_beq_eq_true h1,eqLs_ok (λ_ _=>eqLs_ok (eqCe_ok n)) h]
   ·cases h
  ·cases h
def eqAv:AV→AV→Bool
 |.c x,.c y=>eqCe 9 x y
 |.agg l,.agg m=>eqLs (eqCe 9) l m
 |_,_=>false
theorem eqAv_ok(x y:AV)(h:eqAv x y=true):x=y:=by
 unfold eqAv at h
 split at h
 ·rw [eqCe_ok _ _ _ h]
 ·rw [eqLs_ok (eqCe_ok 9) h]
 ·cases h
def memoL(f:FuncId)(xs:List AV):List (FuncId × List AV × AV)→Option AV
 |[]=>none
 |(g,ys,r) :: t=>(match Nat.beq g f with
  |true=>(match eqLs eqAv xs ys with|true=>some r|false=>memoL f xs t)
  |false=>memoL f xs t)
theorem memoL_ok{P:Program}[Wld P]{f:FuncId}{xs:List AV}{r:AV}:∀{T:List (FuncId × List AV × AV)},(∀x∈T,Den P x.1 x.2.1 x.2.2)→memoL f xs T=some r→Den P f xs r
 |[],_,h=>by cases h
 |(g,ys,q) :: t,hT,h=>by
  simp only [memoL] at h
  split at h
  ·rename_i h1
   split at h
   ·rename_i h2
    cases h
    have:=hT _ List.mem_cons_self
    rw [Nat.eq_of_beq_eq_true h1] at this
    rw [eqLs_ok eqAv_ok h2]
    exact this
   ·exact memoL_ok (λx hx=>hT x (List.mem_cons_of_mem _ hx)) h
  ·exact memoL_ok (λx hx=>hT x (List.mem_cons_of_mem _ hx)) h
end Go.Sw
namespace Go.Proofs.YtbbfmlhkgceabaaGreat
open Go Go.RowKit Go.Sw
set_option linter.unusedVariables false
set_option maxRecDepth 100000
set_option maxHeartbeats 8000000
set_option synthInstance.maxSize 4000
set_option synthInstance.maxHeartbeats 400000
def cl0(T k:Nat)(xs:List AV):Option AV :=
 match xs with
 |[.c (.sl 0 [])]=>some (.own T k [])
 |[.c (.sl s es)]=>(match Nat.beq s k,Nat.ble es.length 1000000 with|true,true=>some (.own T k es)|_,_=>none)
 |_=>none
theorem cl0_ok{f T k:Nat}(hc:∀es:List (List Cell),es.length≤1000000→Den Tryz.prog f [.c (.sl k es)] (.own T k es)){xs:List AV}{r:AV}(h:cl0 T k xs=some r):Den Tryz.prog f xs r:=by
 unfold cl0 at h
 split at h
 ·cases h;exact den_arg0 (hc [] (by decide))
 ·split at h
  ·rename_i h1 h2
   cases h
   rw [Nat.eq_of_beq_eq_true h1]
   exact hc _ (Nat.le_of_ble_eq_true h2)
  ·cases h
 ·cases h
def c0x(C:FuncId→List AV→Option AV)(f:FuncId)(xs:List AV):Option AV :=
 match Nat.beq f 221 with
 |true=>cl0 54 20 xs
 |false=>match Nat.beq f 114 with
  |true=>cl0 89 66 xs
  |false=>match Nat.beq f 169 with
   |true=>(match xs with
    |[.c (.v (.slice none 0 0)),.c (.v (.int .i64 (.ofNat n)))]=>(match Nat.ble n 1000000 with|true=>some (.own 89 66 [])|false=>none)
    |_=>none)
   |false=>match Nat.beq f 220 with
    |true=>(match xs with
     |[.own T s [e],.c (.fn pf pc)]=>(match Nat.beq T 54,Nat.beq s 20,C 268 [.c (.sl 20 [e]),.c (.fn pf pc)] with
      |true,true,some (.c (.v (.int .i64 0)))=>some (.tup [.rd [],.c (.sl 20 [])])
      |_,_,_=>none)
     |_=>none)
    |false=>none
theorem c0x_ok{C:FuncId→List AV→Option AV}(hC:∀f xs r,C f xs=some r→Den Tryz.prog f xs r){f:FuncId}{xs:List AV}{r:AV}(h:c0x C f xs=some r):Den Tryz.prog f xs r:=by
 unfold c0x at h
 split at h
 ·rename_i h1;rw [Nat.eq_of_beq_eq_true h1];exact cl0_ok (λes hn=>cpt_cl hn) h
 ·split at h
  ·rename_i h1;rw [Nat.eq_of_beq_eq_true h1];exact cl0_ok (λes hn=>ccu_cl hn) h
  ·split at h
   ·rename_i h1
    rw [Nat.eq_of_beq_eq_true h1]
    split at h
    ·split at h
     ·rename_i h2;cases h;exact gro_den (Nat.le_of_ble_eq_true h2)
     ·cases h
    ·cases h
   ·split at h
    ·rename_i h1
     rw [Nat.eq_of_beq_eq_true h1]
     split at h
     ·split at h
      ·rename_i h2 h3 h4
       cases h
       rw [Nat.eq_of_beq_eq_true h2,Nat.eq_of_beq_eq_true h3]
       exact del1 (hC _ _ _ h4)
      ·cases h
     ·cases h
    ·cases h
def c0w(T:List (FuncId × List AV × AV))(C:FuncId→List AV→Option AV)(f:FuncId)(xs:List AV):Option AV :=
 match memoL f xs T with
 |some r=>some r
 |none=>(match c0r opx f xs with
  |some r=>some r
  |none=>c0x C f xs)
theorem c0w_ok{T:List (FuncId × List AV × AV)}(hT:∀x∈T,Den Tryz.prog x.1 x.2.1 x.2.2)(C:FuncId→List AV→Option AV)(hC:∀f xs r,C f xs=some r→Den Tryz.prog f xs r)(f:FuncId)(xs:List AV)(r:AV)(h:c0w T C f xs=some r):Den Tryz.prog f xs r:=by
 unfold c0w at h
 split at h
 ·rename_i h1;cases h;exact memoL_ok hT h1
 ·split at h
  ·rename_i h1;cases h;exact c0r_ok op_ok op_ok2 h1
  ·exact c0x_ok hC h
theorem run_den{T:List (FuncId × List AV × AV)}(hT:∀x∈T,Den Tryz.prog x.1 x.2.1 x.2.2){f:FuncId}{xs:List AV}{r:AV}(h:xrunW Tryz.prog tabX rsX (c0w T) 200 30 f xs=some r):Den Tryz.prog f xs r :=
 xrunW_ok (λ_=>trivial) tabX_ok mixed_ (c0w_ok hT) 30 f xs r h
end Go.Proofs.YtbbfmlhkgceabaaGreat
