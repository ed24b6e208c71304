/-
  Rules of the abstract run, plain laws, and what functions answer, for the law RepairJoins.
  Conditions: none.
-/
import Derived.Test.YtmniihkenijjpaaGreatDoorX8
import Derived.Laws.Strings
import Derived.Lib.Bytealg
import Derived.Lib.AppendStr
set_option linter.all false
namespace Go.Sw
open Go
section
variable (a b c d e f:Rat)
end
end Go.Sw
namespace Go.Sw
open Go
theorem agV{x y:Int}(h:0<y):decide (((Nat.gcd x.natAbs y.natAbs:Nat):Int)=1)=jv (decide (x<0)) (lim x.natAbs) (decide (y<0)) (lim y.natAbs):=by
 rw[kX,pV.2 h];simp
theorem agN{x y:Int}(h:y≤0):false=jv (decide (x<0)) (lim x.natAbs) (decide (y<0)) (lim y.natAbs):=by
 rw[kX];have:¬jr y=1:=λe=>absurd (pV.1 e) (by omega)
 simp[this]
theorem Uz{e0 e1 e:List Cell}{es:List (List Cell)}{k:List Cell→Prop}(hk:k e):Elem (e0::e1::e::es) 2 k:=⟨2,e,rfl,rfl,hk⟩
end Go.Sw
namespace Go.Sw
open Go
section
variable {a b c d m n x y:Rat}
end
section
variable {fx fy tx ty x y:Rat} {r fz tz:Int}
end
section
variable {fx fy tx ty x y:Rat} {r fz tz:Int}
end
end Go.Sw
namespace Go.Sw
open Go
section
variable {m:Nat} {M:Int} {a b:Rat}
end
end Go.Sw
namespace Go.Sw
open Go Go.RowKit
def mD:List Cell→Prop
 |[]=>True
 |.sl _ es::r=>es.length≤9223372036854775807∧mD r
 |_::r=>mD r
def oV:List AV→Prop
 |[]=>True
 |v::r=>mD (cellsOf v)∧oV r
theorem sZ{w:World}{X:List Nat}:∀{us:List Value} {cs:List Cell},RepL w X us cs→mD cs
 |us,[],_=>trivial
 |us,.v u::r,h=>by
  obtain⟨_,us',_,_,h2⟩:=h.inv;show mD r;exact sZ h2
 |us,.p ps::r,h=>by
  obtain⟨_,us',_,_,h2⟩:=h.inv;show mD r;exact sZ h2
 |us,.fn ff ps::r,h=>by
  obtain⟨_,us',_,_,h2⟩:=h.inv;show mD r;exact sZ h2
 |us,.ob i n::r,h=>by
  obtain⟨_,us',_,_,h2⟩:=h.inv;show mD r;exact sZ h2
 |us,.sl s es::r,h=>by
  obtain⟨_,us',_,h1,h2⟩:=h.inv;obtain⟨A,cap,uss,_,h3,h4,_⟩:=RepS.of_sl h1;exact⟨dh h3 h4,sZ h2⟩
theorem Oo{w:World}{X:List Nat}:∀{vs:List Value} {xs:List AV},vs.length=xs.length→(∀(i:Nat) u v,vs[i]?=some u→xs[i]?=some v→RepD w X u v)→oV xs
 |_,[],_,_=>trivial
 |[],_::_,h,_=>by simp at h
 |v::vs,x::xs,hl,h=>⟨by
  obtain⟨us,_,h1⟩:=(h 0 v x rfl rfl).cells
  exact sZ h1,Oo (by simpa using hl) λi u y a b=>h (i+1) u y (by simpa using a) (by simpa using b)⟩
theorem gI{P:Program}[Wld P]{f:FuncId}{xs:List AV}{r:AV}(hb:dW P f=true)(h:oV xs→Den P f xs r)(hn:kS xs=true:=by rfl):Den P f xs r :=
 Den.of ⟨hb,λw X vs ho hX hl hr=>((h (Oo hl hr)).old hn).2 w X vs ho hX hl hr⟩ hn
end Go.Sw
namespace Go.Sw
open Go
def pad:Nat→Nat→List Nat
 |0,_=>[]
 |n+1,v=>v%1000000000::pad n (v/1000000000)
theorem NZ:∀(n v:Nat),(pad n v).length=n
 |0,_=>rfl
 |n+1,v=>by simp[pad,NZ]
theorem sF:∀(n v:Nat),Lb (pad n v)
 |0,_=>Lb.nil
 |n+1,v=>Lb.cons (xU _ (by decide)) (sF n _)
theorem lD:∀(n v:Nat),v<1000000000^n→val (pad n v)=v
 |0,v,h=>by simp at h;subst h;rfl
 |n+1,v,h=>by
  have:v/1000000000<1000000000^n:=Nat.div_lt_of_lt_mul (by rw[AB,Dy]at h;exact h);simp only[pad,val,lD n _ this];omega
theorem Ae:∀(l:List Nat),Lb l→l=pad l.length (val l)
 |[],_=>rfl
 |x::r,h=>by
  have h1:=h.head;have h2:=Ae r h.tail;simp only[iR,pad,val];rw[show(x+1000000000*val r)%1000000000=x by omega,show(x+1000000000*val r)/1000000000=val r by omega,←h2]
theorem O6{l:List Nat}{n v:Nat}(h:Lb l)(hl:l.length=n)(hv:val l=v):aV l=aV (pad n v):=by
 subst hl hv;rw[←Ae l h]
theorem cE{c c':Cell}(h:c=c'):aA [AV.c c]=AV.c c':=by rw[h];rfl
theorem lE{l l':List Nat}(h:l=l'):aA [AV.c (aV l)]=AV.c (aV l'):=by rw[h];rfl
theorem afp{l:List Nat}{k:Nat}{i:Int}(hk:k≤l.length)(h0:¬k=0)(hi:i.toNat=k-1):some (AV.c (.sl 1 ((((l.take k).map λx=>[Cell.v (u32 x)]).take i.toNat).drop (Int.toNat 0))))=some (AV.c (aV (l.take (k-1)))):=by
 rw[hi];show some (AV.c (.sl 1 (List.drop 0 _)))=_;rw[SX,←List.map_take,List.take_take,Nat.min_eq_left (by omega)]
theorem wP{x:Nat}:((x:Int)-1).toNat=x-1:=by omega
theorem Uk{x:Nat}:((x:Int)+1).toNat=x+1:=by omega
theorem Bo{x n:Nat}(h:x≤n):min x n=x:=Nat.min_eq_left h
theorem xK{l:List Nat}{x:Nat}(hx:x≤l.length∧∀j,x≤j→l.getD j 0=0)(h:x=0∨(l.take x).getD (x-1) 0≠0):aA [AV.c (aV (l.take x))]=AV.c (aV (ah l)) :=
 lE (nK l x hx.1 hx.2 (RI hx.1 h))
theorem zE{neg b:Bool}{l:List Nat}(hb:Lb l)(h:b=(neg&&decide (0<val l))):aA [AV.agg [Cell.v (.bool b),aV (ah l)]]=Z (eG neg (val l)):=by
 subst h;show AV.agg [_,_]=AV.agg [zs _,zl _];unfold zs zl;rw[wR,lT,lF l hb]
theorem NI{l:List Nat}(hb:Lb l):0<(ah l).length↔0<val l:=by
 rw[←lF l hb];have:=dI (n:=val l);omega
theorem zE1{b:Bool}{l:List Nat}(hb:Lb l)(h:b=decide ((((ah l).length:Nat):Int)>0)):aA [AV.agg [Cell.v (.bool b),aV (ah l)]]=Z (eG true (val l)) :=
 zE hb (by have:=NI hb;subst h;rw[XG,decide_eq_decide];omega)
theorem zE0{l:List Nat}(hb:Lb l):aA [AV.agg [Cell.v (.bool false),aV (ah l)]]=Z (eG false (val l)):=zE hb rfl
theorem aej{l:List Nat}{x:Nat}{i j:Int}(hx:x≤l.length∧∀j,x≤j→l.getD j 0=0)(h:x=0∨l.getD (x-1) 0≠0)(hi:i.toNat=0)(hj:j.toNat=x):Cell.sl 1 (List.drop i.toNat (List.take j.toNat (l.map λx=>[Cell.v (u32 x)])))=aV (ah l):=by
 rw[hi,hj,SX,←List.map_take,nK l x hx.1 hx.2 h]
theorem sg1{b:Bool}{l:List Nat}{x:Nat}{i j:Int}(hb:Lb l)(hx:x≤l.length∧∀j,x≤j→l.getD j 0=0)(h:x=0∨l.getD (x-1) 0≠0)(hi:i.toNat=0)(hj:j.toNat=x)(he:b=decide (((x:Nat):Int)>0)):
 aA [AV.agg [Cell.v (.bool b),Cell.sl 1 (List.drop i.toNat (List.take j.toNat (l.map λx=>[Cell.v (u32 x)])))]]=Z (eG true (val l)):=by
 rw[aej hx h hi hj];have hl:=congrArg List.length (nK l x hx.1 hx.2 h);rw[uM,Nat.min_eq_left hx.1]at hl;exact zE1 hb (by rw[he,hl])
theorem sg0{l:List Nat}{x:Nat}{i j:Int}(hb:Lb l)(hx:x≤l.length∧∀j,x≤j→l.getD j 0=0)(h:x=0∨l.getD (x-1) 0≠0)(hi:i.toNat=0)(hj:j.toNat=x):
 aA [AV.agg [Cell.v (.bool false),Cell.sl 1 (List.drop i.toNat (List.take j.toNat (l.map λx=>[Cell.v (u32 x)])))]]=Z (eG false (val l)):=by
 rw[aej hx h hi hj];exact zE0 hb
theorem aeB{n:Nat}(h0:0<n)(h:n≤9223372036854775807):some (AV.int .i64 (IntKind.i64.wrap ((n:Int)-1)))=some (AV.int .i64 ((n-1:Nat):Int)):=by
 rw[bP (by omega) (by omega)];congr 2;omega
theorem acj{n:Nat}(h:n≤9223372036854775807):some (AV.int .i64 (IntKind.i64.wrap ((n:Int)-1)))=some (AV.int .i64 ((n:Int)-1)):=by
 rw[bP (by omega) (by omega)]
theorem vw{n:Nat}(h0:0<n)(h:n≤9223372036854775807):some (AV.int .i64 (IntKind.i64.wrap ((n:Int)-1-1)))=some (AV.int .i64 (((n-1:Nat):Int)-1)):=by
 rw[bP (by omega) (by omega)];congr 2;omega
section
variable {a b:List Nat} {x:Nat}
theorem Pj(ha:CanL a)(hb:CanL b)(h:a.length<b.length):aA [AV.c (Cell.v (.int .i64 (-1)))]=AV.int .i64 (fU (val a) (val b)):=by rw[Oe (iq ha hb h)];rfl
theorem O1(ha:CanL a)(hb:CanL b)(h:b.length<a.length):aA [AV.c (Cell.v (.int .i64 1))]=AV.int .i64 (fU (val a) (val b)):=by rw[O8 (iq hb ha h)];rfl
theorem aaF(ha:CanL a)(hb:CanL b)(hx:x≤a.length∧∀j,x≤j→a.getD j 0=b.getD j 0)(hl:a.length=b.length)(h0:0<x)(h:a.getD (x-1) 0<b.getD (x-1) 0):aA [AV.c (Cell.v (.int .i64 (-1)))]=AV.int .i64 (fU (val a) (val b)):=by
 rw[Oe (mZ (x-1) ha.1 hb.1 hl (by omega) (λj hj=>hx.2 j (by omega)) h)];rfl
theorem aaB(ha:CanL a)(hb:CanL b)(hx:x≤a.length∧∀j,x≤j→a.getD j 0=b.getD j 0)(hl:a.length=b.length)(h0:0<x)(h:b.getD (x-1) 0<a.getD (x-1) 0):aA [AV.c (Cell.v (.int .i64 1))]=AV.int .i64 (fU (val a) (val b)):=by
 rw[O8 (mZ (x-1) hb.1 ha.1 hl.symm (by omega) (λj hj=>(hx.2 j (by omega)).symm) h)];rfl
theorem aay(hx:x≤a.length∧∀j,x≤j→a.getD j 0=b.getD j 0)(hl:a.length=b.length)(h0:x=0):aA [AV.c (Cell.v (.int .i64 0))]=AV.int .i64 (fU (val a) (val b)):=by
 rw[Z7 (congrArg val (JY hl λj=>hx.2 j (by omega)))];rfl
theorem fz2(h:a.length=b.length):a.length≤a.length∧∀j,a.length≤j→a.getD j 0=b.getD j 0:=⟨jE _,λj hj=>by rw[getD_none hj,getD_none (by omega)]⟩
end
theorem lC{v m:Int}(h:0≤v):v.tmod m=v%m:=Int.tmod_eq_emod_of_nonneg h
theorem lH{v m:Int}(h:0≤v):v.tdiv m=v/m:=Int.tdiv_eq_ediv_of_nonneg h
theorem BI{o:List Nat}{k d i T:Nat}{v:Int}(hi:i=k)(hv:v=(d:Int)):some (Bk.grow T 1 ((o.map λx=>[Cell.v (u32 x)]).set i [Cell.v (.int .u32 v)]))=some (Bk.grow T 1 ((o.set k d).map λx=>[Cell.v (u32 x)])):=by
 subst hi hv;rw[List.map_set];rfl
theorem sU(n T:Nat):some (Bk.grow T 1 (List.replicate n [Cell.v (.int .u32 0)]))=some (Bk.grow T 1 ((List.replicate n 0).map λx=>[Cell.v (u32 x)])):=by
 rw[List.map_replicate];rfl
theorem iS{k:IntKind}{a b:Int}(h:a=b):some (AV.int k a)=some (AV.int k b):=by rw[h]
theorem JM{o:List Nat}{d T:Nat}{v:Int}(hv:v=(d:Int)):some (Bk.grow T 1 ((o.map λx=>[Cell.v (u32 x)])++[[Cell.v (.int .u32 v)]]))=some (Bk.grow T 1 ((o++[d]).map λx=>[Cell.v (u32 x)])):=by
 subst hv;rw[gG];rfl
theorem gsE{b n m:Nat}(h:n=m):some (AV.gs b n)=some (AV.gs b m):=by rw[h]
theorem afj{o:List Nat}{d:Nat}:Cell.sl 1 ((o.map λx=>[Cell.v (u32 x)])++[[Cell.v (.int .u32 ((d:Nat):Int))]])=aV (o++[d]):=by
 unfold aV;rw[gG];rfl
theorem aaQ{l:List Nat}{n v:Nat}(h:Lb l)(hl:l.length=n)(hv:val l=v):aA [AV.c (aV l)]=AV.c (aV (pad n v)):=cE (O6 h hl hv)
theorem aeb{l:List Nat}{d n v:Nat}(h:Lb l)(hd:d<1000000000)(hl:l.length+1=n)(hv:val l+1000000000^l.length*d=v):aA [AV.c (.sl 1 ((l.map λx=>[Cell.v (u32 x)])++[[Cell.v (.int .u32 ((d:Nat):Int))]]))]=AV.c (aV (pad n v)):=by
 rw[afj];exact aaQ (qO h hd) (by simpa using hl) (by rw[UD rfl];exact hv)
theorem Fa{o x y:List Nat}{k br:Nat}(hbo:Lb o)(hx:Lb x)(ho:o.length=x.length)(hk:k=x.length)(hy:y.length≤x.length)(hle:val y≤val x)(hv:val (o.take k)+val (y.take k)=val (x.take k)+1000000000^k*br):val o=val x-val y:=by
 subst hk;have hlt:=fF o hbo;have hx0:=fF x hx;rw[bT (l:=o) (by omega),bT (l:=y) (by omega),bT (l:=x) (by omega)]at hv;rw[ho]at hlt;exact Qo hx0 hv hle hlt
theorem Ri{o x y:List Nat}{k br:Nat}(hbo:Lb o)(hx:Lb x)(ho:o.length=x.length)(hk:k=x.length)(hy:y.length≤x.length)(hle:val y≤val x)(hv:val (o.take k)+val (y.take k)=val (x.take k)+1000000000^k*br):aA [AV.c (aV (ah o))]=AV.c (aV (lim (val x-val y))) :=
 lE (by rw[←Fa hbo hx ho hk hy hle hv,lF _ hbo])
theorem ET{o a b:List Nat}{i:Nat}(ho:o.length=a.length+b.length)(hi:i=a.length)(hv:val (o.take (i+b.length))=val (a.take i)*val b):val o=val a*val b:=by
 subst hi;rw[bT (l:=o) (by omega),bT (l:=a) (by omega)]at hv;exact hv
theorem Px(la lb:Nat)(a b:List Nat):val ((List.replicate (la+lb) 0).take (0+lb))=val (a.take 0)*val b:=by
 rw[List.take_replicate,yD];simp[val]
theorem xQ{i k:Nat}:((i:Int)+(k:Int)).toNat=i+k:=by omega
theorem ZP{a o:List Nat}{b r:Nat}(h0:0<b)(hr:r<b)(ho:o.length=a.length)(hb:Lb o)(hv:val (a.drop 0)=b*val (o.drop 0)+r):
 aA [AV.c (aV o),AV.c (.sl 1 [[Cell.v (.int .u32 ((r:Nat):Int))]])]=AV.tup [AV.c (aV (pad a.length (val a/b))),AV.c (aV [val a%b])]:=by
 rw[SX,SX]at hv;have h1:val a/b=val o:=by rw[hv,Dy,Nat.add_comm,Nat.add_mul_div_right _ _ h0,Nat.div_eq_of_lt hr,uX]
 have h2:val a%b=r:=by rw[hv,Nat.mul_add_mod,PX hr]
 rw[h1,h2,←O6 hb ho rfl];rfl
theorem QO{n:Nat}(h:n<1000000000000000000000000000){x y z:Int}(hx:x=((n%1000000000:Nat):Int))(hy:y=((n/1000000000%1000000000:Nat):Int))(hz:z=((n/1000000000/1000000000:Nat):Int)):
 aA [AV.c (.sl 1 [[Cell.v (.int .u32 x)],[Cell.v (.int .u32 y)],[Cell.v (.int .u32 z)]])]=AV.c (aV (pad 3 n)):=by
 subst hx hy hz;refine cE ?_;simp only[pad];rw[show n/1000000000/1000000000%1000000000=n/1000000000/1000000000 by omega];rfl
theorem Wx{n:Nat}(h:n<18446744073709551616):(lim n).length≤3:=ji (by omega)
theorem Nu{n m:Nat}{o:List Nat}(h:m≤n∧lim n=o++lim m)(h0:0<m):m/1000000000≤n∧lim n=(o++[m%1000000000])++lim (m/1000000000):=by
 refine⟨dh (RQ _ _) h.1, ?_⟩;rw[h.2,kC (by omega:m≠0)];simp
theorem Rw{n m:Nat}{o:List Nat}(h:m≤n∧lim n=o++lim m)(h0:m=0):aA [AV.c (aV o)]=AV.c (aV (lim n)):=lE (by rw[h.2,h0,fE,gq])
theorem QI{n m:Nat}{o:List Nat}(hn:n<18446744073709551616)(h:m≤n∧lim n=o++lim m)(h0:0<m):o.length+1≤3:=by
 have h1:=congrArg List.length h.2;have h2:=Wx hn;rw[kC (by omega:m≠0)]at h1;simp at h1;omega
theorem abW{a:Int}(h:(lim a.natAbs).length=0):aA [AV.c (Cell.v (.int .u64 0)),AV.c (Cell.v (.bool true))]=AV.tup [.int .u64 ((if sz a≤2 then a.natAbs else 0:Nat):Int),.bool (decide (sz a≤2))]:=by
 have h1:sz a≤2:=by unfold sz;omega
 rw[if_pos h1,decide_eq_true h1,dI.1 h];rfl
theorem abD{a:Int}{x:Int}(h:(lim a.natAbs).length=1)(hx:x=(((lim a.natAbs).getD 0 0:Nat):Int)):aA [AV.c (Cell.v (.int .u64 x)),AV.c (Cell.v (.bool true))]=AV.tup [.int .u64 ((if sz a≤2 then a.natAbs else 0:Nat):Int),.bool (decide (sz a≤2))]:=by
 have h1:sz a≤2:=by unfold sz;omega
 rw[if_pos h1,decide_eq_true h1,hx,ZE h];rfl
theorem acs{a:Int}{x:Int}(h:(lim a.natAbs).length=2)(hx:x=(((lim a.natAbs).getD 1 0*1000000000+(lim a.natAbs).getD 0 0:Nat):Int)):aA [AV.c (Cell.v (.int .u64 x)),AV.c (Cell.v (.bool true))]=AV.tup [.int .u64 ((if sz a≤2 then a.natAbs else 0:Nat):Int),.bool (decide (sz a≤2))]:=by
 have h1:sz a≤2:=by unfold sz;omega
 rw[if_pos h1,decide_eq_true h1,hx,aam h];rfl
theorem adn{a:Int}(h:2<(lim a.natAbs).length):aA [AV.c (Cell.v (.int .u64 0)),AV.c (Cell.v (.bool false))]=AV.tup [.int .u64 ((if sz a≤2 then a.natAbs else 0:Nat):Int),.bool (decide (sz a≤2))]:=by
 have h1:¬sz a≤2:=by unfold sz;omega
 rw[if_neg h1,decide_eq_false h1];rfl
theorem PG:Int.toNat 0=0:=rfl
theorem P9:Int.toNat 1=1:=rfl
theorem KA(r g:Nat):((r:Int)*1000000000+(g:Int))=((r*1000000000+g:Nat):Int):=by omega
theorem KZ(t b:Nat):(t:Int)/(b:Int)=((t/b:Nat):Int):=rfl
theorem MG(t b:Nat):(t:Int)%(b:Int)=((t%b:Nat):Int):=rfl
theorem Uj{a:List Nat}{b:Nat}(ha:Lb a)(h0:0<b)(h1:b<1000000000):Lb (pad a.length (val a/b))∧Lb [val a%b]∧val a=b*val (pad a.length (val a/b))+val [val a%b]∧val [val a%b]<b∧(pad a.length (val a/b)).length=a.length∧[val a%b].length=1:=by
 have hm:=xU (val a) h0;have hv:val [val a%b]=val a%b:=by simp[val]
 refine⟨sF _ _,Lb.cons (by omega) Lb.nil, ?_,by rw[hv];exact hm,NZ _ _,rfl⟩;rw[lD _ _ (Nat.lt_of_le_of_lt (RQ _ _) (fF a ha)),hv,Nat.div_add_mod]
def Ut(b:List Nat):Nat:=1000000000/((ah b).getD ((ah b).length-1) 0+1)
def XT(a b:List Nat):Nat:=if(ah b).length=1 then(ah a).length else if val a<val b then 0 else(ah a).length+2-(ah b).length
def WE(a b:List Nat):Nat:=if(ah b).length=1 then 1 else if val a<val b then(ah a).length else(lim (val a%val b*Ut b)).length
theorem abN{a b U:List Nat}{n q rs:Nat}(hb:Lb U)(hv:val (U.take n)=val U)(h1:val a*Ut b=val b*Ut b*q+val U)(h2:val a=val b*q+rs)(h3:rs<val b):(ah (U.take n)).length=(lim (val a%val b*Ut b)).length:=by
 have e1:val a%val b=rs:=by rw[h2,Nat.mul_add_mod,PX h3]
 have e2:val U=rs*Ut b:=by
  rw[h2,Nat.add_mul]at h1;have:val b*q*Ut b=val b*Ut b*q:=by grind
  omega
 rw[e1,←e2,←hv,lF _ (hb.take n)]
theorem Zp{b:List Nat}(hb:Lb b):0<Ut b:=by
 have:=(mX hb).getD ((ah b).length-1);unfold Ut;exact Nat.div_pos (by omega) (by omega)
theorem acG{a b:List Nat}(ha:Lb a)(hb:Lb b)(h0:0<val b):val (pad (XT a b) (val a/val b))=val a/val b:=by
 refine lD _ _ ?_;have hva:=fF _ (mX ha);rw[dZ]at hva;unfold XT;split
 ·exact Nat.lt_of_le_of_lt (RQ _ _) hva
 ·split
  ·rw[Nat.div_eq_of_lt (by assumption)];decide
  ·rename_i h1 h2;have hne:ah b≠[]:=λe=>by have:=dZ b;rw[e]at this;simp[val]at this;omega
   have hp:=Gh (eX hb) hne;rw[dZ]at hp;have hl:0<(ah b).length:=List.length_pos_iff.2 hne
   have hle:(ah b).length≤(ah a).length:=by
    rcases D7 (ah a).length (ah b).length with h|h
    ·have:=iq (eX ha) (eX hb) h;rw[dZ,dZ]at this;omega
    ·exact h
   rw[Nat.div_lt_iff_lt_mul h0];refine AX hva (dh ?_ (HY _ hp));rw[←Nat.pow_add];exact Ik (by decide) (by omega)
theorem ac1{a b:List Nat}(ha:Lb a)(hb:Lb b)(h0:0<val b):val (pad (WE a b) (val a%val b))=val a%val b:=by
 refine lD _ _ ?_;have hm:=xU (val a) h0;have hvb:=fF _ (mX hb);have hva:=fF _ (mX ha);rw[dZ]at hva hvb;unfold WE;split
 ·rename_i h;rw[h]at hvb;omega
 ·split
  ·exact Nat.lt_of_le_of_lt (Nat.mod_le _ _) hva
  ·have:=fF _ (bn (val a%val b*Ut b));rw[aB]at this;exact Nat.lt_of_le_of_lt (Nat.le_mul_of_pos_right _ (Zp hb)) this
end Go.Sw
namespace Go.Sw
open Go Go.RowKit
def xR(s:ByteArray):List Nat:=s.data.toList.map λb=>b.toNat
theorem wz(s:ByteArray):(xR s).length=s.size:=by simp[xR]
theorem Zd(s:ByteArray)(j:Nat):(s.data.toList.getD j 0).toNat=(xR s).getD j 0:=by
 unfold xR;rw[pz,pz,zQ];cases s.data.toList[j]?<;>rfl
theorem X9{a b:ByteArray}(h:xR a=xR b):a=b:=by
 have:a.data.toList=b.data.toList:=by
  unfold xR at h;exact(List.map_inj_right (λx y h=>UInt8.toNat_inj.1 h)).1 h
 cases a;cases b;simpa using this
theorem Oa(a b:ByteArray):(a.toList == b.toList)=decide (xR a=xR b):=by
 rw[ByteArray.toList_eq,ByteArray.toList_eq]
 by_cases h:xR a=xR b
 ·rw[decide_eq_true h,X9 h];simp
 ·rw[decide_eq_false h];rw[beq_eq_false_iff_ne];exactλe=>h (by unfold xR;rw[e])
theorem Ot{s:ByteArray}{i:Int}{k:Int→Prop}(hp:Pr (0≤i∧i<s.size))(hk:k (((xR s).getD i.toNat 0:Nat):Int)):StrAt s i k:=by
 obtain⟨⟨h1,h2⟩⟩:=hp;exact⟨i.toNat,by omega,by omega,by rw[Zd];exact hk⟩
end Go.Sw
namespace Go.Sw
open Go Go.RowKit
@[reducible] def AV.str(s:ByteArray):AV:=.c (.v (.string s))
section
variable {s b:ByteArray} {k m:Nat}
end
end Go.Sw
namespace Go.Sw
open Go
theorem abf{a b:ByteArray}(h:a=b):aA [AV.c (Cell.v (.string a))]=AV.str b:=by subst h;rfl
end Go.Sw
namespace Go.Sw
open Go Go.Lib
def dgl(n:Nat):List Nat:=(decDigits n).map λb=>b.toNat
theorem ZQ(n:Nat):(dgl n).length=nDigits n:=by unfold dgl;rw[aZ,decDigits_length]
theorem abb(l:List UInt8):xR ⟨l.toArray⟩=l.map λb=>b.toNat:=rfl
theorem Zx(n:Int):xR (uF n)=(if n<0 then[45]else[])++dgl n.natAbs:=by
 unfold uF;rw[abb,gG];congr 1;split<;>rfl
theorem EJ(n:Int):(uF n).size=(if n<0 then 1 else 0)+nDigits n.natAbs:=by
 rw[←wz,Zx,iy,ZQ];congr 1;split<;>rfl
theorem Qm:∀(i m:Nat),(lim m).getD i 0=m/1000000000^i%1000000000
 |0,m=>by
  by_cases h:m=0
  ·subst h;rw[fE];rfl
  ·rw[kC h];simp
 |i+1,m=>by
  by_cases h:m=0
  ·subst h;simp[fE]
  ·rw[kC h,List.getD_cons_succ,Qm i,Nat.div_div_eq_div_mul,←Nat.pow_succ']
theorem UE:∀(i m:Nat),i<(lim m).length→0<m/1000000000^i
 |0,m,h=>by
  have:m≠0:=λe=>by subst e;rw[fE]at h;exact absurd h (by decide)
  simp;omega
 |i+1,m,h=>by
  have:m≠0:=λe=>by subst e;rw[fE]at h;exact absurd h (by simp)
  rw[kC this,iR]at h;have:=UE i (m/1000000000) (by omega)
  rwa [Nat.div_div_eq_div_mul,←Nat.pow_succ']at this
theorem He(m:Nat):m<1000000000^(lim m).length:=by
 have:=fF (lim m) (bn m)
 rwa [aB]at this
theorem acu{i m:Nat}(h:i<(lim m).length):(lim m)[i]?=some (m/1000000000^i%1000000000):=by
 have:=Qm i m;rw[pz,jg h]at this;rw[jg h];exact congrArg some this
theorem JF{m:Nat}(h:0<(lim m).length):m/1000000000^((lim m).length-1)%1000000000=m/1000000000^((lim m).length-1):=by
 apply PX;apply Nat.div_lt_of_lt_mul;have:=He m
 rwa [←AB,show((lim m).length-1).succ=(lim m).length by omega]
theorem KF{m i:Nat}(h:i+1<(lim m).length):
 decDigits (m/1000000000^i)=decDigits (m/1000000000^(i+1))++List.replicate (9-nDigits (m/1000000000^i%1000000000)) 48++decDigits (m/1000000000^i%1000000000):=by
 have h1:=UE (i+1) m h;have hx:m/1000000000^i%1000000000<10^9:=xU _ (by decide);have e:m/1000000000^(i+1)=m/1000000000^i/1000000000:=by rw[Nat.div_div_eq_div_mul,AB]
 rw[nT,←GR 9 _ (by decide) hx,←OU 9 _ _ h1 hx,e];congr 1;have:=Nat.div_add_mod (m/1000000000^i) 1000000000;omega
theorem Iy{m i:Nat}(h:0<(lim m).length):(decDigits (m/1000000000^i)).length≤9*(lim m).length:=by
 rw[decDigits_length];apply vT (by omega);refine Nat.lt_of_le_of_lt (RQ _ _) ?_;rw[Nat.pow_mul];exact He m
theorem zZ{x:Nat}(h:x<1000000000):1≤nDigits x∧nDigits x≤9:=⟨nDigits_pos x,vT (by decide) h⟩
def bv(l:List UInt8):List Value:=l.map λb => .int .u8 (b.toNat:Int)
theorem Us(l:List UInt8):(bv l).length=l.length:=by unfold bv;simp
theorem yx(a b:List UInt8):bv (a++b)=bv a++bv b:=by unfold bv;rw[gG]
theorem TQ(l:List UInt8):strCells ⟨l.toArray⟩=bv l:=rfl
theorem tY(n:Nat):(sD n).size=nDigits n:=by
 show(decDigits n).toArray.size=_;rw[VD,decDigits_length]
end Go.Sw
namespace Go.Sw
open Go Go.Lib Go.RowKit
theorem aaV{n:Int}{k:Nat}(h:sz n≤k)(hk:0<k):nDigits n.natAbs≤9*k:=by
 apply vT (by omega);refine AX (He n.natAbs) ?_;rw[Nat.pow_mul];exact Ik (by decide) h
theorem Z5{n:Int}{k:Nat}(h:sz n≤k)(hk:0<k):(uF n).size≤9*k+1:=by
 have:=aaV h hk;rw[EJ];split<;>omega
end Go.Sw
namespace Go.Proofs.YtmniihkenijjpaaGreatDoor
open Go Go.RowKit Go.Sw
set_option maxRecDepth 100000
set_option maxHeartbeats 8000000
instance ag3(l:List Nat):DenI Tryz.prog 230 [.c (aV l)] (True) (.c (aV (ah l))):=⟨λhp=>by
 refine gI (by kernel_rfl) (λhl=>?_);simp only[oV,mD,cellsOf,aZ,and_true,true_and]at hl
 all_goals refine aC Tryz.func230 rfl ?_
 all_goals first
  |((conv=>whnf);refine Sw.Loop.inv (α:=Nat) (λx=>[(0,.c (aV (l.take x)))]) (λx=>[]) (λx=>x≤l.length∧∀j,x≤j→l.getD j 0=0) (λx=>x) l.length ?_ ?_ ?_ (λx hx=>?_))
 all_goals(repeat'((try(conv=>whnf));first
  |(with_reducible first|refine aQ ?_|refine aP ?_|refine au (λ_=>?_) (λ_=>?_))|refine iG ?_ ?_|(with_reducible refine bZ ?_ ?_)|refine Ends.mk ?_))
 all_goals(try refine Pr.mk ?_)
 all_goals first|(show SubE _ _;repeat'(first|exact trivial|refine And.intro ?_ ?_))|(show SubB _ _;repeat'(first|exact trivial|refine And.intro ?_ ?_))|skip
 all_goals(try simp(disch:=omega) only[aZ,uM,gU,zO,bP,dL,wu64,Bo,wP,Uk,lC,lH]at *)
 all_goals first
  |(rw[Jl];rfl)|exact⟨jE _,λj hj=>getD_none hj⟩|exact xK hx (.inl (by omega))|exact xK hx (.inr (by omega))|((conv=>whnf);exact⟨x-1,⟨⟨afp hx.1 (by omega) (by simp only[Eo];omega),trivial⟩,⟨⟩,⟨by omega,yj hx.2 (take_zero (by omega) (by omega))⟩,by show x-1<x;omega⟩⟩)|((repeat' apply And.intro)<;>first|omega|(simp;done)|(simp;omega))⟩
instance afZ(l:List Nat):DenI Tryz.prog 142 [.c (aV l)] (True) (.c (aV (ah l))):=⟨λhp=>by
 refine gI (by kernel_rfl) (λhl=>?_);simp only[oV,mD,cellsOf,aZ,and_true,true_and]at hl
 all_goals refine aC Tryz.func142 rfl ?_
 all_goals first
  |((conv=>whnf);refine Sw.Loop.inv (α:=Nat) (λx=>[(0,.c (aV (l.take x)))]) (λx=>[]) (λx=>x≤l.length∧∀j,x≤j→l.getD j 0=0) (λx=>x) l.length ?_ ?_ ?_ (λx hx=>?_))
 all_goals(repeat'((try(conv=>whnf));first
  |(with_reducible first|refine aQ ?_|refine aP ?_|refine au (λ_=>?_) (λ_=>?_))|refine iG ?_ ?_|(with_reducible refine bZ ?_ ?_)|refine Ends.mk ?_))
 all_goals(try refine Pr.mk ?_)
 all_goals first|(show SubE _ _;repeat'(first|exact trivial|refine And.intro ?_ ?_))|(show SubB _ _;repeat'(first|exact trivial|refine And.intro ?_ ?_))|skip
 all_goals(try simp(disch:=omega) only[aZ,uM,gU,zO,bP,dL,wu64,Bo,wP,Uk,lC,lH]at *)
 all_goals first
  |(rw[Jl];rfl)|exact⟨jE _,λj hj=>getD_none hj⟩|exact xK hx (.inl (by omega))|exact xK hx (.inr (by omega))|((conv=>whnf);exact⟨x-1,⟨⟨afp hx.1 (by omega) (by simp only[Eo];omega),trivial⟩,⟨⟩,⟨by omega,yj hx.2 (take_zero (by omega) (by omega))⟩,by show x-1<x;omega⟩⟩)|((repeat' apply And.intro)<;>first|omega|(simp;done)|(simp;omega))⟩
instance ady(neg:Bool)(l:List Nat):DenI Tryz.prog 160 [.bool neg,.c (aV l)] (Lb l) (Z (eG neg (val l))):=⟨λhp=>by
 refine gI (by kernel_rfl) (λhl=>?_);simp only[oV,mD,cellsOf,aZ,and_true,true_and]at hl
 all_goals refine aC Tryz.func160 rfl ?_
 all_goals first
  |((conv=>whnf);refine Sw.Loop.inv (α:=Nat) (λx=>[(0,.bool neg),(1,.c (aV l)),(4,.ptr 4 0),(5,.int .i64 x)]) (λx=>[(4,.var [.v (.bool false),.sl 1 []])]) (λx=>x≤l.length∧∀j,x≤j→l.getD j 0=0) (λx=>x) l.length ?_ ?_ ?_ (λx hx=>?_))
 all_goals(repeat'((try(conv=>whnf));first
  |(with_reducible first|refine aQ ?_|refine aP ?_|refine au (λ_=>?_) (λ_=>?_))|refine OnB.mk (λ_=>?_) (λ_=>?_)|refine iG ?_ ?_|(with_reducible refine bZ ?_ ?_)|refine Ends.mk ?_))
 all_goals(try refine Pr.mk ?_)
 all_goals first|(show SubE _ _;repeat'(first|exact trivial|refine And.intro ?_ ?_))|(show SubB _ _;repeat'(first|exact trivial|refine And.intro ?_ ?_))|skip
 all_goals(try rfl)
 all_goals(try simp(disch:=omega) only[aZ,uM,gU,zO,bP,dL,wu64,Bo,wP,Uk,lC,lH]at *)
 all_goals first
  |(subst neg;exact sg1 hp hx (.inl (by omega)) rfl (by simp only[Eo];omega) rfl)|(subst neg;exact sg0 hp hx (.inl (by omega)) rfl (by simp only[Eo];omega))|(subst neg;exact sg1 hp hx (.inr (by omega)) rfl (by simp only[Eo];omega) rfl)|(subst neg;exact sg0 hp hx (.inr (by omega)) rfl (by simp only[Eo];omega))|exact⟨jE _,λj hj=>getD_none hj⟩|rfl|((conv=>whnf);exact⟨x-1,⟨⟨rfl,rfl,rfl,aeB (by omega) (by omega),trivial⟩,⟨rfl,trivial⟩,⟨by omega,yj hx.2 (by omega)⟩,by show x-1<x;omega⟩⟩)|((repeat' apply And.intro)<;>first|omega|(simp;done)|(simp;omega))⟩
instance adq(neg:Bool)(l:List Nat):DenI Tryz.prog 107 [.bool neg,.c (aV l)] (Lb l) (Z (eG neg (val l))):=⟨λhp=>by
 refine gI (by kernel_rfl) (λhl=>?_);simp only[oV,mD,cellsOf,aZ,and_true,true_and]at hl
 all_goals refine aC Tryz.func107 rfl ?_
 all_goals(repeat'((try(conv=>whnf));first
  |refine aG ?_|(with_reducible first|refine aQ ?_|refine aP ?_)|refine OnB.mk (λ_=>?_) (λ_=>?_)|refine Ends.mk ?_))
 all_goals first
  |(subst neg;exact zE1 hp (by rw[aZ]))|(subst neg;exact zE0 hp)⟩
instance adr(a b:List Nat):DenI Tryz.prog 198 [.c (aV a),.c (aV b)] (Lb a∧Lb b) (.int .i64 (fU (val a) (val b))):=⟨λhp=>by
 refine gI (by kernel_rfl) (λhl=>?_);simp only[oV,mD,cellsOf,aZ,and_true,true_and]at hl;have ha:=fA a;have hb:=fA b
 all_goals refine aC Tryz.func198 rfl ?_
 all_goals(repeat'((try(conv=>whnf));first
  |refine aG ?_|(with_reducible first|refine au (λ_=>?_) (λ_=>?_)|refine cZ (λ_=>?_) (λ_=>?_))|refine Ends.mk ?_))
 all_goals first
  |((conv=>whnf);refine Sw.Loop.inv (α:=Nat) (λx=>[(0,.c (aV (ah a))),(1,.c (aV (ah b))),(5,.int .i64 ((x:Int)-1))]) (λx=>[]) (λx=>x≤(ah a).length∧∀j,x≤j→(ah a).getD j 0=(ah b).getD j 0) (λx=>x) ((ah a).length) ?_ ?_ ?_ (λx hx=>?_))|skip
 all_goals(repeat'((try(conv=>whnf));first
  |(with_reducible refine au (λ_=>?_) (λ_=>?_))|refine Drw.mk (by kernel_rfl) ?_|(with_reducible refine bZ ?_ ?_)|refine Ends.mk ?_))
 all_goals(try refine Pr.mk ?_)
 all_goals first|(show SubE _ _;repeat'(first|exact trivial|refine And.intro ?_ ?_))|(show SubB _ _;repeat'(first|exact trivial|refine And.intro ?_ ?_))|skip
 all_goals(try rfl)
 all_goals(try simp(disch:=omega) only[aZ,uM,gU,zO,bP,dL,wu64,Bo,wP,Uk,lC,lH]at *)
 all_goals(try simp only[←dZ a,←dZ b])
 all_goals first
  |exact Pj (eX hp.1) (eX hp.2) (by omega)|exact O1 (eX hp.1) (eX hp.2) (by omega)|exact aaF (eX hp.1) (eX hp.2) hx (by omega) (by omega) (by omega)|exact aaB (eX hp.1) (eX hp.2) hx (by omega) (by omega) (by omega)|exact aay hx (by omega) (by omega)|exact fz2 (by omega)|((conv=>whnf);exact⟨x-1,⟨⟨rfl,rfl,vw (by omega) (by omega),trivial⟩,⟨⟩,⟨by omega,agree_step hx.2 (by omega)⟩,by show x-1<x;omega⟩⟩)|rfl|((repeat' apply And.intro)<;>first|omega|(simp;done)|(simp;omega))⟩
instance ace(a b:List Nat):DenI Tryz.prog 106 [.c (aV a),.c (aV b)] (CanL a∧CanL b) (.int .i64 (fU (val a) (val b))):=⟨λhp=>by
 refine gI (by kernel_rfl) (λhl=>?_);simp only[oV,mD,cellsOf,aZ,and_true,true_and]at hl
 all_goals refine aC Tryz.func106 rfl ?_
 all_goals(repeat'((try(conv=>whnf));first
  |refine aG ?_|refine aj ?_ ?_|(with_reducible first|refine aQ ?_|refine aP ?_|refine au (λ_=>?_) (λ_=>?_)|refine cZ (λ_=>?_) (λ_=>?_))|refine OnB.mk (λ_=>?_) (λ_=>?_)|refine bI ?_ ?_|refine Drw.mk (by kernel_rfl) ?_|refine gu ?_ ?_|refine iG ?_ ?_|(with_reducible first|refine bZ ?_ ?_|refine dn ?_|refine dM ?_)|refine Ends.mk ?_))
 all_goals(try refine Pr.mk ?_)
 all_goals first
  |((conv=>whnf);refine Sw.Loop.inv (α:=Nat) (λx=>[(0,.c (aV (a))),(1,.c (aV (b))),(5,.int .i64 ((x:Int)-1))]) (λx=>[]) (λx=>x≤(a).length∧∀j,x≤j→(a).getD j 0=(b).getD j 0) (λx=>x) ((a).length) ?_ ?_ ?_ (λx hx=>?_))|skip
 all_goals(repeat'((try(conv=>whnf));first
  |refine aG ?_|refine aj ?_ ?_|(with_reducible first|refine aQ ?_|refine aP ?_|refine au (λ_=>?_) (λ_=>?_)|refine cZ (λ_=>?_) (λ_=>?_))|refine OnB.mk (λ_=>?_) (λ_=>?_)|refine bI ?_ ?_|refine Drw.mk (by kernel_rfl) ?_|refine gu ?_ ?_|refine iG ?_ ?_|(with_reducible first|refine bZ ?_ ?_|refine dn ?_|refine dM ?_)|refine Ends.mk ?_))
 all_goals(try refine Pr.mk ?_)
 all_goals first|(show SubE _ _;repeat'(first|exact trivial|refine And.intro ?_ ?_))|(show SubB _ _;repeat'(first|exact trivial|refine And.intro ?_ ?_))|skip
 all_goals(try rfl)
 all_goals(try simp(disch:=omega) only[aZ,uM,gU,zO,bP,dL,wu64,Bo,wP,Uk,lC,lH]at *)
 all_goals first
  |exact hp|exact Pj hp.1 hp.2 (by omega)|exact O1 hp.1 hp.2 (by omega)|exact aaF hp.1 hp.2 hx (by omega) (by omega) (by omega)|exact aaB hp.1 hp.2 hx (by omega) (by omega) (by omega)|exact aay hx (by omega) (by omega)|exact fz2 (by omega)|exact acj (by omega)|((conv=>whnf);exact⟨x-1,⟨⟨rfl,rfl,vw (by omega) (by omega),trivial⟩,⟨⟩,⟨by omega,agree_step hx.2 (by omega)⟩,by show x-1<x;omega⟩⟩)|(rw[bP (by omega) (by omega)])|rfl|((repeat' apply And.intro)<;>first|omega|(simp;done)|(simp;omega))|skip⟩
end Go.Proofs.YtmniihkenijjpaaGreatDoor
