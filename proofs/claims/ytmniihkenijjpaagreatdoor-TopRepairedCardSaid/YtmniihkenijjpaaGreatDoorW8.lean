/-
  Rules of the abstract run, plain laws, and what functions answer, for the law TopRepaired.
  Conditions: none.
-/
import Derived.Test.YtmniihkenijjpaaGreatDoorW7
import Derived.Laws.Strings
import Derived.Lib.Bytealg
import Derived.Lib.AppendStr
set_option linter.all false
set_option maxHeartbeats 16000000
namespace Go.Sw
open Go
theorem Bnd.cg{f g:Nat->Rat}(h:Bnd f)(e:∀n,f n=g n):Bnd g:=by rwa [funext e]at h
def ConS(p:Int×Int)(f:Nat->Rat):Prop:=∃g:Nat->Rat,NulS (λn=>g n-f n)/\∀n,con p (g n)
theorem ConS.const{p:Int×Int}{q:Rat}(h:con p q):ConS p λ_=>q:=⟨λ_=>q,NulS.zero.cg λn=>by grind,λ_=>h⟩
theorem ConS.cg{p:Int×Int}{f g:Nat->Rat}(h:ConS p f)(e:∀n,f n=g n):ConS p g:=by rwa [funext e]at h
theorem yM(q:Rat):gB (decide (q.num<0)) (lim q.num.natAbs) (decide ((q.den:Int)<0)) (lim (q.den:Int).natAbs)=true:=by
 rw[iV];have h1:=den_pos q;have h2:=q.reduced;rw[bG,decide_eq_true_eq,decide_eq_true_eq];exact⟨jG.2 h1,by rw[AP];exact congrArg Int.ofNat h2⟩
structure Rt where
 a:Rat
 b:Rat
 c:Rat
section
variable (a b c d e f:Rat)
end
theorem Xa{x y:Int}(h:0<y):decide (((Nat.gcd x.natAbs y.natAbs:Nat):Int)=1)=gB (decide (x<0)) (lim x.natAbs) (decide (y<0)) (lim y.natAbs):=by
 rw[iV,jG.2 h];simp
theorem X8{x y:Int}(h:y<=0):false=gB (decide (x<0)) (lim x.natAbs) (decide (y<0)) (lim y.natAbs):=by
 rw[iV];have:¬fD y=1:=λe=>absurd (jG.1 e) ω
 simp[this]
theorem Hl{e0 e1 e:List Cell}{es:List (List Cell)}{k:List Cell->Prop}(hk:k e):Elem (e0::e1::e::es) 2 k:=⟨2,e,rfl,rfl,hk⟩
section
variable {a b c d m n x y:Rat}
end
section
variable {fx fy tx ty x y:Rat} {r fz tz:Int}
end
section
variable {fx fy tx ty x y:Rat} {r fz tz:Int}
end
section
variable {m:Nat} {M:Int} {a b:Rat}
end
open Go.RowKit
def abX:List Cell->Prop
 |[]=>True
 |.sl _ es::r=>es.length<=9223372036854775807/\abX r
 |_::r=>abX r
def acz:List AV->Prop
 |[]=>True
 |v::r=>abX (cellsOf v)/\acz r
theorem acM{w:World}{X:List Nat}:∀{us:List Value} {cs:List Cell},RepL w X us cs->abX cs
 |us,[],_=>trivial
 |us,.v u::r,h=>by
  obtain⟨_,us',_,_,h2⟩:=h.inv;show abX r;exact acM h2
 |us,.p ps::r,h=>by
  obtain⟨_,us',_,_,h2⟩:=h.inv;show abX r;exact acM h2
 |us,.fn ff ps::r,h=>by
  obtain⟨_,us',_,_,h2⟩:=h.inv;show abX r;exact acM h2
 |us,.ob i n::r,h=>by
  obtain⟨_,us',_,_,h2⟩:=h.inv;show abX r;exact acM h2
 |us,.sl s es::r,h=>by
  obtain⟨_,us',_,h1,h2⟩:=h.inv;obtain⟨A,cap,uss,_,h3,h4,_⟩:=RepS.of_sl h1;exact⟨aU h3 h4,acM h2⟩
theorem agn{w:World}{X:List Nat}:∀{vs:List Value} {xs:List AV},vs.length=xs.length->(∀(i:Nat) u v,vs[i]?=some u->xs[i]?=some v->RepD w X u v)->acz xs
 |_,[],_,_=>trivial
 |[],_::_,h,_=>by simp at h
 |v::vs,x::xs,hl,h=>⟨by
  obtain⟨us,_,h1⟩:=(h 0 v x rfl rfl).cells
  exact acM h1,agn (by simpa using hl) λi u y a b=>h (i+1) u y (by simpa using a) (by simpa using b)⟩
theorem aa7{P:Program}[Wld P]{f:FuncId}{xs:List AV}{r:AV}(hb:aaM P f=true)(h:acz xs->Den P f xs r)(hn:abA xs=true:=by rfl):Den P f xs r :=
 Den.of ⟨hb,λw X vs ho hX hl hr=>((h (agn hl hr)).old hn).2 w X vs ho hX hl hr⟩ hn
end Go.Sw
namespace Go.Sw
open Go
def pad:Nat->Nat->List Nat
 |0,_=>[]
 |n+1,v=>v%1000000000::pad n (v/1000000000)
theorem DJ:∀(n v:Nat),(pad n v).length=n
 |0,_=>rfl
 |n+1,v=>by simp[pad,DJ]
theorem mF:∀(n v:Nat),Lb (pad n v)
 |0,_=>Lb.nil
 |n+1,v=>Lb.cons (oO _ ψ) (mF n _)
theorem gU:∀(n v:Nat),v<1000000000^n->val (pad n v)=v
 |0,v,h=>by simp at h;subst h;rfl
 |n+1,v,h=>by
  have:v/1000000000<1000000000^n:=Nat.div_lt_of_lt_mul (by rw[uK,wU]at h;exact h);simp only[pad,val,gU n _ this];omega
theorem qW:∀(l:List Nat),Lb l->l=pad l.length (val l)
 |[],_=>rfl
 |x::r,h=>by
  have h1:=h.head;have h2:=qW r h.tail;simp only[dK,pad,val];rw[show(x+1000000000*val r)%1000000000=x by omega,show(x+1000000000*val r)/1000000000=val r by omega,<-h2]
theorem Dw{l:List Nat}{n v:Nat}(h:Lb l)(hl:l.length=n)(hv:val l=v):lmc l=lmc (pad n v):=by
 subst hl hv;rw[<-qW l h]
theorem cE{c c':Cell}(h:c=c'):aai [AV.c c]=AV.c c':=by rw[h];rfl
theorem lE{l l':List Nat}(h:l=l'):aai [AV.c (lmc l)]=AV.c (lmc l'):=by rw[h];rfl
theorem TA{l:List Nat}{k:Nat}{i:Int}(hk:k<=l.length)(h0:¬k=0)(hi:i.toNat=k-1):some (AV.c (.sl 1 ((((l.take k).map λx=>[Cell.v (u32 x)]).take i.toNat).drop (Int.toNat 0))))=some (AV.c (lmc (l.take (k-1)))):=by
 rw[hi];show some (AV.c (.sl 1 (List.drop 0 _)))=_;rw[List.drop_zero,<-List.map_take,List.take_take,Nat.min_eq_left ω]
theorem xK{x:Nat}:((x:Int)-1).toNat=x-1:=ω
theorem QC{x:Nat}:((x:Int)+1).toNat=x+1:=ω
theorem Ap{x n:Nat}(h:x<=n):min x n=x:=Nat.min_eq_left h
theorem mZ{l:List Nat}{x:Nat}(hx:x<=l.length/\∀j,x<=j->l.getD j 0=0)(h:x=0\/(l.take x).getD (x-1) 0≠0):aai [AV.c (lmc (l.take x))]=AV.c (lmc (ah l)) :=
 lE (iT l x hx.1 hx.2 (EW hx.1 h))
theorem zE{neg b:Bool}{l:List Nat}(hb:Lb l)(h:b=(neg&&decide (0<val l))):aai [AV.agg [Cell.v (.bool b),lmc (ah l)]]=Z (bH neg (val l)):=by
 subst h;show AV.agg [_,_]=AV.agg [zs _,zl _];unfold zs zl;rw[nI,iw,lq l hb]
theorem zT{l:List Nat}(hb:Lb l):0<(ah l).length↔0<val l:=by
 rw[<-lq l hb];have:=aY (n:=val l);omega
theorem Yy{b:Bool}{l:List Nat}(hb:Lb l)(h:b=decide ((((ah l).length:Nat):Int)>0)):aai [AV.agg [Cell.v (.bool b),lmc (ah l)]]=Z (bH true (val l)) :=
 zE hb (by have:=zT hb;subst h;rw[JW,decide_eq_decide];omega)
theorem Zf{l:List Nat}(hb:Lb l):aai [AV.agg [Cell.v (.bool false),lmc (ah l)]]=Z (bH false (val l)):=zE hb rfl
theorem Ti{l:List Nat}{x:Nat}{i j:Int}(hx:x<=l.length/\∀j,x<=j->l.getD j 0=0)(h:x=0\/l.getD (x-1) 0≠0)(hi:i.toNat=0)(hj:j.toNat=x):Cell.sl 1 (List.drop i.toNat (List.take j.toNat (l.map λx=>[Cell.v (u32 x)])))=lmc (ah l):=by
 rw[hi,hj,List.drop_zero,<-List.map_take,iT l x hx.1 hx.2 h]
theorem sg1{b:Bool}{l:List Nat}{x:Nat}{i j:Int}(hb:Lb l)(hx:x<=l.length/\∀j,x<=j->l.getD j 0=0)(h:x=0\/l.getD (x-1) 0≠0)(hi:i.toNat=0)(hj:j.toNat=x)(he:b=decide (((x:Nat):Int)>0)):
 aai [AV.agg [Cell.v (.bool b),Cell.sl 1 (List.drop i.toNat (List.take j.toNat (l.map λx=>[Cell.v (u32 x)])))]]=Z (bH true (val l)):=by
 rw[Ti hx h hi hj];have hl:=congrArg List.length (iT l x hx.1 hx.2 h);rw[qy,Nat.min_eq_left hx.1]at hl;exact Yy hb (by rw[he,hl])
theorem YU{l:List Nat}{x:Nat}{i j:Int}(hb:Lb l)(hx:x<=l.length/\∀j,x<=j->l.getD j 0=0)(h:x=0\/l.getD (x-1) 0≠0)(hi:i.toNat=0)(hj:j.toNat=x):
 aai [AV.agg [Cell.v (.bool false),Cell.sl 1 (List.drop i.toNat (List.take j.toNat (l.map λx=>[Cell.v (u32 x)])))]]=Z (bH false (val l)):=by
 rw[Ti hx h hi hj];exact Zf hb
theorem U1{n:Nat}(h0:0<n)(h:n<=9223372036854775807):some (AV.int .i64 (IntKind.i64.wrap ((n:Int)-1)))=some (AV.int .i64 ((n-1:Nat):Int)):=by
 rw[aT ω ω];congr 2;omega
theorem AU{n:Nat}(h0:0<n)(h:n<=9223372036854775807):some (AV.int .i64 (IntKind.i64.wrap ((n:Int)-1-1)))=some (AV.int .i64 (((n-1:Nat):Int)-1)):=by
 rw[aT ω ω];congr 2;omega
section
variable {a b:List Nat} {x:Nat}
theorem Ob(ha:CanL a)(hb:CanL b)(h:a.length<b.length):aai [AV.c (Cell.v (.int .i64 (-1)))]=AV.int .i64 (dD (val a) (val b)):=by rw[Di (dH ha hb h)];rfl
theorem Oj(ha:CanL a)(hb:CanL b)(h:b.length<a.length):aai [AV.c (Cell.v (.int .i64 1))]=AV.int .i64 (dD (val a) (val b)):=by rw[CY (dH hb ha h)];rfl
theorem TP(ha:CanL a)(hb:CanL b)(hx:x<=a.length/\∀j,x<=j->a.getD j 0=b.getD j 0)(hl:a.length=b.length)(h0:0<x)(h:a.getD (x-1) 0<b.getD (x-1) 0):aai [AV.c (Cell.v (.int .i64 (-1)))]=AV.int .i64 (dD (val a) (val b)):=by
 rw[Di (iM (x-1) ha.1 hb.1 hl ω (λj hj=>hx.2 j ω) h)];rfl
theorem UD(ha:CanL a)(hb:CanL b)(hx:x<=a.length/\∀j,x<=j->a.getD j 0=b.getD j 0)(hl:a.length=b.length)(h0:0<x)(h:b.getD (x-1) 0<a.getD (x-1) 0):aai [AV.c (Cell.v (.int .i64 1))]=AV.int .i64 (dD (val a) (val b)):=by
 rw[CY (iM (x-1) hb.1 ha.1 hl.symm ω (λj hj=>(hx.2 j ω).symm) h)];rfl
theorem SX(hx:x<=a.length/\∀j,x<=j->a.getD j 0=b.getD j 0)(hl:a.length=b.length)(h0:x=0):aai [AV.c (Cell.v (.int .i64 0))]=AV.int .i64 (dD (val a) (val b)):=by
 rw[KZ (congrArg val (yR hl λj=>hx.2 j ω))];rfl
theorem Z7(h:a.length=b.length):a.length<=a.length/\∀j,a.length<=j->a.getD j 0=b.getD j 0:=⟨gW _,λj hj=>by rw[getD_none hj,getD_none ω]⟩
end
theorem jO{v m:Int}(h:0<=v):v.tmod m=v%m:=Int.tmod_eq_emod_of_nonneg h
theorem jR{v m:Int}(h:0<=v):v.tdiv m=v/m:=Int.tdiv_eq_ediv_of_nonneg h
theorem Bc{o:List Nat}{k d i T:Nat}{v:Int}(hi:i=k)(hv:v=(d:Int)):some (Bk.grow T 1 ((o.map λx=>[Cell.v (u32 x)]).set i [Cell.v (.int .u32 v)]))=some (Bk.grow T 1 ((o.set k d).map λx=>[Cell.v (u32 x)])):=by
 subst hi hv;rw[List.map_set];rfl
theorem vO(n T:Nat):some (Bk.grow T 1 (List.replicate n [Cell.v (.int .u32 0)]))=some (Bk.grow T 1 ((List.replicate n 0).map λx=>[Cell.v (u32 x)])):=by
 rw[List.map_replicate];rfl
theorem iS{k:IntKind}{a b:Int}(h:a=b):some (AV.int k a)=some (AV.int k b):=by rw[h]
theorem yJ{o:List Nat}{d T:Nat}{v:Int}(hv:v=(d:Int)):some (Bk.grow T 1 ((o.map λx=>[Cell.v (u32 x)])++[[Cell.v (.int .u32 v)]]))=some (Bk.grow T 1 ((o++[d]).map λx=>[Cell.v (u32 x)])):=by
 subst hv;rw[dI];rfl
theorem UY{b n m:Nat}(h:n=m):some (AV.gs b n)=some (AV.gs b m):=by rw[h]
theorem VW{o:List Nat}{d:Nat}:Cell.sl 1 ((o.map λx=>[Cell.v (u32 x)])++[[Cell.v (.int .u32 ((d:Nat):Int))]])=lmc (o++[d]):=by
 unfold lmc;rw[dI];rfl
theorem QV{l:List Nat}{n v:Nat}(h:Lb l)(hl:l.length=n)(hv:val l=v):aai [AV.c (lmc l)]=AV.c (lmc (pad n v)):=cE (Dw h hl hv)
theorem Ua{l:List Nat}{d n v:Nat}(h:Lb l)(hd:d<1000000000)(hl:l.length+1=n)(hv:val l+1000000000^l.length*d=v):aai [AV.c (.sl 1 ((l.map λx=>[Cell.v (u32 x)])++[[Cell.v (.int .u32 ((d:Nat):Int))]]))]=AV.c (lmc (pad n v)):=by
 rw[VW];exact QV (jY h hd) (by simpa using hl) (by rw[Hz rfl];exact hv)
theorem uI{o x y:List Nat}{k br:Nat}(hbo:Lb o)(hx:Lb x)(ho:o.length=x.length)(hk:k=x.length)(hy:y.length<=x.length)(hle:val y<=val x)(hv:val (o.take k)+val (y.take k)=val (x.take k)+1000000000^k*br):val o=val x-val y:=by
 subst hk;have hlt:=bV o hbo;have hx0:=bV x hx;rw[aO (l:=o) ω,aO (l:=y) ω,aO (l:=x) ω]at hv;rw[ho]at hlt;exact Fh hx0 hv hle hlt
theorem EF{o x y:List Nat}{k br:Nat}(hbo:Lb o)(hx:Lb x)(ho:o.length=x.length)(hk:k=x.length)(hy:y.length<=x.length)(hle:val y<=val x)(hv:val (o.take k)+val (y.take k)=val (x.take k)+1000000000^k*br):aai [AV.c (lmc (ah o))]=AV.c (lmc (lim (val x-val y))) :=
 lE (by rw[<-uI hbo hx ho hk hy hle hv,lq _ hbo])
theorem EL{o a b:List Nat}{i:Nat}(ho:o.length=a.length+b.length)(hi:i=a.length)(hv:val (o.take (i+b.length))=val (a.take i)*val b):val o=val a*val b:=by
 subst hi;rw[aO (l:=o) ω,aO (l:=a) ω]at hv;exact hv
theorem KW(la lb:Nat)(a b:List Nat):val ((List.replicate (la+lb) 0).take (0+lb))=val (a.take 0)*val b:=by
 rw[List.take_replicate,pF];simp[val]
theorem yO{i k:Nat}:((i:Int)+(k:Int)).toNat=i+k:=ω
theorem KL{a o:List Nat}{b r:Nat}(h0:0<b)(hr:r<b)(ho:o.length=a.length)(hb:Lb o)(hv:val (a.drop 0)=b*val (o.drop 0)+r):
 aai [AV.c (lmc o),AV.c (.sl 1 [[Cell.v (.int .u32 ((r:Nat):Int))]])]=AV.tup [AV.c (lmc (pad a.length (val a/b))),AV.c (lmc [val a%b])]:=by
 rw[List.drop_zero,List.drop_zero]at hv;have h1:val a/b=val o:=by rw[hv,wU,Nat.add_comm,Nat.add_mul_div_right _ _ h0,Nat.div_eq_of_lt hr,nU]
 have h2:val a%b=r:=by rw[hv,Nat.mul_add_mod,EH hr]
 rw[h1,h2,<-Dw hb ho rfl];rfl
theorem Ei{n:Nat}(h:n<1000000000000000000000000000){x y z:Int}(hx:x=((n%1000000000:Nat):Int))(hy:y=((n/1000000000%1000000000:Nat):Int))(hz:z=((n/1000000000/1000000000:Nat):Int)):
 aai [AV.c (.sl 1 [[Cell.v (.int .u32 x)],[Cell.v (.int .u32 y)],[Cell.v (.int .u32 z)]])]=AV.c (lmc (pad 3 n)):=by
 subst hx hy hz;refine cE ?_;simp only[pad];rw[show n/1000000000/1000000000%1000000000=n/1000000000/1000000000 by omega];rfl
theorem I7{n:Nat}(h:n<18446744073709551616):(lim n).length<=3:=iP ω
theorem Bo{n m:Nat}{o:List Nat}(h:m<=n/\lim n=o++lim m)(h0:0<m):m/1000000000<=n/\lim n=(o++[m%1000000000])++lim (m/1000000000):=by
 refine⟨aU (Ky _ _) h.1, ?_⟩;rw[h.2,fZ (by omega:m≠0)];simp
theorem Fp{n m:Nat}{o:List Nat}(h:m<=n/\lim n=o++lim m)(h0:m=0):aai [AV.c (lmc o)]=AV.c (lmc (lim n)):=lE (by rw[h.2,h0,bZ,dB])
theorem FC{n m:Nat}{o:List Nat}(hn:n<18446744073709551616)(h:m<=n/\lim n=o++lim m)(h0:0<m):o.length+1<=3:=by
 have h1:=congrArg List.length h.2;have h2:=I7 hn;rw[fZ (by omega:m≠0)]at h1;simp at h1;omega
theorem RJ{a:Int}(h:(lim a.natAbs).length=0):aai [AV.c (Cell.v (.int .u64 0)),AV.c (Cell.v (.bool true))]=AV.tup [.int .u64 ((if sz a<=2 then a.natAbs else 0:Nat):Int),.bool (decide (sz a<=2))]:=by
 have h1:sz a<=2:=by unfold sz;omega
 rw[if_pos h1,decide_eq_true h1,aY.1 h];rfl
theorem QL{a:Int}{x:Int}(h:(lim a.natAbs).length=1)(hx:x=(((lim a.natAbs).getD 0 0:Nat):Int)):aai [AV.c (Cell.v (.int .u64 x)),AV.c (Cell.v (.bool true))]=AV.tup [.int .u64 ((if sz a<=2 then a.natAbs else 0:Nat):Int),.bool (decide (sz a<=2))]:=by
 have h1:sz a<=2:=by unfold sz;omega
 rw[if_pos h1,decide_eq_true h1,hx,KJ h];rfl
theorem PX{a:Int}{x:Int}(h:(lim a.natAbs).length=2)(hx:x=(((lim a.natAbs).getD 1 0*1000000000+(lim a.natAbs).getD 0 0:Nat):Int)):aai [AV.c (Cell.v (.int .u64 x)),AV.c (Cell.v (.bool true))]=AV.tup [.int .u64 ((if sz a<=2 then a.natAbs else 0:Nat):Int),.bool (decide (sz a<=2))]:=by
 have h1:sz a<=2:=by unfold sz;omega
 rw[if_pos h1,decide_eq_true h1,hx,LH h];rfl
theorem Qe{a:Int}(h:2<(lim a.natAbs).length):aai [AV.c (Cell.v (.int .u64 0)),AV.c (Cell.v (.bool false))]=AV.tup [.int .u64 ((if sz a<=2 then a.natAbs else 0:Nat):Int),.bool (decide (sz a<=2))]:=by
 have h1:¬sz a<=2:=by unfold sz;omega
 rw[if_neg h1,decide_eq_false h1];rfl
theorem Jb:Int.toNat 0=0:=rfl
theorem Gh:Int.toNat 1=1:=rfl
theorem GU(r g:Nat):((r:Int)*1000000000+(g:Int))=((r*1000000000+g:Nat):Int):=ω
theorem IK(t b:Nat):(t:Int)/(b:Int)=((t/b:Nat):Int):=rfl
theorem IL(t b:Nat):(t:Int)%(b:Int)=((t%b:Nat):Int):=rfl
theorem Ko{a:List Nat}{b:Nat}(ha:Lb a)(h0:0<b)(h1:b<1000000000):Lb (pad a.length (val a/b))/\Lb [val a%b]/\val a=b*val (pad a.length (val a/b))+val [val a%b]/\val [val a%b]<b/\(pad a.length (val a/b)).length=a.length/\[val a%b].length=1:=by
 have hm:=oO (val a) h0;have hv:val [val a%b]=val a%b:=by simp[val]
 refine⟨mF _ _,Lb.cons ω Lb.nil, ?_,by rw[hv];exact hm,DJ _ _,rfl⟩;rw[gU _ _ (Nat.lt_of_le_of_lt (Ky _ _) (bV a ha)),hv,Nat.div_add_mod]
def Hf(b:List Nat):Nat:=1000000000/((ah b).getD ((ah b).length-1) 0+1)
def KE(a b:List Nat):Nat:=if(ah b).length=1 then(ah a).length else if val a<val b then 0 else(ah a).length+2-(ah b).length
def Hr(a b:List Nat):Nat:=if(ah b).length=1 then 1 else if val a<val b then(ah a).length else(lim (val a%val b*Hf b)).length
theorem QO{a b U:List Nat}{n q rs:Nat}(hb:Lb U)(hv:val (U.take n)=val U)(h1:val a*Hf b=val b*Hf b*q+val U)(h2:val a=val b*q+rs)(h3:rs<val b):(ah (U.take n)).length=(lim (val a%val b*Hf b)).length:=by
 have e1:val a%val b=rs:=by rw[h2,Nat.mul_add_mod,EH h3]
 have e2:val U=rs*Hf b:=by
  rw[h2,Nat.add_mul]at h1;have:val b*q*Hf b=val b*Hf b*q:=ν
  omega
 rw[e1,<-e2,<-hv,lq _ (hb.take n)]
theorem LM{b:List Nat}(hb:Lb b):0<Hf b:=by
 have:=(jv hb).getD ((ah b).length-1);unfold Hf;exact Nat.div_pos ω ω
theorem Rw{a b:List Nat}(ha:Lb a)(hb:Lb b)(h0:0<val b):val (pad (KE a b) (val a/val b))=val a/val b:=by
 refine gU _ _ ?_;have hva:=bV _ (jv ha);rw[bJ]at hva;unfold KE;split
 .exact Nat.lt_of_le_of_lt (Ky _ _) hva
 .split
  .rw[Nat.div_eq_of_lt ξ];decide
  .rename_i h1 h2;have hne:ah b≠[]:=λe=>by have:=bJ b;rw[e]at this;simp[val]at this;omega
   have hp:=wM (bM hb) hne;rw[bJ]at hp;have hl:0<(ah b).length:=List.length_pos_iff.2 hne
   have hle:(ah b).length<=(ah a).length:=by
    rcases sW (ah a).length (ah b).length with h|h
    .have:=dH (bM ha) (bM hb) h;rw[bJ,bJ]at this;omega
    .exact h
   rw[Nat.div_lt_iff_lt_mul h0];refine xE hva (aU ?_ (wH _ hp));rw[<-Nat.pow_add];exact xM ψ ω
theorem Sz{a b:List Nat}(ha:Lb a)(hb:Lb b)(h0:0<val b):val (pad (Hr a b) (val a%val b))=val a%val b:=by
 refine gU _ _ ?_;have hm:=oO (val a) h0;have hvb:=bV _ (jv hb);have hva:=bV _ (jv ha);rw[bJ]at hva hvb;unfold Hr;split
 .rename_i h;rw[h]at hvb;omega
 .split
  .exact Nat.lt_of_le_of_lt (Nat.mod_le _ _) hva
  .have:=bV _ (aV (val a%val b*Hf b));rw[au]at this;exact Nat.lt_of_le_of_lt (Nat.le_mul_of_pos_right _ (LM hb)) this
open Go.RowKit
def oI(s:ByteArray):List Nat:=s.data.toList.map λb=>b.toNat
theorem nX(s:ByteArray):(oI s).length=s.size:=by simp[oI]
theorem NJ(s:ByteArray)(j:Nat):(s.data.toList.getD j 0).toNat=(oI s).getD j 0:=by
 unfold oI;rw[jH,jH,rE];cases s.data.toList[j]?<;>rfl
theorem MV{a b:ByteArray}(h:oI a=oI b):a=b:=by
 have:a.data.toList=b.data.toList:=by
  unfold oI at h;exact(List.map_inj_right (λx y h=>UInt8.toNat_inj.1 h)).1 h
 cases a;cases b;simpa using this
theorem Dh(a b:ByteArray):(a.toList == b.toList)=decide (oI a=oI b):=by
 rw[ByteArray.toList_eq,ByteArray.toList_eq]
 by_cases h:oI a=oI b
 .rw[decide_eq_true h,MV h];simp
 .rw[decide_eq_false h];rw[beq_eq_false_iff_ne];exactλe=>h (by unfold oI;rw[e])
theorem DZ{s:ByteArray}{i:Int}{k:Int->Prop}(hp:Pr (0<=i/\i<s.size))(hk:k (((oI s).getD i.toNat 0:Nat):Int)):StrAt s i k:=by
 obtain⟨⟨h1,h2⟩⟩:=hp;exact⟨i.toNat,ω,ω,by rw[NJ];exact hk⟩
@[reducible] def AV.str(s:ByteArray):AV:=.c (.v (.string s))
section
variable {s b:ByteArray} {k m:Nat}
end
end Go.Sw
namespace Go.Sw
open Go
theorem RH{a b:ByteArray}(h:a=b):aai [AV.c (Cell.v (.string a))]=AV.str b:=by subst h;rfl
open Go.Lib
def X3(n:Nat):List Nat:=(decDigits n).map λb=>b.toNat
theorem LD(n:Nat):(X3 n).length=nDigits n:=by unfold X3;rw[aN,decDigits_length]
theorem PV(l:List UInt8):oI ⟨l.toArray⟩=l.map λb=>b.toNat:=rfl
theorem Me(n:Int):oI (lJ n)=(if n<0 then[45]else[])++X3 n.natAbs:=by
 unfold lJ;rw[PV,dI];congr 1;split<;>rfl
theorem uh(n:Int):(lJ n).size=(if n<0 then 1 else 0)+nDigits n.natAbs:=by
 rw[<-nX,Me,dY,LD];congr 1;split<;>rfl
theorem BP:∀(i m:Nat),(lim m).getD i 0=m/1000000000^i%1000000000
 |0,m=>by
  by_cases h:m=0
  .subst h;rw[bZ];rfl
  .rw[fZ h];simp
 |i+1,m=>by
  by_cases h:m=0
  .subst h;simp[bZ]
  .rw[fZ h,List.getD_cons_succ,BP i,Nat.div_div_eq_div_mul,<-Nat.pow_succ']
theorem IC:∀(i m:Nat),i<(lim m).length->0<m/1000000000^i
 |0,m,h=>by
  have:m≠0:=λe=>by subst e;rw[bZ]at h;exact absurd h ψ
  simp;omega
 |i+1,m,h=>by
  have:m≠0:=λe=>by subst e;rw[bZ]at h;exact absurd h η
  rw[fZ this,dK]at h;have:=IC i (m/1000000000) ω
  rwa [Nat.div_div_eq_div_mul,<-Nat.pow_succ']at this
theorem wY(m:Nat):m<1000000000^(lim m).length:=by
 have:=bV (lim m) (aV m)
 rwa [au]at this
theorem Qr{i m:Nat}(h:i<(lim m).length):(lim m)[i]?=some (m/1000000000^i%1000000000):=by
 have:=BP i m;rw[jH,eY h]at this;rw[eY h];exact congrArg some this
theorem yL{m:Nat}(h:0<(lim m).length):m/1000000000^((lim m).length-1)%1000000000=m/1000000000^((lim m).length-1):=by
 apply EH;apply Nat.div_lt_of_lt_mul;have:=wY m
 rwa [<-uK,show((lim m).length-1).succ=(lim m).length by omega]
theorem yI{m i:Nat}(h:i+1<(lim m).length):
 decDigits (m/1000000000^i)=decDigits (m/1000000000^(i+1))++List.replicate (9-nDigits (m/1000000000^i%1000000000)) 48++decDigits (m/1000000000^i%1000000000):=by
 have h1:=IC (i+1) m h;have hx:m/1000000000^i%1000000000<10^9:=oO _ ψ;have e:m/1000000000^(i+1)=m/1000000000^i/1000000000:=by rw[Nat.div_div_eq_div_mul,uK]
 rw[jf,<-vG 9 _ ψ hx,<-Ec 9 _ _ h1 hx,e];congr 1;have:=Nat.div_add_mod (m/1000000000^i) 1000000000;omega
theorem xP{m i:Nat}(h:0<(lim m).length):(decDigits (m/1000000000^i)).length<=9*(lim m).length:=by
 rw[decDigits_length];apply mV ω;refine Nat.lt_of_le_of_lt (Ky _ _) ?_;rw[Nat.pow_mul];exact wY m
theorem qH{x:Nat}(h:x<1000000000):1<=nDigits x/\nDigits x<=9:=⟨nDigits_pos x,mV ψ h⟩
def bv(l:List UInt8):List Value:=l.map λb => .int .u8 (b.toNat:Int)
theorem G7(l:List UInt8):(bv l).length=l.length:=by unfold bv;simp
theorem pG(a b:List UInt8):bv (a++b)=bv a++bv b:=by unfold bv;rw[dI]
theorem Jp(l:List UInt8):strCells ⟨l.toArray⟩=bv l:=rfl
theorem lD(n:Nat):(kN n).size=nDigits n:=by
 show(decDigits n).toArray.size=_;rw[Iy,decDigits_length]
open Go.RowKit
theorem Qu{n:Int}{k:Nat}(h:sz n<=k)(hk:0<k):nDigits n.natAbs<=9*k:=by
 apply mV ω;refine xE (wY n.natAbs) ?_;rw[Nat.pow_mul];exact xM ψ h
theorem Nq{n:Int}{k:Nat}(h:sz n<=k)(hk:0<k):(lJ n).size<=9*k+1:=by
 have:=Qu h hk;rw[uh];split<;>omega
end Go.Sw
