/-
  Rules of the abstract run, plain laws, and what functions answer, for the law RepairClean.
  Conditions: none.
-/
import Derived.Test.YtmniihkenijjpaaGreatDoorV6
import Derived.Test.YtmniihkenijjpaaGreatDoorChecked
set_option linter.all false
namespace Go.Sw
open Go
def pad:Nat->Nat->List Nat
 |0,_=>[]
 |n+1,v=>v%1000000000::pad n (v/1000000000)
theorem Ic:∀(n v:Nat),(pad n v).length=n
 |0,_=>rfl
 |n+1,v=>by simp[pad,Ic]
theorem jr:∀(n v:Nat),Lb (pad n v)
 |0,_=>Lb.nil
 |n+1,v=>Lb.cons (mQ _ ψ) (jr n _)
theorem jc:∀(n v:Nat),v<1000000000^n->val (pad n v)=v
 |0,v,h=>by simp at h;subst h;rfl
 |n+1,v,h=>by
  have:v/1000000000<1000000000^n:=Nat.div_lt_of_lt_mul (by rw[rP,xY]at h;exact h);simp only[pad,val,jc n _ this];omega
theorem wB:∀(l:List Nat),Lb l->l=pad l.length (val l)
 |[],_=>rfl
 |x::r,h=>by
  have h1:=h.head;have h2:=wB r h.tail;simp only[aZ,pad,val];rw[show(x+1000000000*val r)%1000000000=x by omega,show(x+1000000000*val r)/1000000000=val r by omega,<-h2]
theorem Gg{l:List Nat}{n v:Nat}(h:Lb l)(hl:l.length=n)(hv:val l=v):lmc l=lmc (pad n v):=by
 subst hl hv;rw[<-wB l h]
theorem cE{c c':Cell}(h:c=c'):packA [AV.c c]=AV.c c':=by rw[h];rfl
theorem lE{l l':List Nat}(h:l=l'):packA [AV.c (lmc l)]=AV.c (lmc l'):=by rw[h];rfl
theorem YE{l:List Nat}{k:Nat}{i:Int}(hk:k<=l.length)(h0:¬k=0)(hi:i.toNat=k-1):some (AV.c (.sl 1 ((((l.take k).map λx=>[Cell.v (u32 x)]).take i.toNat).drop (Int.toNat 0))))=some (AV.c (lmc (l.take (k-1)))):=by
 rw[hi];show some (AV.c (.sl 1 (List.drop 0 _)))=_;rw[JY,<-List.map_take,List.take_take,Nat.min_eq_left ω]
theorem qA{x:Nat}:((x:Int)-1).toNat=x-1:=ω
theorem JK{x:Nat}:((x:Int)+1).toNat=x+1:=ω
theorem uM{x n:Nat}(h:x<=n):min x n=x:=Nat.min_eq_left h
theorem qI{l:List Nat}{x:Nat}(hx:x<=l.length/\∀j,x<=j->l.getD j 0=0)(h:x=0\/(l.take x).getD (x-1) 0≠0):packA [AV.c (lmc (l.take x))]=AV.c (lmc (ah l)) :=
 lE (jS l x hx.1 hx.2 (I8 hx.1 h))
theorem zE{neg b:Bool}{l:List Nat}(hb:Lb l)(h:b=(neg&&decide (0<val l))):packA [AV.agg [Cell.v (.bool b),lmc (ah l)]]=Z (bZ neg (val l)):=by
 subst h;show AV.agg [_,_]=AV.agg [zs _,zl _];unfold zs zl;rw[rQ,jf,gY l hb]
theorem Fa{l:List Nat}(hb:Lb l):0<(ah l).length↔0<val l:=by
 rw[<-gY l hb];have:=bP (n:=val l);omega
theorem zE1{b:Bool}{l:List Nat}(hb:Lb l)(h:b=decide ((((ah l).length:Nat):Int)>0)):packA [AV.agg [Cell.v (.bool b),lmc (ah l)]]=Z (bZ true (val l)) :=
 zE hb (by have:=Fa hb;subst h;rw[BJ,decide_eq_decide];omega)
theorem zE0{l:List Nat}(hb:Lb l):packA [AV.agg [Cell.v (.bool false),lmc (ah l)]]=Z (bZ false (val l)):=zE hb rfl
theorem YS{l:List Nat}{x:Nat}{i j:Int}(hx:x<=l.length/\∀j,x<=j->l.getD j 0=0)(h:x=0\/l.getD (x-1) 0≠0)(hi:i.toNat=0)(hj:j.toNat=x):Cell.sl 1 (List.drop i.toNat (List.take j.toNat (l.map λx=>[Cell.v (u32 x)])))=lmc (ah l):=by
 rw[hi,hj,JY,<-List.map_take,jS l x hx.1 hx.2 h]
theorem sg1{b:Bool}{l:List Nat}{x:Nat}{i j:Int}(hb:Lb l)(hx:x<=l.length/\∀j,x<=j->l.getD j 0=0)(h:x=0\/l.getD (x-1) 0≠0)(hi:i.toNat=0)(hj:j.toNat=x)(he:b=decide (((x:Nat):Int)>0)):
 packA [AV.agg [Cell.v (.bool b),Cell.sl 1 (List.drop i.toNat (List.take j.toNat (l.map λx=>[Cell.v (u32 x)])))]]=Z (bZ true (val l)):=by
 rw[YS hx h hi hj];have hl:=congrArg List.length (jS l x hx.1 hx.2 h);rw[lG,Nat.min_eq_left hx.1]at hl;exact zE1 hb (by rw[he,hl])
theorem sg0{l:List Nat}{x:Nat}{i j:Int}(hb:Lb l)(hx:x<=l.length/\∀j,x<=j->l.getD j 0=0)(h:x=0\/l.getD (x-1) 0≠0)(hi:i.toNat=0)(hj:j.toNat=x):
 packA [AV.agg [Cell.v (.bool false),Cell.sl 1 (List.drop i.toNat (List.take j.toNat (l.map λx=>[Cell.v (u32 x)])))]]=Z (bZ false (val l)):=by
 rw[YS hx h hi hj];exact zE0 hb
theorem YK{n:Nat}(h0:0<n)(h:n<=9223372036854775807):some (AV.int .i64 (IntKind.i64.wrap ((n:Int)-1)))=some (AV.int .i64 ((n-1:Nat):Int)):=by
 rw[aS ω ω];congr 2;omega
theorem VU{n:Nat}(h:n<=9223372036854775807):some (AV.int .i64 (IntKind.i64.wrap ((n:Int)-1)))=some (AV.int .i64 ((n:Int)-1)):=by
 rw[aS ω ω]
theorem qj{n:Nat}(h0:0<n)(h:n<=9223372036854775807):some (AV.int .i64 (IntKind.i64.wrap ((n:Int)-1-1)))=some (AV.int .i64 (((n-1:Nat):Int)-1)):=by
 rw[aS ω ω];congr 2;omega
section
variable {a b:List Nat} {x:Nat}
theorem GZ(ha:CanL a)(hb:CanL b)(h:a.length<b.length):packA [AV.c (Cell.v (.int .i64 (-1)))]=AV.int .i64 (dN (val a) (val b)):=by rw[Gm (eG ha hb h)];rfl
theorem IB(ha:CanL a)(hb:CanL b)(h:b.length<a.length):packA [AV.c (Cell.v (.int .i64 1))]=AV.int .i64 (dN (val a) (val b)):=by rw[F8 (eG hb ha h)];rfl
theorem Uj(ha:CanL a)(hb:CanL b)(hx:x<=a.length/\∀j,x<=j->a.getD j 0=b.getD j 0)(hl:a.length=b.length)(h0:0<x)(h:a.getD (x-1) 0<b.getD (x-1) 0):packA [AV.c (Cell.v (.int .i64 (-1)))]=AV.int .i64 (dN (val a) (val b)):=by
 rw[Gm (jO (x-1) ha.1 hb.1 hl ω (λj hj=>hx.2 j ω) h)];rfl
theorem Us(ha:CanL a)(hb:CanL b)(hx:x<=a.length/\∀j,x<=j->a.getD j 0=b.getD j 0)(hl:a.length=b.length)(h0:0<x)(h:b.getD (x-1) 0<a.getD (x-1) 0):packA [AV.c (Cell.v (.int .i64 1))]=AV.int .i64 (dN (val a) (val b)):=by
 rw[F8 (jO (x-1) hb.1 ha.1 hl.symm ω (λj hj=>(hx.2 j ω).symm) h)];rfl
theorem Um(hx:x<=a.length/\∀j,x<=j->a.getD j 0=b.getD j 0)(hl:a.length=b.length)(h0:x=0):packA [AV.c (Cell.v (.int .i64 0))]=AV.int .i64 (dN (val a) (val b)):=by
 rw[QN (congrArg val (D5 hl λj=>hx.2 j ω))];rfl
theorem fz2(h:a.length=b.length):a.length<=a.length/\∀j,a.length<=j->a.getD j 0=b.getD j 0:=⟨iy _,λj hj=>by rw[getD_none hj,getD_none ω]⟩
end
theorem ig{v m:Int}(h:0<=v):v.tmod m=v%m:=Int.tmod_eq_emod_of_nonneg h
theorem iq{v m:Int}(h:0<=v):v.tdiv m=v/m:=Int.tdiv_eq_ediv_of_nonneg h
theorem qo{o:List Nat}{k d i T:Nat}{v:Int}(hi:i=k)(hv:v=(d:Int)):some (Bk.grow T 1 ((o.map λx=>[Cell.v (u32 x)]).set i [Cell.v (.int .u32 v)]))=some (Bk.grow T 1 ((o.set k d).map λx=>[Cell.v (u32 x)])):=by
 subst hi hv;rw[List.map_set];rfl
theorem kN(n T:Nat):some (Bk.grow T 1 (List.replicate n [Cell.v (.int .u32 0)]))=some (Bk.grow T 1 ((List.replicate n 0).map λx=>[Cell.v (u32 x)])):=by
 rw[List.map_replicate];rfl
theorem iS{k:IntKind}{a b:Int}(h:a=b):some (AV.int k a)=some (AV.int k b):=by rw[h]
theorem abr(l:List Nat)(i d:Nat):(l.map λx=>[Cell.v (u32 x)]).set i [Cell.v (.int .u32 ((d:Nat):Int))]=(l.set i d).map λx=>[Cell.v (u32 x)]:=by rw[List.map_set];rfl
theorem Nr{o x y:List Nat}{k cr v:Nat}(ho:o.length=x.length+1)(hk:k=x.length)(hy:y.length<=x.length)(hb:Lb o)(hc:cr<=1)(hv:val (o.take k)+1000000000^k*cr=val (x.take k)+val (y.take k))(e:v=val x+val y):
 packA [AV.c (lmc (ah (o.set x.length cr)))]=AV.c (lmc (lim v)):=lE (by
 have h1:=KO ho hk hy hv
 rw[e,<-h1,gY _ (cO hb ω)])
theorem BX{o:List Nat}{d T:Nat}{v:Int}(hv:v=(d:Int)):some (Bk.grow T 1 ((o.map λx=>[Cell.v (u32 x)])++[[Cell.v (.int .u32 v)]]))=some (Bk.grow T 1 ((o++[d]).map λx=>[Cell.v (u32 x)])):=by
 subst hv;rw[bG];rfl
theorem TA{b n m:Nat}(h:n=m):some (AV.gs b n)=some (AV.gs b m):=by rw[h]
theorem YX{o:List Nat}{d:Nat}:Cell.sl 1 ((o.map λx=>[Cell.v (u32 x)])++[[Cell.v (.int .u32 ((d:Nat):Int))]])=lmc (o++[d]):=by
 unfold lmc;rw[bG];rfl
theorem U1{l:List Nat}{n v:Nat}(h:Lb l)(hl:l.length=n)(hv:val l=v):packA [AV.c (lmc l)]=AV.c (lmc (pad n v)):=cE (Gg h hl hv)
theorem ZV{l:List Nat}{d n v:Nat}(h:Lb l)(hd:d<1000000000)(hl:l.length+1=n)(hv:val l+1000000000^l.length*d=v):packA [AV.c (.sl 1 ((l.map λx=>[Cell.v (u32 x)])++[[Cell.v (.int .u32 ((d:Nat):Int))]]))]=AV.c (lmc (pad n v)):=by
 rw[YX];exact U1 (lT h hd) (by simpa using hl) (by rw[KH rfl];exact hv)
theorem yY{o x y:List Nat}{k br:Nat}(hbo:Lb o)(hx:Lb x)(ho:o.length=x.length)(hk:k=x.length)(hy:y.length<=x.length)(hle:val y<=val x)(hv:val (o.take k)+val (y.take k)=val (x.take k)+1000000000^k*br):val o=val x-val y:=by
 subst hk;have hlt:=dL o hbo;have hx0:=dL x hx;rw[aT (l:=o) ω,aT (l:=y) ω,aT (l:=x) ω]at hv;rw[ho]at hlt;exact JG hx0 hv hle hlt
theorem JB{o x y:List Nat}{k br:Nat}(hbo:Lb o)(hx:Lb x)(ho:o.length=x.length)(hk:k=x.length)(hy:y.length<=x.length)(hle:val y<=val x)(hv:val (o.take k)+val (y.take k)=val (x.take k)+1000000000^k*br):packA [AV.c (lmc (ah o))]=AV.c (lmc (lim (val x-val y))) :=
 lE (by rw[<-yY hbo hx ho hk hy hle hv,gY _ hbo])
theorem y9{o a b:List Nat}{i:Nat}(ho:o.length=a.length+b.length)(hi:i=a.length)(hv:val (o.take (i+b.length))=val (a.take i)*val b):val o=val a*val b:=by
 subst hi;rw[aT (l:=o) ω,aT (l:=a) ω]at hv;exact hv
theorem Gy(la lb:Nat)(a b:List Nat):val ((List.replicate (la+lb) 0).take (0+lb))=val (a.take 0)*val b:=by
 rw[List.take_replicate,oI];simp[val]
theorem rZ{i k:Nat}:((i:Int)+(k:Int)).toNat=i+k:=ω
theorem PY{a o:List Nat}{b r:Nat}(h0:0<b)(hr:r<b)(ho:o.length=a.length)(hb:Lb o)(hv:val (a.drop 0)=b*val (o.drop 0)+r):
 packA [AV.c (lmc o),AV.c (.sl 1 [[Cell.v (.int .u32 ((r:Nat):Int))]])]=AV.tup [AV.c (lmc (pad a.length (val a/b))),AV.c (lmc [val a%b])]:=by
 rw[JY,JY]at hv;have h1:val a/b=val o:=by rw[hv,xY,Nat.add_comm,Nat.add_mul_div_right _ _ h0,Nat.div_eq_of_lt hr,oV]
 have h2:val a%b=r:=by rw[hv,Nat.mul_add_mod,G8 hr]
 rw[h1,h2,<-Gg hb ho rfl];rfl
theorem Jd{n:Nat}(h:n<1000000000000000000000000000){x y z:Int}(hx:x=((n%1000000000:Nat):Int))(hy:y=((n/1000000000%1000000000:Nat):Int))(hz:z=((n/1000000000/1000000000:Nat):Int)):
 packA [AV.c (.sl 1 [[Cell.v (.int .u32 x)],[Cell.v (.int .u32 y)],[Cell.v (.int .u32 z)]])]=AV.c (lmc (pad 3 n)):=by
 subst hx hy hz;refine cE ?_;simp only[pad];rw[show n/1000000000/1000000000%1000000000=n/1000000000/1000000000 by omega];rfl
theorem NQ{n:Nat}(h:n<18446744073709551616):(lim n).length<=3:=gy ω
theorem Fz{n m:Nat}{o:List Nat}(h:m<=n/\lim n=o++lim m)(h0:0<m):m/1000000000<=n/\lim n=(o++[m%1000000000])++lim (m/1000000000):=by
 refine⟨aO (EZ _ _) h.1, ?_⟩;rw[h.2,iG (by omega:m≠0)];simp
theorem IV{n m:Nat}{o:List Nat}(h:m<=n/\lim n=o++lim m)(h0:m=0):packA [AV.c (lmc o)]=AV.c (lmc (lim n)):=lE (by rw[h.2,h0,dI,bI])
theorem Je{n m:Nat}{o:List Nat}(hn:n<18446744073709551616)(h:m<=n/\lim n=o++lim m)(h0:0<m):o.length+1<=3:=by
 have h1:=congrArg List.length h.2;have h2:=NQ hn;rw[iG (by omega:m≠0)]at h1;simp at h1;omega
theorem Xk{a:Int}(h:(lim a.natAbs).length=0):packA [AV.c (Cell.v (.int .u64 0)),AV.c (Cell.v (.bool true))]=AV.tup [.int .u64 ((if sz a<=2 then a.natAbs else 0:Nat):Int),.bool (decide (sz a<=2))]:=by
 have h1:sz a<=2:=by unfold sz;omega
 rw[if_pos h1,decide_eq_true h1,bP.1 h];rfl
theorem Ve{a:Int}{x:Int}(h:(lim a.natAbs).length=1)(hx:x=(((lim a.natAbs).getD 0 0:Nat):Int)):packA [AV.c (Cell.v (.int .u64 x)),AV.c (Cell.v (.bool true))]=AV.tup [.int .u64 ((if sz a<=2 then a.natAbs else 0:Nat):Int),.bool (decide (sz a<=2))]:=by
 have h1:sz a<=2:=by unfold sz;omega
 rw[if_pos h1,decide_eq_true h1,hx,RH h];rfl
theorem Va{a:Int}{x:Int}(h:(lim a.natAbs).length=2)(hx:x=(((lim a.natAbs).getD 1 0*1000000000+(lim a.natAbs).getD 0 0:Nat):Int)):packA [AV.c (Cell.v (.int .u64 x)),AV.c (Cell.v (.bool true))]=AV.tup [.int .u64 ((if sz a<=2 then a.natAbs else 0:Nat):Int),.bool (decide (sz a<=2))]:=by
 have h1:sz a<=2:=by unfold sz;omega
 rw[if_pos h1,decide_eq_true h1,hx,SE h];rfl
theorem Xq{a:Int}(h:2<(lim a.natAbs).length):packA [AV.c (Cell.v (.int .u64 0)),AV.c (Cell.v (.bool false))]=AV.tup [.int .u64 ((if sz a<=2 then a.natAbs else 0:Nat):Int),.bool (decide (sz a<=2))]:=by
 have h1:¬sz a<=2:=by unfold sz;omega
 rw[if_neg h1,decide_eq_false h1];rfl
theorem Hf:Int.toNat 0=0:=rfl
theorem G5:Int.toNat 1=1:=rfl
theorem Es(r g:Nat):((r:Int)*1000000000+(g:Int))=((r*1000000000+g:Nat):Int):=ω
theorem EC(t b:Nat):(t:Int)/(b:Int)=((t/b:Nat):Int):=rfl
theorem FQ(t b:Nat):(t:Int)%(b:Int)=((t%b:Nat):Int):=rfl
theorem KP{a:List Nat}{b:Nat}(ha:Lb a)(h0:0<b)(h1:b<1000000000):Lb (pad a.length (val a/b))/\Lb [val a%b]/\val a=b*val (pad a.length (val a/b))+val [val a%b]/\val [val a%b]<b/\(pad a.length (val a/b)).length=a.length/\[val a%b].length=1:=by
 have hm:=mQ (val a) h0;have hv:val [val a%b]=val a%b:=by simp[val]
 refine⟨jr _ _,Lb.cons ω Lb.nil, ?_,by rw[hv];exact hm,Ic _ _,rfl⟩;rw[jc _ _ (Nat.lt_of_le_of_lt (EZ _ _) (dL a ha)),hv,Nat.div_add_mod]
def LX(b:List Nat):Nat:=1000000000/((ah b).getD ((ah b).length-1) 0+1)
def Py(a b:List Nat):Nat:=if(ah b).length=1 then(ah a).length else if val a<val b then 0 else(ah a).length+2-(ah b).length
def Nq(a b:List Nat):Nat:=if(ah b).length=1 then 1 else if val a<val b then(ah a).length else(lim (val a%val b*LX b)).length
theorem XC{a b U:List Nat}{n q rs:Nat}(hb:Lb U)(hv:val (U.take n)=val U)(h1:val a*LX b=val b*LX b*q+val U)(h2:val a=val b*q+rs)(h3:rs<val b):(ah (U.take n)).length=(lim (val a%val b*LX b)).length:=by
 have e1:val a%val b=rs:=by rw[h2,Nat.mul_add_mod,G8 h3]
 have e2:val U=rs*LX b:=by
  rw[h2,Nat.add_mul]at h1;have:val b*q*LX b=val b*LX b*q:=ν
  omega
 rw[e1,<-e2,<-hv,gY _ (hb.take n)]
theorem RQ{b:List Nat}(hb:Lb b):0<LX b:=by
 have:=(jM hb).getD ((ah b).length-1);unfold LX;exact Nat.div_pos ω ω
theorem WY{a b:List Nat}(ha:Lb a)(hb:Lb b)(h0:0<val b):val (pad (Py a b) (val a/val b))=val a/val b:=by
 refine jc _ _ ?_;have hva:=dL _ (jM ha);rw[cZ]at hva;unfold Py;split
 .exact Nat.lt_of_le_of_lt (EZ _ _) hva
 .split
  .rw[Nat.div_eq_of_lt ξ];decide
  .rename_i h1 h2;have hne:ah b≠[]:=λe=>by have:=cZ b;rw[e]at this;simp[val]at this;omega
   have hp:=AP (dD hb) hne;rw[cZ]at hp;have hl:0<(ah b).length:=List.length_pos_iff.2 hne
   have hle:(ah b).length<=(ah a).length:=by
    rcases yD (ah a).length (ah b).length with h|h
    .have:=eG (dD ha) (dD hb) h;rw[cZ,cZ]at this;omega
    .exact h
   rw[Nat.div_lt_iff_lt_mul h0];refine Au hva (aO ?_ (Ae _ hp));rw[<-Nat.pow_add];exact BP ψ ω
theorem U2{a b:List Nat}(ha:Lb a)(hb:Lb b)(h0:0<val b):val (pad (Nq a b) (val a%val b))=val a%val b:=by
 refine jc _ _ ?_;have hm:=mQ (val a) h0;have hvb:=dL _ (jM hb);have hva:=dL _ (jM ha);rw[cZ]at hva hvb;unfold Nq;split
 .rename_i h;rw[h]at hvb;omega
 .split
  .exact Nat.lt_of_le_of_lt (Nat.mod_le _ _) hva
  .have:=dL _ (aI (val a%val b*LX b));rw[aB]at this;exact Nat.lt_of_le_of_lt (Nat.le_mul_of_pos_right _ (RQ hb)) this
end Go.Sw
namespace Go.Proofs.YtmniihkenijjpaaGreatDoor
open Go Go.RowKit Go.Sw
set_option maxRecDepth 100000
set_option maxHeartbeats 8000000
instance ab3(l:List Nat):DenI Tryz.prog 230 [.c (lmc l)] (True) (.c (lmc (ah l))):=⟨λhp=>by
 refine den_len ζ (λhl=>?_);simp only[lenA,lenC,cellsOf,aG,and_true,true_and]at hl
 all_goals refine au Tryz.func230 rfl ?_
 all_goals first
  |((conv=>whnf);refine Sw.Loop.inv (α:=Nat) (λx=>[(0,.c (lmc (l.take x)))]) (λx=>[]) (λx=>x<=l.length/\∀j,x<=j->l.getD j 0=0) (λx=>x) l.length ?_ ?_ ?_ (λx hx=>?_))
 all_goals(repeat'((try(conv=>whnf));first
  |(with_reducible first|apply zab|apply zac|refine zad (λ_=>?_) (λ_=>?_))|refine zam ?_ ?_|(with_reducible refine zak ?_ ?_)|apply zaq))
 all_goals(try apply zar)
 all_goals first|(show SubE _ _;repeat'(first|exact trivial|refine And.intro ?_ ?_))|(show SubB _ _;repeat'(first|exact trivial|refine And.intro ?_ ?_))|skip
 all_goals(try simp(disch:=omega) only[aG,lG,dn,qM,aS,bn,wu64,uM,qA,JK,ig,iq]at *)
 all_goals first
  |(rw[x9];rfl)|exact⟨iy _,λj hj=>getD_none hj⟩|exact qI hx (.inl ω)|exact qI hx (.inr ω)|((conv=>whnf);exact⟨x-1,⟨⟨YE hx.1 ω (by simp only[uq];omega),trivial⟩,⟨⟩,⟨ω,su hx.2 (take_zero ω ω)⟩,by show x-1<x;omega⟩⟩)|((repeat' apply And.intro)<;>first|omega|(simp;done)|(simp;omega))⟩
instance aaB(l:List Nat):DenI Tryz.prog 142 [.c (lmc l)] (True) (.c (lmc (ah l))):=⟨λhp=>by
 refine den_len ζ (λhl=>?_);simp only[lenA,lenC,cellsOf,aG,and_true,true_and]at hl
 all_goals refine au Tryz.func142 rfl ?_
 all_goals first
  |((conv=>whnf);refine Sw.Loop.inv (α:=Nat) (λx=>[(0,.c (lmc (l.take x)))]) (λx=>[]) (λx=>x<=l.length/\∀j,x<=j->l.getD j 0=0) (λx=>x) l.length ?_ ?_ ?_ (λx hx=>?_))
 all_goals(repeat'((try(conv=>whnf));first
  |(with_reducible first|apply zab|apply zac|refine zad (λ_=>?_) (λ_=>?_))|refine zam ?_ ?_|(with_reducible refine zak ?_ ?_)|apply zaq))
 all_goals(try apply zar)
 all_goals first|(show SubE _ _;repeat'(first|exact trivial|refine And.intro ?_ ?_))|(show SubB _ _;repeat'(first|exact trivial|refine And.intro ?_ ?_))|skip
 all_goals(try simp(disch:=omega) only[aG,lG,dn,qM,aS,bn,wu64,uM,qA,JK,ig,iq]at *)
 all_goals first
  |(rw[x9];rfl)|exact⟨iy _,λj hj=>getD_none hj⟩|exact qI hx (.inl ω)|exact qI hx (.inr ω)|((conv=>whnf);exact⟨x-1,⟨⟨YE hx.1 ω (by simp only[uq];omega),trivial⟩,⟨⟩,⟨ω,su hx.2 (take_zero ω ω)⟩,by show x-1<x;omega⟩⟩)|((repeat' apply And.intro)<;>first|omega|(simp;done)|(simp;omega))⟩
instance aad(neg:Bool)(l:List Nat):DenI Tryz.prog 160 [.bool neg,.c (lmc l)] (Lb l) (Z (bZ neg (val l))):=⟨λhp=>by
 refine den_len ζ (λhl=>?_);simp only[lenA,lenC,cellsOf,aG,and_true,true_and]at hl
 all_goals refine au Tryz.func160 rfl ?_
 all_goals first
  |((conv=>whnf);refine Sw.Loop.inv (α:=Nat) (λx=>[(0,.bool neg),(1,.c (lmc l)),(4,.ptr 4 0),(5,.int .i64 x)]) (λx=>[(4,.var [.v (.bool false),.sl 1 []])]) (λx=>x<=l.length/\∀j,x<=j->l.getD j 0=0) (λx=>x) l.length ?_ ?_ ?_ (λx hx=>?_))
 all_goals(repeat'((try(conv=>whnf));first
  |(with_reducible first|apply zab|apply zac|refine zad (λ_=>?_) (λ_=>?_))|refine zat (λ_=>?_) (λ_=>?_)|refine zam ?_ ?_|(with_reducible refine zak ?_ ?_)|apply zaq))
 all_goals(try apply zar)
 all_goals first|(show SubE _ _;repeat'(first|exact trivial|refine And.intro ?_ ?_))|(show SubB _ _;repeat'(first|exact trivial|refine And.intro ?_ ?_))|skip
 all_goals(try rfl)
 all_goals(try simp(disch:=omega) only[aG,lG,dn,qM,aS,bn,wu64,uM,qA,JK,ig,iq]at *)
 all_goals first
  |(subst neg;exact sg1 hp hx (.inl ω) rfl (by simp only[uq];omega) rfl)|(subst neg;exact sg0 hp hx (.inl ω) rfl (by simp only[uq];omega))|(subst neg;exact sg1 hp hx (.inr ω) rfl (by simp only[uq];omega) rfl)|(subst neg;exact sg0 hp hx (.inr ω) rfl (by simp only[uq];omega))|exact⟨iy _,λj hj=>getD_none hj⟩|rfl|((conv=>whnf);exact⟨x-1,⟨⟨rfl,rfl,rfl,YK ω ω,trivial⟩,⟨rfl,trivial⟩,⟨ω,su hx.2 ω⟩,by show x-1<x;omega⟩⟩)|((repeat' apply And.intro)<;>first|omega|(simp;done)|(simp;omega))⟩
instance XP(neg:Bool)(l:List Nat):DenI Tryz.prog 107 [.bool neg,.c (lmc l)] (Lb l) (Z (bZ neg (val l))):=⟨λhp=>by
 refine den_len ζ (λhl=>?_);simp only[lenA,lenC,cellsOf,aG,and_true,true_and]at hl
 all_goals refine au Tryz.func107 rfl ?_
 all_goals(repeat'((try(conv=>whnf));first
  |apply zaf|(with_reducible first|apply zab|apply zac)|refine zat (λ_=>?_) (λ_=>?_)|apply zaq))
 all_goals first
  |(subst neg;exact zE1 hp (by rw[aG]))|(subst neg;exact zE0 hp)⟩
instance XV(a b:List Nat):DenI Tryz.prog 198 [.c (lmc a),.c (lmc b)] (Lb a/\Lb b) (.int .i64 (dN (val a) (val b))):=⟨λhp=>by
 refine den_len ζ (λhl=>?_);simp only[lenA,lenC,cellsOf,aG,and_true,true_and]at hl;have ha:=dH a;have hb:=dH b
 all_goals refine au Tryz.func198 rfl ?_
 all_goals(repeat'((try(conv=>whnf));first
  |apply zaf|(with_reducible first|refine zad (λ_=>?_) (λ_=>?_)|refine zae (λ_=>?_) (λ_=>?_))|apply zaq))
 all_goals first
  |((conv=>whnf);refine Sw.Loop.inv (α:=Nat) (λx=>[(0,.c (lmc (ah a))),(1,.c (lmc (ah b))),(5,.int .i64 ((x:Int)-1))]) (λx=>[]) (λx=>x<=(ah a).length/\∀j,x<=j->(ah a).getD j 0=(ah b).getD j 0) (λx=>x) ((ah a).length) ?_ ?_ ?_ (λx hx=>?_))|skip
 all_goals(repeat'((try(conv=>whnf));first
  |(with_reducible refine zad (λ_=>?_) (λ_=>?_))|refine zas ζ ?_|(with_reducible refine zak ?_ ?_)|apply zaq))
 all_goals(try apply zar)
 all_goals first|(show SubE _ _;repeat'(first|exact trivial|refine And.intro ?_ ?_))|(show SubB _ _;repeat'(first|exact trivial|refine And.intro ?_ ?_))|skip
 all_goals(try rfl)
 all_goals(try simp(disch:=omega) only[aG,lG,dn,qM,aS,bn,wu64,uM,qA,JK,ig,iq]at *)
 all_goals(try simp only[<-cZ a,<-cZ b])
 all_goals first
  |exact GZ (dD hp.1) (dD hp.2) ω|exact IB (dD hp.1) (dD hp.2) ω|exact Uj (dD hp.1) (dD hp.2) hx ω ω ω|exact Us (dD hp.1) (dD hp.2) hx ω ω ω|exact Um hx ω ω|exact fz2 ω|((conv=>whnf);exact⟨x-1,⟨⟨rfl,rfl,qj ω ω,trivial⟩,⟨⟩,⟨ω,agree_step hx.2 ω⟩,by show x-1<x;omega⟩⟩)|rfl|((repeat' apply And.intro)<;>first|omega|(simp;done)|(simp;omega))⟩
instance Xv(a b:List Nat):DenI Tryz.prog 106 [.c (lmc a),.c (lmc b)] (CanL a/\CanL b) (.int .i64 (dN (val a) (val b))):=⟨λhp=>by
 refine den_len ζ (λhl=>?_);simp only[lenA,lenC,cellsOf,aG,and_true,true_and]at hl
 all_goals refine au Tryz.func106 rfl ?_
 all_goals(repeat'((try(conv=>whnf));first
  |apply zaf|refine zaa ?_ ?_|(with_reducible first|apply zab|apply zac|refine zad (λ_=>?_) (λ_=>?_)|refine zae (λ_=>?_) (λ_=>?_))|refine zat (λ_=>?_) (λ_=>?_)|refine zah ?_ ?_|refine zas ζ ?_|refine zal ?_ ?_|refine zam ?_ ?_|(with_reducible first|refine zak ?_ ?_|apply zaj|apply zai)|apply zaq))
 all_goals(try apply zar)
 all_goals first
  |((conv=>whnf);refine Sw.Loop.inv (α:=Nat) (λx=>[(0,.c (lmc (a))),(1,.c (lmc (b))),(5,.int .i64 ((x:Int)-1))]) (λx=>[]) (λx=>x<=(a).length/\∀j,x<=j->(a).getD j 0=(b).getD j 0) (λx=>x) ((a).length) ?_ ?_ ?_ (λx hx=>?_))|skip
 all_goals(repeat'((try(conv=>whnf));first
  |apply zaf|refine zaa ?_ ?_|(with_reducible first|apply zab|apply zac|refine zad (λ_=>?_) (λ_=>?_)|refine zae (λ_=>?_) (λ_=>?_))|refine zat (λ_=>?_) (λ_=>?_)|refine zah ?_ ?_|refine zas ζ ?_|refine zal ?_ ?_|refine zam ?_ ?_|(with_reducible first|refine zak ?_ ?_|apply zaj|apply zai)|apply zaq))
 all_goals(try apply zar)
 all_goals first|(show SubE _ _;repeat'(first|exact trivial|refine And.intro ?_ ?_))|(show SubB _ _;repeat'(first|exact trivial|refine And.intro ?_ ?_))|skip
 all_goals(try rfl)
 all_goals(try simp(disch:=omega) only[aG,lG,dn,qM,aS,bn,wu64,uM,qA,JK,ig,iq]at *)
 all_goals first
  |exact hp|exact GZ hp.1 hp.2 ω|exact IB hp.1 hp.2 ω|exact Uj hp.1 hp.2 hx ω ω ω|exact Us hp.1 hp.2 hx ω ω ω|exact Um hx ω ω|exact fz2 ω|exact VU ω|((conv=>whnf);exact⟨x-1,⟨⟨rfl,rfl,qj ω ω,trivial⟩,⟨⟩,⟨ω,agree_step hx.2 ω⟩,by show x-1<x;omega⟩⟩)|(rw[aS ω ω])|rfl|((repeat' apply And.intro)<;>first|omega|(simp;done)|(simp;omega))|skip⟩
instance aaU(a b:List Nat):DenI Tryz.prog 161 [.c (lmc a),.c (lmc b)] (a.length<=1000000000000/\b.length<=1000000000000/\Lb a/\Lb b) (.c (lmc (pad (a.length+b.length) (val a*val b)))):=⟨λhp=>by
 refine den_len ζ (λhl=>?_);simp only[lenA,lenC,cellsOf,aG,and_true,true_and]at hl
 all_goals refine au Tryz.func161 rfl ?_
 all_goals(repeat'((try(conv=>whnf));first
  |refine zal ?_ ?_))
 all_goals(try apply zar)
 all_goals first
  |((conv=>whnf);refine Sw.Loop.inv (α:=List Nat×Nat) (λx=>[(1,.c (lmc b)),(5,.gs 17 (a.length+b.length)),(18,.c (lmc a)),(19,.int .i64 a.length),(20,.int .i64 (x.2:Nat))]) (λx=>[(17,.grow 154 1 (x.1.map λx=>[.v (u32 x)]))]) (λx=>x.2<=a.length/\x.1.length=a.length+b.length/\Lb x.1/\val (x.1.take (x.2+b.length))=val (a.take x.2)*val b) (λx=>a.length-x.2) (List.replicate (a.length+b.length) 0,0) ?_ ?_ ?_ (λx hx=>?_))|skip
 all_goals(repeat'((try(conv=>whnf));first
  |(with_reducible refine zad (λ_=>?_) (λ_=>?_))|refine zah ?_ ?_|(with_reducible refine zak ?_ ?_)|apply zaq))
 all_goals(try apply zar)
 all_goals first
  |((conv=>whnf);refine Sw.Loop.inv (α:=List Nat×Nat×Nat) (λy=>[(1,.c (lmc b)),(5,.gs 17 (a.length+b.length)),(6,.int .i64 (x.2:Nat)),(7,.int .u32 (a.getD x.2 0:Nat)),(8,.int .u64 (y.2.1:Nat)),(18,.c (lmc a)),(19,.int .i64 a.length),(20,.int .i64 (x.2:Nat)),(25,.c (lmc b)),(26,.int .i64 b.length),(27,.int .i64 (y.2.2:Nat))]) (λy=>[(17,.grow 154 1 (y.1.map λx=>[.v (u32 x)]))]) (λy=>y.2.2<=b.length/\y.1.length=a.length+b.length/\Lb y.1/\y.2.1<1000000000/\val (y.1.take (x.2+b.length))+1000000000^(x.2+y.2.2)*y.2.1=val (a.take x.2)*val b+1000000000^x.2*(a.getD x.2 0*val (b.take y.2.2))) (λy=>b.length-y.2.2) (x.1,0,0) ?_ ?_ ?_ (λy hy=>?_))|skip
 all_goals(repeat'((try(conv=>whnf));first
  |(with_reducible refine zad (λ_=>?_) (λ_=>?_))|refine zah ?_ ?_|(with_reducible refine zak ?_ ?_)))
 all_goals(try apply zar)
 all_goals first|(show SubE _ _;repeat'(first|exact trivial|refine And.intro ?_ ?_))|(show SubB _ _;repeat'(first|exact trivial|refine And.intro ?_ ?_))|skip
 all_goals(try rfl)
 all_goals(try simp(disch:=omega) only[aG,qM,dn,aS,rZ]at *)
 all_goals first
  |omega|rfl|exact kN _ _|exact⟨ω,η,fD _,Gy _ _ _ _⟩|exact⟨ω,hx.2.1,hx.2.2.1,ω,by simp[val,hx.2.2.2]⟩|exact U1 hx.2.2.1 hx.2.1 (y9 hx.2.1 ω hx.2.2.2)|(have ga:=hp.2.2.1.getD x.2;have gb:=hp.2.2.2.getD y.2.2;have go:=hy.2.2.1.getD (x.2+y.2.2);obtain⟨c1,c2⟩:=xU ga gb go hy.2.2.2.1;obtain⟨h1,h2,h3,h4,h5⟩:=hy;(conv=>whnf);exact⟨(y.1.set (x.2+y.2.2) ((y.1.getD (x.2+y.2.2) 0+a.getD x.2 0*b.getD y.2.2 0+y.2.1)%1000000000),(y.1.getD (x.2+y.2.2) 0+a.getD x.2 0*b.getD y.2.2 0+y.2.1)/1000000000,y.2.2+1),⟨⟨rfl,rfl,rfl,rfl,iS (by(try simp(disch:=omega) only[bn,wu64,aS,ig,iq,rZ])<;>omega),rfl,rfl,rfl,rfl,rfl,aH ω,trivial⟩,⟨qo (by(try simp(disch:=omega) only[bn,wu64,aS,ig,iq,rZ])<;>omega) (by(try simp(disch:=omega) only[bn,wu64,aS,ig,iq,rZ])<;>omega),trivial⟩,⟨by show y.2.2+1<=_;omega,by simp only[ku];exact h2,cO h3 (mQ _ ψ),c2,pJ ω ω h5 rfl rfl rfl⟩,by show _-(y.2.2+1)<_-y.2.2;omega⟩⟩)|(obtain⟨h1,h2,h3,h4,h5⟩:=hy;(conv=>whnf);exact⟨(y.1.set (x.2+b.length) y.2.1,x.2+1),⟨⟨rfl,rfl,rfl,rfl,aH ω,trivial⟩,⟨qo (by(try simp(disch:=omega) only[bn,wu64,aS,ig,iq,rZ])<;>omega) (by(try simp(disch:=omega) only[bn,wu64,aS,ig,iq,rZ])<;>omega),trivial⟩,⟨by show x.2+1<=_;omega,by simp only[ku];exact h2,cO h3 h4,sQ ω (by rw[show y.2.2=b.length by omega]at h5;exact h5)⟩,by show _-(x.2+1)<_-x.2;omega⟩⟩)⟩
instance Yg(a b:List Nat):DenI Tryz.prog 108 [.c (lmc a),.c (lmc b)] (a.length<=1000000000000/\b.length<=1000000000000/\Lb a/\Lb b) (.c (lmc (lim (val a*val b)))):=⟨λhp=>by
 refine den_len ζ (λhl=>?_);simp only[lenA,lenC,cellsOf,aG,and_true,true_and]at hl
 all_goals refine au Tryz.func108 rfl ?_
 all_goals(repeat'((try(conv=>whnf));first
  |apply zaf|refine zaa ?_ ?_|(with_reducible first|apply zab|apply zac|refine zad (λ_=>?_) (λ_=>?_)|refine zae (λ_=>?_) (λ_=>?_))|refine zat (λ_=>?_) (λ_=>?_)|refine zah ?_ ?_|refine zas ζ ?_|refine zal ?_ ?_|refine zam ?_ ?_|(with_reducible first|refine zak ?_ ?_|apply zaj|apply zai)|apply zaq))
 all_goals(try apply zar)
 all_goals first
  |((conv=>whnf);refine Sw.Loop.inv (α:=List Nat×Nat) (λx=>[(0,.c (lmc a)),(1,.c (lmc b)),(5,.gs 14 (a.length+b.length)),(6,.int .i64 (x.2:Nat))]) (λx=>[(14,.grow 154 1 (x.1.map λx=>[.v (u32 x)]))]) (λx=>x.2<=a.length/\x.1.length=a.length+b.length/\Lb x.1/\val (x.1.take (x.2+b.length))=val (a.take x.2)*val b) (λx=>a.length-x.2) (List.replicate (a.length+b.length) 0,0) ?_ ?_ ?_ (λx hx=>?_))|skip
 all_goals(repeat'((try(conv=>whnf));first
  |apply zaf|refine zaa ?_ ?_|(with_reducible first|apply zab|apply zac|refine zad (λ_=>?_) (λ_=>?_)|refine zae (λ_=>?_) (λ_=>?_))|refine zat (λ_=>?_) (λ_=>?_)|refine zah ?_ ?_|refine zas ζ ?_|refine zal ?_ ?_|refine zam ?_ ?_|(with_reducible first|refine zak ?_ ?_|apply zaj|apply zai)|apply zaq))
 all_goals(try apply zar)
 all_goals first
  |((conv=>whnf);refine Sw.Loop.inv (α:=List Nat×Nat×Nat) (λy=>[(0,.c (lmc a)),(1,.c (lmc b)),(5,.gs 14 (a.length+b.length)),(6,.int .i64 (x.2:Nat)),(7,.int .u64 (y.2.1:Nat)),(8,.int .i64 (y.2.2:Nat))]) (λy=>[(14,.grow 154 1 (y.1.map λx=>[.v (u32 x)]))]) (λy=>y.2.2<=b.length/\y.1.length=a.length+b.length/\Lb y.1/\y.2.1<1000000000/\val (y.1.take (x.2+b.length))+1000000000^(x.2+y.2.2)*y.2.1=val (a.take x.2)*val b+1000000000^x.2*(a.getD x.2 0*val (b.take y.2.2))) (λy=>b.length-y.2.2) (x.1,0,0) ?_ ?_ ?_ (λy hy=>?_))|skip
 all_goals(repeat'((try(conv=>whnf));first
  |apply zaf|refine zaa ?_ ?_|(with_reducible first|apply zab|apply zac|refine zad (λ_=>?_) (λ_=>?_)|refine zae (λ_=>?_) (λ_=>?_))|refine zat (λ_=>?_) (λ_=>?_)|refine zah ?_ ?_|refine zas ζ ?_|refine zal ?_ ?_|refine zam ?_ ?_|(with_reducible first|refine zak ?_ ?_|apply zaj|apply zai)|apply zaq))
 all_goals(try apply zar)
 all_goals first|(show SubE _ _;repeat'(first|exact trivial|refine And.intro ?_ ?_))|(show SubB _ _;repeat'(first|exact trivial|refine And.intro ?_ ?_))|skip
 all_goals(try rfl)
 all_goals(try simp(disch:=omega) only[aG,qM,dn,aS,rZ]at *)
 all_goals first
  |omega|rfl|exact kN _ _|(constructor<;>omega)|exact aH ω|(simp(disch:=omega) only[aG,aS];omega)|exact⟨ω,η,fD _,Gy _ _ _ _⟩|exact⟨ω,hx.2.1,hx.2.2.1,ω,by simp[val,hx.2.2.2]⟩|exact lE (by rw[<-y9 hx.2.1 ω hx.2.2.2,gY _ hx.2.2.1])|(have ga:=hp.2.2.1.getD x.2;have gb:=hp.2.2.2.getD y.2.2;have go:=hy.2.2.1.getD (x.2+y.2.2);obtain⟨c1,c2⟩:=xU ga gb go hy.2.2.2.1;obtain⟨h1,h2,h3,h4,h5⟩:=hy;(conv=>whnf);exact⟨(y.1.set (x.2+y.2.2) ((y.1.getD (x.2+y.2.2) 0+a.getD x.2 0*b.getD y.2.2 0+y.2.1)%1000000000),(y.1.getD (x.2+y.2.2) 0+a.getD x.2 0*b.getD y.2.2 0+y.2.1)/1000000000,y.2.2+1),⟨⟨rfl,rfl,rfl,rfl,iS (by(try simp(disch:=omega) only[bn,wu64,aS,ig,iq,rZ])<;>omega),aH ω,trivial⟩,⟨qo (by(try simp(disch:=omega) only[bn,wu64,aS,ig,iq,rZ])<;>omega) (by(try simp(disch:=omega) only[bn,wu64,aS,ig,iq,rZ])<;>omega),trivial⟩,⟨by show y.2.2+1<=_;omega,by simp only[ku];exact h2,cO h3 (mQ _ ψ),c2,pJ ω ω h5 rfl rfl rfl⟩,by show _-(y.2.2+1)<_-y.2.2;omega⟩⟩)|(obtain⟨h1,h2,h3,h4,h5⟩:=hy;(conv=>whnf);exact⟨(y.1.set (x.2+b.length) y.2.1,x.2+1),⟨⟨rfl,rfl,rfl,aH ω,trivial⟩,⟨qo (by(try simp(disch:=omega) only[bn,wu64,aS,ig,iq,rZ])<;>omega) (by(try simp(disch:=omega) only[bn,wu64,aS,ig,iq,rZ])<;>omega),trivial⟩,⟨by show x.2+1<=_;omega,by simp only[ku];exact h2,cO h3 h4,sQ ω (by rw[show y.2.2=b.length by omega]at h5;exact h5)⟩,by show _-(x.2+1)<_-x.2;omega⟩⟩)|skip⟩
instance Yx(l:List Nat):DenI Tryz.prog 154 [.c (lmc l)] (l.length<=1000000000000/\Lb l/\val l<18446744073709551616) (.int .u64 ((val l:Nat):Int)):=⟨λhp=>by
 refine den_len ζ (λhl=>?_);simp only[lenA,lenC,cellsOf,aG,and_true,true_and]at hl
 all_goals refine au Tryz.func154 rfl ?_
 all_goals(repeat'((try(conv=>whnf));first
  |apply zaf|refine zaa ?_ ?_|(with_reducible first|apply zab|apply zac|refine zad (λ_=>?_) (λ_=>?_)|refine zae (λ_=>?_) (λ_=>?_))|refine zat (λ_=>?_) (λ_=>?_)|refine zah ?_ ?_|refine zas ζ ?_|refine zal ?_ ?_|refine zam ?_ ?_|(with_reducible first|refine zak ?_ ?_|apply zaj|apply zai)|apply zaq))
 all_goals(try apply zar)
 all_goals first
  |((conv=>whnf);refine Sw.Loop.inv (α:=Nat) (λx=>[(0,.c (lmc l)),(3,.int .u64 (val (l.drop x):Nat)),(4,.int .i64 ((x:Int)-1))]) (λx=>[]) (λx=>x<=l.length) (λx=>x) l.length ?_ ?_ ?_ (λx hx=>?_))|skip
 all_goals(repeat'((try(conv=>whnf));first
  |apply zaf|refine zaa ?_ ?_|(with_reducible first|apply zab|apply zac|refine zad (λ_=>?_) (λ_=>?_)|refine zae (λ_=>?_) (λ_=>?_))|refine zat (λ_=>?_) (λ_=>?_)|refine zah ?_ ?_|refine zas ζ ?_|refine zal ?_ ?_|refine zam ?_ ?_|(with_reducible first|refine zak ?_ ?_|apply zaj|apply zai)|apply zaq))
 all_goals(try apply zar)
 all_goals first|(show SubE _ _;repeat'(first|exact trivial|refine And.intro ?_ ?_))|(show SubB _ _;repeat'(first|exact trivial|refine And.intro ?_ ?_))|skip
 all_goals(try rfl)
 all_goals(try simp(disch:=omega) only[aG,lG,dn,qM,aS,bn,wu64,uM,qA,JK,ig,iq]at *)
 all_goals first
  |omega|rfl|exact kN _ _|(constructor<;>omega)|(rw[dK (iy _)];rfl)|(refine iE ?_;rw[show x=0 by omega,JY])|(have hd:=lF (l:=l) (k:=x) ω hx;have hle:=uh l (x-1);have hg:=hp.2.1.getD (x-1);((conv=>whnf);exact⟨x-1,⟨⟨rfl,iS (by(try simp(disch:=omega) only[bn,wu64,aS,ig,iq,qA,rZ,Hf,G5,Es,EC,FQ])<;>omega),qj ω ω,trivial⟩,⟨⟩,ω,by show x-1<x;omega⟩⟩))|skip⟩
instance aan(n:Nat):DenI Tryz.prog 117 [.int .u64 (n:Nat)] (n<18446744073709551616) (.c (lmc (lim n))):=⟨λhp=>by
 refine den_len ζ (λhl=>?_);simp only[lenA,lenC,cellsOf,aG,and_true,true_and]at hl
 all_goals refine au Tryz.func117 rfl ?_
 all_goals first
  |((conv=>whnf);refine Sw.Loop.ghost 3 11 154 1 ?_ rfl rfl rfl ψ)
 all_goals first
  |((conv=>whnf);refine Sw.Loop.inv (α:=List Nat×Nat) (λx=>[(0,.int .u64 (x.2:Nat)),(3,.gs 11 x.1.length)]) (λx=>[(11,.grow 154 1 (x.1.map λx=>[.v (u32 x)]))]) (λx=>x.2<=n/\lim n=x.1++lim x.2) (λx=>x.2) ([],n) ?_ ?_ ?_ (λx hx=>?_))
 all_goals(repeat'((try(conv=>whnf));first
  |(with_reducible refine zad (λ_=>?_) (λ_=>?_))|refine zah ?_ ?_|apply zaq))
 all_goals(try apply zar)
 all_goals first|(show SubE _ _;repeat'(first|exact trivial|refine And.intro ?_ ?_))|(show SubB _ _;repeat'(first|exact trivial|refine And.intro ?_ ?_))|skip
 all_goals(try rfl)
 all_goals(try simp only[aG,qM,dn]at *)
 all_goals first
  |omega|exact⟨iy _,rfl⟩|exact IV hx ω|(have:=Je hp hx ω;simp only[bD,aG,aZ,bF];omega)|(have h2:=hx.1;((conv=>whnf);exact⟨(x.1++[x.2%1000000000],x.2/1000000000),⟨⟨iS (by(try simp(disch:=omega) only[bn,wu64,aS,ig,iq,qA,rZ,Hf,G5,Es,EC,FQ])<;>omega),TA η,trivial⟩,⟨BX (by(try simp(disch:=omega) only[bn,wu64,aS,ig,iq,qA,rZ,Hf,G5,Es,EC,FQ])<;>omega),trivial⟩,(Fz hx ω),by show x.2/1000000000<x.2;omega⟩⟩))⟩
instance aaQ(n:Nat):DenI Tryz.prog 196 [.int .u64 (n:Nat)] (n<18446744073709551616) (.c (lmc (pad 3 n))):=⟨λhp=>by
 refine den_len ζ (λhl=>?_);simp only[lenA,lenC,cellsOf,aG,and_true,true_and]at hl
 all_goals refine au Tryz.func196 rfl ?_
 all_goals(repeat'((try(conv=>whnf));first
  |refine zah ?_ ?_|apply zaq))
 all_goals(try apply zar)
 all_goals first
  |omega|exact Jd ω (by(try simp(disch:=omega) only[bn,wu64,aS,ig,iq,qA,rZ,Hf,G5,Es,EC,FQ])<;>omega) (by(try simp(disch:=omega) only[bn,wu64,aS,ig,iq,qA,rZ,Hf,G5,Es,EC,FQ])<;>omega) (by(try simp(disch:=omega) only[bn,wu64,aS,ig,iq,qA,rZ,Hf,G5,Es,EC,FQ])<;>omega)⟩
instance abb(a:Int):DenI Tryz.prog 195 [Z a] (True) (.tup [.int .u64 ((if sz a<=2 then a.natAbs else 0:Nat):Int),.bool (decide (sz a<=2))]):=⟨λhp=>by
 refine den_len ζ (λhl=>?_);simp only[lenA,lenC,cellsOf,aG,and_true,true_and]at hl
 all_goals refine au Tryz.func195 rfl ?_
 all_goals(repeat'((try(conv=>whnf));first
  |(with_reducible refine zad (λ_=>?_) (λ_=>?_))|refine zas ζ ?_|(with_reducible refine zak ?_ ?_)|apply zaq))
 all_goals(try apply zar)
 all_goals(try simp only[aG,qM,dn]at *)
 all_goals(have g0:=(aI a.natAbs).getD 0;have g1:=(aI a.natAbs).getD 1)
 all_goals first
  |omega|exact Xk ω|exact Ve ω (by(try simp(disch:=omega) only[bn,wu64,aS,ig,iq,qA,rZ,Hf,G5,Es,EC,FQ])<;>omega)|exact Va ω (by(try simp(disch:=omega) only[bn,wu64,aS,ig,iq,qA,rZ,Hf,G5,Es,EC,FQ])<;>omega)|exact Xq ω⟩
instance Ya(a:List Nat)(b:Nat):DenI Tryz.prog 231 [.c (lmc a),.int .u32 (b:Nat)] (a.length<=1000000000000/\Lb a/\0<b/\b<1000000000) (.tup [.c (lmc (pad a.length (val a / b))),.c (lmc [val a % b])]):=⟨λhp=>by
 refine den_len ζ (λhl=>?_);simp only[lenA,lenC,cellsOf,aG,and_true,true_and]at hl
 all_goals refine au Tryz.func231 rfl ?_
 all_goals(repeat'((try(conv=>whnf));first
  |refine zal ?_ ?_))
 all_goals(try apply zar)
 all_goals first
  |((conv=>whnf);refine Sw.Loop.inv (α:=List Nat×Nat×Nat) (λx=>[(0,.c (lmc a)),(1,.int .u32 (b:Nat)),(6,.gs 12 a.length),(7,.int .u64 (x.2.1:Nat)),(8,.int .i64 ((x.2.2:Int)-1))]) (λx=>[(12,.grow 154 1 (x.1.map λx=>[.v (u32 x)]))]) (λx=>x.2.2<=a.length/\x.1.length=a.length/\Lb x.1/\x.2.1<b/\val (a.drop x.2.2)=b*val (x.1.drop x.2.2)+x.2.1) (λx=>x.2.2) (List.replicate a.length 0,0,a.length) ?_ ?_ ?_ (λx hx=>?_))|skip
 all_goals(repeat'((try(conv=>whnf));first
  |(with_reducible refine zad (λ_=>?_) (λ_=>?_))|refine zah ?_ ?_|refine zas ζ ?_|(with_reducible refine zak ?_ ?_)|apply zaq))
 all_goals(try apply zar)
 all_goals first|(show SubE _ _;repeat'(first|exact trivial|refine And.intro ?_ ?_))|(show SubB _ _;repeat'(first|exact trivial|refine And.intro ?_ ?_))|skip
 all_goals(try rfl)
 all_goals(try simp(disch:=omega) only[aG,lG,dn,qM,aS,bn,wu64,uM,qA,JK,ig,iq]at *)
 all_goals first
  |omega|rfl|exact kN _ _|exact⟨ω,η,fD _,ω,by rw[dK (iy _),dK η];simp⟩|(have h2:=hx.2.2.2.2;rw[show x.2.2=0 by omega]at h2;exact PY hp.2.2.1 hx.2.2.2.1 hx.2.1 hx.2.2.1 h2)|(have ga:=hp.2.1.getD (x.2.2-1);have c4:=Int.natCast_nonneg ((x.2.1*1000000000+a.getD (x.2.2-1) 0)/b);obtain⟨c1,c2,c3⟩:=zD hx.2.2.2.1 hp.2.2.2 ga (t:=_) rfl;obtain⟨h1,h2,h3,h4,h5⟩:=hx;((conv=>whnf);exact⟨(x.1.set (x.2.2-1) ((x.2.1*1000000000+a.getD (x.2.2-1) 0)/b),(x.2.1*1000000000+a.getD (x.2.2-1) 0)%b,x.2.2-1),⟨⟨rfl,rfl,rfl,iS (by(try simp(disch:=omega) only[bn,wu64,aS,ig,iq,qA,rZ,Hf,G5,Es,EC,FQ])<;>omega),qj ω ω,trivial⟩,⟨qo (by(try simp(disch:=omega) only[bn,wu64,aS,ig,iq,qA,rZ,Hf,G5,Es,EC,FQ])<;>omega) (by(try simp(disch:=omega) only[bn,wu64,aS,ig,iq,qA,rZ,Hf,G5,Es,EC,FQ])<;>omega),trivial⟩,⟨by show x.2.2-1<=_;omega,by simp only[ku];exact h2,cO h3 c1,c2,ug ω h1 ω h5 rfl rfl⟩,by show x.2.2-1<x.2.2;omega⟩⟩))⟩
instance(b:Nat):DenI Tryz.prog 142 [.c (.sl 1 [[.v (.int .u32 (b:Nat))]])] True (.c (lmc (ah [b]))):=⟨λhp=>(inferInstance:DenI Tryz.prog 142 [.c (lmc [b])] _ _).den hp⟩
instance aeD(a:List Nat)(b:Nat):DenI Tryz.prog 194 [.c (lmc a),.int .u32 (b:Nat)] (a.length<=1000000000000/\Lb a/\b<1000000000) (.c (lmc (lim (val a*b)))):=⟨λhp=>by
 refine den_len ζ (λhl=>?_);simp only[lenA,lenC,cellsOf,aG,and_true,true_and]at hl
 all_goals refine au Tryz.func194 rfl ?_
 all_goals(repeat'((try(conv=>whnf));first
  |apply zaf|refine zaa ?_ ?_|(with_reducible first|apply zab|apply zac|refine zad (λ_=>?_) (λ_=>?_)|refine zae (λ_=>?_) (λ_=>?_))|refine zat (λ_=>?_) (λ_=>?_)|refine zah ?_ ?_|refine zas ζ ?_|refine zal ?_ ?_|refine zam ?_ ?_|(with_reducible first|refine zak ?_ ?_|apply zaj|apply zai)|apply zaq))
 all_goals(try apply zar)
 all_goals first
  |exact⟨hp.1,by have:=dH [b];simp at this;omega,hp.2.1,jM (Lb.cons hp.2.2 Lb.nil)⟩|(refine lE ?_;rw[cZ];simp[val])|skip⟩
instance aa0(a b:List Nat):DenI Tryz.prog 143 [.c (lmc a),.c (lmc b)] (a.length<=1000000000000/\b.length<=1000000000000/\Lb a/\Lb b) (.c (lmc (lim (val a+val b)))):=⟨λhp=>by
 refine den_len ζ (λhl=>?_);simp only[lenA,lenC,cellsOf,aG,and_true,true_and]at hl
 all_goals refine au Tryz.func143 rfl ?_
 all_goals(repeat'((try(conv=>whnf));first
  |apply zaf|refine zaa ?_ ?_|(with_reducible first|apply zab|apply zac|refine zad (λ_=>?_) (λ_=>?_)|refine zae (λ_=>?_) (λ_=>?_))|refine zat (λ_=>?_) (λ_=>?_)|refine zah ?_ ?_|refine zas ζ ?_|refine zal ?_ ?_|refine zam ?_ ?_|(with_reducible first|refine zak ?_ ?_|apply zaj|apply zai)|apply zaq))
 all_goals(try apply zar)
 all_goals(try simp(disch:=omega) only[aG,lG,dn,qM,aS,bn,wu64,uM,qA,JK,ig,iq]at *)
 all_goals first
  |(have hh:b.length<=a.length:=ω;(conv=>whnf);refine Sw.Loop.inv (α:=List Nat×Nat×Nat) (λx=>[(0,.c (lmc a)),(1,.c (lmc b)),(5,.gs 18 (a.length+1)),(6,.int .u32 (x.2.1:Nat)),(7,.int .i64 (x.2.2:Nat))]) (λx=>[(18,.grow 154 1 (x.1.map λx=>[.v (u32 x)]))]) (λx=>x.2.2<=a.length/\x.1.length=a.length+1/\Lb x.1/\x.2.1<=1/\val (x.1.take x.2.2)+1000000000^x.2.2*x.2.1=val (a.take x.2.2)+val (b.take x.2.2)) (λx=>a.length-x.2.2) (List.replicate (a.length+1) 0,0,0) ?_ ?_ ?_ (λx hx=>?_))|(have hh:a.length<=b.length:=ω;(conv=>whnf);refine Sw.Loop.inv (α:=List Nat×Nat×Nat) (λx=>[(0,.c (lmc b)),(1,.c (lmc a)),(5,.gs 18 (b.length+1)),(6,.int .u32 (x.2.1:Nat)),(7,.int .i64 (x.2.2:Nat))]) (λx=>[(18,.grow 154 1 (x.1.map λx=>[.v (u32 x)]))]) (λx=>x.2.2<=b.length/\x.1.length=b.length+1/\Lb x.1/\x.2.1<=1/\val (x.1.take x.2.2)+1000000000^x.2.2*x.2.1=val (b.take x.2.2)+val (a.take x.2.2)) (λx=>b.length-x.2.2) (List.replicate (b.length+1) 0,0,0) ?_ ?_ ?_ (λx hx=>?_))|skip
 all_goals(repeat'((try(conv=>whnf));first
  |apply zaf|refine zaa ?_ ?_|(with_reducible first|apply zab|apply zac|refine zad (λ_=>?_) (λ_=>?_)|refine zae (λ_=>?_) (λ_=>?_))|refine zat (λ_=>?_) (λ_=>?_)|refine zah ?_ ?_|refine zas ζ ?_|refine zal ?_ ?_|refine zam ?_ ?_|(with_reducible first|refine zak ?_ ?_|apply zaj|apply zai)|apply zaq))
 all_goals(try apply zar)
 all_goals first|(show SubE _ _;repeat'(first|exact trivial|refine And.intro ?_ ?_))|(show SubB _ _;repeat'(first|exact trivial|refine And.intro ?_ ?_))|skip
 all_goals(try rfl)
 all_goals(try simp only[aG,qM,dn]at *)
 all_goals first
  |omega|rfl|exact kN _ _|(constructor<;>omega)|(obtain⟨h1,h2,h3,h4,h5⟩:=hx;have ga:=hp.2.2.1.getD x.2.2;have gb:=hp.2.2.2.getD x.2.2;have gz:=getD_none (l:=b) (k:=x.2.2) ω;(conv=>whnf);exact⟨(x.1.set x.2.2 ((x.2.1+a.getD x.2.2 0+b.getD x.2.2 0)%1000000000),(x.2.1+a.getD x.2.2 0+b.getD x.2.2 0)/1000000000,x.2.2+1),⟨⟨rfl,rfl,rfl,iS (by(try simp(disch:=omega) only[bn,wu64,aS,ig,iq])<;>omega),aH ω,trivial⟩,⟨qo rfl (by(try simp(disch:=omega) only[bn,wu64,aS,ig,iq])<;>omega),trivial⟩,⟨by show x.2.2+1<=_;omega,by simp only[ku];exact h2,cO h3 (mQ _ ψ),by show _/1000000000<=1;omega,oH ω h5 rfl rfl rfl⟩,by show _-(x.2.2+1)<_-x.2.2;omega⟩⟩)|(obtain⟨h1,h2,h3,h4,h5⟩:=hx;have ga:=hp.2.2.1.getD x.2.2;have gb:=hp.2.2.2.getD x.2.2;(conv=>whnf);exact⟨(x.1.set x.2.2 ((x.2.1+a.getD x.2.2 0+b.getD x.2.2 0)%1000000000),(x.2.1+a.getD x.2.2 0+b.getD x.2.2 0)/1000000000,x.2.2+1),⟨⟨rfl,rfl,rfl,iS (by(try simp(disch:=omega) only[bn,wu64,aS,ig,iq])<;>omega),aH ω,trivial⟩,⟨qo rfl (by(try simp(disch:=omega) only[bn,wu64,aS,ig,iq])<;>omega),trivial⟩,⟨by show x.2.2+1<=_;omega,by simp only[ku];exact h2,cO h3 (mQ _ ψ),by show _/1000000000<=1;omega,oH ω h5 rfl rfl rfl⟩,by show _-(x.2.2+1)<_-x.2.2;omega⟩⟩)|(obtain⟨h1,h2,h3,h4,h5⟩:=hx;have ga:=hp.2.2.2.getD x.2.2;have gb:=hp.2.2.1.getD x.2.2;have gz:=getD_none (l:=a) (k:=x.2.2) ω;(conv=>whnf);exact⟨(x.1.set x.2.2 ((x.2.1+b.getD x.2.2 0+a.getD x.2.2 0)%1000000000),(x.2.1+b.getD x.2.2 0+a.getD x.2.2 0)/1000000000,x.2.2+1),⟨⟨rfl,rfl,rfl,iS (by(try simp(disch:=omega) only[bn,wu64,aS,ig,iq])<;>omega),aH ω,trivial⟩,⟨qo rfl (by(try simp(disch:=omega) only[bn,wu64,aS,ig,iq])<;>omega),trivial⟩,⟨by show x.2.2+1<=_;omega,by simp only[ku];exact h2,cO h3 (mQ _ ψ),by show _/1000000000<=1;omega,oH ω h5 rfl rfl rfl⟩,by show _-(x.2.2+1)<_-x.2.2;omega⟩⟩)|(obtain⟨h1,h2,h3,h4,h5⟩:=hx;have ga:=hp.2.2.2.getD x.2.2;have gb:=hp.2.2.1.getD x.2.2;(conv=>whnf);exact⟨(x.1.set x.2.2 ((x.2.1+b.getD x.2.2 0+a.getD x.2.2 0)%1000000000),(x.2.1+b.getD x.2.2 0+a.getD x.2.2 0)/1000000000,x.2.2+1),⟨⟨rfl,rfl,rfl,iS (by(try simp(disch:=omega) only[bn,wu64,aS,ig,iq])<;>omega),aH ω,trivial⟩,⟨qo rfl (by(try simp(disch:=omega) only[bn,wu64,aS,ig,iq])<;>omega),trivial⟩,⟨by show x.2.2+1<=_;omega,by simp only[ku];exact h2,cO h3 (mQ _ ψ),by show _/1000000000<=1;omega,oH ω h5 rfl rfl rfl⟩,by show _-(x.2.2+1)<_-x.2.2;omega⟩⟩)|exact⟨ω,η,fD _,ω,by simp[val]⟩|skip
 all_goals(try simp only[abr]at *)
 all_goals(repeat'((try(conv=>whnf));first
  |apply zaf|refine zaa ?_ ?_|(with_reducible first|apply zab|apply zac|refine zad (λ_=>?_) (λ_=>?_)|refine zae (λ_=>?_) (λ_=>?_))|refine zat (λ_=>?_) (λ_=>?_)|refine zah ?_ ?_|refine zas ζ ?_|refine zal ?_ ?_|refine zam ?_ ?_|(with_reducible first|refine zak ?_ ?_|apply zaj|apply zai)|apply zaq))
 all_goals(try apply zar)
 all_goals first
  |omega|rfl|exact kN _ _|(constructor<;>omega)|(simp only[aG,ku];omega)|exact Nr hx.2.1 ω hh hx.2.2.1 hx.2.2.2.1 hx.2.2.2.2 ω|skip⟩
instance X5(a b:List Nat):DenI Tryz.prog 144 [.c (lmc a),.c (lmc b)] (a.length<=1000000000000/\b.length<=1000000000000/\Lb a/\Lb b/\b.length<=a.length/\val b<=val a) (.c (lmc (lim (val a-val b)))):=⟨λhp=>by
 refine den_len ζ (λhl=>?_);simp only[lenA,lenC,cellsOf,aG,and_true,true_and]at hl
 all_goals refine au Tryz.func144 rfl ?_
 all_goals(repeat'((try(conv=>whnf));first
  |refine zal ?_ ?_))
 all_goals(try apply zar)
 all_goals first
  |((conv=>whnf);refine Sw.Loop.inv (α:=List Nat×Nat×Nat) (λx=>[(0,.c (lmc a)),(1,.c (lmc b)),(5,.gs 11 a.length),(6,.int .u32 (x.2.1:Nat)),(7,.int .i64 (x.2.2:Nat))]) (λx=>[(11,.grow 154 1 (x.1.map λx=>[.v (u32 x)]))]) (λx=>x.2.2<=a.length/\x.1.length=a.length/\Lb x.1/\x.2.1<=1/\val (x.1.take x.2.2)+val (b.take x.2.2)=val (a.take x.2.2)+1000000000^x.2.2*x.2.1) (λx=>a.length-x.2.2) (List.replicate a.length 0,0,0) ?_ ?_ ?_ (λx hx=>?_))|skip
 all_goals(repeat'((try(conv=>whnf));first
  |apply zaf|(with_reducible refine zad (λ_=>?_) (λ_=>?_))|refine zah ?_ ?_|(with_reducible refine zak ?_ ?_)|apply zaq))
 all_goals(try apply zar)
 all_goals first|(show SubE _ _;repeat'(first|exact trivial|refine And.intro ?_ ?_))|(show SubB _ _;repeat'(first|exact trivial|refine And.intro ?_ ?_))|skip
 all_goals(try rfl)
 all_goals(try simp only[aG,qM,dn]at *)
 all_goals first
  |omega|rfl|exact kN _ _|exact⟨ω,η,fD _,ω,by simp[val]⟩|exact JB hx.2.2.1 hp.2.2.1 hx.2.1 ω hp.2.2.2.2.1 hp.2.2.2.2.2 hx.2.2.2.2|(obtain⟨h1,h2,h3,h4,h5⟩:=hx;have ga:=hp.2.2.1.getD x.2.2;have gb:=hp.2.2.2.1.getD x.2.2;have gz:=getD_none (l:=b) (k:=x.2.2) ω;(try simp(disch:=omega) only[bn]at *);(conv=>whnf);exact⟨(x.1.set x.2.2 ((a.getD x.2.2 0+1000000000-x.2.1-b.getD x.2.2 0)%1000000000),1-(a.getD x.2.2 0+1000000000-x.2.1-b.getD x.2.2 0)/1000000000,x.2.2+1),⟨⟨rfl,rfl,rfl,iS (by(try simp(disch:=omega) only[bn,wu64,aS,ig,iq])<;>omega),aH ω,trivial⟩,⟨qo rfl (by(try simp(disch:=omega) only[bn,wu64,aS,ig,iq])<;>omega),trivial⟩,⟨by show x.2.2+1<=_;omega,by simp only[ku];exact h2,cO h3 (mQ _ ψ),by show 1-_/1000000000<=1;omega,lM ω h5 (by dsimp only;omega)⟩,by show _-(x.2.2+1)<_-x.2.2;omega⟩⟩)|(obtain⟨h1,h2,h3,h4,h5⟩:=hx;have ga:=hp.2.2.1.getD x.2.2;have gb:=hp.2.2.2.1.getD x.2.2;(try simp(disch:=omega) only[bn]at *);(conv=>whnf);exact⟨(x.1.set x.2.2 ((a.getD x.2.2 0+1000000000-x.2.1-b.getD x.2.2 0)%1000000000),1-(a.getD x.2.2 0+1000000000-x.2.1-b.getD x.2.2 0)/1000000000,x.2.2+1),⟨⟨rfl,rfl,rfl,iS (by(try simp(disch:=omega) only[bn,wu64,aS,ig,iq])<;>omega),aH ω,trivial⟩,⟨qo rfl (by(try simp(disch:=omega) only[bn,wu64,aS,ig,iq])<;>omega),trivial⟩,⟨by show x.2.2+1<=_;omega,by simp only[ku];exact h2,cO h3 (mQ _ ψ),by show 1-_/1000000000<=1;omega,lM ω h5 (by dsimp only;omega)⟩,by show _-(x.2.2+1)<_-x.2.2;omega⟩⟩)⟩
instance aaX(a b:List Nat):DenI Tryz.prog 236 [.c (lmc a),.c (lmc b)] (a.length<=1000000000000/\b.length<=1000000000000/\Lb a/\Lb b/\b.length<=a.length/\val b<=val a) (.c (lmc (pad a.length (val a-val b)))):=⟨λhp=>by
 refine den_len ζ (λhl=>?_);simp only[lenA,lenC,cellsOf,aG,and_true,true_and]at hl
 all_goals refine au Tryz.func236 rfl ?_
 all_goals(repeat'((try(conv=>whnf));first
  |refine zal ?_ ?_))
 all_goals(try apply zar)
 all_goals first
  |((conv=>whnf);refine Sw.Loop.inv (α:=List Nat×Nat×Nat) (λx=>[(1,.c (lmc b)),(5,.gs 12 a.length),(6,.int .u32 (x.2.1:Nat)),(13,.c (lmc a)),(14,.int .i64 a.length),(15,.int .i64 (x.2.2:Nat))]) (λx=>[(12,.grow 154 1 (x.1.map λx=>[.v (u32 x)]))]) (λx=>x.2.2<=a.length/\x.1.length=a.length/\Lb x.1/\x.2.1<=1/\val (x.1.take x.2.2)+val (b.take x.2.2)=val (a.take x.2.2)+1000000000^x.2.2*x.2.1) (λx=>a.length-x.2.2) (List.replicate a.length 0,0,0) ?_ ?_ ?_ (λx hx=>?_))|skip
 all_goals(repeat'((try(conv=>whnf));first
  |(with_reducible refine zad (λ_=>?_) (λ_=>?_))|refine zah ?_ ?_|(with_reducible refine zak ?_ ?_)|apply zaq))
 all_goals(try apply zar)
 all_goals first|(show SubE _ _;repeat'(first|exact trivial|refine And.intro ?_ ?_))|(show SubB _ _;repeat'(first|exact trivial|refine And.intro ?_ ?_))|skip
 all_goals(try rfl)
 all_goals(try simp only[aG,qM,dn]at *)
 all_goals first
  |omega|rfl|exact kN _ _|(obtain⟨h1,h2,h3,h4,h5⟩:=hx;have ga:=hp.2.2.1.getD x.2.2;have gb:=hp.2.2.2.1.getD x.2.2;have gz:=getD_none (l:=b) (k:=x.2.2) ω;(try simp(disch:=omega) only[bn]at *);(conv=>whnf);exact⟨(x.1.set x.2.2 ((a.getD x.2.2 0+1000000000-x.2.1-b.getD x.2.2 0)%1000000000),1-(a.getD x.2.2 0+1000000000-x.2.1-b.getD x.2.2 0)/1000000000,x.2.2+1),⟨⟨rfl,rfl,iS (by(try simp(disch:=omega) only[bn,wu64,aS,ig,iq])<;>omega),rfl,rfl,aH ω,trivial⟩,⟨qo rfl (by(try simp(disch:=omega) only[bn,wu64,aS,ig,iq])<;>omega),trivial⟩,⟨by show x.2.2+1<=_;omega,by simp only[ku];exact h2,cO h3 (mQ _ ψ),by show 1-_/1000000000<=1;omega,lM ω h5 (by dsimp only;omega)⟩,by show _-(x.2.2+1)<_-x.2.2;omega⟩⟩)|(obtain⟨h1,h2,h3,h4,h5⟩:=hx;have ga:=hp.2.2.1.getD x.2.2;have gb:=hp.2.2.2.1.getD x.2.2;(try simp(disch:=omega) only[bn]at *);(conv=>whnf);exact⟨(x.1.set x.2.2 ((a.getD x.2.2 0+1000000000-x.2.1-b.getD x.2.2 0)%1000000000),1-(a.getD x.2.2 0+1000000000-x.2.1-b.getD x.2.2 0)/1000000000,x.2.2+1),⟨⟨rfl,rfl,iS (by(try simp(disch:=omega) only[bn,wu64,aS,ig,iq])<;>omega),rfl,rfl,aH ω,trivial⟩,⟨qo rfl (by(try simp(disch:=omega) only[bn,wu64,aS,ig,iq])<;>omega),trivial⟩,⟨by show x.2.2+1<=_;omega,by simp only[ku];exact h2,cO h3 (mQ _ ψ),by show 1-_/1000000000<=1;omega,lM ω h5 (by dsimp only;omega)⟩,by show _-(x.2.2+1)<_-x.2.2;omega⟩⟩)|exact⟨ω,η,fD _,ω,by simp[val]⟩|exact U1 hx.2.2.1 hx.2.1 (yY hx.2.2.1 hp.2.2.1 hx.2.1 ω hp.2.2.2.2.1 hp.2.2.2.2.2 hx.2.2.2.2)⟩
instance adA(a b:List Nat):DenI Tryz.prog 235 [.c (lmc a),.c (lmc b)] (a.length<=1000000000000/\b.length<=1000000000000/\Lb a/\Lb b) (.c (lmc (pad (max a.length b.length+1) (val a+val b)))):=⟨λhp=>by
 refine den_len ζ (λhl=>?_);simp only[lenA,lenC,cellsOf,aG,and_true,true_and]at hl
 all_goals refine au Tryz.func235 rfl ?_
 all_goals(repeat'((try(conv=>whnf));first
  |(with_reducible refine zad (λ_=>?_) (λ_=>?_))|refine zal ?_ ?_))
 all_goals(try apply zar)
 all_goals(try simp(disch:=omega) only[aG,lG,dn,qM,aS,bn,wu64,uM,qA,JK,ig,iq]at *)
 all_goals first
  |(have hh:b.length<=a.length:=ω;(conv=>whnf);refine Sw.Loop.inv (α:=List Nat×Nat×Nat) (λx=>[(1,.c (lmc b)),(5,.gs 19 x.1.length),(6,.int .u32 (x.2.1:Nat)),(20,.c (lmc a)),(21,.int .i64 a.length),(22,.int .i64 (x.2.2:Nat))]) (λx=>[(19,.grow 154 1 (x.1.map λx=>[.v (u32 x)]))]) (λx=>x.2.2<=a.length/\x.1.length=x.2.2/\Lb x.1/\x.2.1<=1/\val x.1+1000000000^x.2.2*x.2.1=val (a.take x.2.2)+val (b.take x.2.2)) (λx=>a.length-x.2.2) ([],0,0) ?_ ?_ ?_ (λx hx=>?_))|(have hh:a.length<=b.length:=ω;(conv=>whnf);refine Sw.Loop.inv (α:=List Nat×Nat×Nat) (λx=>[(1,.c (lmc a)),(5,.gs 19 x.1.length),(6,.int .u32 (x.2.1:Nat)),(20,.c (lmc b)),(21,.int .i64 b.length),(22,.int .i64 (x.2.2:Nat))]) (λx=>[(19,.grow 154 1 (x.1.map λx=>[.v (u32 x)]))]) (λx=>x.2.2<=b.length/\x.1.length=x.2.2/\Lb x.1/\x.2.1<=1/\val x.1+1000000000^x.2.2*x.2.1=val (b.take x.2.2)+val (a.take x.2.2)) (λx=>b.length-x.2.2) ([],0,0) ?_ ?_ ?_ (λx hx=>?_))|skip
 all_goals(repeat'((try(conv=>whnf));first
  |(with_reducible refine zad (λ_=>?_) (λ_=>?_))|refine zah ?_ ?_|(with_reducible refine zak ?_ ?_)|apply zaq))
 all_goals(try apply zar)
 all_goals first|(show SubE _ _;repeat'(first|exact trivial|refine And.intro ?_ ?_))|(show SubB _ _;repeat'(first|exact trivial|refine And.intro ?_ ?_))|skip
 all_goals(try rfl)
 all_goals(try simp only[aG,qM,dn]at *)
 all_goals first
  |omega|rfl|(obtain⟨h1,h2,h3,h4,h5⟩:=hx;have ga:=hp.2.2.1.getD x.2.2;have gb:=hp.2.2.2.getD x.2.2;have gz:=getD_none (l:=b) (k:=x.2.2) ω;(try simp(disch:=omega) only[bn]at *);(conv=>whnf);exact⟨(x.1++[(x.2.1+a.getD x.2.2 0+b.getD x.2.2 0)%1000000000],(x.2.1+a.getD x.2.2 0+b.getD x.2.2 0)/1000000000,x.2.2+1),⟨⟨rfl,TA η,iS (by(try simp(disch:=omega) only[bn,wu64,aS,ig,iq])<;>omega),rfl,rfl,aH ω,trivial⟩,⟨BX (by(try simp(disch:=omega) only[bn,wu64,aS,ig,iq])<;>omega),trivial⟩,⟨by show x.2.2+1<=_;omega,by simp only[bD,aZ,bF];omega,lT h3 (mQ _ ψ),by show _/1000000000<=1;omega,oz h2 h5 rfl rfl rfl⟩,by show _-(x.2.2+1)<_-x.2.2;omega⟩⟩)|(obtain⟨h1,h2,h3,h4,h5⟩:=hx;have ga:=hp.2.2.1.getD x.2.2;have gb:=hp.2.2.2.getD x.2.2;(try simp(disch:=omega) only[bn]at *);(conv=>whnf);exact⟨(x.1++[(x.2.1+a.getD x.2.2 0+b.getD x.2.2 0)%1000000000],(x.2.1+a.getD x.2.2 0+b.getD x.2.2 0)/1000000000,x.2.2+1),⟨⟨rfl,TA η,iS (by(try simp(disch:=omega) only[bn,wu64,aS,ig,iq])<;>omega),rfl,rfl,aH ω,trivial⟩,⟨BX (by(try simp(disch:=omega) only[bn,wu64,aS,ig,iq])<;>omega),trivial⟩,⟨by show x.2.2+1<=_;omega,by simp only[bD,aZ,bF];omega,lT h3 (mQ _ ψ),by show _/1000000000<=1;omega,oz h2 h5 rfl rfl rfl⟩,by show _-(x.2.2+1)<_-x.2.2;omega⟩⟩)|(obtain⟨h1,h2,h3,h4,h5⟩:=hx;have ga:=hp.2.2.2.getD x.2.2;have gb:=hp.2.2.1.getD x.2.2;have gz:=getD_none (l:=a) (k:=x.2.2) ω;(try simp(disch:=omega) only[bn]at *);(conv=>whnf);exact⟨(x.1++[(x.2.1+b.getD x.2.2 0+a.getD x.2.2 0)%1000000000],(x.2.1+b.getD x.2.2 0+a.getD x.2.2 0)/1000000000,x.2.2+1),⟨⟨rfl,TA η,iS (by(try simp(disch:=omega) only[bn,wu64,aS,ig,iq])<;>omega),rfl,rfl,aH ω,trivial⟩,⟨BX (by(try simp(disch:=omega) only[bn,wu64,aS,ig,iq])<;>omega),trivial⟩,⟨by show x.2.2+1<=_;omega,by simp only[bD,aZ,bF];omega,lT h3 (mQ _ ψ),by show _/1000000000<=1;omega,oz h2 h5 rfl rfl rfl⟩,by show _-(x.2.2+1)<_-x.2.2;omega⟩⟩)|(obtain⟨h1,h2,h3,h4,h5⟩:=hx;have ga:=hp.2.2.2.getD x.2.2;have gb:=hp.2.2.1.getD x.2.2;(try simp(disch:=omega) only[bn]at *);(conv=>whnf);exact⟨(x.1++[(x.2.1+b.getD x.2.2 0+a.getD x.2.2 0)%1000000000],(x.2.1+b.getD x.2.2 0+a.getD x.2.2 0)/1000000000,x.2.2+1),⟨⟨rfl,TA η,iS (by(try simp(disch:=omega) only[bn,wu64,aS,ig,iq])<;>omega),rfl,rfl,aH ω,trivial⟩,⟨BX (by(try simp(disch:=omega) only[bn,wu64,aS,ig,iq])<;>omega),trivial⟩,⟨by show x.2.2+1<=_;omega,by simp only[bD,aZ,bF];omega,lT h3 (mQ _ ψ),by show _/1000000000<=1;omega,oz h2 h5 rfl rfl rfl⟩,by show _-(x.2.2+1)<_-x.2.2;omega⟩⟩)|exact⟨ω,rfl,Lb.nil,ω,by simp[val]⟩|(simp only[aG,bD,aZ,bF];omega)|(refine ZV hx.2.2.1 ω ω ?_;have h5:=hx.2.2.2.2;rw[aT (l:=a) ω,aT (l:=b) ω]at h5;rw[hx.2.1];omega)⟩
end Go.Proofs.YtmniihkenijjpaaGreatDoor
namespace Go.Sw
open Go
theorem Ox{n:Int}(h:0<=n)(h2:n<=9223372036854775807):IntKind.u64.wrap n=((n.natAbs:Nat):Int):=by rw[IntKind.wrap_u64];omega
theorem Ky{n:Int}(h:n<0)(h2 : -9223372036854775808<=n):IntKind.u64.wrap (0-IntKind.u64.wrap n)=((n.natAbs:Nat):Int):=by rw[IntKind.wrap_u64,IntKind.wrap_u64];omega
theorem H8{x y:Int}(h:x=y):packA [Z x]=Z y:=by rw[h];rfl
theorem Oy{a b qs rs:List Nat}(h4:Lb qs)(h5:Lb rs)(h6:val a=val b*val qs+val rs)(h7:val rs<val b)(h8:qs.length=Py a b)(h9:rs.length=Nq a b):qs=pad (Py a b) (val a/val b)/\rs=pad (Nq a b) (val a%val b):=by
 have h1:val a/val b=val qs:=by rw[h6,xY,Nat.add_comm,Nat.add_mul_div_right _ _ ω,Nat.div_eq_of_lt h7,oV]
 have h2:val a%val b=val rs:=by rw[h6,Nat.mul_add_mod,G8 h7]
 rw[h1,h2,<-h8,<-h9];exact⟨wB _ h4,wB _ h5⟩
section
variable {a b:Int}
theorem Ux(h:(((lim a.natAbs).length:Nat):Int)=0):packA [AV.c (Cell.v (.int .i64 0))]=AV.int .i64 (gB a):=iE (by have:=bP (n:=a.natAbs);unfold gB;repeat' split;all_goals omega)
theorem TJ(h:a<0):packA [AV.c (Cell.v (.int .i64 (-1)))]=AV.int .i64 (gB a):=iE (by unfold gB;repeat' split;all_goals omega)
theorem TR(h:¬a<0)(h2:(((lim a.natAbs).length:Nat):Int)>0):packA [AV.c (Cell.v (.int .i64 1))]=AV.int .i64 (gB a):=iE (by have:=bP (n:=a.natAbs);unfold gB;repeat' split;all_goals omega)
theorem Td(h:(decide (a<0) != decide (b<0))=true)(ha:a<0):packA [AV.c (Cell.v (.int .i64 (-1)))]=AV.int .i64 (gK a b):=iE (by have hb:¬b<0:=(λhb=>by simp[ha,hb]at h);rw[Sl ω])
theorem Ug(h:(decide (a<0) != decide (b<0))=true)(ha:¬a<0):packA [AV.c (Cell.v (.int .i64 1))]=AV.int .i64 (gK a b):=iE (by have hb:b<0:=Decidable.byContradiction (λhb=>by simp[ha,hb]at h);rw[PL ω])
theorem Ti(h:(decide (a<0) != decide (b<0))=false)(ha:a<0):packA [AV.c (Cell.v (.int .i64 (dN (val (lim b.natAbs)) (val (lim a.natAbs)))))]=AV.int .i64 (gK a b) :=
 iE (by rw[aB,aB,Ko ha (Decidable.byContradiction λhb=>by simp[ha,hb]at h)])
theorem TK(h:(decide (a<0) != decide (b<0))=false)(ha:¬a<0):packA [AV.c (Cell.v (.int .i64 (dN (val (lim a.natAbs)) (val (lim b.natAbs)))))]=AV.int .i64 (gK a b) :=
 iE (by rw[aB,aB,MO ha (λhb=>by simp[ha,hb]at h)])
theorem Ol(h:(decide (a<0) == decide (b<0))=true):decide (a<0)=decide (b<0):=by simpa using h
theorem CB(h:(decide (a<0) == decide (b<0))=false):¬decide (a<0)=decide (b<0):=by simpa using h
theorem Vu(h:(decide (a<0) == decide (b<0))=true):packA [AV.c (Cell.v (.bool (decide (dN (val (lim a.natAbs)) (val (lim b.natAbs))=0))))]=AV.bool (decide (a=b)) :=
 bE (by have h:=Ol h;rw[decide_eq_decide]at h;rw[aB,aB,decide_eq_decide,Lp];omega)
theorem XA(h:(decide (a<0) == decide (b<0))=false):packA [AV.c (Cell.v (.bool false))]=AV.bool (decide (a=b)) :=
 bE (by have h:=CB h;rw[decide_eq_decide]at h;symm;rw[decide_eq_false_iff_not];omega)
theorem TB:packA [Z (bZ (!decide (a<0)) (val (lim a.natAbs)))]=Z (-a):=H8 (by rw[aB];exact LP a)
theorem YO:packA [Z (bZ (decide (a<0) != decide (b<0)) (val (lim (val (lim a.natAbs)*val (lim b.natAbs)))))]=Z (a*b):=H8 (by rw[aB,aB,aB];exact Dq a b)
theorem Uo:packA [Z (bZ (decide (a<0) != decide (b<0)) (val (pad ((lim a.natAbs).length+(lim b.natAbs).length) (val (lim a.natAbs)*val (lim b.natAbs)))))]=Z (a*b):=H8 (by
 rw[jc _ _ (by rw[Nat.pow_add];exact Nat.mul_lt_mul'' (dL _ (aI _)) (dL _ (aI _))),aB,aB];exact Dq a b)
theorem Yf(h:(decide (a<0) == decide (b<0))=true):packA [Z (bZ (decide (a<0)) (val (lim (val (lim a.natAbs)+val (lim b.natAbs)))))]=Z (a+b):=H8 (by rw[aB,aB,aB];exact C9 (Ol h))
theorem ZA(h:(decide (a<0) == decide (b<0))=false)(h2:dN (val (lim a.natAbs)) (val (lim b.natAbs))>=0):packA [Z (bZ (decide (a<0)) (val (lim (val (lim a.natAbs)-val (lim b.natAbs)))))]=Z (a+b):=H8 (by
 rw[aB,aB]at h2 ⊢;rw[aB];exact qW (CB h) (kS.1 h2))
theorem Y8(h:(decide (a<0) == decide (b<0))=false)(h2:¬dN (val (lim a.natAbs)) (val (lim b.natAbs))>=0):packA [Z (bZ (decide (b<0)) (val (lim (val (lim b.natAbs)-val (lim a.natAbs)))))]=Z (a+b):=H8 (by
 rw[aB,aB]at h2 ⊢;rw[aB,Int.add_comm];exact qW (λe=>CB h e.symm) (by have:=mt kS.2 h2;omega))
theorem Uz(h:(decide (a<0) == decide (b<0))=true):packA [Z (bZ (decide (a<0)) (val (pad (max (lim a.natAbs).length (lim b.natAbs).length+1) (val (lim a.natAbs)+val (lim b.natAbs)))))]=Z (a+b):=H8 (by
 have h1:=dL _ (aI a.natAbs);have h2:=dL _ (aI b.natAbs);have h3:=BP (n:=1000000000) ψ (Nat.le_max_left (lim a.natAbs).length (lim b.natAbs).length);have h4:=BP (n:=1000000000) ψ (Nat.le_max_right (lim a.natAbs).length (lim b.natAbs).length)
 rw[jc _ _ (by rw[rP];omega),aB,aB];exact C9 (Ol h))
theorem TD(h:(decide (a<0) == decide (b<0))=false)(h2:¬dN (val (lim a.natAbs)) (val (lim b.natAbs))<0):packA [Z (bZ (decide (a<0)) (val (pad (lim a.natAbs).length (val (lim a.natAbs)-val (lim b.natAbs)))))]=Z (a+b):=H8 (by
 have h1:=dL _ (aI a.natAbs);rw[jc _ _ ω]
 rw[aB,aB]at h2 ⊢;exact qW (CB h) (kS.1 ω))
theorem Uf(h:(decide (a<0) == decide (b<0))=false)(h2:dN (val (lim a.natAbs)) (val (lim b.natAbs))<0):packA [Z (bZ (decide (b<0)) (val (pad (lim b.natAbs).length (val (lim b.natAbs)-val (lim a.natAbs)))))]=Z (a+b):=H8 (by
 have h1:=dL _ (aI b.natAbs);rw[jc _ _ ω]
 rw[aB,aB]at h2 ⊢;rw[Int.add_comm];exact qW (λe=>CB h e.symm) (by have:=nJ.1 h2;omega))
theorem xW(h1:sz a<=1000000000)(h2:sz b<=1000000000)(h:b.natAbs<=a.natAbs):(lim a.natAbs).length<=1000000000000/\(lim b.natAbs).length<=1000000000000/\Lb (lim a.natAbs)/\Lb (lim b.natAbs)/\(lim b.natAbs).length<=(lim a.natAbs).length/\val (lim b.natAbs)<=val (lim a.natAbs):=by
 unfold sz at h1 h2;exact⟨ω,ω,aI _,aI _,fA h,by rw[aB,aB];exact h⟩
theorem Az(h1:sz a<=1000000000)(h2:sz b<=1000000000):(lim a.natAbs).length<=1000000000000/\(lim b.natAbs).length<=1000000000000/\Lb (lim a.natAbs)/\Lb (lim b.natAbs):=by
 unfold sz at h1 h2;exact⟨ω,ω,aI _,aI _⟩
theorem Xb(h:¬b<0):AV.agg [Cell.v (.bool (decide ((((lim b.natAbs).map λx=>[Cell.v (u32 x)]).length:Int)>0))),zl b]=Z (-b):=by
 show _=AV.agg [zs (-b),zl (-b)];unfold zs zl;have:=bP (n:=b.natAbs);rw[Int.natAbs_neg,aG,show decide ((((lim b.natAbs).length:Nat):Int)>0)=decide (-b<0) by rw[decide_eq_decide];omega]
theorem Vt(h:b<0):AV.agg [Cell.v (.bool false),zl b]=Z (-b):=by
 show _=AV.agg [zs (-b),zl (-b)];unfold zs zl;rw[Int.natAbs_neg,decide_eq_false (show¬-b<0 by omega)]
theorem Za(h:gK a (-9223372036854775808)<0):packA [AV.c (Cell.v (.int .i64 0)),AV.c (Cell.v (.bool false))]=AV.tup [.int .i64 (if -9223372036854775808<=a/\a<=9223372036854775807 then a else 0),.bool (decide (-9223372036854775808<=a/\a<=9223372036854775807))]:=by
 have:=wF.1 h;rw[if_neg ω,decide_eq_false ω];rfl
theorem ZF(h:gK a 9223372036854775807>0):packA [AV.c (Cell.v (.int .i64 0)),AV.c (Cell.v (.bool false))]=AV.tup [.int .i64 (if -9223372036854775808<=a/\a<=9223372036854775807 then a else 0),.bool (decide (-9223372036854775808<=a/\a<=9223372036854775807))]:=by
 have:=wR.1 h;rw[if_neg ω,decide_eq_false ω];rfl
theorem Yq(h:¬gK a (-9223372036854775808)<0)(h2:¬gK a 9223372036854775807>0):-9223372036854775808<=a/\a<=9223372036854775807:=by
 have h3:=mt wF.2 h;have h4:=mt wR.2 h2;omega
theorem Y0{x:Int}(hb : -9223372036854775808<=a/\a<=9223372036854775807)(hx:x=a):packA [AV.c (Cell.v (.int .i64 x)),AV.c (Cell.v (.bool true))]=AV.tup [.int .i64 (if -9223372036854775808<=a/\a<=9223372036854775807 then a else 0),.bool (decide (-9223372036854775808<=a/\a<=9223372036854775807))]:=by
 rw[if_pos hb,decide_eq_true hb,hx];rfl
theorem YP(hb : -9223372036854775808<=a/\a<=9223372036854775807):(lim a.natAbs).length<=1000000000000/\Lb (lim a.natAbs)/\val (lim a.natAbs)<18446744073709551616:=by
 have:=dV hb.1 hb.2;unfold sz at this;exact⟨ω,aI _,by rw[aB];omega⟩
theorem MI(h1:sz a<=1000000000)(h2:sz b<=1000000000)(h:¬b.natAbs=0):(lim a.natAbs).length<=100000000000/\(lim b.natAbs).length<=100000000000/\Lb (lim a.natAbs)/\Lb (lim b.natAbs)/\0<b.natAbs:=by
 unfold sz at h1 h2;exact⟨ω,ω,aI _,aI _,ω⟩
theorem dqI(h:¬b.natAbs=0):val (pad (Py (lim a.natAbs) (lim b.natAbs)) (a.natAbs/b.natAbs))=a.natAbs/b.natAbs:=by
 have:=WY (aI a.natAbs) (aI b.natAbs) (by rw[aB];omega)
 rwa [aB,aB]at this
theorem drI(h:¬b.natAbs=0):val (pad (Nq (lim a.natAbs) (lim b.natAbs)) (a.natAbs%b.natAbs))=a.natAbs%b.natAbs:=by
 have:=U2 (aI a.natAbs) (aI b.natAbs) (by rw[aB];omega)
 rwa [aB,aB]at this
theorem PX{r:Nat}(h0:0<r)(h:((decide (a<0)&&decide (0<r)) != decide (b<0))=true):(decide (a<0) != decide (b<0))=true:=by rwa [decide_eq_true h0,Bool.and_true]at h
theorem Qd{r:Nat}(h0:0<r)(h:((decide (a<0)&&decide (0<r)) != decide (b<0))=false):¬(decide (a<0) != decide (b<0))=true:=by rw[decide_eq_true h0,Bool.and_true]at h;rw[h];decide
theorem abn(h:sz a<=1000000000)(s:Bool):sz (bZ s (a.natAbs/b.natAbs))<=1000000000:=aO (vY _ _ a (EZ _ _)) h
theorem adi(h:sz a<=1000000000)(s:Bool):sz (bZ s (a.natAbs%b.natAbs))<=1000000000:=aO (vY _ _ a (Nat.mod_le _ _)) h
theorem ac5:sz 1<=1000000000:=aO (dV ψ ψ) ψ
end
section
variable {a b:Int} {m n:Nat}
theorem acA(h1:(lim m).length<=1000000000)(h2:(lim n).length<=1000000000)(h:(((lim n).length:Nat):Int)>0):(lim m).length<=1000000000/\(lim n).length<=1000000000/\CanL (lim m)/\CanL (lim n)/\0<val (lim n):=by
 have:=bP (n:=n);exact⟨h1,h2,CanL.lim _,CanL.lim _,by rw[aB];omega⟩
theorem XI(h:¬(((lim m).length:Nat):Int)>2):(lim m).length<=1000000000000/\Lb (lim m)/\val (lim m)<18446744073709551616:=by
 have:=mY (n:=m) ω;exact⟨ω,aI _,by rw[aB];omega⟩
theorem acp:some (AV.c (lmc (lim (val (lim m)%val (lim n)))))=some (AV.c (lmc (lim (m%n)))):=by rw[aB,aB]
theorem RU{x:Nat}(h0:n=0)(hg:Nat.gcd m n=Nat.gcd a.natAbs b.natAbs)(hx:x=m):packA [Z (bZ false x)]=Z ((Nat.gcd a.natAbs b.natAbs:Nat):Int):=H8 (by
 subst h0 hx;rw[<-hg,Nat.gcd_zero_right];rfl)
theorem gv:some (AV.int .u64 ((val (lim m):Nat):Int))=some (AV.int .u64 ((m:Nat):Int)):=by rw[aB]
theorem glt(h:¬(((lim m).length:Nat):Int)>2):m<1000000000000000000:=mY ω
theorem YR(u v:Nat):(u:Int).tmod (v:Int)=((u%v:Nat):Int):=by rw[Int.tmod_eq_emod_of_nonneg ω];rfl
theorem gm2{u v:Nat}:some (AV.int .u64 ((u:Int).tmod (v:Int)))=some (AV.int .u64 ((u%v:Nat):Int)):=by rw[YR]
theorem N9(x y:Int)(h:x=y):some (Bk.var [zs x,zl x])=some (Bk.var [zs y,zl y]):=by rw[h]
theorem wif(h:sz ((m:Nat):Int)<=2):some (AV.int .u64 ((if sz ((m:Nat):Int)<=2 then((m:Nat):Int).natAbs else 0:Nat):Int))=some (AV.int .u64 ((m:Nat):Int)):=by rw[if_pos h];rfl
theorem acM(h1:sz ((m:Nat):Int)<=1000000000)(h2:sz ((n:Nat):Int)<=1000000000)(h:(((lim ((n:Nat):Int).natAbs).length:Nat):Int)>0):(lim ((m:Nat):Int).natAbs).length<=100000000000/\(lim ((n:Nat):Int).natAbs).length<=100000000000/\Lb (lim ((m:Nat):Int).natAbs)/\Lb (lim ((n:Nat):Int).natAbs)/\0<val (lim ((n:Nat):Int).natAbs):=by
 have:=bP (n:=((n:Nat):Int).natAbs);have k:=MI h1 h2 ω;rw[aB];exact k
theorem gst(h:(((lim ((n:Nat):Int).natAbs).length:Nat):Int)>0):bZ false (val (pad (Nq (lim ((m:Nat):Int).natAbs) (lim ((n:Nat):Int).natAbs)) (val (lim ((m:Nat):Int).natAbs)%val (lim ((n:Nat):Int).natAbs))))=((m%n:Nat):Int):=by
 have:=bP (n:=((n:Nat):Int).natAbs);rw[aB,aB,drI ω];rfl
theorem adq(h:(((lim ((n:Nat):Int).natAbs).length:Nat):Int)>0):0<n:=by
 have h2:=bP (n:=((n:Nat):Int).natAbs);rw[wJ]at h2 h;omega
theorem Y2(h:¬(((lim ((n:Nat):Int).natAbs).length:Nat):Int)>0):n=0:=by
 have h2:=bP (n:=((n:Nat):Int).natAbs);rw[wJ]at h2 h;omega
end
end Go.Sw
namespace Go.Proofs.YtmniihkenijjpaaGreatDoor
open Go Go.RowKit Go.Sw
set_option maxRecDepth 100000
set_option maxHeartbeats 8000000
instance aaW(n:Int):DenI Tryz.prog 80 [.int .i64 n] (-9223372036854775808<=n/\n<=9223372036854775807) (Z n):=⟨λhp=>by
 refine au Tryz.func80 rfl ?_
 repeat'((try(conv=>whnf));first
  |(with_reducible refine zad (λ_=>?_) (λ_=>?_)))
 all_goals(try((conv=>whnf);simp(disch:=omega) only[Ox,Ky]))
 all_goals(repeat'((try(conv=>whnf));first
  |refine zaa ?_ ?_|apply zaq))
 all_goals(try apply zar)
 all_goals first
  |exact aI _|omega|(refine H8 ?_;rw[aB];first|exact LU ω|exact NJ ω)⟩
instance aaE(n:Int):DenI Tryz.prog 199 [.int .i64 n] (-9223372036854775808<=n/\n<=9223372036854775807) (Z n):=⟨λhp=>by
 refine au Tryz.func199 rfl ?_
 repeat'((try(conv=>whnf));first
  |(with_reducible refine zad (λ_=>?_) (λ_=>?_)))
 all_goals(try((conv=>whnf);simp(disch:=omega) only[Ox,Ky]))
 all_goals(repeat'((try(conv=>whnf));first
  |refine zaa ?_ ?_|apply zaq))
 all_goals(try apply zar)
 all_goals first
  |exact jr _ _|omega|(refine H8 ?_;rw[jc _ _ ω];first|exact LU ω|exact NJ ω|exact vG n)⟩
instance aaV(a:Int):DenI Tryz.prog 65 [Z a] (True) (.int .i64 (gB a)):=⟨λhp=>by
 refine au Tryz.func65 rfl ?_
 repeat'((try(conv=>whnf));first
  |apply zaf|refine zaa ?_ ?_|(with_reducible first|apply zab|apply zac|refine zad (λ_=>?_) (λ_=>?_)|refine zae (λ_=>?_) (λ_=>?_))|refine zat (λ_=>?_) (λ_=>?_)|refine zah ?_ ?_|refine zas ζ ?_|refine zal ?_ ?_|refine zam ?_ ?_|(with_reducible first|refine zak ?_ ?_|apply zaj|apply zai)|apply zaq)
 all_goals(try apply zar)
 all_goals(try simp only[aG]at *)
 all_goals first
  |with_reducible exact Ux ω|with_reducible exact TJ ω|with_reducible exact TR ω ω|skip⟩
instance aaK(a:Int):DenI Tryz.prog 90 [Z a] (True) (.int .i64 (gB a)):=⟨λhp=>by
 refine au Tryz.func90 rfl ?_
 repeat'((try(conv=>whnf));first
  |(with_reducible refine zad (λ_=>?_) (λ_=>?_))|apply zaq)
 all_goals(try simp only[aG]at *)
 all_goals first
  |with_reducible exact Ux ω|with_reducible exact TJ ω|with_reducible exact TR ω ω⟩
instance acN(a b:Int):DenI Tryz.prog 70 [Z a,Z b] (True) (.int .i64 (gK a b)):=⟨λhp=>by
 refine au Tryz.func70 rfl ?_
 repeat'((try(conv=>whnf));first
  |apply zaf|refine zaa ?_ ?_|(with_reducible first|apply zab|apply zac|refine zad (λ_=>?_) (λ_=>?_)|refine zae (λ_=>?_) (λ_=>?_))|refine zat (λ_=>?_) (λ_=>?_)|refine zah ?_ ?_|refine zas ζ ?_|refine zal ?_ ?_|refine zam ?_ ?_|(with_reducible first|refine zak ?_ ?_|apply zaj|apply zai)|apply zaq)
 all_goals(try apply zar)
 all_goals first
  |with_reducible exact⟨CanL.lim _,CanL.lim _⟩|with_reducible exact⟨aI _,aI _⟩|with_reducible exact aI _|with_reducible exact jr _ _|with_reducible exact Td ξ ξ|with_reducible exact Ug ξ ξ|with_reducible exact Ti ξ ξ|with_reducible exact TK ξ ξ|skip⟩
instance acV(a b:Int):DenI Tryz.prog 157 [Z a,Z b] (True) (.int .i64 (gK a b)):=⟨λhp=>by
 refine au Tryz.func157 rfl ?_
 repeat'((try(conv=>whnf));first
  |refine zaa ?_ ?_|(with_reducible refine zad (λ_=>?_) (λ_=>?_))|refine zat (λ_=>?_) (λ_=>?_)|apply zaq)
 all_goals(try apply zar)
 all_goals first
  |with_reducible exact⟨aI _,aI _⟩|with_reducible exact Td ξ ξ|with_reducible exact Ug ξ ξ|with_reducible exact Ti ξ ξ|with_reducible exact TK ξ ξ⟩
instance aaS(a b:Int):DenI Tryz.prog 111 [Z a,Z b] (True) (.bool (decide (a=b))):=⟨λhp=>by
 refine au Tryz.func111 rfl ?_
 repeat'((try(conv=>whnf));first
  |apply zaf|refine zaa ?_ ?_|(with_reducible first|apply zab|apply zac|refine zad (λ_=>?_) (λ_=>?_)|refine zae (λ_=>?_) (λ_=>?_))|refine zat (λ_=>?_) (λ_=>?_)|refine zah ?_ ?_|refine zas ζ ?_|refine zal ?_ ?_|refine zam ?_ ?_|(with_reducible first|refine zak ?_ ?_|apply zaj|apply zai)|apply zaq)
 all_goals(try apply zar)
 all_goals first
  |with_reducible exact⟨CanL.lim _,CanL.lim _⟩|with_reducible exact⟨aI _,aI _⟩|with_reducible exact aI _|with_reducible exact jr _ _|with_reducible exact Vu ξ|with_reducible exact XA ξ|skip⟩
instance ads(a:Int):DenI Tryz.prog 140 [Z a] (sz a<=1000000000) (Z (-a)):=⟨λhp=>by
 refine au Tryz.func140 rfl ?_
 repeat'((try(conv=>whnf));first
  |apply zaf|refine zaa ?_ ?_|(with_reducible first|apply zab|apply zac|refine zad (λ_=>?_) (λ_=>?_)|refine zae (λ_=>?_) (λ_=>?_))|refine zat (λ_=>?_) (λ_=>?_)|refine zah ?_ ?_|refine zas ζ ?_|refine zal ?_ ?_|refine zam ?_ ?_|(with_reducible first|refine zak ?_ ?_|apply zaj|apply zai)|apply zaq)
 all_goals(try apply zar)
 all_goals(try simp only[aG]at *)
 all_goals first
  |with_reducible exact⟨CanL.lim _,CanL.lim _⟩|with_reducible exact⟨aI _,aI _⟩|with_reducible exact aI _|with_reducible exact jr _ _|with_reducible exact TB|(unfold sz at hp;omega)|skip⟩
instance abl(a:Int):DenI Tryz.prog 155 [Z a] (sz a<=1000000000) (Z (-a)):=⟨λhp=>by
 refine au Tryz.func155 rfl ?_
 repeat'((try(conv=>whnf));first
  |refine zaa ?_ ?_|refine zah ?_ ?_|refine zas ζ ?_|apply zaq)
 all_goals(try apply zar)
 all_goals(try simp only[aG]at *)
 all_goals first
  |with_reducible exact aI _|with_reducible exact TB|(unfold sz at hp;omega)⟩
instance ado(a b:Int):DenI Tryz.prog 71 [Z a,Z b] (sz a<=1000000000/\sz b<=1000000000) (Z (a*b)):=⟨λhp=>by
 refine au Tryz.func71 rfl ?_
 repeat'((try(conv=>whnf));first
  |apply zaf|refine zaa ?_ ?_|(with_reducible first|apply zab|apply zac|refine zad (λ_=>?_) (λ_=>?_)|refine zae (λ_=>?_) (λ_=>?_))|refine zat (λ_=>?_) (λ_=>?_)|refine zah ?_ ?_|refine zas ζ ?_|refine zal ?_ ?_|refine zam ?_ ?_|(with_reducible first|refine zak ?_ ?_|apply zaj|apply zai)|apply zaq)
 all_goals(try apply zar)
 all_goals first
  |with_reducible exact⟨CanL.lim _,CanL.lim _⟩|with_reducible exact⟨aI _,aI _⟩|with_reducible exact aI _|with_reducible exact jr _ _|with_reducible exact Az hp.1 hp.2|with_reducible exact YO|with_reducible exact Uo|skip⟩
instance ab2(a b:Int):DenI Tryz.prog 122 [Z a,Z b] (sz a<=1000000000/\sz b<=1000000000) (Z (a*b)):=⟨λhp=>by
 refine au Tryz.func122 rfl ?_
 repeat'((try(conv=>whnf));first
  |refine zaa ?_ ?_|refine zas ζ ?_|apply zaq)
 all_goals(try apply zar)
 all_goals first
  |with_reducible exact jr _ _|with_reducible exact Az hp.1 hp.2|with_reducible exact Uo⟩
instance ab6(a b:Int):DenI Tryz.prog 109 [Z a,Z b] (sz a<=1000000000/\sz b<=1000000000) (Z (a+b)):=⟨λhp=>by
 refine au Tryz.func109 rfl ?_
 repeat'((try(conv=>whnf));first
  |apply zaf|refine zaa ?_ ?_|(with_reducible first|apply zab|apply zac|refine zad (λ_=>?_) (λ_=>?_)|refine zae (λ_=>?_) (λ_=>?_))|refine zat (λ_=>?_) (λ_=>?_)|refine zah ?_ ?_|refine zas ζ ?_|refine zal ?_ ?_|refine zam ?_ ?_|(with_reducible first|refine zak ?_ ?_|apply zaj|apply zai)|apply zaq)
 all_goals(try apply zar)
 all_goals first
  |with_reducible exact⟨CanL.lim _,CanL.lim _⟩|with_reducible exact⟨aI _,aI _⟩|with_reducible exact aI _|with_reducible exact jr _ _|with_reducible exact Az hp.1 hp.2|exact xW hp.1 hp.2 (kS.1 (by rename_i h;rw[aB,aB]at h;omega))|exact xW hp.2 hp.1 (by rename_i h;rw[aB,aB]at h;have:=mt kS.2 h;omega)|exact xW hp.2 hp.1 (by rename_i h;rw[aB,aB]at h;have:=nJ.1 h;omega)|with_reducible exact Yf ξ|with_reducible exact ZA ξ ξ|with_reducible exact Y8 ξ ξ|with_reducible exact Uz ξ|with_reducible exact TD ξ ξ|with_reducible exact Uf ξ ξ|skip⟩
instance abu(a b:Int):DenI Tryz.prog 201 [Z a,Z b] (sz a<=1000000000/\sz b<=1000000000) (Z (a+b)):=⟨λhp=>by
 refine au Tryz.func201 rfl ?_
 repeat'((try(conv=>whnf));first
  |refine zaa ?_ ?_|(with_reducible refine zad (λ_=>?_) (λ_=>?_))|refine zat (λ_=>?_) (λ_=>?_)|refine zas ζ ?_|apply zaq)
 all_goals(try apply zar)
 all_goals first
  |with_reducible exact⟨aI _,aI _⟩|with_reducible exact jr _ _|with_reducible exact Az hp.1 hp.2|exact xW hp.1 hp.2 (kS.1 (by rename_i h;rw[aB,aB]at h;omega))|exact xW hp.2 hp.1 (by rename_i h;rw[aB,aB]at h;have:=nJ.1 h;omega)|with_reducible exact Uz ξ|with_reducible exact TD ξ ξ|with_reducible exact Uf ξ ξ⟩
end Go.Proofs.YtmniihkenijjpaaGreatDoor
namespace Go.Sw
open Go Go.RowKit
section
variable {P:Program} {f:FuncId} {xs:List AV} {w:World} {X:List Nat} {vs:List Value}
theorem ZY{u:Value}{x:AV}(h:RepD w X u x):∀(i:Nat) a b,[u][i]?=some a->[x][i]?=some b->RepD w X a b:=λi a b h1 h2=>by
 cases i with
 |zero=>simp at h1 h2;subst h1 h2;exact h
 |succ i=>simp at h1
theorem Ul{u v:Value}{x y:AV}(h:RepD w X u x)(k:RepD w X v y):∀(i:Nat) a b,[u,v][i]?=some a->[x,y][i]?=some b->RepD w X a b:=λi a b h1 h2=>by
 match i with
 |0=>simp at h1 h2;subst h1 h2;exact h
 |1=>simp at h1 h2;subst h1 h2;exact k
 |_+2=>simp at h1
theorem J7{u:Value}{c:Cell}(h:RepR w X u (.c c)):RepC w X u c:=by
 generalize hv:AV.c c=v at h;cases h with
 |d h =>
  cases h with
  |c h=>injection hv with hv;subst hv;exact h
  |agg h=>cases hv
 |tup _ _=>cases hv
theorem Vq{u x:Value}(h:RepC w X u (.v x)):u=x:=by
 generalize hc:Cell.v x=c at h;cases h with
 |v _ _=>injection hc with hc;exact hc.symm
 |sl=>cases hc
 |p=>cases hc
 |fn=>cases hc
theorem ZB{l:List Nat}(h : @Den P (Wld.any P) f xs (.c (lmc l)))(hX:∀m∈X,m<w.heap.size)(hl:vs.length=xs.length)(hr:∀(i:Nat) u v,vs[i]?=some u->xs[i]?=some v->RepD w X u v):Calls P f vs.toArray w (Ret λr w'=>UL w' X r l/\Below w.heap.size w w') :=
 ((@Den.old P (Wld.any P) _ _ _ h (noTup_rep hl hr)).2 w X vs trivial hX hl hr).mono λe w' ⟨u,he,hR,hb⟩=>⟨u,he,UL.of_rep (J7 hR.r),hb⟩
theorem abG{x:Value}(h : @Den P (Wld.any P) f xs (.c (.v x)))(hX:∀m∈X,m<w.heap.size)(hl:vs.length=xs.length)(hr:∀(i:Nat) u v,vs[i]?=some u->xs[i]?=some v->RepD w X u v):Calls P f vs.toArray w (Ret λr w'=>r=x/\Below w.heap.size w w') :=
 ((@Den.old P (Wld.any P) _ _ _ h (noTup_rep hl hr)).2 w X vs trivial hX hl hr).mono λe w' ⟨u,he,hR,hb⟩=>⟨u,he,Vq (J7 hR.r),hb⟩
theorem Qw{u:Value}{l m:List Nat}(h:RepR w X u (.tup [.c (lmc l),.c (lmc m)])):∃r0 r1,u=.tuple #[r0,r1]/\UL w X r0 l/\UL w X r1 m:=by
 generalize hv:AV.tup [.c (lmc l),.c (lmc m)]=v at h;cases h with
 |d h=>cases h with
  |c h=>cases hv
  |agg h=>cases hv
 |@tup us vs hl h =>
  injection hv with hv
  subst hv
  match us,hl with
  |[r0,r1],_=>exact⟨r0,r1,rfl,(h 0 r0 _ rfl rfl).ul,(h 1 r1 _ rfl rfl).ul⟩
theorem ZQ{l m:List Nat}(h : @Den P (Wld.any P) f xs (.tup [.c (lmc l),.c (lmc m)]))(hX:∀m∈X,m<w.heap.size)(hl:vs.length=xs.length)(hr:∀(i:Nat) u v,vs[i]?=some u->xs[i]?=some v->RepD w X u v):Calls P f vs.toArray w (Ret λr w'=>(∃r0 r1,r=.tuple #[r0,r1]/\UL w' X r0 l/\UL w' X r1 m)/\Below w.heap.size w w') :=
 ((@Den.old P (Wld.any P) _ _ _ h (noTup_rep hl hr)).2 w X vs trivial hX hl hr).mono λe w' ⟨u,he,hR,hb⟩=>⟨u,he,Qw hR.r,hb⟩
end
end Go.Sw
namespace Go.Proofs.YtmniihkenijjpaaGreatDoor
open Go Go.RowKit Go.Sw
set_option maxRecDepth 100000
set_option maxHeartbeats 8000000
theorem gW{w:World}{X:List Nat}(hX:∀m∈X,m<w.heap.size){v_l:Value}{l:List Nat}(h_l:UL w X v_l (l)):
 Calls Tryz.prog 230 #[v_l] w (Ret λr w'=>(UL w' X r (ah l))/\Below w.heap.size w w'):=ZB ((inferInstance:DenI Tryz.prog 230 [.c (lmc l)] _ _).den trivial) hX rfl (ZY (.c h_l.rep))
theorem qy{w:World}{X:List Nat}(hX:∀m∈X,m<w.heap.size){v_a:Value}{a:List Nat}(h_a:UL w X v_a (a)){v_b:Value}{b:List Nat}(h_b:UL w X v_b (b))(ha:Lb a)(hb:Lb b):
 Calls Tryz.prog 198 #[v_a,v_b] w (Ret λr w'=>(r=.int .i64 (dN (val a) (val b)))/\Below w.heap.size w w'):=abG ((inferInstance:DenI Tryz.prog 198 [.c (lmc a),.c (lmc b)] _ _).den ⟨ha,hb⟩) hX rfl (Ul (.c h_a.rep) (.c h_b.rep))
theorem kJ{w:World}{X:List Nat}(hX:∀m∈X,m<w.heap.size){v_a:Value}{a:List Nat}(h_a:UL w X v_a (a))(b:Nat)(hn_a:a.length<=1000000000000)(hb_a:Lb a)(hb0:0<b)(hb1:b<1000000000):
 Calls Tryz.prog 231 #[v_a,(.int .u32 ((b:Nat):Int))] w (Ret λr w'=>(∃qs:List Nat,∃rs:List Nat,∃r0 r1,r=.tuple #[r0,r1]/\UL w' X r0 (qs)/\UL w' X r1 (rs)/\Lb qs/\Lb rs/\val a=b*val qs+val rs/\val rs<b/\qs.length=a.length/\rs.length=1)/\Below w.heap.size w w'):=(ZQ ((inferInstance:DenI Tryz.prog 231 [.c (lmc a),.int .u32 (b:Nat)] _ _).den ⟨hn_a,hb_a,hb0,hb1⟩) hX rfl (Ul (.c h_a.rep) (.c (.v _ rfl)))).mono λe w' ⟨u,he,⟨r0,r1,h1,h2,h3⟩,hb⟩=>⟨u,he,⟨_,_,r0,r1,h1,h2,h3,KP hb_a hb0 hb1⟩,hb⟩
end Go.Proofs.YtmniihkenijjpaaGreatDoor
namespace Go.Proofs.YtmniihkenijjpaaGreatDoor
open Go Go.RowKit Go.Sw
set_option maxRecDepth 20000
namespace TfE
theorem el154:Sw.elemOf Tryz.prog 154=some (#[.int .u32 0],1,4):=ζ
theorem one154:isOne Tryz.prog 154=true:=ζ
theorem size154:(Tryz.prog.info? 154).map (λi=>i.size)=some 1:=ζ
theorem sl26:sliceOf Tryz.prog 26=some (154,1):=ζ
theorem sls26:(sliceOf Tryz.prog 26).isSome=true:=ζ
theorem und152:Tryz.prog.underlying 152=some (TypeDesc.int .u64):=ζ
theorem und154:Tryz.prog.underlying 154=some (TypeDesc.int .u32):=ζ
theorem unds152:(Tryz.prog.underlying 152).isSome=true:=ζ
theorem unds154:(Tryz.prog.underlying 154).isSome=true:=ζ
end TfE
set_option maxHeartbeats 4000000 in
theorem kY{w:World}{X:List Nat}(hX:∀m∈X,m<w.heap.size){v_a:Value}{a:List Nat}(h_a:UL w X v_a (a)){v_b:Value}{b:List Nat}(h_b:UL w X v_b (b))(hn_a:a.length<=1000000000000)(hn_b:b.length<=1000000000000)(hb_a:Lb a)(hb_b:Lb b):
 Calls Tryz.prog 161 #[v_a,v_b] w (Ret λr w'=>(∃o:List Nat,Zh 154 w w' r (o)/\Lb o/\val o=val a*val b/\o.length=a.length+b.length)/\Below w.heap.size w w'):=by
 refine enter (N:=68) (fn:=Tryz.f161) (vs:=[v_a,v_b]) Tryz.func161 rfl rfl rfl ?_;intro fa hF;obtain⟨A_a,_,c_a,rfl,rfl,hu_a⟩:=h_a;have hl_a:=hu_a.len;have hc_a:=hu_a.cap;obtain⟨A_b,_,c_b,rfl,rfl,hu_b⟩:=h_b;have hl_b:=hu_b.len;have hc_b:=hu_b.cap;replace hF:Frm 68 fa [(0,(.slice (A_a) (a.length) (c_a))),(1,(.slice (A_b) (b.length) (c_b)))]:=hF;have hS:=St.refl w;refine c_seq ?_;refine c_reg ?_;refine pr hF (pa rfl <| PR.nil) ?_;clear hF fa;intro fa hF;refine ak ?_;refine c_seq ?_;refine c_reg ?_;refine pr hF (pm rfl <| pg (λ_ hF=>iR TfE.sls26 (hF.ev rfl)) <| pm rfl <| pg (λ_ hF=>iR TfE.sls26 (hF.ev rfl)) <| pg (λ_ hF=>ex_add (hF.ev rfl) (hF.ev rfl) gI) <| PR.nil) ?_;clear hF fa;intro fa hF;refine st rfl (F6 (X:=X) (nl:=a.length+b.length) (nc:=a.length+b.length) hF hS rfl TfE.sl26 TfE.el154 rfl rfl ω ω ω ω ω (Ag _) ?_);intro g1 w2 hg4 hS E3;refine mM ?_;clear hF fa;intro fa hF;rw[Nat.mul_one]at hS;refine pr hF (pa rfl <| PR.nil) ?_;clear hF fa;intro fa hF;refine ak ?_;refine c_seq ?_;refine c_seq ?_;refine c_reg ?_;refine pr hF (pm rfl <| pg (λ_ hF=>iR TfE.sls26 (hF.ev rfl)) <| pm rfl <| PR.nil) ?_;clear hF fa;intro fa hF;refine ak ?_;refine c_block ?_;refine sK (λmu fa w'=>∃o:List Nat,∃i:Nat,Frm 68 fa [(0,(.slice (A_a) (a.length) (c_a))),(1,(.slice (A_b) (b.length) (c_b))),(4,(.slice (none) (0) (0))),(5,(.slice (some ⟨g1,0,none⟩) (a.length+b.length) (a.length+b.length))),(18,(.slice (A_a) (a.length) (c_a))),(19,(.int .i64 (((a.length:Nat):Int)))),(20,(.int .i64 (((i:Nat):Int))))]/\St w w' [(g1,154,(us (o)).toArray)]/\Ext w2 (g1::X) w' (g1::X)/\(i<=a.length)/\(o.length=a.length+b.length)/\(Lb o)/\(val (o.take (i+b.length))=val (a.take i)*val b)/\a.length-i=mu) ?_ ?_
 ·
  exact⟨_,List.replicate (a.length+b.length) 0,0,(hF.all ⟨rfl,rfl,rfl,rfl,rfl,rfl,(aX rfl ω),trivial⟩),hS,Ext.refl _ _,ω,η,(fD _),(by simp[oI,List.take_replicate,val]),rfl⟩
 clear hF fa;intro n0_ fa w' hI;clear hS;obtain⟨o,i,hF,hS,E6,hi,ho,hbo,hv,rfl⟩:=hI
 rename World=>w5
 refine c_seq ?_;refine c_reg ?_;refine pr hF (pg (λ_ hF=>ex_lss (hF.ev rfl) (hF.ev rfl)) <| PR.nil) ?_;clear hF fa;intro fa hF;refine ak ?_;refine c_seq ?_;refine fK hF rfl (λhc7=>?_) (λhc7=>?_)
 ·
  have hc7p:((i:Nat):Int)<((a.length:Nat):Int):=by first|simpa using hc7|exact bM hc7|exact bK hc7
  refine c_skip ?_;refine x_tn ?_;refine c_seq ?_;refine c_block ?_;refine c_seq ?_;refine c_reg ?_;refine pr hF (pm rfl <| PR.nil) ?_;clear hF fa;intro fa hF;obtain⟨ad8,hA9,hq10⟩:=(hu_a.ext (E3.trans E6)).cl.at_ (iW (l:=a) (i:=i) ω);refine pr hF (pg (λ_ hF=>iT (j:=i) TfE.sl26 (hF.ev rfl) hA9 (hF.ev rfl) ω ω) <| pg (λ_ hF=>ex_load1 TfE.one154 (hF.ev rfl) hq10) <| pa rfl <| pa rfl <| PR.nil) ?_;clear hF fa;intro fa hF;refine ak ?_;refine c_seq ?_;refine c_reg ?_;refine pr hF (pa rfl <| PR.nil) ?_;clear hF fa;intro fa hF;refine ak ?_;refine c_seq ?_;refine c_seq ?_;refine c_reg ?_;refine pr hF (pm rfl <| pg (λ_ hF=>iR TfE.sls26 (hF.ev rfl)) <| pm rfl <| PR.nil) ?_;clear hF fa;intro fa hF;refine ak ?_;refine c_block ?_;refine sK (λmu fa w'=>∃o2:List Nat,∃cr:Nat,∃k:Nat,Frm 68 fa [(0,(.slice (A_a) (a.length) (c_a))),(1,(.slice (A_b) (b.length) (c_b))),(4,(.slice (none) (0) (0))),(5,(.slice (some ⟨g1,0,none⟩) (a.length+b.length) (a.length+b.length))),(18,(.slice (A_a) (a.length) (c_a))),(19,(.int .i64 (((a.length:Nat):Int)))),(20,(.int .i64 (((i:Nat):Int)))),(21,(.bool (decide (((i:Nat):Int)<((a.length:Nat):Int))))),(6,(.int .i64 (((i:Nat):Int)))),(7,(.int .u32 (((a.getD (i) 0:Nat):Int)))),(25,(.slice (A_b) (b.length) (c_b))),(26,(.int .i64 (((b.length:Nat):Int)))),(8,(.int .u64 (((cr:Nat):Int)))),(27,(.int .i64 (((k:Nat):Int))))]/\St w w' [(g1,154,(us (o2)).toArray)]/\Ext w5 (g1::X) w' (g1::X)/\(k<=b.length)/\(o2.length=a.length+b.length)/\(Lb o2)/\(cr<1000000000)/\(val (o2.take (i+b.length))+1000000000^(i+k)*cr=val (a.take i)*val b+1000000000^i*(a.getD i 0*val (b.take k)))/\b.length-k=mu) ?_ ?_
  ·
   exact⟨_,o,0,0,(hF.all ⟨rfl,rfl,rfl,rfl,rfl,rfl,rfl,rfl,rfl,rfl,rfl,rfl,(aX rfl ω),(aX rfl ω),trivial⟩),hS,Ext.refl _ _,ω,(ho),(hbo),ω,(by simp[val,hv]),rfl⟩
  clear hF fa;intro n1_ fa w' hI;clear hS;obtain⟨o2,cr,k,hF,hS,E12,hk,ho2,hbo2,hcr,hv2,rfl⟩:=hI
  rename World=>BN
  have hak:=hb_a.getD i;have hbk:=hb_b.getD k;have hok:=hbo2.getD (i+k);have hca:=xU hak hbk hok hcr;have hca1:=hca.1;have hca2:=hca.2;refine c_seq ?_;refine c_reg ?_;refine pr hF (pg (λ_ hF=>ex_lss (hF.ev rfl) (hF.ev rfl)) <| PR.nil) ?_;clear hF fa;intro fa hF;refine ak ?_;refine c_seq ?_;refine fK hF rfl (λhc13=>?_) (λhc13=>?_)
  ·
   have hc13p:((k:Nat):Int)<((b.length:Nat):Int):=by first|simpa using hc13|exact bM hc13|exact bK hc13
   refine c_skip ?_;refine x_tn ?_;refine c_seq ?_;refine c_block ?_;refine c_seq ?_;refine c_reg ?_;refine pr hF (pm rfl <| PR.nil) ?_;clear hF fa;intro fa hF;obtain⟨ad14,hA15,hq16⟩:=(hu_b.ext ((E3.trans E6).trans E12)).cl.at_ (iW (l:=b) (i:=k) ω);refine pr hF (pg (λ_ hF=>iT (j:=k) TfE.sl26 (hF.ev rfl) hA15 (hF.ev rfl) ω ω) <| pg (λ_ hF=>ex_load1 TfE.one154 (hF.ev rfl) hq16) <| pa rfl <| pa rfl <| PR.nil) ?_;clear hF fa;intro fa hF;replace hF:Frm 68 fa [(0,(.slice (A_a) (a.length) (c_a))),(1,(.slice (A_b) (b.length) (c_b))),(4,(.slice (none) (0) (0))),(5,(.slice (some ⟨g1,0,none⟩) (a.length+b.length) (a.length+b.length))),(18,(.slice (A_a) (a.length) (c_a))),(19,(.int .i64 (((a.length:Nat):Int)))),(20,(.int .i64 (((i:Nat):Int)))),(21,(.bool (decide (((i:Nat):Int)<((a.length:Nat):Int))))),(6,(.int .i64 (((i:Nat):Int)))),(7,(.int .u32 (((a.getD (i) 0:Nat):Int)))),(25,(.slice (A_b) (b.length) (c_b))),(26,(.int .i64 (((b.length:Nat):Int)))),(8,(.int .u64 (((cr:Nat):Int)))),(27,(.int .i64 (((k:Nat):Int)))),(28,(.bool (decide (((k:Nat):Int)<((b.length:Nat):Int))))),(9,(.int .i64 (((k:Nat):Int)))),(10,(.int .u32 (((b.getD (k) 0:Nat):Int))))]:=(hF.all ⟨rfl,rfl,rfl,rfl,rfl,rfl,rfl,rfl,rfl,rfl,rfl,rfl,rfl,rfl,rfl,rfl,rfl,trivial⟩)
   refine ak ?_;refine c_seq ?_;refine c_reg ?_;refine pr hF (pm rfl <| pm rfl <| pm rfl <| pg (λ_ hF=>ex_add (hF.ev rfl) (hF.ev rfl) gI) <| pg (λ_ hF=>kC (j:=i+k) TfE.sl26 (hF.ev rfl) (hF.ev rfl) ω ω) <| pg (λ_ hF=>eH TfE.one154 (hF.ev rfl) (hS.get 0 rfl) (Vr (by first|omega|(simp;omega)))) <| pg (λ_ hF=>ex_conv TfE.unds154 TfE.und152 (hF.ev rfl) (iQ ω)) <| pm rfl <| pg (λ_ hF=>ex_conv TfE.unds154 TfE.und152 (hF.ev rfl) (iQ ω)) <| pm rfl <| pg (λ_ hF=>ex_conv TfE.unds154 TfE.und152 (hF.ev rfl) (iQ ω)) <| pg (λ_ hF=>ex_mul (hF.ev rfl) (hF.ev rfl) jC) <| pg (λ_ hF=>ex_add (hF.ev rfl) (hF.ev rfl) jC) <| pm rfl <| pg (λ_ hF=>ex_add (hF.ev rfl) (hF.ev rfl) jC) <| pa rfl <| PR.nil) ?_;clear hF fa;intro fa hF;replace hF:Frm 68 fa [(0,(.slice (A_a) (a.length) (c_a))),(1,(.slice (A_b) (b.length) (c_b))),(4,(.slice (none) (0) (0))),(5,(.slice (some ⟨g1,0,none⟩) (a.length+b.length) (a.length+b.length))),(18,(.slice (A_a) (a.length) (c_a))),(19,(.int .i64 (((a.length:Nat):Int)))),(20,(.int .i64 (((i:Nat):Int)))),(21,(.bool (decide (((i:Nat):Int)<((a.length:Nat):Int))))),(6,(.int .i64 (((i:Nat):Int)))),(7,(.int .u32 (((a.getD (i) 0:Nat):Int)))),(25,(.slice (A_b) (b.length) (c_b))),(26,(.int .i64 (((b.length:Nat):Int)))),(8,(.int .u64 (((cr:Nat):Int)))),(27,(.int .i64 (((k:Nat):Int)))),(28,(.bool (decide (((k:Nat):Int)<((b.length:Nat):Int))))),(9,(.int .i64 (((k:Nat):Int)))),(10,(.int .u32 (((b.getD (k) 0:Nat):Int)))),(11,(.int .u64 ((((o2.getD (i+k) 0:Nat):Int)+(((a.getD (i) 0:Nat):Int)*((b.getD (k) 0:Nat):Int)))+((cr:Nat):Int))))]:=(hF.all ⟨rfl,rfl,rfl,rfl,rfl,rfl,rfl,rfl,rfl,rfl,rfl,rfl,rfl,rfl,rfl,rfl,rfl,rfl,trivial⟩)
   refine ak ?_;refine c_reg ?_;refine pr hF (pm rfl <| pm rfl <| pm rfl <| pg (λ_ hF=>ex_add (hF.ev rfl) (hF.ev rfl) gI) <| pm rfl <| pg (λ_ hF=>ex_rem (hF.ev rfl) (hF.ev rfl) ω (II (x:=((o2.getD (i+k) 0)+((a.getD (i) 0)*(b.getD (k) 0)))+cr) (y:=1000000000) ω ω)) <| pg (λ_ hF=>ex_conv TfE.unds152 TfE.und154 (hF.ev rfl) (yH ω)) <| pm rfl <| pg (λ_ hF=>ex_quo (hF.ev rfl) (hF.ev rfl) ω (D6 (x:=((o2.getD (i+k) 0)+((a.getD (i) 0)*(b.getD (k) 0)))+cr) (y:=1000000000) ω ω ω)) <| pg (λ_ hF=>kC (j:=i+k) TfE.sl26 (hF.ev rfl) (hF.ev rfl) ω ω) <| PR.nil) ?_;clear hF fa;intro fa hF;refine st rfl (fE (vs:=#[.int .u32 (((((o2.getD (i+k) 0)+((a.getD (i) 0)*(b.getD (k) 0)))+cr)%1000000000:Nat):Int)]) (v:=.int .u32 (((((o2.getD (i+k) 0)+((a.getD (i) 0)*(b.getD (k) 0)))+cr)%1000000000:Nat):Int)) (X:=(g1::X)) hF hS 0 rfl η rfl (fJ rfl ω) rfl TfE.size154 rfl (zW (by first|omega|(simp;omega))) ?_);intro w17 hS E18;rw[nZ (by first|omega|(simp;omega))]at hS;refine pr hF (pa rfl <| PR.nil) ?_;clear hF fa;intro fa hF;refine fP ?_;refine x_bn ?_;refine x_tn ?_;refine c_reg ?_;refine pr hF (pg (λ_ hF=>ex_add (hF.ev rfl) (hF.ev rfl) gI) <| pm rfl <| PR.nil) ?_;clear hF fa;intro fa hF;refine fP ?_;refine x_tn ?_;exact⟨_,ω,o2.set (i+k) ((((o2.getD (i+k) 0)+((a.getD (i) 0)*(b.getD (k) 0)))+cr)%1000000000),(((o2.getD (i+k) 0)+((a.getD (i) 0)*(b.getD (k) 0)))+cr)/1000000000,(k+1),(hF.all ⟨rfl,rfl,rfl,rfl,rfl,rfl,rfl,rfl,rfl,rfl,rfl,rfl,(aX rfl ω),(aX rfl ω),trivial⟩),hS,(E12.trans E18),ω,κ,(cO hbo2 ω),ω,(pJ ω ω hv2 ω rfl rfl),rfl⟩
  have hc13p:¬(((k:Nat):Int)<((b.length:Nat):Int)):=by first|simpa using hc13|exact bM hc13|exact bK hc13
  refine c_exit ?_;refine x_te ?_;refine x_te ?_;refine x_bh ?_;refine x_tn ?_;refine c_reg ?_;refine pr hF (pm rfl <| pm rfl <| pm rfl <| pg (λ_ hF=>iR TfE.sls26 (hF.ev rfl)) <| pg (λ_ hF=>ex_add (hF.ev rfl) (hF.ev rfl) gI) <| pm rfl <| pg (λ_ hF=>ex_conv TfE.unds152 TfE.und154 (hF.ev rfl) (yH ω)) <| pg (λ_ hF=>kC (j:=i+b.length) TfE.sl26 (hF.ev rfl) (hF.ev rfl) ω ω) <| PR.nil) ?_;clear hF fa;intro fa hF;refine st rfl (fE (vs:=#[.int .u32 ((cr:Nat):Int)]) (v:=.int .u32 ((cr:Nat):Int)) (X:=(g1::X)) hF hS 0 rfl η rfl (fJ rfl ω) rfl TfE.size154 rfl (zW (by first|omega|(simp;omega))) ?_);intro w19 hS E20;rw[nZ (by first|omega|(simp;omega))]at hS;replace hF:Frm 68 fa [(0,(.slice (A_a) (a.length) (c_a))),(1,(.slice (A_b) (b.length) (c_b))),(4,(.slice (none) (0) (0))),(5,(.slice (some ⟨g1,0,none⟩) (a.length+b.length) (a.length+b.length))),(18,(.slice (A_a) (a.length) (c_a))),(19,(.int .i64 (((a.length:Nat):Int)))),(20,(.int .i64 (((i:Nat):Int)))),(21,(.bool (decide (((i:Nat):Int)<((a.length:Nat):Int))))),(6,(.int .i64 (((i:Nat):Int)))),(7,(.int .u32 (((a.getD (i) 0:Nat):Int)))),(25,(.slice (A_b) (b.length) (c_b))),(26,(.int .i64 (((b.length:Nat):Int)))),(8,(.int .u64 (((cr:Nat):Int)))),(27,(.int .i64 (((k:Nat):Int)))),(28,(.bool (decide (((k:Nat):Int)<((b.length:Nat):Int)))))]:=(hF.all ⟨rfl,rfl,rfl,rfl,rfl,rfl,rfl,rfl,rfl,rfl,rfl,rfl,rfl,rfl,rfl,trivial⟩)
  refine fP ?_;refine x_bn ?_;refine x_tn ?_;refine c_reg ?_;refine pr hF (pg (λ_ hF=>ex_add (hF.ev rfl) (hF.ev rfl) gI) <| pm rfl <| PR.nil) ?_;clear hF fa;intro fa hF;refine fP ?_;refine x_tn ?_;exact⟨_,ω,o2.set (i+b.length) (cr),(i+1),(hF.all ⟨rfl,rfl,rfl,rfl,rfl,rfl,(aX rfl ω),trivial⟩),hS,((E6.trans E12).trans E20),ω,κ,(cO hbo2 ω),(sQ ω (by rw[show k=b.length by omega]at hv2;exact hv2)),rfl⟩
 have hc7p:¬(((i:Nat):Int)<((a.length:Nat):Int)):=by first|simpa using hc7|exact bM hc7|exact bK hc7
 refine c_exit ?_;refine x_te ?_;refine x_te ?_;refine x_bh ?_;refine x_tn ?_;refine c_seq ?_;refine c_reg ?_;refine pr hF (pm rfl <| pa rfl <| PR.nil) ?_;clear hF fa;intro fa hF;refine ak ?_;refine c_ret ?_;rw[aT (l:=o) ω,aT (l:=a) ω]at hv;refine UU hF rfl (jd hF rfl) ?_;exact⟨_,rfl,⟨o,(Own.mk_ (L:=o) (hS.get 0 rfl) (hS.base 0 rfl) ω ω (rfl)),(hbo),(hv),(ho)⟩,hS.below⟩
end Go.Proofs.YtmniihkenijjpaaGreatDoor
