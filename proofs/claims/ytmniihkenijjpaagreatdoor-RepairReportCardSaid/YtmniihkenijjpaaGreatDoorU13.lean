/-
  Rules of the abstract run, plain laws, and what functions answer, for the law RepairReport.
  Conditions: none.
-/
import Derived.Test.YtmniihkenijjpaaGreatDoorU12
import Derived.Laws.Strings
import Derived.Lib.Bytealg
import Derived.Maps.Keyed
import Derived.Maps.StringElems
import Derived.LaidMore
import Derived.OpenShut
import Derived.ProofKit
import Derived.Shelf.LaysM
import Derived.Shelf.Strconv.Itoa1
import Derived.Shelf.Strconv.Itoa2
import Derived.Lib.Walk
import Derived.Lib.ItoaMem
import Derived.Lib.ItoaLen
import Derived.Lib.AppendIntMem
import Derived.WalkKit
import Derived.BigCall
import Derived.BigGuard
set_option linter.all false
namespace Go.Sw
open Go
section
variable {a b c d m n x y:Rat}
end
section
variable {fx fy tx ty x y:Rat} {r fz tz:Int}
end
section
variable {fx fy tx ty x y:Rat} {r fz tz:Int}
end
section
variable {m:Nat} {M:Int} {a b:Rat}
instance:RzB ((1:Int):Rat) 2:=⟨by decide +kernel⟩
end
open Go.RowKit
def kS(s:ByteArray):List Nat:=s.data.toList.map λb=>b.toNat
theorem ji(s:ByteArray):(kS s).length=s.size:=by simp[kS]
theorem Tc(s:ByteArray)(j:Nat):(s.data.toList.getD j 0).toNat=(kS s).getD j 0:=by
 unfold kS;rw[iI,iI,wz];cases s.data.toList[j]?<;>rfl
theorem qO{a b:ByteArray}(h:kS a=kS b):a=b:=by
 have:a.data.toList=b.data.toList:=by
  unfold kS at h;exact(List.map_inj_right (λx y h=>UInt8.toNat_inj.1 h)).1 h
 cases a;cases b;simpa using this
theorem oU(a b:ByteArray):(a.toList == b.toList)=decide (kS a=kS b):=by
 rw[ByteArray.toList_eq,ByteArray.toList_eq]
 by_cases h:kS a=kS b
 .rw[decide_eq_true h,qO h];simp
 .rw[decide_eq_false h];rw[beq_eq_false_iff_ne];exactλe=>h (by unfold kS;rw[e])
theorem Tn(s:ByteArray)(a b:Nat):kS (s.extract a b)=((kS s).take b).drop a:=by
 unfold kS;rw[ByteArray.data_extract,Array.toList_extract,List.extract_eq_take_drop,<-List.map_take,<-List.map_drop,List.drop_take]
theorem oD{s:ByteArray}{i:Int}{k:Int->Prop}(hp:Pr (0<=i/\i<s.size))(hk:k (((kS s).getD i.toNat 0:Nat):Int)):StrAt s i k:=by
 obtain⟨⟨h1,h2⟩⟩:=hp;exact⟨i.toNat,ω,ω,by rw[Tc];exact hk⟩
theorem lX(s:ByteArray):(bytesC s).length=s.size:=by simp[bytesC]
def uU(l:List Nat):Nat:=l.foldl (λa c=>10*a+(c-48)) 0
theorem Po(l:List Nat):∀x,l.foldl (λa c=>10*a+(c-48)) x=x*10^l.length+uU l:=by
 induction l with
 |nil=>intro x;simp[uU]
 |cons c r ih =>
  intro x;unfold uU;simp only[PN,bn];rw[ih,ih (10*0+(c-48)),rG]
  grind
theorem LV(a b:List Nat):uU (a++b)=uU a*10^b.length+uU b:=by
 unfold uU;rw[List.foldl_append,Po];rfl
theorem Js(a:List Nat)(c:Nat):uU (a++[c])=10*uU a+(c-48):=by
 rw[LV];simp[uU];omega
@[reducible] def AV.str(s:ByteArray):AV:=.c (.v (.string s))
section
variable {s b:ByteArray} {k m:Nat}
end
end Go.Sw
namespace Go.Sw
open Go
theorem Ei{a b:ByteArray}(h:a=b):packA [AV.c (Cell.v (.string a))]=AV.str b:=by subst h;rfl
theorem Yk(a:Rat):(a*a).num=a.num*a.num/\((a*a).den:Int)=a.den*a.den:=by
 have e:a^2=a*a:=by rw[Rat.pow_succ,Rat.pow_succ,Rat.pow_zero,Rat.one_mul]
 rw[<-e,Rat.num_pow,Rat.den_pow];refine⟨by rw[Int.pow_succ,Int.pow_succ,Int.pow_zero,Int.one_mul], ?_⟩;rw[rG,rG,Nat.pow_zero,Nat.one_mul];exact J4 _ _
theorem Cc(a:Rat):jW (a*a)=true:=by
 unfold jW;have h:=Yk a;rw[h.1,h.2,bY];exact⟨DI.2 ⟨a.num.natAbs,Int.natAbs_mul_self' a.num⟩,DI.2 ⟨a.den,rfl⟩⟩
def O7(a b c p:P2):Rat:=PK a b c*(p.1-a.1)+PU a b c*(p.2-a.2)-fZ a b c*((p.1-a.1)*(p.1-a.1)+(p.2-a.2)*(p.2-a.2))
theorem lU{a b c p:P2}:uD a b c p=true↔(fZ a b c≠0/\O7 a b c p=0/\(p=a\/p=c\/0<fB a p c*fB a b c)):=by
 unfold uD O7;rw[decide_eq_true_eq];constructor
 .rintro ⟨h1,h2,h3⟩;exact⟨h1,by rw[h2];grind,h3⟩
 .rintro ⟨h1,h2,h3⟩;exact⟨h1,ν,h3⟩
theorem MJ(a b c p:P2):O7 c b a p = -O7 a b c p:=by
 obtain⟨a1,a2⟩:=a;obtain⟨b1,b2⟩:=b;obtain⟨c1,c2⟩:=c;obtain⟨p1,p2⟩:=p;simp only[O7,PK,PU,fZ,cU,cV,cD]
 grind
theorem DV(a b c p:P2):uD c b a p=uD a b c p:=by
 rw[vG,lU,lU,MJ,G6]
 have x1:fB c p a*fB c b a=fB a p c*fB a b c:=by
  have e1:fB c p a = -fB a p c:=by unfold fB;grind
  have e2:fB c b a = -fB a b c:=by unfold fB;grind
  rw[e1,e2];grind
 rw[x1];constructor
 .rintro ⟨h1,h2,h3⟩;exact⟨λe=>h1 (by rw[e];decide +kernel),ν,by rcases h3 with h|h|h<;>simp[h]⟩
 .rintro ⟨h1,h2,h3⟩;exact⟨λe=>h1 ν,by rw[h2];decide +kernel,by rcases h3 with h|h|h<;>simp[h]⟩
theorem plk{n1 n2 n3 b1 b2 b3 m1 m2 m3 k1 k2 k3:Rat}:(n1*b2-n2*b1)*(k1*(b2*m3-b3*m2)-k2*(b1*m3-b3*m1)+k3*(b1*m2-b2*m1)) =
 (k1*b2-k2*b1)*(n1*(b2*m3-b3*m2)-n2*(b1*m3-b3*m1)+n3*(b1*m2-b2*m1))-(m1*b2-m2*b1)*(n1*(b2*k3-b3*k2)-n2*(b1*k3-b3*k1)+n3*(b1*k2-b2*k1)):=ν
theorem QF(a b c p:P2):O7 a b c p = -((b.1-a.1)*((c.2-a.2)*((p.1-a.1)*(p.1-a.1)+(p.2-a.2)*(p.2-a.2))-((c.1-a.1)*(c.1-a.1)+(c.2-a.2)*(c.2-a.2))*(p.2-a.2))-(b.2-a.2)*((c.1-a.1)*((p.1-a.1)*(p.1-a.1)+(p.2-a.2)*(p.2-a.2))-((c.1-a.1)*(c.1-a.1)+(c.2-a.2)*(c.2-a.2))*(p.1-a.1))+((b.1-a.1)*(b.1-a.1)+(b.2-a.2)*(b.2-a.2))*((c.1-a.1)*(p.2-a.2)-(c.2-a.2)*(p.1-a.1))):=by
 simp only[O7,PK,PU,fZ,cU,cV,cD];generalize b.1-a.1=b1;generalize b.2-a.2=b2;generalize c.1-a.1=c1;generalize c.2-a.2=c2;generalize p.1-a.1=p1;generalize p.2-a.2=p2
 grind
theorem U8{a n b m k:P2}(h:fZ a n b≠0)(h1:O7 a n b m=0)(h2:O7 a n b k=0):O7 a k b m=0:=by
 rw[QF]at h1 h2 ⊢;have hD:fZ a n b=(n.1-a.1)*(b.2-a.2)-(n.2-a.2)*(b.1-a.1):=rfl;rw[hD]at h;clear hD;generalize n.1-a.1=n1 at *;generalize n.2-a.2=n2 at *;generalize b.1-a.1=b1 at *;generalize b.2-a.2=b2 at *;generalize m.1-a.1=m1 at *;generalize m.2-a.2=m2 at *;generalize k.1-a.1=k1 at *;generalize k.2-a.2=k2 at *;generalize n1*n1+n2*n2=n3 at *;generalize b1*b1+b2*b2=b3 at *;generalize m1*m1+m2*m2=m3 at *;generalize k1*k1+k2*k2=k3 at *;have id:=plk (n1:=n1) (n2:=n2) (n3:=n3) (b1:=b1) (b2:=b2) (b3:=b3) (m1:=m1) (m2:=m2) (m3:=m3) (k1:=k1) (k2:=k2) (k3:=k3);generalize k1*(b2*m3-b3*m2)-k2*(b1*m3-b3*m1)+k3*(b1*m2-b2*m1)=X at *;generalize n1*(b2*m3-b3*m2)-n2*(b1*m3-b3*m1)+n3*(b1*m2-b2*m1)=Y at *;generalize n1*(b2*k3-b3*k2)-n2*(b1*k3-b3*k1)+n3*(b1*k2-b2*k1)=Z at *;have y0:Y=0:=ν
 have z0:Z=0:=ν
 subst y0 z0;have id2:(n1*b2-n2*b1)*X=0:=by rw[id];grind
 rcases Rat.mul_eq_zero.1 id2 with g|g
 .exact absurd g h
 .rw[g];decide +kernel
theorem Tt{x y z:Rat}(h1:0<x*y)(h2:0<y*z):0<x*z:=by
 have h3:=sH h1 h2;have hy:y≠0:=λe=>by rw[e]at h2;grind
 have h4:0<=y*y:=FI y;refine Decidable.byContradiction λhn=>?_
 have h5:=rF (show 0≤-(x*z) by grind) h4
 grind
theorem UW{a b:P2}:fB a a b=0:=by unfold fB;grind
theorem TV{a b:P2}:fB a b b=0:=by unfold fB;grind
theorem O8{a n b m k:P2}(h1:uD a n b m=true)(h2:uD a n b k=true)(hm:fZ a m b≠0)(hk:fZ a k b≠0):uD a k b m=true:=by
 rw[lU]at h1 h2 ⊢;obtain⟨p1,p2,p3⟩:=h1;obtain⟨_,q2,q3⟩:=h2;refine⟨hk,U8 p1 p2 q2,.inr (.inr ?_)⟩;rw[<-EU]at hm hk
 have p4:0<fB a m b*fB a n b:=by
  rcases p3 with rfl|rfl|h
  .exact absurd UW hm
  .exact absurd TV hm
  .exact h
 have q4:0<fB a k b*fB a n b:=by
  rcases q3 with rfl|rfl|h
  .exact absurd UW hk
  .exact absurd TV hk
  .exact h
 exact Tt p4 ν
theorem qJ{a m b:P2}(h:fZ a m b≠0):uD a m b m=true:=by
 rw[lU];refine⟨h, ?_,.inr (.inr ?_)⟩
 .simp only[O7,PK,PU,fZ,cU,cV,cD];generalize m.1-a.1=m1;generalize m.2-a.2=m2;generalize b.1-a.1=b1;generalize b.2-a.2=b2
  grind
 .rw[<-EU]at h;have h4:0<=fB a m b*fB a m b:=FI _;have h5:fB a m b*fB a m b≠0:=λe=>h (Q8 e)
  grind
theorem AA{a b c:P2}:fZ c b a=0↔fZ a b c=0:=by
 rw[G6];constructor<;>intro h
 .rw[<-Rat.neg_neg (fZ a b c),h];decide +kernel
 .rw[h];decide +kernel
def sA(a m b c n d:P2):Prop:=((a=c/\b=d)\/(a=d/\b=c))/\((fZ a m b=0/\fZ c n d=0/\m=n)\/(fZ a m b≠0/\fZ c n d≠0/\uD c n d m=true/\uD a m b n=true))
theorem wG{a m b c n d:P2}:sA a m b c n d->sA a m b d n c:=by
 rintro ⟨h1,h2⟩;refine⟨h1.symm, ?_⟩;rw[DV c n d m];rcases h2 with⟨g1,g2,g3⟩|⟨g1,g2,g3,g4⟩
 .exact .inl ⟨g1,AA.2 g2,g3⟩
 .exact .inr ⟨g1,λe=>g2 (AA.1 e),g3,g4⟩
theorem AZ{a m b c n d:P2}:sA a m b c n d->sA c n d a m b:=by
 rintro ⟨h1,h2⟩;refine⟨by rcases h1 with⟨rfl,rfl⟩|⟨rfl,rfl⟩<;>simp, ?_⟩;rcases h2 with⟨g1,g2,g3⟩|⟨g1,g2,g3,g4⟩
 .exact .inl ⟨g2,g1,g3.symm⟩
 .exact .inr ⟨g2,g1,g4,g3⟩
theorem zG{a m b n k:P2}:sA a m b a n b->sA a n b a k b->sA a m b a k b:=by
 rintro ⟨_,h2⟩ ⟨_,k2⟩;refine⟨.inl ⟨rfl,rfl⟩, ?_⟩;rcases h2 with⟨g1,g2,g3⟩|⟨g1,g2,g3,g4⟩<;>rcases k2 with⟨f1,f2,f3⟩|⟨f1,f2,f3,f4⟩
 .exact .inl ⟨g1,f2,g3.trans f3⟩
 .exact absurd g2 f1
 .exact absurd f1 g2
 .exact .inr ⟨g1,f2,O8 g3 f4 g1 f2,O8 f4 g3 f2 g1⟩
theorem zL{a m b n u k v:P2}(h:sA a m b a n b)(k':sA a n b u k v):sA a m b u k v:=by
 rcases k'.1 with⟨rfl,rfl⟩|⟨rfl,rfl⟩
 .exact zG h k'
 .exact wG (zG h (wG k'))
theorem Pm{a m b c n d u k v:P2}(h:sA a m b c n d)(k':sA c n d u k v):sA a m b u k v:=by
 rcases h.1 with⟨rfl,rfl⟩|⟨rfl,rfl⟩
 .exact zL h k'
 .exact zL (wG h) (AZ (wG (AZ k')))
def sE(e f:Ent):Prop:=eqS e.layer f.layer=true/\e.kind=f.kind /\
 match e.pts,f.pts with
 |[a],[b]=>a=b/\e.rad=f.rad
 |[a,b],[c,d]=>(a=c/\b=d)\/(a=d/\b=c)
 |[a,m,b],[c,n,d]=>sA a m b c n d
 |_,_=>False
theorem xA{a b c d:P2}:qy a b c d=true↔(a=c/\b=d)\/(a=d/\b=c):=by unfold qy;rw[decide_eq_true_eq]
theorem WC{kd:Int}{ly:ByteArray}{a m b:P2}{rd:Rq}:uT ⟨kd,ly,[a,m,b],rd⟩=decide (fZ a m b=0):=rfl
theorem VY{a m b c n d:P2}:(qy a b c d&&(if(decide (fZ a m b=0)||decide (fZ c n d=0))=true then decide (fZ a m b=0)&&decide (fZ c n d=0)&&decide (m=n)else uD c n d m&&uD a m b n))=true↔sA a m b c n d:=by
 unfold sA;rw[bY,xA];refine and_congr Iff.rfl ?_
 by_cases h1:fZ a m b=0<;>by_cases h2:fZ c n d=0<;>simp[h1,h2]
theorem jJ{e f:Ent}:aZ e f=true↔sE e f:=by
 obtain⟨k1,l1,p1,r1⟩:=e;obtain⟨k2,l2,p2,r2⟩:=f;unfold aZ sE;rw[bY,bY,decide_eq_true_eq,and_assoc];refine and_congr Iff.rfl (and_congr Iff.rfl ?_);simp only
 match p1,p2 with
 |[a],[b]=>simp
 |[a,b],[c,d]=>exact xA
 |[a,m,b],[c,n,d]=>exact VY
 |[],_=>simp
 |[_],[]=>simp
 |[_],_::_::_=>simp
 |[_,_],[]=>simp
 |[_,_],[_]=>simp
 |[_,_],_::_::_::_=>simp
 |[_,_,_],[]=>simp
 |[_,_,_],[_]=>simp
 |[_,_,_],[_,_]=>simp
 |[_,_,_],_::_::_::_::_=>simp
 |_::_::_::_::_,_=>simp
theorem Kv(s t:ByteArray):eqS s t=eqS t s:=by unfold eqS;rw[vG,beq_iff_eq,beq_iff_eq];exact eq_comm
theorem JO{s t u:ByteArray}(h:eqS s t=true)(k:eqS t u=true):eqS s u=true:=by
 unfold eqS at *;rw[eq_of_beq h];exact k
theorem Ij{e f:Ent}:sE e f->sE f e:=by
 obtain⟨k1,l1,p1,r1⟩:=e;obtain⟨k2,l2,p2,r2⟩:=f;unfold sE;simp only;rintro ⟨h1,h2,h3⟩;refine⟨by rw[Kv];exact h1,h2.symm, ?_⟩
 match p1,p2,h3 with
 |[a],[b],h3=>exact⟨h3.1.symm,h3.2.symm⟩
 |[a,b],[c,d],h3=>rcases h3 with⟨rfl,rfl⟩|⟨rfl,rfl⟩<;>simp
 |[a,m,b],[c,n,d],h3=>exact AZ h3
theorem MN{e f g:Ent}:sE e f->sE f g->sE e g:=by
 obtain⟨k1,l1,p1,r1⟩:=e;obtain⟨k2,l2,p2,r2⟩:=f;obtain⟨k3,l3,p3,r3⟩:=g;unfold sE;simp only;rintro ⟨h1,h2,h3⟩ ⟨g1,g2,g3⟩;refine⟨JO h1 g1,h2.trans g2, ?_⟩
 match p1,p2,p3,h3,g3 with
 |[a],[b],[c],h3,g3=>exact⟨h3.1.trans g3.1,h3.2.trans g3.2⟩
 |[a,b],[c,d],[u,v],h3,g3=>rcases h3 with⟨rfl,rfl⟩|⟨rfl,rfl⟩<;>rcases g3 with⟨rfl,rfl⟩|⟨rfl,rfl⟩<;>simp
 |[a,m,b],[c,n,d],[u,k,v],h3,g3=>exact Pm h3 g3
theorem qh(e f:Ent):aZ e f=aZ f e:=by
 rw[vG,jJ,jJ];exact⟨Ij,Ij⟩
theorem Dy{e f g:Ent}(h:aZ e f=true)(k:aZ f g=true):aZ e g=true:=jJ.2 (MN (jJ.1 h) (jJ.1 k))
theorem Nh{a b c p:P2}(h:fZ a b c=0):uD a b c p=false:=by
 rw[Bool.eq_false_iff];intro e;exact(lU.1 e).1 h
@[reducible] def iR(q:Rat):Rq:=⟨decide (q.num<0),lim q.num.natAbs,decide ((q.den:Int)<0),lim (q.den:Int).natAbs⟩
theorem VI{a m b c n d:P2}:(nP [a,m,b] [c,n,d] ||(nP [a,b] [c,d]&&(uD a m b n&&uD c n d m)))=true↔sA a m b c n d:=by
 have h3:nP [a,m,b] [c,n,d]=true↔m=n/\((a=c/\b=d)\/(a=d/\b=c)):=by
  unfold nP;simp;constructor
  .rintro (⟨rfl,rfl,rfl⟩|⟨rfl,rfl,rfl⟩)<;>simp
  .rintro ⟨rfl,⟨rfl,rfl⟩|⟨rfl,rfl⟩⟩<;>simp
 have h2:nP [a,b] [c,d]=true↔((a=c/\b=d)\/(a=d/\b=c)):=by unfold nP;simp
 rw[zS,bY,bY,h3,h2];unfold sA;constructor
 .rintro (⟨rfl,h⟩|⟨h,g1,g2⟩)
  .refine⟨h, ?_⟩;rcases h with⟨rfl,rfl⟩|⟨rfl,rfl⟩
   .by_cases hz:fZ a m b=0
    .exact .inl ⟨hz,hz,rfl⟩
    .exact .inr ⟨hz,hz,qJ hz,qJ hz⟩
   .by_cases hz:fZ a m b=0
    .exact .inl ⟨hz,AA.2 hz,rfl⟩
    .exact .inr ⟨hz,λe=>hz (AA.1 e),by rw[DV a m b];exact qJ hz,qJ hz⟩
  .exact⟨h,.inr ⟨(lU.1 g1).1,(lU.1 g2).1,g2,g1⟩⟩
 .rintro ⟨h,⟨g1,g2,rfl⟩|⟨g1,g2,g3,g4⟩⟩
  .exact .inl ⟨rfl,h⟩
  .exact .inr ⟨h,g4,g3⟩
theorem Dk{α:Type}{p:List α->Prop}(h0:p [])(h1:∀l e,p l->p (l++[e]))(l:List α):p l:=by
 have key:∀r:List α,p r.reverse:=λr=>by
  induction r with
  |nil=>exact h0
  |cons e r ih=>rw[List.reverse_cons];exact h1 _ _ ih
 have:=key l.reverse
 rwa [List.reverse_reverse]at this
theorem oN(l:List Ent)(e:Ent):oZ (l++[e])=oZ l++[(e,(oZ l).any λp=>!p.2&&aZ e p.1)]:=by
 unfold oZ;rw[List.foldl_append];rfl
theorem qU(l:List Ent):(oZ l).map (·.1)=l:=by
 induction l using Dk with
 |h0=>rfl
 |h1 l e ih=>rw[oN,bH,ih];rfl
theorem xu(l:List Ent):(oZ l).length=l.length:=by
 have:=congrArg List.length (qU l);simpa using this
theorem JV(l:List Ent):∀p∈oZ l,p.2=true->∃q∈oZ l,q.2=false/\aZ p.1 q.1=true:=by
 induction l using Dk with
 |h0=>intro p hp;simp[oZ]at hp
 |h1 l e ih =>
  intro p hp h;rw[oN]at hp ⊢;rcases jP.1 hp with hp|hp
  .obtain⟨q,q1,q2,q3⟩:=ih p hp h;exact⟨q,qX _ q1,q2,q3⟩
  .simp only[uy]at hp;subst hp;obtain⟨q,q1,q2⟩:=NG.1 h;rw[bY,uX]at q2;exact⟨q,qX _ q1,q2.1,q2.2⟩
theorem QU(l:List Ent)(e:Ent):((oZ l).any λp=>!p.2&&aZ e p.1)=l.any λf=>aZ f e:=by
 rw[vG,NG,NG];constructor
 .rintro ⟨p,h1,h2⟩;rw[bY]at h2;refine⟨p.1, ?_,by rw[qh];exact h2.2⟩;have:=List.mem_map_of_mem (f:=(·.1)) h1
  rwa [qU]at this
 .rintro ⟨f,h1,h2⟩;rw[<-qU l]at h1;obtain⟨p,h3,rfl⟩:=dR.1 h1;cases h4:p.2 with
  |false=>exact⟨p,h3,by rw[h4,qh,h2];rfl⟩
  |true =>
   obtain⟨q,q1,q2,q3⟩:=JV l p h3 h4;refine⟨q,q1, ?_⟩;rw[q2,Dy (by rw[qh];exact h2) q3];rfl
theorem FX(l:List Ent)(e:Ent):bJ (l++[e])=bJ l++[l.any λf=>aZ f e]:=by
 unfold bJ;rw[oN,bH,<-QU];rfl
theorem fF(l:List Ent):(bJ l).length=l.length:=by unfold bJ;rw[aG,xu]
theorem Ru{l:List Ent}{k:Nat}(h:k<l.length):(oZ l)[k]?=some (l.getD k E0,(bJ l).getD k false):=by
 have h1:k<(oZ l).length:=by rw[xu];exact h
 have e1:((oZ l).map (·.1))[k]?=l[k]?:=by rw[qU]
 rw[wz,fM h1,fM h]at e1;simp only[sF,kW]at e1;rw[fM h1];congr 1;refine Prod.ext ?_ ?_
 .rw[e1];simp[iI,h]
 .simp[bJ,iI,h1]
theorem AY{l:List Ent}{x:Nat}(h:x<l.length):l.take (x+1)=l.take x++[l.getD x E0]:=by
 rw[J6,fM h];simp[iI,h]
def uG(l:List Ent)(x:Nat):List Bool:=bJ (l.take x)++List.replicate (l.length-x) false
theorem Td{l:List Ent}{x:Nat}(h:x<=l.length):(uG l x).length=l.length:=by
 unfold uG;rw[bF,fF,kM,rV];omega
theorem Z4(l:List Ent):uG l 0=List.replicate l.length false:=rfl
theorem SY(l:List Ent):uG l l.length=bJ l:=by unfold uG;rw[xY,Nat.sub_self];simp
def pz(l:List Ent)(x k:Nat):Bool:=((oZ (l.take x)).take k).any λp=>!p.2&&aZ (l.getD x E0) p.1
theorem zJ{l:List Ent}{x k:Nat}(hx:x<l.length)(hk:k<x):pz l x (k+1)=(pz l x k ||(!(uG l x).getD k false&&aZ (l.getD x E0) (l.getD k E0))):=by
 have hk':k<(l.take x).length:=by simp;omega
 unfold pz;rw[J6,List.any_append,Ru hk'];have e1:(l.take x).getD k E0=l.getD k E0:=by simp[iI,hk,wL]
 have e2:(uG l x).getD k false=(bJ (l.take x)).getD k false:=by
  unfold uG;simp only[iI];rw[ED (by rw[fF];exact hk')]
 rw[e1,e2];simp
theorem Ed{l:List Ent}{x:Nat}(hx:x<=l.length):pz l x x=((oZ (l.take x)).any λp=>!p.2&&aZ (l.getD x E0) p.1):=by
 unfold pz;rw[Ko (by rw[xu,kM];omega)]
theorem JU{l:List Ent}{x k:Nat}(hx:x<l.length)(hk:k<x)(h:pz l x (k+1)=true):pz l x x=true:=by
 rw[Ed ω];unfold pz at h;obtain⟨p,h1,h2⟩:=NG.1 h;exact NG.2 ⟨p,Uh h1,h2⟩
theorem Ef{l:List Ent}{x:Nat}(hx:x<l.length):uG l (x+1)=(uG l x).set x (pz l x x):=by
 unfold uG
 have h1:bJ (l.take (x+1))=bJ (l.take x)++[pz l x x]:=by
  rw[AY hx];unfold bJ;rw[oN,bH,Ed ω];rfl
 have h2:List.replicate (l.length-x) false=false::List.replicate (l.length-(x+1)) false:=by
  rw[show l.length-x=(l.length-(x+1))+1 by omega];rfl
 have h3:(bJ (l.take x)).length=x:=by rw[fF,kM];omega
 rw[h1,h2,List.set_append_right _ _ ω,h3,Nat.sub_self];simp
theorem aaG{l:List Ent}{x:Nat}(hx:x<l.length)(h:pz l x x=false):uG l (x+1)=uG l x:=by
 rw[Ef hx,h];have h3:(bJ (l.take x)).length=x:=by rw[fF,kM];omega
 have h2:List.replicate (l.length-x) false=false::List.replicate (l.length-(x+1)) false:=by
  rw[show l.length-x=(l.length-(x+1))+1 by omega];rfl
 unfold uG;rw[h2,List.set_append_right _ _ ω,h3,Nat.sub_self];simp
theorem aaw{l:List Ent}{x k:Nat}(hx:x<l.length)(hk:k<x)(h:pz l x (k+1)=true):uG l (x+1)=(uG l x).set x true:=by
 rw[Ef hx,JU hx hk h]
theorem Ey(a d:Rat):aN (a-d)=dG a d:=by
 unfold aN dG
 by_cases h1:a<d
 .have:a-d<0:=ν
  simp[h1,this]
 .by_cases h2:a=d
  .subst h2;have:a-a=0:=ν
   rw[this];simp[h1]
  .have g1:¬ a-d<0:=ν
   have g2:¬ a-d=0:=ν
   simp[h1,h2,g1,g2]
   grind
theorem ZT:IntKind.i64.wrap (aN 0*aN 0)=0:=by
 have:aN 0=0:=by decide +kernel
 rw[this];decide
theorem Vd{a b:Rat}(h:a=b):packA [AV.c (Cell.v (Value.int IntKind.i64 (IntKind.i64.wrap (0-aN a))))]=AV.int IntKind.i64 (-aN b):=by
 subst h;refine iE ?_;unfold aN
 (repeat' split)<;>decide
theorem abI{X Y x y:Rat}(h:Y<y):true=decide (hf (X,Y) (x,y)=0):=by unfold hf;simp[h]
theorem ac3{X Y x y:Rat}(h1:¬Y<y)(h2:y=Y):decide (X<x)=decide (hf (X,Y) (x,y)=0):=by
 unfold hf;subst h2;by_cases h:X<x<;>simp[h,h1]
theorem acX{X Y x y:Rat}(h1:¬Y<y)(h2:¬y=Y):false=decide (hf (X,Y) (x,y)=0):=by unfold hf;simp[h1,h2]
theorem abR{X Y x y u v:Rat}(h1:(decide (hf (X,Y) (x,y)=0) != decide (hf (X,Y) (u,v)=0))=false)(h2:hf (X,Y) (x,y)=0):IntKind.i64.wrap (0-dG x u)=iW (X,Y) (x,y) (u,v):=by
 have h3:hf (X,Y) (u,v)=0:=by rw[h2]at h1;simpa using h1
 have h4:=nD x u
 have h5:iW (X,Y) (x,y) (u,v) = -(dG x u):=by
  unfold iW;rw[h2,h3,if_pos rfl,if_pos rfl]
 rw[h5];generalize dG x u=c at h4 ⊢;rw[aS ω ω];omega
theorem ac5{k f p q:P2}(h:(decide (iW k p f<0) != decide (iW k q f<0))=true)(h2:iW k q f<0):(-1:Int)=ny k f p q:=by
 have h3:¬iW k p f<0:=λg=>by simp[g,h2]at h
 unfold ny;rw[if_neg (λg=>h3 (g.2 h2)),if_pos h2]
theorem abK{k f p q:P2}(h:(decide (iW k p f<0) != decide (iW k q f<0))=true)(h2:¬iW k q f<0):(1:Int)=ny k f p q:=by
 have h3:iW k p f<0:=by
  rcases Classical.em (iW k p f<0)with g|g
  .exact g
  .simp[g,h2]at h
 unfold ny;rw[if_neg (λg=>h2 (g.1 h3)),if_neg h2]
theorem acJ{k f p q:P2}(h:(decide (iW k p f<0) != decide (iW k q f<0))=false):iW k p q=ny k f p q:=by
 have h3:iW k p f<0↔iW k q f<0:=by
  by_cases g:iW k p f<0<;>by_cases g2:iW k q f<0<;>simp[g,g2]at h ⊢
 unfold ny;rw[if_pos h3]
theorem abu{k a c p:P2}{q:Rat}{cw:Bool}(h1:uS k q p)(h2:JH k cw a a p<=0):decide (JH k cw a p c<=0)=UO k q cw a c p:=by
 unfold UO;rw[decide_eq_true h1,decide_eq_true h2];rfl
theorem Zt{p q:Rat}(h:p-q=0):p=q:=ν
theorem adi{a b c d e f:Rat}(h:¬cD a b c d e f=0):decide ((c-a)*(f-b)<(d-b)*(e-a)) = !decide (0<cD a b c d e f):=by
 rw[<-cwR h,decide_eq_decide,wP]
end Go.Sw
namespace Go.Proofs.YtmniihkenijjpaaGreatDoor
open Go Go.RowKit Go.Sw
set_option maxRecDepth 100000
set_option maxHeartbeats 16000000
set_option synthInstance.maxSize 4000
set_option synthInstance.maxHeartbeats 400000
instance Yd(a b c d:Rat):DenI Tryz.prog 317 [Q3 a b c,R d] (rz a<=4000000/\rz b<=4000000/\rz c<=4000000/\rz d<=4000000) (Q3 (a+d) b c):=⟨λhp=>by
 have i_a:RzB a 4000000:=⟨hp.1⟩
 have i_b:RzB b 4000000:=⟨hp.2.1⟩
 have i_c:RzB c 4000000:=⟨hp.2.2.1⟩
 have i_d:RzB d 4000000:=⟨hp.2.2.2⟩
 all_goals refine au Tryz.func317 rfl ?_
 all_goals(repeat'((try(conv=>whnf));first
  |refine zaa ?_ ?_|refine zas ζ ?_|apply zaq))
 all_goals(try apply zar)
 all_goals first
  |rfl|exact zav⟩
instance y_x(a d:Rat):DenI Tryz.prog 284 [Q5 a 0 d 0 0] (rz a<=4000000/\rz d<=4000000) (Q3 a 0 0):=⟨λhp=>by
 have i_a:RzB a 4000000:=⟨hp.1⟩
 have i_d:RzB d 4000000:=⟨hp.2⟩
 all_goals refine au Tryz.func284 rfl ?_
 all_goals(repeat'((try(conv=>whnf));first
  |refine zaa ?_ ?_|apply zaq))
 all_goals(try apply zar)
 all_goals first
  |rfl|exact zav⟩
instance y_y(a d:Rat):DenI Tryz.prog 285 [Q5 a 0 d 0 0] (rz a<=4000000/\rz d<=4000000) (Q3 d 0 0):=⟨λhp=>by
 have i_a:RzB a 4000000:=⟨hp.1⟩
 have i_d:RzB d 4000000:=⟨hp.2⟩
 all_goals refine au Tryz.func285 rfl ?_
 all_goals(repeat'((try(conv=>whnf));first
  |refine zaa ?_ ?_|apply zaq))
 all_goals(try apply zar)
 all_goals first
  |rfl|exact zav⟩
instance afK(a d x y:Rat):DenI Tryz.prog 341 [Q5 a 0 d 0 0,Q2 x y] (rz a<=4000000/\rz d<=4000000/\rz x<=4000000/\rz y<=4000000) (Q5 (a+x) 0 (d+y) 0 0):=⟨λhp=>by
 have i_a:RzB a 4000000:=⟨hp.1⟩
 have i_d:RzB d 4000000:=⟨hp.2.1⟩
 have i_x:RzB x 4000000:=⟨hp.2.2.1⟩
 have i_y:RzB y 4000000:=⟨hp.2.2.2⟩
 all_goals refine au Tryz.func341 rfl ?_
 all_goals(repeat'((try(conv=>whnf));first
  |refine zaa ?_ ?_|refine zas ζ ?_|apply zaq))
 all_goals(try apply zar)
 all_goals first
  |rfl|exact zav⟩
instance afv(a:Rat):DenI Tryz.prog 360 [Q3 a 0 0,Q3 a 0 0] (rz a<=100000) (.tup [Q3 (a*a) 0 0,.int .i64 0]):=⟨λhp=>by
 have i_a:RzB a 100000:=⟨hp⟩
 all_goals refine au Tryz.func360 rfl ?_
 all_goals(repeat'((try(conv=>whnf));first
  |refine zaa ?_ ?_|refine zat (λ_=>?_) (λ_=>?_)|refine zas ζ ?_|apply zaq))
 all_goals(try apply zar)
 all_goals(try simp only[aW]at *)
 all_goals first
  |(simp only[Rat.mul_zero,Rat.zero_mul,Rat.add_zero,Rat.zero_add];rfl)|exact zav|(exfalso;simp_all;done)⟩
instance afs(a:Rat):DenI Tryz.prog 344 [Q3 a 0 0] (rz a<=100000) (Q3 (a*a) 0 0):=⟨λhp=>by
 have i_a:RzB a 100000:=⟨hp⟩
 all_goals refine au Tryz.func344 rfl ?_
 all_goals(repeat'((try(conv=>whnf));first
  |refine zaa ?_ ?_|apply zaq))
 all_goals(try apply zar)
 all_goals first
  |rfl|exact zav⟩
instance aec(a d:Rat):DenI Tryz.prog 343 [Q3 a 0 0,Q3 d 0 0] (rz a<=300000/\rz d<=300000) (.tup [Q3 (a+d) 0 0,.int .i64 0]):=⟨λhp=>by
 have i_a:RzB a 300000:=⟨hp.1⟩
 have i_d:RzB d 300000:=⟨hp.2⟩
 all_goals refine au Tryz.func343 rfl ?_
 all_goals(repeat'((try(conv=>whnf));first
  |refine zaa ?_ ?_|refine zat (λ_=>?_) (λ_=>?_)|refine zas ζ ?_|apply zaq))
 all_goals(try apply zar)
 all_goals(try simp only[aW]at *)
 all_goals first
  |(simp only[Rat.add_zero];rfl)|exact zav|(exfalso;simp_all;done)⟩
instance afJ(a d x y:Rat):DenI Tryz.prog 318 [Q5 a 0 d 0 0,Q2 x y] (rz a<=10000/\rz d<=10000/\rz x<=10000/\rz y<=10000) (Q3 ((a + -x)*(a + -x)+(d + -y)*(d + -y)) 0 0):=⟨λhp=>by
 have i_a:RzB a 10000:=⟨hp.1⟩
 have i_d:RzB d 10000:=⟨hp.2.1⟩
 have i_x:RzB x 10000:=⟨hp.2.2.1⟩
 have i_y:RzB y 10000:=⟨hp.2.2.2⟩
 all_goals refine au Tryz.func318 rfl ?_
 all_goals(repeat'((try(conv=>whnf));first
  |refine zaa ?_ ?_|refine zas ζ ?_|apply zaq))
 all_goals(try apply zar)
 all_goals first
  |rfl|exact zav⟩
instance ae7(X Y Q x y:Rat):DenI Tryz.prog 281 [Q3 X Y Q,Q5 x 0 y 0 0] (rz X<=10000/\rz Y<=10000/\rz Q<=30000/\rz x<=10000/\rz y<=10000) (Q3 ((x + -X)*(x + -X)+(y + -Y)*(y + -Y) + -Q) 0 0):=⟨λhp=>by
 obtain⟨q0,q1,q2,q3,q4⟩:=hp;have i_X:RzB X 10000:=⟨q0⟩
 have i_Y:RzB Y 10000:=⟨q1⟩
 have i_Q:RzB Q 30000:=⟨q2⟩
 have i_x:RzB x 10000:=⟨q3⟩
 have i_y:RzB y 10000:=⟨q4⟩
 all_goals refine au Tryz.func281 rfl ?_
 all_goals(repeat'((try(conv=>whnf));first
  |refine zaa ?_ ?_|refine zas ζ ?_|apply zaq))
 all_goals(try apply zar)
 all_goals first
  |rfl|exact zav⟩
instance acM(a:Rat):DenI Tryz.prog 280 [Q3 a 0 0] (rz a<=4000000) (.int .i64 (aN a)):=⟨λhp=>by
 have i_a:RzB a 4000000:=⟨hp⟩
 all_goals refine au Tryz.func280 rfl ?_
 all_goals(repeat'((try(conv=>whnf));first
  |apply zaf|refine zaa ?_ ?_|(with_reducible first|apply zab|apply zac|refine zad (λ_=>?_) (λ_=>?_))|refine zas ζ ?_|apply zaq))
 all_goals(try apply zar)
 all_goals(try simp only[aW]at *)
 all_goals first
  |rfl|exact za1|exact zav|(exfalso;simp_all;done)⟩
instance afn(X Y Q x y:Rat):DenI Tryz.prog 247 [Q3 X Y Q,Q5 x 0 y 0 0] (rz X<=10000/\rz Y<=10000/\rz Q<=30000/\rz x<=10000/\rz y<=10000) (.int .i64 (-(aN ((x-X)*(x-X)+(y-Y)*(y-Y)-Q)))):=⟨λhp=>by
 obtain⟨q0,q1,q2,q3,q4⟩:=hp;have i_X:RzB X 10000:=⟨q0⟩
 have i_Y:RzB Y 10000:=⟨q1⟩
 have i_Q:RzB Q 30000:=⟨q2⟩
 have i_x:RzB x 10000:=⟨q3⟩
 have i_y:RzB y 10000:=⟨q4⟩
 all_goals refine au Tryz.func247 rfl ?_
 all_goals(repeat'((try(conv=>whnf));first
  |refine zaa ?_ ?_|apply zaq))
 all_goals(try apply zar)
 all_goals first
  |exact Vd ν|exact zav⟩
instance afj(a:Rat):DenI Tryz.prog 347 [R a,R 0,R 0] (rz a<=4000000) (.int .i64 (aN a)):=⟨λhp=>by
 have i_a:RzB a 4000000:=⟨hp⟩
 all_goals refine au Tryz.func347 rfl ?_
 all_goals(repeat'((try(conv=>whnf));first
  |apply zaf|refine zaa ?_ ?_|(with_reducible first|apply zab|apply zac|refine zad (λ_=>?_) (λ_=>?_))|refine zas ζ ?_|apply zaq))
 all_goals(try apply zar)
 all_goals(try simp only[aW]at *)
 all_goals first
  |(exfalso;rename ¬IntKind.i64.wrap _=0=>h;exact h ZT)|rfl|exact za1⟩
instance aeT(a d:Rat):DenI Tryz.prog 321 [Q3 a 0 0,Q3 d 0 0] (rz a<=4000000/\rz d<=4000000) (.agg [zs (a-d:Rat).num,zl (a-d:Rat).num,zs (a-d:Rat).den,zl (a-d:Rat).den,zs (0:Rat).num,zl (0:Rat).num,zs (0:Rat).den,zl (0:Rat).den,zs (0:Rat).num,zl (0:Rat).num,zs (0:Rat).den,zl (0:Rat).den,zs (0:Rat).num,zl (0:Rat).num,zs (0:Rat).den,zl (0:Rat).den,zs (0:Rat).num,zl (0:Rat).num,zs (0:Rat).den,zl (0:Rat).den,zs (0:Rat).num,zl (0:Rat).num,zs (0:Rat).den,zl (0:Rat).den]):=⟨λhp=>by
 have i_a:RzB a 4000000:=⟨hp.1⟩
 have i_d:RzB d 4000000:=⟨hp.2⟩
 all_goals refine au Tryz.func321 rfl ?_
 all_goals(repeat'((try(conv=>whnf));first
  |refine zaa ?_ ?_|refine zas ζ ?_|apply zaq))
 all_goals(try apply zar)
 all_goals first
  |(simp only[Rat.neg_zero];rfl)|exact zav|omega⟩
instance adk(a:Rat):DenI Tryz.prog 320 [.agg [zs a.num,zl a.num,zs a.den,zl a.den,zs (0:Rat).num,zl (0:Rat).num,zs (0:Rat).den,zl (0:Rat).den,zs (0:Rat).num,zl (0:Rat).num,zs (0:Rat).den,zl (0:Rat).den,zs (0:Rat).num,zl (0:Rat).num,zs (0:Rat).den,zl (0:Rat).den,zs (0:Rat).num,zl (0:Rat).num,zs (0:Rat).den,zl (0:Rat).den,zs (0:Rat).num,zl (0:Rat).num,zs (0:Rat).den,zl (0:Rat).den]] (rz a<=4000000) (.int .i64 (aN a)):=⟨λhp=>by
 have i_a:RzB a 4000000:=⟨hp⟩
 all_goals refine au Tryz.func320 rfl ?_
 all_goals(repeat'((try(conv=>whnf));first
  |apply zaf|refine zaa ?_ ?_|(with_reducible first|apply zab|apply zac|refine zad (λ_=>?_) (λ_=>?_))|refine zas ζ ?_|apply zaq))
 all_goals(try apply zar)
 all_goals(try simp only[aW]at *)
 all_goals first
  |(exfalso;rename ¬IntKind.i64.wrap _=0=>h;exact h ZT)|rfl|exact za1|exact zav|(exfalso;simp_all;done)⟩
instance aev(a d:Rat):DenI Tryz.prog 283 [Q3 a 0 0,Q3 d 0 0] (rz a<=990000/\rz d<=990000) (.int .i64 (dG a d)):=⟨λhp=>by
 have i_a:RzB a 990000:=⟨hp.1⟩
 have i_d:RzB d 990000:=⟨hp.2⟩
 all_goals refine au Tryz.func283 rfl ?_
 all_goals(repeat'((try(conv=>whnf));first
  |refine zaa ?_ ?_|apply zaq))
 all_goals(try apply zar)
 all_goals first
  |(refine iE ?_;exact Ey _ _)|exact zav⟩
instance acs(a d:Rat):DenI Tryz.prog 348 [Q3 a 0 0,R d] (rz a<=990000/\rz d<=990000) (.int .i64 (dG a d)):=⟨λhp=>by
 have i_a:RzB a 990000:=⟨hp.1⟩
 have i_d:RzB d 990000:=⟨hp.2⟩
 all_goals refine au Tryz.func348 rfl ?_
 all_goals(repeat'((try(conv=>whnf));first
  |refine zaa ?_ ?_|refine zas ζ ?_|apply zaq))
 all_goals(try apply zar)
 all_goals first
  |(refine iE ?_;exact Ey _ _)|exact zav⟩
instance af2(X Y Q x y:Rat):DenI Tryz.prog 323 [Q3 X Y Q,Q5 x 0 y 0 0] (rz X<=990000/\rz Y<=990000/\rz Q<=990000/\rz x<=990000/\rz y<=990000) (.bool (decide (hf (X,Y) (x,y)=0))):=⟨λhp=>by
 have i_X:RzB X 990000:=⟨hp.1⟩
 have i_Y:RzB Y 990000:=⟨hp.2.1⟩
 have i_Q:RzB Q 990000:=⟨hp.2.2.1⟩
 have i_x:RzB x 990000:=⟨hp.2.2.2.1⟩
 have i_y:RzB y 990000:=⟨hp.2.2.2.2⟩
 all_goals refine au Tryz.func323 rfl ?_
 all_goals(repeat'((try(conv=>whnf));first
  |refine zaa ?_ ?_|(with_reducible first|apply zab|apply zac|refine zad (λ_=>?_) (λ_=>?_))|refine zas ζ ?_|apply zaq))
 all_goals(try apply zar)
 all_goals(try simp only[aW]at *)
 all_goals first
  |exact bE (abI ξ)|exact bE (ac3 ξ ξ)|exact bE (acX ξ ξ)|exact zav⟩
instance afM(X Y Q x y u v:Rat):DenI Tryz.prog 286 [Q3 X Y Q,Q5 x 0 y 0 0,Q5 u 0 v 0 0] (rz X<=990000/\rz Y<=990000/\rz Q<=990000/\rz x<=990000/\rz y<=990000/\rz u<=990000/\rz v<=990000) (.int .i64 (iW (X,Y) (x,y) (u,v))):=⟨λhp=>by
 have i_X:RzB X 990000:=⟨hp.1⟩
 have i_Y:RzB Y 990000:=⟨hp.2.1⟩
 have i_Q:RzB Q 990000:=⟨hp.2.2.1⟩
 have i_x:RzB x 990000:=⟨hp.2.2.2.1⟩
 have i_y:RzB y 990000:=⟨hp.2.2.2.2.1⟩
 have i_u:RzB u 990000:=⟨hp.2.2.2.2.2.1⟩
 have i_v:RzB v 990000:=⟨hp.2.2.2.2.2.2⟩
 have z1:=qm (X,Y) (x,y);have z2:=qm (X,Y) (u,v);have z3:=nD x u
 all_goals refine au Tryz.func286 rfl ?_
 all_goals(repeat'((try(conv=>whnf));first
  |refine zaa ?_ ?_|(with_reducible refine zad (λ_=>?_) (λ_=>?_))|refine zat (λ_=>?_) (λ_=>?_)|refine zas ζ ?_|apply zaq))
 all_goals(try apply zar)
 all_goals first
  |(refine iE ?_;with_reducible exact abR ξ ξ)|(refine iE ?_;unfold iW;grind)|exact zav⟩
instance aes(X Y Q x y u v s t:Rat):DenI Tryz.prog 250 [Q3 X Y Q,Q5 x 0 y 0 0,Q5 u 0 v 0 0,Q5 s 0 t 0 0] (rz X<=990000/\rz Y<=990000/\rz Q<=990000/\rz x<=990000/\rz y<=990000/\rz u<=990000/\rz v<=990000/\rz s<=990000/\rz t<=990000) (.int .i64 (ny (X,Y) (x,y) (u,v) (s,t))):=⟨λhp=>by
 have i_X:RzB X 990000:=⟨hp.1⟩
 have i_Y:RzB Y 990000:=⟨hp.2.1⟩
 have i_Q:RzB Q 990000:=⟨hp.2.2.1⟩
 have i_x:RzB x 990000:=⟨hp.2.2.2.1⟩
 have i_y:RzB y 990000:=⟨hp.2.2.2.2.1⟩
 have i_u:RzB u 990000:=⟨hp.2.2.2.2.2.1⟩
 have i_v:RzB v 990000:=⟨hp.2.2.2.2.2.2.1⟩
 have i_s:RzB s 990000:=⟨hp.2.2.2.2.2.2.2.1⟩
 have i_t:RzB t 990000:=⟨hp.2.2.2.2.2.2.2.2⟩
 all_goals refine au Tryz.func250 rfl ?_
 all_goals(repeat'((try(conv=>whnf));first
  |refine zaa ?_ ?_|(with_reducible refine zad (λ_=>?_) (λ_=>?_))|refine zat (λ_=>?_) (λ_=>?_)|refine zas ζ ?_|apply zaq))
 all_goals(try apply zar)
 all_goals first
  |exact iE (ac5 ξ ξ)|exact iE (abK ξ ξ)|exact iE (acJ ξ)|exact zav⟩
instance abS(a d:Rat):DenI Tryz.prog 252 [Q5 a 0 d 0 0] (rz a<=4000000/\rz d<=4000000) (Q5 (-a) 0 d 0 0):=⟨λhp=>by
 have i_a:RzB a 4000000:=⟨hp.1⟩
 have i_d:RzB d 4000000:=⟨hp.2⟩
 all_goals refine au Tryz.func252 rfl ?_
 all_goals(repeat'((try(conv=>whnf));first
  |refine zaa ?_ ?_|refine zas ζ ?_|apply zaq))
 all_goals(try apply zar)
 all_goals first
  |(simp only[Rat.neg_zero];rfl)|exact zav⟩
instance acC(X Y Q a b e f:Rat):DenI Tryz.prog 251 [.agg (xk X Y Q true a b e f)] (rz X<=990000/\rz Y<=990000/\rz Q<=990000/\rz a<=990000/\rz b<=990000/\rz e<=990000/\rz f<=990000) (.agg (xk (-X) Y Q false (-a) b (-e) f)):=⟨λhp=>by
 have i_X:RzB X 990000:=⟨hp.1⟩
 have i_Y:RzB Y 990000:=⟨hp.2.1⟩
 have i_Q:RzB Q 990000:=⟨hp.2.2.1⟩
 have i_a:RzB a 990000:=⟨hp.2.2.2.1⟩
 have i_b:RzB b 990000:=⟨hp.2.2.2.2.1⟩
 have i_e:RzB e 990000:=⟨hp.2.2.2.2.2.1⟩
 have i_f:RzB f 990000:=⟨hp.2.2.2.2.2.2⟩
 all_goals refine au Tryz.func251 rfl ?_
 all_goals(repeat'((try(conv=>whnf));first
  |refine zaa ?_ ?_|refine zas ζ ?_|apply zaq))
 all_goals(try apply zar)
 all_goals first
  |rfl|exact zav⟩
instance aeL(X Y Q a b e f x y u v:Rat)(cw:Bool):DenI Tryz.prog 219 [.agg (xk X Y Q cw a b e f),Q5 x 0 y 0 0,Q5 u 0 v 0 0] (rz X<=7000/\rz Y<=7000/\rz Q<=27000/\rz a<=12/\rz b<=12/\rz e<=12/\rz f<=12/\rz x<=12/\rz y<=12/\rz u<=12/\rz v<=12) (.int .i64 (JH (X,Y) cw (a,b) (x,y) (u,v))):=⟨λhp=>by
 obtain⟨q0,q1,q2,q3,q4,q5,q6,q7,q8,q9,q10⟩:=hp;have i_X:RzB X 7000:=⟨q0⟩
 have i_Y:RzB Y 7000:=⟨q1⟩
 have i_Q:RzB Q 27000:=⟨q2⟩
 have i_a:RzB a 12:=⟨q3⟩
 have i_b:RzB b 12:=⟨q4⟩
 have i_e:RzB e 12:=⟨q5⟩
 have i_f:RzB f 12:=⟨q6⟩
 have i_x:RzB x 12:=⟨q7⟩
 have i_y:RzB y 12:=⟨q8⟩
 have i_u:RzB u 12:=⟨q9⟩
 have i_v:RzB v 12:=⟨q10⟩
 cases cw
 all_goals refine au Tryz.func219 rfl ?_
 all_goals(repeat'((try(conv=>whnf));first
  |refine zaa ?_ ?_|refine zat (λ_=>?_) (λ_=>?_)|refine zas ζ ?_|apply zaq))
 all_goals(try apply zar)
 all_goals(try simp only[aW]at *)
 all_goals first
  |rfl|exact zav|(exfalso;simp_all;done)⟩
instance aft(X Y Q a b e f x y:Rat)(cw:Bool):DenI Tryz.prog 218 [.agg (xk X Y Q cw a b e f),Q5 x 0 y 0 0] (rz X<=7000/\rz Y<=7000/\rz Q<=27000/\rz a<=12/\rz b<=12/\rz e<=12/\rz f<=12/\rz x<=12/\rz y<=12) (.bool (decide (uS (X,Y) Q (x,y)))):=⟨λhp=>by
 obtain⟨q0,q1,q2,q3,q4,q5,q6,q7,q8⟩:=hp;have i_X:RzB X 7000:=⟨q0⟩
 have i_Y:RzB Y 7000:=⟨q1⟩
 have i_Q:RzB Q 27000:=⟨q2⟩
 have i_a:RzB a 12:=⟨q3⟩
 have i_b:RzB b 12:=⟨q4⟩
 have i_e:RzB e 12:=⟨q5⟩
 have i_f:RzB f 12:=⟨q6⟩
 have i_x:RzB x 12:=⟨q7⟩
 have i_y:RzB y 12:=⟨q8⟩
 all_goals refine au Tryz.func218 rfl ?_
 all_goals(repeat'((try(conv=>whnf));first
  |refine zaa ?_ ?_|(with_reducible apply zab)|apply zaq))
 all_goals(try apply zar)
 all_goals first
  |exact bE Gh|exact zav⟩
instance afI(X Y Q a b e f x y:Rat)(cw:Bool):DenI Tryz.prog 174 [.agg (xk X Y Q cw a b e f),Q5 x 0 y 0 0] (rz X<=7000/\rz Y<=7000/\rz Q<=27000/\rz a<=12/\rz b<=12/\rz e<=12/\rz f<=12/\rz x<=12/\rz y<=12) (.bool (UO (X,Y) Q cw (a,b) (e,f) (x,y))):=⟨λhp=>by
 obtain⟨q0,q1,q2,q3,q4,q5,q6,q7,q8⟩:=hp;have i_X:RzB X 7000:=⟨q0⟩
 have i_Y:RzB Y 7000:=⟨q1⟩
 have i_Q:RzB Q 27000:=⟨q2⟩
 have i_a:RzB a 12:=⟨q3⟩
 have i_b:RzB b 12:=⟨q4⟩
 have i_e:RzB e 12:=⟨q5⟩
 have i_f:RzB f 12:=⟨q6⟩
 have i_x:RzB x 12:=⟨q7⟩
 have i_y:RzB y 12:=⟨q8⟩
 all_goals refine au Tryz.func174 rfl ?_
 all_goals(repeat'((try(conv=>whnf));first
  |refine zaa ?_ ?_|(with_reducible first|apply zab|apply zac|refine zad (λ_=>?_) (λ_=>?_))|apply zaq))
 all_goals(try apply zar)
 all_goals first
  |exact bE (abu ξ ξ)|(refine bE ?_;unfold UO;simp_all;done)|(refine bE ?_;unfold UO;simp[*];done)|exact zav⟩
instance acV(a b c d e f:Rat):DenI Tryz.prog 172 [Q2 a b,Q2 c d,Q2 e f] (rz a<=1000/\rz b<=1000/\rz c<=1000/\rz d<=1000/\rz e<=1000/\rz f<=1000) (.int .i64 (dG ((c-a)*(f-b)) ((d-b)*(e-a)))):=⟨λhp=>by
 have i_a:RzB a 1000:=⟨hp.1⟩
 have i_b:RzB b 1000:=⟨hp.2.1⟩
 have i_c:RzB c 1000:=⟨hp.2.2.1⟩
 have i_d:RzB d 1000:=⟨hp.2.2.2.1⟩
 have i_e:RzB e 1000:=⟨hp.2.2.2.2.1⟩
 have i_f:RzB f 1000:=⟨hp.2.2.2.2.2⟩
 all_goals refine au Tryz.func172 rfl ?_
 all_goals(repeat'((try(conv=>whnf));first
  |refine zaa ?_ ?_|refine zas ζ ?_|apply zaq))
 all_goals(try apply zar)
 all_goals first
  |rfl|exact zav⟩
instance aeg(a b c d e f:Rat):DenC Tryz.prog 129 [Q2 a b,Q2 c d,Q2 e f] (rz a<=100/\rz b<=100/\rz c<=100/\rz d<=100/\rz e<=100/\rz f<=100) (cD a b c d e f=0) (.tup [.agg [.v (.bool false),.v (.bool false),.sl 1 [],.v (.bool false),.sl 1 [],.v (.bool false),.sl 1 [],.v (.bool false),.sl 1 [],.v (.bool false),.sl 1 [],.v (.bool false),.sl 1 [],.v (.bool false),.sl 1 [],.v (.bool false),.sl 1 [],.v (.bool false),.sl 1 [],.v (.bool false),.sl 1 [],.v (.bool false),.sl 1 [],.v (.bool false),.sl 1 [],.v (.bool false),.v (.bool false),.sl 1 [],.v (.bool false),.sl 1 [],.v (.bool false),.sl 1 [],.v (.bool false),.sl 1 [],.v (.bool false),.sl 1 [],.v (.bool false),.sl 1 [],.v (.bool false),.sl 1 [],.v (.bool false),.sl 1 [],.v (.bool false),.sl 1 [],.v (.bool false),.sl 1 [],.v (.bool false),.sl 1 [],.v (.bool false),.sl 1 [],.v (.bool false),.sl 1 [],.v (.bool false),.sl 1 [],.v (.bool false),.sl 1 [],.v (.bool false),.sl 1 [],.v (.bool false),.sl 1 [],.v (.bool false),.sl 1 [],.v (.bool false),.sl 1 [],.v (.bool false),.sl 1 []],.int .i64 6]) (.tup [.agg (xk (Vh (a,b) (c,d) (e,f)) (WJ (a,b) (c,d) (e,f)) (GN (a,b) (c,d) (e,f)) (!decide (0<cD a b c d e f)) a b e f),.int .i64 0]):=⟨denC λhp q e1 e2=>by
 have i_a:RzB a 100:=⟨hp.1⟩
 have i_b:RzB b 100:=⟨hp.2.1⟩
 have i_c:RzB c 100:=⟨hp.2.2.1⟩
 have i_d:RzB d 100:=⟨hp.2.2.2.1⟩
 have i_e:RzB e 100:=⟨hp.2.2.2.2.1⟩
 have i_f:RzB f 100:=⟨hp.2.2.2.2.2⟩
 all_goals refine au Tryz.func129 rfl ?_
 all_goals(repeat'((try(conv=>whnf));first
  |refine zaa ?_ ?_|refine zao ?_ (λ_=>?_) (λ_=>?_)|(with_reducible first|apply zab|apply zac|refine zad (λ_=>?_) (λ_=>?_)|refine zae (λ_=>?_) (λ_=>?_))|refine zas ζ ?_|apply zaq))
 all_goals(try apply zar)
 all_goals(try simp only[aW]at *)
 all_goals first
  |exact za0|(exfalso;(with_reducible rename _-_=(0:Rat)=>h0);exact absurd (Zt h0) (by with_reducible assumption))|((with_reducible show packA _=_);rw[e2 (by unfold cD;with_reducible assumption),<-adi (by unfold cD;with_reducible assumption)];rfl)|(rw[e1 (by unfold cD;grind)];rfl)|exact zav⟩
end Go.Proofs.YtmniihkenijjpaaGreatDoor
namespace Go.Sw
open Go Go.RowKit
theorem den_lift{P:Program}(i j:Wld P)(hij:∀w,j.ok w->i.ok w){f:FuncId}{xs:List AV}{r:AV}(h : @Den P i f xs r):@Den P j f xs r:=by
 revert h;unfold Den;split
 .exactλh=>⟨h.1,λw X g T us vs more mo hW=>h.2 w X g T us vs more mo (hij w hW)⟩
 .exact id
 .exactλh=>⟨h.1,λw X g cap uss rest vs hW=>h.2 w X g cap uss rest vs (hij w hW)⟩
 .exactλh=>⟨h.1,λw X vs hW=>h.2 w X vs (hij w hW)⟩
structure MapSays (P:Program) (t:TypeId) (g:Nat) (f:Int->ByteArray) (w:World):Prop where
 ex:∃bm es clock,w.cell? ⟨g,0,none⟩=some (.map (some bm))/\w.heap[bm]?=some (.map es clock)/\∀w':World,w'.heap[bm]?=some (.map es clock)->∀k:Int,-9223372036854775808<=k->k<=9223372036854775807->(Instr.lookup t (.map (some bm)) (.int .i64 k) false).run P w'=.ok (.string (f k)) w'
theorem MapSays.run{P:Program}{t:TypeId}{g:Nat}{f:Int->ByteArray}{w:World}(h:MapSays P t g f w)(k:Int)(h1 : -9223372036854775808<=k)(h2:k<=9223372036854775807):
 ∃bm,w.cell? ⟨g,0,none⟩=some (.map (some bm))/\(Instr.lookup t (.map (some bm)) (.int .i64 k) false).run P w=.ok (.string (f k)) w:=by
 obtain⟨bm,es,clock,a,b,c⟩:=h.ex;exact⟨bm,a,c w b k h1 h2⟩
end Go.Sw
namespace Go.Proofs.YtmniihkenijjpaaGreatDoor
open Go Go.RowKit Go.Sw Go.Shelf Go.Sort Go.Lib
set_option maxRecDepth 100000
set_option maxHeartbeats 16000000
def TP:Go.Shelf.Ren:=⟨λn=>if n=284 then 351 else if n=317 then 362 else if n=318 then 363 else if n=129 then 267 else n,λn=>if n=46 then 228 else if n=53 then 152 else if n=212 then 353 else n,λn=>if n=17 then 1 else n⟩
theorem Vo:Go.Proofs.Lays.n284 Tryz.prog TP where
 mixed:=aQ
 f284:=uo Tryz.func351 (congrArg some (Eq.refl _))
 f317:=uo Tryz.func362 (congrArg some (Eq.refl _))
 f318:=uo Tryz.func363 (congrArg some (Eq.refl _))
 f129:=uo Tryz.func267 (congrArg some (Eq.refl _))
 t0:=Tryz.underlying0
 a0:=Tryz.isAgg0
 z0:=Tryz.sizeOf0
 v0:=Tryz.zeroValue0
 t3:=Tryz.underlying3
 a3:=Tryz.isAgg3
 z3:=Tryz.sizeOf3
 v3:=Tryz.zeroValue3
 t4:=Tryz.underlying4
 a4:=Tryz.isAgg4
 z4:=Tryz.sizeOf4
 v4:=Tryz.zeroValue4
 t5:=Tryz.underlying5
 a5:=Tryz.isAgg5
 z5:=Tryz.sizeOf5
 v5:=Tryz.zeroValue5
 t9:=Tryz.underlying9
 a9:=Tryz.isAgg9
 z9:=Tryz.sizeOf9
 v9:=Tryz.zeroValue9
 t46:=Tryz.underlying228
 a46:=Tryz.isAgg228
 z46:=Tryz.sizeOf228
 v46:=Tryz.zeroValue228
 t53:=Tryz.underlying152
 a53:=Tryz.isAgg152
 z53:=Tryz.sizeOf152
 v53:=Tryz.zeroValue152
 t212:=Tryz.underlying353
 a212:=Tryz.isAgg353
 z212:=Tryz.sizeOf353
 v212:=Tryz.zeroValue353
 g17:=ζ
theorem aaE:Go.Proofs.LaysM.n284 Tryz.prog TP where
 ton284:=Vo
 i0:=ζ
 i3:=ζ
 i4:=ζ
 i5:=ζ
 i9:=ζ
 i46:=ζ
 i53:=ζ
 i212:=ζ
 m17:=ζ
def Zx:Go.Shelf.Ren:=⟨λn=>if n=285 then 352 else n,λn=>if n=37 then 270 else if n=51 then 154 else if n=53 then 152 else n,λn=>n⟩
theorem WM:Go.Proofs.Lays.n285 Tryz.prog Zx where
 mixed:=aQ
 f285:=uo Tryz.func352 (congrArg some (Eq.refl _))
 t0:=Tryz.underlying0
 a0:=Tryz.isAgg0
 z0:=Tryz.sizeOf0
 v0:=Tryz.zeroValue0
 t3:=Tryz.underlying3
 a3:=Tryz.isAgg3
 z3:=Tryz.sizeOf3
 v3:=Tryz.zeroValue3
 t4:=Tryz.underlying4
 a4:=Tryz.isAgg4
 z4:=Tryz.sizeOf4
 v4:=Tryz.zeroValue4
 t5:=Tryz.underlying5
 a5:=Tryz.isAgg5
 z5:=Tryz.sizeOf5
 v5:=Tryz.zeroValue5
 t9:=Tryz.underlying9
 a9:=Tryz.isAgg9
 z9:=Tryz.sizeOf9
 v9:=Tryz.zeroValue9
 t37:=Tryz.underlying270
 a37:=Tryz.isAgg270
 z37:=Tryz.sizeOf270
 v37:=Tryz.zeroValue270
 t51:=Tryz.underlying154
 a51:=Tryz.isAgg154
 z51:=Tryz.sizeOf154
 v51:=Tryz.zeroValue154
 t53:=Tryz.underlying152
 a53:=Tryz.isAgg152
 z53:=Tryz.sizeOf152
 v53:=Tryz.zeroValue152
set_option maxRecDepth 100000 in
theorem Qj(u:Nat)(h1:100<=u)(hu64:u<18446744073709551616)(w:World)(htab:Lib.TabIs Tryz.prog w "internal/strconv.uint64pow10" .u64 Lib.pow10Tab):
 Calls Tryz.prog 325 #[.int .u64 u,.int .i64 10] w λe w'=>e=.returned (.string ⟨(Lib.decDigits u).toArray⟩)/\Below w.heap.size w w':=by
 have hu1:1<=u:=ω
 have hlt:¬((u:Int)<100):=ω
 have hnd20:Lib.nDigits u<=20:=Lib.nDigits_le20 u hu64;have hal:Tryz.prog.arrayLen 340=24:=ζ
 have hsl:∀W,(Instr.sliceAt 340 (.pointer (some ⟨w.heap.size,0,none⟩)) none (some (.int .i64 (Lib.nDigits u:Int))) none).run Tryz.prog W=.ok (.slice (some ⟨w.heap.size,0,none⟩) (Lib.nDigits u) 24) W:=λW=>by
  rw[run_sliceAt_array_h W 340 ⟨w.heap.size,0,none⟩ (by simp[Program.arrayLen,Program.elem,Tryz.underlying340]) .i64 (Lib.nDigits u:Int) ω (by rw[hal];omega)]
  go_simp
 have hH0:=Lib.holds_zero0 w 340 (Lib.nDigits u) ω;have hfmt:=Any.internal_strconv_formatBase10 WM w.heap.size 0 24 u (Array.replicate (Lib.nDigits u) 0) (w.alloc (.cells Lib.zeros24 340)) hH0 (by rw[Array.size_replicate];exact Lib.lt_pow_nDigits u) hu64 (by rw[Array.size_replicate];omega);rw[Array.size_replicate]at hfmt;have HH0:=Lib.hid hH0;clear hH0 hal
 go_enter Tryz.func325,Tryz.ntmps325
 go_wp2_with (first
  |(go_at_call 351;refine(Any.internal_strconv_numDigits aaE u hu1 hu64 _ (Lib.tabIs_alloc htab _)).mono ?_;rintro e w' ⟨rfl,rfl⟩))
 go_at_call 352
 refine hfmt.mono ?_;rintro e w' ⟨rfl,k,v',dk,rfl,hF⟩
 have hcv:(convert 270 9 (.slice (some ⟨w.heap.size,0,none⟩) (Lib.nDigits u) 24)).run Tryz.prog ((putRow (λ(b:UInt8)=>Value.int .u8 (b.toNat:Int)) (w.alloc (.cells Lib.zeros24 340)) w.heap.size 0 dk).drewN k)=.ok (.string ⟨(Lib.decDigits u).toArray⟩) ((putRow (λ(b:UInt8)=>Value.int .u8 (b.toNat:Int)) (w.alloc (.cells Lib.zeros24 340)) w.heap.size 0 dk).drewN k):=by
  have h:=run_convert_bytes_back (P:=Tryz.prog) ((putRow (λ(b:UInt8)=>Value.int .u8 (b.toNat:Int)) (w.alloc (.cells Lib.zeros24 340)) w.heap.size 0 dk).drewN k) 270 9 5 ⟨w.heap.size,0,none⟩ 24 (Lib.decDigits u) Tryz.underlying270 Tryz.underlying5 Tryz.underlying9 (λj hj=>by
   rw[Lib.row_is_numeral hF j hj,Lib.add_plain,World.cell?_drewN]
   exact cell?_putRow (λ(b:UInt8)=>Value.int .u8 (b.toNat:Int)) _ w.heap.size 0 _ dk HH0.out (by rw[hF.size,Array.size_replicate]) j (by rw[hF.size];rw[Lib.decDigits_length]at hj;exact hj))
  rw[Lib.decDigits_length]at h;exact h
 go_wp2
 go_ret
 refine⟨rfl, ?_⟩;rw[alloc_eq_grow];obtain⟨os',_,e⟩:=putRow_grow_new (λ(b:UInt8)=>Value.int .u8 (b.toNat:Int)) w #[.cells Lib.zeros24 340] w.heap.size 0 dk (gW _);rw[e];exact Lib.below_grow _ w (gW _) k os'
end Go.Proofs.YtmniihkenijjpaaGreatDoor
