/-
  Rules of the abstract run, plain laws, and what functions answer, for the law RepairClean.
  Conditions: none.
-/
import Derived.Test.YtmniihkenijjpaaGreatDoorV12
import Derived.Laws.Strings
import Derived.Lib.Bytealg
import Derived.Maps.Keyed
import Derived.Maps.StringElems
import Derived.LaidMore
import Derived.OpenShut
import Derived.ProofKit
import Derived.Shelf.LaysM
import Derived.Shelf.Strconv.Itoa1
import Derived.Shelf.Strconv.Itoa2
import Derived.Lib.Walk
import Derived.Lib.ItoaMem
import Derived.Lib.ItoaLen
import Derived.Lib.AppendIntMem
import Derived.WalkKit
import Derived.BigCall
import Derived.BigGuard
set_option linter.all false
namespace Go.Sw
open Go
section
variable {a b c d m n x y:Rat}
end
section
variable {fx fy tx ty x y:Rat} {r fz tz:Int}
end
section
variable {fx fy tx ty x y:Rat} {r fz tz:Int}
end
end Go.Sw
namespace Go.Sw
open Go
section
variable {m:Nat} {M:Int} {a b:Rat}
instance:RzB ((1:Int):Rat) 2:=⟨by decide +kernel⟩
end
end Go.Sw
namespace Go.Sw
open Go Go.RowKit
def kL(s:ByteArray):List Nat:=s.data.toList.map λb=>b.toNat
theorem je(s:ByteArray):(kL s).length=s.size:=by simp[kL]
theorem Qq(s:ByteArray)(j:Nat):(s.data.toList.getD j 0).toNat=(kL s).getD j 0:=by
 unfold kL;rw[iC,iC,vJ];cases s.data.toList[j]?<;>rfl
theorem qV{a b:ByteArray}(h:kL a=kL b):a=b:=by
 have:a.data.toList=b.data.toList:=by
  unfold kL at h;exact(List.map_inj_right (λx y h=>UInt8.toNat_inj.1 h)).1 h
 cases a;cases b;simpa using this
theorem oM(a b:ByteArray):(a.toList == b.toList)=decide (kL a=kL b):=by
 rw[ByteArray.toList_eq,ByteArray.toList_eq]
 by_cases h:kL a=kL b
 .rw[decide_eq_true h,qV h];simp
 .rw[decide_eq_false h];rw[beq_eq_false_iff_ne];exactλe=>h (by unfold kL;rw[e])
theorem RJ(s:ByteArray)(a b:Nat):kL (s.extract a b)=((kL s).take b).drop a:=by
 unfold kL;rw[ByteArray.data_extract,Array.toList_extract,List.extract_eq_take_drop,<-List.map_take,<-List.map_drop,List.drop_take]
theorem oL{s:ByteArray}{i:Int}{k:Int->Prop}(hp:Pr (0<=i/\i<s.size))(hk:k (((kL s).getD i.toNat 0:Nat):Int)):StrAt s i k:=by
 obtain⟨⟨h1,h2⟩⟩:=hp;exact⟨i.toNat,ω,ω,by rw[Qq];exact hk⟩
theorem l9(s:ByteArray):(bytesC s).length=s.size:=by simp[bytesC]
def uH(l:List Nat):Nat:=l.foldl (λa c=>10*a+(c-48)) 0
theorem NP(l:List Nat):∀x,l.foldl (λa c=>10*a+(c-48)) x=x*10^l.length+uH l:=by
 induction l with
 |nil=>intro x;simp[uH]
 |cons c r ih =>
  intro x;unfold uH;simp only[Pq,aZ];rw[ih,ih (10*0+(c-48)),rP]
  grind
theorem KQ(a b:List Nat):uH (a++b)=uH a*10^b.length+uH b:=by
 unfold uH;rw[List.foldl_append,NP];rfl
theorem Jt(a:List Nat)(c:Nat):uH (a++[c])=10*uH a+(c-48):=by
 rw[KQ];simp[uH];omega
end Go.Sw
namespace Go.Sw
open Go Go.RowKit
@[reducible] def AV.str(s:ByteArray):AV:=.c (.v (.string s))
section
variable {s b:ByteArray} {k m:Nat}
end
end Go.Sw
namespace Go.Sw
open Go
theorem DK{a b:ByteArray}(h:a=b):packA [AV.c (Cell.v (.string a))]=AV.str b:=by subst h;rfl
theorem ZG(a:Rat):(a*a).num=a.num*a.num/\((a*a).den:Int)=a.den*a.den:=by
 have e:a^2=a*a:=by rw[Rat.pow_succ,Rat.pow_succ,Rat.pow_zero,Rat.one_mul]
 rw[<-e,Rat.num_pow,Rat.den_pow];refine⟨by rw[Int.pow_succ,Int.pow_succ,Int.pow_zero,Int.one_mul], ?_⟩;rw[rP,rP,Nat.pow_zero,Nat.one_mul];exact J4 _ _
theorem Ce(a:Rat):jW (a*a)=true:=by
 unfold jW;have h:=ZG a;rw[h.1,h.2,bY];exact⟨DR.2 ⟨a.num.natAbs,Int.natAbs_mul_self' a.num⟩,DR.2 ⟨a.den,rfl⟩⟩
def Oc(a b c p:P2):Rat:=Pj a b c*(p.1-a.1)+PD a b c*(p.2-a.2)-gu a b c*((p.1-a.1)*(p.1-a.1)+(p.2-a.2)*(p.2-a.2))
theorem lZ{a b c p:P2}:uy a b c p=true↔(gu a b c≠0/\Oc a b c p=0/\(p=a\/p=c\/0<fB a p c*fB a b c)):=by
 unfold uy Oc;rw[decide_eq_true_eq];constructor
 .rintro ⟨h1,h2,h3⟩;exact⟨h1,by rw[h2];grind,h3⟩
 .rintro ⟨h1,h2,h3⟩;exact⟨h1,ν,h3⟩
theorem Nz(a b c p:P2):Oc c b a p = -Oc a b c p:=by
 obtain⟨a1,a2⟩:=a;obtain⟨b1,b2⟩:=b;obtain⟨c1,c2⟩:=c;obtain⟨p1,p2⟩:=p;simp only[Oc,Pj,PD,gu,cU,cV,cD]
 grind
theorem CY(a b c p:P2):uy c b a p=uy a b c p:=by
 rw[vS,lZ,lZ,Nz,H7]
 have x1:fB c p a*fB c b a=fB a p c*fB a b c:=by
  have e1:fB c p a = -fB a p c:=by unfold fB;grind
  have e2:fB c b a = -fB a b c:=by unfold fB;grind
  rw[e1,e2];grind
 rw[x1];constructor
 .rintro ⟨h1,h2,h3⟩;exact⟨λe=>h1 (by rw[e];decide +kernel),ν,by rcases h3 with h|h|h<;>simp[h]⟩
 .rintro ⟨h1,h2,h3⟩;exact⟨λe=>h1 ν,by rw[h2];decide +kernel,by rcases h3 with h|h|h<;>simp[h]⟩
theorem plk{n1 n2 n3 b1 b2 b3 m1 m2 m3 k1 k2 k3:Rat}:(n1*b2-n2*b1)*(k1*(b2*m3-b3*m2)-k2*(b1*m3-b3*m1)+k3*(b1*m2-b2*m1)) =
 (k1*b2-k2*b1)*(n1*(b2*m3-b3*m2)-n2*(b1*m3-b3*m1)+n3*(b1*m2-b2*m1))-(m1*b2-m2*b1)*(n1*(b2*k3-b3*k2)-n2*(b1*k3-b3*k1)+n3*(b1*k2-b2*k1)):=ν
theorem RN(a b c p:P2):Oc a b c p = -((b.1-a.1)*((c.2-a.2)*((p.1-a.1)*(p.1-a.1)+(p.2-a.2)*(p.2-a.2))-((c.1-a.1)*(c.1-a.1)+(c.2-a.2)*(c.2-a.2))*(p.2-a.2))-(b.2-a.2)*((c.1-a.1)*((p.1-a.1)*(p.1-a.1)+(p.2-a.2)*(p.2-a.2))-((c.1-a.1)*(c.1-a.1)+(c.2-a.2)*(c.2-a.2))*(p.1-a.1))+((b.1-a.1)*(b.1-a.1)+(b.2-a.2)*(b.2-a.2))*((c.1-a.1)*(p.2-a.2)-(c.2-a.2)*(p.1-a.1))):=by
 simp only[Oc,Pj,PD,gu,cU,cV,cD];generalize b.1-a.1=b1;generalize b.2-a.2=b2;generalize c.1-a.1=c1;generalize c.2-a.2=c2;generalize p.1-a.1=p1;generalize p.2-a.2=p2
 grind
theorem WG{a n b m k:P2}(h:gu a n b≠0)(h1:Oc a n b m=0)(h2:Oc a n b k=0):Oc a k b m=0:=by
 rw[RN]at h1 h2 ⊢;have hD:gu a n b=(n.1-a.1)*(b.2-a.2)-(n.2-a.2)*(b.1-a.1):=rfl;rw[hD]at h;clear hD;generalize n.1-a.1=n1 at *;generalize n.2-a.2=n2 at *;generalize b.1-a.1=b1 at *;generalize b.2-a.2=b2 at *;generalize m.1-a.1=m1 at *;generalize m.2-a.2=m2 at *;generalize k.1-a.1=k1 at *;generalize k.2-a.2=k2 at *;generalize n1*n1+n2*n2=n3 at *;generalize b1*b1+b2*b2=b3 at *;generalize m1*m1+m2*m2=m3 at *;generalize k1*k1+k2*k2=k3 at *;have id:=plk (n1:=n1) (n2:=n2) (n3:=n3) (b1:=b1) (b2:=b2) (b3:=b3) (m1:=m1) (m2:=m2) (m3:=m3) (k1:=k1) (k2:=k2) (k3:=k3);generalize k1*(b2*m3-b3*m2)-k2*(b1*m3-b3*m1)+k3*(b1*m2-b2*m1)=X at *;generalize n1*(b2*m3-b3*m2)-n2*(b1*m3-b3*m1)+n3*(b1*m2-b2*m1)=Y at *;generalize n1*(b2*k3-b3*k2)-n2*(b1*k3-b3*k1)+n3*(b1*k2-b2*k1)=Z at *;have y0:Y=0:=ν
 have z0:Z=0:=ν
 subst y0 z0;have id2:(n1*b2-n2*b1)*X=0:=by rw[id];grind
 rcases Rat.mul_eq_zero.1 id2 with g|g
 .exact absurd g h
 .rw[g];decide +kernel
theorem QW{x y z:Rat}(h1:0<x*y)(h2:0<y*z):0<x*z:=by
 have h3:=rY h1 h2;have hy:y≠0:=λe=>by rw[e]at h2;grind
 have h4:0<=y*y:=ES y;refine Decidable.byContradiction λhn=>?_
 have h5:=rH (show 0≤-(x*z) by grind) h4
 grind
theorem TU{a b:P2}:fB a a b=0:=by unfold fB;grind
theorem Ud{a b:P2}:fB a b b=0:=by unfold fB;grind
theorem OZ{a n b m k:P2}(h1:uy a n b m=true)(h2:uy a n b k=true)(hm:gu a m b≠0)(hk:gu a k b≠0):uy a k b m=true:=by
 rw[lZ]at h1 h2 ⊢;obtain⟨p1,p2,p3⟩:=h1;obtain⟨_,q2,q3⟩:=h2;refine⟨hk,WG p1 p2 q2,.inr (.inr ?_)⟩;rw[<-FC]at hm hk
 have p4:0<fB a m b*fB a n b:=by
  rcases p3 with rfl|rfl|h
  .exact absurd TU hm
  .exact absurd Ud hm
  .exact h
 have q4:0<fB a k b*fB a n b:=by
  rcases q3 with rfl|rfl|h
  .exact absurd TU hk
  .exact absurd Ud hk
  .exact h
 exact QW p4 ν
theorem qN{a m b:P2}(h:gu a m b≠0):uy a m b m=true:=by
 rw[lZ];refine⟨h, ?_,.inr (.inr ?_)⟩
 .simp only[Oc,Pj,PD,gu,cU,cV,cD];generalize m.1-a.1=m1;generalize m.2-a.2=m2;generalize b.1-a.1=b1;generalize b.2-a.2=b2
  grind
 .rw[<-FC]at h;have h4:0<=fB a m b*fB a m b:=ES _;have h5:fB a m b*fB a m b≠0:=λe=>h (Ql e)
  grind
theorem BF{a b c:P2}:gu c b a=0↔gu a b c=0:=by
 rw[H7];constructor<;>intro h
 .rw[<-Rat.neg_neg (gu a b c),h];decide +kernel
 .rw[h];decide +kernel
def sA(a m b c n d:P2):Prop:=((a=c/\b=d)\/(a=d/\b=c))/\((gu a m b=0/\gu c n d=0/\m=n)\/(gu a m b≠0/\gu c n d≠0/\uy c n d m=true/\uy a m b n=true))
theorem uT{a m b c n d:P2}:sA a m b c n d->sA a m b d n c:=by
 rintro ⟨h1,h2⟩;refine⟨h1.symm, ?_⟩;rw[CY c n d m];rcases h2 with⟨g1,g2,g3⟩|⟨g1,g2,g3,g4⟩
 .exact .inl ⟨g1,BF.2 g2,g3⟩
 .exact .inr ⟨g1,λe=>g2 (BF.1 e),g3,g4⟩
theorem BA{a m b c n d:P2}:sA a m b c n d->sA c n d a m b:=by
 rintro ⟨h1,h2⟩;refine⟨by rcases h1 with⟨rfl,rfl⟩|⟨rfl,rfl⟩<;>simp, ?_⟩;rcases h2 with⟨g1,g2,g3⟩|⟨g1,g2,g3,g4⟩
 .exact .inl ⟨g2,g1,g3.symm⟩
 .exact .inr ⟨g2,g1,g4,g3⟩
theorem yI{a m b n k:P2}:sA a m b a n b->sA a n b a k b->sA a m b a k b:=by
 rintro ⟨_,h2⟩ ⟨_,k2⟩;refine⟨.inl ⟨rfl,rfl⟩, ?_⟩;rcases h2 with⟨g1,g2,g3⟩|⟨g1,g2,g3,g4⟩<;>rcases k2 with⟨f1,f2,f3⟩|⟨f1,f2,f3,f4⟩
 .exact .inl ⟨g1,f2,g3.trans f3⟩
 .exact absurd g2 f1
 .exact absurd f1 g2
 .exact .inr ⟨g1,f2,OZ g3 f4 g1 f2,OZ f4 g3 f2 g1⟩
theorem yX{a m b n u k v:P2}(h:sA a m b a n b)(k':sA a n b u k v):sA a m b u k v:=by
 rcases k'.1 with⟨rfl,rfl⟩|⟨rfl,rfl⟩
 .exact yI h k'
 .exact uT (yI h (uT k'))
theorem Oj{a m b c n d u k v:P2}(h:sA a m b c n d)(k':sA c n d u k v):sA a m b u k v:=by
 rcases h.1 with⟨rfl,rfl⟩|⟨rfl,rfl⟩
 .exact yX h k'
 .exact yX (uT h) (BA (uT (BA k')))
def sE(e f:Ent):Prop:=eqS e.layer f.layer=true/\e.kind=f.kind /\
 match e.pts,f.pts with
 |[a],[b]=>a=b/\e.rad=f.rad
 |[a,b],[c,d]=>(a=c/\b=d)\/(a=d/\b=c)
 |[a,m,b],[c,n,d]=>sA a m b c n d
 |_,_=>False
theorem wX{a b c d:P2}:pV a b c d=true↔(a=c/\b=d)\/(a=d/\b=c):=by unfold pV;rw[decide_eq_true_eq]
theorem Vj{kd:Int}{ly:ByteArray}{a m b:P2}{rd:Rq}:uK ⟨kd,ly,[a,m,b],rd⟩=decide (gu a m b=0):=rfl
theorem U8{a m b c n d:P2}:(pV a b c d&&(if(decide (gu a m b=0)||decide (gu c n d=0))=true then decide (gu a m b=0)&&decide (gu c n d=0)&&decide (m=n)else uy c n d m&&uy a m b n))=true↔sA a m b c n d:=by
 unfold sA;rw[bY,wX];refine and_congr Iff.rfl ?_
 by_cases h1:gu a m b=0<;>by_cases h2:gu c n d=0<;>simp[h1,h2]
theorem jI{e f:Ent}:aY e f=true↔sE e f:=by
 obtain⟨k1,l1,p1,r1⟩:=e;obtain⟨k2,l2,p2,r2⟩:=f;unfold aY sE;rw[bY,bY,decide_eq_true_eq,and_assoc];refine and_congr Iff.rfl (and_congr Iff.rfl ?_);simp only
 match p1,p2 with
 |[a],[b]=>simp
 |[a,b],[c,d]=>exact wX
 |[a,m,b],[c,n,d]=>exact U8
 |[],_=>simp
 |[_],[]=>simp
 |[_],_::_::_=>simp
 |[_,_],[]=>simp
 |[_,_],[_]=>simp
 |[_,_],_::_::_::_=>simp
 |[_,_,_],[]=>simp
 |[_,_,_],[_]=>simp
 |[_,_,_],[_,_]=>simp
 |[_,_,_],_::_::_::_::_=>simp
 |_::_::_::_::_,_=>simp
theorem ML(s t:ByteArray):eqS s t=eqS t s:=by unfold eqS;rw[vS,beq_iff_eq,beq_iff_eq];exact eq_comm
theorem JD{s t u:ByteArray}(h:eqS s t=true)(k:eqS t u=true):eqS s u=true:=by
 unfold eqS at *;rw[eq_of_beq h];exact k
theorem Io{e f:Ent}:sE e f->sE f e:=by
 obtain⟨k1,l1,p1,r1⟩:=e;obtain⟨k2,l2,p2,r2⟩:=f;unfold sE;simp only;rintro ⟨h1,h2,h3⟩;refine⟨by rw[ML];exact h1,h2.symm, ?_⟩
 match p1,p2,h3 with
 |[a],[b],h3=>exact⟨h3.1.symm,h3.2.symm⟩
 |[a,b],[c,d],h3=>rcases h3 with⟨rfl,rfl⟩|⟨rfl,rfl⟩<;>simp
 |[a,m,b],[c,n,d],h3=>exact BA h3
theorem Lm{e f g:Ent}:sE e f->sE f g->sE e g:=by
 obtain⟨k1,l1,p1,r1⟩:=e;obtain⟨k2,l2,p2,r2⟩:=f;obtain⟨k3,l3,p3,r3⟩:=g;unfold sE;simp only;rintro ⟨h1,h2,h3⟩ ⟨g1,g2,g3⟩;refine⟨JD h1 g1,h2.trans g2, ?_⟩
 match p1,p2,p3,h3,g3 with
 |[a],[b],[c],h3,g3=>exact⟨h3.1.trans g3.1,h3.2.trans g3.2⟩
 |[a,b],[c,d],[u,v],h3,g3=>rcases h3 with⟨rfl,rfl⟩|⟨rfl,rfl⟩<;>rcases g3 with⟨rfl,rfl⟩|⟨rfl,rfl⟩<;>simp
 |[a,m,b],[c,n,d],[u,k,v],h3,g3=>exact Oj h3 g3
theorem qp(e f:Ent):aY e f=aY f e:=by
 rw[vS,jI,jI];exact⟨Io,Io⟩
theorem Cm{e f g:Ent}(h:aY e f=true)(k:aY f g=true):aY e g=true:=jI.2 (Lm (jI.1 h) (jI.1 k))
theorem Oo{a b c p:P2}(h:gu a b c=0):uy a b c p=false:=by
 rw[Bool.eq_false_iff];intro e;exact(lZ.1 e).1 h
@[reducible] def jD(q:Rat):Rq:=⟨decide (q.num<0),lim q.num.natAbs,decide ((q.den:Int)<0),lim (q.den:Int).natAbs⟩
theorem Vk{a m b c n d:P2}:(nH [a,m,b] [c,n,d] ||(nH [a,b] [c,d]&&(uy a m b n&&uy c n d m)))=true↔sA a m b c n d:=by
 have h3:nH [a,m,b] [c,n,d]=true↔m=n/\((a=c/\b=d)\/(a=d/\b=c)):=by
  unfold nH;simp;constructor
  .rintro (⟨rfl,rfl,rfl⟩|⟨rfl,rfl,rfl⟩)<;>simp
  .rintro ⟨rfl,⟨rfl,rfl⟩|⟨rfl,rfl⟩⟩<;>simp
 have h2:nH [a,b] [c,d]=true↔((a=c/\b=d)\/(a=d/\b=c)):=by unfold nH;simp
 rw[AY,bY,bY,h3,h2];unfold sA;constructor
 .rintro (⟨rfl,h⟩|⟨h,g1,g2⟩)
  .refine⟨h, ?_⟩;rcases h with⟨rfl,rfl⟩|⟨rfl,rfl⟩
   .by_cases hz:gu a m b=0
    .exact .inl ⟨hz,hz,rfl⟩
    .exact .inr ⟨hz,hz,qN hz,qN hz⟩
   .by_cases hz:gu a m b=0
    .exact .inl ⟨hz,BF.2 hz,rfl⟩
    .exact .inr ⟨hz,λe=>hz (BF.1 e),by rw[CY a m b];exact qN hz,qN hz⟩
  .exact⟨h,.inr ⟨(lZ.1 g1).1,(lZ.1 g2).1,g2,g1⟩⟩
 .rintro ⟨h,⟨g1,g2,rfl⟩|⟨g1,g2,g3,g4⟩⟩
  .exact .inl ⟨rfl,h⟩
  .exact .inr ⟨h,g4,g3⟩
theorem Ej{α:Type}{p:List α->Prop}(h0:p [])(h1:∀l e,p l->p (l++[e]))(l:List α):p l:=by
 have key:∀r:List α,p r.reverse:=λr=>by
  induction r with
  |nil=>exact h0
  |cons e r ih=>rw[List.reverse_cons];exact h1 _ _ ih
 have:=key l.reverse
 rwa [List.reverse_reverse]at this
theorem oJ(l:List Ent)(e:Ent):o7 (l++[e])=o7 l++[(e,(o7 l).any λp=>!p.2&&aY e p.1)]:=by
 unfold o7;rw[List.foldl_append];rfl
theorem rV(l:List Ent):(o7 l).map (·.1)=l:=by
 induction l using Ej with
 |h0=>rfl
 |h1 l e ih=>rw[oJ,bG,ih];rfl
theorem xA(l:List Ent):(o7 l).length=l.length:=by
 have:=congrArg List.length (rV l);simpa using this
theorem Jk(l:List Ent):∀p∈o7 l,p.2=true->∃q∈o7 l,q.2=false/\aY p.1 q.1=true:=by
 induction l using Ej with
 |h0=>intro p hp;simp[o7]at hp
 |h1 l e ih =>
  intro p hp h;rw[oJ]at hp ⊢;rcases jF.1 hp with hp|hp
  .obtain⟨q,q1,q2,q3⟩:=ih p hp h;exact⟨q,rF _ q1,q2,q3⟩
  .simp only[tZ]at hp;subst hp;obtain⟨q,q1,q2⟩:=Oe.1 h;rw[bY,uP]at q2;exact⟨q,rF _ q1,q2.1,q2.2⟩
theorem RZ(l:List Ent)(e:Ent):((o7 l).any λp=>!p.2&&aY e p.1)=l.any λf=>aY f e:=by
 rw[vS,Oe,Oe];constructor
 .rintro ⟨p,h1,h2⟩;rw[bY]at h2;refine⟨p.1, ?_,by rw[qp];exact h2.2⟩;have:=List.mem_map_of_mem (f:=(·.1)) h1
  rwa [rV]at this
 .rintro ⟨f,h1,h2⟩;rw[<-rV l]at h1;obtain⟨p,h3,rfl⟩:=dW.1 h1;cases h4:p.2 with
  |false=>exact⟨p,h3,by rw[h4,qp,h2];rfl⟩
  |true =>
   obtain⟨q,q1,q2,q3⟩:=Jk l p h3 h4;refine⟨q,q1, ?_⟩;rw[q2,Cm (by rw[qp];exact h2) q3];rfl
theorem Fe(l:List Ent)(e:Ent):bJ (l++[e])=bJ l++[l.any λf=>aY f e]:=by
 unfold bJ;rw[oJ,bG,<-RZ];rfl
theorem fF(l:List Ent):(bJ l).length=l.length:=by unfold bJ;rw[aG,xA]
theorem Qk{l:List Ent}{k:Nat}(h:k<l.length):(o7 l)[k]?=some (l.getD k E0,(bJ l).getD k false):=by
 have h1:k<(o7 l).length:=by rw[xA];exact h
 have e1:((o7 l).map (·.1))[k]?=l[k]?:=by rw[rV]
 rw[vJ,gG h1,gG h]at e1;simp only[rX,kR]at e1;rw[gG h1];congr 1;refine Prod.ext ?_ ?_
 .rw[e1];simp[iC,h]
 .simp[bJ,iC,h1]
theorem Bc{l:List Ent}{x:Nat}(h:x<l.length):l.take (x+1)=l.take x++[l.getD x E0]:=by
 rw[NM,gG h];simp[iC,h]
def uf(l:List Ent)(x:Nat):List Bool:=bJ (l.take x)++List.replicate (l.length-x) false
theorem Qc{l:List Ent}{x:Nat}(h:x<=l.length):(uf l x).length=l.length:=by
 unfold uf;rw[bD,fF,lG,qM];omega
theorem aao(l:List Ent):uf l 0=List.replicate l.length false:=rfl
theorem SL(l:List Ent):uf l l.length=bJ l:=by unfold uf;rw[x9,Nat.sub_self];simp
def oZ(l:List Ent)(x k:Nat):Bool:=((o7 (l.take x)).take k).any λp=>!p.2&&aY (l.getD x E0) p.1
theorem zx{l:List Ent}{x k:Nat}(hx:x<l.length)(hk:k<x):oZ l x (k+1)=(oZ l x k ||(!(uf l x).getD k false&&aY (l.getD x E0) (l.getD k E0))):=by
 have hk':k<(l.take x).length:=by simp;omega
 unfold oZ;rw[NM,List.any_append,Qk hk'];have e1:(l.take x).getD k E0=l.getD k E0:=by simp[iC,hk,xJ]
 have e2:(uf l x).getD k false=(bJ (l.take x)).getD k false:=by
  unfold uf;simp only[iC];rw[Eu (by rw[fF];exact hk')]
 rw[e1,e2];simp
theorem Ef{l:List Ent}{x:Nat}(hx:x<=l.length):oZ l x x=((o7 (l.take x)).any λp=>!p.2&&aY (l.getD x E0) p.1):=by
 unfold oZ;rw[JW (by rw[xA,lG];omega)]
theorem Jc{l:List Ent}{x k:Nat}(hx:x<l.length)(hk:k<x)(h:oZ l x (k+1)=true):oZ l x x=true:=by
 rw[Ef ω];unfold oZ at h;obtain⟨p,h1,h2⟩:=Oe.1 h;exact Oe.2 ⟨p,Tf h1,h2⟩
theorem Dw{l:List Ent}{x:Nat}(hx:x<l.length):uf l (x+1)=(uf l x).set x (oZ l x x):=by
 unfold uf
 have h1:bJ (l.take (x+1))=bJ (l.take x)++[oZ l x x]:=by
  rw[Bc hx];unfold bJ;rw[oJ,bG,Ef ω];rfl
 have h2:List.replicate (l.length-x) false=false::List.replicate (l.length-(x+1)) false:=by
  rw[show l.length-x=(l.length-(x+1))+1 by omega];rfl
 have h3:(bJ (l.take x)).length=x:=by rw[fF,lG];omega
 rw[h1,h2,List.set_append_right _ _ ω,h3,Nat.sub_self];simp
theorem ZC{l:List Ent}{x:Nat}(hx:x<l.length)(h:oZ l x x=false):uf l (x+1)=uf l x:=by
 rw[Dw hx,h];have h3:(bJ (l.take x)).length=x:=by rw[fF,lG];omega
 have h2:List.replicate (l.length-x) false=false::List.replicate (l.length-(x+1)) false:=by
  rw[show l.length-x=(l.length-(x+1))+1 by omega];rfl
 unfold uf;rw[h2,List.set_append_right _ _ ω,h3,Nat.sub_self];simp
theorem Ye{l:List Ent}{x k:Nat}(hx:x<l.length)(hk:k<x)(h:oZ l x (k+1)=true):uf l (x+1)=(uf l x).set x true:=by
 rw[Dw hx,Jc hx hk h]
theorem Dl(a d:Rat):aK (a-d)=dF a d:=by
 unfold aK dF
 by_cases h1:a<d
 .have:a-d<0:=ν
  simp[h1,this]
 .by_cases h2:a=d
  .subst h2;have:a-a=0:=ν
   rw[this];simp[h1]
  .have g1:¬ a-d<0:=ν
   have g2:¬ a-d=0:=ν
   simp[h1,h2,g1,g2]
   grind
theorem Yy:IntKind.i64.wrap (aK 0*aK 0)=0:=by
 have:aK 0=0:=by decide +kernel
 rw[this];decide
theorem Xw{a b:Rat}(h:a=b):packA [AV.c (Cell.v (Value.int IntKind.i64 (IntKind.i64.wrap (0-aK a))))]=AV.int IntKind.i64 (-aK b):=by
 subst h;refine iE ?_;unfold aK
 (repeat' split)<;>decide
theorem acO{X Y x y:Rat}(h:Y<y):true=decide (hf (X,Y) (x,y)=0):=by unfold hf;simp[h]
theorem acu{X Y x y:Rat}(h1:¬Y<y)(h2:y=Y):decide (X<x)=decide (hf (X,Y) (x,y)=0):=by
 unfold hf;subst h2;by_cases h:X<x<;>simp[h,h1]
theorem adp{X Y x y:Rat}(h1:¬Y<y)(h2:¬y=Y):false=decide (hf (X,Y) (x,y)=0):=by unfold hf;simp[h1,h2]
theorem adM{X Y x y u v:Rat}(h1:(decide (hf (X,Y) (x,y)=0) != decide (hf (X,Y) (u,v)=0))=false)(h2:hf (X,Y) (x,y)=0):IntKind.i64.wrap (0-dF x u)=iZ (X,Y) (x,y) (u,v):=by
 have h3:hf (X,Y) (u,v)=0:=by rw[h2]at h1;simpa using h1
 have h4:=nP x u
 have h5:iZ (X,Y) (x,y) (u,v) = -(dF x u):=by
  unfold iZ;rw[h2,h3,if_pos rfl,if_pos rfl]
 rw[h5];generalize dF x u=c at h4 ⊢;rw[aS ω ω];omega
theorem acg{k f p q:P2}(h:(decide (iZ k p f<0) != decide (iZ k q f<0))=true)(h2:iZ k q f<0):(-1:Int)=ng k f p q:=by
 have h3:¬iZ k p f<0:=λg=>by simp[g,h2]at h
 unfold ng;rw[if_neg (λg=>h3 (g.2 h2)),if_pos h2]
theorem acy{k f p q:P2}(h:(decide (iZ k p f<0) != decide (iZ k q f<0))=true)(h2:¬iZ k q f<0):(1:Int)=ng k f p q:=by
 have h3:iZ k p f<0:=by
  rcases Classical.em (iZ k p f<0)with g|g
  .exact g
  .simp[g,h2]at h
 unfold ng;rw[if_neg (λg=>h2 (g.1 h3)),if_neg h2]
theorem adv{k f p q:P2}(h:(decide (iZ k p f<0) != decide (iZ k q f<0))=false):iZ k p q=ng k f p q:=by
 have h3:iZ k p f<0↔iZ k q f<0:=by
  by_cases g:iZ k p f<0<;>by_cases g2:iZ k q f<0<;>simp[g,g2]at h ⊢
 unfold ng;rw[if_pos h3]
theorem aa9{k a c p:P2}{q:Rat}{cw:Bool}(h1:uI k q p)(h2:IQ k cw a a p<=0):decide (IQ k cw a p c<=0)=UF k q cw a c p:=by
 unfold UF;rw[decide_eq_true h1,decide_eq_true h2];rfl
theorem YU{p q:Rat}(h:p-q=0):p=q:=ν
theorem adH{a b c d e f:Rat}(h:¬cD a b c d e f=0):decide ((c-a)*(f-b)<(d-b)*(e-a)) = !decide (0<cD a b c d e f):=by
 rw[<-cwR h,decide_eq_decide,xB]
end Go.Sw
namespace Go.Proofs.YtmniihkenijjpaaGreatDoor
open Go Go.RowKit Go.Sw
set_option maxRecDepth 100000
set_option maxHeartbeats 8000000
set_option synthInstance.maxSize 4000
set_option synthInstance.maxHeartbeats 400000
instance XT(a b c d:Rat):DenI Tryz.prog 317 [Q3 a b c,R d] (rz a<=4000000/\rz b<=4000000/\rz c<=4000000/\rz d<=4000000) (Q3 (a+d) b c):=⟨λhp=>by
 have i_a:RzB a 4000000:=⟨hp.1⟩
 have i_b:RzB b 4000000:=⟨hp.2.1⟩
 have i_c:RzB c 4000000:=⟨hp.2.2.1⟩
 have i_d:RzB d 4000000:=⟨hp.2.2.2⟩
 all_goals refine au Tryz.func317 rfl ?_
 all_goals(repeat'((try(conv=>whnf));first
  |refine zaa ?_ ?_|refine zas ζ ?_|apply zaq))
 all_goals(try apply zar)
 all_goals first
  |rfl|((repeat' apply And.intro)<;>first|assumption|exact dY ω|exact eX ω|exact dU (aj _) (aj _))⟩
instance y_x(a d:Rat):DenI Tryz.prog 284 [Q5 a 0 d 0 0] (rz a<=4000000/\rz d<=4000000) (Q3 a 0 0):=⟨λhp=>by
 have i_a:RzB a 4000000:=⟨hp.1⟩
 have i_d:RzB d 4000000:=⟨hp.2⟩
 all_goals refine au Tryz.func284 rfl ?_
 all_goals(repeat'((try(conv=>whnf));first
  |refine zaa ?_ ?_|apply zaq))
 all_goals(try apply zar)
 all_goals first
  |rfl|((repeat' apply And.intro)<;>first|assumption|exact dY ω|exact eX ω|exact dU (aj _) (aj _))⟩
instance y_y(a d:Rat):DenI Tryz.prog 285 [Q5 a 0 d 0 0] (rz a<=4000000/\rz d<=4000000) (Q3 d 0 0):=⟨λhp=>by
 have i_a:RzB a 4000000:=⟨hp.1⟩
 have i_d:RzB d 4000000:=⟨hp.2⟩
 all_goals refine au Tryz.func285 rfl ?_
 all_goals(repeat'((try(conv=>whnf));first
  |refine zaa ?_ ?_|apply zaq))
 all_goals(try apply zar)
 all_goals first
  |rfl|((repeat' apply And.intro)<;>first|assumption|exact dY ω|exact eX ω|exact dU (aj _) (aj _))⟩
instance afp(a d x y:Rat):DenI Tryz.prog 341 [Q5 a 0 d 0 0,Q2 x y] (rz a<=4000000/\rz d<=4000000/\rz x<=4000000/\rz y<=4000000) (Q5 (a+x) 0 (d+y) 0 0):=⟨λhp=>by
 have i_a:RzB a 4000000:=⟨hp.1⟩
 have i_d:RzB d 4000000:=⟨hp.2.1⟩
 have i_x:RzB x 4000000:=⟨hp.2.2.1⟩
 have i_y:RzB y 4000000:=⟨hp.2.2.2⟩
 all_goals refine au Tryz.func341 rfl ?_
 all_goals(repeat'((try(conv=>whnf));first
  |refine zaa ?_ ?_|refine zas ζ ?_|apply zaq))
 all_goals(try apply zar)
 all_goals first
  |rfl|((repeat' apply And.intro)<;>first|assumption|exact dY ω|exact eX ω|exact dU (aj _) (aj _))⟩
instance ae9(a:Rat):DenI Tryz.prog 360 [Q3 a 0 0,Q3 a 0 0] (rz a<=100000) (.tup [Q3 (a*a) 0 0,.int .i64 0]):=⟨λhp=>by
 have i_a:RzB a 100000:=⟨hp⟩
 all_goals refine au Tryz.func360 rfl ?_
 all_goals(repeat'((try(conv=>whnf));first
  |refine zaa ?_ ?_|refine zat (λ_=>?_) (λ_=>?_)|refine zas ζ ?_|apply zaq))
 all_goals(try apply zar)
 all_goals(try simp only[aV]at *)
 all_goals first
  |(simp only[Rat.mul_zero,Rat.zero_mul,Rat.add_zero,Rat.zero_add];rfl)|((repeat' apply And.intro)<;>first|assumption|exact dY ω|exact eX ω|exact dU (aj _) (aj _))|(exfalso;simp_all;done)⟩
instance aec(a:Rat):DenI Tryz.prog 344 [Q3 a 0 0] (rz a<=100000) (Q3 (a*a) 0 0):=⟨λhp=>by
 have i_a:RzB a 100000:=⟨hp⟩
 all_goals refine au Tryz.func344 rfl ?_
 all_goals(repeat'((try(conv=>whnf));first
  |refine zaa ?_ ?_|apply zaq))
 all_goals(try apply zar)
 all_goals first
  |rfl|((repeat' apply And.intro)<;>first|assumption|exact dY ω|exact eX ω|exact dU (aj _) (aj _))⟩
instance aeh(a d:Rat):DenI Tryz.prog 343 [Q3 a 0 0,Q3 d 0 0] (rz a<=300000/\rz d<=300000) (.tup [Q3 (a+d) 0 0,.int .i64 0]):=⟨λhp=>by
 have i_a:RzB a 300000:=⟨hp.1⟩
 have i_d:RzB d 300000:=⟨hp.2⟩
 all_goals refine au Tryz.func343 rfl ?_
 all_goals(repeat'((try(conv=>whnf));first
  |refine zaa ?_ ?_|refine zat (λ_=>?_) (λ_=>?_)|refine zas ζ ?_|apply zaq))
 all_goals(try apply zar)
 all_goals(try simp only[aV]at *)
 all_goals first
  |(simp only[Rat.add_zero];rfl)|((repeat' apply And.intro)<;>first|assumption|exact dY ω|exact eX ω|exact dU (aj _) (aj _))|(exfalso;simp_all;done)⟩
instance afq(a d x y:Rat):DenI Tryz.prog 318 [Q5 a 0 d 0 0,Q2 x y] (rz a<=10000/\rz d<=10000/\rz x<=10000/\rz y<=10000) (Q3 ((a + -x)*(a + -x)+(d + -y)*(d + -y)) 0 0):=⟨λhp=>by
 have i_a:RzB a 10000:=⟨hp.1⟩
 have i_d:RzB d 10000:=⟨hp.2.1⟩
 have i_x:RzB x 10000:=⟨hp.2.2.1⟩
 have i_y:RzB y 10000:=⟨hp.2.2.2⟩
 all_goals refine au Tryz.func318 rfl ?_
 all_goals(repeat'((try(conv=>whnf));first
  |refine zaa ?_ ?_|refine zas ζ ?_|apply zaq))
 all_goals(try apply zar)
 all_goals first
  |rfl|((repeat' apply And.intro)<;>first|assumption|exact dY ω|exact eX ω|exact dU (aj _) (aj _))⟩
instance adU(X Y Q x y:Rat):DenI Tryz.prog 281 [Q3 X Y Q,Q5 x 0 y 0 0] (rz X<=10000/\rz Y<=10000/\rz Q<=30000/\rz x<=10000/\rz y<=10000) (Q3 ((x + -X)*(x + -X)+(y + -Y)*(y + -Y) + -Q) 0 0):=⟨λhp=>by
 obtain⟨q0,q1,q2,q3,q4⟩:=hp;have i_X:RzB X 10000:=⟨q0⟩
 have i_Y:RzB Y 10000:=⟨q1⟩
 have i_Q:RzB Q 30000:=⟨q2⟩
 have i_x:RzB x 10000:=⟨q3⟩
 have i_y:RzB y 10000:=⟨q4⟩
 all_goals refine au Tryz.func281 rfl ?_
 all_goals(repeat'((try(conv=>whnf));first
  |refine zaa ?_ ?_|refine zas ζ ?_|apply zaq))
 all_goals(try apply zar)
 all_goals first
  |rfl|((repeat' apply And.intro)<;>first|assumption|exact dY ω|exact eX ω|exact dU (aj _) (aj _))⟩
instance abm(a:Rat):DenI Tryz.prog 280 [Q3 a 0 0] (rz a<=4000000) (.int .i64 (aK a)):=⟨λhp=>by
 have i_a:RzB a 4000000:=⟨hp⟩
 all_goals refine au Tryz.func280 rfl ?_
 all_goals(repeat'((try(conv=>whnf));first
  |apply zaf|refine zaa ?_ ?_|(with_reducible first|apply zab|apply zac|refine zad (λ_=>?_) (λ_=>?_))|refine zas ζ ?_|apply zaq))
 all_goals(try apply zar)
 all_goals(try simp only[aV]at *)
 all_goals first
  |rfl|(simp only[wO,xH,QX,RD,P5,yg,P7, *,true_or,or_true,if_true,if_false,or_self,and_self,and_true,true_and,and_false,false_and,not_true,not_false_iff,uw,decide_true,decide_false,JZ,JM,EX,Bj];rfl)|((repeat' apply And.intro)<;>first|assumption|exact dY ω|exact eX ω|exact dU (aj _) (aj _))|(exfalso;simp_all;done)⟩
instance adT(X Y Q x y:Rat):DenI Tryz.prog 247 [Q3 X Y Q,Q5 x 0 y 0 0] (rz X<=10000/\rz Y<=10000/\rz Q<=30000/\rz x<=10000/\rz y<=10000) (.int .i64 (-(aK ((x-X)*(x-X)+(y-Y)*(y-Y)-Q)))):=⟨λhp=>by
 obtain⟨q0,q1,q2,q3,q4⟩:=hp;have i_X:RzB X 10000:=⟨q0⟩
 have i_Y:RzB Y 10000:=⟨q1⟩
 have i_Q:RzB Q 30000:=⟨q2⟩
 have i_x:RzB x 10000:=⟨q3⟩
 have i_y:RzB y 10000:=⟨q4⟩
 all_goals refine au Tryz.func247 rfl ?_
 all_goals(repeat'((try(conv=>whnf));first
  |refine zaa ?_ ?_|apply zaq))
 all_goals(try apply zar)
 all_goals first
  |exact Xw ν|((repeat' apply And.intro)<;>first|assumption|exact dY ω|exact eX ω|exact dU (aj _) (aj _))⟩
instance aeI(a:Rat):DenI Tryz.prog 347 [R a,R 0,R 0] (rz a<=4000000) (.int .i64 (aK a)):=⟨λhp=>by
 have i_a:RzB a 4000000:=⟨hp⟩
 all_goals refine au Tryz.func347 rfl ?_
 all_goals(repeat'((try(conv=>whnf));first
  |apply zaf|refine zaa ?_ ?_|(with_reducible first|apply zab|apply zac|refine zad (λ_=>?_) (λ_=>?_))|refine zas ζ ?_|apply zaq))
 all_goals(try apply zar)
 all_goals(try simp only[aV]at *)
 all_goals first
  |(exfalso;rename ¬IntKind.i64.wrap _=0=>h;exact h Yy)|rfl|(simp only[wO,xH,QX,RD,P5,yg,P7, *,true_or,or_true,if_true,if_false,or_self,and_self,and_true,true_and,and_false,false_and,not_true,not_false_iff,uw,decide_true,decide_false,JZ,JM,EX,Bj];rfl)⟩
instance ad7(a d:Rat):DenI Tryz.prog 321 [Q3 a 0 0,Q3 d 0 0] (rz a<=4000000/\rz d<=4000000) (.agg [zs (a-d:Rat).num,zl (a-d:Rat).num,zs (a-d:Rat).den,zl (a-d:Rat).den,zs (0:Rat).num,zl (0:Rat).num,zs (0:Rat).den,zl (0:Rat).den,zs (0:Rat).num,zl (0:Rat).num,zs (0:Rat).den,zl (0:Rat).den,zs (0:Rat).num,zl (0:Rat).num,zs (0:Rat).den,zl (0:Rat).den,zs (0:Rat).num,zl (0:Rat).num,zs (0:Rat).den,zl (0:Rat).den,zs (0:Rat).num,zl (0:Rat).num,zs (0:Rat).den,zl (0:Rat).den]):=⟨λhp=>by
 have i_a:RzB a 4000000:=⟨hp.1⟩
 have i_d:RzB d 4000000:=⟨hp.2⟩
 all_goals refine au Tryz.func321 rfl ?_
 all_goals(repeat'((try(conv=>whnf));first
  |refine zaa ?_ ?_|refine zas ζ ?_|apply zaq))
 all_goals(try apply zar)
 all_goals first
  |(simp only[Rat.neg_zero];rfl)|((repeat' apply And.intro)<;>first|assumption|exact dY ω|exact eX ω|exact dU (aj _) (aj _))|omega⟩
instance abq(a:Rat):DenI Tryz.prog 320 [.agg [zs a.num,zl a.num,zs a.den,zl a.den,zs (0:Rat).num,zl (0:Rat).num,zs (0:Rat).den,zl (0:Rat).den,zs (0:Rat).num,zl (0:Rat).num,zs (0:Rat).den,zl (0:Rat).den,zs (0:Rat).num,zl (0:Rat).num,zs (0:Rat).den,zl (0:Rat).den,zs (0:Rat).num,zl (0:Rat).num,zs (0:Rat).den,zl (0:Rat).den,zs (0:Rat).num,zl (0:Rat).num,zs (0:Rat).den,zl (0:Rat).den]] (rz a<=4000000) (.int .i64 (aK a)):=⟨λhp=>by
 have i_a:RzB a 4000000:=⟨hp⟩
 all_goals refine au Tryz.func320 rfl ?_
 all_goals(repeat'((try(conv=>whnf));first
  |apply zaf|refine zaa ?_ ?_|(with_reducible first|apply zab|apply zac|refine zad (λ_=>?_) (λ_=>?_))|refine zas ζ ?_|apply zaq))
 all_goals(try apply zar)
 all_goals(try simp only[aV]at *)
 all_goals first
  |(exfalso;rename ¬IntKind.i64.wrap _=0=>h;exact h Yy)|rfl|(simp only[wO,xH,QX,RD,P5,yg,P7, *,true_or,or_true,if_true,if_false,or_self,and_self,and_true,true_and,and_false,false_and,not_true,not_false_iff,uw,decide_true,decide_false,JZ,JM,EX,Bj];rfl)|((repeat' apply And.intro)<;>first|assumption|exact dY ω|exact eX ω|exact dU (aj _) (aj _))|(exfalso;simp_all;done)⟩
instance aez(a d:Rat):DenI Tryz.prog 283 [Q3 a 0 0,Q3 d 0 0] (rz a<=990000/\rz d<=990000) (.int .i64 (dF a d)):=⟨λhp=>by
 have i_a:RzB a 990000:=⟨hp.1⟩
 have i_d:RzB d 990000:=⟨hp.2⟩
 all_goals refine au Tryz.func283 rfl ?_
 all_goals(repeat'((try(conv=>whnf));first
  |refine zaa ?_ ?_|apply zaq))
 all_goals(try apply zar)
 all_goals first
  |(refine iE ?_;exact Dl _ _)|((repeat' apply And.intro)<;>first|assumption|exact dY ω|exact eX ω|exact dU (aj _) (aj _))⟩
instance abw(a d:Rat):DenI Tryz.prog 348 [Q3 a 0 0,R d] (rz a<=990000/\rz d<=990000) (.int .i64 (dF a d)):=⟨λhp=>by
 have i_a:RzB a 990000:=⟨hp.1⟩
 have i_d:RzB d 990000:=⟨hp.2⟩
 all_goals refine au Tryz.func348 rfl ?_
 all_goals(repeat'((try(conv=>whnf));first
  |refine zaa ?_ ?_|refine zas ζ ?_|apply zaq))
 all_goals(try apply zar)
 all_goals first
  |(refine iE ?_;exact Dl _ _)|((repeat' apply And.intro)<;>first|assumption|exact dY ω|exact eX ω|exact dU (aj _) (aj _))⟩
instance afD(X Y Q x y:Rat):DenI Tryz.prog 323 [Q3 X Y Q,Q5 x 0 y 0 0] (rz X<=990000/\rz Y<=990000/\rz Q<=990000/\rz x<=990000/\rz y<=990000) (.bool (decide (hf (X,Y) (x,y)=0))):=⟨λhp=>by
 have i_X:RzB X 990000:=⟨hp.1⟩
 have i_Y:RzB Y 990000:=⟨hp.2.1⟩
 have i_Q:RzB Q 990000:=⟨hp.2.2.1⟩
 have i_x:RzB x 990000:=⟨hp.2.2.2.1⟩
 have i_y:RzB y 990000:=⟨hp.2.2.2.2⟩
 all_goals refine au Tryz.func323 rfl ?_
 all_goals(repeat'((try(conv=>whnf));first
  |refine zaa ?_ ?_|(with_reducible first|apply zab|apply zac|refine zad (λ_=>?_) (λ_=>?_))|refine zas ζ ?_|apply zaq))
 all_goals(try apply zar)
 all_goals(try simp only[aV]at *)
 all_goals first
  |exact bE (acO ξ)|exact bE (acu ξ ξ)|exact bE (adp ξ ξ)|((repeat' apply And.intro)<;>first|assumption|exact dY ω|exact eX ω|exact dU (aj _) (aj _))⟩
instance afG(X Y Q x y u v:Rat):DenI Tryz.prog 286 [Q3 X Y Q,Q5 x 0 y 0 0,Q5 u 0 v 0 0] (rz X<=990000/\rz Y<=990000/\rz Q<=990000/\rz x<=990000/\rz y<=990000/\rz u<=990000/\rz v<=990000) (.int .i64 (iZ (X,Y) (x,y) (u,v))):=⟨λhp=>by
 have i_X:RzB X 990000:=⟨hp.1⟩
 have i_Y:RzB Y 990000:=⟨hp.2.1⟩
 have i_Q:RzB Q 990000:=⟨hp.2.2.1⟩
 have i_x:RzB x 990000:=⟨hp.2.2.2.1⟩
 have i_y:RzB y 990000:=⟨hp.2.2.2.2.1⟩
 have i_u:RzB u 990000:=⟨hp.2.2.2.2.2.1⟩
 have i_v:RzB v 990000:=⟨hp.2.2.2.2.2.2⟩
 have z1:=qm (X,Y) (x,y);have z2:=qm (X,Y) (u,v);have z3:=nP x u
 all_goals refine au Tryz.func286 rfl ?_
 all_goals(repeat'((try(conv=>whnf));first
  |refine zaa ?_ ?_|(with_reducible refine zad (λ_=>?_) (λ_=>?_))|refine zat (λ_=>?_) (λ_=>?_)|refine zas ζ ?_|apply zaq))
 all_goals(try apply zar)
 all_goals first
  |(refine iE ?_;with_reducible exact adM ξ ξ)|(refine iE ?_;unfold iZ;grind)|((repeat' apply And.intro)<;>first|assumption|exact dY ω|exact eX ω|exact dU (aj _) (aj _))⟩
instance adY(X Y Q x y u v s t:Rat):DenI Tryz.prog 250 [Q3 X Y Q,Q5 x 0 y 0 0,Q5 u 0 v 0 0,Q5 s 0 t 0 0] (rz X<=990000/\rz Y<=990000/\rz Q<=990000/\rz x<=990000/\rz y<=990000/\rz u<=990000/\rz v<=990000/\rz s<=990000/\rz t<=990000) (.int .i64 (ng (X,Y) (x,y) (u,v) (s,t))):=⟨λhp=>by
 have i_X:RzB X 990000:=⟨hp.1⟩
 have i_Y:RzB Y 990000:=⟨hp.2.1⟩
 have i_Q:RzB Q 990000:=⟨hp.2.2.1⟩
 have i_x:RzB x 990000:=⟨hp.2.2.2.1⟩
 have i_y:RzB y 990000:=⟨hp.2.2.2.2.1⟩
 have i_u:RzB u 990000:=⟨hp.2.2.2.2.2.1⟩
 have i_v:RzB v 990000:=⟨hp.2.2.2.2.2.2.1⟩
 have i_s:RzB s 990000:=⟨hp.2.2.2.2.2.2.2.1⟩
 have i_t:RzB t 990000:=⟨hp.2.2.2.2.2.2.2.2⟩
 all_goals refine au Tryz.func250 rfl ?_
 all_goals(repeat'((try(conv=>whnf));first
  |refine zaa ?_ ?_|(with_reducible refine zad (λ_=>?_) (λ_=>?_))|refine zat (λ_=>?_) (λ_=>?_)|refine zas ζ ?_|apply zaq))
 all_goals(try apply zar)
 all_goals first
  |exact iE (acg ξ ξ)|exact iE (acy ξ ξ)|exact iE (adv ξ)|((repeat' apply And.intro)<;>first|assumption|exact dY ω|exact eX ω|exact dU (aj _) (aj _))⟩
instance adL(a d:Rat):DenI Tryz.prog 252 [Q5 a 0 d 0 0] (rz a<=4000000/\rz d<=4000000) (Q5 (-a) 0 d 0 0):=⟨λhp=>by
 have i_a:RzB a 4000000:=⟨hp.1⟩
 have i_d:RzB d 4000000:=⟨hp.2⟩
 all_goals refine au Tryz.func252 rfl ?_
 all_goals(repeat'((try(conv=>whnf));first
  |refine zaa ?_ ?_|refine zas ζ ?_|apply zaq))
 all_goals(try apply zar)
 all_goals first
  |(simp only[Rat.neg_zero];rfl)|((repeat' apply And.intro)<;>first|assumption|exact dY ω|exact eX ω|exact dU (aj _) (aj _))⟩
instance acz(X Y Q a b e f:Rat):DenI Tryz.prog 251 [.agg (xk X Y Q true a b e f)] (rz X<=990000/\rz Y<=990000/\rz Q<=990000/\rz a<=990000/\rz b<=990000/\rz e<=990000/\rz f<=990000) (.agg (xk (-X) Y Q false (-a) b (-e) f)):=⟨λhp=>by
 have i_X:RzB X 990000:=⟨hp.1⟩
 have i_Y:RzB Y 990000:=⟨hp.2.1⟩
 have i_Q:RzB Q 990000:=⟨hp.2.2.1⟩
 have i_a:RzB a 990000:=⟨hp.2.2.2.1⟩
 have i_b:RzB b 990000:=⟨hp.2.2.2.2.1⟩
 have i_e:RzB e 990000:=⟨hp.2.2.2.2.2.1⟩
 have i_f:RzB f 990000:=⟨hp.2.2.2.2.2.2⟩
 all_goals refine au Tryz.func251 rfl ?_
 all_goals(repeat'((try(conv=>whnf));first
  |refine zaa ?_ ?_|refine zas ζ ?_|apply zaq))
 all_goals(try apply zar)
 all_goals first
  |rfl|((repeat' apply And.intro)<;>first|assumption|exact dY ω|exact eX ω|exact dU (aj _) (aj _))⟩
instance aea(X Y Q a b e f x y u v:Rat)(cw:Bool):DenI Tryz.prog 219 [.agg (xk X Y Q cw a b e f),Q5 x 0 y 0 0,Q5 u 0 v 0 0] (rz X<=7000/\rz Y<=7000/\rz Q<=27000/\rz a<=12/\rz b<=12/\rz e<=12/\rz f<=12/\rz x<=12/\rz y<=12/\rz u<=12/\rz v<=12) (.int .i64 (IQ (X,Y) cw (a,b) (x,y) (u,v))):=⟨λhp=>by
 obtain⟨q0,q1,q2,q3,q4,q5,q6,q7,q8,q9,q10⟩:=hp;have i_X:RzB X 7000:=⟨q0⟩
 have i_Y:RzB Y 7000:=⟨q1⟩
 have i_Q:RzB Q 27000:=⟨q2⟩
 have i_a:RzB a 12:=⟨q3⟩
 have i_b:RzB b 12:=⟨q4⟩
 have i_e:RzB e 12:=⟨q5⟩
 have i_f:RzB f 12:=⟨q6⟩
 have i_x:RzB x 12:=⟨q7⟩
 have i_y:RzB y 12:=⟨q8⟩
 have i_u:RzB u 12:=⟨q9⟩
 have i_v:RzB v 12:=⟨q10⟩
 cases cw
 all_goals refine au Tryz.func219 rfl ?_
 all_goals(repeat'((try(conv=>whnf));first
  |refine zaa ?_ ?_|refine zat (λ_=>?_) (λ_=>?_)|refine zas ζ ?_|apply zaq))
 all_goals(try apply zar)
 all_goals(try simp only[aV]at *)
 all_goals first
  |rfl|((repeat' apply And.intro)<;>first|assumption|exact dY ω|exact eX ω|exact dU (aj _) (aj _))|(exfalso;simp_all;done)⟩
instance ae8(X Y Q a b e f x y:Rat)(cw:Bool):DenI Tryz.prog 218 [.agg (xk X Y Q cw a b e f),Q5 x 0 y 0 0] (rz X<=7000/\rz Y<=7000/\rz Q<=27000/\rz a<=12/\rz b<=12/\rz e<=12/\rz f<=12/\rz x<=12/\rz y<=12) (.bool (decide (uI (X,Y) Q (x,y)))):=⟨λhp=>by
 obtain⟨q0,q1,q2,q3,q4,q5,q6,q7,q8⟩:=hp;have i_X:RzB X 7000:=⟨q0⟩
 have i_Y:RzB Y 7000:=⟨q1⟩
 have i_Q:RzB Q 27000:=⟨q2⟩
 have i_a:RzB a 12:=⟨q3⟩
 have i_b:RzB b 12:=⟨q4⟩
 have i_e:RzB e 12:=⟨q5⟩
 have i_f:RzB f 12:=⟨q6⟩
 have i_x:RzB x 12:=⟨q7⟩
 have i_y:RzB y 12:=⟨q8⟩
 all_goals refine au Tryz.func218 rfl ?_
 all_goals(repeat'((try(conv=>whnf));first
  |refine zaa ?_ ?_|(with_reducible apply zab)|apply zaq))
 all_goals(try apply zar)
 all_goals first
  |exact bE Hl|((repeat' apply And.intro)<;>first|assumption|exact dY ω|exact eX ω|exact dU (aj _) (aj _))⟩
instance afz(X Y Q a b e f x y:Rat)(cw:Bool):DenI Tryz.prog 174 [.agg (xk X Y Q cw a b e f),Q5 x 0 y 0 0] (rz X<=7000/\rz Y<=7000/\rz Q<=27000/\rz a<=12/\rz b<=12/\rz e<=12/\rz f<=12/\rz x<=12/\rz y<=12) (.bool (UF (X,Y) Q cw (a,b) (e,f) (x,y))):=⟨λhp=>by
 obtain⟨q0,q1,q2,q3,q4,q5,q6,q7,q8⟩:=hp;have i_X:RzB X 7000:=⟨q0⟩
 have i_Y:RzB Y 7000:=⟨q1⟩
 have i_Q:RzB Q 27000:=⟨q2⟩
 have i_a:RzB a 12:=⟨q3⟩
 have i_b:RzB b 12:=⟨q4⟩
 have i_e:RzB e 12:=⟨q5⟩
 have i_f:RzB f 12:=⟨q6⟩
 have i_x:RzB x 12:=⟨q7⟩
 have i_y:RzB y 12:=⟨q8⟩
 all_goals refine au Tryz.func174 rfl ?_
 all_goals(repeat'((try(conv=>whnf));first
  |refine zaa ?_ ?_|(with_reducible first|apply zab|apply zac|refine zad (λ_=>?_) (λ_=>?_))|apply zaq))
 all_goals(try apply zar)
 all_goals first
  |exact bE (aa9 ξ ξ)|(refine bE ?_;unfold UF;simp_all;done)|(refine bE ?_;unfold UF;simp[*];done)|((repeat' apply And.intro)<;>first|assumption|exact dY ω|exact eX ω|exact dU (aj _) (aj _))⟩
instance acP(a b c d e f:Rat):DenI Tryz.prog 172 [Q2 a b,Q2 c d,Q2 e f] (rz a<=1000/\rz b<=1000/\rz c<=1000/\rz d<=1000/\rz e<=1000/\rz f<=1000) (.int .i64 (dF ((c-a)*(f-b)) ((d-b)*(e-a)))):=⟨λhp=>by
 have i_a:RzB a 1000:=⟨hp.1⟩
 have i_b:RzB b 1000:=⟨hp.2.1⟩
 have i_c:RzB c 1000:=⟨hp.2.2.1⟩
 have i_d:RzB d 1000:=⟨hp.2.2.2.1⟩
 have i_e:RzB e 1000:=⟨hp.2.2.2.2.1⟩
 have i_f:RzB f 1000:=⟨hp.2.2.2.2.2⟩
 all_goals refine au Tryz.func172 rfl ?_
 all_goals(repeat'((try(conv=>whnf));first
  |refine zaa ?_ ?_|refine zas ζ ?_|apply zaq))
 all_goals(try apply zar)
 all_goals first
  |rfl|((repeat' apply And.intro)<;>first|assumption|exact dY ω|exact eX ω|exact dU (aj _) (aj _))⟩
instance aeT(a b c d e f:Rat):DenC Tryz.prog 129 [Q2 a b,Q2 c d,Q2 e f] (rz a<=100/\rz b<=100/\rz c<=100/\rz d<=100/\rz e<=100/\rz f<=100) (cD a b c d e f=0) (.tup [.agg [.v (.bool false),.v (.bool false),.sl 1 [],.v (.bool false),.sl 1 [],.v (.bool false),.sl 1 [],.v (.bool false),.sl 1 [],.v (.bool false),.sl 1 [],.v (.bool false),.sl 1 [],.v (.bool false),.sl 1 [],.v (.bool false),.sl 1 [],.v (.bool false),.sl 1 [],.v (.bool false),.sl 1 [],.v (.bool false),.sl 1 [],.v (.bool false),.sl 1 [],.v (.bool false),.v (.bool false),.sl 1 [],.v (.bool false),.sl 1 [],.v (.bool false),.sl 1 [],.v (.bool false),.sl 1 [],.v (.bool false),.sl 1 [],.v (.bool false),.sl 1 [],.v (.bool false),.sl 1 [],.v (.bool false),.sl 1 [],.v (.bool false),.sl 1 [],.v (.bool false),.sl 1 [],.v (.bool false),.sl 1 [],.v (.bool false),.sl 1 [],.v (.bool false),.sl 1 [],.v (.bool false),.sl 1 [],.v (.bool false),.sl 1 [],.v (.bool false),.sl 1 [],.v (.bool false),.sl 1 [],.v (.bool false),.sl 1 [],.v (.bool false),.sl 1 [],.v (.bool false),.sl 1 []],.int .i64 6]) (.tup [.agg (xk (WV (a,b) (c,d) (e,f)) (U9 (a,b) (c,d) (e,f)) (Ia (a,b) (c,d) (e,f)) (!decide (0<cD a b c d e f)) a b e f),.int .i64 0]):=⟨denC λhp q e1 e2=>by
 have i_a:RzB a 100:=⟨hp.1⟩
 have i_b:RzB b 100:=⟨hp.2.1⟩
 have i_c:RzB c 100:=⟨hp.2.2.1⟩
 have i_d:RzB d 100:=⟨hp.2.2.2.1⟩
 have i_e:RzB e 100:=⟨hp.2.2.2.2.1⟩
 have i_f:RzB f 100:=⟨hp.2.2.2.2.2⟩
 all_goals refine au Tryz.func129 rfl ?_
 all_goals(repeat'((try(conv=>whnf));first
  |refine zaa ?_ ?_|refine zao ?_ (λ_=>?_) (λ_=>?_)|(with_reducible first|apply zab|apply zac|refine zad (λ_=>?_) (λ_=>?_)|refine zae (λ_=>?_) (λ_=>?_))|refine zas ζ ?_|apply zaq))
 all_goals(try apply zar)
 all_goals(try simp only[aV]at *)
 all_goals first
  |(rw[e1 ξ];rfl)|(exfalso;(with_reducible rename _-_=(0:Rat)=>h0);exact absurd (YU h0) (by with_reducible assumption))|((with_reducible show packA _=_);rw[e2 (by unfold cD;with_reducible assumption),<-adH (by unfold cD;with_reducible assumption)];rfl)|(rw[e1 (by unfold cD;grind)];rfl)|((repeat' apply And.intro)<;>first|assumption|exact dY ω|exact eX ω|exact dU (aj _) (aj _))⟩
end Go.Proofs.YtmniihkenijjpaaGreatDoor
namespace Go.Sw
open Go Go.RowKit
theorem den_lift{P:Program}(i j:Wld P)(hij:∀w,j.ok w->i.ok w){f:FuncId}{xs:List AV}{r:AV}(h : @Den P i f xs r):@Den P j f xs r:=by
 revert h;unfold Den;split
 .exactλh=>⟨h.1,λw X g T us vs more mo hW=>h.2 w X g T us vs more mo (hij w hW)⟩
 .exact id
 .exactλh=>⟨h.1,λw X g cap uss rest vs hW=>h.2 w X g cap uss rest vs (hij w hW)⟩
 .exactλh=>⟨h.1,λw X vs hW=>h.2 w X vs (hij w hW)⟩
structure MapSays (P:Program) (t:TypeId) (g:Nat) (f:Int->ByteArray) (w:World):Prop where
 ex:∃bm es clock,w.cell? ⟨g,0,none⟩=some (.map (some bm))/\w.heap[bm]?=some (.map es clock)/\∀w':World,w'.heap[bm]?=some (.map es clock)->∀k:Int,-9223372036854775808<=k->k<=9223372036854775807->(Instr.lookup t (.map (some bm)) (.int .i64 k) false).run P w'=.ok (.string (f k)) w'
theorem MapSays.run{P:Program}{t:TypeId}{g:Nat}{f:Int->ByteArray}{w:World}(h:MapSays P t g f w)(k:Int)(h1 : -9223372036854775808<=k)(h2:k<=9223372036854775807):
 ∃bm,w.cell? ⟨g,0,none⟩=some (.map (some bm))/\(Instr.lookup t (.map (some bm)) (.int .i64 k) false).run P w=.ok (.string (f k)) w:=by
 obtain⟨bm,es,clock,a,b,c⟩:=h.ex;exact⟨bm,a,c w b k h1 h2⟩
end Go.Sw
namespace Go.Proofs.YtmniihkenijjpaaGreatDoor
open Go Go.RowKit Go.Sw Go.Shelf Go.Sort Go.Lib
set_option maxRecDepth 100000
set_option maxHeartbeats 8000000
def Uw:Go.Shelf.Ren:=⟨λn=>if n=284 then 351 else if n=317 then 362 else if n=318 then 363 else if n=129 then 267 else n,λn=>if n=46 then 228 else if n=53 then 152 else if n=212 then 353 else n,λn=>if n=17 then 1 else n⟩
theorem VF:Go.Proofs.Lays.n284 Tryz.prog Uw where
 mixed:=aP
 f284:=um Tryz.func351 (congrArg some (Eq.refl _))
 f317:=um Tryz.func362 (congrArg some (Eq.refl _))
 f318:=um Tryz.func363 (congrArg some (Eq.refl _))
 f129:=um Tryz.func267 (congrArg some (Eq.refl _))
 t0:=Tryz.underlying0
 a0:=Tryz.isAgg0
 z0:=Tryz.sizeOf0
 v0:=Tryz.zeroValue0
 t3:=Tryz.underlying3
 a3:=Tryz.isAgg3
 z3:=Tryz.sizeOf3
 v3:=Tryz.zeroValue3
 t4:=Tryz.underlying4
 a4:=Tryz.isAgg4
 z4:=Tryz.sizeOf4
 v4:=Tryz.zeroValue4
 t5:=Tryz.underlying5
 a5:=Tryz.isAgg5
 z5:=Tryz.sizeOf5
 v5:=Tryz.zeroValue5
 t9:=Tryz.underlying9
 a9:=Tryz.isAgg9
 z9:=Tryz.sizeOf9
 v9:=Tryz.zeroValue9
 t46:=Tryz.underlying228
 a46:=Tryz.isAgg228
 z46:=Tryz.sizeOf228
 v46:=Tryz.zeroValue228
 t53:=Tryz.underlying152
 a53:=Tryz.isAgg152
 z53:=Tryz.sizeOf152
 v53:=Tryz.zeroValue152
 t212:=Tryz.underlying353
 a212:=Tryz.isAgg353
 z212:=Tryz.sizeOf353
 v212:=Tryz.zeroValue353
 g17:=ζ
theorem YH:Go.Proofs.LaysM.n284 Tryz.prog Uw where
 ton284:=VF
 i0:=ζ
 i3:=ζ
 i4:=ζ
 i5:=ζ
 i9:=ζ
 i46:=ζ
 i53:=ζ
 i212:=ζ
 m17:=ζ
def YA:Go.Shelf.Ren:=⟨λn=>if n=285 then 352 else n,λn=>if n=37 then 270 else if n=51 then 154 else if n=53 then 152 else n,λn=>n⟩
theorem U7:Go.Proofs.Lays.n285 Tryz.prog YA where
 mixed:=aP
 f285:=um Tryz.func352 (congrArg some (Eq.refl _))
 t0:=Tryz.underlying0
 a0:=Tryz.isAgg0
 z0:=Tryz.sizeOf0
 v0:=Tryz.zeroValue0
 t3:=Tryz.underlying3
 a3:=Tryz.isAgg3
 z3:=Tryz.sizeOf3
 v3:=Tryz.zeroValue3
 t4:=Tryz.underlying4
 a4:=Tryz.isAgg4
 z4:=Tryz.sizeOf4
 v4:=Tryz.zeroValue4
 t5:=Tryz.underlying5
 a5:=Tryz.isAgg5
 z5:=Tryz.sizeOf5
 v5:=Tryz.zeroValue5
 t9:=Tryz.underlying9
 a9:=Tryz.isAgg9
 z9:=Tryz.sizeOf9
 v9:=Tryz.zeroValue9
 t37:=Tryz.underlying270
 a37:=Tryz.isAgg270
 z37:=Tryz.sizeOf270
 v37:=Tryz.zeroValue270
 t51:=Tryz.underlying154
 a51:=Tryz.isAgg154
 z51:=Tryz.sizeOf154
 v51:=Tryz.zeroValue154
 t53:=Tryz.underlying152
 a53:=Tryz.isAgg152
 z53:=Tryz.sizeOf152
 v53:=Tryz.zeroValue152
set_option maxHeartbeats 6400000 in
set_option maxRecDepth 100000 in
theorem PS(u:Nat)(h1:100<=u)(hu64:u<18446744073709551616)(w:World)(htab:Lib.TabIs Tryz.prog w "internal/strconv.uint64pow10" .u64 Lib.pow10Tab):
 Calls Tryz.prog 325 #[.int .u64 u,.int .i64 10] w λe w'=>e=.returned (.string ⟨(Lib.decDigits u).toArray⟩)/\Below w.heap.size w w':=by
 have hu1:1<=u:=ω
 have hlt:¬((u:Int)<100):=ω
 have hnd20:Lib.nDigits u<=20:=Lib.nDigits_le20 u hu64;have hal:Tryz.prog.arrayLen 340=24:=ζ
 have hsl:∀W,(Instr.sliceAt 340 (.pointer (some ⟨w.heap.size,0,none⟩)) none (some (.int .i64 (Lib.nDigits u:Int))) none).run Tryz.prog W=.ok (.slice (some ⟨w.heap.size,0,none⟩) (Lib.nDigits u) 24) W:=λW=>by
  rw[run_sliceAt_array_h W 340 ⟨w.heap.size,0,none⟩ (by simp[Program.arrayLen,Program.elem,Tryz.underlying340]) .i64 (Lib.nDigits u:Int) ω (by rw[hal];omega)]
  go_simp
 have hH0:=Lib.holds_zero0 w 340 (Lib.nDigits u) ω;have hfmt:=Any.internal_strconv_formatBase10 U7 w.heap.size 0 24 u (Array.replicate (Lib.nDigits u) 0) (w.alloc (.cells Lib.zeros24 340)) hH0 (by rw[Array.size_replicate];exact Lib.lt_pow_nDigits u) hu64 (by rw[Array.size_replicate];omega);rw[Array.size_replicate]at hfmt;have HH0:=Lib.hid hH0;clear hH0 hal
 go_enter Tryz.func325,Tryz.ntmps325
 go_wp2_with (first
  |(go_at_call 351;refine(Any.internal_strconv_numDigits YH u hu1 hu64 _ (Lib.tabIs_alloc htab _)).mono ?_;rintro e w' ⟨rfl,rfl⟩))
 go_at_call 352
 refine hfmt.mono ?_;rintro e w' ⟨rfl,k,v',dk,rfl,hF⟩
 have hcv:(convert 270 9 (.slice (some ⟨w.heap.size,0,none⟩) (Lib.nDigits u) 24)).run Tryz.prog ((putRow (λ(b:UInt8)=>Value.int .u8 (b.toNat:Int)) (w.alloc (.cells Lib.zeros24 340)) w.heap.size 0 dk).drewN k)=.ok (.string ⟨(Lib.decDigits u).toArray⟩) ((putRow (λ(b:UInt8)=>Value.int .u8 (b.toNat:Int)) (w.alloc (.cells Lib.zeros24 340)) w.heap.size 0 dk).drewN k):=by
  have h:=run_convert_bytes_back (P:=Tryz.prog) ((putRow (λ(b:UInt8)=>Value.int .u8 (b.toNat:Int)) (w.alloc (.cells Lib.zeros24 340)) w.heap.size 0 dk).drewN k) 270 9 5 ⟨w.heap.size,0,none⟩ 24 (Lib.decDigits u) Tryz.underlying270 Tryz.underlying5 Tryz.underlying9 (λj hj=>by
   rw[Lib.row_is_numeral hF j hj,Lib.add_plain,World.cell?_drewN]
   exact cell?_putRow (λ(b:UInt8)=>Value.int .u8 (b.toNat:Int)) _ w.heap.size 0 _ dk HH0.out (by rw[hF.size,Array.size_replicate]) j (by rw[hF.size];rw[Lib.decDigits_length]at hj;exact hj))
  rw[Lib.decDigits_length]at h;exact h
 go_wp2
 go_ret
 refine⟨rfl, ?_⟩;rw[alloc_eq_grow];obtain⟨os',_,e⟩:=putRow_grow_new (λ(b:UInt8)=>Value.int .u8 (b.toNat:Int)) w #[.cells Lib.zeros24 340] w.heap.size 0 dk (iy _);rw[e];exact Lib.below_grow _ w (iy _) k os'
end Go.Proofs.YtmniihkenijjpaaGreatDoor
