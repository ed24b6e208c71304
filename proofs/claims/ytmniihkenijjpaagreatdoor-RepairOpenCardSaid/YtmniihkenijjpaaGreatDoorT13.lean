/-
  Rules of the abstract run, plain laws, and what functions answer, for the law RepairOpen.
  Conditions: none.
-/
import Derived.Test.YtmniihkenijjpaaGreatDoorT12
import Derived.Laws.Strings
import Derived.Lib.Bytealg
import Derived.Maps.Keyed
import Derived.Maps.StringElems
import Derived.LaidMore
import Derived.OpenShut
import Derived.ProofKit
import Derived.Shelf.LaysM
import Derived.Shelf.Strconv.Itoa1
import Derived.Shelf.Strconv.Itoa2
import Derived.Lib.Walk
import Derived.Lib.ItoaMem
import Derived.Lib.ItoaLen
import Derived.Lib.AppendIntMem
import Derived.WalkKit
import Derived.BigCall
import Derived.BigGuard
set_option linter.all false
namespace Go.Sw
open Go
section
variable {a b c d m n x y:Rat}
end
section
variable {fx fy tx ty x y:Rat} {r fz tz:Int}
end
section
variable {fx fy tx ty x y:Rat} {r fz tz:Int}
end
end Go.Sw
namespace Go.Sw
open Go
section
variable {m:Nat} {M:Int} {a b:Rat}
end
end Go.Sw
namespace Go.Sw
open Go Go.RowKit
def pO(s:ByteArray):List Nat:=s.data.toList.map λb=>b.toNat
theorem lZ(s:ByteArray):(pO s).length=s.size:=by simp[pO]
theorem aaV(s:ByteArray)(j:Nat):(s.data.toList.getD j 0).toNat=(pO s).getD j 0:=by
 unfold pO;rw[ou,ou,DK];cases s.data.toList[j]?<;>rfl
theorem xI{a b:ByteArray}(h:pO a=pO b):a=b:=by
 have:a.data.toList=b.data.toList:=by
  unfold pO at h;exact(List.map_inj_right (λx y h=>UInt8.toNat_inj.1 h)).1 h
 cases a;cases b;simpa using this
theorem vH(a b:ByteArray):(a.toList == b.toList)=decide (pO a=pO b):=by
 rw[ByteArray.toList_eq,ByteArray.toList_eq]
 by_cases h:pO a=pO b
 ·rw[decide_eq_true h,xI h];simp
 ·rw[decide_eq_false h];rw[beq_eq_false_iff_ne];exactλe=>h (by unfold pO;rw[e])
theorem ZI(s:ByteArray)(a b:Nat):pO (s.extract a b)=((pO s).take b).drop a:=by
 unfold pO;rw[ByteArray.data_extract,Array.toList_extract,List.extract_eq_take_drop,←List.map_take,←List.map_drop,List.drop_take]
theorem uZ{s:ByteArray}{i:Int}{k:Int→Prop}(hp:Pr (0≤i∧i<s.size))(hk:k (((pO s).getD i.toNat 0:Nat):Int)):StrAt s i k:=by
 obtain⟨⟨h1,h2⟩⟩:=hp;exact⟨i.toNat,by omega,by omega,by rw[aaV];exact hk⟩
theorem rE(s:ByteArray):(bytesC s).length=s.size:=by simp[bytesC]
def AQ(l:List Nat):Nat:=l.foldl (λa c=>10*a+(c-48)) 0
theorem YN(l:List Nat):∀x,l.foldl (λa c=>10*a+(c-48)) x=x*10^l.length+AQ l:=by
 induction l with
 |nil=>intro x;simp[AQ]
 |cons c r ih =>
  intro x;unfold AQ;simp only[Zy,iH];rw[ih,ih (10*0+(c-48)),Ar]
  grind
theorem Yv(a b:List Nat):AQ (a++b)=AQ a*10^b.length+AQ b:=by
 unfold AQ;rw[List.foldl_append,YN];rfl
theorem TW(a:List Nat)(c:Nat):AQ (a++[c])=10*AQ a+(c-48):=by
 rw[Yv];simp[AQ];omega
end Go.Sw
namespace Go.Sw
open Go Go.RowKit
@[reducible] def AV.str(s:ByteArray):AV:=.c (.v (.string s))
section
variable {s b:ByteArray} {k m:Nat}
end
end Go.Sw
namespace Go.Sw
open Go
theorem KT{a b:ByteArray}(h:a=b):packA [AV.c (Cell.v (.string a))]=AV.str b:=by subst h;rfl
def XB(a b c p:P2):Rat:=Zl a b c*(p.1-a.1)+Zm a b c*(p.2-a.2)-jE a b c*((p.1-a.1)*(p.1-a.1)+(p.2-a.2)*(p.2-a.2))
theorem qV{a b c p:P2}:zY a b c p=true↔(jE a b c≠0∧XB a b c p=0∧(p=a∨p=c∨0<jc a p c*jc a b c)):=by
 unfold zY XB;rw[decide_eq_true_eq];constructor
 ·rintro ⟨h1,h2,h3⟩;exact⟨h1,by rw[h2];grind,h3⟩
 ·rintro ⟨h1,h2,h3⟩;exact⟨h1,by grind,h3⟩
theorem Xq(a b c p:P2):XB c b a p = -XB a b c p:=by
 obtain⟨a1,a2⟩:=a;obtain⟨b1,b2⟩:=b;obtain⟨c1,c2⟩:=c;obtain⟨p1,p2⟩:=p;simp only[XB,Zl,Zm,jE,cU,cV,cD]
 grind
theorem KW(a b c p:P2):zY c b a p=zY a b c p:=by
 rw[Bf,qV,qV,Xq,SA]
 have x1:jc c p a*jc c b a=jc a p c*jc a b c:=by
  have e1:jc c p a = -jc a p c:=by unfold jc;grind
  have e2:jc c b a = -jc a b c:=by unfold jc;grind
  rw[e1,e2];grind
 rw[x1];constructor
 ·rintro ⟨h1,h2,h3⟩;exact⟨λe=>h1 (by rw[e];decide +kernel),by grind,by rcases h3 with h|h|h<;>simp[h]⟩
 ·rintro ⟨h1,h2,h3⟩;exact⟨λe=>h1 (by grind),by rw[h2];decide +kernel,by rcases h3 with h|h|h<;>simp[h]⟩
theorem plk{n1 n2 n3 b1 b2 b3 m1 m2 m3 k1 k2 k3:Rat}:(n1*b2-n2*b1)*(k1*(b2*m3-b3*m2)-k2*(b1*m3-b3*m1)+k3*(b1*m2-b2*m1)) =
 (k1*b2-k2*b1)*(n1*(b2*m3-b3*m2)-n2*(b1*m3-b3*m1)+n3*(b1*m2-b2*m1))-(m1*b2-m2*b1)*(n1*(b2*k3-b3*k2)-n2*(b1*k3-b3*k1)+n3*(b1*k2-b2*k1)):=by grind
theorem aan(a b c p:P2):XB a b c p = -((b.1-a.1)*((c.2-a.2)*((p.1-a.1)*(p.1-a.1)+(p.2-a.2)*(p.2-a.2))-((c.1-a.1)*(c.1-a.1)+(c.2-a.2)*(c.2-a.2))*(p.2-a.2))-(b.2-a.2)*((c.1-a.1)*((p.1-a.1)*(p.1-a.1)+(p.2-a.2)*(p.2-a.2))-((c.1-a.1)*(c.1-a.1)+(c.2-a.2)*(c.2-a.2))*(p.1-a.1))+((b.1-a.1)*(b.1-a.1)+(b.2-a.2)*(b.2-a.2))*((c.1-a.1)*(p.2-a.2)-(c.2-a.2)*(p.1-a.1))):=by
 simp only[XB,Zl,Zm,jE,cU,cV,cD];generalize b.1-a.1=b1;generalize b.2-a.2=b2;generalize c.1-a.1=c1;generalize c.2-a.2=c2;generalize p.1-a.1=p1;generalize p.2-a.2=p2
 grind
theorem ad3{a n b m k:P2}(h:jE a n b≠0)(h1:XB a n b m=0)(h2:XB a n b k=0):XB a k b m=0:=by
 rw[aan]at h1 h2 ⊢;have hD:jE a n b=(n.1-a.1)*(b.2-a.2)-(n.2-a.2)*(b.1-a.1):=rfl;rw[hD]at h;clear hD;generalize n.1-a.1=n1 at *;generalize n.2-a.2=n2 at *;generalize b.1-a.1=b1 at *;generalize b.2-a.2=b2 at *;generalize m.1-a.1=m1 at *;generalize m.2-a.2=m2 at *;generalize k.1-a.1=k1 at *;generalize k.2-a.2=k2 at *;generalize n1*n1+n2*n2=n3 at *;generalize b1*b1+b2*b2=b3 at *;generalize m1*m1+m2*m2=m3 at *;generalize k1*k1+k2*k2=k3 at *;have id:=plk (n1:=n1) (n2:=n2) (n3:=n3) (b1:=b1) (b2:=b2) (b3:=b3) (m1:=m1) (m2:=m2) (m3:=m3) (k1:=k1) (k2:=k2) (k3:=k3);generalize k1*(b2*m3-b3*m2)-k2*(b1*m3-b3*m1)+k3*(b1*m2-b2*m1)=X at *;generalize n1*(b2*m3-b3*m2)-n2*(b1*m3-b3*m1)+n3*(b1*m2-b2*m1)=Y at *;generalize n1*(b2*k3-b3*k2)-n2*(b1*k3-b3*k1)+n3*(b1*k2-b2*k1)=Z at *;have y0:Y=0:=by grind
 have z0:Z=0:=by grind
 subst y0 z0;have id2:(n1*b2-n2*b1)*X=0:=by rw[id];grind
 rcases Rat.mul_eq_zero.1 id2 with g|g
 ·exact absurd g h
 ·rw[g];decide +kernel
theorem aa0{x y z:Rat}(h1:0<x*y)(h2:0<y*z):0<x*z:=by
 have h3:=yO h1 h2;have hy:y≠0:=λe=>by rw[e]at h2;grind
 have h4:0≤y*y:=OH y;refine Decidable.byContradiction λhn=>?_
 have h5:=xG (show 0≤-(x*z) by grind) h4
 grind
theorem acT{a b:P2}:jc a a b=0:=by unfold jc;grind
theorem acK{a b:P2}:jc a b b=0:=by unfold jc;grind
theorem WQ{a n b m k:P2}(h1:zY a n b m=true)(h2:zY a n b k=true)(hm:jE a m b≠0)(hk:jE a k b≠0):zY a k b m=true:=by
 rw[qV]at h1 h2 ⊢;obtain⟨p1,p2,p3⟩:=h1;obtain⟨_,q2,q3⟩:=h2;refine⟨hk,ad3 p1 p2 q2,.inr (.inr ?_)⟩;rw[←Pq]at hm hk
 have p4:0<jc a m b*jc a n b:=by
  rcases p3 with rfl|rfl|h
  ·exact absurd acT hm
  ·exact absurd acK hm
  ·exact h
 have q4:0<jc a k b*jc a n b:=by
  rcases q3 with rfl|rfl|h
  ·exact absurd acT hk
  ·exact absurd acK hk
  ·exact h
 exact aa0 p4 (by grind)
theorem yK{a m b:P2}(h:jE a m b≠0):zY a m b m=true:=by
 rw[qV];refine⟨h, ?_,.inr (.inr ?_)⟩
 ·simp only[XB,Zl,Zm,jE,cU,cV,cD];generalize m.1-a.1=m1;generalize m.2-a.2=m2;generalize b.1-a.1=b1;generalize b.2-a.2=b2
  grind
 ·rw[←Pq]at h;have h4:0≤jc a m b*jc a m b:=OH _;have h5:jc a m b*jc a m b≠0:=λe=>h (abj e)
  grind
theorem Iu{a b c:P2}:jE c b a=0↔jE a b c=0:=by
 rw[SA];constructor<;>intro h
 ·rw[←Rat.neg_neg (jE a b c),h];decide +kernel
 ·rw[h];decide +kernel
def sA(a m b c n d:P2):Prop:=((a=c∧b=d)∨(a=d∧b=c))∧((jE a m b=0∧jE c n d=0∧m=n)∨(jE a m b≠0∧jE c n d≠0∧zY c n d m=true∧zY a m b n=true))
theorem Bd{a m b c n d:P2}:sA a m b c n d→sA a m b d n c:=by
 rintro ⟨h1,h2⟩;refine⟨h1.symm, ?_⟩;rw[KW c n d m];rcases h2 with⟨g1,g2,g3⟩|⟨g1,g2,g3,g4⟩
 ·exact .inl ⟨g1,Iu.2 g2,g3⟩
 ·exact .inr ⟨g1,λe=>g2 (Iu.1 e),g3,g4⟩
theorem Hq{a m b c n d:P2}:sA a m b c n d→sA c n d a m b:=by
 rintro ⟨h1,h2⟩;refine⟨by rcases h1 with⟨rfl,rfl⟩|⟨rfl,rfl⟩<;>simp, ?_⟩;rcases h2 with⟨g1,g2,g3⟩|⟨g1,g2,g3,g4⟩
 ·exact .inl ⟨g2,g1,g3.symm⟩
 ·exact .inr ⟨g2,g1,g4,g3⟩
theorem FZ{a m b n k:P2}:sA a m b a n b→sA a n b a k b→sA a m b a k b:=by
 rintro ⟨_,h2⟩ ⟨_,k2⟩;refine⟨.inl ⟨rfl,rfl⟩, ?_⟩;rcases h2 with⟨g1,g2,g3⟩|⟨g1,g2,g3,g4⟩<;>rcases k2 with⟨f1,f2,f3⟩|⟨f1,f2,f3,f4⟩
 ·exact .inl ⟨g1,f2,g3.trans f3⟩
 ·exact absurd g2 f1
 ·exact absurd f1 g2
 ·exact .inr ⟨g1,f2,WQ g3 f4 g1 f2,WQ f4 g3 f2 g1⟩
theorem F5{a m b n u k v:P2}(h:sA a m b a n b)(k':sA a n b u k v):sA a m b u k v:=by
 rcases k'.1 with⟨rfl,rfl⟩|⟨rfl,rfl⟩
 ·exact FZ h k'
 ·exact Bd (FZ h (Bd k'))
theorem Zj{a m b c n d u k v:P2}(h:sA a m b c n d)(k':sA c n d u k v):sA a m b u k v:=by
 rcases h.1 with⟨rfl,rfl⟩|⟨rfl,rfl⟩
 ·exact F5 h k'
 ·exact F5 (Bd h) (Hq (Bd (Hq k')))
def sE(e f:Ent):Prop:=eqS e.layer f.layer=true∧e.kind=f.kind ∧
 match e.pts,f.pts with
 |[a],[b]=>a=b∧e.rad=f.rad
 |[a,b],[c,d]=>(a=c∧b=d)∨(a=d∧b=c)
 |[a,m,b],[c,n,d]=>sA a m b c n d
 |_,_=>False
theorem DY{a b c d:P2}:wX a b c d=true↔(a=c∧b=d)∨(a=d∧b=c):=by unfold wX;rw[decide_eq_true_eq]
theorem aeu{kd:Int}{ly:ByteArray}{a m b:P2}{rd:Rq}:EP ⟨kd,ly,[a,m,b],rd⟩=decide (jE a m b=0):=rfl
theorem aeS{a m b c n d:P2}:(wX a b c d&&(if(decide (jE a m b=0)||decide (jE c n d=0))=true then decide (jE a m b=0)&&decide (jE c n d=0)&&decide (m=n)else zY c n d m&&zY a m b n))=true↔sA a m b c n d:=by
 unfold sA;rw[fC,DY];refine and_congr Iff.rfl ?_
 by_cases h1:jE a m b=0<;>by_cases h2:jE c n d=0<;>simp[h1,h2]
theorem nO{e f:Ent}:dB e f=true↔sE e f:=by
 obtain⟨k1,l1,p1,r1⟩:=e;obtain⟨k2,l2,p2,r2⟩:=f;unfold dB sE;rw[fC,fC,decide_eq_true_eq,and_assoc];refine and_congr Iff.rfl (and_congr Iff.rfl ?_);simp only
 match p1,p2 with
 |[a],[b]=>simp
 |[a,b],[c,d]=>exact DY
 |[a,m,b],[c,n,d]=>exact aeS
 |[],_=>simp
 |[_],[]=>simp
 |[_],_::_::_=>simp
 |[_,_],[]=>simp
 |[_,_],[_]=>simp
 |[_,_],_::_::_::_=>simp
 |[_,_,_],[]=>simp
 |[_,_,_],[_]=>simp
 |[_,_,_],[_,_]=>simp
 |[_,_,_],_::_::_::_::_=>simp
 |_::_::_::_::_,_=>simp
theorem Xc(s t:ByteArray):eqS s t=eqS t s:=by unfold eqS;rw[Bf,beq_iff_eq,beq_iff_eq];exact eq_comm
theorem TL{s t u:ByteArray}(h:eqS s t=true)(k:eqS t u=true):eqS s u=true:=by
 unfold eqS at *;rw[eq_of_beq h];exact k
theorem Sm{e f:Ent}:sE e f→sE f e:=by
 obtain⟨k1,l1,p1,r1⟩:=e;obtain⟨k2,l2,p2,r2⟩:=f;unfold sE;simp only;rintro ⟨h1,h2,h3⟩;refine⟨by rw[Xc];exact h1,h2.symm, ?_⟩
 match p1,p2,h3 with
 |[a],[b],h3=>exact⟨h3.1.symm,h3.2.symm⟩
 |[a,b],[c,d],h3=>rcases h3 with⟨rfl,rfl⟩|⟨rfl,rfl⟩<;>simp
 |[a,m,b],[c,n,d],h3=>exact Hq h3
theorem X4{e f g:Ent}:sE e f→sE f g→sE e g:=by
 obtain⟨k1,l1,p1,r1⟩:=e;obtain⟨k2,l2,p2,r2⟩:=f;obtain⟨k3,l3,p3,r3⟩:=g;unfold sE;simp only;rintro ⟨h1,h2,h3⟩ ⟨g1,g2,g3⟩;refine⟨TL h1 g1,h2.trans g2, ?_⟩
 match p1,p2,p3,h3,g3 with
 |[a],[b],[c],h3,g3=>exact⟨h3.1.trans g3.1,h3.2.trans g3.2⟩
 |[a,b],[c,d],[u,v],h3,g3=>rcases h3 with⟨rfl,rfl⟩|⟨rfl,rfl⟩<;>rcases g3 with⟨rfl,rfl⟩|⟨rfl,rfl⟩<;>simp
 |[a,m,b],[c,n,d],[u,k,v],h3,g3=>exact Zj h3 g3
theorem wF(e f:Ent):dB e f=dB f e:=by
 rw[Bf,nO,nO];exact⟨Sm,Sm⟩
theorem JG{e f g:Ent}(h:dB e f=true)(k:dB f g=true):dB e g=true:=nO.2 (X4 (nO.1 h) (nO.1 k))
theorem VU{a b c p:P2}(h:jE a b c=0):zY a b c p=false:=by
 rw[Bool.eq_false_iff];intro e;exact(qV.1 e).1 h
@[reducible] def qI(q:Rat):Rq:=⟨decide (q.num<0),lim q.num.natAbs,decide ((q.den:Int)<0),lim (q.den:Int).natAbs⟩
theorem adY{a m b c n d:P2}:(uz [a,m,b] [c,n,d] ||(uz [a,b] [c,d]&&(zY a m b n&&zY c n d m)))=true↔sA a m b c n d:=by
 have h3:uz [a,m,b] [c,n,d]=true↔m=n∧((a=c∧b=d)∨(a=d∧b=c)):=by
  unfold uz;simp;constructor
  ·rintro (⟨rfl,rfl,rfl⟩|⟨rfl,rfl,rfl⟩)<;>simp
  ·rintro ⟨rfl,⟨rfl,rfl⟩|⟨rfl,rfl⟩⟩<;>simp
 have h2:uz [a,b] [c,d]=true↔((a=c∧b=d)∨(a=d∧b=c)):=by unfold uz;simp
 rw[H6,fC,fC,h3,h2];unfold sA;constructor
 ·rintro (⟨rfl,h⟩|⟨h,g1,g2⟩)
  ·refine⟨h, ?_⟩;rcases h with⟨rfl,rfl⟩|⟨rfl,rfl⟩
   ·by_cases hz:jE a m b=0
    ·exact .inl ⟨hz,hz,rfl⟩
    ·exact .inr ⟨hz,hz,yK hz,yK hz⟩
   ·by_cases hz:jE a m b=0
    ·exact .inl ⟨hz,Iu.2 hz,rfl⟩
    ·exact .inr ⟨hz,λe=>hz (Iu.1 e),by rw[KW a m b];exact yK hz,yK hz⟩
  ·exact⟨h,.inr ⟨(qV.1 g1).1,(qV.1 g2).1,g2,g1⟩⟩
 ·rintro ⟨h,⟨g1,g2,rfl⟩|⟨g1,g2,g3,g4⟩⟩
  ·exact .inl ⟨rfl,h⟩
  ·exact .inr ⟨h,g4,g3⟩
theorem KA{α:Type}{p:List α→Prop}(h0:p [])(h1:∀l e,p l→p (l++[e]))(l:List α):p l:=by
 have key:∀r:List α,p r.reverse:=λr=>by
  induction r with
  |nil=>exact h0
  |cons e r ih=>rw[List.reverse_cons];exact h1 _ _ ih
 have:=key l.reverse
 rwa [List.reverse_reverse]at this
theorem uX(l:List Ent)(e:Ent):vX (l++[e])=vX l++[(e,(vX l).any λp=>!p.2&&dB e p.1)]:=by
 unfold vX;rw[List.foldl_append];rfl
theorem xM(l:List Ent):(vX l).map (·.1)=l:=by
 induction l using KA with
 |h0=>rfl
 |h1 l e ih=>rw[uX,fO,ih];rfl
theorem Ed(l:List Ent):(vX l).length=l.length:=by
 have:=congrArg List.length (xM l);simpa using this
theorem TQ(l:List Ent):∀p∈vX l,p.2=true→∃q∈vX l,q.2=false∧dB p.1 q.1=true:=by
 induction l using KA with
 |h0=>intro p hp;simp[vX]at hp
 |h1 l e ih =>
  intro p hp h;rw[uX]at hp ⊢;rcases oG.1 hp with hp|hp
  ·obtain⟨q,q1,q2,q3⟩:=ih p hp h;exact⟨q,yB _ q1,q2,q3⟩
  ·simp only[AL]at hp;subst hp;obtain⟨q,q1,q2⟩:=XF.1 h;rw[fC,BR]at q2;exact⟨q,yB _ q1,q2.1,q2.2⟩
theorem aaP(l:List Ent)(e:Ent):((vX l).any λp=>!p.2&&dB e p.1)=l.any λf=>dB f e:=by
 rw[Bf,XF,XF];constructor
 ·rintro ⟨p,h1,h2⟩;rw[fC]at h2;refine⟨p.1, ?_,by rw[wF];exact h2.2⟩;have:=List.mem_map_of_mem (f:=(·.1)) h1
  rwa [xM]at this
 ·rintro ⟨f,h1,h2⟩;rw[←xM l]at h1;obtain⟨p,h3,rfl⟩:=iM.1 h1;cases h4:p.2 with
  |false=>exact⟨p,h3,by rw[h4,wF,h2];rfl⟩
  |true =>
   obtain⟨q,q1,q2,q3⟩:=TQ l p h3 h4;refine⟨q,q1, ?_⟩;rw[q2,JG (by rw[wF];exact h2) q3];rfl
theorem N7(l:List Ent)(e:Ent):aY (l++[e])=aY l++[l.any λf=>dB f e]:=by
 unfold aY;rw[uX,fO,←aaP];rfl
theorem fM(l:List Ent):(aY l).length=l.length:=by unfold aY;rw[bK,Ed]
theorem aak{l:List Ent}{k:Nat}(h:k<l.length):(vX l)[k]?=some (l.getD k E0,(aY l).getD k false):=by
 have h1:k<(vX l).length:=by rw[Ed];exact h
 have e1:((vX l).map (·.1))[k]?=l[k]?:=by rw[xM]
 rw[DK,jP h1,jP h]at e1;simp only[yP,qm]at e1;rw[jP h1];congr 1;refine Prod.ext ?_ ?_
 ·rw[e1];simp[ou,h]
 ·simp[aY,ou,h1]
theorem Jf{l:List Ent}{x:Nat}(h:x<l.length):l.take (x+1)=l.take x++[l.getD x E0]:=by
 rw[Zn,jP h];simp[ou,h]
def zZ(l:List Ent)(x:Nat):List Bool:=aY (l.take x)++List.replicate (l.length-x) false
theorem aal{l:List Ent}{x:Nat}(h:x≤l.length):(zZ l x).length=l.length:=by
 unfold zZ;rw[gY,fM,vY,BI];omega
theorem af9(l:List Ent):zZ l 0=List.replicate l.length false:=rfl
theorem abm(l:List Ent):zZ l l.length=aY l:=by unfold zZ;rw[ER,Nat.sub_self];simp
def vV(l:List Ent)(x k:Nat):Bool:=((vX (l.take x)).take k).any λp=>!p.2&&dB (l.getD x E0) p.1
theorem Fz{l:List Ent}{x k:Nat}(hx:x<l.length)(hk:k<x):vV l x (k+1)=(vV l x k ||(!(zZ l x).getD k false&&dB (l.getD x E0) (l.getD k E0))):=by
 have hk':k<(l.take x).length:=by simp;omega
 unfold vV;rw[Zn,List.any_append,aak hk'];have e1:(l.take x).getD k E0=l.getD k E0:=by simp[ou,hk,Fe]
 have e2:(zZ l x).getD k false=(aY (l.take x)).getD k false:=by
  unfold zZ;simp only[ou];rw[OI (by rw[fM];exact hk')]
 rw[e1,e2];simp
theorem J7{l:List Ent}{x:Nat}(hx:x≤l.length):vV l x x=((vX (l.take x)).any λp=>!p.2&&dB (l.getD x E0) p.1):=by
 unfold vV;rw[U9 (by rw[Ed,vY];omega)]
theorem Uc{l:List Ent}{x k:Nat}(hx:x<l.length)(hk:k<x)(h:vV l x (k+1)=true):vV l x x=true:=by
 rw[J7 (by omega)];unfold vV at h;obtain⟨p,h1,h2⟩:=XF.1 h;exact XF.2 ⟨p,qb9 h1,h2⟩
theorem KD{l:List Ent}{x:Nat}(hx:x<l.length):zZ l (x+1)=(zZ l x).set x (vV l x x):=by
 unfold zZ
 have h1:aY (l.take (x+1))=aY (l.take x)++[vV l x x]:=by
  rw[Jf hx];unfold aY;rw[uX,fO,J7 (by omega)];rfl
 have h2:List.replicate (l.length-x) false=false::List.replicate (l.length-(x+1)) false:=by
  rw[show l.length-x=(l.length-(x+1))+1 by omega];rfl
 have h3:(aY (l.take x)).length=x:=by rw[fM,vY];omega
 rw[h1,h2,List.set_append_right _ _ (by omega),h3,Nat.sub_self];simp
theorem ahg{l:List Ent}{x:Nat}(hx:x<l.length)(h:vV l x x=false):zZ l (x+1)=zZ l x:=by
 rw[KD hx,h];have h3:(aY (l.take x)).length=x:=by rw[fM,vY];omega
 have h2:List.replicate (l.length-x) false=false::List.replicate (l.length-(x+1)) false:=by
  rw[show l.length-x=(l.length-(x+1))+1 by omega];rfl
 unfold zZ;rw[h2,List.set_append_right _ _ (by omega),h3,Nat.sub_self];simp
theorem agV{l:List Ent}{x k:Nat}(hx:x<l.length)(hk:k<x)(h:vV l x (k+1)=true):zZ l (x+1)=(zZ l x).set x true:=by
 rw[KD hx,Uc hx hk h]
theorem J5(a d:Rat):anf (a-d)=ang a d:=by
 unfold anf ang
 by_cases h1:a<d
 ·have:a-d<0:=by grind
  simp[h1,this]
 ·by_cases h2:a=d
  ·subst h2;have:a-a=0:=by grind
   rw[this];simp[h1]
  ·have g1:¬ a-d<0:=by grind
   have g2:¬ a-d=0:=by grind
   simp[h1,h2,g1,g2]
   grind
theorem agb:IntKind.i64.wrap (anf 0*anf 0)=0:=by
 have:anf 0=0:=by decide +kernel
 rw[this];decide
theorem aeA{a b:Rat}(h:a=b):packA [AV.c (Cell.v (Value.int IntKind.i64 (IntKind.i64.wrap (0-anf a))))]=AV.int IntKind.i64 (-anf b):=by
 subst h;refine iE ?_;unfold anf
 (repeat' split)<;>decide
theorem ajC{X Y x y:Rat}(h:Y<y):true=decide (hf (X,Y) (x,y)=0):=by unfold hf;simp[h]
theorem ai2{X Y x y:Rat}(h1:¬Y<y)(h2:y=Y):decide (X<x)=decide (hf (X,Y) (x,y)=0):=by
 unfold hf;subst h2;by_cases h:X<x<;>simp[h,h1]
theorem aiw{X Y x y:Rat}(h1:¬Y<y)(h2:¬y=Y):false=decide (hf (X,Y) (x,y)=0):=by unfold hf;simp[h1,h2]
theorem aj6{X Y x y u v:Rat}(h1:(decide (hf (X,Y) (x,y)=0) != decide (hf (X,Y) (u,v)=0))=false)(h2:hf (X,Y) (x,y)=0):IntKind.i64.wrap (0-ang x u)=lX (X,Y) (x,y) (u,v):=by
 have h3:hf (X,Y) (u,v)=0:=by rw[h2]at h1;simpa using h1
 have h4:=tq x u
 have h5:lX (X,Y) (x,y) (u,v) = -(ang x u):=by
  unfold lX;rw[h2,h3,if_pos rfl,if_pos rfl]
 rw[h5];generalize ang x u=c at h4 ⊢;rw[bW (by omega) (by omega)];omega
theorem ait{k f p q:P2}(h:(decide (lX k p f<0) != decide (lX k q f<0))=true)(h2:lX k q f<0):(-1:Int)=uj k f p q:=by
 have h3:¬lX k p f<0:=λg=>by simp[g,h2]at h
 unfold uj;rw[if_neg (λg=>h3 (g.2 h2)),if_pos h2]
theorem ajx{k f p q:P2}(h:(decide (lX k p f<0) != decide (lX k q f<0))=true)(h2:¬lX k q f<0):(1:Int)=uj k f p q:=by
 have h3:lX k p f<0:=by
  rcases Classical.em (lX k p f<0)with g|g
  ·exact g
  ·simp[g,h2]at h
 unfold uj;rw[if_neg (λg=>h2 (g.1 h3)),if_neg h2]
theorem aiC{k f p q:P2}(h:(decide (lX k p f<0) != decide (lX k q f<0))=false):lX k p q=uj k f p q:=by
 have h3:lX k p f<0↔lX k q f<0:=by
  by_cases g:lX k p f<0<;>by_cases g2:lX k q f<0<;>simp[g,g2]at h ⊢
 unfold uj;rw[if_pos h3]
theorem ajP{k a c p:P2}{q:Rat}{cw:Bool}(h1:Aw k q p)(h2:UH k cw a a p≤0):decide (UH k cw a p c≤0)=bF k q cw a c p:=by
 unfold bF;rw[decide_eq_true h1,decide_eq_true h2];rfl
theorem ahs{p q:Rat}(h:p-q=0):p=q:=by grind
theorem ajj{a b c d e f:Rat}(h:¬cD a b c d e f=0):decide ((c-a)*(f-b)<(d-b)*(e-a)) = !decide (0<cD a b c d e f):=by
 rw[←cwR h,decide_eq_decide,anw]
end Go.Sw
namespace Go.Proofs.YtmniihkenijjpaaGreatDoor
open Go Go.RowKit Go.Sw
set_option maxRecDepth 100000
set_option maxHeartbeats 8000000
set_option synthInstance.maxSize 4000
set_option synthInstance.maxHeartbeats 400000
instance afv(a b c d:Rat):DenI Tryz.prog 317 [Q3 a b c,R d] (rz a≤4000000∧rz b≤4000000∧rz c≤4000000∧rz d≤4000000) (Q3 (a+d) b c):=⟨λhp=>by
 have i_a:RzB a 4000000:=⟨hp.1⟩
 have i_b:RzB b 4000000:=⟨hp.2.1⟩
 have i_c:RzB c 4000000:=⟨hp.2.2.1⟩
 have i_d:RzB d 4000000:=⟨hp.2.2.2⟩
 all_goals refine amV Tryz.func317 rfl ?_
 all_goals(repeat'((try(conv=>whnf));first
  |refine call_i ?_ ?_|refine Drw.mk (by kernel_rfl) ?_|refine Ends.mk ?_))
 all_goals(try refine Pr.mk ?_)
 all_goals first
  |rfl|((repeat' apply And.intro)<;>first|assumption|exact jh (by omega)|exact jl (by omega)|exact iU (amR _) (amR _))⟩
instance y_x(a d:Rat):DenI Tryz.prog 284 [Q5 a 0 d 0 0] (rz a≤4000000∧rz d≤4000000) (Q3 a 0 0):=⟨λhp=>by
 have i_a:RzB a 4000000:=⟨hp.1⟩
 have i_d:RzB d 4000000:=⟨hp.2⟩
 all_goals refine amV Tryz.func284 rfl ?_
 all_goals(repeat'((try(conv=>whnf));first
  |refine call_i ?_ ?_|refine Ends.mk ?_))
 all_goals(try refine Pr.mk ?_)
 all_goals first
  |rfl|((repeat' apply And.intro)<;>first|assumption|exact jh (by omega)|exact jl (by omega)|exact iU (amR _) (amR _))⟩
instance y_y(a d:Rat):DenI Tryz.prog 285 [Q5 a 0 d 0 0] (rz a≤4000000∧rz d≤4000000) (Q3 d 0 0):=⟨λhp=>by
 have i_a:RzB a 4000000:=⟨hp.1⟩
 have i_d:RzB d 4000000:=⟨hp.2⟩
 all_goals refine amV Tryz.func285 rfl ?_
 all_goals(repeat'((try(conv=>whnf));first
  |refine call_i ?_ ?_|refine Ends.mk ?_))
 all_goals(try refine Pr.mk ?_)
 all_goals first
  |rfl|((repeat' apply And.intro)<;>first|assumption|exact jh (by omega)|exact jl (by omega)|exact iU (amR _) (amR _))⟩
instance amm(a d x y:Rat):DenI Tryz.prog 341 [Q5 a 0 d 0 0,Q2 x y] (rz a≤4000000∧rz d≤4000000∧rz x≤4000000∧rz y≤4000000) (Q5 (a+x) 0 (d+y) 0 0):=⟨λhp=>by
 have i_a:RzB a 4000000:=⟨hp.1⟩
 have i_d:RzB d 4000000:=⟨hp.2.1⟩
 have i_x:RzB x 4000000:=⟨hp.2.2.1⟩
 have i_y:RzB y 4000000:=⟨hp.2.2.2⟩
 all_goals refine amV Tryz.func341 rfl ?_
 all_goals(repeat'((try(conv=>whnf));first
  |refine call_i ?_ ?_|refine Drw.mk (by kernel_rfl) ?_|refine Ends.mk ?_))
 all_goals(try refine Pr.mk ?_)
 all_goals first
  |rfl|((repeat' apply And.intro)<;>first|assumption|exact jh (by omega)|exact jl (by omega)|exact iU (amR _) (amR _))⟩
instance alp(a:Rat):DenI Tryz.prog 360 [Q3 a 0 0,Q3 a 0 0] (rz a≤100000) (.tup [Q3 (a*a) 0 0,.int .i64 0]):=⟨λhp=>by
 have i_a:RzB a 100000:=⟨hp⟩
 all_goals refine amV Tryz.func360 rfl ?_
 all_goals(repeat'((try(conv=>whnf));first
  |refine call_i ?_ ?_|refine OnB.mk (λ_=>?_) (λ_=>?_)|refine Drw.mk (by kernel_rfl) ?_|refine Ends.mk ?_))
 all_goals(try refine Pr.mk ?_)
 all_goals(try simp only[am3]at *)
 all_goals first
  |(simp only[Rat.mul_zero,Rat.zero_mul,Rat.add_zero,Rat.zero_add];rfl)|((repeat' apply And.intro)<;>first|assumption|exact jh (by omega)|exact jl (by omega)|exact iU (amR _) (amR _))|(exfalso;simp_all;done)⟩
instance ame(a:Rat):DenI Tryz.prog 344 [Q3 a 0 0] (rz a≤100000) (Q3 (a*a) 0 0):=⟨λhp=>by
 have i_a:RzB a 100000:=⟨hp⟩
 all_goals refine amV Tryz.func344 rfl ?_
 all_goals(repeat'((try(conv=>whnf));first
  |refine call_i ?_ ?_|refine Ends.mk ?_))
 all_goals(try refine Pr.mk ?_)
 all_goals first
  |rfl|((repeat' apply And.intro)<;>first|assumption|exact jh (by omega)|exact jl (by omega)|exact iU (amR _) (amR _))⟩
instance alN(a d:Rat):DenI Tryz.prog 343 [Q3 a 0 0,Q3 d 0 0] (rz a≤300000∧rz d≤300000) (.tup [Q3 (a+d) 0 0,.int .i64 0]):=⟨λhp=>by
 have i_a:RzB a 300000:=⟨hp.1⟩
 have i_d:RzB d 300000:=⟨hp.2⟩
 all_goals refine amV Tryz.func343 rfl ?_
 all_goals(repeat'((try(conv=>whnf));first
  |refine call_i ?_ ?_|refine OnB.mk (λ_=>?_) (λ_=>?_)|refine Drw.mk (by kernel_rfl) ?_|refine Ends.mk ?_))
 all_goals(try refine Pr.mk ?_)
 all_goals(try simp only[am3]at *)
 all_goals first
  |(simp only[Rat.add_zero];rfl)|((repeat' apply And.intro)<;>first|assumption|exact jh (by omega)|exact jl (by omega)|exact iU (amR _) (amR _))|(exfalso;simp_all;done)⟩
instance amB(a d x y:Rat):DenI Tryz.prog 318 [Q5 a 0 d 0 0,Q2 x y] (rz a≤10000∧rz d≤10000∧rz x≤10000∧rz y≤10000) (Q3 ((a + -x)*(a + -x)+(d + -y)*(d + -y)) 0 0):=⟨λhp=>by
 have i_a:RzB a 10000:=⟨hp.1⟩
 have i_d:RzB d 10000:=⟨hp.2.1⟩
 have i_x:RzB x 10000:=⟨hp.2.2.1⟩
 have i_y:RzB y 10000:=⟨hp.2.2.2⟩
 all_goals refine amV Tryz.func318 rfl ?_
 all_goals(repeat'((try(conv=>whnf));first
  |refine call_i ?_ ?_|refine Drw.mk (by kernel_rfl) ?_|refine Ends.mk ?_))
 all_goals(try refine Pr.mk ?_)
 all_goals first
  |rfl|((repeat' apply And.intro)<;>first|assumption|exact jh (by omega)|exact jl (by omega)|exact iU (amR _) (amR _))⟩
instance alR(X Y Q x y:Rat):DenI Tryz.prog 281 [Q3 X Y Q,Q5 x 0 y 0 0] (rz X≤10000∧rz Y≤10000∧rz Q≤30000∧rz x≤10000∧rz y≤10000) (Q3 ((x + -X)*(x + -X)+(y + -Y)*(y + -Y) + -Q) 0 0):=⟨λhp=>by
 obtain⟨q0,q1,q2,q3,q4⟩:=hp;have i_X:RzB X 10000:=⟨q0⟩
 have i_Y:RzB Y 10000:=⟨q1⟩
 have i_Q:RzB Q 30000:=⟨q2⟩
 have i_x:RzB x 10000:=⟨q3⟩
 have i_y:RzB y 10000:=⟨q4⟩
 all_goals refine amV Tryz.func281 rfl ?_
 all_goals(repeat'((try(conv=>whnf));first
  |refine call_i ?_ ?_|refine Drw.mk (by kernel_rfl) ?_|refine Ends.mk ?_))
 all_goals(try refine Pr.mk ?_)
 all_goals first
  |rfl|((repeat' apply And.intro)<;>first|assumption|exact jh (by omega)|exact jl (by omega)|exact iU (amR _) (amR _))⟩
instance ajL(a:Rat):DenI Tryz.prog 280 [Q3 a 0 0] (rz a≤4000000) (.int .i64 (anf a)):=⟨λhp=>by
 have i_a:RzB a 4000000:=⟨hp⟩
 all_goals refine amV Tryz.func280 rfl ?_
 all_goals(repeat'((try(conv=>whnf));first
  |refine call_0 ?_|refine call_i ?_ ?_|(with_reducible first|refine onB_t ?_|refine onB_f ?_|refine onB_d (λ_=>?_) (λ_=>?_))|refine Drw.mk (by kernel_rfl) ?_|refine Ends.mk ?_))
 all_goals(try refine Pr.mk ?_)
 all_goals(try simp only[am3]at *)
 all_goals first
  |rfl|(simp only[Eb,Ea,aj,aH,ZY,Fb,aG, *,true_or,or_true,if_true,if_false,or_self,and_self,and_true,true_and,and_false,false_and,not_true,not_false_iff,AB,decide_true,decide_false,Vf,Vg,NH,G7];rfl)|((repeat' apply And.intro)<;>first|assumption|exact jh (by omega)|exact jl (by omega)|exact iU (amR _) (amR _))|(exfalso;simp_all;done)⟩
instance akN(X Y Q x y:Rat):DenI Tryz.prog 247 [Q3 X Y Q,Q5 x 0 y 0 0] (rz X≤10000∧rz Y≤10000∧rz Q≤30000∧rz x≤10000∧rz y≤10000) (.int .i64 (-(anf ((x-X)*(x-X)+(y-Y)*(y-Y)-Q)))):=⟨λhp=>by
 obtain⟨q0,q1,q2,q3,q4⟩:=hp;have i_X:RzB X 10000:=⟨q0⟩
 have i_Y:RzB Y 10000:=⟨q1⟩
 have i_Q:RzB Q 30000:=⟨q2⟩
 have i_x:RzB x 10000:=⟨q3⟩
 have i_y:RzB y 10000:=⟨q4⟩
 all_goals refine amV Tryz.func247 rfl ?_
 all_goals(repeat'((try(conv=>whnf));first
  |refine call_i ?_ ?_|refine Ends.mk ?_))
 all_goals(try refine Pr.mk ?_)
 all_goals first
  |exact aeA (by grind)|((repeat' apply And.intro)<;>first|assumption|exact jh (by omega)|exact jl (by omega)|exact iU (amR _) (amR _))⟩
instance alD(a:Rat):DenI Tryz.prog 347 [R a,R 0,R 0] (rz a≤4000000) (.int .i64 (anf a)):=⟨λhp=>by
 have i_a:RzB a 4000000:=⟨hp⟩
 all_goals refine amV Tryz.func347 rfl ?_
 all_goals(repeat'((try(conv=>whnf));first
  |refine call_0 ?_|refine call_i ?_ ?_|(with_reducible first|refine onB_t ?_|refine onB_f ?_|refine onB_d (λ_=>?_) (λ_=>?_))|refine Drw.mk (by kernel_rfl) ?_|refine Ends.mk ?_))
 all_goals(try refine Pr.mk ?_)
 all_goals(try simp only[am3]at *)
 all_goals first
  |(exfalso;rename ¬IntKind.i64.wrap _=0=>h;exact h agb)|rfl|(simp only[Eb,Ea,aj,aH,ZY,Fb,aG, *,true_or,or_true,if_true,if_false,or_self,and_self,and_true,true_and,and_false,false_and,not_true,not_false_iff,AB,decide_true,decide_false,Vf,Vg,NH,G7];rfl)⟩
instance alI(a d:Rat):DenI Tryz.prog 321 [Q3 a 0 0,Q3 d 0 0] (rz a≤4000000∧rz d≤4000000) (.agg [zs (a-d:Rat).num,zl (a-d:Rat).num,zs (a-d:Rat).den,zl (a-d:Rat).den,zs (0:Rat).num,zl (0:Rat).num,zs (0:Rat).den,zl (0:Rat).den,zs (0:Rat).num,zl (0:Rat).num,zs (0:Rat).den,zl (0:Rat).den,zs (0:Rat).num,zl (0:Rat).num,zs (0:Rat).den,zl (0:Rat).den,zs (0:Rat).num,zl (0:Rat).num,zs (0:Rat).den,zl (0:Rat).den,zs (0:Rat).num,zl (0:Rat).num,zs (0:Rat).den,zl (0:Rat).den]):=⟨λhp=>by
 have i_a:RzB a 4000000:=⟨hp.1⟩
 have i_d:RzB d 4000000:=⟨hp.2⟩
 all_goals refine amV Tryz.func321 rfl ?_
 all_goals(repeat'((try(conv=>whnf));first
  |refine call_i ?_ ?_|refine Drw.mk (by kernel_rfl) ?_|refine Ends.mk ?_))
 all_goals(try refine Pr.mk ?_)
 all_goals first
  |(simp only[Rat.neg_zero];rfl)|((repeat' apply And.intro)<;>first|assumption|exact jh (by omega)|exact jl (by omega)|exact iU (amR _) (amR _))|omega⟩
instance ajY(a:Rat):DenI Tryz.prog 320 [.agg [zs a.num,zl a.num,zs a.den,zl a.den,zs (0:Rat).num,zl (0:Rat).num,zs (0:Rat).den,zl (0:Rat).den,zs (0:Rat).num,zl (0:Rat).num,zs (0:Rat).den,zl (0:Rat).den,zs (0:Rat).num,zl (0:Rat).num,zs (0:Rat).den,zl (0:Rat).den,zs (0:Rat).num,zl (0:Rat).num,zs (0:Rat).den,zl (0:Rat).den,zs (0:Rat).num,zl (0:Rat).num,zs (0:Rat).den,zl (0:Rat).den]] (rz a≤4000000) (.int .i64 (anf a)):=⟨λhp=>by
 have i_a:RzB a 4000000:=⟨hp⟩
 all_goals refine amV Tryz.func320 rfl ?_
 all_goals(repeat'((try(conv=>whnf));first
  |refine call_0 ?_|refine call_i ?_ ?_|(with_reducible first|refine onB_t ?_|refine onB_f ?_|refine onB_d (λ_=>?_) (λ_=>?_))|refine Drw.mk (by kernel_rfl) ?_|refine Ends.mk ?_))
 all_goals(try refine Pr.mk ?_)
 all_goals(try simp only[am3]at *)
 all_goals first
  |(exfalso;rename ¬IntKind.i64.wrap _=0=>h;exact h agb)|rfl|(simp only[Eb,Ea,aj,aH,ZY,Fb,aG, *,true_or,or_true,if_true,if_false,or_self,and_self,and_true,true_and,and_false,false_and,not_true,not_false_iff,AB,decide_true,decide_false,Vf,Vg,NH,G7];rfl)|((repeat' apply And.intro)<;>first|assumption|exact jh (by omega)|exact jl (by omega)|exact iU (amR _) (amR _))|(exfalso;simp_all;done)⟩
instance alZ(a d:Rat):DenI Tryz.prog 283 [Q3 a 0 0,Q3 d 0 0] (rz a≤990000∧rz d≤990000) (.int .i64 (ang a d)):=⟨λhp=>by
 have i_a:RzB a 990000:=⟨hp.1⟩
 have i_d:RzB d 990000:=⟨hp.2⟩
 all_goals refine amV Tryz.func283 rfl ?_
 all_goals(repeat'((try(conv=>whnf));first
  |refine call_i ?_ ?_|refine Ends.mk ?_))
 all_goals(try refine Pr.mk ?_)
 all_goals first
  |(refine iE ?_;exact J5 _ _)|((repeat' apply And.intro)<;>first|assumption|exact jh (by omega)|exact jl (by omega)|exact iU (amR _) (amR _))⟩
instance akm(a d:Rat):DenI Tryz.prog 348 [Q3 a 0 0,R d] (rz a≤990000∧rz d≤990000) (.int .i64 (ang a d)):=⟨λhp=>by
 have i_a:RzB a 990000:=⟨hp.1⟩
 have i_d:RzB d 990000:=⟨hp.2⟩
 all_goals refine amV Tryz.func348 rfl ?_
 all_goals(repeat'((try(conv=>whnf));first
  |refine call_i ?_ ?_|refine Drw.mk (by kernel_rfl) ?_|refine Ends.mk ?_))
 all_goals(try refine Pr.mk ?_)
 all_goals first
  |(refine iE ?_;exact J5 _ _)|((repeat' apply And.intro)<;>first|assumption|exact jh (by omega)|exact jl (by omega)|exact iU (amR _) (amR _))⟩
instance amH(X Y Q x y:Rat):DenI Tryz.prog 323 [Q3 X Y Q,Q5 x 0 y 0 0] (rz X≤990000∧rz Y≤990000∧rz Q≤990000∧rz x≤990000∧rz y≤990000) (.bool (decide (hf (X,Y) (x,y)=0))):=⟨λhp=>by
 have i_X:RzB X 990000:=⟨hp.1⟩
 have i_Y:RzB Y 990000:=⟨hp.2.1⟩
 have i_Q:RzB Q 990000:=⟨hp.2.2.1⟩
 have i_x:RzB x 990000:=⟨hp.2.2.2.1⟩
 have i_y:RzB y 990000:=⟨hp.2.2.2.2⟩
 all_goals refine amV Tryz.func323 rfl ?_
 all_goals(repeat'((try(conv=>whnf));first
  |refine call_i ?_ ?_|(with_reducible first|refine onB_t ?_|refine onB_f ?_|refine onB_d (λ_=>?_) (λ_=>?_))|refine Drw.mk (by kernel_rfl) ?_|refine Ends.mk ?_))
 all_goals(try refine Pr.mk ?_)
 all_goals(try simp only[am3]at *)
 all_goals first
  |exact bE (ajC (by assumption))|exact bE (ai2 (by assumption) (by assumption))|exact bE (aiw (by assumption) (by assumption))|((repeat' apply And.intro)<;>first|assumption|exact jh (by omega)|exact jl (by omega)|exact iU (amR _) (amR _))⟩
instance amw(X Y Q x y u v:Rat):DenI Tryz.prog 286 [Q3 X Y Q,Q5 x 0 y 0 0,Q5 u 0 v 0 0] (rz X≤990000∧rz Y≤990000∧rz Q≤990000∧rz x≤990000∧rz y≤990000∧rz u≤990000∧rz v≤990000) (.int .i64 (lX (X,Y) (x,y) (u,v))):=⟨λhp=>by
 have i_X:RzB X 990000:=⟨hp.1⟩
 have i_Y:RzB Y 990000:=⟨hp.2.1⟩
 have i_Q:RzB Q 990000:=⟨hp.2.2.1⟩
 have i_x:RzB x 990000:=⟨hp.2.2.2.1⟩
 have i_y:RzB y 990000:=⟨hp.2.2.2.2.1⟩
 have i_u:RzB u 990000:=⟨hp.2.2.2.2.2.1⟩
 have i_v:RzB v 990000:=⟨hp.2.2.2.2.2.2⟩
 have z1:=wM (X,Y) (x,y);have z2:=wM (X,Y) (u,v);have z3:=tq x u
 all_goals refine amV Tryz.func286 rfl ?_
 all_goals(repeat'((try(conv=>whnf));first
  |refine call_i ?_ ?_|(with_reducible refine onB_d (λ_=>?_) (λ_=>?_))|refine OnB.mk (λ_=>?_) (λ_=>?_)|refine Drw.mk (by kernel_rfl) ?_|refine Ends.mk ?_))
 all_goals(try refine Pr.mk ?_)
 all_goals first
  |(refine iE ?_;with_reducible exact aj6 (by assumption) (by assumption))|(refine iE ?_;unfold lX;grind)|((repeat' apply And.intro)<;>first|assumption|exact jh (by omega)|exact jl (by omega)|exact iU (amR _) (amR _))⟩
instance ak5(X Y Q x y u v s t:Rat):DenI Tryz.prog 250 [Q3 X Y Q,Q5 x 0 y 0 0,Q5 u 0 v 0 0,Q5 s 0 t 0 0] (rz X≤990000∧rz Y≤990000∧rz Q≤990000∧rz x≤990000∧rz y≤990000∧rz u≤990000∧rz v≤990000∧rz s≤990000∧rz t≤990000) (.int .i64 (uj (X,Y) (x,y) (u,v) (s,t))):=⟨λhp=>by
 have i_X:RzB X 990000:=⟨hp.1⟩
 have i_Y:RzB Y 990000:=⟨hp.2.1⟩
 have i_Q:RzB Q 990000:=⟨hp.2.2.1⟩
 have i_x:RzB x 990000:=⟨hp.2.2.2.1⟩
 have i_y:RzB y 990000:=⟨hp.2.2.2.2.1⟩
 have i_u:RzB u 990000:=⟨hp.2.2.2.2.2.1⟩
 have i_v:RzB v 990000:=⟨hp.2.2.2.2.2.2.1⟩
 have i_s:RzB s 990000:=⟨hp.2.2.2.2.2.2.2.1⟩
 have i_t:RzB t 990000:=⟨hp.2.2.2.2.2.2.2.2⟩
 all_goals refine amV Tryz.func250 rfl ?_
 all_goals(repeat'((try(conv=>whnf));first
  |refine call_i ?_ ?_|(with_reducible refine onB_d (λ_=>?_) (λ_=>?_))|refine OnB.mk (λ_=>?_) (λ_=>?_)|refine Drw.mk (by kernel_rfl) ?_|refine Ends.mk ?_))
 all_goals(try refine Pr.mk ?_)
 all_goals first
  |exact iE (ait (by assumption) (by assumption))|exact iE (ajx (by assumption) (by assumption))|exact iE (aiC (by assumption))|((repeat' apply And.intro)<;>first|assumption|exact jh (by omega)|exact jl (by omega)|exact iU (amR _) (amR _))⟩
instance akp(a d:Rat):DenI Tryz.prog 252 [Q5 a 0 d 0 0] (rz a≤4000000∧rz d≤4000000) (Q5 (-a) 0 d 0 0):=⟨λhp=>by
 have i_a:RzB a 4000000:=⟨hp.1⟩
 have i_d:RzB d 4000000:=⟨hp.2⟩
 all_goals refine amV Tryz.func252 rfl ?_
 all_goals(repeat'((try(conv=>whnf));first
  |refine call_i ?_ ?_|refine Drw.mk (by kernel_rfl) ?_|refine Ends.mk ?_))
 all_goals(try refine Pr.mk ?_)
 all_goals first
  |(simp only[Rat.neg_zero];rfl)|((repeat' apply And.intro)<;>first|assumption|exact jh (by omega)|exact jl (by omega)|exact iU (amR _) (amR _))⟩
instance ake(X Y Q a b e f:Rat):DenI Tryz.prog 251 [.agg (OJ X Y Q true a b e f)] (rz X≤990000∧rz Y≤990000∧rz Q≤990000∧rz a≤990000∧rz b≤990000∧rz e≤990000∧rz f≤990000) (.agg (OJ (-X) Y Q false (-a) b (-e) f)):=⟨λhp=>by
 have i_X:RzB X 990000:=⟨hp.1⟩
 have i_Y:RzB Y 990000:=⟨hp.2.1⟩
 have i_Q:RzB Q 990000:=⟨hp.2.2.1⟩
 have i_a:RzB a 990000:=⟨hp.2.2.2.1⟩
 have i_b:RzB b 990000:=⟨hp.2.2.2.2.1⟩
 have i_e:RzB e 990000:=⟨hp.2.2.2.2.2.1⟩
 have i_f:RzB f 990000:=⟨hp.2.2.2.2.2.2⟩
 all_goals refine amV Tryz.func251 rfl ?_
 all_goals(repeat'((try(conv=>whnf));first
  |refine call_i ?_ ?_|refine Drw.mk (by kernel_rfl) ?_|refine Ends.mk ?_))
 all_goals(try refine Pr.mk ?_)
 all_goals first
  |rfl|((repeat' apply And.intro)<;>first|assumption|exact jh (by omega)|exact jl (by omega)|exact iU (amR _) (amR _))⟩
instance alY(X Y Q a b e f x y u v:Rat)(cw:Bool):DenI Tryz.prog 219 [.agg (OJ X Y Q cw a b e f),Q5 x 0 y 0 0,Q5 u 0 v 0 0] (rz X≤7000∧rz Y≤7000∧rz Q≤27000∧rz a≤12∧rz b≤12∧rz e≤12∧rz f≤12∧rz x≤12∧rz y≤12∧rz u≤12∧rz v≤12) (.int .i64 (UH (X,Y) cw (a,b) (x,y) (u,v))):=⟨λhp=>by
 obtain⟨q0,q1,q2,q3,q4,q5,q6,q7,q8,q9,q10⟩:=hp;have i_X:RzB X 7000:=⟨q0⟩
 have i_Y:RzB Y 7000:=⟨q1⟩
 have i_Q:RzB Q 27000:=⟨q2⟩
 have i_a:RzB a 12:=⟨q3⟩
 have i_b:RzB b 12:=⟨q4⟩
 have i_e:RzB e 12:=⟨q5⟩
 have i_f:RzB f 12:=⟨q6⟩
 have i_x:RzB x 12:=⟨q7⟩
 have i_y:RzB y 12:=⟨q8⟩
 have i_u:RzB u 12:=⟨q9⟩
 have i_v:RzB v 12:=⟨q10⟩
 cases cw
 all_goals refine amV Tryz.func219 rfl ?_
 all_goals(repeat'((try(conv=>whnf));first
  |refine call_i ?_ ?_|refine OnB.mk (λ_=>?_) (λ_=>?_)|refine Drw.mk (by kernel_rfl) ?_|refine Ends.mk ?_))
 all_goals(try refine Pr.mk ?_)
 all_goals(try simp only[am3]at *)
 all_goals first
  |rfl|((repeat' apply And.intro)<;>first|assumption|exact jh (by omega)|exact jl (by omega)|exact iU (amR _) (amR _))|(exfalso;simp_all;done)⟩
instance alM(X Y Q a b e f x y:Rat)(cw:Bool):DenI Tryz.prog 218 [.agg (OJ X Y Q cw a b e f),Q5 x 0 y 0 0] (rz X≤7000∧rz Y≤7000∧rz Q≤27000∧rz a≤12∧rz b≤12∧rz e≤12∧rz f≤12∧rz x≤12∧rz y≤12) (.bool (decide (Aw (X,Y) Q (x,y)))):=⟨λhp=>by
 obtain⟨q0,q1,q2,q3,q4,q5,q6,q7,q8⟩:=hp;have i_X:RzB X 7000:=⟨q0⟩
 have i_Y:RzB Y 7000:=⟨q1⟩
 have i_Q:RzB Q 27000:=⟨q2⟩
 have i_a:RzB a 12:=⟨q3⟩
 have i_b:RzB b 12:=⟨q4⟩
 have i_e:RzB e 12:=⟨q5⟩
 have i_f:RzB f 12:=⟨q6⟩
 have i_x:RzB x 12:=⟨q7⟩
 have i_y:RzB y 12:=⟨q8⟩
 all_goals refine amV Tryz.func218 rfl ?_
 all_goals(repeat'((try(conv=>whnf));first
  |refine call_i ?_ ?_|(with_reducible refine onB_t ?_)|refine Ends.mk ?_))
 all_goals(try refine Pr.mk ?_)
 all_goals first
  |exact bE SI|((repeat' apply And.intro)<;>first|assumption|exact jh (by omega)|exact jl (by omega)|exact iU (amR _) (amR _))⟩
instance amC(X Y Q a b e f x y:Rat)(cw:Bool):DenI Tryz.prog 174 [.agg (OJ X Y Q cw a b e f),Q5 x 0 y 0 0] (rz X≤7000∧rz Y≤7000∧rz Q≤27000∧rz a≤12∧rz b≤12∧rz e≤12∧rz f≤12∧rz x≤12∧rz y≤12) (.bool (bF (X,Y) Q cw (a,b) (e,f) (x,y))):=⟨λhp=>by
 obtain⟨q0,q1,q2,q3,q4,q5,q6,q7,q8⟩:=hp;have i_X:RzB X 7000:=⟨q0⟩
 have i_Y:RzB Y 7000:=⟨q1⟩
 have i_Q:RzB Q 27000:=⟨q2⟩
 have i_a:RzB a 12:=⟨q3⟩
 have i_b:RzB b 12:=⟨q4⟩
 have i_e:RzB e 12:=⟨q5⟩
 have i_f:RzB f 12:=⟨q6⟩
 have i_x:RzB x 12:=⟨q7⟩
 have i_y:RzB y 12:=⟨q8⟩
 all_goals refine amV Tryz.func174 rfl ?_
 all_goals(repeat'((try(conv=>whnf));first
  |refine call_i ?_ ?_|(with_reducible first|refine onB_t ?_|refine onB_f ?_|refine onB_d (λ_=>?_) (λ_=>?_))|refine Ends.mk ?_))
 all_goals(try refine Pr.mk ?_)
 all_goals first
  |exact bE (ajP (by assumption) (by assumption))|(refine bE ?_;unfold bF;simp_all;done)|(refine bE ?_;unfold bF;simp[*];done)|((repeat' apply And.intro)<;>first|assumption|exact jh (by omega)|exact jl (by omega)|exact iU (amR _) (amR _))⟩
instance aiL(a b c d e f:Rat):DenI Tryz.prog 172 [Q2 a b,Q2 c d,Q2 e f] (rz a≤1000∧rz b≤1000∧rz c≤1000∧rz d≤1000∧rz e≤1000∧rz f≤1000) (.int .i64 (ang ((c-a)*(f-b)) ((d-b)*(e-a)))):=⟨λhp=>by
 have i_a:RzB a 1000:=⟨hp.1⟩
 have i_b:RzB b 1000:=⟨hp.2.1⟩
 have i_c:RzB c 1000:=⟨hp.2.2.1⟩
 have i_d:RzB d 1000:=⟨hp.2.2.2.1⟩
 have i_e:RzB e 1000:=⟨hp.2.2.2.2.1⟩
 have i_f:RzB f 1000:=⟨hp.2.2.2.2.2⟩
 all_goals refine amV Tryz.func172 rfl ?_
 all_goals(repeat'((try(conv=>whnf));first
  |refine call_i ?_ ?_|refine Drw.mk (by kernel_rfl) ?_|refine Ends.mk ?_))
 all_goals(try refine Pr.mk ?_)
 all_goals first
  |rfl|((repeat' apply And.intro)<;>first|assumption|exact jh (by omega)|exact jl (by omega)|exact iU (amR _) (amR _))⟩
instance al6(a b c d e f:Rat):DenC Tryz.prog 129 [Q2 a b,Q2 c d,Q2 e f] (rz a≤100∧rz b≤100∧rz c≤100∧rz d≤100∧rz e≤100∧rz f≤100) (cD a b c d e f=0) (.tup [.agg [.v (.bool false),.v (.bool false),.sl 1 [],.v (.bool false),.sl 1 [],.v (.bool false),.sl 1 [],.v (.bool false),.sl 1 [],.v (.bool false),.sl 1 [],.v (.bool false),.sl 1 [],.v (.bool false),.sl 1 [],.v (.bool false),.sl 1 [],.v (.bool false),.sl 1 [],.v (.bool false),.sl 1 [],.v (.bool false),.sl 1 [],.v (.bool false),.sl 1 [],.v (.bool false),.v (.bool false),.sl 1 [],.v (.bool false),.sl 1 [],.v (.bool false),.sl 1 [],.v (.bool false),.sl 1 [],.v (.bool false),.sl 1 [],.v (.bool false),.sl 1 [],.v (.bool false),.sl 1 [],.v (.bool false),.sl 1 [],.v (.bool false),.sl 1 [],.v (.bool false),.sl 1 [],.v (.bool false),.sl 1 [],.v (.bool false),.sl 1 [],.v (.bool false),.sl 1 [],.v (.bool false),.sl 1 [],.v (.bool false),.sl 1 [],.v (.bool false),.sl 1 [],.v (.bool false),.sl 1 [],.v (.bool false),.sl 1 [],.v (.bool false),.sl 1 [],.v (.bool false),.sl 1 []],.int .i64 6]) (.tup [.agg (OJ (jT (a,b) (c,d) (e,f)) (ji (a,b) (c,d) (e,f)) (Ru (a,b) (c,d) (e,f)) (!decide (0<cD a b c d e f)) a b e f),.int .i64 0]):=⟨denC λhp q e1 e2=>by
 have i_a:RzB a 100:=⟨hp.1⟩
 have i_b:RzB b 100:=⟨hp.2.1⟩
 have i_c:RzB c 100:=⟨hp.2.2.1⟩
 have i_d:RzB d 100:=⟨hp.2.2.2.1⟩
 have i_e:RzB e 100:=⟨hp.2.2.2.2.1⟩
 have i_f:RzB f 100:=⟨hp.2.2.2.2.2⟩
 all_goals refine amV Tryz.func129 rfl ?_
 all_goals(repeat'((try(conv=>whnf));first
  |refine call_i ?_ ?_|refine call_c ?_ (λ_=>?_) (λ_=>?_)|(with_reducible first|refine onB_t ?_|refine onB_f ?_|refine onB_d (λ_=>?_) (λ_=>?_)|refine onB_n (λ_=>?_) (λ_=>?_))|refine Drw.mk (by kernel_rfl) ?_|refine Ends.mk ?_))
 all_goals(try refine Pr.mk ?_)
 all_goals(try simp only[am3]at *)
 all_goals first
  |(rw[e1 (by assumption)];rfl)|(exfalso;(with_reducible rename _-_=(0:Rat)=>h0);exact absurd (ahs h0) (by with_reducible assumption))|((with_reducible show packA _=_);rw[e2 (by unfold cD;with_reducible assumption),←ajj (by unfold cD;with_reducible assumption)];rfl)|(rw[e1 (by unfold cD;grind)];rfl)|((repeat' apply And.intro)<;>first|assumption|exact jh (by omega)|exact jl (by omega)|exact iU (amR _) (amR _))⟩
end Go.Proofs.YtmniihkenijjpaaGreatDoor
namespace Go.Sw
open Go Go.RowKit
theorem den_lift{P:Program}(i j:Wld P)(hij:∀w,j.ok w→i.ok w){f:FuncId}{xs:List AV}{r:AV}(h : @Den P i f xs r):@Den P j f xs r:=by
 revert h;unfold Den;split
 ·exactλh=>⟨h.1,λw X g T us vs more mo hW=>h.2 w X g T us vs more mo (hij w hW)⟩
 ·exact id
 ·exactλh=>⟨h.1,λw X g cap uss rest vs hW=>h.2 w X g cap uss rest vs (hij w hW)⟩
 ·exactλh=>⟨h.1,λw X vs hW=>h.2 w X vs (hij w hW)⟩
structure MapSays (P:Program) (t:TypeId) (g:Nat) (f:Int→ByteArray) (w:World):Prop where
 ex:∃bm es clock,w.cell? ⟨g,0,none⟩=some (.map (some bm))∧w.heap[bm]?=some (.map es clock)∧∀w':World,w'.heap[bm]?=some (.map es clock)→∀k:Int,-9223372036854775808≤k→k≤9223372036854775807→(Instr.lookup t (.map (some bm)) (.int .i64 k) false).run P w'=.ok (.string (f k)) w'
theorem MapSays.run{P:Program}{t:TypeId}{g:Nat}{f:Int→ByteArray}{w:World}(h:MapSays P t g f w)(k:Int)(h1 : -9223372036854775808≤k)(h2:k≤9223372036854775807):
 ∃bm,w.cell? ⟨g,0,none⟩=some (.map (some bm))∧(Instr.lookup t (.map (some bm)) (.int .i64 k) false).run P w=.ok (.string (f k)) w:=by
 obtain⟨bm,es,clock,a,b,c⟩:=h.ex;exact⟨bm,a,c w b k h1 h2⟩
end Go.Sw
namespace Go.Proofs.YtmniihkenijjpaaGreatDoor
open Go Go.RowKit Go.Sw Go.Shelf Go.Sort Go.Lib
set_option maxRecDepth 100000
set_option maxHeartbeats 8000000
def acv:Go.Shelf.Ren:=⟨λn=>if n=284 then 351 else if n=317 then 362 else if n=318 then 363 else if n=129 then 267 else n,λn=>if n=46 then 228 else if n=53 then 152 else if n=212 then 353 else n,λn=>if n=17 then 1 else n⟩
theorem adx:Go.Proofs.Lays.n284 Tryz.prog acv where
 mixed:=eF
 f284:=Ai Tryz.func351 (congrArg some (Eq.refl _))
 f317:=Ai Tryz.func362 (congrArg some (Eq.refl _))
 f318:=Ai Tryz.func363 (congrArg some (Eq.refl _))
 f129:=Ai Tryz.func267 (congrArg some (Eq.refl _))
 t0:=Tryz.underlying0
 a0:=Tryz.isAgg0
 z0:=Tryz.sizeOf0
 v0:=Tryz.zeroValue0
 t3:=Tryz.underlying3
 a3:=Tryz.isAgg3
 z3:=Tryz.sizeOf3
 v3:=Tryz.zeroValue3
 t4:=Tryz.underlying4
 a4:=Tryz.isAgg4
 z4:=Tryz.sizeOf4
 v4:=Tryz.zeroValue4
 t5:=Tryz.underlying5
 a5:=Tryz.isAgg5
 z5:=Tryz.sizeOf5
 v5:=Tryz.zeroValue5
 t9:=Tryz.underlying9
 a9:=Tryz.isAgg9
 z9:=Tryz.sizeOf9
 v9:=Tryz.zeroValue9
 t46:=Tryz.underlying228
 a46:=Tryz.isAgg228
 z46:=Tryz.sizeOf228
 v46:=Tryz.zeroValue228
 t53:=Tryz.underlying152
 a53:=Tryz.isAgg152
 z53:=Tryz.sizeOf152
 v53:=Tryz.zeroValue152
 t212:=Tryz.underlying353
 a212:=Tryz.isAgg353
 z212:=Tryz.sizeOf353
 v212:=Tryz.zeroValue353
 g17:=by kernel_rfl
theorem ag0:Go.Proofs.LaysM.n284 Tryz.prog acv where
 ton284:=adx
 i0:=by kernel_rfl
 i3:=by kernel_rfl
 i4:=by kernel_rfl
 i5:=by kernel_rfl
 i9:=by kernel_rfl
 i46:=by kernel_rfl
 i53:=by kernel_rfl
 i212:=by kernel_rfl
 m17:=by kernel_rfl
def ahI:Go.Shelf.Ren:=⟨λn=>if n=285 then 352 else n,λn=>if n=37 then 270 else if n=51 then 154 else if n=53 then 152 else n,λn=>n⟩
theorem aem:Go.Proofs.Lays.n285 Tryz.prog ahI where
 mixed:=eF
 f285:=Ai Tryz.func352 (congrArg some (Eq.refl _))
 t0:=Tryz.underlying0
 a0:=Tryz.isAgg0
 z0:=Tryz.sizeOf0
 v0:=Tryz.zeroValue0
 t3:=Tryz.underlying3
 a3:=Tryz.isAgg3
 z3:=Tryz.sizeOf3
 v3:=Tryz.zeroValue3
 t4:=Tryz.underlying4
 a4:=Tryz.isAgg4
 z4:=Tryz.sizeOf4
 v4:=Tryz.zeroValue4
 t5:=Tryz.underlying5
 a5:=Tryz.isAgg5
 z5:=Tryz.sizeOf5
 v5:=Tryz.zeroValue5
 t9:=Tryz.underlying9
 a9:=Tryz.isAgg9
 z9:=Tryz.sizeOf9
 v9:=Tryz.zeroValue9
 t37:=Tryz.underlying270
 a37:=Tryz.isAgg270
 z37:=Tryz.sizeOf270
 v37:=Tryz.zeroValue270
 t51:=Tryz.underlying154
 a51:=Tryz.isAgg154
 z51:=Tryz.sizeOf154
 v51:=Tryz.zeroValue154
 t53:=Tryz.underlying152
 a53:=Tryz.isAgg152
 z53:=Tryz.sizeOf152
 v53:=Tryz.zeroValue152
set_option maxHeartbeats 6400000 in
set_option maxRecDepth 100000 in
theorem abf(u:Nat)(h1:100≤u)(hu64:u<18446744073709551616)(w:World)(htab:Lib.TabIs Tryz.prog w "internal/strconv.uint64pow10" .u64 Lib.pow10Tab):
 Calls Tryz.prog 325 #[.int .u64 u,.int .i64 10] w λe w'=>e=.returned (.string ⟨(Lib.decDigits u).toArray⟩)∧Below w.heap.size w w':=by
 have hu1:1≤u:=by omega
 have hlt:¬((u:Int)<100):=by omega
 have hnd20:Lib.nDigits u≤20:=Lib.nDigits_le20 u hu64;have hal:Tryz.prog.arrayLen 340=24:=by kernel_rfl
 have hsl:∀W,(Instr.sliceAt 340 (.pointer (some ⟨w.heap.size,0,none⟩)) none (some (.int .i64 (Lib.nDigits u:Int))) none).run Tryz.prog W=.ok (.slice (some ⟨w.heap.size,0,none⟩) (Lib.nDigits u) 24) W:=λW=>by
  rw[run_sliceAt_array_h W 340 ⟨w.heap.size,0,none⟩ (by simp[Program.arrayLen,Program.elem,Tryz.underlying340]) .i64 (Lib.nDigits u:Int) (by omega) (by rw[hal];omega)]
  go_simp
 have hH0:=Lib.holds_zero0 w 340 (Lib.nDigits u) (by omega);have hfmt:=Any.internal_strconv_formatBase10 aem w.heap.size 0 24 u (Array.replicate (Lib.nDigits u) 0) (w.alloc (.cells Lib.zeros24 340)) hH0 (by rw[Array.size_replicate];exact Lib.lt_pow_nDigits u) hu64 (by rw[Array.size_replicate];omega);rw[Array.size_replicate]at hfmt;have HH0:=Lib.hid hH0;clear hH0 hal
 go_enter Tryz.func325,Tryz.ntmps325
 go_wp2_with (first
  |(go_at_call 351;refine(Any.internal_strconv_numDigits ag0 u hu1 hu64 _ (Lib.tabIs_alloc htab _)).mono ?_;rintro e w' ⟨rfl,rfl⟩))
 go_at_call 352
 refine hfmt.mono ?_;rintro e w' ⟨rfl,k,v',dk,rfl,hF⟩
 have hcv:(convert 270 9 (.slice (some ⟨w.heap.size,0,none⟩) (Lib.nDigits u) 24)).run Tryz.prog ((putRow (λ(b:UInt8)=>Value.int .u8 (b.toNat:Int)) (w.alloc (.cells Lib.zeros24 340)) w.heap.size 0 dk).drewN k)=.ok (.string ⟨(Lib.decDigits u).toArray⟩) ((putRow (λ(b:UInt8)=>Value.int .u8 (b.toNat:Int)) (w.alloc (.cells Lib.zeros24 340)) w.heap.size 0 dk).drewN k):=by
  have h:=run_convert_bytes_back (P:=Tryz.prog) ((putRow (λ(b:UInt8)=>Value.int .u8 (b.toNat:Int)) (w.alloc (.cells Lib.zeros24 340)) w.heap.size 0 dk).drewN k) 270 9 5 ⟨w.heap.size,0,none⟩ 24 (Lib.decDigits u) Tryz.underlying270 Tryz.underlying5 Tryz.underlying9 (λj hj=>by
   rw[Lib.row_is_numeral hF j hj,Lib.add_plain,World.cell?_drewN]
   exact cell?_putRow (λ(b:UInt8)=>Value.int .u8 (b.toNat:Int)) _ w.heap.size 0 _ dk HH0.out (by rw[hF.size,Array.size_replicate]) j (by rw[hF.size];rw[Lib.decDigits_length]at hj;exact hj))
  rw[Lib.decDigits_length]at h;exact h
 go_wp2
 go_ret
 refine⟨rfl, ?_⟩;rw[alloc_eq_grow];obtain⟨os',_,e⟩:=putRow_grow_new (λ(b:UInt8)=>Value.int .u8 (b.toNat:Int)) w #[.cells Lib.zeros24 340] w.heap.size 0 dk (kU _);rw[e];exact Lib.below_grow _ w (kU _) k os'
end Go.Proofs.YtmniihkenijjpaaGreatDoor
