/-
  Rules of the abstract run, plain laws, and what functions answer, for the law RepairTwice.
  Conditions: none.
-/
import Derived.Test.YtmniihkenijjpaaGreatDoorP12
set_option linter.all false
namespace Go.Sw
open Go
def Vu(a b c p:P2):Rat:=Xm a b c*(p.1-a.1)+WR a b c*(p.2-a.2)-jG a b c*((p.1-a.1)*(p.1-a.1)+(p.2-a.2)*(p.2-a.2))
theorem y9{a b c p:P2}:EI a b c p=true↔(jG a b c≠0∧Vu a b c p=0∧(p=a∨p=c∨0<iH a p c*iH a b c)):=by
 unfold EI Vu;rw [decide_eq_true_eq];constructor
 ·rintro ⟨h1,h2,h3⟩;exact ⟨h1,by rw [h2];grind,h3⟩
 ·rintro ⟨h1,h2,h3⟩;exact ⟨h1,by grind,h3⟩
theorem Tm(a b c p:P2):Vu c b a p = -Vu a b c p:=by
 obtain ⟨a1,a2⟩:=a;obtain ⟨b1,b2⟩:=b;obtain ⟨c1,c2⟩:=c;obtain ⟨p1,p2⟩:=p;simp only [Vu,Xm,WR,jG,cU,cV,cD]
 grind
theorem Ul(a b c p:P2):EI c b a p=EI a b c p:=by
 rw [Bool.eq_iff_iff,y9,y9,Tm,LX]
 have x1:iH c p a*iH c b a=iH a p c*iH a b c:=by
  have e1:iH c p a = -iH a p c:=by unfold iH;grind
  have e2:iH c b a = -iH a b c:=by unfold iH;grind
  rw [e1,e2];grind
 rw [x1];constructor
 ·rintro ⟨h1,h2,h3⟩;exact ⟨λe=>h1 (by rw [e];decide +kernel),by grind,by rcases h3 with h|h|h<;>simp [h]⟩
 ·rintro ⟨h1,h2,h3⟩;exact ⟨λe=>h1 (by grind),by rw [h2];decide +kernel,by rcases h3 with h|h|h<;>simp [h]⟩
theorem plk{n1 n2 n3 b1 b2 b3 m1 m2 m3 k1 k2 k3:Rat}:(n1*b2-n2*b1)*(k1*(b2*m3-b3*m2)-k2*(b1*m3-b3*m1)+k3*(b1*m2-b2*m1)) =
 (k1*b2-k2*b1)*(n1*(b2*m3-b3*m2)-n2*(b1*m3-b3*m1)+n3*(b1*m2-b2*m1))-(m1*b2-m2*b1)*(n1*(b2*k3-b3*k2)-n2*(b1*k3-b3*k1)+n3*(b1*k2-b2*k1)):=by grind
theorem VT(a b c p:P2):Vu a b c p = -((b.1-a.1)*((c.2-a.2)*((p.1-a.1)*(p.1-a.1)+(p.2-a.2)*(p.2-a.2))-((c.1-a.1)*(c.1-a.1)+(c.2-a.2)*(c.2-a.2))*(p.2-a.2))-(b.2-a.2)*((c.1-a.1)*((p.1-a.1)*(p.1-a.1)+(p.2-a.2)*(p.2-a.2))-((c.1-a.1)*(c.1-a.1)+(c.2-a.2)*(c.2-a.2))*(p.1-a.1))+((b.1-a.1)*(b.1-a.1)+(b.2-a.2)*(b.2-a.2))*((c.1-a.1)*(p.2-a.2)-(c.2-a.2)*(p.1-a.1))):=by
 simp only [Vu,Xm,WR,jG,cU,cV,cD];generalize b.1-a.1=b1;generalize b.2-a.2=b2;generalize c.1-a.1=c1;generalize c.2-a.2=c2;generalize p.1-a.1=p1;generalize p.2-a.2=p2
 grind
theorem ZN{a n b m k:P2}(h:jG a n b≠0)(h1:Vu a n b m=0)(h2:Vu a n b k=0):Vu a k b m=0:=by
 rw [VT] at h1 h2 ⊢;have hD:jG a n b=(n.1-a.1)*(b.2-a.2)-(n.2-a.2)*(b.1-a.1):=rfl;rw [hD] at h;clear hD;generalize n.1-a.1=n1 at *;generalize n.2-a.2=n2 at *;generalize b.1-a.1=b1 at *;generalize b.2-a.2=b2 at *;generalize m.1-a.1=m1 at *;generalize m.2-a.2=m2 at *;generalize k.1-a.1=k1 at *;generalize k.2-a.2=k2 at *;generalize n1*n1+n2*n2=n3 at *;generalize b1*b1+b2*b2=b3 at *;generalize m1*m1+m2*m2=m3 at *;generalize k1*k1+k2*k2=k3 at *;have id:=plk (n1:=n1) (n2:=n2) (n3:=n3) (b1:=b1) (b2:=b2) (b3:=b3) (m1:=m1) (m2:=m2) (m3:=m3) (k1:=k1) (k2:=k2) (k3:=k3);generalize k1*(b2*m3-b3*m2)-k2*(b1*m3-b3*m1)+k3*(b1*m2-b2*m1)=X at *;generalize n1*(b2*m3-b3*m2)-n2*(b1*m3-b3*m1)+n3*(b1*m2-b2*m1)=Y at *;generalize n1*(b2*k3-b3*k2)-n2*(b1*k3-b3*k1)+n3*(b1*k2-b2*k1)=Z at *;have y0:Y=0:=by grind
 have z0:Z=0:=by grind
 subst y0 z0;have id2:(n1*b2-n2*b1)*X=0:=by rw [id];grind
 rcases Rat.mul_eq_zero.1 id2 with g|g
 ·exact absurd g h
 ·rw [g];decide +kernel
theorem XL{x y z:Rat}(h1:0<x*y)(h2:0<y*z):0<x*z:=by
 have h3:=Rat.mul_pos h1 h2;have hy:y≠0:=λe=>by rw [e] at h2;grind
 have h4:0≤y*y:=aa2 y;refine Decidable.byContradiction λhn=>?_
 have h5:=Rat.mul_nonneg (show 0≤-(x*z) by grind) h4
 grind
theorem Y3{a b:P2}:iH a a b=0:=by unfold iH;grind
theorem YE{a b:P2}:iH a b b=0:=by unfold iH;grind
theorem Rn{a n b m k:P2}(h1:EI a n b m=true)(h2:EI a n b k=true)(hm:jG a m b≠0)(hk:jG a k b≠0):EI a k b m=true:=by
 rw [y9] at h1 h2 ⊢;obtain ⟨p1,p2,p3⟩:=h1;obtain ⟨_,q2,q3⟩:=h2;refine ⟨hk,ZN p1 p2 q2,.inr (.inr ?_)⟩;rw [← SE] at hm hk
 have p4:0<iH a m b*iH a n b:=by
  rcases p3 with rfl|rfl|h
  ·exact absurd Y3 hm
  ·exact absurd YE hm
  ·exact h
 have q4:0<iH a k b*iH a n b:=by
  rcases q3 with rfl|rfl|h
  ·exact absurd Y3 hk
  ·exact absurd YE hk
  ·exact h
 exact XL p4 (by grind)
theorem Qs{a b c:P2}:jG c b a=0↔jG a b c=0:=by
 rw [LX];constructor<;>intro h
 ·rw [← Rat.neg_neg (jG a b c),h];decide +kernel
 ·rw [h];decide +kernel
def sA(a m b c n d:P2):Prop:=((a=c∧b=d)∨(a=d∧b=c))∧((jG a m b=0∧jG c n d=0∧m=n)∨(jG a m b≠0∧jG c n d≠0∧EI c n d m=true∧EI a m b n=true))
theorem y7{a m b c n d:P2}:sA a m b c n d→sA a m b d n c:=by
 rintro ⟨h1,h2⟩;refine ⟨h1.symm, ?_⟩;rw [Ul c n d m];rcases h2 with ⟨g1,g2,g3⟩|⟨g1,g2,g3,g4⟩
 ·exact .inl ⟨g1,Qs.2 g2,g3⟩
 ·exact .inr ⟨g1,λe=>g2 (Qs.1 e),g3,g4⟩
theorem Ea{a m b c n d:P2}:sA a m b c n d→sA c n d a m b:=by
 rintro ⟨h1,h2⟩;refine ⟨by rcases h1 with ⟨rfl,rfl⟩|⟨rfl,rfl⟩<;>simp, ?_⟩;rcases h2 with ⟨g1,g2,g3⟩|⟨g1,g2,g3,g4⟩
 ·exact .inl ⟨g2,g1,g3.symm⟩
 ·exact .inr ⟨g2,g1,g4,g3⟩
theorem DR{a m b n k:P2}:sA a m b a n b→sA a n b a k b→sA a m b a k b:=by
 rintro ⟨_,h2⟩ ⟨_,k2⟩;refine ⟨.inl ⟨rfl,rfl⟩, ?_⟩;rcases h2 with ⟨g1,g2,g3⟩|⟨g1,g2,g3,g4⟩<;>rcases k2 with ⟨f1,f2,f3⟩|⟨f1,f2,f3,f4⟩
 ·exact .inl ⟨g1,f2,g3.trans f3⟩
 ·exact absurd g2 f1
 ·exact absurd f1 g2
 ·exact .inr ⟨g1,f2,Rn g3 f4 g1 f2,Rn f4 g3 f2 g1⟩
theorem Dc{a m b n u k v:P2}(h:sA a m b a n b)(k':sA a n b u k v):sA a m b u k v:=by
 rcases k'.1 with ⟨rfl,rfl⟩|⟨rfl,rfl⟩
 ·exact DR h k'
 ·exact y7 (DR h (y7 k'))
theorem Ur{a m b c n d u k v:P2}(h:sA a m b c n d)(k':sA c n d u k v):sA a m b u k v:=by
 rcases h.1 with ⟨rfl,rfl⟩|⟨rfl,rfl⟩
 ·exact Dc h k'
 ·exact Dc (y7 h) (Ea (y7 (Ea k')))
def sE(e f:Ent):Prop:=eqS e.layer f.layer=true∧e.kind=f.kind ∧
 match e.pts,f.pts with
 |[a],[b]=>a=b∧e.rad=f.rad
 |[a,b],[c,d]=>(a=c∧b=d)∨(a=d∧b=c)
 |[a,m,b],[c,n,d]=>sA a m b c n d
 |_,_=>False
theorem Aa{a b c d:P2}:tH a b c d=true↔(a=c∧b=d)∨(a=d∧b=c):=by unfold tH;rw [decide_eq_true_eq]
theorem Zv{kd:Int}{ly:ByteArray}{a m b:P2}{rd:Rq}:BO ⟨kd,ly,[a,m,b],rd⟩=decide (jG a m b=0):=rfl
theorem aaE{a m b c n d:P2}:(tH a b c d && (if (decide (jG a m b=0) || decide (jG c n d=0))=true then decide (jG a m b=0) && decide (jG c n d=0) && decide (m=n) else EI c n d m && EI a m b n))=true↔sA a m b c n d:=by
 unfold sA;rw [Bool.and_eq_true,Aa];refine and_congr Iff.rfl ?_
 by_cases h1:jG a m b=0<;>by_cases h2:jG c n d=0<;>simp [h1,h2]
theorem oI{e f:Ent}:dK e f=true↔sE e f:=by
 obtain ⟨k1,l1,p1,r1⟩:=e;obtain ⟨k2,l2,p2,r2⟩:=f;unfold dK sE;rw [Bool.and_eq_true,Bool.and_eq_true,decide_eq_true_eq,and_assoc];refine and_congr Iff.rfl (and_congr Iff.rfl ?_);simp only
 match p1,p2 with
 |[a],[b]=>simp
 |[a,b],[c,d]=>exact Aa
 |[a,m,b],[c,n,d]=>exact aaE
 |[],_=>simp
 |[_],[]=>simp
 |[_],_ :: _ :: _=>simp
 |[_,_],[]=>simp
 |[_,_],[_]=>simp
 |[_,_],_ :: _ :: _ :: _=>simp
 |[_,_,_],[]=>simp
 |[_,_,_],[_]=>simp
 |[_,_,_],[_,_]=>simp
 |[_,_,_],_ :: _ :: _ :: _ :: _=>simp
 |_ :: _ :: _ :: _ :: _,_=>simp
theorem QU(s t:ByteArray):eqS s t=eqS t s:=by unfold eqS;rw [Bool.eq_iff_iff,beq_iff_eq,beq_iff_eq];exact eq_comm
theorem Pv{s t u:ByteArray}(h:eqS s t=true)(k:eqS t u=true):eqS s u=true:=by
 unfold eqS at *;rw [eq_of_beq h];exact k
theorem Oa{e f:Ent}:sE e f→sE f e:=by
 obtain ⟨k1,l1,p1,r1⟩:=e;obtain ⟨k2,l2,p2,r2⟩:=f;unfold sE;simp only;rintro ⟨h1,h2,h3⟩;refine ⟨by rw [QU];exact h1,h2.symm, ?_⟩
 match p1,p2,h3 with
 |[a],[b],h3=>exact ⟨h3.1.symm,h3.2.symm⟩
 |[a,b],[c,d],h3=>rcases h3 with ⟨rfl,rfl⟩|⟨rfl,rfl⟩<;>simp
 |[a,m,b],[c,n,d],h3=>exact Ea h3
theorem U7{e f g:Ent}:sE e f→sE f g→sE e g:=by
 obtain ⟨k1,l1,p1,r1⟩:=e;obtain ⟨k2,l2,p2,r2⟩:=f;obtain ⟨k3,l3,p3,r3⟩:=g;unfold sE;simp only;rintro ⟨h1,h2,h3⟩ ⟨g1,g2,g3⟩;refine ⟨Pv h1 g1,h2.trans g2, ?_⟩
 match p1,p2,p3,h3,g3 with
 |[a],[b],[c],h3,g3=>exact ⟨h3.1.trans g3.1,h3.2.trans g3.2⟩
 |[a,b],[c,d],[u,v],h3,g3=>rcases h3 with ⟨rfl,rfl⟩|⟨rfl,rfl⟩<;>rcases g3 with ⟨rfl,rfl⟩|⟨rfl,rfl⟩<;>simp
 |[a,m,b],[c,n,d],[u,k,v],h3,g3=>exact Ur h3 g3
theorem tJ(e f:Ent):dK e f=dK f e:=by
 rw [Bool.eq_iff_iff,oI,oI];exact ⟨Oa,Oa⟩
theorem Ib{e f g:Ent}(h:dK e f=true)(k:dK f g=true):dK e g=true:=oI.2 (U7 (oI.1 h) (oI.1 k))
theorem aa9{a b c p:P2}(h:jG a b c=0):EI a b c p=false:=by
 rw [Bool.eq_false_iff];intro e;exact (y9.1 e).1 h
@[reducible] def mP(q:Rat):Rq:=⟨decide (q.num<0),lim q.num.natAbs,decide ((q.den:Int)<0),lim (q.den:Int).natAbs⟩
theorem vG{α:Type}{p:List α→Prop}(h0:p [])(h1:∀l e,p l→p (l++[e]))(l:List α):p l:=by
 have key:∀r:List α,p r.reverse:=λr=>by
  induction r with
  |nil=>exact h0
  |cons e r ih=>rw [List.reverse_cons];exact h1 _ _ ih
 have:=key l.reverse
 rwa [List.reverse_reverse] at this
theorem rE(l:List Ent)(e:Ent):qx (l++[e])=qx l++[(e,(qx l).any λp=>!p.2 && dK e p.1)]:=by
 unfold qx;rw [List.foldl_append];rfl
theorem wC(l:List Ent):(qx l).map (·.1)=l:=by
 induction l using vG with
 |h0=>rfl
 |h1 l e ih=>rw [rE,List.map_append,ih];rfl
theorem Ai(l:List Ent):(qx l).length=l.length:=by
 have:=congrArg List.length (wC l);simpa using this
theorem P6(l:List Ent):∀p∈qx l,p.2=true→∃q∈qx l,q.2=false∧dK p.1 q.1=true:=by
 induction l using vG with
 |h0=>intro p hp;simp [qx] at hp
 |h1 l e ih =>
  intro p hp h;rw [rE] at hp ⊢;rcases List.mem_append.1 hp with hp|hp
  ·obtain ⟨q,q1,q2,q3⟩:=ih p hp h;exact ⟨q,List.mem_append_left _ q1,q2,q3⟩
  ·simp only [List.mem_singleton] at hp;subst hp;obtain ⟨q,q1,q2⟩:=List.any_eq_true.1 h;rw [Bool.and_eq_true,Bool.not_eq_true'] at q2;exact ⟨q,List.mem_append_left _ q1,q2.1,q2.2⟩
theorem X7(l:List Ent)(e:Ent):((qx l).any λp=>!p.2 && dK e p.1)=l.any λf=>dK f e:=by
 rw [Bool.eq_iff_iff,List.any_eq_true,List.any_eq_true];constructor
 ·rintro ⟨p,h1,h2⟩;rw [Bool.and_eq_true] at h2;refine ⟨p.1, ?_,by rw [tJ];exact h2.2⟩;have:=List.mem_map_of_mem (f:=(·.1)) h1
  rwa [wC] at this
 ·rintro ⟨f,h1,h2⟩;rw [← wC l] at h1;obtain ⟨p,h3,rfl⟩:=List.mem_map.1 h1;cases h4:p.2 with
  |false=>exact ⟨p,h3,by rw [h4,tJ,h2];rfl⟩
  |true =>
   obtain ⟨q,q1,q2,q3⟩:=P6 l p h3 h4;refine ⟨q,q1, ?_⟩;rw [q2,Ib (by rw [tJ];exact h2) q3];rfl
theorem Ae(l:List Ent)(e:Ent):dO (l++[e])=dO l++[l.any λf=>dK f e]:=by
 unfold dO;rw [rE,List.map_append,← X7];rfl
theorem iU(l:List Ent):(dO l).length=l.length:=by unfold dO;rw [List.length_map,Ai]
theorem Xn{l:List Ent}{k:Nat}(h:k<l.length):(qx l)[k]?=some (l.getD k E0,(dO l).getD k false):=by
 have h1:k<(qx l).length:=by rw [Ai];exact h
 have e1:((qx l).map (·.1))[k]?=l[k]?:=by rw [wC]
 rw [List.getElem?_map,List.getElem?_eq_getElem h1,List.getElem?_eq_getElem h] at e1;simp only [Option.map_some,Option.some.injEq] at e1;rw [List.getElem?_eq_getElem h1];congr 1;refine Prod.ext ?_ ?_
 ·rw [e1];simp [List.getD_eq_getElem?_getD,h]
 ·simp [dO,List.getD_eq_getElem?_getD,h1]
theorem VO{l:List Ent}{x:Nat}(h:x<l.length):l.take (x+1)=l.take x++[l.getD x E0]:=by
 rw [List.take_succ,List.getElem?_eq_getElem h];simp [List.getD_eq_getElem?_getD,h]
def xW(l:List Ent)(x:Nat):List Bool:=dO (l.take x)++List.replicate (l.length-x) false
theorem Yk{l:List Ent}{x:Nat}(h:x≤l.length):(xW l x).length=l.length:=by
 unfold xW;rw [List.length_append,iU,List.length_take,List.length_replicate];omega
theorem adx(l:List Ent):xW l 0=List.replicate l.length false:=rfl
theorem Xu(l:List Ent):xW l l.length=dO l:=by unfold xW;rw [List.take_length,Nat.sub_self];simp
def sK(l:List Ent)(x k:Nat):Bool:=((qx (l.take x)).take k).any λp=>!p.2 && dK (l.getD x E0) p.1
theorem BZ{l:List Ent}{x k:Nat}(hx:x<l.length)(hk:k<x):sK l x (k+1)=(sK l x k || (!(xW l x).getD k false && dK (l.getD x E0) (l.getD k E0))):=by
 have hk':k<(l.take x).length:=by simp;omega
 unfold sK;rw [List.take_succ,List.any_append,Xn hk'];have e1:(l.take x).getD k E0=l.getD k E0:=by simp [List.getD_eq_getElem?_getD,hk,List.getElem?_take]
 have e2:(xW l x).getD k false=(dO (l.take x)).getD k false:=by
  unfold xW;simp only [List.getD_eq_getElem?_getD];rw [List.getElem?_append_left (by rw [iU];exact hk')]
 rw [e1,e2];simp
theorem Ia{l:List Ent}{x:Nat}(hx:x≤l.length):sK l x x=((qx (l.take x)).any λp=>!p.2 && dK (l.getD x E0) p.1):=by
 unfold sK;rw [List.take_of_length_le (by rw [Ai,List.length_take];omega)]
theorem Oq{l:List Ent}{x k:Nat}(hx:x<l.length)(hk:k<x)(h:sK l x (k+1)=true):sK l x x=true:=by
 rw [Ia (by omega)];unfold sK at h;obtain ⟨p,h1,h2⟩:=List.any_eq_true.1 h;exact List.any_eq_true.2 ⟨p,List.mem_of_mem_take h1,h2⟩
theorem IE{l:List Ent}{x:Nat}(hx:x<l.length):xW l (x+1)=(xW l x).set x (sK l x x):=by
 unfold xW
 have h1:dO (l.take (x+1))=dO (l.take x)++[sK l x x]:=by
  rw [VO hx];unfold dO;rw [rE,List.map_append,Ia (by omega)];rfl
 have h2:List.replicate (l.length-x) false=false :: List.replicate (l.length-(x+1)) false:=by
  rw [show l.length-x=(l.length-(x+1))+1 by omega];rfl
 have h3:(dO (l.take x)).length=x:=by rw [iU,List.length_take];omega
 rw [h1,h2,List.set_append_right _ _ (by omega),h3,Nat.sub_self];simp
theorem acr{l:List Ent}{x:Nat}(hx:x<l.length)(h:sK l x x=false):xW l (x+1)=xW l x:=by
 rw [IE hx,h];have h3:(dO (l.take x)).length=x:=by rw [iU,List.length_take];omega
 have h2:List.replicate (l.length-x) false=false :: List.replicate (l.length-(x+1)) false:=by
  rw [show l.length-x=(l.length-(x+1))+1 by omega];rfl
 unfold xW;rw [h2,List.set_append_right _ _ (by omega),h3,Nat.sub_self];simp
theorem adW{l:List Ent}{x k:Nat}(hx:x<l.length)(hk:k<x)(h:sK l x (k+1)=true):xW l (x+1)=(xW l x).set x true:=by
 rw [IE hx,Oq hx hk h]
structure EntR where
 kind:Int
 layer:ByteArray
 pts:List (Rq × Rq)
 rad:Rq
structure LayD where
 name:ByteArray
 kind:Int
 depth:Int
@[reducible] def Qz(r:Rq):List Cell:=[.v (.bool r.a),bG r.l,.v (.bool r.b),bG r.m]
@[reducible] def sV(p:Rq × Rq):List Cell:=[.v (.bool p.1.a),bG p.1.l,.v (.bool p.1.b),bG p.1.m,.v (.bool p.2.a),bG p.2.l,.v (.bool p.2.b),bG p.2.m]
@[reducible] def dh(e:EntR):List Cell:=[.v (.int .i64 e.kind),.v (.string e.layer),.sl 8 (e.pts.map sV),.v (.bool e.rad.a),bG e.rad.l,.v (.bool e.rad.b),bG e.rad.m]
@[reducible] def dw(l:LayD):List Cell:=[.v (.string l.name),.v (.int .i64 l.kind),.v (.int .i64 l.depth)]
def vR(r:Rq):Bool:=iZ r.a r.l r.b r.m
def qR(r:Rq):Rat:=((eF r.a (val r.l):Int):Rat) / ((eF r.b (val r.m):Int):Rat)
def Ih(r:Rq):Prop:=r.l.length≤6∧r.m.length≤6
theorem aa3(q:Rat):((q.num:Int):Rat) / ((q.den:Int):Rat)=q:=by
 have h:=Rat.num_divInt_den q
 rwa [Rat.divInt_eq_div] at h
theorem NV(q:Rat):qR (mP q)=q:=by
 unfold qR mP;simp only;rw [aC,zf,aC,zf,aa3]
theorem acX(q:Rat):vR (mP q)=true:=J7 q
theorem zK{r:Rq}(h:vR r=true):r=mP (qR r):=by
 obtain ⟨q,h1,h2,h3,h4⟩:=OE h;obtain ⟨a,l,b,m⟩:=r;simp only at h1 h2 h3 h4;subst h1 h2 h3 h4;exact (congrArg mP (NV q)).symm
theorem Fb{q:Rat}(h:Ih (mP q)):rz q≤12:=by
 obtain ⟨h1,h2⟩:=h;have h1':(lim q.num.natAbs).length≤6:=h1;have h2':(lim (q.den:Int).natAbs).length≤6:=h2;unfold rz sz;omega
@[reducible] def F6:Rat:=((1:Int):Rat) / ((1000:Int):Rat)
def exN(a:Rat):Option Nat:=(List.range 31).find? λn=>decide (10 ^ n % a.den=0)
def JC(q:Rat):Bool:=decide (¬((10000000:Int):Rat)<q) && (decide (¬q < -((10000000:Int):Rat)) && (exN (q*F6)).isSome)
def jI(r:Rq):Bool:=vR r && JC (qR r)
theorem yO(q:Rat):jI (mP q)=JC q:=by unfold jI;rw [acX,NV];rfl
def oq(e:EntR):Bool:=decide (e.kind=1∧e.pts.length=2∨e.kind=2∧e.pts.length=3∨e.kind=3∧e.pts.length=1) && (e.pts.all (λp=>jI p.1 && jI p.2) && (decide (¬e.kind=3) || (jI e.rad && decide (0<qR e.rad))))
def sN(e:EntR):Prop:=(∀p∈e.pts,Ih p.1∧Ih p.2)∧Ih e.rad∧e.pts.length≤5∧e.layer.size≤60
def ltr(c:Nat):Bool:=decide (97≤c∧c≤122) || decide (65≤c∧c≤90)
def dgB(c:Nat):Bool:=decide (48≤c∧c≤57)
def Xy(c:Nat):Bool:=ltr c || (dgB c || (decide (c=95) || decide (c=45)))
def rnN(s:ByteArray):Nat:=((wF s).takeWhile Xy).length
def PN(s:ByteArray):Bool:=decide (0<s.size) && (decide (s.size≤24) && (ltr ((wF s).getD 0 0) && decide (rnN s=s.size)))
theorem Y4(p:Nat→Bool):∀(l:List Nat) (x:Nat),x≤l.length→(∀j<x,p (l.getD j 0)=true)→(x<l.length→p (l.getD x 0)=false)→(l.takeWhile p).length=x
 |[],x,h,_,_=>by simp at h;subst h;rfl
 |c :: r,0,_,_,h2=>by
  have:=h2 (by simp);simp only [List.getD_cons_zero] at this;simp [List.takeWhile_cons,this]
 |c :: r,x+1,h,h1,h2=>by
  have h3:=h1 0 (by omega);simp only [List.getD_cons_zero] at h3;rw [List.takeWhile_cons,if_pos h3,List.length_cons];rw [Y4 p r x (by simpa using h) (λj hj=>by simpa using h1 (j+1) (by omega)) (λhx=>by simpa using h2 (by simpa using hx))]
theorem abb{s:ByteArray}{x:Nat}(h:x≤s.size)(h1:∀j<x,Xy ((wF s).getD j 0)=true)(h2:x<s.size→Xy ((wF s).getD x 0)=false):rnN s=x :=
 Y4 Xy (wF s) x (by rw [uZ];exact h) h1 (λhx=>h2 (by rwa [uZ] at hx))
theorem Vb{s:ByteArray}(h:(!(s.toList == (ByteArray.mk #[]).toList))=true):0<s.size:=by
 rw [LH] at h;have h1:¬wF s=wF (ByteArray.mk #[]):=by simpa using h
 refine Decidable.byContradiction λhn=>h1 ?_
 have:(wF s).length=0:=by rw [uZ];omega
 rw [List.eq_nil_of_length_eq_zero this];rfl
theorem Vz{s:ByteArray}(h:(!(s.toList == (ByteArray.mk #[]).toList))=false):s.size=0:=by
 rw [LH] at h;have h1:wF s=wF (ByteArray.mk #[]):=by simpa using h
 rw [← uZ,h1];rfl
theorem ZX{s:ByteArray}(h:s.size=0∨¬s.size≤24∨ltr ((wF s).getD 0 0)=false):PN s=false:=by
 unfold PN;rcases h with h|h|h
 ·rw [h];rfl
 ·rw [decide_eq_false h];simp
 ·rw [h];simp
theorem aaN{s:ByteArray}(h1:0<s.size)(h2:s.size≤24)(h3:ltr ((wF s).getD 0 0)=true):PN s=decide (rnN s=s.size):=by
 unfold PN;rw [decide_eq_true h1,decide_eq_true h2,h3];simp
def TY(l:LayD):Bool:=PN l.name && decide (((l.kind=1∨l.kind=3)∧1≤l.depth∧l.depth≤10000000)∨((l.kind=2∨l.kind=4)∧l.depth=0))
def Ky{α:Type}(n:Nat)(f:Nat→Option α):Option α:=(List.range n).findSome? f
theorem rW{α:Type}{n:Nat}{f:Nat→Option α}(h:∀j<n,f j=none):Ky n f=none:=by
 unfold Ky;rw [List.findSome?_eq_none_iff];intro x hx;exact h x (by simpa using hx)
theorem uT{α:Type}{f:Nat→Option α}{x:Nat}{r:α}:∀{n:Nat},x<n→(∀j<x,f j=none)→f x=some r→Ky n f=some r
 |0,hx,_,_=>by omega
 |n+1,hx,h,hr=>by
  unfold Ky;rw [List.range_succ,List.findSome?_append];rcases Nat.lt_or_ge x n with h1|h1
  ·have:=uT (n:=n) h1 h hr;unfold Ky at this;rw [this];rfl
  ·have:x=n:=by omega
   subst this;have h2:=rW h;unfold Ky at h2;rw [h2,List.findSome?_cons,hr];rfl
theorem gY{p:Nat→Prop}{x:Nat}(h:∀j<x,p j)(h1:p x):∀j<x+1,p j:=λj hj=>by
 rcases Nat.lt_or_ge j x with g|g
 ·exact h j g
 ·have:j=x:=by omega
  subst this;exact h1
def L0:LayD:=⟨⟨#[]⟩,0,0⟩
def uz:EntR:=⟨0,⟨#[]⟩,[],⟨false,[],false,[]⟩⟩
def uw(ls:List LayD)(s:ByteArray):Int:=match Ky ls.length (λi=>if eqS (ls.getD i L0).name s=true then some i else none) with
 |some i=>((i:Nat):Int)
 |none=>-1
theorem EL{ls:List LayD}{s:ByteArray}{x:Nat}(hx:x<ls.length)(h:∀j<x,eqS (ls.getD j L0).name s=false)(h1:eqS (ls.getD x L0).name s=true):uw ls s=(x:Nat):=by
 unfold uw;rw [uT (x:=x) (r:=x) hx (λj hj=>by rw [h j hj];rfl) (by rw [h1];rfl)]
theorem abq{ls:List LayD}{s:ByteArray}(h:∀j<ls.length,eqS (ls.getD j L0).name s=false):uw ls s = -1:=by
 unfold uw;rw [rW (λj hj=>by rw [h j hj];rfl)]
theorem Dv(ls:List LayD)(s:ByteArray):∀n≤ls.length,(∀j<n,eqS (ls.getD j L0).name s=false)∨∃x<n,(∀j<x,eqS (ls.getD j L0).name s=false)∧eqS (ls.getD x L0).name s=true
 |0,_ => .inl λj hj=>absurd hj (Nat.not_lt_zero _)
 |n+1,h=>by
  rcases Dv ls s n (by omega) with g|⟨x,g1,g2,g3⟩
  ·cases e:eqS (ls.getD n L0).name s with
   |false=>exact .inl (gY g e)
   |true=>exact .inr ⟨n,by omega,g,e⟩
  ·exact .inr ⟨x,by omega,g2,g3⟩
def wY(ls:List LayD)(i:Nat):Option Int:=if TY (ls.getD i L0)=false then some 1 else if uw ls (ls.getD i L0).name<i then some 5 else none
def tu(ls:List LayD):Int:=if TY (ls.getD (ls.length-1) L0)=false then 1 else if uw ls (ls.getD (ls.length-1) L0).name<((ls.length-1:Nat):Int) then 5 else 0
theorem getD_take'{α:Type}{l:List α}{d:α}{i n:Nat}(h:i<n):(l.take n).getD i d=l.getD i d:=by
 simp [List.getD_eq_getElem?_getD,h,List.getElem?_take]
theorem Qi{ls:List LayD}{i:Nat}(h:i<ls.length):uw (ls.take (i+1)) (ls.getD i L0).name=uw ls (ls.getD i L0).name:=by
 have hl:(ls.take (i+1)).length=i+1:=by simp;omega
 have hself:eqS (ls.getD i L0).name (ls.getD i L0).name=true:=by unfold eqS;simp
 rcases Dv ls (ls.getD i L0).name (i+1) (by omega) with g|⟨x,g1,g2,g3⟩
 ·have:=g i (by omega);rw [hself] at this;cases this
 ·rw [EL (x:=x) (by omega) g2 g3];exact EL (by omega) (λj hj=>by rw [getD_take' (by omega)];exact g2 j hj) (by rw [getD_take' g1];exact g3)
theorem KX{ls:List LayD}{i:Nat}(h:i<ls.length):tu (ls.take (i+1))=(wY ls i).getD 0:=by
 have hl:(ls.take (i+1)).length=i+1:=by simp;omega
 unfold tu wY;rw [hl,show i+1-1=i by omega,getD_take' (by omega),Qi h];split
 ·rfl
 ·split<;>rfl
def uI(ls:List LayD)(es:List EntR)(i:Nat):Option Int:=if uw ls (es.getD i uz).layer<0 then some 4 else if oq (es.getD i uz)=false then some 1 else none
def je(ls:List LayD)(es:List EntR):Int :=
 if 20<ls.length∨200<es.length then 3
 else match Ky ls.length (wY ls) with
  |some r=>r
  |none=>match Ky es.length (uI ls es) with
   |some r=>r
   |none=>0
theorem Yg{ls:List LayD}{es:List EntR}(h:20<ls.length∨200<es.length):je ls es=3:=by unfold je;rw [if_pos h]
theorem Xq{ls:List LayD}{es:List EntR}{x:Nat}{r:Int}(h:¬(20<ls.length∨200<es.length))(hx:x<ls.length)(h1:∀j<x,wY ls j=none)(h2:wY ls x=some r):je ls es=r:=by
 unfold je;rw [if_neg h,uT hx h1 h2]
theorem WZ{ls:List LayD}{es:List EntR}{x:Nat}{r:Int}(h:¬(20<ls.length∨200<es.length))(h0:∀j<ls.length,wY ls j=none)(hx:x<es.length)(h1:∀j<x,uI ls es j=none)(h2:uI ls es x=some r):je ls es=r:=by
 unfold je;rw [if_neg h,rW h0];simp only;rw [uT hx h1 h2]
theorem Ve{ls:List LayD}{es:List EntR}(h:¬(20<ls.length∨200<es.length))(h0:∀j<ls.length,wY ls j=none)(h1:∀j<es.length,uI ls es j=none):je ls es=0:=by
 unfold je;rw [if_neg h,rW h0];simp only;rw [rW h1]
def okV(e:Ent):Prop:=(e.kind=1∧e.pts.length=2∨e.kind=2∧e.pts.length=3∨e.kind=3∧e.pts.length=1∧∃q:Rat,0<q∧rz q≤12∧e.rad=mP q)∧Yp e
@[reducible] def fQ(e:Ent):EntR:=⟨e.kind,e.layer,e.pts.map λp=>(mP p.1,mP p.2),e.rad⟩
theorem aac(e:Ent):dh (fQ e)=cO e:=by
 unfold dh fQ cO;simp only [List.map_map];rfl
theorem Wj{e:EntR}(hs:sN e)(h:oq e=true):∃x:Ent,e=fQ x∧okV x:=by
 obtain ⟨kd,ly,pts,rd⟩:=e;obtain ⟨s1,s2,s3,s4⟩:=hs;unfold oq at h;simp only [Bool.and_eq_true,decide_eq_true_eq,List.all_eq_true] at h;obtain ⟨h1,h2,h3⟩:=h;simp only at s1 s2 s3 s4 h1 h2 h3
 have hp:∀p∈pts,p=(mP (qR p.1),mP (qR p.2)):=λp hp=>by
  obtain ⟨a1,a2⟩:=h2 p hp;unfold jI at a1 a2;rw [Bool.and_eq_true] at a1 a2;exact Prod.ext (zK a1.1) (zK a2.1)
 have he:(pts.map λp=>(qR p.1,qR p.2)).map (λp:P2=>(mP p.1,mP p.2))=pts:=by
  rw [List.map_map];exact (List.map_congr_left (λp hp'=>(hp p hp').symm)).trans (List.map_id pts)
 refine ⟨⟨kd,ly,pts.map λp=>(qR p.1,qR p.2),rd⟩, ?_, ?_, ?_, ?_, ?_⟩
 ·unfold fQ;simp only;rw [he]
 ·simp only [List.length_map];rcases h1 with g|g|g
  ·exact .inl g
  ·exact .inr (.inl g)
  ·refine .inr (.inr ⟨g.1,g.2,qR rd, ?_⟩);rcases Bool.or_eq_true_iff.1 h3 with f|f
   ·rw [decide_eq_true_eq] at f;exact absurd g.1 f
   ·rw [Bool.and_eq_true,decide_eq_true_eq] at f;have f1:=f.1;unfold jI at f1;rw [Bool.and_eq_true] at f1;have e1:=zK f1.1;exact ⟨f.2,Fb (e1 ▸ s2),e1⟩
 ·intro p hp';obtain ⟨u,hu,rfl⟩:=List.mem_map.1 hp';have e1:=hp u hu;have e2:=s1 u hu;exact ⟨Fb (by have:=e2.1;rw [e1] at this;exact this),Fb (by have:=e2.2;rw [e1] at this;exact this)⟩
 ·show ly.size≤1000;omega
 ·simp only [List.length_map];omega
theorem J5{α:Type}{n:Nat}{f:Nat→Option α}(h:Ky n f=none):∀j<n,f j=none:=by
 unfold Ky at h;rw [List.findSome?_eq_none_iff] at h;exact λj hj=>h j (by simpa using hj)
theorem JK{α:Type}{n:Nat}{f:Nat→Option α}{r:α}(h:Ky n f=some r):∃j<n,f j=some r:=by
 unfold Ky at h;obtain ⟨j,h1,h2⟩:=List.exists_of_findSome?_eq_some h;exact ⟨j,by simpa using h1,h2⟩
theorem YW{ls:List LayD}{es:List EntR}(h:je ls es=0):ls.length≤20∧es.length≤200∧(∀j<ls.length,wY ls j=none)∧∀j<es.length,uI ls es j=none:=by
 unfold je at h;split at h
 ·cases h
 ·rename_i g;split at h
  ·rename_i r e;obtain ⟨j,_,h2⟩:=JK e;subst h;unfold wY at h2;split at h2
   ·cases h2
   ·split at h2<;>cases h2
  ·rename_i e;split at h
   ·rename_i r e';obtain ⟨j,_,h2⟩:=JK e';subst h;unfold uI at h2;split at h2
    ·cases h2
    ·split at h2<;>cases h2
   ·rename_i e';exact ⟨by omega,by omega,J5 e,J5 e'⟩
theorem TJ{ls:List LayD}{es:List EntR}(hs:∀e∈es,sN e)(h:je ls es=0):∃xs:List Ent,es=xs.map fQ∧∀x∈xs,okV x:=by
 have h4:=(YW h).2.2.2
 have key:∀e∈es,∃x:Ent,e=fQ x∧okV x:=λe he=>by
  obtain ⟨j,hj,rfl⟩:=List.getElem_of_mem he;refine Wj (hs _ he) ?_;have h5:=h4 j hj;unfold uI at h5;have e1:es.getD j uz=es[j]:=by simp [List.getD_eq_getElem?_getD,hj]
  rw [e1] at h5;split at h5
  ·cases h5
  ·split at h5
   ·cases h5
   ·rename_i g;simpa using g
 clear h h4 hs;induction es with
 |nil=>exact ⟨[],rfl,λx hx=>by simp at hx⟩
 |cons e r ih =>
  obtain ⟨x,h1,h2⟩:=key e (by simp);obtain ⟨xs,h3,h4⟩:=ih (λe he=>key e (by simp [he]));refine ⟨x :: xs,by rw [List.map_cons,← h1,← h3],λy hy=>?_⟩;rcases List.mem_cons.1 hy with rfl|hy
  ·exact h2
  ·exact h4 y hy
theorem KJ{sq:Rat}{es:List Ent}{e:Ent}(h:e∈(cZ sq 0 [] es).es):∀v∈bI e,v∈aP (cZ sq 0 [] es).sp e.layer:=by
 have hj:=vX sq 0 [] es;obtain ⟨j,hj1,rfl⟩:=List.getElem_of_mem h;have hl:=hj.len;obtain ⟨ws,h1,h2,h3⟩:=hj.ent j (es[j]'(by omega)) _ (List.getElem?_eq_getElem _) (List.getElem?_eq_getElem hj1);rw [h2];have h4:=pV h1;rw [h4.1,h4.2.1];exact h3
theorem zip_fst{l:List Ent}{x:Ent × Nat}(h:x∈l.zipIdx):x.1∈l:=by
 have:=List.mem_map_of_mem (f:=(·.1)) h;simpa using this
theorem A8{l:List (Ent × Nat)}{x:Ent × Nat}(h:x∈pY l):x∈l:=by
 unfold pY at h;obtain ⟨y,h1,rfl⟩:=List.mem_map.1 h;have h2:=(List.mem_filter.1 h1).1;exact (List.of_mem_zip h2).1
theorem Gm{α β:Type}:∀{l:List α} {m:List β} {a:α} {b:β},l.length=m.length→(l++[a]).zip (m++[b])=l.zip m++[(a,b)]
 |[],[],a,b,_=>rfl
 |x :: l,y :: m,a,b,h=>by
  rw [List.cons_append,List.cons_append,List.zip_cons_cons,Gm (by simpa using h)];rfl
theorem C9(l:List (Ent × Nat))(x:Ent × Nat):pY (l++[x])=pY l++(if (l.any λf=>dK f.1 x.1)=true then [] else [x]):=by
 unfold pY
 have e1:dO ((l++[x]).map (·.1))=dO (l.map (·.1))++[l.any λf=>dK f.1 x.1]:=by
  rw [List.map_append,List.map_cons,List.map_nil,Ae,List.any_map];rfl
 rw [e1,Gm (by rw [iU,List.length_map]),List.filter_append,List.map_append];congr 1;cases (l.any λf=>dK f.1 x.1)<;>simp
theorem Xj(l:List (Ent × Nat)):(pY l).Pairwise λa b=>dK a.1 b.1=false:=by
 induction l using vG with
 |h0=>exact List.Pairwise.nil
 |h1 l x ih =>
  rw [C9];split
  ·simpa using ih
  ·rename_i g;refine List.pairwise_append.2 ⟨ih,List.pairwise_singleton _ _,λa ha b hb=>?_⟩;simp at hb;subst hb;cases e:dK a.1 b.1 with
   |false=>rfl
   |true=>exact absurd (List.any_eq_true.2 ⟨a,A8 ha,e⟩) g
theorem Tf(l:List (Ent × Nat)):l.Pairwise (λa b=>dK a.1 b.1=false)→pY l=l∧∀b∈dO (l.map (·.1)),b=false:=by
 induction l using vG with
 |h0=>intro _;exact ⟨rfl,λb hb=>by simp [dO,qx] at hb⟩
 |h1 l x ih =>
  intro h;obtain ⟨h1,_,h3⟩:=List.pairwise_append.1 h;obtain ⟨g1,g2⟩:=ih h1
  have g:(l.any λf=>dK f.1 x.1)=false:=by
   rw [List.any_eq_false];intro f hf;rw [h3 f hf x (by simp)];decide
  refine ⟨by rw [C9,g1,g];rfl,λb hb=>?_⟩;rw [List.map_append,List.map_cons,List.map_nil,Ae,List.any_map] at hb;rcases List.mem_append.1 hb with hb|hb
  ·exact g2 b hb
  ·simp at hb;rw [hb];have:=g;simpa using this
theorem QJ{l:List (Ent × Nat)}(h:∀b∈dO (l.map (·.1)),b=false):Tn l=[]:=by
 unfold Tn;rw [List.map_eq_nil_iff,List.filter_eq_nil_iff];intro x hx;have:=h x.2 (List.of_mem_zip hx).2;rw [this];decide
theorem PU{l:List (Ent × Nat)}:∀c∈Dh l,c.kind=4:=by
 intro c hc;unfold Dh at hc;obtain ⟨i,_,h⟩:=List.mem_flatMap.1 hc;unfold opn at h;split at h
 ·cases h
 ·split at h
  ·rcases List.mem_append.1 h with h|h<;>(unfold wH at h;split at h<;>simp at h;subst h;rfl)
  ·cases h
theorem aam{α β:Type}{f:α→β}{r:β→β→Prop}{l:List α}(h:l.Pairwise λa b=>r (f a) (f b)):(l.map f).Pairwise r:=List.pairwise_map.2 h
theorem Ti(sq:Rat)(es:List Ent):∀e∈(aN sq es).es,e∈(cZ sq 0 [] es).es∧jX e=0:=by
 intro e he;unfold aN at he;simp only at he;obtain ⟨x,hx,rfl⟩:=List.mem_map.1 he;have h1:=A8 hx;unfold nZ at h1;obtain ⟨h2,h3⟩:=List.mem_filter.1 h1;exact ⟨zip_fst h2,by simpa using h3⟩
theorem aay{l:List Ent}{r:Ent→Ent→Prop}(h:l.Pairwise r):l.zipIdx.Pairwise λa b=>r a.1 b.1:=by
 have:(l.zipIdx.map (·.1)).Pairwise r:=by simpa using h
 exact List.pairwise_map.1 this
theorem Zp(l:List Ent):l.zipIdx.map (·.1)=l:=by simp
theorem PS(sq:Rat)(es:List Ent):(aN sq (aN sq es).es).es=(aN sq es).es∧∀c∈(aN sq (aN sq es).es).cs,c.kind=4:=by
 have hre:=Ti sq es
 have hpw:(aN sq es).es.Pairwise λa b=>dK a b=false:=by
  unfold aN;simp only;exact aam (Xj _)
 generalize (aN sq es).es=rs at hre hpw ⊢;have hR:ApS sq (cZ sq 0 [] es).sp:=Gi (λs=>by simp [aP]);obtain ⟨j1,j2⟩:=yB hR (i:=0) (sp:=[]) (l:=rs) (λs w hw=>by simp [aP] at hw) (λe he v hv=>KJ (hre e he).1 v hv)
 have hk:nZ rs.zipIdx=rs.zipIdx:=by
  unfold nZ;rw [List.filter_eq_self];intro x hx;rw [(hre x.1 (zip_fst hx)).2];rfl
 have hlo:ou rs.zipIdx=[]:=by
  unfold ou;rw [List.map_eq_nil_iff,List.filter_eq_nil_iff];intro x hx;rw [(hre x.1 (zip_fst hx)).2];decide
 obtain ⟨l1,l2⟩:=Tf rs.zipIdx (aay hpw);unfold aN;simp only;rw [j1,j2,hk,l1,hlo,QJ l2,Zp];refine ⟨rfl,λc hc=>?_⟩;simp only [List.nil_append] at hc;exact PU c hc
theorem XE{sq:Rat}{es:List Ent}{q:P2→Prop}(hq:∀e∈es,∀p∈e.pts,q p){e':Ent}(h:e'∈(aN sq es).es):∃e∈es,e'.layer=e.layer∧e'.kind=e.kind∧e'.pts.length=e.pts.length∧e'.rad=e.rad∧∀p∈e'.pts,q p:=by
 have h1:=(Ti sq es e' h).1;have hj:=vX sq 0 [] es;have h2:=(Ig (sq:=sq) hq es.length (Nat.le_refl _)).2.1;rw [zI] at h2;obtain ⟨j,hj1,hj2⟩:=List.getElem_of_mem h1;have hl:=hj.len;obtain ⟨ws,g1,g2,g3⟩:=hj.ent j (es[j]'(by omega)) e' (List.getElem?_eq_getElem _) (by rw [List.getElem?_eq_getElem hj1,hj2]);obtain ⟨m1,m2,m3,m4,m5⟩:=pV g1;refine ⟨es[j]'(by omega),List.getElem_mem _, ?_, ?_, ?_, ?_,h2 e' h1⟩<;>rw [g2]<;>assumption
end Go.Sw
namespace Go.Sw
open Go Go.Lib
@[reducible] def p10(n:Nat):Int:=((10 ^ n:Nat):Int)
theorem GN(n:Nat):p10 n*10=p10 (n+1):=by unfold p10;rw [Nat.pow_succ];omega
theorem AA{n:Nat}(h:n≤31):sz (p10 n)≤4:=by
 show (lim (p10 n).natAbs).length≤4;refine iM ?_;have h1:10 ^ n≤10 ^ 31:=Nat.pow_le_pow_right (by decide) h;show (p10 n).natAbs<_;unfold p10;rw [Int.natAbs_natCast];have h2:(10:Nat) ^ 31<1000000000 ^ 4:=by decide +kernel
 omega
theorem UG{n:Nat}(h:n≤31):rz ((p10 n:Int):Rat)≤8:=by
 have h1:=pF (p10 n);have h2:=AA h;omega
@[reducible] def tmR(a:Rat)(n:Nat):Rat:=a*(((p10 n:Int):Rat) / ((1:Int):Rat))
def PW(k:Nat):ByteArray:=⟨(List.replicate k (48:UInt8)).toArray⟩
theorem CJ(k:Nat):(PW k).size=k:=by
 show (List.replicate k (48:UInt8)).toArray.size=k;simp
def Bo(n:Int):ByteArray:=if n<0 then (sQ n).extract 1 (sQ n).size else sQ n
def X6(n:Int):ByteArray:=if n<0 then ⟨#[45]⟩ else ⟨#[]⟩
def F5(n:Int)(k:Nat):ByteArray:=PW (k+1-(Bo n).size)++Bo n
def YD(n:Int)(k:Nat):ByteArray:=if k=0 then X6 n++Bo n else X6 n++(F5 n k).extract 0 ((F5 n k).size-k)++⟨#[46]⟩++(F5 n k).extract ((F5 n k).size-k) (F5 n k).size
def exS(a:Rat):ByteArray:=match exN a with
 |some n=>YD (tmR a n).num n
 |none=>⟨#[]⟩
theorem aaK{a:Rat}{x:Nat}(hx:x≤30)(h:∀j<x,¬10 ^ j % a.den=0)(h1:10 ^ x % a.den=0):exN a=some x:=by
 unfold exN;rw [List.find?_range_eq_some];refine ⟨by simpa using h1,by simp;omega,λj hj=>by simpa using h j hj⟩
theorem adS{a:Rat}(h:∀j<31,¬10 ^ j % a.den=0):exN a=none:=by
 unfold exN;rw [List.find?_range_eq_none];intro j hj;simpa using h j hj
theorem P5(n:Int):1≤(sQ n).size:=by
 rw [Dx];have:=nDigits_pos n.natAbs;split<;>omega
theorem UA{n:Nat}(h:n≤31):rz (((p10 n:Int):Rat) / ((1:Int):Rat))≤8:=by
 have e:((p10 n:Int):Rat) / ((1:Int):Rat)=((p10 n:Int):Rat):=by
  have:((1:Int):Rat)=1:=rfl;rw [this];generalize ((p10 n:Int):Rat)=K
  grind
 rw [e];exact UG h
theorem Kr{n:Int}(h:sz n≤50):(Bo n).size≤460:=by
 have:=Ya h (by decide);unfold Bo;split
 ·rw [ByteArray.size_extract];omega
 ·omega
theorem QE{n:Int}{k:Nat}(h:sz n≤50)(hk:k≤30):(F5 n k).size≤500∧k+1≤(F5 n k).size:=by
 have:=Kr h;unfold F5;rw [ByteArray.size_append,CJ];omega
theorem aai{n:Int}{k:Nat}(h:sz n≤50)(hk:k≤30):(YD n k).size≤1000:=by
 have h1:=QE h hk;have h2:=Kr h;have h3:(X6 n).size≤1:=by unfold X6;split<;>decide
 have h4:(⟨#[46]⟩:ByteArray).size=1:=rfl;unfold YD;split
 ·rw [ByteArray.size_append];omega
 ·rw [ByteArray.size_append,ByteArray.size_append,ByteArray.size_append,ByteArray.size_extract,ByteArray.size_extract,h4];omega
theorem ado{n:Int}{k:Nat}(h:(Bo n).size≤k):PW ((k:Int)+1-((Bo n).size:Int)).toNat++Bo n=F5 n k:=by
 have:((k:Int)+1-((Bo n).size:Int)).toNat=k+1-(Bo n).size:=by omega
 rw [this];rfl
theorem ab7{n:Int}{k:Nat}(h:¬(Bo n).size≤k):F5 n k=Bo n:=by
 unfold F5;rw [show k+1-(Bo n).size=0 by omega,ByteArray.ext_iff,ByteArray.data_append];simp [PW]
theorem adb{n:Int}{k:Nat}(h:k=0):YD n k=X6 n++Bo n:=by unfold YD;rw [if_pos h]
theorem YB{n:Int}{k:Nat}(h:¬k=0):YD n k=X6 n++(F5 n k).extract 0 ((F5 n k).size-k)++⟨#[46]⟩++(F5 n k).extract ((F5 n k).size-k) (F5 n k).size:=by unfold YD;rw [if_neg h]
theorem Qp{a:Rat}{x:Nat}(h:rz a≤20)(hx:x≤30):sz (tmR a x).num≤50:=by
 have z1:=lK (tmR a x);have z2:=ny a (((p10 x:Int):Rat) / ((1:Int):Rat));have z3:=UA (n:=x) (by omega);unfold tmR at *;omega
theorem acO{n:Int}(h:n<0):(sQ n).extract (Int.toNat 1) (sQ n).size=Bo n:=by unfold Bo;rw [if_pos h];rfl
theorem ab2{n:Int}(h:¬n<0):sQ n=Bo n:=by unfold Bo;rw [if_neg h]
end Go.Sw
namespace Go.Sw
open Go
@[reducible] def pE(u v:P2):Bool:=decide (u.1=v.1) && decide (u.2=v.2)
theorem qg{u v:P2}:pE u v=decide (u=v):=Rf
theorem VA{p q:Rat}:mP p=mP q↔p=q:=⟨λh=>by have:=congrArg qR h;rwa [NV,NV] at this,λh=>h ▸ rfl⟩
theorem TV{l1 l2:ByteArray}{a b c d:P2}{r1 r2:Rq}:dK ⟨1,l1,[a,b],r1⟩ ⟨1,l2,[c,d],r2⟩=((l1.toList == l2.toList) && ((pE a c && pE b d) || (pE a d && pE b c))):=by
 rw [qg,qg,qg,qg];unfold dK eqS tH;simp [Bool.decide_or,Bool.decide_and]
theorem Um{l1 l2:ByteArray}{a m b c n d:P2}{r1 r2:Rq}:dK ⟨2,l1,[a,m,b],r1⟩ ⟨2,l2,[c,n,d],r2⟩=((l1.toList == l2.toList) && (((pE a c && pE b d) || (pE a d && pE b c)) && (if (decide (jG a m b=0) || decide (jG c n d=0))=true then decide (jG a m b=0) && (decide (jG c n d=0) && pE m n) else EI c n d m && EI a m b n))):=by
 rw [qg,qg,qg,qg,qg];unfold dK eqS tH;simp [Bool.decide_or,Bool.decide_and,Zv,Bool.and_assoc]
theorem U9{l1 l2:ByteArray}{a c:P2}{q1 q2:Rat}:dK ⟨3,l1,[a],mP q1⟩ ⟨3,l2,[c],mP q2⟩=((l1.toList == l2.toList) && (pE a c && decide (q1=q2))):=by
 rw [qg];have:decide (mP q1=mP q2)=decide (q1=q2):=decide_eq_decide.2 VA;rw [← this];show ((l1.toList == l2.toList) && decide ((3:Int)=3) && (decide (a=c) && decide (mP q1=mP q2)))=_;rw [decide_eq_true (show (3:Int)=3 from rfl),Bool.and_true]
theorem rQ{e f:Ent}(h:¬e.kind=f.kind):dK e f=false:=by
 unfold dK;simp [h]
theorem wO{e:Ent}(h:okV e):(∃l a b r,e=⟨1,l,[a,b],r⟩∧dn a∧dn b∧l.size≤1000)∨(∃l a m b r,e=⟨2,l,[a,m,b],r⟩∧dn a∧dn m∧dn b∧l.size≤1000)∨(∃l a q,e=⟨3,l,[a],mP q⟩∧dn a∧0<q∧rz q≤12∧l.size≤1000):=by
 obtain ⟨kd,ly,pts,rd⟩:=e;obtain ⟨h1,h2,h3,h4⟩:=h;simp only at h1 h2 h3 h4;rcases h1 with ⟨rfl,g⟩|⟨rfl,g⟩|⟨rfl,g,q,q1,q2,rfl⟩
 ·match pts,g,h2 with
  |[a,b],_,h2=>exact .inl ⟨ly,a,b,rd,rfl,h2 a (by simp),h2 b (by simp),h3⟩
 ·match pts,g,h2 with
  |[a,m,b],_,h2=>exact .inr (.inl ⟨ly,a,m,b,rd,rfl,h2 a (by simp),h2 m (by simp),h2 b (by simp),h3⟩)
 ·match pts,g,h2 with
  |[a],_,h2=>exact .inr (.inr ⟨ly,a,q,rfl,h2 a (by simp),q1,q2,h3⟩)
theorem Pg{e:Ent}{l:List P2}(h:okV e)(hl:l.length=(bI e).length)(hp:∀p∈l,dn p):okV (gJ e l):=by
 obtain ⟨m1,m2,m3,m4,m5⟩:=pV hl;obtain ⟨h1,h2,h3,h4⟩:=h;refine ⟨?_,zS h2 hp,by rw [m2];exact h3,by rw [m4];exact h4⟩;rw [m3,m4,m5];exact h1
theorem aaq{sq:Rat}{es:List Ent}(h:∀e∈es,okV e):∀e∈(cZ sq 0 [] es).es,okV e:=by
 intro e he;have hj:=vX sq 0 [] es;have h2:=(Ig (q:=dn) (sq:=sq) (λe he=>(h e he).2.1) es.length (Nat.le_refl _)).1;rw [zI] at h2;obtain ⟨j,hj1,rfl⟩:=List.getElem_of_mem he;have hl:=hj.len;obtain ⟨ws,g1,g2,g3⟩:=hj.ent j (es[j]'(by omega)) _ (List.getElem?_eq_getElem _) (List.getElem?_eq_getElem hj1);rw [g2];refine Pg (h _ (List.getElem_mem _)) g1 λp hp=>?_
 obtain ⟨q,q1,rfl⟩:=qI (g3 p hp);exact h2 q q1
theorem EM{l:List (Ent × Nat)}(h:∀x∈l,okV x.1){x:Nat}(hx:x<l.length):okV (l.getD x N0).1:=by
 have:l.getD x N0=l[x]:=by simp [List.getD_eq_getElem?_getD,hx]
 rw [this];exact h _ (List.getElem_mem hx)
theorem D9{l:List (Ent × Nat)}{x:Nat}(h:x<l.length):l.take (x+1)=l.take x++[l.getD x N0]:=by
 rw [List.take_succ,List.getElem?_eq_getElem h];simp [List.getD_eq_getElem?_getD,h]
def Qe(l:List (Ent × Nat))(x:Nat):List (Ent × Nat):=nZ (l.take x)
def Qg(l:List (Ent × Nat))(x:Nat):List Chn:=ou (l.take x)
theorem NZ(l:List (Ent × Nat)):Qe l l.length=nZ l:=by unfold Qe;rw [List.take_length]
theorem LQ(l:List (Ent × Nat)):Qg l l.length=ou l:=by unfold Qg;rw [List.take_length]
theorem YZ{l:List (Ent × Nat)}{x:Nat}(h:x<l.length)(hf:jX (l.getD x N0).1=0):Qe l (x+1)=Qe l x++[l.getD x N0]∧Qg l (x+1)=Qg l x:=by
 unfold Qe Qg nZ ou;rw [D9 h,List.filter_append,List.filter_append];simp only [List.filter_cons,List.filter_nil,hf];simp
theorem TB{l:List (Ent × Nat)}{x k:Nat}(h:x<l.length)(hf:jX (l.getD x N0).1=k+1):Qe l (x+1)=Qe l x∧Qg l (x+1)=Qg l x++[⟨k+1,(l.getD x N0).2,0,none,none⟩]:=by
 unfold Qe Qg nZ ou;rw [D9 h,List.filter_append,List.filter_append];generalize l.getD x N0=y at *;simp only [List.filter_cons,List.filter_nil,hf];simp [hf]
theorem Fh(l:List (Ent × Nat))(x:Nat):(Qe l x).length≤l.length∧(Qg l x).length≤l.length:=by
 unfold Qe Qg nZ ou;have h1:=List.length_filter_le (λx:Ent × Nat=>jX x.1 == 0) (l.take x);have h2:=List.length_filter_le (λx:Ent × Nat=>!(jX x.1 == 0)) (l.take x);rw [List.length_take] at h1 h2;rw [List.length_map];omega
theorem Wu{e:Ent}{a b:P2}(hE:bI e=[a,b])(h:pE a b=true):jX e=2:=by
 rw [qg,decide_eq_true_eq] at h;unfold jX;rw [hE];simp [h]
theorem NT{e:Ent}{a b:P2}(hE:bI e=[a,b])(h:pE a b=false):jX e=if e.kind=2∧BO e=true then 5 else 0:=by
 rw [qg,decide_eq_false_iff_not] at h;unfold jX;rw [hE];simp [h]
theorem Nk{e:Ent}(hE:bI e=[]):jX e=if e.kind=2∧BO e=true then 5 else 0:=by
 unfold jX;rw [hE]
def Ji(l:List (Ent × Nat))(x:Nat):List (Ent × Nat):=(((l.zip (dO (l.map (·.1)))).take x).filter λp=>!p.2).map (·.1)
def P8(l:List (Ent × Nat))(x:Nat):List Chn:=(((l.zip (dO (l.map (·.1)))).take x).filter λp=>p.2).map λx=>⟨3,x.1.2,0,none,none⟩
theorem vk(l:List (Ent × Nat)):(l.zip (dO (l.map (·.1)))).length=l.length:=by rw [List.length_zip,iU,List.length_map,Nat.min_self]
theorem D7(l:List (Ent × Nat)):Ji l l.length=pY l:=by
 unfold Ji pY;rw [List.take_of_length_le (by rw [vk];exact Nat.le_refl _)]
theorem WM(l:List (Ent × Nat)):P8 l l.length=Tn l:=by
 unfold P8 Tn;rw [List.take_of_length_le (by rw [vk];exact Nat.le_refl _)]
theorem Dz{l:List (Ent × Nat)}{x:Nat}(h:x<l.length):(l.zip (dO (l.map (·.1)))).take (x+1)=(l.zip (dO (l.map (·.1)))).take x++[(l.getD x N0,(dO (l.map (·.1))).getD x false)]:=by
 have h1:x<(l.zip (dO (l.map (·.1)))).length:=by rw [vk];exact h
 have h2:x<(dO (l.map (·.1))).length:=by rw [iU,List.length_map];exact h
 rw [List.take_succ,List.getElem?_eq_getElem h1,List.getElem_zip];simp [List.getD_eq_getElem?_getD,h,h2]
theorem adB{l:List (Ent × Nat)}{x:Nat}(h:x<l.length)(hb:(dO (l.map (·.1))).getD x false=true):Ji l (x+1)=Ji l x∧P8 l (x+1)=P8 l x++[⟨3,(l.getD x N0).2,0,none,none⟩]:=by
 unfold Ji P8;rw [Dz h,hb,List.filter_append,List.filter_append];simp
theorem abX{l:List (Ent × Nat)}{x:Nat}(h:x<l.length)(hb:(dO (l.map (·.1))).getD x false=false):Ji l (x+1)=Ji l x++[l.getD x N0]∧P8 l (x+1)=P8 l x:=by
 unfold Ji P8;rw [Dz h,hb,List.filter_append,List.filter_append];simp
theorem Ew(l:List (Ent × Nat))(x:Nat):(Ji l x).length≤l.length∧(P8 l x).length≤l.length:=by
 unfold Ji P8;have h1:=List.length_filter_le (λp:(Ent × Nat) × Bool=>!p.2) ((l.zip (dO (l.map (·.1)))).take x);have h2:=List.length_filter_le (λp:(Ent × Nat) × Bool=>p.2) ((l.zip (dO (l.map (·.1)))).take x);rw [List.length_take,vk] at h1 h2;rw [List.length_map,List.length_map];omega
theorem left_ok{q:Ent→Prop}{l:List (Ent × Nat)}(h:∀x∈l,q x.1):∀x∈pY l,q x.1:=λx hx=>h x (A8 hx)
theorem VE{q:Ent→Prop}{l:List (Ent × Nat)}(h:∀x∈l,q x.1):∀x∈nZ l,q x.1:=λx hx=>h x (List.mem_filter.1 hx).1
theorem aeN{l:List (Ent × Nat)}{x:Nat}(h:x<l.length):(l.take (x+1)).map (·.1)=(l.take x).map (·.1)++[(l.getD x N0).1]:=by rw [D9 h,List.map_append];rfl
theorem rpL{l:List (Ent × Nat)}{x:Nat}(h:x≤l.length):(xW (l.map (·.1)) x).length=l.length:=by
 rw [Yk (by rw [List.length_map];exact h),List.length_map]
theorem Lu{l:List (Ent × Nat)}{x:Nat}(h:x<l.length):(l.map (·.1)).getD x E0=(l.getD x N0).1:=by
 simp [List.getD_eq_getElem?_getD,h]
theorem aap{l:List (Ent × Nat)}{x k:Nat}(hx:x<l.length)(hk:k<x)(h0:sK (l.map (·.1)) x k=false)(h:(!(xW (l.map (·.1)) x).getD k false)=false∨dK (l.getD x N0).1 (l.getD k N0).1=false):sK (l.map (·.1)) x (k+1)=false:=by
 rw [BZ (by rw [List.length_map];exact hx) hk,h0,Lu hx,Lu (by omega)];rcases h with h|h<;>rw [h]<;>simp
theorem aal{l:List (Ent × Nat)}{x k:Nat}(hx:x<l.length)(hk:k<x)(h1:(!(xW (l.map (·.1)) x).getD k false)=true)(h2:dK (l.getD x N0).1 (l.getD k N0).1=true):xW (l.map (·.1)) (x+1)=(xW (l.map (·.1)) x).set x true:=by
 refine adW (by rw [List.length_map];exact hx) hk ?_;rw [BZ (by rw [List.length_map];exact hx) hk,Lu hx,Lu (by omega),h1,h2];simp
theorem abP{l:List (Ent × Nat)}{x:Nat}(hx:x<l.length)(h:sK (l.map (·.1)) x x=false):xW (l.map (·.1)) (x+1)=xW (l.map (·.1)) x:=acr (by rw [List.length_map];exact hx) h
theorem Xk(l:List (Ent × Nat)):xW (l.map (·.1)) l.length=dO (l.map (·.1)):=by
 have:=Xu (l.map (·.1))
 rwa [List.length_map] at this
def vY:Rq × Rq:=(⟨false,[],false,[]⟩,⟨false,[],false,[]⟩)
theorem zq{e:EntR}(h:¬(e.kind=1∧e.pts.length=2∨e.kind=2∧e.pts.length=3∨e.kind=3∧e.pts.length=1)):oq e=false:=by
 unfold oq;rw [decide_eq_false h,Bool.false_and]
theorem FQ{e:EntR}{x:Nat}(hx:x<e.pts.length)(h:(jI (e.pts.getD x vY).1 && jI (e.pts.getD x vY).2)=false):oq e=false:=by
 have:(e.pts.all λp=>jI p.1 && jI p.2)=false:=by
  rw [List.all_eq_false];refine ⟨e.pts.getD x vY, ?_,by rw [h];decide⟩;have:e.pts.getD x vY=e.pts[x]:=by simp [List.getD_eq_getElem?_getD,hx]
  rw [this];exact List.getElem_mem hx
 unfold oq;rw [this];simp
theorem zF{e:EntR}(h:e.kind=1∧e.pts.length=2∨e.kind=2∧e.pts.length=3∨e.kind=3∧e.pts.length=1)(h1:∀j<e.pts.length,(jI (e.pts.getD j vY).1 && jI (e.pts.getD j vY).2)=true):oq e=(decide (¬e.kind=3) || (jI e.rad && decide (0<qR e.rad))):=by
 have:(e.pts.all λp=>jI p.1 && jI p.2)=true:=by
  rw [List.all_eq_true];intro p hp;obtain ⟨j,hj,rfl⟩:=List.getElem_of_mem hp;have h2:=h1 j hj;have e1:e.pts.getD j vY=e.pts[j]:=by simp [List.getD_eq_getElem?_getD,hj]
  rwa [e1] at h2
 unfold oq;rw [this,decide_eq_true h];simp
theorem Jm{r:Rq}(h:jI r=true):vR r=true:=by
 unfold jI at h;rw [Bool.and_eq_true] at h;exact h.1
theorem xA{e:EntR}(h:sN e){x:Nat}(hx:x<e.pts.length):Ih (e.pts.getD x vY).1∧Ih (e.pts.getD x vY).2:=by
 have:e.pts.getD x vY=e.pts[x]:=by simp [List.getD_eq_getElem?_getD,hx]
 rw [this];exact h.1 _ (List.getElem_mem hx)
def YO(ls:List LayD)(e:EntR):Int:=if uw ls e.layer<0 then 4 else if oq e=false then 1 else 0
theorem RF{ls:List LayD}{es:List EntR}{x:Nat}:(YO ls (es.getD x uz)=0→uI ls es x=none)∧(¬YO ls (es.getD x uz)=0→uI ls es x=some (YO ls (es.getD x uz))):=by
 unfold YO uI;split
 ·exact ⟨λh=>(by cases h),λ_=>rfl⟩
 ·split
  ·exact ⟨λh=>(by cases h),λ_=>rfl⟩
  ·exact ⟨λ_=>rfl,λh=>absurd rfl h⟩
theorem TT{ls:List LayD}{x:Nat}(hx:x<ls.length):(tu (ls.take (x+1))=0→wY ls x=none)∧(¬tu (ls.take (x+1))=0→wY ls x=some (tu (ls.take (x+1)))):=by
 rw [KX hx];unfold wY;split
 ·exact ⟨λh=>(by cases h),λ_=>rfl⟩
 ·split
  ·exact ⟨λh=>(by cases h),λ_=>rfl⟩
  ·exact ⟨λ_=>rfl,λh=>absurd rfl h⟩
theorem YC{es:List EntR}(h:∀e∈es,sN e){x:Nat}(hx:x<es.length):sN (es.getD x uz):=by
 have:es.getD x uz=es[x]:=by simp [List.getD_eq_getElem?_getD,hx]
 rw [this];exact h _ (List.getElem_mem hx)
theorem adq{ls:List LayD}{n:Nat}(h:∀l∈ls,l.name.size≤n)(x:Nat):(ls.getD x L0).name.size≤n:=by
 by_cases hx:x<ls.length
 ·have:ls.getD x L0=ls[x]:=by simp [List.getD_eq_getElem?_getD,hx]
  rw [this];exact h _ (List.getElem_mem hx)
 ·have:ls.getD x L0=L0:=by simp [List.getD_eq_getElem?_getD,Nat.le_of_not_lt hx]
  rw [this];exact Nat.zero_le _
theorem Nv:rz F6≤8:=Nat.le_trans (afM 1 1000 (by decide) ⟨by decide,by decide⟩ ⟨by decide,by decide⟩) (by decide)
theorem adG{a:Rat}(h:rz a≤12):rz (a*F6)≤20:=by
 have h1:=ny a F6;have h2:=Nv;omega
theorem abk:rz ((10000000:Int):Rat)≤4:=P7 _ (by decide) (by decide)
end Go.Sw
namespace Go.Proofs.YtmniihkenijjpaaGreatDoor
open Go Go.RowKit Go.Sw
set_option maxRecDepth 100000
set_option maxHeartbeats 8000000
instance aga(m n:Int):DenI Tryz.prog 88 [.int .i64 m,.int .i64 n] ((-9223372036854775808≤m∧m≤9223372036854775807)∧-9223372036854775808≤n∧n≤9223372036854775807) (Q2 (m:Rat) (n:Rat)):=⟨λhp=>by
 refine aF Tryz.func88 rfl ?_
 all_goals (repeat' ((try (conv=>whnf));first
  |refine ak ?_ ?_
  |refine Ends.mk ?_))
 all_goals (try refine Pr.mk ?_)
 all_goals first
  |rfl
  |omega⟩
end Go.Proofs.YtmniihkenijjpaaGreatDoor
namespace Go.Proofs.YtmniihkenijjpaaGreatDoor
open Go Go.RowKit Go.Sw
set_option maxRecDepth 100000
set_option maxHeartbeats 8000000
set_option synthInstance.maxSize 4000
set_option synthInstance.maxHeartbeats 400000
end Go.Proofs.YtmniihkenijjpaaGreatDoor
