/-
  Rules of the abstract run, plain laws, and what functions answer, for the law RepairEnds.
  Conditions: none.
-/
import Derived.Test.YtmniihkenijjpaaGreatDoorM12
set_option linter.all false
namespace Go.Sw
open Go
def ccE(a b c p:P2):Rat:=Xz a b c*(p.1-a.1)+Yv a b c*(p.2-a.2)-oh a b c*((p.1-a.1)*(p.1-a.1)+(p.2-a.2)*(p.2-a.2))
theorem Tt{a b c p:P2}:SG a b c p=true↔(oh a b c≠0∧ccE a b c p=0∧(p=a∨p=c∨0<jy a p c*jy a b c)):=by
 unfold SG ccE;rw [decide_eq_true_eq];constructor
 ·rintro ⟨h1,h2,h3⟩;exact ⟨h1,by rw [h2];grind,h3⟩
 ·rintro ⟨h1,h2,h3⟩;exact ⟨h1,by grind,h3⟩
theorem XW{kd:Int}{ly:ByteArray}{a m b:P2}{rd:Rq}:zO ⟨kd,ly,[a,m,b],rd⟩=decide (oh a m b=0):=rfl
theorem Xa{a b c p:P2}(h:oh a b c=0):SG a b c p=false:=by
 rw [Bool.eq_false_iff];intro e;exact (Tt.1 e).1 h
@[reducible] def uf(q:Rat):Rq:=⟨decide (q.num<0),lim q.num.natAbs,decide ((q.den:Int)<0),lim (q.den:Int).natAbs⟩
theorem Ot{α:Type}{p:List α→Prop}(h0:p [])(h1:∀l e,p l→p (l++[e]))(l:List α):p l:=by
 have key:∀r:List α,p r.reverse:=λr=>by
  induction r with
  |nil=>exact h0
  |cons e r ih=>rw [List.reverse_cons];exact h1 _ _ ih
 have:=key l.reverse
 rwa [List.reverse_reverse] at this
theorem AO(l:List Ent)(e:Ent):wW (l++[e])=wW l++[(e,(wW l).any λp=>!p.2 && gV e p.1)]:=by
 unfold wW;rw [List.foldl_append];rfl
theorem ED(l:List Ent):(wW l).map (·.1)=l:=by
 induction l using Ot with
 |h0=>rfl
 |h1 l e ih=>rw [AO,List.map_append,ih];rfl
theorem yZ(l:List Ent):(wW l).length=l.length:=by
 have:=congrArg List.length (ED l);simpa using this
theorem iW(l:List Ent):(dW l).length=l.length:=by unfold dW;rw [List.length_map,yZ]
theorem Vl{l:List Ent}{k:Nat}(h:k<l.length):(wW l)[k]?=some (l.getD k E0,(dW l).getD k false):=by
 have h1:k<(wW l).length:=by rw [yZ];exact h
 have e1:((wW l).map (·.1))[k]?=l[k]?:=by rw [ED]
 rw [List.getElem?_map,List.getElem?_eq_getElem h1,List.getElem?_eq_getElem h] at e1;simp only [Option.map_some,Option.some.injEq] at e1;rw [List.getElem?_eq_getElem h1];congr 1;refine Prod.ext ?_ ?_
 ·rw [e1];simp [List.getD_eq_getElem?_getD,h]
 ·simp [dW,List.getD_eq_getElem?_getD,h1]
theorem VI{l:List Ent}{x:Nat}(h:x<l.length):l.take (x+1)=l.take x++[l.getD x E0]:=by
 rw [List.take_succ,List.getElem?_eq_getElem h];simp [List.getD_eq_getElem?_getD,h]
def wz(l:List Ent)(x:Nat):List Bool:=dW (l.take x)++List.replicate (l.length-x) false
theorem Vt{l:List Ent}{x:Nat}(h:x≤l.length):(wz l x).length=l.length:=by
 unfold wz;rw [List.length_append,iW,List.length_take,List.length_replicate];omega
theorem Zp(l:List Ent):wz l 0=List.replicate l.length false:=rfl
theorem UY(l:List Ent):wz l l.length=dW l:=by unfold wz;rw [List.take_length,Nat.sub_self];simp
def qP(l:List Ent)(x k:Nat):Bool:=((wW (l.take x)).take k).any λp=>!p.2 && gV (l.getD x E0) p.1
theorem Bc{l:List Ent}{x k:Nat}(hx:x<l.length)(hk:k<x):qP l x (k+1)=(qP l x k || (!(wz l x).getD k false && gV (l.getD x E0) (l.getD k E0))):=by
 have hk':k<(l.take x).length:=by simp;omega
 unfold qP;rw [List.take_succ,List.any_append,Vl hk'];have e1:(l.take x).getD k E0=l.getD k E0:=by simp [List.getD_eq_getElem?_getD,hk,List.getElem?_take]
 have e2:(wz l x).getD k false=(dW (l.take x)).getD k false:=by
  unfold wz;simp only [List.getD_eq_getElem?_getD];rw [List.getElem?_append_left (by rw [iW];exact hk')]
 rw [e1,e2];simp
theorem Ez{l:List Ent}{x:Nat}(hx:x≤l.length):qP l x x=((wW (l.take x)).any λp=>!p.2 && gV (l.getD x E0) p.1):=by
 unfold qP;rw [List.take_of_length_le (by rw [yZ,List.length_take];omega)]
theorem MC{l:List Ent}{x k:Nat}(hx:x<l.length)(hk:k<x)(h:qP l x (k+1)=true):qP l x x=true:=by
 rw [Ez (by omega)];unfold qP at h;obtain ⟨p,h1,h2⟩:=List.any_eq_true.1 h;exact List.any_eq_true.2 ⟨p,List.mem_of_mem_take h1,h2⟩
theorem FH{l:List Ent}{x:Nat}(hx:x<l.length):wz l (x+1)=(wz l x).set x (qP l x x):=by
 unfold wz
 have h1:dW (l.take (x+1))=dW (l.take x)++[qP l x x]:=by
  rw [VI hx];unfold dW;rw [AO,List.map_append,Ez (by omega)];rfl
 have h2:List.replicate (l.length-x) false=false :: List.replicate (l.length-(x+1)) false:=by
  rw [show l.length-x=(l.length-(x+1))+1 by omega];rfl
 have h3:(dW (l.take x)).length=x:=by rw [iW,List.length_take];omega
 rw [h1,h2,List.set_append_right _ _ (by omega),h3,Nat.sub_self];simp
theorem aaB{l:List Ent}{x:Nat}(hx:x<l.length)(h:qP l x x=false):wz l (x+1)=wz l x:=by
 rw [FH hx,h];have h3:(dW (l.take x)).length=x:=by rw [iW,List.length_take];omega
 have h2:List.replicate (l.length-x) false=false :: List.replicate (l.length-(x+1)) false:=by
  rw [show l.length-x=(l.length-(x+1))+1 by omega];rfl
 unfold wz;rw [h2,List.set_append_right _ _ (by omega),h3,Nat.sub_self];simp
theorem Z7{l:List Ent}{x k:Nat}(hx:x<l.length)(hk:k<x)(h:qP l x (k+1)=true):wz l (x+1)=(wz l x).set x true:=by
 rw [FH hx,MC hx hk h]
structure EntR where
 kind:Int
 layer:ByteArray
 pts:List (Rq × Rq)
 rad:Rq
structure LayD where
 name:ByteArray
 kind:Int
 depth:Int
@[reducible] def Zh(r:Rq):List Cell:=[.v (.bool r.a),aX r.l,.v (.bool r.b),aX r.m]
@[reducible] def dK(p:Rq × Rq):List Cell:=[.v (.bool p.1.a),aX p.1.l,.v (.bool p.1.b),aX p.1.m,.v (.bool p.2.a),aX p.2.l,.v (.bool p.2.b),aX p.2.m]
@[reducible] def oM(e:EntR):List Cell:=[.v (.int .i64 e.kind),.v (.string e.layer),.sl 8 (e.pts.map dK),.v (.bool e.rad.a),aX e.rad.l,.v (.bool e.rad.b),aX e.rad.m]
@[reducible] def iP(l:LayD):List Cell:=[.v (.string l.name),.v (.int .i64 l.kind),.v (.int .i64 l.depth)]
def vR(r:Rq):Bool:=kC r.a r.l r.b r.m
def qR(r:Rq):Rat:=((dM r.a (val r.l):Int):Rat) / ((dM r.b (val r.m):Int):Rat)
def NM(r:Rq):Prop:=r.l.length≤6∧r.m.length≤6
theorem XT(q:Rat):((q.num:Int):Rat) / ((q.den:Int):Rat)=q:=by
 have h:=Rat.num_divInt_den q
 rwa [Rat.divInt_eq_div] at h
theorem OQ(q:Rat):qR (uf q)=q:=by
 unfold qR uf;simp only;rw [aH,xI,aH,xI,XT]
theorem Wq{r:Rq}(h:vR r=true):r=uf (qR r):=by
 obtain ⟨q,h1,h2,h3,h4⟩:=MO h;obtain ⟨a,l,b,m⟩:=r;simp only at h1 h2 h3 h4;subst h1 h2 h3 h4;exact (congrArg uf (OQ q)).symm
theorem Yh{q:Rat}(h:NM (uf q)):rz q≤12:=by
 obtain ⟨h1,h2⟩:=h;have h1':(lim q.num.natAbs).length≤6:=h1;have h2':(lim (q.den:Int).natAbs).length≤6:=h2;unfold rz sz;omega
@[reducible] def EP:Rat:=((1:Int):Rat) / ((1000:Int):Rat)
def WY(a:Rat):Option Nat:=(List.range 31).find? λn=>decide (10 ^ n % a.den=0)
def UH(q:Rat):Bool:=decide (¬((10000000:Int):Rat)<q) && (decide (¬q < -((10000000:Int):Rat)) && (WY (q*EP)).isSome)
def ku(r:Rq):Bool:=vR r && UH (qR r)
def vU(e:EntR):Bool:=decide (e.kind=1∧e.pts.length=2∨e.kind=2∧e.pts.length=3∨e.kind=3∧e.pts.length=1) && (e.pts.all (λp=>ku p.1 && ku p.2) && (decide (¬e.kind=3) || (ku e.rad && decide (0<qR e.rad))))
def Ey(e:EntR):Prop:=(∀p∈e.pts,NM p.1∧NM p.2)∧NM e.rad∧e.pts.length≤5∧e.layer.size≤60
def Ze(c:Nat):Bool:=decide (97≤c∧c≤122) || decide (65≤c∧c≤90)
def dgB(c:Nat):Bool:=decide (48≤c∧c≤57)
def Vg(c:Nat):Bool:=Ze c || (dgB c || (decide (c=95) || decide (c=45)))
def rnN(s:ByteArray):Nat:=((vF s).takeWhile Vg).length
def Ns(s:ByteArray):Bool:=decide (0<s.size) && (decide (s.size≤24) && (Ze ((vF s).getD 0 0) && decide (rnN s=s.size)))
theorem WM(p:Nat→Bool):∀(l:List Nat) (x:Nat),x≤l.length→(∀j<x,p (l.getD j 0)=true)→(x<l.length→p (l.getD x 0)=false)→(l.takeWhile p).length=x
 |[],x,h,_,_=>by simp at h;subst h;rfl
 |c :: r,0,_,_,h2=>by
  have:=h2 (by simp);simp only [List.getD_cons_zero] at this;simp [List.takeWhile_cons,this]
 |c :: r,x+1,h,h1,h2=>by
  have h3:=h1 0 (by omega);simp only [List.getD_cons_zero] at h3;rw [List.takeWhile_cons,if_pos h3,List.length_cons];rw [WM p r x (by simpa using h) (λj hj=>by simpa using h1 (j+1) (by omega)) (λhx=>by simpa using h2 (by simpa using hx))]
theorem XJ{s:ByteArray}{x:Nat}(h:x≤s.size)(h1:∀j<x,Vg ((vF s).getD j 0)=true)(h2:x<s.size→Vg ((vF s).getD x 0)=false):rnN s=x :=
 WM Vg (vF s) x (by rw [tX];exact h) h1 (λhx=>h2 (by rwa [tX] at hx))
theorem QK{s:ByteArray}(h:(!(s.toList == (ByteArray.mk #[]).toList))=true):0<s.size:=by
 rw [JI] at h;have h1:¬vF s=vF (ByteArray.mk #[]):=by simpa using h
 refine Decidable.byContradiction λhn=>h1 ?_
 have:(vF s).length=0:=by rw [tX];omega
 rw [List.eq_nil_of_length_eq_zero this];rfl
theorem Ul{s:ByteArray}(h:(!(s.toList == (ByteArray.mk #[]).toList))=false):s.size=0:=by
 rw [JI] at h;have h1:vF s=vF (ByteArray.mk #[]):=by simpa using h
 rw [← tX,h1];rfl
theorem Yf{s:ByteArray}(h:s.size=0∨¬s.size≤24∨Ze ((vF s).getD 0 0)=false):Ns s=false:=by
 unfold Ns;rcases h with h|h|h
 ·rw [h];rfl
 ·rw [decide_eq_false h];simp
 ·rw [h];simp
theorem XP{s:ByteArray}(h1:0<s.size)(h2:s.size≤24)(h3:Ze ((vF s).getD 0 0)=true):Ns s=decide (rnN s=s.size):=by
 unfold Ns;rw [decide_eq_true h1,decide_eq_true h2,h3];simp
def P6(l:LayD):Bool:=Ns l.name && decide (((l.kind=1∨l.kind=3)∧1≤l.depth∧l.depth≤10000000)∨((l.kind=2∨l.kind=4)∧l.depth=0))
def H6{α:Type}(n:Nat)(f:Nat→Option α):Option α:=(List.range n).findSome? f
theorem qp{α:Type}{n:Nat}{f:Nat→Option α}(h:∀j<n,f j=none):H6 n f=none:=by
 unfold H6;rw [List.findSome?_eq_none_iff];intro x hx;exact h x (by simpa using hx)
theorem sO{α:Type}{f:Nat→Option α}{x:Nat}{r:α}:∀{n:Nat},x<n→(∀j<x,f j=none)→f x=some r→H6 n f=some r
 |0,hx,_,_=>by omega
 |n+1,hx,h,hr=>by
  unfold H6;rw [List.range_succ,List.findSome?_append];rcases Nat.lt_or_ge x n with h1|h1
  ·have:=sO (n:=n) h1 h hr;unfold H6 at this;rw [this];rfl
  ·have:x=n:=by omega
   subst this;have h2:=qp h;unfold H6 at h2;rw [h2,List.findSome?_cons,hr];rfl
theorem iI{p:Nat→Prop}{x:Nat}(h:∀j<x,p j)(h1:p x):∀j<x+1,p j:=λj hj=>by
 rcases Nat.lt_or_ge j x with g|g
 ·exact h j g
 ·have:j=x:=by omega
  subst this;exact h1
def L0:LayD:=⟨⟨#[]⟩,0,0⟩
def Wi:EntR:=⟨0,⟨#[]⟩,[],⟨false,[],false,[]⟩⟩
def wR(ls:List LayD)(s:ByteArray):Int:=match H6 ls.length (λi=>if eqS (ls.getD i L0).name s=true then some i else none) with
 |some i=>((i:Nat):Int)
 |none=>-1
theorem BM{ls:List LayD}{s:ByteArray}{x:Nat}(hx:x<ls.length)(h:∀j<x,eqS (ls.getD j L0).name s=false)(h1:eqS (ls.getD x L0).name s=true):wR ls s=(x:Nat):=by
 unfold wR;rw [sO (x:=x) (r:=x) hx (λj hj=>by rw [h j hj];rfl) (by rw [h1];rfl)]
theorem YE{ls:List LayD}{s:ByteArray}(h:∀j<ls.length,eqS (ls.getD j L0).name s=false):wR ls s = -1:=by
 unfold wR;rw [qp (λj hj=>by rw [h j hj];rfl)]
theorem AQ(ls:List LayD)(s:ByteArray):∀n≤ls.length,(∀j<n,eqS (ls.getD j L0).name s=false)∨∃x<n,(∀j<x,eqS (ls.getD j L0).name s=false)∧eqS (ls.getD x L0).name s=true
 |0,_ => .inl λj hj=>absurd hj (Nat.not_lt_zero _)
 |n+1,h=>by
  rcases AQ ls s n (by omega) with g|⟨x,g1,g2,g3⟩
  ·cases e:eqS (ls.getD n L0).name s with
   |false=>exact .inl (iI g e)
   |true=>exact .inr ⟨n,by omega,g,e⟩
  ·exact .inr ⟨x,by omega,g2,g3⟩
def y5(ls:List LayD)(i:Nat):Option Int:=if P6 (ls.getD i L0)=false then some 1 else if wR ls (ls.getD i L0).name<i then some 5 else none
def rC(ls:List LayD):Int:=if P6 (ls.getD (ls.length-1) L0)=false then 1 else if wR ls (ls.getD (ls.length-1) L0).name<((ls.length-1:Nat):Int) then 5 else 0
theorem getD_take'{α:Type}{l:List α}{d:α}{i n:Nat}(h:i<n):(l.take n).getD i d=l.getD i d:=by
 simp [List.getD_eq_getElem?_getD,h,List.getElem?_take]
theorem Q8{ls:List LayD}{i:Nat}(h:i<ls.length):wR (ls.take (i+1)) (ls.getD i L0).name=wR ls (ls.getD i L0).name:=by
 have hl:(ls.take (i+1)).length=i+1:=by simp;omega
 have hself:eqS (ls.getD i L0).name (ls.getD i L0).name=true:=by unfold eqS;simp
 rcases AQ ls (ls.getD i L0).name (i+1) (by omega) with g|⟨x,g1,g2,g3⟩
 ·have:=g i (by omega);rw [hself] at this;cases this
 ·rw [BM (x:=x) (by omega) g2 g3];exact BM (by omega) (λj hj=>by rw [getD_take' (by omega)];exact g2 j hj) (by rw [getD_take' g1];exact g3)
theorem G5{ls:List LayD}{i:Nat}(h:i<ls.length):rC (ls.take (i+1))=(y5 ls i).getD 0:=by
 have hl:(ls.take (i+1)).length=i+1:=by simp;omega
 unfold rC y5;rw [hl,show i+1-1=i by omega,getD_take' (by omega),Q8 h];split
 ·rfl
 ·split<;>rfl
def GY(ls:List LayD)(es:List EntR)(i:Nat):Option Int:=if wR ls (es.getD i Wi).layer<0 then some 4 else if vU (es.getD i Wi)=false then some 1 else none
def rH(ls:List LayD)(es:List EntR):Int :=
 if 20<ls.length∨200<es.length then 3
 else match H6 ls.length (y5 ls) with
  |some r=>r
  |none=>match H6 es.length (GY ls es) with
   |some r=>r
   |none=>0
theorem Vy{ls:List LayD}{es:List EntR}(h:20<ls.length∨200<es.length):rH ls es=3:=by unfold rH;rw [if_pos h]
theorem VN{ls:List LayD}{es:List EntR}{x:Nat}{r:Int}(h:¬(20<ls.length∨200<es.length))(hx:x<ls.length)(h1:∀j<x,y5 ls j=none)(h2:y5 ls x=some r):rH ls es=r:=by
 unfold rH;rw [if_neg h,sO hx h1 h2]
theorem Uw{ls:List LayD}{es:List EntR}{x:Nat}{r:Int}(h:¬(20<ls.length∨200<es.length))(h0:∀j<ls.length,y5 ls j=none)(hx:x<es.length)(h1:∀j<x,GY ls es j=none)(h2:GY ls es x=some r):rH ls es=r:=by
 unfold rH;rw [if_neg h,qp h0];simp only;rw [sO hx h1 h2]
theorem WZ{ls:List LayD}{es:List EntR}(h:¬(20<ls.length∨200<es.length))(h0:∀j<ls.length,y5 ls j=none)(h1:∀j<es.length,GY ls es j=none):rH ls es=0:=by
 unfold rH;rw [if_neg h,qp h0];simp only;rw [qp h1]
def okV(e:Ent):Prop:=(e.kind=1∧e.pts.length=2∨e.kind=2∧e.pts.length=3∨e.kind=3∧e.pts.length=1∧∃q:Rat,0<q∧rz q≤12∧e.rad=uf q)∧SH e
@[reducible] def nT(e:Ent):EntR:=⟨e.kind,e.layer,e.pts.map λp=>(uf p.1,uf p.2),e.rad⟩
theorem XM(e:Ent):oM (nT e)=dD e:=by
 unfold oM nT dD;simp only [List.map_map];rfl
theorem Xu{α:Type}{n:Nat}{f:Nat→Option α}(h:H6 n f=none):∀j<n,f j=none:=by
 unfold H6 at h;rw [List.findSome?_eq_none_iff] at h;exact λj hj=>h j (by simpa using hj)
theorem YV{α:Type}{n:Nat}{f:Nat→Option α}{r:α}(h:H6 n f=some r):∃j<n,f j=some r:=by
 unfold H6 at h;obtain ⟨j,h1,h2⟩:=List.exists_of_findSome?_eq_some h;exact ⟨j,by simpa using h1,h2⟩
theorem zip_fst{l:List Ent}{x:Ent × Nat}(h:x∈l.zipIdx):x.1∈l:=by
 have:=List.mem_map_of_mem (f:=(·.1)) h;simpa using this
theorem QG{l:List (Ent × Nat)}{x:Ent × Nat}(h:x∈y9 l):x∈l:=by
 unfold y9 at h;obtain ⟨y,h1,rfl⟩:=List.mem_map.1 h;have h2:=(List.mem_filter.1 h1).1;exact (List.of_mem_zip h2).1
end Go.Sw
namespace Go.Sw
open Go Go.Lib
@[reducible] def p10(n:Nat):Int:=((10 ^ n:Nat):Int)
theorem GU(n:Nat):p10 n*10=p10 (n+1):=by unfold p10;rw [Nat.pow_succ];omega
theorem yx{n:Nat}(h:n≤31):sz (p10 n)≤4:=by
 show (lim (p10 n).natAbs).length≤4;refine lD ?_;have h1:10 ^ n≤10 ^ 31:=Nat.pow_le_pow_right (by decide) h;show (p10 n).natAbs<_;unfold p10;rw [Int.natAbs_natCast];have h2:(10:Nat) ^ 31<1000000000 ^ 4:=by decide +kernel
 omega
theorem NW{n:Nat}(h:n≤31):rz ((p10 n:Int):Rat)≤8:=by
 have h1:=ou (p10 n);have h2:=yx h;omega
@[reducible] def tmR(a:Rat)(n:Nat):Rat:=a*(((p10 n:Int):Rat) / ((1:Int):Rat))
def NJ(k:Nat):ByteArray:=⟨(List.replicate k (48:UInt8)).toArray⟩
theorem Ak(k:Nat):(NJ k).size=k:=by
 show (List.replicate k (48:UInt8)).toArray.size=k;simp
def zx(n:Int):ByteArray:=if n<0 then (qU n).extract 1 (qU n).size else qU n
def Ug(n:Int):ByteArray:=if n<0 then ⟨#[45]⟩ else ⟨#[]⟩
def Ee(n:Int)(k:Nat):ByteArray:=NJ (k+1-(zx n).size)++zx n
def Wn(n:Int)(k:Nat):ByteArray:=if k=0 then Ug n++zx n else Ug n++(Ee n k).extract 0 ((Ee n k).size-k)++⟨#[46]⟩++(Ee n k).extract ((Ee n k).size-k) (Ee n k).size
def exS(a:Rat):ByteArray:=match WY a with
 |some n=>Wn (tmR a n).num n
 |none=>⟨#[]⟩
theorem XD{a:Rat}{x:Nat}(hx:x≤30)(h:∀j<x,¬10 ^ j % a.den=0)(h1:10 ^ x % a.den=0):WY a=some x:=by
 unfold WY;rw [List.find?_range_eq_some];refine ⟨by simpa using h1,by simp;omega,λj hj=>by simpa using h j hj⟩
theorem abb{a:Rat}(h:∀j<31,¬10 ^ j % a.den=0):WY a=none:=by
 unfold WY;rw [List.find?_range_eq_none];intro j hj;simpa using h j hj
theorem Nc(n:Int):1≤(qU n).size:=by
 rw [Ah];have:=nDigits_pos n.natAbs;split<;>omega
theorem QZ{n:Nat}(h:n≤31):rz (((p10 n:Int):Rat) / ((1:Int):Rat))≤8:=by
 have e:((p10 n:Int):Rat) / ((1:Int):Rat)=((p10 n:Int):Rat):=by
  have:((1:Int):Rat)=1:=rfl;rw [this];generalize ((p10 n:Int):Rat)=K
  grind
 rw [e];exact NW h
theorem IQ{n:Int}(h:sz n≤50):(zx n).size≤460:=by
 have:=Uz h (by decide);unfold zx;split
 ·rw [ByteArray.size_extract];omega
 ·omega
theorem Qg{n:Int}{k:Nat}(h:sz n≤50)(hk:k≤30):(Ee n k).size≤500∧k+1≤(Ee n k).size:=by
 have:=IQ h;unfold Ee;rw [ByteArray.size_append,Ak];omega
theorem Za{n:Int}{k:Nat}(h:sz n≤50)(hk:k≤30):(Wn n k).size≤1000:=by
 have h1:=Qg h hk;have h2:=IQ h;have h3:(Ug n).size≤1:=by unfold Ug;split<;>decide
 have h4:(⟨#[46]⟩:ByteArray).size=1:=rfl;unfold Wn;split
 ·rw [ByteArray.size_append];omega
 ·rw [ByteArray.size_append,ByteArray.size_append,ByteArray.size_append,ByteArray.size_extract,ByteArray.size_extract,h4];omega
theorem aat{n:Int}{k:Nat}(h:(zx n).size≤k):NJ ((k:Int)+1-((zx n).size:Int)).toNat++zx n=Ee n k:=by
 have:((k:Int)+1-((zx n).size:Int)).toNat=k+1-(zx n).size:=by omega
 rw [this];rfl
theorem Zy{n:Int}{k:Nat}(h:¬(zx n).size≤k):Ee n k=zx n:=by
 unfold Ee;rw [show k+1-(zx n).size=0 by omega,ByteArray.ext_iff,ByteArray.data_append];simp [NJ]
theorem ZG{n:Int}{k:Nat}(h:k=0):Wn n k=Ug n++zx n:=by unfold Wn;rw [if_pos h]
theorem WI{n:Int}{k:Nat}(h:¬k=0):Wn n k=Ug n++(Ee n k).extract 0 ((Ee n k).size-k)++⟨#[46]⟩++(Ee n k).extract ((Ee n k).size-k) (Ee n k).size:=by unfold Wn;rw [if_neg h]
theorem RS{a:Rat}{x:Nat}(h:rz a≤20)(hx:x≤30):sz (tmR a x).num≤50:=by
 have z1:=kQ (tmR a x);have z2:=lX a (((p10 x:Int):Rat) / ((1:Int):Rat));have z3:=QZ (n:=x) (by omega);unfold tmR at *;omega
theorem aaF{n:Int}(h:n<0):(qU n).extract (Int.toNat 1) (qU n).size=zx n:=by unfold zx;rw [if_pos h];rfl
theorem abt{n:Int}(h:¬n<0):qU n=zx n:=by unfold zx;rw [if_neg h]
end Go.Sw
namespace Go.Sw
open Go
@[reducible] def pE(u v:P2):Bool:=decide (u.1=v.1) && decide (u.2=v.2)
theorem oN{u v:P2}:pE u v=decide (u=v):=Oi
theorem Vo{p q:Rat}:uf p=uf q↔p=q:=⟨λh=>by have:=congrArg qR h;rwa [OQ,OQ] at this,λh=>h ▸ rfl⟩
theorem RZ{l1 l2:ByteArray}{a b c d:P2}{r1 r2:Rq}:gV ⟨1,l1,[a,b],r1⟩ ⟨1,l2,[c,d],r2⟩=((l1.toList == l2.toList) && ((pE a c && pE b d) || (pE a d && pE b c))):=by
 rw [oN,oN,oN,oN];unfold gV eqS Dy;simp [Bool.decide_or,Bool.decide_and]
theorem Qv{l1 l2:ByteArray}{a m b c n d:P2}{r1 r2:Rq}:gV ⟨2,l1,[a,m,b],r1⟩ ⟨2,l2,[c,n,d],r2⟩=((l1.toList == l2.toList) && (((pE a c && pE b d) || (pE a d && pE b c)) && (if (decide (oh a m b=0) || decide (oh c n d=0))=true then decide (oh a m b=0) && (decide (oh c n d=0) && pE m n) else SG c n d m && SG a m b n))):=by
 rw [oN,oN,oN,oN,oN];unfold gV eqS Dy;simp [Bool.decide_or,Bool.decide_and,XW,Bool.and_assoc]
theorem PU{l1 l2:ByteArray}{a c:P2}{q1 q2:Rat}:gV ⟨3,l1,[a],uf q1⟩ ⟨3,l2,[c],uf q2⟩=((l1.toList == l2.toList) && (pE a c && decide (q1=q2))):=by
 rw [oN];have:decide (uf q1=uf q2)=decide (q1=q2):=decide_eq_decide.2 Vo;rw [← this];show ((l1.toList == l2.toList) && decide ((3:Int)=3) && (decide (a=c) && decide (uf q1=uf q2)))=_;rw [decide_eq_true (show (3:Int)=3 from rfl),Bool.and_true]
theorem qG{e f:Ent}(h:¬e.kind=f.kind):gV e f=false:=by
 unfold gV;simp [h]
theorem vW{e:Ent}(h:okV e):(∃l a b r,e=⟨1,l,[a,b],r⟩∧bJ a∧bJ b∧l.size≤1000)∨(∃l a m b r,e=⟨2,l,[a,m,b],r⟩∧bJ a∧bJ m∧bJ b∧l.size≤1000)∨(∃l a q,e=⟨3,l,[a],uf q⟩∧bJ a∧0<q∧rz q≤12∧l.size≤1000):=by
 obtain ⟨kd,ly,pts,rd⟩:=e;obtain ⟨h1,h2,h3,h4⟩:=h;simp only at h1 h2 h3 h4;rcases h1 with ⟨rfl,g⟩|⟨rfl,g⟩|⟨rfl,g,q,q1,q2,rfl⟩
 ·match pts,g,h2 with
  |[a,b],_,h2=>exact .inl ⟨ly,a,b,rd,rfl,h2 a (by simp),h2 b (by simp),h3⟩
 ·match pts,g,h2 with
  |[a,m,b],_,h2=>exact .inr (.inl ⟨ly,a,m,b,rd,rfl,h2 a (by simp),h2 m (by simp),h2 b (by simp),h3⟩)
 ·match pts,g,h2 with
  |[a],_,h2=>exact .inr (.inr ⟨ly,a,q,rfl,h2 a (by simp),q1,q2,h3⟩)
theorem Nk{e:Ent}{l:List P2}(h:okV e)(hl:l.length=(aZ e).length)(hp:∀p∈l,bJ p):okV (fF e l):=by
 obtain ⟨m1,m2,m3,m4,m5⟩:=yP hl;obtain ⟨h1,h2,h3,h4⟩:=h;refine ⟨?_,zq h2 hp,by rw [m2];exact h3,by rw [m4];exact h4⟩;rw [m3,m4,m5];exact h1
theorem Yt{sq:Rat}{es:List Ent}(h:∀e∈es,okV e):∀e∈(dB sq 0 [] es).es,okV e:=by
 intro e he;have hj:=GI sq 0 [] es;have h2:=(Jk (q:=bJ) (sq:=sq) (λe he=>(h e he).2.1) es.length (Nat.le_refl _)).1;rw [BD] at h2;obtain ⟨j,hj1,rfl⟩:=List.getElem_of_mem he;have hl:=hj.len;obtain ⟨ws,g1,g2,g3⟩:=hj.ent j (es[j]'(by omega)) _ (List.getElem?_eq_getElem _) (List.getElem?_eq_getElem hj1);rw [g2];refine Nk (h _ (List.getElem_mem _)) g1 λp hp=>?_
 obtain ⟨q,q1,rfl⟩:=pU (g3 p hp);exact h2 q q1
theorem Ea{l:List (Ent × Nat)}(h:∀x∈l,okV x.1){x:Nat}(hx:x<l.length):okV (l.getD x N0).1:=by
 have:l.getD x N0=l[x]:=by simp [List.getD_eq_getElem?_getD,hx]
 rw [this];exact h _ (List.getElem_mem hx)
theorem DT{l:List (Ent × Nat)}{x:Nat}(h:x<l.length):l.take (x+1)=l.take x++[l.getD x N0]:=by
 rw [List.take_succ,List.getElem?_eq_getElem h];simp [List.getD_eq_getElem?_getD,h]
def NS(l:List (Ent × Nat))(x:Nat):List (Ent × Nat):=rD (l.take x)
def NP(l:List (Ent × Nat))(x:Nat):List Chn:=pF (l.take x)
theorem J7(l:List (Ent × Nat)):NS l l.length=rD l:=by unfold NS;rw [List.take_length]
theorem Jv(l:List (Ent × Nat)):NP l l.length=pF l:=by unfold NP;rw [List.take_length]
theorem WG{l:List (Ent × Nat)}{x:Nat}(h:x<l.length)(hf:jV (l.getD x N0).1=0):NS l (x+1)=NS l x++[l.getD x N0]∧NP l (x+1)=NP l x:=by
 unfold NS NP rD pF;rw [DT h,List.filter_append,List.filter_append];simp only [List.filter_cons,List.filter_nil,hf];simp
theorem Py{l:List (Ent × Nat)}{x k:Nat}(h:x<l.length)(hf:jV (l.getD x N0).1=k+1):NS l (x+1)=NS l x∧NP l (x+1)=NP l x++[⟨k+1,(l.getD x N0).2,0,none,none⟩]:=by
 unfold NS NP rD pF;rw [DT h,List.filter_append,List.filter_append];generalize l.getD x N0=y at *;simp only [List.filter_cons,List.filter_nil,hf];simp [hf]
theorem CX(l:List (Ent × Nat))(x:Nat):(NS l x).length≤l.length∧(NP l x).length≤l.length:=by
 unfold NS NP rD pF;have h1:=List.length_filter_le (λx:Ent × Nat=>jV x.1 == 0) (l.take x);have h2:=List.length_filter_le (λx:Ent × Nat=>!(jV x.1 == 0)) (l.take x);rw [List.length_take] at h1 h2;rw [List.length_map];omega
theorem SN{e:Ent}{a b:P2}(hE:aZ e=[a,b])(h:pE a b=true):jV e=2:=by
 rw [oN,decide_eq_true_eq] at h;unfold jV;rw [hE];simp [h]
theorem Jt{e:Ent}{a b:P2}(hE:aZ e=[a,b])(h:pE a b=false):jV e=if e.kind=2∧zO e=true then 5 else 0:=by
 rw [oN,decide_eq_false_iff_not] at h;unfold jV;rw [hE];simp [h]
theorem KD{e:Ent}(hE:aZ e=[]):jV e=if e.kind=2∧zO e=true then 5 else 0:=by
 unfold jV;rw [hE]
def GZ(l:List (Ent × Nat))(x:Nat):List (Ent × Nat):=(((l.zip (dW (l.map (·.1)))).take x).filter λp=>!p.2).map (·.1)
def NR(l:List (Ent × Nat))(x:Nat):List Chn:=(((l.zip (dW (l.map (·.1)))).take x).filter λp=>p.2).map λx=>⟨3,x.1.2,0,none,none⟩
theorem sK(l:List (Ent × Nat)):(l.zip (dW (l.map (·.1)))).length=l.length:=by rw [List.length_zip,iW,List.length_map,Nat.min_self]
theorem BL(l:List (Ent × Nat)):GZ l l.length=y9 l:=by
 unfold GZ y9;rw [List.take_of_length_le (by rw [sK];exact Nat.le_refl _)]
theorem U7(l:List (Ent × Nat)):NR l l.length=YK l:=by
 unfold NR YK;rw [List.take_of_length_le (by rw [sK];exact Nat.le_refl _)]
theorem Af{l:List (Ent × Nat)}{x:Nat}(h:x<l.length):(l.zip (dW (l.map (·.1)))).take (x+1)=(l.zip (dW (l.map (·.1)))).take x++[(l.getD x N0,(dW (l.map (·.1))).getD x false)]:=by
 have h1:x<(l.zip (dW (l.map (·.1)))).length:=by rw [sK];exact h
 have h2:x<(dW (l.map (·.1))).length:=by rw [iW,List.length_map];exact h
 rw [List.take_succ,List.getElem?_eq_getElem h1,List.getElem_zip];simp [List.getD_eq_getElem?_getD,h,h2]
theorem Zw{l:List (Ent × Nat)}{x:Nat}(h:x<l.length)(hb:(dW (l.map (·.1))).getD x false=true):GZ l (x+1)=GZ l x∧NR l (x+1)=NR l x++[⟨3,(l.getD x N0).2,0,none,none⟩]:=by
 unfold GZ NR;rw [Af h,hb,List.filter_append,List.filter_append];simp
theorem aaM{l:List (Ent × Nat)}{x:Nat}(h:x<l.length)(hb:(dW (l.map (·.1))).getD x false=false):GZ l (x+1)=GZ l x++[l.getD x N0]∧NR l (x+1)=NR l x:=by
 unfold GZ NR;rw [Af h,hb,List.filter_append,List.filter_append];simp
theorem Dq(l:List (Ent × Nat))(x:Nat):(GZ l x).length≤l.length∧(NR l x).length≤l.length:=by
 unfold GZ NR;have h1:=List.length_filter_le (λp:(Ent × Nat) × Bool=>!p.2) ((l.zip (dW (l.map (·.1)))).take x);have h2:=List.length_filter_le (λp:(Ent × Nat) × Bool=>p.2) ((l.zip (dW (l.map (·.1)))).take x);rw [List.length_take,sK] at h1 h2;rw [List.length_map,List.length_map];omega
theorem left_ok{q:Ent→Prop}{l:List (Ent × Nat)}(h:∀x∈l,q x.1):∀x∈y9 l,q x.1:=λx hx=>h x (QG hx)
theorem Vm{q:Ent→Prop}{l:List (Ent × Nat)}(h:∀x∈l,q x.1):∀x∈rD l,q x.1:=λx hx=>h x (List.mem_filter.1 hx).1
theorem adA{l:List (Ent × Nat)}{x:Nat}(h:x<l.length):(l.take (x+1)).map (·.1)=(l.take x).map (·.1)++[(l.getD x N0).1]:=by rw [DT h,List.map_append];rfl
theorem rpL{l:List (Ent × Nat)}{x:Nat}(h:x≤l.length):(wz (l.map (·.1)) x).length=l.length:=by
 rw [Vt (by rw [List.length_map];exact h),List.length_map]
theorem J3{l:List (Ent × Nat)}{x:Nat}(h:x<l.length):(l.map (·.1)).getD x E0=(l.getD x N0).1:=by
 simp [List.getD_eq_getElem?_getD,h]
theorem YI{l:List (Ent × Nat)}{x k:Nat}(hx:x<l.length)(hk:k<x)(h0:qP (l.map (·.1)) x k=false)(h:(!(wz (l.map (·.1)) x).getD k false)=false∨gV (l.getD x N0).1 (l.getD k N0).1=false):qP (l.map (·.1)) x (k+1)=false:=by
 rw [Bc (by rw [List.length_map];exact hx) hk,h0,J3 hx,J3 (by omega)];rcases h with h|h<;>rw [h]<;>simp
theorem X4{l:List (Ent × Nat)}{x k:Nat}(hx:x<l.length)(hk:k<x)(h1:(!(wz (l.map (·.1)) x).getD k false)=true)(h2:gV (l.getD x N0).1 (l.getD k N0).1=true):wz (l.map (·.1)) (x+1)=(wz (l.map (·.1)) x).set x true:=by
 refine Z7 (by rw [List.length_map];exact hx) hk ?_;rw [Bc (by rw [List.length_map];exact hx) hk,J3 hx,J3 (by omega),h1,h2];simp
theorem aaP{l:List (Ent × Nat)}{x:Nat}(hx:x<l.length)(h:qP (l.map (·.1)) x x=false):wz (l.map (·.1)) (x+1)=wz (l.map (·.1)) x:=aaB (by rw [List.length_map];exact hx) h
theorem Uf(l:List (Ent × Nat)):wz (l.map (·.1)) l.length=dW (l.map (·.1)):=by
 have:=UY (l.map (·.1))
 rwa [List.length_map] at this
def qO:Rq × Rq:=(⟨false,[],false,[]⟩,⟨false,[],false,[]⟩)
theorem xG{e:EntR}(h:¬(e.kind=1∧e.pts.length=2∨e.kind=2∧e.pts.length=3∨e.kind=3∧e.pts.length=1)):vU e=false:=by
 unfold vU;rw [decide_eq_false h,Bool.false_and]
theorem Dt{e:EntR}{x:Nat}(hx:x<e.pts.length)(h:(ku (e.pts.getD x qO).1 && ku (e.pts.getD x qO).2)=false):vU e=false:=by
 have:(e.pts.all λp=>ku p.1 && ku p.2)=false:=by
  rw [List.all_eq_false];refine ⟨e.pts.getD x qO, ?_,by rw [h];decide⟩;have:e.pts.getD x qO=e.pts[x]:=by simp [List.getD_eq_getElem?_getD,hx]
  rw [this];exact List.getElem_mem hx
 unfold vU;rw [this];simp
theorem yR{e:EntR}(h:e.kind=1∧e.pts.length=2∨e.kind=2∧e.pts.length=3∨e.kind=3∧e.pts.length=1)(h1:∀j<e.pts.length,(ku (e.pts.getD j qO).1 && ku (e.pts.getD j qO).2)=true):vU e=(decide (¬e.kind=3) || (ku e.rad && decide (0<qR e.rad))):=by
 have:(e.pts.all λp=>ku p.1 && ku p.2)=true:=by
  rw [List.all_eq_true];intro p hp;obtain ⟨j,hj,rfl⟩:=List.getElem_of_mem hp;have h2:=h1 j hj;have e1:e.pts.getD j qO=e.pts[j]:=by simp [List.getD_eq_getElem?_getD,hj]
  rwa [e1] at h2
 unfold vU;rw [this,decide_eq_true h];simp
theorem I4{r:Rq}(h:ku r=true):vR r=true:=by
 unfold ku at h;rw [Bool.and_eq_true] at h;exact h.1
theorem vG{e:EntR}(h:Ey e){x:Nat}(hx:x<e.pts.length):NM (e.pts.getD x qO).1∧NM (e.pts.getD x qO).2:=by
 have:e.pts.getD x qO=e.pts[x]:=by simp [List.getD_eq_getElem?_getD,hx]
 rw [this];exact h.1 _ (List.getElem_mem hx)
def WC(ls:List LayD)(e:EntR):Int:=if wR ls e.layer<0 then 4 else if vU e=false then 1 else 0
theorem QU{ls:List LayD}{es:List EntR}{x:Nat}:(WC ls (es.getD x Wi)=0→GY ls es x=none)∧(¬WC ls (es.getD x Wi)=0→GY ls es x=some (WC ls (es.getD x Wi))):=by
 unfold WC GY;split
 ·exact ⟨λh=>(by cases h),λ_=>rfl⟩
 ·split
  ·exact ⟨λh=>(by cases h),λ_=>rfl⟩
  ·exact ⟨λ_=>rfl,λh=>absurd rfl h⟩
theorem Sj{ls:List LayD}{x:Nat}(hx:x<ls.length):(rC (ls.take (x+1))=0→y5 ls x=none)∧(¬rC (ls.take (x+1))=0→y5 ls x=some (rC (ls.take (x+1)))):=by
 rw [G5 hx];unfold y5;split
 ·exact ⟨λh=>(by cases h),λ_=>rfl⟩
 ·split
  ·exact ⟨λh=>(by cases h),λ_=>rfl⟩
  ·exact ⟨λ_=>rfl,λh=>absurd rfl h⟩
theorem abr{es:List EntR}(h:∀e∈es,Ey e){x:Nat}(hx:x<es.length):Ey (es.getD x Wi):=by
 have:es.getD x Wi=es[x]:=by simp [List.getD_eq_getElem?_getD,hx]
 rw [this];exact h _ (List.getElem_mem hx)
theorem Zz{ls:List LayD}{n:Nat}(h:∀l∈ls,l.name.size≤n)(x:Nat):(ls.getD x L0).name.size≤n:=by
 by_cases hx:x<ls.length
 ·have:ls.getD x L0=ls[x]:=by simp [List.getD_eq_getElem?_getD,hx]
  rw [this];exact h _ (List.getElem_mem hx)
 ·have:ls.getD x L0=L0:=by simp [List.getD_eq_getElem?_getD,Nat.le_of_not_lt hx]
  rw [this];exact Nat.zero_le _
theorem Ku:rz EP≤8:=Nat.le_trans (ade 1 1000 (by decide) ⟨by decide,by decide⟩ ⟨by decide,by decide⟩) (by decide)
theorem abB{a:Rat}(h:rz a≤12):rz (a*EP)≤20:=by
 have h1:=lX a EP;have h2:=Ku;omega
theorem Y6:rz ((10000000:Int):Rat)≤4:=MW _ (by decide) (by decide)
end Go.Sw
namespace Go.Proofs.YtmniihkenijjpaaGreatDoor
open Go Go.RowKit Go.Sw
set_option maxRecDepth 100000
set_option maxHeartbeats 8000000
instance aeB(m n:Int):DenI Tryz.prog 88 [.int .i64 m,.int .i64 n] ((-9223372036854775808≤m∧m≤9223372036854775807)∧-9223372036854775808≤n∧n≤9223372036854775807) (Q2 (m:Rat) (n:Rat)):=⟨λhp=>by
 refine aB Tryz.func88 rfl ?_
 all_goals (repeat' ((try (conv=>whnf));first
  |refine ak ?_ ?_
  |refine Ends.mk ?_))
 all_goals (try refine Pr.mk ?_)
 all_goals first
  |rfl
  |omega⟩
end Go.Proofs.YtmniihkenijjpaaGreatDoor
namespace Go.Proofs.YtmniihkenijjpaaGreatDoor
open Go Go.RowKit Go.Sw
set_option maxRecDepth 100000
set_option maxHeartbeats 8000000
set_option synthInstance.maxSize 4000
set_option synthInstance.maxHeartbeats 400000
end Go.Proofs.YtmniihkenijjpaaGreatDoor
