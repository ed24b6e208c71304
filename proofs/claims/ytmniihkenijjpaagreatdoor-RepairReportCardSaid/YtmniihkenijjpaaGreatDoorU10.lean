/-
  Rules of the abstract run, plain laws, and what functions answer, for the law RepairReport.
  Conditions: none.
-/
import Derived.Test.YtmniihkenijjpaaGreatDoorU9
set_option linter.all false
namespace Go.Sw
open Go
section
variable (a b c d e f:Rat)
end
def cD(a b c d e f:Rat):Rat:=(c-a)*(f-b)-(d-b)*(e-a)
def cU(a b c d e f:Rat):Rat:=((c-a)*(c-a)+(d-b)*(d-b))*(f-b)-((e-a)*(e-a)+(f-b)*(f-b))*(d-b)
def cV(a b c d e f:Rat):Rat:=((e-a)*(e-a)+(f-b)*(f-b))*(c-a)-((c-a)*(c-a)+(d-b)*(d-b))*(e-a)
section
variable {a b c d e f:Rat}
theorem zY{x:Rat}(h:x≠0):x+x≠0:=ν
theorem TG{u v:Rat}(h:¬(u=0/\v=0)):0<u*u+v*v:=by
 have h1:=uq u;have h2:=uq v
 have:u*u+v*v≠0:=λhh=>by
  have a1:u*u=0:=ν
  have a2:v*v=0:=ν
  exact h ⟨by rcases Rat.mul_eq_zero.1 a1 with h|h<;>exact h,by rcases Rat.mul_eq_zero.1 a2 with h|h<;>exact h⟩
 grind
theorem WV(h:¬cD a b c d e f=0):0<cU a b c d e f/(cD a b c d e f+cD a b c d e f)*(cU a b c d e f/(cD a b c d e f+cD a b c d e f))+cV a b c d e f/(cD a b c d e f+cD a b c d e f)*(cV a b c d e f/(cD a b c d e f+cD a b c d e f)):=by
 have h2:=zY h;refine TG λhh=>?_
 have u0:cU a b c d e f=0:=by have:=hh.1;grind
 have v0:cV a b c d e f=0:=by have:=hh.2;grind
 have e1:cU a b c d e f*(c-a)+cV a b c d e f*(d-b)=((c-a)*(c-a)+(d-b)*(d-b))*cD a b c d e f:=by unfold cU cV cD;grind
 rw[u0,v0]at e1
 have e2:(c-a)*(c-a)+(d-b)*(d-b)=0:=by
  rcases Rat.mul_eq_zero.1 (show((c-a)*(c-a)+(d-b)*(d-b))*cD a b c d e f=0 by rw[<-e1];grind)with h'|h'
  .exact h'
  .exact absurd h' h
 refine h ?_
 have h3:c-a=0/\d-b=0:=by
  refine Decidable.byContradiction λhn=>?_
  have:=TG hn;grind
 unfold cD;rw[h3.1,h3.2];grind
theorem XR(h:¬cD a b c d e f=0){u v:Rat}(hu:u=cU a b c d e f/(cD a b c d e f+cD a b c d e f))(hv:v=cV a b c d e f/(cD a b c d e f+cD a b c d e f)):
 (c-(a+u))*(c-(a+u))+(d-(b+v))*(d-(b+v))=u*u+v*v:=by
 have h2:=zY h;have e1:(c-a)*cU a b c d e f+(d-b)*cV a b c d e f=((c-a)*(c-a)+(d-b)*(d-b))*cD a b c d e f:=by unfold cU cV cD;grind
 have e2:(c-a)*u+(d-b)*v=((c-a)*(c-a)+(d-b)*(d-b))/2:=by
  rw[hu,hv];generalize cD a b c d e f=D at *;generalize cU a b c d e f=U at *;generalize cV a b c d e f=V at *
  grind
 grind
theorem X3(h:¬cD a b c d e f=0){u v:Rat}(hu:u=cU a b c d e f/(cD a b c d e f+cD a b c d e f))(hv:v=cV a b c d e f/(cD a b c d e f+cD a b c d e f)):
 (e-(a+u))*(e-(a+u))+(f-(b+v))*(f-(b+v))=u*u+v*v:=by
 have h2:=zY h;have e1:(e-a)*cU a b c d e f+(f-b)*cV a b c d e f=((e-a)*(e-a)+(f-b)*(f-b))*cD a b c d e f:=by unfold cU cV cD;grind
 have e2:(e-a)*u+(f-b)*v=((e-a)*(e-a)+(f-b)*(f-b))/2:=by
  rw[hu,hv];generalize cD a b c d e f=D at *;generalize cU a b c d e f=U at *;generalize cV a b c d e f=V at *
  grind
 grind
theorem Vg(h:¬cD a b c d e f=0){u v:Rat}(hu:u=cU a b c d e f/(cD a b c d e f+cD a b c d e f))(hv:v=cV a b c d e f/(cD a b c d e f+cD a b c d e f)):
 (a-(a+u))*(a-(a+u))+(b-(b+v))*(b-(b+v))=u*u+v*v:=ν
end
abbrev P2:=Rat×Rat
structure Rq where
 a:Bool
 l:List Nat
 b:Bool
 m:List Nat
deriving DecidableEq
structure Ent where
 kind:Int
 layer:ByteArray
 pts:List P2
 rad:Rq
structure Chn where
 kind:Nat
 ent:Nat
 fin:Nat
 src:Option P2
 dst:Option P2
def P0:P2:=(0,0)
def aA(e:Ent):List P2 :=
 match e.pts with
 |[a,b]=>if e.kind=1 then[a,b]else[]
 |[a,_,b]=>if e.kind=2 then[a,b]else[]
 |_=>[]
def farR(p q:P2):Rat:=(p.1-q.1)*(p.1-q.1)+(p.2-q.2)*(p.2-q.2)
def nearS(sq:Rat)(v:P2)(b:Option P2)(w:P2):Option P2 :=
 if farR v w<=sq then(match b with|none=>some w|some u=>if farR v w<farR v u then some w else b)else b
def nearG(sq:Rat)(v:P2)(l:List P2):Option P2:=l.foldl (nearS sq v) none
abbrev Spots:=List (ByteArray×P2)
def spotsAt(sp:Spots)(s:ByteArray):List P2:=(sp.filter λp=>p.1.toList == s.toList).map (·.2)
def joinP(sq:Rat)(sp:Spots)(s:ByteArray)(v:P2):Spots×P2 :=
 match nearG sq v (spotsAt sp s)with
 |some u=>(sp,u)
 |none=>(sp++[(s,v)],v)
def jn(i k:Nat)(v w:P2):List Chn:=if v=w then[]else[⟨1,i,k,some v,some w⟩]
structure JL where
 sp:Spots
 ws:List P2
 cs:List Chn
def joinL(sq:Rat)(s:ByteArray)(i:Nat):Nat->Spots->List P2->JL
 |_,sp,[]=>⟨sp,[],[]⟩
 |k,sp,v::r =>
  let a:=joinP sq sp s v
  let b:=joinL sq s i (k+1) a.1 r
  ⟨b.sp,a.2::b.ws,jn i k v a.2++b.cs⟩
def dQ(e:Ent)(l:List P2):Ent :=
 match l,e.pts with
 |[a,b],[_,_]=>{ e with pts:=[a,b] }
 |[a,b],[_,m,_]=>{ e with pts:=[a,m,b] }
 |_,_=>e
structure JA where
 sp:Spots
 es:List Ent
 cs:List Chn
def bT(sq:Rat):Nat->Spots->List Ent->JA
 |_,sp,[]=>⟨sp,[],[]⟩
 |i,sp,e::r =>
  let a:=joinL sq e.layer i 0 sp (aA e)
  let b:=bT sq (i+1) a.sp r
  ⟨b.sp,dQ e a.ws::b.es,a.cs++b.cs⟩
def uT(e:Ent):Bool:=match e.pts with
 |[a,b,c]=>decide (cD a.1 a.2 b.1 b.2 c.1 c.2=0)
 |_=>false
def dJ(e:Ent):Nat :=
 match aA e with
 |[a,b]=>if a=b then 2 else if e.kind=2/\uT e=true then 5 else 0
 |_=>if e.kind=2/\uT e=true then 5 else 0
def mV(l:List (Ent×Nat)):List (Ent×Nat):=l.filter λx=>dJ x.1 == 0
def mO(l:List (Ent×Nat)):List Chn:=(l.filter λx=>!(dJ x.1 == 0)).map λx=>⟨dJ x.1,x.2,0,none,none⟩
def eqS(a b:ByteArray):Bool:=a.toList == b.toList
def uD(a b c p:P2):Bool :=
 decide (cD a.1 a.2 b.1 b.2 c.1 c.2≠0/\(cU a.1 a.2 b.1 b.2 c.1 c.2*(p.1-a.1)+cV a.1 a.2 b.1 b.2 c.1 c.2*(p.2-a.2)=cD a.1 a.2 b.1 b.2 c.1 c.2*((p.1-a.1)*(p.1-a.1)+(p.2-a.2)*(p.2-a.2))) /\
  (p=a\/p=c\/0<fB a p c*fB a b c))
def qy(a b c d:P2):Bool:=decide ((a=c/\b=d)\/(a=d/\b=c))
def aZ(e f:Ent):Bool :=
 eqS e.layer f.layer&&decide (e.kind=f.kind) &&
 match e.pts,f.pts with
 |[a],[b]=>decide (a=b)&&decide (e.rad=f.rad)
 |[a,b],[c,d]=>qy a b c d
 |[a,m,b],[c,n,d]=>qy a b c d&&(if uT e||uT f then uT e&&uT f&&decide (m=n)else uD c n d m&&uD a m b n)
 |_,_=>false
def oZ(l:List Ent):List (Ent×Bool):=l.foldl (λacc e=>acc++[(e,acc.any λp=>!p.2&&aZ e p.1)]) []
def bJ(l:List Ent):List Bool:=(oZ l).map (·.2)
def metAt(l:List (Ent×Nat))(s:ByteArray)(i k:Nat)(v:P2)(j:Nat):Bool :=
 match l[j]? with
 |none=>false
 |some x=>eqS x.1.layer s&&(match aA x.1 with
  |[a,b]=>((j != i||0 != k)&&decide (v=a)) ||((j != i||1 != k)&&decide (v=b))
  |_=>false)
def nH(l:List (Ent×Nat))(s:ByteArray)(i k:Nat)(v:P2):Bool:=(List.range l.length).any (metAt l s i k v)
def tC(l:List (Ent×Nat))(s:ByteArray)(n i k:Nat)(v:P2):List Chn:=if nH l s i k v=true then[]else[⟨4,n,k,some v,some v⟩]
def opn(l:List (Ent×Nat))(i:Nat):List Chn :=
 match l[i]? with
 |none=>[]
 |some x=>(match aA x.1 with
  |[a,b]=>tC l x.1.layer x.2 i 0 a++tC l x.1.layer x.2 i 1 b
  |_=>[])
def zy(l:List (Ent×Nat)):List Chn:=(List.range l.length).flatMap (opn l)
def x9(l:List (Ent×Nat)):List (Ent×Nat):=((l.zip (bJ (l.map (·.1)))).filter λx=>!x.2).map (·.1)
def Xv(l:List (Ent×Nat)):List Chn:=((l.zip (bJ (l.map (·.1)))).filter λx=>x.2).map λx=>⟨3,x.1.2,0,none,none⟩
structure RP where
 es:List Ent
 cs:List Chn
def aO(sq:Rat)(es:List Ent):RP :=
 let a:=bT sq 0 [] es
 let nb:=a.es.zipIdx
 let k:=mV nb
 let l:=x9 k
 ⟨l.map (·.1),a.cs++mO nb++Xv k++zy l⟩
theorem Q8{x:Rat}(h:x*x=0):x=0:=by
 rcases Rat.mul_eq_zero.1 h with g|g<;>exact g
theorem jM(p q:P2):farR p q=farR q p:=by unfold farR;grind
def xM(sq:Rat)(v:P2)(l:List P2):Option P2->Prop
 |none=>∀w∈l,sq<farR v w
 |some u=>u∈l/\farR v u<=sq/\∀w∈l,farR v u<=farR v w
theorem N7{sq:Rat}{v:P2}{l:List P2}{b:Option P2}(h:xM sq v l b)(w:P2):xM sq v (l++[w]) (nearS sq v b w):=by
 unfold nearS;cases b with
 |none =>
  by_cases h1:farR v w<=sq
  .rw[if_pos h1];refine⟨η,h1,λx hx=>?_⟩;rcases jP.1 hx with hx|hx
   .have:=h x hx;grind
   .simp at hx;subst hx;exact Rat.le_refl
  .rw[if_neg h1];intro x hx;rcases jP.1 hx with hx|hx
   .exact h x hx
   .simp at hx;subst hx;exact Rat.not_le.1 h1
 |some u =>
  obtain⟨q1,q2,q3⟩:=h
  by_cases h1:farR v w<=sq
  .rw[if_pos h1]
   by_cases h2:farR v w<farR v u
   .simp only[h2,if_true];refine⟨η,h1,λx hx=>?_⟩;rcases jP.1 hx with hx|hx
    .have:=q3 x hx;grind
    .simp at hx;subst hx;exact Rat.le_refl
   .simp only[h2,if_false];refine⟨by simp[q1],q2,λx hx=>?_⟩;rcases jP.1 hx with hx|hx
    .exact q3 x hx
    .simp at hx;subst hx;exact Rat.not_lt.1 h2
  .rw[if_neg h1];refine⟨by simp[q1],q2,λx hx=>?_⟩;rcases jP.1 hx with hx|hx
   .exact q3 x hx
   .simp at hx;subst hx;grind
theorem Ci{sq:Rat}{v:P2}:∀(l:List P2) {pre:List P2} {b:Option P2},xM sq v pre b->xM sq v (pre++l) (l.foldl (nearS sq v) b)
 |[],pre,b,h=>by simpa using h
 |w::r,pre,b,h=>by
  have:=Ci r (N7 h w);simpa using this
theorem KT(sq:Rat)(v:P2)(l:List P2):xM sq v l (nearG sq v l):=by
 have:=Ci (sq:=sq) (v:=v) l (pre:=[]) (b:=none) (λw hw=>by simp at hw);unfold nearG;simpa using this
theorem spotsAt_snoc(sp:Spots)(t s:ByteArray)(v:P2):spotsAt (sp++[(t,v)]) s=spotsAt sp s++(if eqS t s=true then[v]else[]):=by
 unfold spotsAt eqS;rw[JZ,bH];congr 1
 by_cases h:(t.toList == s.toList)=true
 .simp[h]
 .simp[h]
theorem eqS_self(s:ByteArray):eqS s s=true:=by unfold eqS;simp
def SubS(sp sp':Spots):Prop:=∀s w,w∈spotsAt sp s->w∈spotsAt sp' s
theorem SubS.refl(sp:Spots):SubS sp sp:=λ_ _ h=>h
theorem SubS.trans{a b c:Spots}(h:SubS a b)(k:SubS b c):SubS a c:=λs w hw=>k s w (h s w hw)
theorem nG(sq:Rat)(sp:Spots)(s:ByteArray)(v:P2):((joinP sq sp s v).1=sp/\(joinP sq sp s v).2∈spotsAt sp s/\farR v (joinP sq sp s v).2<=sq) \/
 ((joinP sq sp s v).1=sp++[(s,v)]/\(joinP sq sp s v).2=v/\∀w∈spotsAt sp s,sq<farR v w):=by
 have h:=KT sq v (spotsAt sp s);unfold joinP;cases hn:nearG sq v (spotsAt sp s)with
 |none=>rw[hn]at h;exact .inr ⟨rfl,rfl,h⟩
 |some u=>rw[hn]at h;exact .inl ⟨rfl,h.1,h.2.1⟩
theorem SubS.snoc(sp:Spots)(t:ByteArray)(v:P2):SubS sp (sp++[(t,v)]):=λs w hw=>by rw[spotsAt_snoc];exact qX _ hw
theorem Jw(sq:Rat)(sp:Spots)(s:ByteArray)(v:P2):SubS sp (joinP sq sp s v).1:=by
 rcases nG sq sp s v with⟨h,_⟩|⟨h,_⟩<;>rw[h]
 .exact SubS.refl sp
 .exact SubS.snoc sp s v
theorem y7(sq:Rat)(sp:Spots)(s:ByteArray)(v:P2):(joinP sq sp s v).2∈spotsAt (joinP sq sp s v).1 s:=by
 rcases nG sq sp s v with⟨h,h1,_⟩|⟨h,h1,_⟩<;>rw[h]
 .exact h1
 .rw[h1,spotsAt_snoc,if_pos (eqS_self s)];simp
structure JLok (sq:Rat) (s:ByteArray) (i k:Nat) (sp:Spots) (l:List P2) (r:JL):Prop where
 len:r.ws.length=l.length
 sub:SubS sp r.sp
 mem:∀w∈r.ws,w∈spotsAt r.sp s
 cs:∀c∈r.cs,c.kind=1/\c.ent=i/\∃j v w,c.fin=k+j/\l[j]?=some v/\r.ws[j]?=some w/\c.src=some v/\c.dst=some w/\v≠w/\farR v w<=sq
theorem Dl(sq:Rat)(s:ByteArray)(i:Nat):∀(k:Nat) (sp:Spots) (l:List P2),JLok sq s i k sp l (joinL sq s i k sp l)
 |k,sp,[]=>⟨rfl,SubS.refl _,λw h=>by simp[joinL]at h,λc h=>by simp[joinL]at h⟩
 |k,sp,v::r=>by
  obtain⟨h1,h2,h3,h4⟩:=Dl sq s i (k+1) (joinP sq sp s v).1 r;refine⟨by simp[joinL,h1],(Jw sq sp s v).trans h2,λw hw=>?_,λc hc=>?_⟩
  .rcases pV.1 hw with rfl|hw
   .exact h2 s _ (y7 sq sp s v)
   .exact h3 w hw
  .rcases jP.1 hc with hc|hc
   .unfold jn at hc;split at hc
    .simp at hc
    .rename_i hne;simp at hc;subst hc;refine⟨rfl,rfl,0,v,_,rfl,rfl,rfl,rfl,rfl,hne, ?_⟩;rcases nG sq sp s v with⟨_,_,g⟩|⟨_,g,_⟩
     .exact g
     .exact absurd g.symm hne
   .obtain⟨q1,q2,j,a,b,q3,q4,q5,q6⟩:=h4 c hc;exact⟨q1,q2,j+1,a,b,ω,q4,q5,q6⟩
theorem eX(e:Ent):(aA e=[]/\∀l,l.length=0->dQ e l=e)\/(∃a b,e.kind=1/\e.pts=[a,b]/\aA e=[a,b])\/(∃a m b,e.kind=2/\e.pts=[a,m,b]/\aA e=[a,b]):=by
 obtain⟨kd,ly,pts,rd⟩:=e
 match pts with
 |[]=>exact .inl ⟨rfl,λl hl=>by cases l with|nil=>rfl|cons=>simp at hl⟩
 |[a]=>exact .inl ⟨rfl,λl hl=>by cases l with|nil=>rfl|cons=>simp at hl⟩
 |[a,b] =>
  by_cases h:kd=1
  .subst h;exact .inr (.inl ⟨a,b,rfl,rfl,rfl⟩)
  .exact .inl ⟨by simp[aA,h],λl hl=>by cases l with|nil=>rfl|cons=>simp at hl⟩
 |[a,m,b] =>
  by_cases h:kd=2
  .subst h;exact .inr (.inr ⟨a,m,b,rfl,rfl,rfl⟩)
  .exact .inl ⟨by simp[aA,h],λl hl=>by cases l with|nil=>rfl|cons=>simp at hl⟩
 |_::_::_::_::_=>exact .inl ⟨rfl,λl hl=>by cases l with|nil=>rfl|cons=>simp at hl⟩
theorem l9{e:Ent}{l:List P2}(h:l.length=(aA e).length):aA (dQ e l)=l/\(dQ e l).layer=e.layer/\(dQ e l).kind=e.kind/\(dQ e l).pts.length=e.pts.length/\(dQ e l).rad=e.rad:=by
 obtain⟨kd,ly,pts,rd⟩:=e;rcases eX ⟨kd,ly,pts,rd⟩with⟨h1,h2⟩|⟨a,b,h1,h2,h3⟩|⟨a,m,b,h1,h2,h3⟩
 .rw[h1]at h;rw[h2 l h,h1];exact⟨(BQ h).symm,rfl,rfl,rfl,rfl⟩
 .simp only at h1 h2;subst h1 h2;rw[h3]at h
  match l,h with
  |[x,y],_=>exact⟨rfl,rfl,rfl,rfl,rfl⟩
 .simp only at h1 h2;subst h1 h2;rw[h3]at h
  match l,h with
  |[x,y],_=>exact⟨rfl,rfl,rfl,rfl,rfl⟩
theorem F9(e:Ent):dQ e (aA e)=e:=by
 obtain⟨kd,ly,pts,rd⟩:=e;rcases eX ⟨kd,ly,pts,rd⟩with⟨h1,h2⟩|⟨a,b,h1,h2,h3⟩|⟨a,m,b,h1,h2,h3⟩
 .exact h2 _ (by rw[h1];rfl)
 .simp only at h1 h2;subst h1 h2;rfl
 .simp only at h1 h2;subst h1 h2;rfl
structure JAok (sq:Rat) (i:Nat) (sp:Spots) (l:List Ent) (r:JA):Prop where
 len:r.es.length=l.length
 sub:SubS sp r.sp
 ent:∀(j:Nat) e e',l[j]?=some e->r.es[j]?=some e'->∃ws,ws.length=(aA e).length/\e'=dQ e ws/\∀w∈ws,w∈spotsAt r.sp e.layer
 cs:∀c∈r.cs,c.kind=1/\∃j e e' k v w,c.ent=i+j/\l[j]?=some e/\r.es[j]?=some e'/\c.fin=k/\(aA e)[k]?=some v/\(aA e')[k]?=some w/\c.src=some v/\c.dst=some w/\v≠w/\farR v w<=sq
theorem rX(sq:Rat):∀(i:Nat) (sp:Spots) (l:List Ent),JAok sq i sp l (bT sq i sp l)
 |i,sp,[]=>⟨rfl,SubS.refl _,λj e e' h=>by simp at h,λc h=>by simp[bT]at h⟩
 |i,sp,e::r=>by
  obtain⟨a1,a2,a3,a4⟩:=Dl sq e.layer i 0 sp (aA e);obtain⟨h1,h2,h3,h4⟩:=rX sq (i+1) (joinL sq e.layer i 0 sp (aA e)).sp r;refine⟨by simp[bT,h1],a2.trans h2,λj x x' hx hx'=>?_,λc hc=>?_⟩
  .cases j with
   |zero =>
    simp[bT]at hx hx';subst hx hx';exact⟨_,a1,rfl,λw hw=>h2 _ _ (a3 w hw)⟩
   |succ j=>exact h3 j x x' (by simpa using hx) (by simpa[bT]using hx')
  .rcases jP.1 hc with hc|hc
   .obtain⟨q1,q2,j,v,w,q3,q4,q5,q6,q7,q8⟩:=a4 c hc;refine⟨q1,0,e,_,j,v,w,ω,rfl,rfl,ω,q4, ?_,q6,q7,q8⟩;rw[(l9 a1).1];exact q5
   .obtain⟨q1,j,x,x',k,v,w,q2,q3,q4,q5⟩:=h4 c hc;exact⟨q1,j+1,x,x',k,v,w,ω,by simpa using q3,by simpa[bT]using q4,q5⟩
open Go.RowKit
section
variable {P:Program} {ρ:Operand->Value} {w:World} {d:Option Tmp} {ty:TypeId} {pos:String} {af:Array Edge} {gd:Option (Nat × Bool)}
theorem ex_nilp{x:Operand}{ad:Addr}(hx:ρ x=.pointer (some ad)):(execOp ρ ⟨d,.nilCheck x,ty,pos,af,gd⟩).run P w=.ok (.value (.pointer (some ad))) w:=by
 simp[execOp,hx]
theorem ex_lookup{t:TypeId}{x y:Operand}{g0:Nat}{k v:Value}(hx:ρ x=.map (some g0))(hy:ρ y=k)(h:(Instr.lookup t (.map (some g0)) k false).run P w=.ok v w):(execOp ρ ⟨d,.lookup t x y false,ty,pos,af,gd⟩).run P w=.ok (.value v) w:=by
 simp[execOp,hx,hy,h,Result.andThen]
theorem ex_mapUpdate{t:TypeId}{x y z:Operand}{g0:Nat}{k v:Value}{w':World}(hx:ρ x=.map (some g0))(hy:ρ y=k)(hz:ρ z=v)(h:(Instr.mapUpdate t (.map (some g0)) k v).run P w=.ok () w'):(execOp ρ ⟨d,.mapUpdate t x y z,ty,pos,af,gd⟩).run P w=.ok .skip w':=by
 simp[execOp,hx,hy,hz,h,Result.andThen]
theorem ex_append{t:TypeId}{x y:Operand}{u v r:Value}{w':World}(hx:ρ x=u)(hy:ρ y=v)(h:(Builtin.append_ #[t,t] ty #[u,v]).run P w=.ok r w'):(execOp ρ ⟨d,.call ⟨.builtin .append,#[x,y],#[t,t]⟩,ty,pos,af,gd⟩).run P w=.ok (.value r) w':=by
 have hu : #[x,y].map ρ = #[u,v]:=by simp[hx,hy]
 simp only[execOp,resolve,invoke,builtin,hu,Sem.run_bind,Sem.run_pure,Result.andThen_ok];rw[h];simp
theorem ex_makeMap{t:TypeId}:(execOp ρ ⟨d,.makeMap t none,ty,pos,af,gd⟩).run P w=.ok (.value (.map (some w.heap.size))) (w.alloc (.map #[] 0)):=by
 simp[execOp,run_makeMap]
theorem ex_lit8{t e:TypeId}{by_:Nat}{z:Array Value}{x:Operand}{cs:Array Value}(ht:sliceOf P t=some (e,8))(he:Sw.elemOf P e=some (z,8,by_))(hz:z.size=8)(hx:ρ x=.agg cs)(hc:cs.size=8):
 (execOp ρ ⟨d,.buildSlice t 1 #[(0,x)],ty,pos,af,gd⟩).run P w=.ok (.value (.slice (some ⟨w.heap.size,0,none⟩) 1 1)) (w.alloc (.cells cs e)):=by
 have hfill:Instr.fill (λi=>some (i*8,8)) (madeCells z (1*8)) [(0,.agg cs)]=some cs:=by
  obtain⟨l⟩:=cs
  match l,hc with
  |[a0,a1,a2,a3,a4,a5,a6,a7],_ =>
  obtain⟨zl⟩:=z
  match zl,hz with
  |[z0,z1,z2,z3,z4,z5,z6,z7],_=>simp[Instr.fill,madeCells,Value.cells,show Array.range 8 = #[0,1,2,3,4,5,6,7] by decide]
 have hr:=run_lit (P:=P) (w:=w) (n:=1) (parts:=#[(0,.agg cs)]) ht he ω ω hfill;simp only[execOp,Sem.run_bind];have:(#[(0,x)]:Array (Nat×Operand)).map (λp=>(p.1,ρ p.2)) = #[(0,.agg cs)]:=by simp[hx]
 rw[this,hr];simp
theorem ex_build15{t:TypeId}{x y:Operand}{u:Value}{cs:Array Value}(hx:ρ x=u)(hu:u.cells = #[u])(hy:ρ y=.agg cs)(h:(Instr.build t #[(0,u),(1,.agg cs)]).run P w=.ok (.agg (#[u]++cs)) w):
 (execOp ρ ⟨d,.build t #[(0,x),(1,y)],ty,pos,af,gd⟩).run P w=.ok (.value (.agg (#[u]++cs))) w:=by
 simp only[execOp,Sem.run_bind];have:(#[(0,x),(1,y)]:Array (Nat×Operand)).map (λp=>(p.1,ρ p.2)) = #[(0,u),(1,.agg cs)]:=by simp[hx,hy]
 rw[this,h];simp
end
theorem SlotR.inv{w:World}{X:List Nat}{T:TypeId}{s:Nat}{more:List Bx}{v:Value}{es:List (List Cell)}{og:Option Nat}(h:SlotR w X T s more v es og)(h0:0<es.length):∃g cap uss rest,v=.slice (Option.some ⟨g,0,none⟩) es.length cap/\og=Option.some g/\((g,T,(List.flatten uss++rest).toArray):Bx)∈more/\RepS w X s uss es/\cap*s=(List.flatten uss++rest).length/\es.length<=cap:=by
 cases h with
 |no=>simp at h0
 |some hm hr hc hx hn h0=>exact⟨_,_,_,_,rfl,rfl,hm,hr,hc,hn⟩
theorem SlotR.row{w:World}{X:List Nat}{T:TypeId}{s:Nat}{more:List Bx}{v:Value}{es:List (List Cell)}{og:Option Nat}(h:SlotR w X T s more v es og)(hm:∀q:Bx,q∈more->w.heap[q.1]?=Option.some (Obj.cells q.2.2 q.2.1 (0,0))):∃uss,RepS w X s uss es/\w.ownsRow 0 T s v es.length uss.flatten/\v.ownBlock=og:=by
 cases h with
 |no=>exact⟨[],.nil _ _ _,⟨η,.inl ⟨rfl,rfl⟩⟩,rfl⟩
 |some hm' hr hc hx hn h0 =>
  rename_i g cap uss rest;refine⟨uss,hr,⟨by rw[flatten_len hr.sz,hr.len],.inr ⟨g,cap,_,rfl,jd _,hm _ hm',hn,hx,by simpa using hc.symm, ?_⟩⟩,rfl⟩;rw[JX];have:uss.flatten.length=es.length*s:=by rw[flatten_len hr.sz,hr.len]
  rw[<-this,List.take_left' rfl]
theorem ownsRow_keep{w w':World}{T:TypeId}{s n:Nat}{v:Value}{xs:List Value}(h:w.ownsRow 0 T s v n xs)(hk:∀i,i<w.heap.size->w'.heap[i]?=w.heap[i]?):w'.ownsRow 0 T s v n xs:=by
 refine⟨h.1, ?_⟩;rcases h.2 with h|⟨g,cap,cur,h1,h2,h3,h4⟩
 .exact .inl h
 .exact .inr ⟨g,cap,cur,h1,h2,(hk g (lt_of_heap h3)).trans h3,h4⟩
section
variable {P:Program} {ρ:Operand->Value} {w:World} {d:Option Tmp} {ty:TypeId} {pos:String} {af:Array Edge} {gd:Option (Nat × Bool)} {Q:Exit->Act->World->Prop} {l:List Oper}
theorem ex_store{t:TypeId}{x y:Operand}{p v:Value}{w':World}(hx:ρ x=p)(hy:ρ y=v)(h:(Instr.storeAt t p v).run P w=.ok () w'):(execOp ρ ⟨d,.store t x y,ty,pos,af,gd⟩).run P w=.ok .skip w':=by
 simp only[execOp,hx,hy,Sem.run_bind,h,Result.andThen_ok,Sem.run_pure]
theorem fl_valw{i e:Nat}{o:Oper}{a:Act}{w':World}{K:Act->World->Prop}{v:Value}(ho:l[i]?=some o)(hg:o.guard=none)(hd:o.dst=some e)(hr:(execOp a.eval o).run P w=.ok (.value v) w')(hK:K (a.put (some e) v) w'):wpOp P l.toArray Q i K a w:=by
 refine wop ho hg ?_;unfold Oper.wp;rw[hr];simp only[Oper.upon,hd];exact hK
theorem fl_skipw{i:Nat}{o:Oper}{a:Act}{w':World}{K:Act->World->Prop}(ho:l[i]?=some o)(hg:o.guard=none)(hd:o.dst=none)(hr:(execOp a.eval o).run P w=.ok .skip w')(hK:K (a.put none undef) w'):wpOp P l.toArray Q i K a w:=by
 refine wop ho hg ?_;unfold Oper.wp;rw[hr];simp only[Oper.upon,hd];exact hK
theorem splice_all{us vs:Array Value}(h:us.size=vs.size):splice us 0 vs=vs:=by
 have:=splice_list us.toList vs.toList 0;simp only[Array.toArray_toList]at this;rw[this];have hd:List.drop vs.size us.toList=[]:=U0 (by simp[h]);simp[hd]
end
theorem wp_split{P:Program}{ops:Array Oper}{Q:Exit->Act->World->Prop}{l:List Oper}{a:Act}{w:World}(n:Nat)(h:wpList P ops Q (l.take n++l.drop n) a w):wpList P ops Q l a w:=by
 rwa [Gg]at h
theorem fin_res{P:Program}{fn:Func}{R:Ending->World->Prop}{a:Act}{w:World}{r:ResultVar}{u:Value}(hr:fn.results.toList=[r])(hd:a.defers=[])(h1:(resRun a.tmps r).run P w=.ok u w)(hR:R (.returned u) w):bodyPost P fn R .ret a w :=
 ⟨hd,u,by rw[run_results,Sem.run_bind,Ue,hr];simp[h1],hR⟩
@[reducible] def vecC(p:P2):List Cell:=[zs p.1.num,zl p.1.num,zs p.1.den,zl p.1.den,zs p.2.num,zl p.2.num,zs p.2.den,zl p.2.den]
@[reducible] def ratC(q:Rat):List Cell:=[zs q.num,zl q.num,zs q.den,zl q.den]
def jst(sq:Rat)(sp:Spots)(n:Nat):JS:=⟨ratC sq,λs=>(spotsAt sp s).map vecC,n⟩
theorem eqS_iff{a b:ByteArray}:eqS a b=true↔a=b:=by
 unfold eqS;constructor
 .intro h;have:=eq_of_beq h;rw[ByteArray.toList_eq,ByteArray.toList_eq]at this;have h2:a.data=b.data:=yD this;cases a;cases b;simp_all
 .rintro rfl;simp
theorem jst_add(sq:Rat)(sp:Spots)(n:Nat)(s:ByteArray)(v:P2):(jst sq sp n).add s (vecC v)=jst sq (sp++[(s,v)]) (n+1):=by
 unfold jst JS.add;congr 1
 funext x
 rw[spotsAt_snoc]
 by_cases h:x=s
 .subst h;rw[if_pos rfl,if_pos (eqS_self x)];simp
 .rw[if_neg h,if_neg (λe=>h (eqS_iff.1 e).symm)];simp
def bestI(sq:Rat)(v:P2)(l:List P2):Nat->Int
 |0=>-1
 |i+1=>if farR v (l.getD i P0)<=sq/\(bestI sq v l i<0\/farR v (l.getD i P0)<farR v (l.getD (bestI sq v l i).toNat P0))then(i:Int)else bestI sq v l i
theorem bestI_ok(sq:Rat)(v:P2)(l:List P2):∀i,i<=l.length→-1<=bestI sq v l i/\bestI sq v l i<i/\nearG sq v (l.take i)=(if bestI sq v l i<0 then none else some (l.getD (bestI sq v l i).toNat P0))
 |0,_=>⟨by simp[bestI],by simp[bestI],by simp[bestI,nearG]⟩
 |i+1,hi=>by
  obtain⟨h1,h2,h3⟩:=bestI_ok sq v l i ω;have hlt:i<l.length:=ω
  have ht:l.take (i+1)=l.take i++[l.getD i P0]:=by
   rw[List.take_add_one];simp[fM hlt,iI]
  have hn:nearG sq v (l.take (i+1))=nearS sq v (nearG sq v (l.take i)) (l.getD i P0):=by
   rw[ht];unfold nearG;rw[List.foldl_append];rfl
  rw[hn,h3,show bestI sq v l (i+1)=if farR v (l.getD i P0)<=sq/\(bestI sq v l i<0\/farR v (l.getD i P0)<farR v (l.getD (bestI sq v l i).toNat P0))then(i:Int)else bestI sq v l i from rfl];unfold nearS
  by_cases q1:farR v (l.getD i P0)<=sq
  .by_cases q2:bestI sq v l i<0
   .rw[if_pos ⟨q1,.inl q2⟩,if_pos q1,if_pos q2];refine⟨ω,ω, ?_⟩;rw[if_neg ω];simp
   .rw[if_neg q2,if_pos q1]
    by_cases q3:farR v (l.getD i P0)<farR v (l.getD (bestI sq v l i).toNat P0)
    .rw[if_pos ⟨q1,.inr q3⟩];refine⟨ω,ω, ?_⟩;simp only[q3,if_true];rw[if_neg ω];simp
    .rw[if_neg (λh=>by rcases h.2 with h|h;exact q2 h;exact q3 h)];refine⟨ω,ω, ?_⟩;simp only[q3,if_false,q2]
  .rw[if_neg (λh=>q1 h.1),if_neg q1];exact⟨ω,ω,rfl⟩
section
variable {P:Program} [Wld P] {a:Act} {w:World}
theorem wp1c{ops:Array Oper}{Q:Exit->Act->World->Prop}{o:Oper}{rest:List Oper}{f:FuncId}{vs:Array Value}{R:Value->World->Prop}(hg:o.guard=none)(hr:(execOp a.eval o).run P w=.ok (.enter f vs) w)(hc:Calls P f vs w (Ret R))(k:∀u w',R u w'->wpList P ops Q rest (a.put o.dst u) w'):wpList P ops Q (o::rest) a w :=
 wpList_plain hg λK hK=>Does.wp (R:=R) (.inr (.inr ⟨f,vs,hr,hc⟩)) (λu w' h=>hK _ _ (k u w' h))
theorem run_build15{t:TypeId}{z:List Cell}(htt:tiOk P t (.row 5 [(0,1,false),(1,4,true)] z)=true)(hzl:z.length=5){g0:Nat}{us:List Value}(hl:us.length=4):(Instr.build t #[(0,.map (some g0)),(1,.agg us.toArray)]).run P w=.ok (.agg (#[.map (some g0)]++us.toArray)) w:=by
 obtain⟨fl,hun,hfl⟩:=rowT htt;obtain⟨zz,hz,hzz⟩:=zero_of htt rfl;have hzr:=(zsOk_rep w [] hzz).len
 match us,hl with
 |[x0,x1,x2,x3],_ =>
 obtain⟨zl⟩:=zz;have hzl':zl.length=5:=by simpa[hzl,zeroCells]using hzr
 match zl,hzl' with
 |[y0,y1,y2,y3,y4],_ =>
 unfold zeroOf at hz;cases hq:P.info? t with
 |none=>simp[hq]at hz
 |some i =>
  cases hzi:i.zero with
  |none=>simp[hq,hzi]at hz
  |some v =>
   simp[hq,hzi]at hz;have hr:=run_places (w:=w) hfl
   have hr':(fl.mapM (m:=Sem) λf=>Prod.mk f.offset <$> sizeOf f.type).run P w=.ok #[(0,1),(1,4)] w:=by
    rw[Ue];simp[hr]
   have h1':Instr.fill (λi=>(#[(0,1),(1,4)]:Array (Nat×Nat))[i]?) v.cells [(0,.map (some g0)),(1,.agg #[x0,x1,x2,x3])]=some #[.map (some g0),x0,x1,x2,x3]:=by
    rw[hz];simp[Instr.fill,Value.cells,show Array.range 4 = #[0,1,2,3] by decide,show Array.range 1 = #[0] by decide]
   simp only[Instr.build,zeroValue,typeInfo,Sem.run_bind];simp[hq,hzi,run_underlying hun,hr'];simp at h1';simp[h1']
theorem map2{α β:Type}{f:α->β}{x y:α}{u v:β}(h1:f x=u)(h2:f y=v):#[x,y].map f = #[u,v]:=by simp[h1,h2]
variable [Kp] {N:Nat} {w0:World} {X0:List Nat} {S:List Bx} {M:MM} {e:Env} {b:Bxs}
theorem Sta.var(h:Sta N w0 X0 S M a w e b){t i:Nat}{cs:List Cell}(hx:ld t e=some (.ptr i 0))(hb:ld i b=some (.var cs)):∃g T us,a.tmps.getD t undef=.pointer (some ⟨g,0,none⟩)/\w.heap[g]?=some (.cells us T (0,0))/\RepL w (bl S++X0) us.toList cs:=by
 obtain⟨m,g,hm,hv,hg,hxe⟩:=(h.env t _ hx).ptr_;obtain⟨m',hm',h1,h2,⟨g',h3⟩,h4⟩:=h.box i _ hb;rw[hm]at hm';cases hm';have h8:=h.ms.st.box _ (h.ms.inS i m hm h2 g hg);exact⟨g,m.T,_,hxe,h8.1,by simpa using h4⟩
theorem RepF.agg{B:Nat}{w:World}{X:List Nat}{u:Value}{cs:List Cell}(h:RepF B w X u (.agg cs)):∃us:List Value,u=.agg us.toArray/\RepL w X us cs:=by
 cases h.r with
 |d h=>cases h with
  |agg h=>exact⟨_,rfl,h⟩
end
theorem below_alloc(w:World)(o:Obj):Below w.heap.size w (w.alloc o):=⟨rfl,rfl,rfl,(by show w.heap.size<=(w.heap.push _).size;rw[Array.size_push];omega),λk hk=>Below.heap_alloc w o k hk⟩
theorem heap_new(w:World)(o:Obj):(w.alloc o).heap[w.heap.size]?=some o:=Array.getElem?_push_size
theorem jrep0{P:Program}{kT T:TypeId}{s:Nat}{sq:List Cell}{w:World}{X:List Nat}{us:List Value}{g0 n:Nat}(h:RepL w X us sq):jrep P kT T s ⟨sq,λ_=>[],n⟩ w X (.map (some g0)::us) [] (g0,#[],0) :=
 ⟨us,rfl,h,⟨jd _,⟨λ_ h=>(by simp at h),η,η⟩,λ_ h=>(by simp at h)⟩,jd _,λ_ => .slice none 0 0,λ_=>none,λk=>rfl,λk => .no,λ_ _ _ h=>by cases h⟩
section
variable {P:Program} [Wld P] [Kp] {N:Nat} {w0:World} {X0:List Nat} {S:List Bx} {M:MM} {e:Env} {b:Bxs} {a:Act} {w:World}
theorem Sta.varo(h:Sta N w0 X0 S M a w e b){i:Nat}{T:TypeId}{us:List Value}{cs:List Cell}(hi:ld i b=none)(hie:mention [i] e=false)(hib:mentionB [i] b=false)(hic:i ∉ obsC cs)(hiN:DL N i)
 (hO:RepO w (bl S++X0) M us cs):Conc N w0 X0 ((i,.ptr i 0)::e) ((i,.varo cs)::b) (a.put (some i) (.pointer (some ⟨w.heap.size,0,none⟩))) (w.alloc (.cells us.toArray T)):=by
 have hms:=h.ms.alloc (i:=i) (m:=⟨true,true,some w.heap.size,T,0,0,0,us,none⟩) rfl rfl rfl rfl;have hext:Ext w (bl S++X0) (w.alloc (.cells us.toArray T)) (bl ((w.heap.size,T,us.toArray)::S)++X0):=Ext.alloc _ _ _
 have hM:∀c,c≠i->∀m,M c=some m->(M.set i ⟨true,true,some w.heap.size,T,0,0,0,us,none⟩) c=some m:=λc hc m hm=>by
  rw[MM.set_other _ _ hc];exact hm
 refine⟨_,_,hms,h.x0,by simp[Act.put,h.sz],⟨df_put h.df.1 hiN,h.df.2.ext hext⟩,λt v hv=>?_,λc x hx=>?_⟩
 .by_cases hti:i=t
  .subst hti;rw[ld_cons_self]at hv;cases hv;rw[getD_put_same _ h.sz hiN.1];exact .ptr (MM.set_same _ _ _) rfl rfl
  .rw[ld_cons_ne _ _ hti]at hv;rw[getD_put_other _ hti];exact(h.env t v hv).ext hext λj hj m hm=>⟨m,hM j (λe=>by subst e;exact mention_no hie hv j hj η) m hm,Comp.refl m⟩
 .by_cases hci:i=c
  .subst hci;rw[ld_cons_self]at hx;cases hx;exact⟨_,MM.set_same _ _ _,rfl,rfl,⟨_,rfl⟩,hO.ext hext λd hd mc hmc=>⟨mc,hM d (λe=>by subst e;exact hic hd) mc hmc,Comp.refl mc⟩⟩
  .rw[ld_cons_ne _ _ hci]at hx;obtain⟨m,h1,h2⟩:=h.box c x hx;exact⟨m,hM c (λe=>hci e.symm) m h1,h2.ext hext λd hd mc hmc=>⟨mc,hM d (λe=>by subst e;exact mentionB_no hib c x hx d hd η) mc hmc,Comp.refl mc⟩⟩
end
def cutC:Nat->Code->Code
 |n+1,.seq x y => .seq x (cutC n y)
 |_,_ => .skip
def restC:Nat->Code->Code
 |n+1,.seq x y=>restC n y
 |_,c=>c
section
variable {P:Program} [Wld P] [Kp] {τ:Tab} {N:Nat} {w0:World} {X0:List Nat} [hwo:WOk P w0]
theorem cut_ok(hτ:tabOk P τ=true)(hm:P.follows .mixedOrders=true):∀(n:Nat) (c:Code) {QA:Ex->Env->Bxs->Prop} {Q:Exit->Act->World->Prop} {e:Env} {b:Bxs} {a:Act} {w:World},textOk N (cutC n c)=true->awp (Den P) τ (cutC n c) QA e b->Conc N w0 X0 e b a w ->
 (∀e b a w,QA .normal e b->Conc N w0 X0 e b a w->(restC n c).wp P Q a w)->(∀x e b a w,x ≠ .normal->QA x e b->Conc N w0 X0 e b a w->Q x.x a w)->c.wp P Q a w
 |0,c,QA,Q,e,b,a,w,ht,hk,hc,h1,h2=>by
  have hk':QA .normal e b:=by cases c<;>exact hk
  have:=h1 e b a w hk' hc;cases c<;>exact this
 |n+1,c,QA,Q,e,b,a,w,ht,hk,hc,h1,h2=>by
  cases c with
  |seq x y =>
   simp only[cutC,textOk,bY]at ht;refine c_seq (awp_ok hτ hm x ht.1 hk hc λz e b a w hz hc=>?_);cases z with
   |normal=>exact x_tn (cut_ok hτ hm n y ht.2 hz hc h1 h2)
   |ret=>exact x_tr (h2 .ret _ _ _ _ (by intro h;cases h) hz hc)
   |exit id=>exact x_te (h2 (.exit id) _ _ _ _ (by intro h;cases h) hz hc)
  |_=>exact h1 e b a w hk hc
end
section
variable {P:Program} [Wld P] [Kp] {N:Nat} {w0:World} {X0:List Nat} {e:Env} {b:Bxs} {a:Act} {w:World}
theorem Conc.ghostF(h:Conc N w0 X0 e b a w){i j T s k:Nat}{cs:List Cell}(hb:ld j b=some (.var cs))(hk:cs[k]?=some (.v (.slice none 0 0)))(hie:mention [i] e=false)(hi:ld i b=none)(hs:0<s)(hib:mentionB [i] b=false):Conc N w0 X0 e ((i,.grow T s [])::up j (.varo (cs.set k (.ob i 0))) b) a w:=by
 obtain⟨S,M,h⟩:=h;have hij:i≠j:=λe=>by subst e;rw[hi]at hb;cases hb
 have hM:∀c,c≠i->∀m,M c=some m->(M.set i ⟨false,true,none,T,s,0,0,[],none⟩) c=some m:=λc hc m hm=>by rw[MM.set_other _ _ hc];exact hm
 refine⟨S,M.set i ⟨false,true,none,T,s,0,0,[],none⟩,⟨h.ms.st,h.ms.gh.set (λx hx=>by cases hx) (λ_ _ _ _ _ _ _ h=>h) (λ_ _ _ h=>h) (λg' h1 h2=>by cases h2),λc mc hc hco gc hgc=>?_,λc c' mc mc' gc h1 h2 h3 h4 h5 h6=>?_⟩,h.x0,h.sz,h.df,λc v hv=>?_,λc x hx=>?_⟩
 .by_cases hci:c=i
  .subst hci;rw[MM.set_same]at hc;cases hc;cases hgc
  .rw[MM.set_other _ _ hci]at hc;exact h.ms.inS c mc hc hco gc hgc
 .by_cases hci:c=i
  .subst hci;rw[MM.set_same]at h1;cases h1;cases h5
  .by_cases hci':c'=i
   .subst hci';rw[MM.set_same]at h2;cases h2;cases h6
   .rw[MM.set_other _ _ hci]at h1;rw[MM.set_other _ _ hci']at h2;exact h.ms.inj c c' mc mc' gc h1 h2 h3 h4 h5 h6
 .refine(h.env c v hv).ext (Ext.refl _ _) λj hj m hm'=>⟨m, ?_,Comp.refl m⟩
  have hne:j≠i:=λe=>by subst e;exact mention_no hie hv j hj η
  rw[MM.set_other _ _ hne];exact hm'
 .by_cases hci:i=c
  .subst hci;rw[ld_cons_self]at hx;cases hx;exact⟨_,MM.set_same _ _ _,rfl,rfl,rfl,⟨rfl,hs⟩,rfl,.inl ⟨rfl,rfl,rfl⟩⟩
  .rw[ld_cons_ne _ _ hci,ld_up]at hx
   by_cases hcj:j=c
   .subst hcj;simp only[beq_self_eq_true,Nat.beq_refl,cond_true,if_true]at hx;cases hx;obtain⟨m,h1,q1,q2,q3,q4⟩:=h.box j _ hb;refine⟨m,hM j (λe=>hij e.symm) m h1,q1,q2,q3,by rw[q4.len,kF],λt u c hu hc=>?_⟩
    by_cases htk:t=k
    .subst htk;have hlt:t<cs.length:=(jG.1 hk).1;rw[List.getElem?_set_self hlt]at hc;cases hc;have h5:=q4.get t u _ hu hk;have h6:u=.slice none 0 0:=by cases h5 with|v u h=>rfl
     subst h6;exact .ob (.gs (MM.set_same _ _ _) rfl (gW _) (λ_=>rfl) ⟨_,_,rfl⟩) rfl
    .rw[List.getElem?_set_ne (λe=>htk e.symm)]at hc;exact .c (q4.get t u c hu hc)
   .have hne:ld c b=some x:=by rwa [if_neg (λe=>hcj e.symm)]at hx
    obtain⟨m,h1,h2⟩:=h.box c x hne;exact⟨m,hM c (λe=>hci e.symm) m h1,h2.ext (Ext.refl _ _) λd hd mc hmc=>⟨mc,hM d (λe=>by subst e;exact mentionB_no hib c x hne d hd η) mc hmc,Comp.refl mc⟩⟩
end
section
variable {P:Program} [Wld P] [Kp] {N:Nat} {w0:World} {X0:List Nat} {e:Env} {b:Bxs} {a:Act} {w:World}
theorem RepS.cut{w:World}{X:List Nat}{s:Nat}{us:List (List Value)}{cs:List (List Cell)}(h:RepS w X s us cs)(k:Nat):RepS w X s (us.take k) (cs.take k) :=
 ⟨by simp[h.len],λu hu=>h.sz u (Uh hu),λj u c x y=>by
  rw[wL]at x y;split at x
  .rename_i hj;rw[if_pos hj]at y;exact h.get j u c x y
  .cases x⟩
theorem Conc.nilS(h:Conc N w0 X0 e b a w){t s:Nat}(ht:ld t e=some (.c (.v (.slice none 0 0)))):Conc N w0 X0 ((t,.c (.sl s []))::e) b a w:=by
 obtain⟨S,M,h⟩:=h;refine⟨S,M,h.ms,h.x0,h.sz,h.df,λc v hv=>?_,h.box⟩
 by_cases htc:t=c
 .subst htc;rw[ld_cons_self]at hv;cases hv;rw[(h.env t _ ht).v_];exact .d (.c (RepC.nil _ _ _))
 .rw[ld_cons_ne _ _ htc]at hv;exact h.env c v hv
theorem Conc.shrink(h:Conc N w0 X0 e b a w){t i T s k d:Nat}{es:List (List Cell)}{e':Env}(ht:ld t e=some (.gs i es.length))(hb:ld i b=some (.grow T s es))(hk:k<=es.length)(hd:DL N d)(hs:SubE e' e)(hm:mention [i] e'=false)(hmb:mentionB [i] b=false):
 ∃A cap,a.tmps.getD t undef=.slice A es.length cap/\es.length<=cap/\Conc N w0 X0 ((d,.gs i k)::e') (up i (.grow T s (es.take k)) b) (a.put (some d) (.slice A k cap)) w:=by
 obtain⟨S,M,h⟩:=h;obtain⟨m,h1,q1,q2,q3,⟨q4,q4'⟩,q5,q6⟩:=h.box i _ hb
 have hu:a.tmps.getD t undef=hdr m:=by
  have hv:=h.env t _ ht;generalize a.tmps.getD t undef=u at hv;cases hv with
  |gs hm' hv' hle h' hu'=>rw[h1]at hm';cases hm';exact h' q5
  |d hd=>cases hd
 have hcap:es.length<=m.cap:=by
  rcases q6 with⟨_,q,_⟩|⟨g,uss,rest,_,_,_,_,_,q⟩
  .rw[q];exact jd _
  .omega
 refine⟨m.g.map λg=>⟨g,0,none⟩,m.cap,by rw[hu,<-q5];rfl,hcap,S,M.set i { m with n:=k },⟨h.ms.st,h.ms.gh.set (λx hx=>⟨m,h1,hx⟩) (λ_ _ _ _ _ _ _ h=>h) (λ_ _ _ h=>h) (λg' k1 k2 => .inl ⟨m,h1,k1,k2⟩),λc mc hc hco gc hgc=>?_,λc c' mc mc' gc k1 k2 k3 k4 k5 k6=>?_⟩,h.x0,by simp[Act.put,h.sz],⟨df_put h.df.1 hd,h.df.2⟩,λc v hv=>?_,λc x hx=>?_⟩
 .by_cases hci:c=i
  .subst hci;rw[MM.set_same]at hc;cases hc;exact h.ms.inS c m h1 hco gc hgc
  .rw[MM.set_other _ _ hci]at hc;exact h.ms.inS c mc hc hco gc hgc
 .by_cases hci:c=i
  .subst hci;rw[MM.set_same]at k1;cases k1
   by_cases hci':c'=c
   .exact hci'.symm
   .rw[MM.set_other _ _ hci']at k2;exact h.ms.inj c c' m mc' gc h1 k2 k3 k4 k5 k6
  .rw[MM.set_other _ _ hci]at k1
   by_cases hci':c'=i
   .subst hci';rw[MM.set_same]at k2;cases k2;exact h.ms.inj c c' mc m gc k1 h1 k3 k4 k5 k6
   .rw[MM.set_other _ _ hci']at k2;exact h.ms.inj c c' mc mc' gc k1 k2 k3 k4 k5 k6
 .by_cases hdc:d=c
  .subst hdc;rw[ld_cons_self]at hv;cases hv;rw[getD_put_same _ h.sz hd.1];exact .gs (MM.set_same _ _ _) q1 (gW _) (λ_=>rfl) ⟨_,_,rfl⟩
  .rw[ld_cons_ne _ _ hdc]at hv;rw[getD_put_other _ hdc];refine(h.env c v (hs.get hv)).ext (Ext.refl _ _) λj hj mj hmj=>⟨mj, ?_,Comp.refl mj⟩
   have hne:j≠i:=λe=>by subst e;exact mention_no hm hv j hj η
   rw[MM.set_other _ _ hne];exact hmj
 .rw[ld_up]at hx
  by_cases hci:c=i
  .subst hci;rw[if_pos rfl]at hx;cases hx;refine⟨_,MM.set_same _ _ _,q1,q2,q3,⟨q4,q4'⟩,κ, ?_⟩;rcases q6 with⟨z1,z2,z3⟩|⟨g,uss,rest,z1,z2,z3,z4,z5,z6⟩
   .exact .inl ⟨z1,by rw[z2,List.take_nil],z3⟩
   .refine .inr ⟨g,uss.take k,(uss.drop k).flatten++rest,z1, ?_,z3.cut k,z4,z5,by show k<=m.cap;omega⟩;show m.us=_;rw[z2,<-jQ,<-List.flatten_append,Gg]
  .rw[if_neg hci]at hx;obtain⟨mc,k1,k2⟩:=h.box c x hx;refine⟨mc,by rw[MM.set_other _ _ hci];exact k1,k2.ext (Ext.refl _ _) λj hj mj hmj=>⟨mj, ?_,Comp.refl mj⟩⟩;have hne:j≠i:=λe=>by subst e;exact mentionB_no hmb c x hx j hj η
   rw[MM.set_other _ _ hne];exact hmj
end
end Go.Sw
namespace Go.Proofs.YtmniihkenijjpaaGreatDoor
open Go Go.RowKit Go.Sw
set_option maxRecDepth 100000
set_option maxHeartbeats 16000000
instance(priority:=2000) aaN(y R:Nat):DenI Tryz.prog 142 [.c (.sl 1 ([cellsOf (.c (.v (u32 y)))]++(lim R).map λx=>[.v (u32 x)]))] (y<1000000000) (.c (lmc (lim (y+1000000000*R)))):=⟨λhp=>by rw [<- Fj y R hp];exact (inferInstance:DenI Tryz.prog 142 [.c (lmc ([y]++lim R))] True (.c (lmc (ah ([y]++lim R))))).den trivial⟩
instance ads(a:List Nat):DenI Tryz.prog 194 [.c (lmc a),.int .u32 (IntKind.u32.wrap 999999999)] (a.length<=1000000000000/\Lb a) (.c (lmc (lim (val a*999999999)))):=⟨λhp=>by rw [show IntKind.u32.wrap 999999999=((999999999:Nat):Int) by decide];exact (inferInstance:DenI Tryz.prog 194 [.c (lmc a),.int .u32 ((999999999:Nat):Int)] _ _).den ⟨hp.1,hp.2,ψ⟩⟩
theorem TB{l:List Nat}(h:CanL l)(h2:l.length<=2):val l<1000000000000000000:=nV (by rw[h.eq];exact h2)
theorem IE{m n:Nat}(h:m<18446744073709551616):IntKind.u64.wrap ((m:Int).tdiv (n:Int))=((m/n:Nat):Int):=by
 rw[iq ω,EF];exact iT (by have:=ES m n;omega)
theorem qsc{n:Nat}:IntKind.u64.wrap ((1000000000:Int).tdiv ((n:Int)+1))=((1000000000/(n+1):Nat):Int):=IE (m:=1000000000) (n:=n+1) ψ
theorem WW{m n:Nat}(h:m<18446744073709551616):IntKind.u64.wrap ((m:Int)/(n:Int))=((m/n:Nat):Int):=by rw[EF];exact iT (by have:=ES m n;omega)
theorem zqE{n:Int}:IntKind.u64.wrap ((0:Int)/n)=((0:Nat):Int):=by rw[Int.zero_ediv];rfl
theorem OD{m n:Nat}:(m:Int).tmod (n:Int)=((m%n:Nat):Int):=by
 rw[iw ω,FK]
def Jc:Tab:=(2000000000,.flag)::tab
theorem lS:tabOk Tryz.prog Jc=true:=ζ
theorem VF(a b:List Nat)(h1:a.length<=1000000000)(h2:b.length<=1000000000)(hca:CanL a)(hcb:CanL b)(hpos:0<val b):Den Tryz.prog 153 [.c (lmc a),.c (lmc b)] (.tup [.c (lmc (lim (val a/val b))),.c (lmc (lim (val a%val b)))]):=by
 have hbn:0<b.length:=by cases b with|nil=>simp[val]at hpos|cons _ _=>simp
 obtain⟨sc,hsc⟩:∃sc,sc=1000000000/(b.getD (b.length-1) 0+1):=⟨_,rfl⟩
 have hscB:=Ea hcb rfl hbn hsc;obtain⟨hsc0,_,hvn,hvtop,hvP⟩:=zq (v:=lim (val b*sc)) hcb rfl hbn hsc (CanL.lim _) (by rw[aB]);rw[<-hvn]at hvtop;have hlu:=qx (a:=val a) hscB;rw[hca.eq]at hlu;have hbt:=hcb.1.getD (b.length-1);have hvt:=(aI (val b*sc)).getD ((lim (val b*sc)).length-1);refine Den.of ⟨ζ,λw X vs ho hX hl hR=>?_⟩ rfl
 haveI:WOk Tryz.prog w:=⟨ho⟩
 refine enter Tryz.func153 rfl rfl (by rw[hl];rfl) λac hF=>?_
 have hc:=args_conc (N:=173) hX hl hR hF;refine cut_ok (τ:=Jc) lS aQ 8 _ (QA:=λz e bx=>match z with|.normal=>SubE ([(8,.int .u32 (sc:Nat)),(9,.c (lmc (lim (val b*sc)))),(10,.int .u64 ((lim (val b*sc)).getD ((lim (val b*sc)).length-1) 0:Nat)),(11,.c (.v (.slice none 0 0))),(12,.gs 64 (a.length+1)),(13,.c (lmc (lim (val a*sc))))]) e/\SubB ([(64,.grow 154 1 ((List.replicate (a.length+1) 0).map λx=>[.v (u32 x)]))]) bx|z=>endO Jc Tryz.f153 [none,none] (.tup [.c (lmc (lim (val a/val b))),.c (lmc (lim (val a%val b)))]) z e bx) ζ ?_ hc (λe bx a0 w1 hq hc2=>?_) (λx e b a w hx hq hc=>?_)
 case refine_3=>cases x with|normal=>exact absurd rfl hx|_=>exact endO_ok lS hq hc
 case refine_1 =>
  clear hc hF hR hl hX
  all_goals(repeat'((try(conv=>whnf));first
   |refine zaa ?_ ?_|(with_reducible first|apply zab|apply zac|refine zad (λ_=>?_) (λ_=>?_))|refine zah ?_ ?_|(with_reducible refine zak ?_ ?_)))
  all_goals(try apply zar)
  all_goals(try simp only[aG,qF]at *)
  all_goals(try(have ha18:=TB hca ω;have hb18:=TB hcb ω))
  all_goals(try((conv=>whnf);simp(disch:=omega) only[IE,OD,wu64,aS,bD,qsc,<-hsc]))
  all_goals(repeat'((try(conv=>whnf));first
   |refine zaa ?_ ?_|refine zah ?_ ?_))
  all_goals(try apply zar)
  all_goals(try((conv=>whnf);simp(disch:=omega) only[IE,OD,wu64,aS,bD,qsc,<-hsc]))
  all_goals(repeat'((try(conv=>whnf));first
   |refine zaa ?_ ?_|refine zas ζ ?_|apply zaq))
  all_goals(try apply zar)
  all_goals(try simp only[aG,qF]at *)
  all_goals(try((conv=>whnf);simp(disch:=omega) only[IE,OD,wu64,aS,bD,qsc,<-hsc]))
  all_goals(repeat'((try(conv=>whnf));first
   |refine zaa ?_ ?_|refine zal ?_ ?_|(with_reducible refine zak ?_ ?_)))
  all_goals(try apply zar)
  all_goals(try simp(disch:=omega) only[aG,kM,dh,rV,aS,bD,wu64,uN,qF,JY,iw,iq]at *)
  all_goals first
   |((conv=>whnf);refine⟨⟨rfl,rfl, ?_,rfl,rfl,rfl,trivial⟩,⟨kR _ _,trivial⟩⟩;first|rfl|exact iS (iT ω))|(refine⟨ω,ω,ω⟩)|omega|rfl|exact⟨ω,hca.1,ω⟩|exact⟨ω,hcb.1,ω⟩|(have:=ES (val a) (val b);omega)|(have:=Nat.mod_le (val a) (val b);omega)
 obtain⟨he,hb⟩:=hq;replace hc:=(hc2.sub he hb).nilS (t:=11) (s:=1) rfl;clear he hb hc2 hF hR hl hX;replace hc:=hc.sub (e:=[(8,.int .u32 (sc:Nat)),(9,.c (lmc (lim (val b*sc)))),(10,.int .u64 ((lim (val b*sc)).getD ((lim (val b*sc)).length-1) 0:Nat)),(11,.c (lmc (lim 0))),(12,.gs 64 (a.length+1)),(13,.c (lmc (lim (val a*sc))))]) (b:=[(64,.grow 154 1 ((List.replicate (a.length+1) 0).map λx=>[.v (u32 x)]))]) ⟨rfl,rfl,rfl,(by rw[dK];rfl),rfl,rfl,trivial⟩ ⟨rfl,trivial⟩;refine c_seq (c_reg ?_);refine wp_split 3 (aops_pre (τ:=Jc) lS (k:=λe bx=>SubE ((68,.gs 64 (a.length+1)) ::(70,.int .i64 ((lim (val a*sc)).length:Nat))::[(8,.int .u32 (sc:Nat)),(9,.c (lmc (lim (val b*sc)))),(10,.int .u64 ((lim (val b*sc)).getD ((lim (val b*sc)).length-1) 0:Nat)),(11,.c (lmc (lim 0))),(12,.gs 64 (a.length+1)),(13,.c (lmc (lim (val a*sc))))]) e/\SubB ([(64,.grow 154 1 ((List.replicate (a.length+1) 0).map λx=>[.v (u32 x)]))]) bx) ?_ ζ ?_ hc)
 case refine_2 =>
  clear hc;exact⟨⟨rfl,(by show some (AV.int .i64 _)=some (AV.int .i64 _);rw[aG]),rfl,rfl,rfl,rfl,rfl,rfl,trivial⟩,⟨rfl,trivial⟩⟩
 clear hc;rintro e bx a2 w2 ⟨he,hb⟩ hc;replace hc:=hc.sub he hb;clear he hb;have hle:(lim (val a*sc)).length<=((List.replicate (a.length+1) 0).map λx=>[Cell.v (u32 x)]).length:=by rw[aG,rV];exact hlu
 obtain⟨A,cp,hv,hcp,hc2⟩:=hc.shrink (t:=68) (i:=64) (d:=71) (e':=[(8,.int .u32 (sc:Nat)),(9,.c (lmc (lim (val b*sc)))),(10,.int .u64 ((lim (val b*sc)).getD ((lim (val b*sc)).length-1) 0:Nat)),(11,.c (lmc (lim 0))),(13,.c (lmc (lim (val a*sc))))]) (by rw[aG,rV];rfl) rfl hle ⟨ψ,rfl⟩ ⟨rfl,rfl,rfl,rfl,rfl,trivial⟩ rfl rfl;have hFm:Frm 173 a2 [(68,.slice A ((List.replicate (a.length+1) 0).map λx=>[Cell.v (u32 x)]).length cp),(70,.int .i64 ((lim (val a*sc)).length:Nat))]:=(hc.frm.cons (hc.get (t:=70) rfl η)).cons hv;obtain⟨_,hsl,_⟩:=sliceT (tab_at lS (t:=26) rfl);refine wp1 rfl (xq hsl (hFm.ev rfl) (hFm.ev rfl) rfl ω) ?_;clear hc hFm hv;refine aops_ok lS (k:=λe bx=>SubE ([(8,.int .u32 (sc:Nat)),(9,.c (lmc (lim (val b*sc)))),(10,.int .u64 ((lim (val b*sc)).getD ((lim (val b*sc)).length-1) 0:Nat)),(11,.c (lmc (lim 0))),(12,.gs 64 (lim (val a*sc)).length),(13,.c (lmc (lim (val a*sc))))]) e/\SubB ([(64,.grow 154 1 ((List.replicate (lim (val a*sc)).length 0).map λx=>[.v (u32 x)]))]) bx) ?_ ζ ?_ hc2
 case refine_2 =>
  clear hc2;exact⟨⟨rfl,rfl,rfl,rfl,rfl,rfl,trivial⟩,⟨(by show some (Bk.grow _ _ _)=some (Bk.grow _ _ _);rw[<-List.map_take,List.take_replicate,Nat.min_eq_left hlu]),trivial⟩⟩
 clear hc2;rintro e bx a3 w3 ⟨he,hb⟩ hc;replace hc:=hc.sub he hb;clear he hb;refine x_tn ?_;refine awp_ok (τ:=Jc) lS aQ _ (QA:=endO Jc Tryz.f153 [none,none] (.tup [.c (lmc (lim (val a/val b))),.c (lmc (lim (val a%val b)))])) ζ ?_ hc (λx e b a w' hx hc'=>endO_ok lS hx hc');clear hc ho
 all_goals first
  |((conv=>whnf);refine Sw.Loop.inv (α:=List Nat×Nat×Nat) (λx=>[(8,.int .u32 (sc:Nat)),(9,.c (lmc (lim (val b*sc)))),(10,.int .u64 ((lim (val b*sc)).getD ((lim (val b*sc)).length-1) 0:Nat)),(11,.c (lmc (lim x.2.1))),(12,.gs 64 x.1.length),(13,.c (lmc (lim (val a*sc)))),(14,.int .i64 (((x.2.2:Nat):Int)-1))]) (λx=>[(64,.grow 154 1 (x.1.map λx=>[.v (u32 x)]))]) (λx=>x.2.2<=(lim (val a*sc)).length/\x.1.length=(lim (val a*sc)).length/\Lb x.1/\val ((lim (val a*sc)).drop x.2.2)=(val b*sc)*val (x.1.drop x.2.2)+x.2.1/\x.2.1<(val b*sc)) (λx=>x.2.2) (List.replicate (lim (val a*sc)).length 0,0,(lim (val a*sc)).length) ?_ ?_ ?_ (λx hx=>?_))
 all_goals(repeat'((try(conv=>whnf));first
  |refine zaa ?_ ?_|(with_reducible refine zad (λ_=>?_) (λ_=>?_))|refine zah ?_ ?_|refine zal ?_ ?_|(with_reducible refine zak ?_ ?_)))
 all_goals(try apply zar)
 all_goals(try simp only[aG,qF]at *)
 all_goals(try(have hRl:=fA (Nat.le_of_lt hx.2.2.2.2);have hyu:=(aI (val a*sc)).getD (x.2.2-1);have hR2:=FV hyu hx.2.2.2.2;have hR2l:=Ej hR2;have hra:=(aI ((lim (val a*sc)).getD (x.2.2-1) 0+1000000000*x.2.1)).getD (lim (val b*sc)).length;have hrb:=(aI ((lim (val a*sc)).getD (x.2.2-1) 0+1000000000*x.2.1)).getD ((lim (val b*sc)).length-1);obtain⟨hdge,hdh⟩:=LK (V:=(val b*sc)) (n:=(lim (val b*sc)).length) rfl rfl ω (top:=(lim (val b*sc)).getD ((lim (val b*sc)).length-1) 0) rfl hR2 ω))
 all_goals(try simp(disch:=omega) only[aG,kM,dh,rV,aS,bD,wu64,uN,qF,JY,iw,iq]at *)
 all_goals(try simp only[aG,aB]at *)
 all_goals first
  |omega|exact za3|exact za5|((with_reducible show SubE _ _);exact⟨rfl,rfl,rfl,rfl,rfl,rfl,rfl,trivial⟩)|((with_reducible show SubB _ _);exact⟨rfl,trivial⟩)|exact⟨gW _,η,fD _,by rw[dN (gW _),dN η];simp,Nat.mul_pos hpos hsc0⟩|exact⟨ω,aI _⟩|skip
 all_goals(try simp(disch:=omega) only[Int.zero_add,WW,zqE,DF]at *)
 all_goals(try((conv=>whnf);simp(disch:=omega) only[wu64,bD,zB,DF,WW,zqE,Int.zero_add,aB]))
 all_goals(repeat'((try(conv=>whnf));first
  |refine zaa ?_ ?_))
 all_goals(try apply zar)
 all_goals(try simp only[aG,aB]at *)
 all_goals first
  |omega|exact⟨ω,aI _,ω⟩|skip
 all_goals(try((conv=>whnf);simp(disch:=omega) only[wu64,bD,zB,DF,WW,zqE,Int.zero_add,aB]))
 all_goals first
  |skip
 all_goals first
  |skip
 all_goals first
  |((conv=>whnf);refine Sw.Loop.inv (α:=Nat) (λy=>[(8,.int .u32 (sc:Nat)),(9,.c (lmc (lim (val b*sc)))),(10,.int .u64 ((lim (val b*sc)).getD ((lim (val b*sc)).length-1) 0:Nat)),(11,.c (lmc (lim ((lim (val a*sc)).getD (x.2.2-1) 0+1000000000*x.2.1)))),(12,.gs 64 x.1.length),(13,.c (lmc (lim (val a*sc)))),(14,.int .i64 (((x.2.2:Nat):Int)-1)),(16,.int .u64 (y:Nat)),(17,.c (lmc (lim ((val b*sc)*y))))]) (λy=>[(64,.grow 154 1 (x.1.map λx=>[.v (u32 x)]))]) (λy=>y<=999999999/\((lim (val a*sc)).getD (x.2.2-1) 0+1000000000*x.2.1)<(y+1)*(val b*sc)) (λy=>y) 999999999 ?_ ?_ ?_ (λy hy=>?_);exact⟨rfl,rfl,rfl,rfl,rfl,rfl,rfl,rfl,rfl,trivial⟩;exact⟨rfl,trivial⟩;exact⟨gW _,Jy hR2⟩)|((conv=>whnf);refine Sw.Loop.inv (α:=Nat) (λy=>[(8,.int .u32 (sc:Nat)),(9,.c (lmc (lim (val b*sc)))),(10,.int .u64 ((lim (val b*sc)).getD ((lim (val b*sc)).length-1) 0:Nat)),(11,.c (lmc (lim ((lim (val a*sc)).getD (x.2.2-1) 0+1000000000*x.2.1)))),(12,.gs 64 x.1.length),(13,.c (lmc (lim (val a*sc)))),(14,.int .i64 (((x.2.2:Nat):Int)-1)),(16,.int .u64 (y:Nat)),(17,.c (lmc (lim ((val b*sc)*y))))]) (λy=>[(64,.grow 154 1 (x.1.map λx=>[.v (u32 x)]))]) (λy=>y<=999999999/\((lim (val a*sc)).getD (x.2.2-1) 0+1000000000*x.2.1)<(y+1)*(val b*sc)) (λy=>y) (((lim ((lim (val a*sc)).getD (x.2.2-1) 0+1000000000*x.2.1)).getD (lim (val b*sc)).length 0*1000000000+(lim ((lim (val a*sc)).getD (x.2.2-1) 0+1000000000*x.2.1)).getD ((lim (val b*sc)).length-1) 0)/(lim (val b*sc)).getD ((lim (val b*sc)).length-1) 0) ?_ ?_ ?_ (λy hy=>?_);exact⟨rfl,rfl,rfl,rfl,rfl,rfl,rfl,rfl,rfl,trivial⟩;exact⟨rfl,trivial⟩;exact⟨ω,hdge⟩)|(have hge0:=getD_none (l:=(lim ((lim (val a*sc)).getD (x.2.2-1) 0+1000000000*x.2.1))) (k:=(lim (val b*sc)).length) ω;rw[hge0,Nat.zero_mul,pq]at hdge;(conv=>whnf);refine Sw.Loop.inv (α:=Nat) (λy=>[(8,.int .u32 (sc:Nat)),(9,.c (lmc (lim (val b*sc)))),(10,.int .u64 ((lim (val b*sc)).getD ((lim (val b*sc)).length-1) 0:Nat)),(11,.c (lmc (lim ((lim (val a*sc)).getD (x.2.2-1) 0+1000000000*x.2.1)))),(12,.gs 64 x.1.length),(13,.c (lmc (lim (val a*sc)))),(14,.int .i64 (((x.2.2:Nat):Int)-1)),(16,.int .u64 (y:Nat)),(17,.c (lmc (lim ((val b*sc)*y))))]) (λy=>[(64,.grow 154 1 (x.1.map λx=>[.v (u32 x)]))]) (λy=>y<=999999999/\((lim (val a*sc)).getD (x.2.2-1) 0+1000000000*x.2.1)<(y+1)*(val b*sc)) (λy=>y) ((lim ((lim (val a*sc)).getD (x.2.2-1) 0+1000000000*x.2.1)).getD ((lim (val b*sc)).length-1) 0/(lim (val b*sc)).getD ((lim (val b*sc)).length-1) 0) ?_ ?_ ?_ (λy hy=>?_);exact⟨rfl,rfl,rfl,rfl,rfl,rfl,rfl,rfl,rfl,trivial⟩;exact⟨rfl,trivial⟩;exact⟨ω,hdge⟩)|(have hge0:=getD_none (l:=(lim ((lim (val a*sc)).getD (x.2.2-1) 0+1000000000*x.2.1))) (k:=(lim (val b*sc)).length) ω;have hge1:=getD_none (l:=(lim ((lim (val a*sc)).getD (x.2.2-1) 0+1000000000*x.2.1))) (k:=(lim (val b*sc)).length-1) ω;rw[hge0,hge1,Nat.zero_mul,pq,Nat.zero_div]at hdge;(conv=>whnf);refine Sw.Loop.inv (α:=Nat) (λy=>[(8,.int .u32 (sc:Nat)),(9,.c (lmc (lim (val b*sc)))),(10,.int .u64 ((lim (val b*sc)).getD ((lim (val b*sc)).length-1) 0:Nat)),(11,.c (lmc (lim ((lim (val a*sc)).getD (x.2.2-1) 0+1000000000*x.2.1)))),(12,.gs 64 x.1.length),(13,.c (lmc (lim (val a*sc)))),(14,.int .i64 (((x.2.2:Nat):Int)-1)),(16,.int .u64 (y:Nat)),(17,.c (lmc (lim ((val b*sc)*y))))]) (λy=>[(64,.grow 154 1 (x.1.map λx=>[.v (u32 x)]))]) (λy=>y<=999999999/\((lim (val a*sc)).getD (x.2.2-1) 0+1000000000*x.2.1)<(y+1)*(val b*sc)) (λy=>y) 0 ?_ ?_ ?_ (λy hy=>?_);exact⟨rfl,rfl,rfl,rfl,rfl,rfl,rfl,rfl,rfl,trivial⟩;exact⟨rfl,trivial⟩;exact⟨ω,hdge⟩)|skip
 all_goals(repeat'((try(conv=>whnf));first
  |refine zaa ?_ ?_|(with_reducible refine zad (λ_=>?_) (λ_=>?_))|refine zah ?_ ?_|(with_reducible refine zak ?_ ?_)))
 all_goals(try apply zar)
 all_goals(try simp only[aG,aB]at *)
 all_goals first
  |omega|exact⟨CanL.lim _,CanL.lim _⟩|skip
 all_goals first
  |((with_reducible show _/\_);have hgt:=qY.1 ξ;have hy0:0<y:=(by rcases rQ y with h0|h0;(rw[h0,Kq]at hgt;omega);exact h0);have hVle:(val b*sc)<=(val b*sc)*y:=Nat.le_mul_of_pos_right _ hy0;have hsl:=qx (a:=(val b*sc)) (s:=y) ω;exact⟨ω,ω,aI _,aI _,fA hVle,hVle⟩)|((with_reducible show _/\_);have hle2:(val b*sc)*y<=((lim (val a*sc)).getD (x.2.2-1) 0+1000000000*x.2.1):=Nat.not_lt.1 (mt qY.2 ξ);have hll:=fA hle2;exact⟨ω,ω,aI _,aI _,hll,hle2⟩)|(have hgt:=qY.1 ξ;have hy0:0<y:=(by rcases rQ y with h0|h0;(rw[h0,Kq]at hgt;omega);exact h0);have hVle:(val b*sc)<=(val b*sc)*y:=Nat.le_mul_of_pos_right _ hy0;have hsl:=qx (a:=(val b*sc)) (s:=y) ω;(conv=>whnf);exact⟨y-1,⟨⟨rfl,rfl,rfl,rfl,rfl,rfl,rfl,iS (by(try simp(disch:=omega) only[bD,wu64,aS,iw,iq,sG])<;>omega),(by show some (AV.c (lmc _))=some (AV.c (lmc _));rw[Jk hy0]),trivial⟩,⟨rfl,trivial⟩,⟨ω,by rw[Nat.sub_add_cancel hy0];exact Nat.lt_of_lt_of_eq hgt (yB _ _)⟩,(by show y-1<y;omega)⟩⟩)|(have hle2:(val b*sc)*y<=((lim (val a*sc)).getD (x.2.2-1) 0+1000000000*x.2.1):=Nat.not_lt.1 (mt qY.2 ξ);have hll:=fA hle2;obtain⟨i1,i2,i3,i4,i5⟩:=hx;(conv=>whnf);exact⟨(x.1.set (x.2.2-1) y,((lim (val a*sc)).getD (x.2.2-1) 0+1000000000*x.2.1)-(val b*sc)*y,x.2.2-1),⟨⟨rfl,rfl,rfl,rfl,TR η,rfl,qE ω ω,trivial⟩,⟨qp ω (by(try simp(disch:=omega) only[bD,wu64,aS,iw,iq,sG])<;>omega),trivial⟩,⟨by show x.2.2-1<=_;omega,by simp only[kF];exact i2,cZ i3 ω,FC ω i1 ω i4 rfl hle2,Ky hy.2 hle2⟩,(by show x.2.2-1<x.2.2;omega)⟩⟩)|skip
 all_goals first
  |((conv=>whnf);refine Sw.Loop.inv (α:=List Nat×Nat×Nat) (λz=>[(8,.int .u32 (sc:Nat)),(11,.c (lmc (lim x.2.1))),(12,.gs 64 x.1.length),(18,.int .u64 (z.2.1:Nat)),(19,.gs 141 z.1.length),(20,.int .i64 (((z.2.2:Nat):Int)-1))]) (λz=>[(64,.grow 154 1 (x.1.map λx=>[.v (u32 x)])),(141,.grow 154 1 (z.1.map λx=>[.v (u32 x)]))]) (λz=>z.2.2<=(lim x.2.1).length/\z.1.length=(lim x.2.1).length/\Lb z.1/\z.2.1<sc/\val ((lim x.2.1).drop z.2.2)=sc*val (z.1.drop z.2.2)+z.2.1) (λz=>z.2.2) (List.replicate (lim x.2.1).length 0,0,(lim x.2.1).length) ?_ ?_ ?_ (λz hz=>?_))
 all_goals(repeat'((try(conv=>whnf));first
  |apply zaf|(with_reducible refine zad (λ_=>?_) (λ_=>?_))|refine zah ?_ ?_|(with_reducible refine zak ?_ ?_)|apply zaq))
 all_goals(try apply zar)
 all_goals(try simp only[aG,aB]at *)
 all_goals first
  |omega|skip
 all_goals(try simp(disch:=omega) only[qF,aS,wu64]at *)
 all_goals first
  |((with_reducible show SubE _ _);exact⟨rfl,rfl,rfl,rfl,TR η,rfl,trivial⟩)|((with_reducible show SubB _ _);exact⟨rfl,kR _ _,trivial⟩)|exact⟨gW _,η,fD _,hsc0,by rw[dN (gW _),dN η];simp⟩|omega|((with_reducible show packA _=_);have q1:=hx.2.2.2.1;have q2:=hz.2.2.2.2;rw[show x.2.2=0 by omega,J3,J3,aB]at q1;rw[show z.2.2=0 by omega,J3,J3,aB]at q2;obtain⟨e1,e2⟩:=JC hsc0 q1 hx.2.2.2.2 q2 hz.2.2.2.1;rw[<-gZ _ hx.2.2.1,<-gZ _ hz.2.2.1,e1,e2];rfl)|(have gz:=(aI x.2.1).getD (z.2.2-1);have c4:=Int.natCast_nonneg ((z.2.1*1000000000+(lim x.2.1).getD (z.2.2-1) 0)/sc);obtain⟨b1,b2,b3⟩:=yT hz.2.2.2.1 hscB gz (t:=_) rfl;obtain⟨h1z,h2z,h3z,h4z,h5z⟩:=hz;(conv=>whnf);exact⟨(z.1.set (z.2.2-1) ((z.2.1*1000000000+(lim x.2.1).getD (z.2.2-1) 0)/sc),(z.2.1*1000000000+(lim x.2.1).getD (z.2.2-1) 0)%sc,z.2.2-1),⟨⟨rfl,rfl,rfl,iS (by(try simp(disch:=omega) only[bD,wu64,aS,iw,iq,qF,sG,Ia,Ii,DF,EF,FK])<;>omega),TR η,qE ω ω,trivial⟩,⟨rfl,qp ω (by(try simp(disch:=omega) only[bD,wu64,aS,iw,iq,qF,sG,Ia,Ii,DF,EF,FK])<;>omega),trivial⟩,⟨by show z.2.2-1<=_;omega,by simp only[kF];exact h2z,cZ h3z b1,b2,uw ω h1z ω h5z rfl rfl⟩,(by show z.2.2-1<z.2.2;omega)⟩⟩)
instance(a b:List Nat):DenI Tryz.prog 197 [.c (lmc a),.c (lmc b)] (a.length<=100000000000/\b.length<=100000000000/\Lb a/\Lb b/\0<val b) (.tup [.c (lmc (pad (PO a b) (val a / val b))),.c (lmc (pad (Nb a b) (val a % val b)))]):=⟨λhp=>den2 ζ λw X u v hX hu hv=>(qW hX hu.ul hv.ul hp.1 hp.2.1 hp.2.2.1 hp.2.2.2.1 hp.2.2.2.2).mono λe w' ⟨u,he,⟨qs,rs,r0,r1,h1,h2,h3,h4,h5,h6,h7,h8,h9⟩,hb⟩=>⟨u,he,by subst h1;obtain ⟨e1,e2⟩:=Og h4 h5 h6 h7 h8 h9;rw [<- e1,<- e2];exact tup2 (.c h2.rep) (.c h3.rep),hb⟩⟩
instance(a b:List Nat):DenI Tryz.prog 153 [.c (lmc a),.c (lmc b)] (a.length<=1000000000/\b.length<=1000000000/\CanL a/\CanL b/\0<val b) (.tup [.c (lmc (lim (val a / val b))),.c (lmc (lim (val a % val b)))]):=⟨λhp=>VF a b hp.1 hp.2.1 hp.2.2.1 hp.2.2.2.1 hp.2.2.2.2⟩
instance ab8(a b:Int):DenI Tryz.prog 187 [Z a,Z b] (sz a<=1000000000/\sz b<=1000000000) (Z (a-b)):=⟨λhp=>by
 refine au Tryz.func187 rfl ?_
 repeat'((try(conv=>whnf));first
  |refine zaa ?_ ?_|refine zas ζ ?_|apply zaq)
 all_goals(try apply zar)
 all_goals first
  |with_reducible exact hp.2|(rw[dM];exact hp)|(refine IX ?_;omega)⟩
instance abA(a b:Int):DenI Tryz.prog 234 [Z a,Z b] (sz a<=1000000000/\sz b<=1000000000) (Z (a-b)):=⟨λhp=>by
 refine au Tryz.func234 rfl ?_
 repeat'((try(conv=>whnf));first
  |(with_reducible first|apply zab|apply zac)|(with_reducible refine zae (λ_=>?_) (λ_=>?_)))
 all_goals(try((conv=>whnf);first|rw[Xu ξ]|rw[XL ξ]))
 all_goals(repeat'((try(conv=>whnf));first
  |refine zaa ?_ ?_|apply zaq))
 all_goals(try apply zar)
 all_goals first
  |(rw[dM];exact hp)|(refine IX ?_;omega)⟩
instance abQ(a:Int):DenI Tryz.prog 331 [Z a] (True) (.tup [.int .i64 (if -9223372036854775808<=a/\a<=9223372036854775807 then a else 0),.bool (decide (-9223372036854775808<=a/\a<=9223372036854775807))]):=⟨λhp=>by
 refine au Tryz.func331 rfl ?_
 repeat'((try(conv=>whnf));first
  |apply zaf|refine zaa ?_ ?_|(with_reducible first|apply zab|apply zac|refine zad (λ_=>?_) (λ_=>?_))|refine zas ζ ?_|apply zaq)
 all_goals(try apply zar)
 all_goals first
  |omega|with_reducible exact ZL ξ|with_reducible exact ZO ξ|(have hb:=aaJ ξ ξ;have hq:=ZK hb;((conv=>whnf);refine Sw.Loop.inv (α:=Nat) (λx=>[(1,.ptr 1 0),(4,.int .u64 (val ((lim a.natAbs).drop x):Nat)),(5,.int .i64 ((x:Int)-1))]) (λx=>[(1,.var [zs a,zl a])]) (λx=>x<=(lim a.natAbs).length) (λx=>x) ((lim a.natAbs).length) ?_ ?_ ?_ (λx hx=>?_)))
 all_goals(repeat'((try(conv=>whnf));first
  |(with_reducible first|refine zad (λ_=>?_) (λ_=>?_)|refine zak ?_ ?_)|apply zaq))
 all_goals(try apply zar)
 all_goals first|(show SubE _ _;repeat'(first|exact trivial|refine And.intro ?_ ?_))|(show SubB _ _;repeat'(first|exact trivial|refine And.intro ?_ ?_))|skip
 all_goals(try rfl)
 all_goals(try simp(disch:=omega) only[aG,kM,dh,rV,aS,bD,wu64,uN,qF,JY,iw,iq]at *)
 all_goals first
  |omega|rfl|(rw[dN (gW _)];rfl)|(refine Z8 hb ?_;rw[show x=0 by omega,J3,aB];first|exact EM ω ω|exact LU ω ω)|(have hd:=lM (l:=lim a.natAbs) (k:=x) ω hx;have hle:=uH (lim a.natAbs) (x-1);have hg:=(aI a.natAbs).getD (x-1);((conv=>whnf);exact⟨x-1,⟨⟨rfl,iS (by(try simp(disch:=omega) only[bD,wu64,aS,iw,iq,qF,sG,Ia,Ii,DF,EF,FK])<;>omega),qE ω ω,trivial⟩,⟨rfl,trivial⟩,ω,by show x-1<x;omega⟩⟩))⟩
instance X7(a b:Int):DenI Tryz.prog 200 [Z a,Z b] (sz a<=1000000000/\sz b<=1000000000) (.tup [Z (a.fdiv b),Z (if b=0 then 0 else a.fmod b),.int .i64 (if b=0 then 6 else 0)]):=⟨λhp=>by
 refine au Tryz.func200 rfl ?_
 repeat'((try(conv=>whnf));first
  |refine zaa ?_ ?_|(with_reducible first|apply zab|apply zac|refine zad (λ_=>?_) (λ_=>?_))|refine zat (λ_=>?_) (λ_=>?_)|refine zas ζ ?_|apply zaq)
 all_goals(try apply zar)
 all_goals(try simp(disch:=assumption) only[aB,jq,sD,lQ,kZ,aG,dqI,drI]at *)
 all_goals(try simp(disch:=assumption) only[aB,jq,sD,lQ,kZ,aG,dqI,drI]at *)
 all_goals first
  |omega|(have hb0:b=0:=ω;subst hb0;exact D5 a)|with_reducible exact jy _ _|with_reducible exact MX hp.1 hp.2 ξ|with_reducible exact⟨abG hp.1 _,ad2⟩|with_reducible exact⟨acF hp.1 _,hp.2⟩|with_reducible exact En ξ ξ (QB (r:=a.natAbs%b.natAbs) ω ξ)|with_reducible exact su ξ (.inr (Rk (r:=a.natAbs%b.natAbs) ω ξ))|with_reducible exact su ξ (.inl ω)⟩
instance acu(a b:Int):DenI Tryz.prog 120 [Z a,Z b] (sz a<=1000000000/\sz b<=1000000000) (Z ((Nat.gcd a.natAbs b.natAbs:Nat):Int)):=⟨λhp=>by
 refine au Tryz.func120 rfl ?_
 repeat'((try(conv=>whnf));first
  |refine zas ζ ?_)
 all_goals first
  |((conv=>whnf);refine Sw.Loop.inv (α:=Nat×Nat) (λx=>[(4,.ptr 4 0),(5,.c (lmc (lim x.1))),(6,.c (lmc (lim x.2)))]) (λx=>[(4,.var [.v (.bool false),.sl 1 []])]) (λx=>Nat.gcd x.1 x.2=Nat.gcd a.natAbs b.natAbs/\(lim x.1).length<=1000000000/\(lim x.2).length<=1000000000) (λx=>x.2) (a.natAbs,b.natAbs) ?_ ?_ ?_ (λx hx=>?_))
 all_goals(repeat'((try(conv=>whnf));first
  |refine zaa ?_ ?_|(with_reducible first|apply zab|apply zac|refine zad (λ_=>?_) (λ_=>?_))|apply zaq))
 all_goals(try apply zar)
 all_goals first
  |((conv=>whnf);refine Sw.Loop.inv (α:=Nat×Nat) (λy=>[(4,.ptr 4 0),(9,.int .u64 (y.1:Nat)),(10,.int .u64 (y.2:Nat))]) (λy=>[(4,.var [.v (.bool false),.sl 1 []])]) (λy=>y.1<1000000000000000000/\y.2<1000000000000000000/\Nat.gcd y.1 y.2=Nat.gcd a.natAbs b.natAbs) (λy=>y.2) x ?_ ?_ ?_ (λy hy=>?_))|skip
 all_goals(repeat'((try(conv=>whnf));first
  |refine zaa ?_ ?_|(with_reducible refine zad (λ_=>?_) (λ_=>?_))|refine zah ?_ ?_|refine zas ζ ?_|apply zaq))
 all_goals(try apply zar)
 all_goals first|(show SubE _ _;repeat'(first|exact trivial|refine And.intro ?_ ?_))|(show SubB _ _;repeat'(first|exact trivial|refine And.intro ?_ ?_))|skip
 all_goals(try rfl)
 all_goals(try simp only[aG]at *)
 all_goals first
  |with_reducible exact aI _|with_reducible exact abB hx.2.1 hx.2.2 ω|with_reducible exact WU ω|exact⟨trivial,hp.1,hp.2⟩|exact gv|(have hz:=bM (n:=x.2);with_reducible exact QS ω hx.1 (aB _))|with_reducible exact QS ω hy.2.2 (aB _)|exact⟨glt ω,glt ω,hx.1⟩|(have h3:x.1%x.2<x.2:=mY _ (by have hz:=bM (n:=x.2);omega);((conv=>whnf);exact⟨(x.2,x.1%x.2),⟨⟨rfl,rfl,acU,trivial⟩,⟨rfl,trivial⟩,⟨rM hx.1 rfl,hx.2.2,aP (fA (Nat.le_of_lt h3)) hx.2.2⟩,h3⟩⟩))|(have h1:=hy.1;have h2:=hy.2.1;have h3:y.1%y.2<y.2:=mY _ ω;((conv=>whnf);exact⟨(y.2,y.1%y.2),⟨⟨rfl,rfl,gm2,trivial⟩,⟨rfl,trivial⟩,⟨by show y.2<_;omega,by show y.1%y.2<_;omega,rM hy.2.2 rfl⟩,h3⟩⟩))|omega⟩
instance ab6(a b:Int):DenI Tryz.prog 156 [Z a,Z b] (sz a<=1000000000/\sz b<=1000000000) (Z ((Nat.gcd a.natAbs b.natAbs:Nat):Int)):=⟨λhp=>by
 refine au Tryz.func156 rfl ?_
 repeat'((try(conv=>whnf));first
  |refine zaa ?_ ?_|refine zas ζ ?_)
 all_goals(try apply zar)
 all_goals first
  |((conv=>whnf);refine Sw.Loop.inv (α:=Nat×Nat) (λx=>[(4,.ptr 4 0),(5,.ptr 5 0),(6,.ptr 6 0)]) (λx=>[(4,.var [.v (.bool false),.sl 1 []]),(5,.var [zs (x.1:Nat),zl (x.1:Nat)]),(6,.var [zs (x.2:Nat),zl (x.2:Nat)])]) (λx=>Nat.gcd x.1 x.2=Nat.gcd a.natAbs b.natAbs/\sz ((x.1:Nat):Int)<=1000000000/\sz ((x.2:Nat):Int)<=1000000000) (λx=>x.2) (a.natAbs,b.natAbs) ?_ ?_ ?_ (λx hx=>?_))|skip
 all_goals(repeat'((try(conv=>whnf));first
  |apply zaf|refine zaa ?_ ?_|(with_reducible first|apply zab|apply zac|refine zad (λ_=>?_) (λ_=>?_))|refine zah ?_ ?_|refine zas ζ ?_|apply zaq))
 all_goals(try apply zar)
 all_goals first
  |((conv=>whnf);refine Sw.Loop.inv (α:=Nat×Nat) (λy=>[(4,.ptr 4 0),(7,.int .u64 (y.1:Nat)),(9,.int .u64 (y.2:Nat))]) (λy=>[(4,.var [.v (.bool false),.sl 1 []])]) (λy=>y.1<1000000000000000000/\y.2<1000000000000000000/\Nat.gcd y.1 y.2=Nat.gcd a.natAbs b.natAbs) (λy=>y.2) x ?_ ?_ ?_ (λy hy=>?_))|skip
 all_goals(repeat'((try(conv=>whnf));first
  |refine zaa ?_ ?_|(with_reducible refine zad (λ_=>?_) (λ_=>?_))|refine zah ?_ ?_|refine zas ζ ?_|apply zaq))
 all_goals(try apply zar)
 all_goals first|(show SubE _ _;repeat'(first|exact trivial|refine And.intro ?_ ?_))|(show SubB _ _;repeat'(first|exact trivial|refine And.intro ?_ ?_))|skip
 all_goals(try rfl)
 all_goals(try simp only[aG]at *)
 all_goals first
  |with_reducible exact aI _|with_reducible exact jy _ _|exact KI _ _ (by rw[aB];rfl)|exact⟨trivial,hp.1,hp.2⟩|exact wif ξ|exact⟨I4 ξ,I4 ξ,hx.1⟩|with_reducible exact adu hx.2.1 hx.2.2 ξ|omega|with_reducible exact QS (ZU ξ) hx.1 (aB _)|with_reducible exact QS ω hy.2.2 (jk _ _ ω)|(have h1:=hy.1;have h2:=hy.2.1;have h3:y.1%y.2<y.2:=mY _ ω;((conv=>whnf);exact⟨(y.2,y.1%y.2),⟨⟨rfl,rfl,gm2,trivial⟩,⟨rfl,trivial⟩,⟨by show y.2<_;omega,by show y.1%y.2<_;omega,rM hy.2.2 rfl⟩,h3⟩⟩))|(have h0:=adq ξ;have h3:x.1%x.2<x.2:=mY _ h0;((conv=>whnf);exact⟨(x.2,x.1%x.2),⟨⟨rfl,rfl,rfl,trivial⟩,⟨rfl,rfl,KI _ _ (gst ξ),trivial⟩,⟨rM hx.1 rfl,hx.2.2,aP (iQ (by rw[vZ,vZ];exact Nat.le_of_lt h3)) hx.2.2⟩,h3⟩⟩))|(have h0:=hx.2.1;unfold sz at h0;omega)⟩
instance adI:DenI Tryz.prog 158 [] (True) (Z 1):=⟨λhp=>by
 refine au Tryz.func158 rfl ?_
 repeat'((try(conv=>whnf));first
  |refine zaa ?_ ?_|apply zaq)
 all_goals(try apply zar)
 all_goals first|rfl|decide⟩
instance aa7(n:Int):DenI Tryz.prog 222 [Z n] (True) (R (n:Rat)):=⟨λhp=>by
 refine au Tryz.func222 rfl ?_
 repeat'((try(conv=>whnf));first
  |apply zaf|refine zas ζ ?_|apply zaq)
 rfl⟩
instance abj(a b:Int):DenI Tryz.prog 159 [Z a,Z b] (sz a<=1000000000/\sz b<=1000000000) (Z (a.fdiv b)):=⟨λhp=>by
 refine au Tryz.func159 rfl ?_
 repeat'((try(conv=>whnf));first
  |refine zaa ?_ ?_|apply zaq)
 all_goals(try apply zar)
 all_goals first|rfl|exact hp⟩
instance YK(n d:Int):DenI Tryz.prog 121 [Z n,Z d] (d≠0/\sz n<=1000000000/\sz d<=1000000000) (R ((n:Rat) / d)):=⟨λhp=>by
 refine au Tryz.func121 rfl ?_
 repeat'((try(conv=>whnf));first
  |apply zaf|refine zaa ?_ ?_|(with_reducible first|refine zad (λ_=>?_) (λ_=>?_)|refine zae (λ_=>?_) (λ_=>?_))|refine zas ζ ?_|apply zaq)
 all_goals(try apply zar)
 all_goals obtain⟨h0,h1,h2⟩:=hp
 all_goals(try simp only[aW]at *)
 all_goals first
  |(show packA _=_;first|(by_cases hd:d<0;(obtain⟨q1,q2⟩:=IQ (n:=n) (d:=d) hd;first|exact uK q1 q2|(refine uK ?_ ?_<;>simp_all));(obtain⟨q1,q2⟩:=rO (n:=n) (d:=d) ω;first|exact uK q1 q2|(refine uK ?_ ?_<;>simp_all))))|((try simp only[dM]);(repeat' apply And.intro)<;>first|assumption|exact ML (by(try simp only[dM]);assumption) (by(try simp only[dM]);assumption))⟩
instance abw(n:Int):DenI Tryz.prog 179 [.int .i64 n] (-9223372036854775808<=n/\n<=9223372036854775807) (R (n:Rat)):=⟨λhp=>by
 refine au Tryz.func179 rfl ?_
 repeat'((try(conv=>whnf));first
  |apply zaf|refine zaa ?_ ?_|apply zaq)
 all_goals(try apply zar)
 all_goals first
  |(show packA _=_;rfl)|exact zaz⟩
instance ab1(a:Rat):DenI Tryz.prog 49 [R a] (True) (.int .i64 (aN a)):=⟨λhp=>by
 refine au Tryz.func49 rfl ?_
 repeat'((try(conv=>whnf));first
  |apply zaf|apply zaq)
 all_goals(try simp only[aW]at *)
 all_goals first
  |(show packA _=_;rfl)⟩
instance aff(a:Rat):DenI Tryz.prog 180 [R a] (rz a<=100000000) (R (-a)):=⟨λhp=>by
 refine au Tryz.func180 rfl ?_
 repeat'((try(conv=>whnf));first
  |refine zaa ?_ ?_|refine zas ζ ?_|apply zaq)
 all_goals(try apply zar)
 all_goals first
  |(show packA _=_;rfl)|exact zaz⟩
instance afg(a b:Rat):DenI Tryz.prog 91 [R a,R b] (rz a<=100000000/\rz b<=100000000) (R (a*b)):=⟨λhp=>by
 refine au Tryz.func91 rfl ?_
 repeat'((try(conv=>whnf));first
  |refine zaa ?_ ?_|refine zas ζ ?_|apply zaq)
 all_goals(try apply zar)
 all_goals first
  |(show packA _=_;exact congrArg R (mul_div a b))|exact zaz⟩
instance afD(a b:Rat):DenI Tryz.prog 163 [R a,R b] (rz a<=100000000/\rz b<=100000000) (R (a+b)):=⟨λhp=>by
 refine au Tryz.func163 rfl ?_
 repeat'((try(conv=>whnf));first
  |apply zaf|refine zaa ?_ ?_|(with_reducible refine zad (λ_=>?_) (λ_=>?_))|refine zas ζ ?_|apply zaq)
 all_goals(try apply zar)
 all_goals(try simp only[aW]at *)
 all_goals first
  |(show packA _=_;first|exact congrArg R (add_div a b)|exact congrArg R (Md a b ξ))|exact zaz⟩
instance afx(a b:Rat):DenI Tryz.prog 162 [R a,R b] (rz a<=100000000/\rz b<=100000000) (R (a-b)):=⟨λhp=>by
 refine au Tryz.func162 rfl ?_
 repeat'((try(conv=>whnf));first
  |refine zaa ?_ ?_|refine zas ζ ?_|apply zaq)
 all_goals(try apply zar)
 all_goals first
  |(show packA _=_;exact congrArg R (Rat.sub_eq_add_neg a b).symm)|exact zaz⟩
instance aaS(a:Rat):DenI Tryz.prog 332 [R a] (rz a<=100000000) (Z a.floor):=⟨λhp=>by
 refine au Tryz.func332 rfl ?_
 repeat'((try(conv=>whnf));first
  |refine zaa ?_ ?_|apply zaq)
 all_goals(try apply zar)
 all_goals first
  |(show packA _=_;exact congrArg Z (Di a))|exact zaz⟩
instance Ye(a b:Int):DenI Tryz.prog 141 [Z a,Z b] (sz a<=500000000/\sz b<=500000000) (.tup [Z (a.fdiv b),Z (if b=0 then 0 else a.fmod b),.int .i64 (if b=0 then 6 else 0)]):=⟨λhp=>by
 refine au Tryz.func141 rfl ?_
 repeat'((try(conv=>whnf));first
  |apply zaf|refine zaa ?_ ?_|(with_reducible first|apply zab|apply zac|refine zad (λ_=>?_) (λ_=>?_)|refine zae (λ_=>?_) (λ_=>?_))|refine zat (λ_=>?_) (λ_=>?_)|refine zah ?_ ?_|refine zas ζ ?_|refine zal ?_ ?_|refine zam ?_ ?_|(with_reducible first|refine zak ?_ ?_|apply zaj|apply zai)|apply zaq)
 all_goals(try apply zar)
 all_goals(try simp only[aG,aB,lQ,kZ]at *)
 all_goals obtain⟨h1,h2⟩:=hp
 all_goals(try simp only[aW]at *)
 all_goals first
  |(show packA _=_;(first|(have hb0:b=0:=ω;subst hb0;exact D5 a)|with_reducible exact En ξ ξ ξ|with_reducible exact su ξ (.inl ω)|with_reducible exact su ξ (.inr (by simp_all))))|(have z1:=vN (decide (a<0) != decide (b<0)) (a.natAbs/b.natAbs) a (ES _ _);have z2:=vN (decide (a<0)) (a.natAbs%b.natAbs) a (Nat.mod_le _ _);have z3:=gG;(repeat' apply And.intro)<;>first|assumption|omega|exact CanL.lim _|exact aI _|exact zM _|(unfold sz at *;omega)|skip)⟩
instance abq:DenI Tryz.prog 81 [] (True) (Z 1):=⟨λhp=>by
 refine au Tryz.func81 rfl ?_
 repeat'((try(conv=>whnf));first
  |refine zaa ?_ ?_|apply zaq)
 all_goals(try apply zar)
 all_goals first|rfl|decide⟩
instance aez(n d:Int):DenI Tryz.prog 105 [Z n,Z d] (d≠0/\sz n<=500000000/\sz d<=500000000) (R ((n:Rat) / d)):=⟨λhp=>by
 refine au Tryz.func105 rfl ?_
 repeat'((try(conv=>whnf));first
  |apply zaf|refine zaa ?_ ?_|(with_reducible first|apply zab|apply zac|refine zad (λ_=>?_) (λ_=>?_)|refine zae (λ_=>?_) (λ_=>?_))|refine zat (λ_=>?_) (λ_=>?_)|refine zah ?_ ?_|refine zas ζ ?_|refine zal ?_ ?_|refine zam ?_ ?_|(with_reducible first|refine zak ?_ ?_|apply zaj|apply zai)|apply zaq)
 all_goals(try apply zar)
 all_goals obtain⟨h0,h1,h2⟩:=hp
 all_goals(try simp only[aW]at *)
 all_goals first
  |(show packA _=_;first|(by_cases hd:d<0;(obtain⟨q1,q2⟩:=IQ (n:=n) (d:=d) hd;first|exact uK q1 q2|(refine uK ?_ ?_<;>simp_all));(obtain⟨q1,q2⟩:=rO (n:=n) (d:=d) ω;first|exact uK q1 q2|(refine uK ?_ ?_<;>simp_all))))|((try simp only[dM]);(repeat' apply And.intro)<;>first|assumption|omega|exact ML (by(try simp only[dM]);assumption) (by(try simp only[dM]);assumption))⟩
instance abm(n:Int):DenI Tryz.prog 42 [.int .i64 n] (-9223372036854775808<=n/\n<=9223372036854775807) (R (n:Rat)):=⟨λhp=>by
 refine au Tryz.func42 rfl ?_
 repeat'((try(conv=>whnf));first
  |apply zaf|refine zaa ?_ ?_|apply zaq)
 all_goals(try apply zar)
 all_goals first
  |(show packA _=_;rfl)|(exact hp)⟩
instance aa8(n d:Int):DenI Tryz.prog 186 [.int .i64 n,.int .i64 d] ((-9223372036854775808<=n/\n<=9223372036854775807)∧-9223372036854775808<=d/\d<=9223372036854775807) (R ((n:Rat) / d)):=⟨λhp=>by
 refine au Tryz.func186 rfl ?_
 repeat'((try(conv=>whnf));first
  |apply zaf|refine zaa ?_ ?_|(with_reducible first|apply zab|apply zac|refine zad (λ_=>?_) (λ_=>?_)|refine zae (λ_=>?_) (λ_=>?_))|refine zat (λ_=>?_) (λ_=>?_)|refine zah ?_ ?_|refine zas ζ ?_|refine zal ?_ ?_|refine zam ?_ ?_|(with_reducible first|refine zak ?_ ?_|apply zaj|apply zai)|apply zaq)
 all_goals(try apply zar)
 all_goals obtain⟨⟨h1,h2⟩,h3,h4⟩:=hp
 all_goals(try simp only[aW]at *)
 all_goals first
  |(show packA _=_;first|rfl|(subst d;exact congrArg R (UH n)))|(have z1:=dV h1 h2;have z2:=dV h3 h4;have z3:=gG;have z4:=dV (n:=0) ω ω;(repeat' apply And.intro)<;>first|assumption|omega|exact dU (aj _) (aj _)|exact aj _|grind[eF,gQ,jC,dM,fH,gu,iF,gK,fG,iU,ig,dV,gG])⟩
instance aa9(a:Rat):DenI Tryz.prog 21 [R a] (True) (.int .i64 (aN a)):=⟨λhp=>by
 refine au Tryz.func21 rfl ?_
 repeat'((try(conv=>whnf));first
  |apply zaf|refine zaa ?_ ?_|(with_reducible first|apply zab|apply zac|refine zad (λ_=>?_) (λ_=>?_)|refine zae (λ_=>?_) (λ_=>?_))|refine zat (λ_=>?_) (λ_=>?_)|refine zah ?_ ?_|refine zas ζ ?_|refine zal ?_ ?_|refine zam ?_ ?_|(with_reducible first|refine zak ?_ ?_|apply zaj|apply zai)|apply zaq)
 all_goals(try apply zar)
 all_goals(try simp only[aW]at *)
 all_goals first
  |(show packA _=_;rfl)|(skip)⟩
instance acW(a:Rat):DenI Tryz.prog 110 [R a] (rz a<=100000000) (R (-a)):=⟨λhp=>by
 refine au Tryz.func110 rfl ?_
 repeat'((try(conv=>whnf));first
  |apply zaf|refine zaa ?_ ?_|(with_reducible first|apply zab|apply zac|refine zad (λ_=>?_) (λ_=>?_)|refine zae (λ_=>?_) (λ_=>?_))|refine zat (λ_=>?_) (λ_=>?_)|refine zah ?_ ?_|refine zas ζ ?_|refine zal ?_ ?_|refine zam ?_ ?_|(with_reducible first|refine zak ?_ ?_|apply zaj|apply zai)|apply zaq)
 all_goals(try apply zar)
 all_goals(try simp only[aW]at *)
 all_goals first
  |(show packA _=_;rfl)|exact zaz⟩
instance adM(a b:Rat):DenI Tryz.prog 69 [R a,R b] (rz a<=100000000/\rz b<=100000000) (R (a*b)):=⟨λhp=>by
 refine au Tryz.func69 rfl ?_
 repeat'((try(conv=>whnf));first
  |apply zaf|refine zaa ?_ ?_|(with_reducible first|apply zab|apply zac|refine zad (λ_=>?_) (λ_=>?_)|refine zae (λ_=>?_) (λ_=>?_))|refine zat (λ_=>?_) (λ_=>?_)|refine zah ?_ ?_|refine zas ζ ?_|refine zal ?_ ?_|refine zam ?_ ?_|(with_reducible first|refine zak ?_ ?_|apply zaj|apply zai)|apply zaq)
 all_goals(try apply zar)
 all_goals(try simp only[aW]at *)
 all_goals first
  |(show packA _=_;exact congrArg R (mul_div a b))|exact zaz⟩
instance acL(a b:Rat):DenI Tryz.prog 72 [R a,R b] (rz a<=100000000/\rz b<=100000000) (R (a+b)):=⟨λhp=>by
 refine au Tryz.func72 rfl ?_
 repeat'((try(conv=>whnf));first
  |apply zaf|refine zaa ?_ ?_|(with_reducible first|apply zab|apply zac|refine zad (λ_=>?_) (λ_=>?_)|refine zae (λ_=>?_) (λ_=>?_))|refine zat (λ_=>?_) (λ_=>?_)|refine zah ?_ ?_|refine zas ζ ?_|refine zal ?_ ?_|refine zam ?_ ?_|(with_reducible first|refine zak ?_ ?_|apply zaj|apply zai)|apply zaq)
 all_goals(try apply zar)
 all_goals(try simp only[aW]at *)
 all_goals first
  |(show packA _=_;exact congrArg R (add_div a b))|exact zaz⟩
instance abZ(a b:Rat):DenI Tryz.prog 73 [R a,R b] (rz a<=100000000/\rz b<=100000000) (R (a-b)):=⟨λhp=>by
 refine au Tryz.func73 rfl ?_
 repeat'((try(conv=>whnf));first
  |apply zaf|refine zaa ?_ ?_|(with_reducible first|apply zab|apply zac|refine zad (λ_=>?_) (λ_=>?_)|refine zae (λ_=>?_) (λ_=>?_))|refine zat (λ_=>?_) (λ_=>?_)|refine zah ?_ ?_|refine zas ζ ?_|refine zal ?_ ?_|refine zam ?_ ?_|(with_reducible first|refine zak ?_ ?_|apply zaj|apply zai)|apply zaq)
 all_goals(try apply zar)
 all_goals(try simp only[aW]at *)
 all_goals first
  |(show packA _=_;exact congrArg R (Rat.sub_eq_add_neg a b).symm)|exact zaz⟩
instance acK(a b:Rat):DenI Tryz.prog 24 [R a,R b] (rz a<=100000000/\rz b<=100000000) (.int .i64 (dG a b)):=⟨λhp=>by
 refine au Tryz.func24 rfl ?_
 repeat'((try(conv=>whnf));first
  |apply zaf|refine zaa ?_ ?_|(with_reducible first|apply zab|apply zac|refine zad (λ_=>?_) (λ_=>?_)|refine zae (λ_=>?_) (λ_=>?_))|refine zat (λ_=>?_) (λ_=>?_)|refine zah ?_ ?_|refine zas ζ ?_|refine zal ?_ ?_|refine zam ?_ ?_|(with_reducible first|refine zak ?_ ?_|apply zaj|apply zai)|apply zaq)
 all_goals(try apply zar)
 all_goals(try simp only[aW]at *)
 all_goals first
  |(show packA _=_;rfl)|exact zaz⟩
instance Y5(neg:Bool)(l:List Nat):DenI Tryz.prog 119 [Zr neg l] (l.length<=9223372036854775807) (.bool (eG neg l)):=⟨λhp=>by
 refine au Tryz.func119 rfl ?_
 repeat'((try(conv=>whnf));first
  |apply zaf|refine zaa ?_ ?_|(with_reducible first|apply zab|apply zac|refine zad (λ_=>?_) (λ_=>?_)|refine zae (λ_=>?_) (λ_=>?_))|refine zat (λ_=>?_) (λ_=>?_)|refine zah ?_ ?_|refine zas ζ ?_|refine zal ?_ ?_|refine zam ?_ ?_|(with_reducible first|refine zak ?_ ?_|apply zaj|apply zai)|apply zaq)
 all_goals first
  |((conv=>whnf);refine Sw.Loop.inv (α:=Nat) (λx=>[(1,.ptr 1 0),(2,.bool false),(3,.int .i64 x)]) (λx=>[(1,.var [.v (.bool neg),lmc l])]) (λx=>x<=l.length/\∀j,j<x->l.getD j 0<1000000000) (λx=>l.length-x) 0 ?_ ?_ ?_ (λx hx=>?_))
 all_goals(repeat'((try(conv=>whnf));first
  |apply zaf|(with_reducible first|apply zab|apply zac|refine zad (λ_=>?_) (λ_=>?_))|refine zat (λ_=>?_) (λ_=>?_)|refine zas ζ ?_|(with_reducible refine zak ?_ ?_)|apply zaq))
 all_goals(try apply zar)
 all_goals first|(show SubE _ _;repeat'(first|exact trivial|refine And.intro ?_ ?_))|(show SubB _ _;repeat'(first|exact trivial|refine And.intro ?_ ?_))|skip
 all_goals(try rfl)
 all_goals(try simp only[aG,dh]at *)
 all_goals first
  |exact bE (NJ (x:=x) ω ξ)|(refine bE ?_;rw[MI hx ξ];(have hh:(ah l).length=l.length:=by omega);simp_all;done)|(refine bE ?_;rw[MI hx ξ];(have hh:¬(ah l).length=l.length:=by omega);simp_all;done)|((conv=>whnf);exact⟨x+1,⟨⟨rfl,rfl,aH ω,trivial⟩,⟨rfl,trivial⟩,⟨ω,λj hj=>by rcases Nat.lt_succ_iff_lt_or_eq.1 hj with h|h;exact hx.2 j h;subst h;omega⟩,by show l.length-(x+1)<l.length-x;omega⟩⟩)|omega|exact⟨ω,λj hj=>by omega⟩⟩
instance Zn(n1:Bool)(l1:List Nat)(n2:Bool)(l2:List Nat):DenI Tryz.prog 89 [Rr n1 l1 n2 l2] (l1.length<=1000000000/\l2.length<=1000000000) (.bool (fK n1 l1 n2 l2)):=⟨λhp=>by
 rcases uz n1 l1 n2 l2 with h|⟨x,rfl,rfl,h⟩|⟨x,y,rfl,rfl,rfl,rfl⟩
 all_goals refine au Tryz.func89 rfl ?_
 all_goals(repeat'((try(conv=>whnf));first
  |apply zaf|refine zaa ?_ ?_|(with_reducible first|apply zab|apply zac|refine zad (λ_=>?_) (λ_=>?_)|refine zae (λ_=>?_) (λ_=>?_))|refine zat (λ_=>?_) (λ_=>?_)|refine zah ?_ ?_|refine zas ζ ?_|refine zal ?_ ?_|refine zam ?_ ?_|(with_reducible first|refine zak ?_ ?_|apply zaj|apply zai)|apply zaq))
 all_goals(try apply zar)
 all_goals first
  |(simp only[mG]at *;exfalso;simp_all;done)|(exfalso;clear hp;simp at *;done)|(exfalso;simp_all;done)|(refine bE ?_;rw[iZ];simp_all;done)|exact bE (by unfold fK;simp_all)|exact hp|(first|exact aP hp.1 ψ|exact aP hp.2 ψ)⟩
end Go.Proofs.YtmniihkenijjpaaGreatDoor
