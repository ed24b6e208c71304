/-
  Rules of the abstract run, plain laws, and what functions answer, for the law RepairJoins.
  Conditions: none.
-/
import Derived.Test.YtmniihkenijjpaaGreatDoorX11
set_option linter.all false
namespace Go.Sw
open Go
def CY(sq:Rat)(v:P2)(l:List P2):Option P2→Prop
 |none=>∀w∈l,sq<lJ v w
 |some u=>u∈l∧lJ v u≤sq∧∀w∈l,lJ v u≤lJ v w
theorem Vw{sq:Rat}{v:P2}{l:List P2}{b:Option P2}(h:CY sq v l b)(w:P2):CY sq v (l++[w]) (ED sq v b w):=by
 unfold ED;cases b with
 |none =>
  by_cases h1:lJ v w≤sq
  ·rw[if_pos h1];refine⟨by simp,h1,λx hx=>?_⟩;rcases l9.1 hx with hx|hx
   ·have:=h x hx;grind
   ·simp at hx;subst hx;exact Rat.le_refl
  ·rw[if_neg h1];intro x hx;rcases l9.1 hx with hx|hx
   ·exact h x hx
   ·simp at hx;subst hx;exact Rat.not_le.1 h1
 |some u =>
  obtain⟨q1,q2,q3⟩:=h
  by_cases h1:lJ v w≤sq
  ·rw[if_pos h1]
   by_cases h2:lJ v w<lJ v u
   ·simp only[h2,if_true];refine⟨by simp,h1,λx hx=>?_⟩;rcases l9.1 hx with hx|hx
    ·have:=q3 x hx;grind
    ·simp at hx;subst hx;exact Rat.le_refl
   ·simp only[h2,if_false];refine⟨by simp[q1],q2,λx hx=>?_⟩;rcases l9.1 hx with hx|hx
    ·exact q3 x hx
    ·simp at hx;subst hx;exact Rat.not_lt.1 h2
  ·rw[if_neg h1];refine⟨by simp[q1],q2,λx hx=>?_⟩;rcases l9.1 hx with hx|hx
   ·exact q3 x hx
   ·simp at hx;subst hx;grind
theorem IB{sq:Rat}{v:P2}:∀(l:List P2) {pre:List P2} {b:Option P2},CY sq v pre b→CY sq v (pre++l) (l.foldl (ED sq v) b)
 |[],pre,b,h=>by simpa using h
 |w::r,pre,b,h=>by
  have:=IB r (Vw h w);simpa using this
theorem TK(sq:Rat)(v:P2)(l:List P2):CY sq v l (wM sq v l):=by
 have:=IB (sq:=sq) (v:=v) l (pre:=[]) (b:=none) (λw hw=>by simp at hw);unfold wM;simpa using this
theorem qA(sp:fD)(t s:ByteArray)(v:P2):bU (sp++[(t,v)]) s=bU sp s++(if eqS t s=true then[v]else[]):=by
 unfold bU eqS;rw[XP,gG];congr 1
 by_cases h:(t.toList == s.toList)=true
 ·simp[h]
 ·simp[h]
theorem JV(s:ByteArray):eqS s s=true:=by unfold eqS;simp
def SubS(sp sp':fD):Prop:=∀s w,w∈bU sp s→w∈bU sp' s
theorem SubS.refl(sp:fD):SubS sp sp:=λ_ _ h=>h
theorem SubS.trans{a b c:fD}(h:SubS a b)(k:SubS b c):SubS a c:=λs w hw=>k s w (h s w hw)
theorem sN(sq:Rat)(sp:fD)(s:ByteArray)(v:P2):((dD sq sp s v).1=sp∧(dD sq sp s v).2∈bU sp s∧lJ v (dD sq sp s v).2≤sq) ∨
 ((dD sq sp s v).1=sp++[(s,v)]∧(dD sq sp s v).2=v∧∀w∈bU sp s,sq<lJ v w):=by
 have h:=TK sq v (bU sp s);unfold dD;cases hn:wM sq v (bU sp s)with
 |none=>rw[hn]at h;exact .inr ⟨rfl,rfl,h⟩
 |some u=>rw[hn]at h;exact .inl ⟨rfl,h.1,h.2.1⟩
theorem SubS.snoc(sp:fD)(t:ByteArray)(v:P2):SubS sp (sp++[(t,v)]):=λs w hw=>by rw[qA];exact xW _ hw
theorem Qn(sq:Rat)(sp:fD)(s:ByteArray)(v:P2):SubS sp (dD sq sp s v).1:=by
 rcases sN sq sp s v with⟨h,_⟩|⟨h,_⟩<;>rw[h]
 ·exact SubS.refl sp
 ·exact SubS.snoc sp s v
theorem Fh(sq:Rat)(sp:fD)(s:ByteArray)(v:P2):(dD sq sp s v).2∈bU (dD sq sp s v).1 s:=by
 rcases sN sq sp s v with⟨h,h1,_⟩|⟨h,h1,_⟩<;>rw[h]
 ·exact h1
 ·rw[h1,qA,if_pos (JV s)];simp
structure JLok (sq:Rat) (s:ByteArray) (i k:Nat) (sp:fD) (l:List P2) (r:JL):Prop where
 len:r.ws.length=l.length
 sub:SubS sp r.sp
 mem:∀w∈r.ws,w∈bU r.sp s
 cs:∀c∈r.cs,c.kind=1∧c.ent=i∧∃j v w,c.fin=k+j∧l[j]?=some v∧r.ws[j]?=some w∧c.src=some v∧c.dst=some w∧v≠w∧lJ v w≤sq
theorem JB(sq:Rat)(s:ByteArray)(i:Nat):∀(k:Nat) (sp:fD) (l:List P2),JLok sq s i k sp l (joinL sq s i k sp l)
 |k,sp,[]=>⟨rfl,SubS.refl _,λw h=>by simp[joinL]at h,λc h=>by simp[joinL]at h⟩
 |k,sp,v::r=>by
  obtain⟨h1,h2,h3,h4⟩:=JB sq s i (k+1) (dD sq sp s v).1 r;refine⟨by simp[joinL,h1],(Qn sq sp s v).trans h2,λw hw=>?_,λc hc=>?_⟩
  ·rcases rF.1 hw with rfl|hw
   ·exact h2 s _ (Fh sq sp s v)
   ·exact h3 w hw
  ·rcases l9.1 hc with hc|hc
   ·unfold jn at hc;split at hc
    ·simp at hc
    ·rename_i hne;simp at hc;subst hc;refine⟨rfl,rfl,0,v,_,rfl,rfl,rfl,rfl,rfl,hne, ?_⟩;rcases sN sq sp s v with⟨_,_,g⟩|⟨_,g,_⟩
     ·exact g
     ·exact absurd g.symm hne
   ·obtain⟨q1,q2,j,a,b,q3,q4,q5,q6⟩:=h4 c hc;exact⟨q1,q2,j+1,a,b,by omega,q4,q5,q6⟩
theorem iI(e:Ent):(bH e=[]∧∀l,l.length=0→gW e l=e)∨(∃a b,e.kind=1∧e.pts=[a,b]∧bH e=[a,b])∨(∃a m b,e.kind=2∧e.pts=[a,m,b]∧bH e=[a,b]):=by
 obtain⟨kd,ly,pts,rd⟩:=e
 match pts with
 |[]=>exact .inl ⟨rfl,λl hl=>by cases l with|nil=>rfl|cons=>simp at hl⟩
 |[a]=>exact .inl ⟨rfl,λl hl=>by cases l with|nil=>rfl|cons=>simp at hl⟩
 |[a,b] =>
  by_cases h:kd=1
  ·subst h;exact .inr (.inl ⟨a,b,rfl,rfl,rfl⟩)
  ·exact .inl ⟨by simp[bH,h],λl hl=>by cases l with|nil=>rfl|cons=>simp at hl⟩
 |[a,m,b] =>
  by_cases h:kd=2
  ·subst h;exact .inr (.inr ⟨a,m,b,rfl,rfl,rfl⟩)
  ·exact .inl ⟨by simp[bH,h],λl hl=>by cases l with|nil=>rfl|cons=>simp at hl⟩
 |_::_::_::_::_=>exact .inl ⟨rfl,λl hl=>by cases l with|nil=>rfl|cons=>simp at hl⟩
theorem qN{e:Ent}{l:List P2}(h:l.length=(bH e).length):bH (gW e l)=l∧(gW e l).layer=e.layer∧(gW e l).kind=e.kind∧(gW e l).pts.length=e.pts.length∧(gW e l).rad=e.rad:=by
 obtain⟨kd,ly,pts,rd⟩:=e;rcases iI ⟨kd,ly,pts,rd⟩with⟨h1,h2⟩|⟨a,b,h1,h2,h3⟩|⟨a,m,b,h1,h2,h3⟩
 ·rw[h1]at h;rw[h2 l h,h1];exact⟨(Jk h).symm,rfl,rfl,rfl,rfl⟩
 ·simp only at h1 h2;subst h1 h2;rw[h3]at h
  match l,h with
  |[x,y],_=>exact⟨rfl,rfl,rfl,rfl,rfl⟩
 ·simp only at h1 h2;subst h1 h2;rw[h3]at h
  match l,h with
  |[x,y],_=>exact⟨rfl,rfl,rfl,rfl,rfl⟩
theorem MI(e:Ent):gW e (bH e)=e:=by
 obtain⟨kd,ly,pts,rd⟩:=e;rcases iI ⟨kd,ly,pts,rd⟩with⟨h1,h2⟩|⟨a,b,h1,h2,h3⟩|⟨a,m,b,h1,h2,h3⟩
 ·exact h2 _ (by rw[h1];rfl)
 ·simp only at h1 h2;subst h1 h2;rfl
 ·simp only at h1 h2;subst h1 h2;rfl
structure JAok (sq:Rat) (i:Nat) (sp:fD) (l:List Ent) (r:JA):Prop where
 len:r.es.length=l.length
 sub:SubS sp r.sp
 ent:∀(j:Nat) e e',l[j]?=some e→r.es[j]?=some e'→∃ws,ws.length=(bH e).length∧e'=gW e ws∧∀w∈ws,w∈bU r.sp e.layer
 cs:∀c∈r.cs,c.kind=1∧∃j e e' k v w,c.ent=i+j∧l[j]?=some e∧r.es[j]?=some e'∧c.fin=k∧(bH e)[k]?=some v∧(bH e')[k]?=some w∧c.src=some v∧c.dst=some w∧v≠w∧lJ v w≤sq
theorem pR(sq:Rat):∀(i:Nat) (sp:fD) (l:List Ent),JAok sq i sp l (dA sq i sp l)
 |i,sp,[]=>⟨rfl,SubS.refl _,λj e e' h=>by simp at h,λc h=>by simp[dA]at h⟩
 |i,sp,e::r=>by
  obtain⟨a1,a2,a3,a4⟩:=JB sq e.layer i 0 sp (bH e);obtain⟨h1,h2,h3,h4⟩:=pR sq (i+1) (joinL sq e.layer i 0 sp (bH e)).sp r;refine⟨by simp[dA,h1],a2.trans h2,λj x x' hx hx'=>?_,λc hc=>?_⟩
  ·cases j with
   |zero =>
    simp[dA]at hx hx';subst hx hx';exact⟨_,a1,rfl,λw hw=>h2 _ _ (a3 w hw)⟩
   |succ j=>exact h3 j x x' (by simpa using hx) (by simpa[dA]using hx')
  ·rcases l9.1 hc with hc|hc
   ·obtain⟨q1,q2,j,v,w,q3,q4,q5,q6,q7,q8⟩:=a4 c hc;refine⟨q1,0,e,_,j,v,w,by omega,rfl,rfl,by omega,q4, ?_,q6,q7,q8⟩;rw[(qN a1).1];exact q5
   ·obtain⟨q1,j,x,x',k,v,w,q2,q3,q4,q5⟩:=h4 c hc;exact⟨q1,j+1,x,x',k,v,w,by omega,by simpa using q3,by simpa[dA]using q4,q5⟩
end Go.Sw
namespace Go.Sw
open Go Go.RowKit
section
variable {P:Program} {ρ:Operand→Value} {w:World} {d:Option Tmp} {ty:TypeId} {pos:String} {af:Array Edge} {gd:Option (Nat × Bool)}
theorem PU{x:Operand}{ad:Addr}(hx:ρ x=.pointer (some ad)):(execOp ρ ⟨d,.nilCheck x,ty,pos,af,gd⟩).run P w=.ok (.value (.pointer (some ad))) w:=by
 simp[execOp,hx]
theorem yN{t:TypeId}{x y:Operand}{g0:Nat}{k v:Value}(hx:ρ x=.map (some g0))(hy:ρ y=k)(h:(Instr.lookup t (.map (some g0)) k false).run P w=.ok v w):(execOp ρ ⟨d,.lookup t x y false,ty,pos,af,gd⟩).run P w=.ok (.value v) w:=by
 simp[execOp,hx,hy,h,Result.andThen]
theorem xH{t:TypeId}{x y z:Operand}{g0:Nat}{k v:Value}{w':World}(hx:ρ x=.map (some g0))(hy:ρ y=k)(hz:ρ z=v)(h:(Instr.mapUpdate t (.map (some g0)) k v).run P w=.ok () w'):(execOp ρ ⟨d,.mapUpdate t x y z,ty,pos,af,gd⟩).run P w=.ok .skip w':=by
 simp[execOp,hx,hy,hz,h,Result.andThen]
theorem Ro{t:TypeId}{x y:Operand}{u v r:Value}{w':World}(hx:ρ x=u)(hy:ρ y=v)(h:(Builtin.append_ #[t,t] ty #[u,v]).run P w=.ok r w'):(execOp ρ ⟨d,.call ⟨.builtin .append,#[x,y],#[t,t]⟩,ty,pos,af,gd⟩).run P w=.ok (.value r) w':=by
 have hu : #[x,y].map ρ = #[u,v]:=by simp[hx,hy]
 simp only[execOp,resolve,invoke,builtin,hu,Sem.run_bind,Sem.run_pure,Result.andThen_ok];rw[h];simp
theorem BO{t:TypeId}:(execOp ρ ⟨d,.makeMap t none,ty,pos,af,gd⟩).run P w=.ok (.value (.map (some w.heap.size))) (w.alloc (.map #[] 0)):=by
 simp[execOp,run_makeMap]
theorem YS{t e:TypeId}{by_:Nat}{z:Array Value}{x:Operand}{cs:Array Value}(ht:sliceOf P t=some (e,8))(he:Sw.elemOf P e=some (z,8,by_))(hz:z.size=8)(hx:ρ x=.agg cs)(hc:cs.size=8):
 (execOp ρ ⟨d,.buildSlice t 1 #[(0,x)],ty,pos,af,gd⟩).run P w=.ok (.value (.slice (some ⟨w.heap.size,0,none⟩) 1 1)) (w.alloc (.cells cs e)):=by
 have hfill:Instr.fill (λi=>some (i*8,8)) (madeCells z (1*8)) [(0,.agg cs)]=some cs:=by
  obtain⟨l⟩:=cs
  match l,hc with
  |[a0,a1,a2,a3,a4,a5,a6,a7],_ =>
  obtain⟨zl⟩:=z
  match zl,hz with
  |[z0,z1,z2,z3,z4,z5,z6,z7],_=>simp[Instr.fill,madeCells,Value.cells,show Array.range 8 = #[0,1,2,3,4,5,6,7] by decide]
 have hr:=Gx (P:=P) (w:=w) (n:=1) (parts:=#[(0,.agg cs)]) ht he (by omega) (by omega) hfill;simp only[execOp,Sem.run_bind];have:(#[(0,x)]:Array (Nat×Operand)).map (λp=>(p.1,ρ p.2)) = #[(0,.agg cs)]:=by simp[hx]
 rw[this,hr];simp
theorem NH{t:TypeId}{x y:Operand}{u:Value}{cs:Array Value}(hx:ρ x=u)(hu:u.cells = #[u])(hy:ρ y=.agg cs)(h:(Instr.build t #[(0,u),(1,.agg cs)]).run P w=.ok (.agg (#[u]++cs)) w):
 (execOp ρ ⟨d,.build t #[(0,x),(1,y)],ty,pos,af,gd⟩).run P w=.ok (.value (.agg (#[u]++cs))) w:=by
 simp only[execOp,Sem.run_bind];have:(#[(0,x),(1,y)]:Array (Nat×Operand)).map (λp=>(p.1,ρ p.2)) = #[(0,u),(1,.agg cs)]:=by simp[hx,hy]
 rw[this,h];simp
end
theorem SlotR.inv{w:World}{X:List Nat}{T:TypeId}{s:Nat}{more:List Bx}{v:Value}{es:List (List Cell)}{og:Option Nat}(h:SlotR w X T s more v es og)(h0:0<es.length):∃g cap uss rest,v=.slice (Option.some ⟨g,0,none⟩) es.length cap∧og=Option.some g∧((g,T,(List.flatten uss++rest).toArray):Bx)∈more∧RepS w X s uss es∧cap*s=(List.flatten uss++rest).length∧es.length≤cap:=by
 cases h with
 |no=>simp at h0
 |some hm hr hc hx hn h0=>exact⟨_,_,_,_,rfl,rfl,hm,hr,hc,hn⟩
theorem SlotR.row{w:World}{X:List Nat}{T:TypeId}{s:Nat}{more:List Bx}{v:Value}{es:List (List Cell)}{og:Option Nat}(h:SlotR w X T s more v es og)(hm:∀q:Bx,q∈more→w.heap[q.1]?=Option.some (Obj.cells q.2.2 q.2.1 (0,0))):∃uss,RepS w X s uss es∧w.ownsRow 0 T s v es.length uss.flatten∧v.ownBlock=og:=by
 cases h with
 |no=>exact⟨[],.nil _ _ _,⟨by simp,.inl ⟨rfl,rfl⟩⟩,rfl⟩
 |some hm' hr hc hx hn h0 =>
  rename_i g cap uss rest;refine⟨uss,hr,⟨by rw[dH hr.sz,hr.len],.inr ⟨g,cap,_,rfl,rC _,hm _ hm',hn,hx,by simpa using hc.symm, ?_⟩⟩,rfl⟩;rw[XR];have:uss.flatten.length=es.length*s:=by rw[dH hr.sz,hr.len]
  rw[←this,List.take_left' rfl]
theorem Ib{w w':World}{T:TypeId}{s n:Nat}{v:Value}{xs:List Value}(h:w.ownsRow 0 T s v n xs)(hk:∀i,i<w.heap.size→w'.heap[i]?=w.heap[i]?):w'.ownsRow 0 T s v n xs:=by
 refine⟨h.1, ?_⟩;rcases h.2 with h|⟨g,cap,cur,h1,h2,h3,h4⟩
 ·exact .inl h
 ·exact .inr ⟨g,cap,cur,h1,h2,(hk g (lt_of_heap h3)).trans h3,h4⟩
section
variable {P:Program} {ρ:Operand→Value} {w:World} {d:Option Tmp} {ty:TypeId} {pos:String} {af:Array Edge} {gd:Option (Nat × Bool)} {Q:Exit→Act→World→Prop} {l:List Oper}
theorem I7{t:TypeId}{x y:Operand}{p v:Value}{w':World}(hx:ρ x=p)(hy:ρ y=v)(h:(Instr.storeAt t p v).run P w=.ok () w'):(execOp ρ ⟨d,.store t x y,ty,pos,af,gd⟩).run P w=.ok .skip w':=by
 simp only[execOp,hx,hy,Sem.run_bind,h,Result.andThen_ok,Sem.run_pure]
theorem PI{i e:Nat}{o:Oper}{a:Act}{w':World}{K:Act→World→Prop}{v:Value}(ho:l[i]?=some o)(hg:o.guard=none)(hd:o.dst=some e)(hr:(execOp a.eval o).run P w=.ok (.value v) w')(hK:K (a.put (some e) v) w'):wpOp P l.toArray Q i K a w:=by
 refine wop ho hg ?_;unfold Oper.wp;rw[hr];simp only[Oper.upon,hd];exact hK
theorem TA{i:Nat}{o:Oper}{a:Act}{w':World}{K:Act→World→Prop}(ho:l[i]?=some o)(hg:o.guard=none)(hd:o.dst=none)(hr:(execOp a.eval o).run P w=.ok .skip w')(hK:K (a.put none undef) w'):wpOp P l.toArray Q i K a w:=by
 refine wop ho hg ?_;unfold Oper.wp;rw[hr];simp only[Oper.upon,hd];exact hK
theorem Bd{us vs:Array Value}(h:us.size=vs.size):splice us 0 vs=vs:=by
 have:=rJ us.toList vs.toList 0;simp only[Array.toArray_toList]at this;rw[this];have hd:List.drop vs.size us.toList=[]:=qbQ (by simp[h]);simp[hd]
end
theorem lQ{P:Program}{ops:Array Oper}{Q:Exit→Act→World→Prop}{l:List Oper}{a:Act}{w:World}(n:Nat)(h:wpList P ops Q (l.take n++l.drop n) a w):wpList P ops Q l a w:=by
 rwa [Nj]at h
theorem OE{P:Program}{fn:Func}{R:Ending→World→Prop}{a:Act}{w:World}{r:ResultVar}{u:Value}(hr:fn.results.toList=[r])(hd:a.defers=[])(h1:(fG a.tmps r).run P w=.ok u w)(hR:R (.returned u) w):bodyPost P fn R .ret a w :=
 ⟨hd,u,by rw[jS,Sem.run_bind,qbS,hr];simp[h1],hR⟩
@[reducible] def aY(p:P2):List Cell:=[zs p.1.num,zl p.1.num,zs p.1.den,zl p.1.den,zs p.2.num,zl p.2.num,zs p.2.den,zl p.2.den]
@[reducible] def BH(q:Rat):List Cell:=[zs q.num,zl q.num,zs q.den,zl q.den]
def KW(sq:Rat)(sp:fD)(n:Nat):JS:=⟨BH sq,λs=>(bU sp s).map aY,n⟩
theorem aaj{a b:ByteArray}:eqS a b=true↔a=b:=by
 unfold eqS;constructor
 ·intro h;have:=eq_of_beq h;rw[ByteArray.toList_eq,ByteArray.toList_eq]at this;have h2:a.data=b.data:=Dv this;cases a;cases b;simp_all
 ·rintro rfl;simp
theorem Y5(sq:Rat)(sp:fD)(n:Nat)(s:ByteArray)(v:P2):(KW sq sp n).add s (aY v)=KW sq (sp++[(s,v)]) (n+1):=by
 unfold KW JS.add;congr 1
 funext x
 rw[qA]
 by_cases h:x=s
 ·subst h;rw[if_pos rfl,if_pos (JV x)];simp
 ·rw[if_neg h,if_neg (λe=>h (aaj.1 e).symm)];simp
def gy(sq:Rat)(v:P2)(l:List P2):Nat→Int
 |0=>-1
 |i+1=>if lJ v (l.getD i P0)≤sq∧(gy sq v l i<0∨lJ v (l.getD i P0)<lJ v (l.getD (gy sq v l i).toNat P0))then(i:Int)else gy sq v l i
theorem rW(sq:Rat)(v:P2)(l:List P2):∀i,i≤l.length→-1≤gy sq v l i∧gy sq v l i<i∧wM sq v (l.take i)=(if gy sq v l i<0 then none else some (l.getD (gy sq v l i).toNat P0))
 |0,_=>⟨by simp[gy],by simp[gy],by simp[gy,wM]⟩
 |i+1,hi=>by
  obtain⟨h1,h2,h3⟩:=rW sq v l i (by omega);have hlt:i<l.length:=by omega
  have ht:l.take (i+1)=l.take i++[l.getD i P0]:=by
   rw[List.take_add_one];simp[jg hlt,pz]
  have hn:wM sq v (l.take (i+1))=ED sq v (wM sq v (l.take i)) (l.getD i P0):=by
   rw[ht];unfold wM;rw[List.foldl_append];rfl
  rw[hn,h3,show gy sq v l (i+1)=if lJ v (l.getD i P0)≤sq∧(gy sq v l i<0∨lJ v (l.getD i P0)<lJ v (l.getD (gy sq v l i).toNat P0))then(i:Int)else gy sq v l i from rfl];unfold ED
  by_cases q1:lJ v (l.getD i P0)≤sq
  ·by_cases q2:gy sq v l i<0
   ·rw[if_pos ⟨q1,.inl q2⟩,if_pos q1,if_pos q2];refine⟨by omega,by omega, ?_⟩;rw[if_neg (by omega)];simp
   ·rw[if_neg q2,if_pos q1]
    by_cases q3:lJ v (l.getD i P0)<lJ v (l.getD (gy sq v l i).toNat P0)
    ·rw[if_pos ⟨q1,.inr q3⟩];refine⟨by omega,by omega, ?_⟩;simp only[q3,if_true];rw[if_neg (by omega)];simp
    ·rw[if_neg (λh=>by rcases h.2 with h|h;exact q2 h;exact q3 h)];refine⟨by omega,by omega, ?_⟩;simp only[q3,if_false,q2]
  ·rw[if_neg (λh=>q1 h.1),if_neg q1];exact⟨by omega,by omega,rfl⟩
end Go.Sw
namespace Go.Sw
open Go Go.RowKit
section
variable {P:Program} [Wld P] {a:Act} {w:World}
theorem agX{ops:Array Oper}{Q:Exit→Act→World→Prop}{o:Oper}{rest:List Oper}{f:FuncId}{vs:Array Value}{R:Value→World→Prop}(hg:o.guard=none)(hr:(execOp a.eval o).run P w=.ok (.enter f vs) w)(hc:Calls P f vs w (BG R))(k:∀u w',R u w'→wpList P ops Q rest (a.put o.dst u) w'):wpList P ops Q (o::rest) a w :=
 wpList_plain hg λK hK=>Does.wp (R:=R) (.inr (.inr ⟨f,vs,hr,hc⟩)) (λu w' h=>hK _ _ (k u w' h))
theorem KO{t:TypeId}{z:List Cell}(htt:gB P t (.row 5 [(0,1,false),(1,4,true)] z)=true)(hzl:z.length=5){g0:Nat}{us:List Value}(hl:us.length=4):(Instr.build t #[(0,.map (some g0)),(1,.agg us.toArray)]).run P w=.ok (.agg (#[.map (some g0)]++us.toArray)) w:=by
 obtain⟨fl,hun,hfl⟩:=rowT htt;obtain⟨zz,hz,hzz⟩:=xB htt rfl;have hzr:=(kL w [] hzz).len
 match us,hl with
 |[x0,x1,x2,x3],_ =>
 obtain⟨zl⟩:=zz;have hzl':zl.length=5:=by simpa[hzl,zeroCells]using hzr
 match zl,hzl' with
 |[y0,y1,y2,y3,y4],_ =>
 unfold zeroOf at hz;cases hq:P.info? t with
 |none=>simp[hq]at hz
 |some i =>
  cases hzi:i.zero with
  |none=>simp[hq,hzi]at hz
  |some v =>
   simp[hq,hzi]at hz;have hr:=run_places (w:=w) hfl
   have hr':(fl.mapM (m:=Sem) λf=>Prod.mk f.offset <$> sizeOf f.type).run P w=.ok #[(0,1),(1,4)] w:=by
    rw[qbS];simp[hr]
   have h1':Instr.fill (λi=>(#[(0,1),(1,4)]:Array (Nat×Nat))[i]?) v.cells [(0,.map (some g0)),(1,.agg #[x0,x1,x2,x3])]=some #[.map (some g0),x0,x1,x2,x3]:=by
    rw[hz];simp[Instr.fill,Value.cells,show Array.range 4 = #[0,1,2,3] by decide,show Array.range 1 = #[0] by decide]
   simp only[Instr.build,zeroValue,typeInfo,Sem.run_bind];simp[hq,hzi,run_underlying hun,hr'];simp at h1';simp[h1']
theorem agW{α β:Type}{f:α→β}{x y:α}{u v:β}(h1:f x=u)(h2:f y=v):#[x,y].map f = #[u,v]:=by simp[h1,h2]
variable [Kp] {N:Nat} {w0:World} {X0:List Nat} {S:List Bx} {M:MM} {e:Env} {b:aN}
theorem Sta.var(h:Sta N w0 X0 S M a w e b){t i:Nat}{cs:List Cell}(hx:ld t e=some (.ptr i 0))(hb:ld i b=some (.var cs)):∃g T us,a.tmps.getD t undef=.pointer (some ⟨g,0,none⟩)∧w.heap[g]?=some (.cells us T (0,0))∧RepL w (bl S++X0) us.toList cs:=by
 obtain⟨m,g,hm,hv,hg,hxe⟩:=(h.env t _ hx).ptr_;obtain⟨m',hm',h1,h2,⟨g',h3⟩,h4⟩:=h.box i _ hb;rw[hm]at hm';cases hm';have h8:=h.ms.st.box _ (h.ms.inS i m hm h2 g hg);exact⟨g,m.T,_,hxe,h8.1,by simpa using h4⟩
theorem RepF.agg{B:Nat}{w:World}{X:List Nat}{u:Value}{cs:List Cell}(h:RepF B w X u (.agg cs)):∃us:List Value,u=.agg us.toArray∧RepL w X us cs:=by
 cases h.r with
 |d h=>cases h with
  |agg h=>exact⟨_,rfl,h⟩
end
theorem Jt(w:World)(o:Obj):Below w.heap.size w (w.alloc o):=⟨rfl,rfl,rfl,(by show w.heap.size≤(w.heap.push _).size;rw[Array.size_push];omega),λk hk=>Below.heap_alloc w o k hk⟩
theorem TB(w:World)(o:Obj):(w.alloc o).heap[w.heap.size]?=some o:=Array.getElem?_push_size
theorem afJ{P:Program}{kT T:TypeId}{s:Nat}{sq:List Cell}{w:World}{X:List Nat}{us:List Value}{g0 n:Nat}(h:RepL w X us sq):Yw P kT T s ⟨sq,λ_=>[],n⟩ w X (.map (some g0)::us) [] (g0,#[],0) :=
 ⟨us,rfl,h,⟨rC _,⟨λ_ h=>(by simp at h),by simp,by simp⟩,λ_ h=>(by simp at h)⟩,rC _,λ_ => .slice none 0 0,λ_=>none,λk=>rfl,λk => .no,λ_ _ _ h=>by cases h⟩
end Go.Sw
namespace Go.Sw
open Go Go.RowKit
section
variable {P:Program} [Wld P] [Kp] {N:Nat} {w0:World} {X0:List Nat} {S:List Bx} {M:MM} {e:Env} {b:aN} {a:Act} {w:World}
theorem Sta.varo(h:Sta N w0 X0 S M a w e b){i:Nat}{T:TypeId}{us:List Value}{cs:List Cell}(hi:ld i b=none)(hie:mention [i] e=false)(hib:gZ [i] b=false)(hic:i ∉ kJ cs)(hiN:DL N i)
 (hO:RepO w (bl S++X0) M us cs):Conc N w0 X0 ((i,.ptr i 0)::e) ((i,.varo cs)::b) (a.put (some i) (.pointer (some ⟨w.heap.size,0,none⟩))) (w.alloc (.cells us.toArray T)):=by
 have hms:=h.ms.alloc (i:=i) (m:=⟨true,true,some w.heap.size,T,0,0,0,us,none⟩) rfl rfl rfl rfl;have hext:Ext w (bl S++X0) (w.alloc (.cells us.toArray T)) (bl ((w.heap.size,T,us.toArray)::S)++X0):=Ext.alloc _ _ _
 have hM:∀c,c≠i→∀m,M c=some m→(M.set i ⟨true,true,some w.heap.size,T,0,0,0,us,none⟩) c=some m:=λc hc m hm=>by
  rw[MM.set_other _ _ hc];exact hm
 refine⟨_,_,hms,h.x0,by simp[Act.put,h.sz],⟨qB h.df.1 hiN,h.df.2.ext hext⟩,λt v hv=>?_,λc x hx=>?_⟩
 ·by_cases hti:i=t
  ·subst hti;rw[aO]at hv;cases hv;rw[dw _ h.sz hiN.1];exact .ptr (MM.set_same _ _ _) rfl rfl
  ·rw[aX _ _ hti]at hv;rw[bK _ hti];exact(h.env t v hv).ext hext λj hj m hm=>⟨m,hM j (λe=>by subst e;exact jQ hie hv j hj (by simp)) m hm,Comp.refl m⟩
 ·by_cases hci:i=c
  ·subst hci;rw[aO]at hx;cases hx;exact⟨_,MM.set_same _ _ _,rfl,rfl,⟨_,rfl⟩,hO.ext hext λd hd mc hmc=>⟨mc,hM d (λe=>by subst e;exact hic hd) mc hmc,Comp.refl mc⟩⟩
  ·rw[aX _ _ hci]at hx;obtain⟨m,h1,h2⟩:=h.box c x hx;exact⟨m,hM c (λe=>hci e.symm) m h1,h2.ext hext λd hd mc hmc=>⟨mc,hM d (λe=>by subst e;exact je hib c x hx d hd (by simp)) mc hmc,Comp.refl mc⟩⟩
end
end Go.Sw
namespace Go.Sw
open Go Go.RowKit
def Wp:Nat→Code→Code
 |n+1,.seq x y => .seq x (Wp n y)
 |_,_ => .skip
def V4:Nat→Code→Code
 |n+1,.seq x y=>V4 n y
 |_,c=>c
section
variable {P:Program} [Wld P] [Kp] [Gr] {τ:Tab} {N:Nat} {w0:World} {X0:List Nat} [hwo:WOk P w0]
theorem uY(hτ:dN P τ=true)(hm:P.follows .mixedOrders=true):∀(n:Nat) (c:Code) {QA:Ex→Env→aN→Prop} {Q:Exit→Act→World→Prop} {e:Env} {b:aN} {a:Act} {w:World},iU N (Wp n c)=true→zh (Den P) τ (Wp n c) QA e b→Conc N w0 X0 e b a w →
 (∀e b a w,QA .normal e b→Conc N w0 X0 e b a w→(V4 n c).wp P Q a w)→(∀x e b a w,x ≠ .normal→QA x e b→Conc N w0 X0 e b a w→Q x.x a w)→c.wp P Q a w
 |0,c,QA,Q,e,b,a,w,ht,hk,hc,h1,h2=>by
  have hk':QA .normal e b:=by cases c<;>exact hk
  have:=h1 e b a w hk' hc;cases c<;>exact this
 |n+1,c,QA,Q,e,b,a,w,ht,hk,hc,h1,h2=>by
  cases c with
  |seq x y =>
   simp only[Wp,iU,eF]at ht;refine aF (eP hτ hm x ht.1 hk hc λz e b a w hz hc=>?_);cases z with
   |normal=>exact bY (uY hτ hm n y ht.2 hz hc h1 h2)
   |ret=>exact Ry (h2 .ret _ _ _ _ (by intro h;cases h) hz hc)
   |exit id=>exact qP (h2 (.exit id) _ _ _ _ (by intro h;cases h) hz hc)
  |_=>exact h1 e b a w hk hc
end
section
variable {P:Program} [Wld P] [Kp] {N:Nat} {w0:World} {X0:List Nat} {e:Env} {b:aN} {a:Act} {w:World}
theorem Conc.ghostF(h:Conc N w0 X0 e b a w){i j T s k:Nat}{cs:List Cell}(hb:ld j b=some (.var cs))(hk:cs[k]?=some (.v (.slice none 0 0)))(hie:mention [i] e=false)(hi:ld i b=none)(hs:0<s)(hib:gZ [i] b=false):Conc N w0 X0 e ((i,.grow T s [])::up j (.varo (cs.set k (.ob i 0))) b) a w:=by
 obtain⟨S,M,h⟩:=h;have hij:i≠j:=λe=>by subst e;rw[hi]at hb;cases hb
 have hM:∀c,c≠i→∀m,M c=some m→(M.set i ⟨false,true,none,T,s,0,0,[],none⟩) c=some m:=λc hc m hm=>by rw[MM.set_other _ _ hc];exact hm
 refine⟨S,M.set i ⟨false,true,none,T,s,0,0,[],none⟩,⟨h.ms.st,h.ms.gh.set (λx hx=>by cases hx) (λ_ _ _ _ _ _ _ h=>h) (λ_ _ _ h=>h) (λg' h1 h2=>by cases h2),λc mc hc hco gc hgc=>?_,λc c' mc mc' gc h1 h2 h3 h4 h5 h6=>?_⟩,h.x0,h.sz,h.df,λc v hv=>?_,λc x hx=>?_⟩
 ·by_cases hci:c=i
  ·subst hci;rw[MM.set_same]at hc;cases hc;cases hgc
  ·rw[MM.set_other _ _ hci]at hc;exact h.ms.inS c mc hc hco gc hgc
 ·by_cases hci:c=i
  ·subst hci;rw[MM.set_same]at h1;cases h1;cases h5
  ·by_cases hci':c'=i
   ·subst hci';rw[MM.set_same]at h2;cases h2;cases h6
   ·rw[MM.set_other _ _ hci]at h1;rw[MM.set_other _ _ hci']at h2;exact h.ms.inj c c' mc mc' gc h1 h2 h3 h4 h5 h6
 ·refine(h.env c v hv).ext (Ext.refl _ _) λj hj m hm'=>⟨m, ?_,Comp.refl m⟩
  have hne:j≠i:=λe=>by subst e;exact jQ hie hv j hj (by simp)
  rw[MM.set_other _ _ hne];exact hm'
 ·by_cases hci:i=c
  ·subst hci;rw[aO]at hx;cases hx;exact⟨_,MM.set_same _ _ _,rfl,rfl,rfl,⟨rfl,hs⟩,rfl,.inl ⟨rfl,rfl,rfl⟩⟩
  ·rw[aX _ _ hci,oC]at hx
   by_cases hcj:j=c
   ·subst hcj;simp only[beq_self_eq_true,Wn,cond_true,if_true]at hx;cases hx;obtain⟨m,h1,q1,q2,q3,q4⟩:=h.box j _ hb;refine⟨m,hM j (λe=>hij e.symm) m h1,q1,q2,q3,by rw[q4.len,NC],λt u c hu hc=>?_⟩
    by_cases htk:t=k
    ·subst htk;have hlt:t<cs.length:=(mG.1 hk).1;rw[List.getElem?_set_self hlt]at hc;cases hc;have h5:=q4.get t u _ hu hk;have h6:u=.slice none 0 0:=by cases h5 with|v u h=>rfl
     subst h6;exact .ob (.gs (MM.set_same _ _ _) rfl (jE _) (λ_=>rfl) ⟨_,_,rfl⟩) rfl
    ·rw[List.getElem?_set_ne (λe=>htk e.symm)]at hc;exact .c (q4.get t u c hu hc)
   ·have hne:ld c b=some x:=by rwa [if_neg (λe=>hcj e.symm)]at hx
    obtain⟨m,h1,h2⟩:=h.box c x hne;exact⟨m,hM c (λe=>hci e.symm) m h1,h2.ext (Ext.refl _ _) λd hd mc hmc=>⟨mc,hM d (λe=>by subst e;exact je hib c x hne d hd (by simp)) mc hmc,Comp.refl mc⟩⟩
end
end Go.Sw
namespace Go.Sw
open Go Go.RowKit
section
variable {P:Program} [Wld P] [Kp] {N:Nat} {w0:World} {X0:List Nat} {e:Env} {b:aN} {a:Act} {w:World}
theorem RepS.cut{w:World}{X:List Nat}{s:Nat}{us:List (List Value)}{cs:List (List Cell)}(h:RepS w X s us cs)(k:Nat):RepS w X s (us.take k) (cs.take k) :=
 ⟨by simp[h.len],λu hu=>h.sz u (List.mem_of_mem_take hu),λj u c x y=>by
  rw[Dw]at x y;split at x
  ·rename_i hj;rw[if_pos hj]at y;exact h.get j u c x y
  ·cases x⟩
theorem Conc.nilS(h:Conc N w0 X0 e b a w){t s:Nat}(ht:ld t e=some (.c (.v (.slice none 0 0)))):Conc N w0 X0 ((t,.c (.sl s []))::e) b a w:=by
 obtain⟨S,M,h⟩:=h;refine⟨S,M,h.ms,h.x0,h.sz,h.df,λc v hv=>?_,h.box⟩
 by_cases htc:t=c
 ·subst htc;rw[aO]at hv;cases hv;rw[(h.env t _ ht).v_];exact .d (.c (RepC.nil _ _ _))
 ·rw[aX _ _ htc]at hv;exact h.env c v hv
theorem Conc.shrink(h:Conc N w0 X0 e b a w){t i T s k d:Nat}{es:List (List Cell)}{e':Env}(ht:ld t e=some (.gs i es.length))(hb:ld i b=some (.grow T s es))(hk:k≤es.length)(hd:DL N d)(hs:SubE e' e)(hm:mention [i] e'=false)(hmb:gZ [i] b=false):
 ∃A cap,a.tmps.getD t undef=.slice A es.length cap∧es.length≤cap∧Conc N w0 X0 ((d,.gs i k)::e') (up i (.grow T s (es.take k)) b) (a.put (some d) (.slice A k cap)) w:=by
 obtain⟨S,M,h⟩:=h;obtain⟨m,h1,q1,q2,q3,⟨q4,q4'⟩,q5,q6⟩:=h.box i _ hb
 have hu:a.tmps.getD t undef=hdr m:=by
  have hv:=h.env t _ ht;generalize a.tmps.getD t undef=u at hv;cases hv with
  |gs hm' hv' hle h' hu'=>rw[h1]at hm';cases hm';exact h' q5
  |d hd=>cases hd
 have hcap:es.length≤m.cap:=by
  rcases q6 with⟨_,q,_⟩|⟨g,uss,rest,_,_,_,_,_,q⟩
  ·rw[q];exact rC _
  ·omega
 refine⟨m.g.map λg=>⟨g,0,none⟩,m.cap,by rw[hu,←q5];rfl,hcap,S,M.set i { m with n:=k },⟨h.ms.st,h.ms.gh.set (λx hx=>⟨m,h1,hx⟩) (λ_ _ _ _ _ _ _ h=>h) (λ_ _ _ h=>h) (λg' k1 k2 => .inl ⟨m,h1,k1,k2⟩),λc mc hc hco gc hgc=>?_,λc c' mc mc' gc k1 k2 k3 k4 k5 k6=>?_⟩,h.x0,by simp[Act.put,h.sz],⟨qB h.df.1 hd,h.df.2⟩,λc v hv=>?_,λc x hx=>?_⟩
 ·by_cases hci:c=i
  ·subst hci;rw[MM.set_same]at hc;cases hc;exact h.ms.inS c m h1 hco gc hgc
  ·rw[MM.set_other _ _ hci]at hc;exact h.ms.inS c mc hc hco gc hgc
 ·by_cases hci:c=i
  ·subst hci;rw[MM.set_same]at k1;cases k1
   by_cases hci':c'=c
   ·exact hci'.symm
   ·rw[MM.set_other _ _ hci']at k2;exact h.ms.inj c c' m mc' gc h1 k2 k3 k4 k5 k6
  ·rw[MM.set_other _ _ hci]at k1
   by_cases hci':c'=i
   ·subst hci';rw[MM.set_same]at k2;cases k2;exact h.ms.inj c c' mc m gc k1 h1 k3 k4 k5 k6
   ·rw[MM.set_other _ _ hci']at k2;exact h.ms.inj c c' mc mc' gc k1 k2 k3 k4 k5 k6
 ·by_cases hdc:d=c
  ·subst hdc;rw[aO]at hv;cases hv;rw[dw _ h.sz hd.1];exact .gs (MM.set_same _ _ _) q1 (jE _) (λ_=>rfl) ⟨_,_,rfl⟩
  ·rw[aX _ _ hdc]at hv;rw[bK _ hdc];refine(h.env c v (hs.get hv)).ext (Ext.refl _ _) λj hj mj hmj=>⟨mj, ?_,Comp.refl mj⟩
   have hne:j≠i:=λe=>by subst e;exact jQ hm hv j hj (by simp)
   rw[MM.set_other _ _ hne];exact hmj
 ·rw[oC]at hx
  by_cases hci:c=i
  ·subst hci;rw[if_pos rfl]at hx;cases hx;refine⟨_,MM.set_same _ _ _,q1,q2,q3,⟨q4,q4'⟩,by simp;omega, ?_⟩;rcases q6 with⟨z1,z2,z3⟩|⟨g,uss,rest,z1,z2,z3,z4,z5,z6⟩
   ·exact .inl ⟨z1,by rw[z2,List.take_nil],z3⟩
   ·refine .inr ⟨g,uss.take k,(uss.drop k).flatten++rest,z1, ?_,z3.cut k,z4,z5,by show k≤m.cap;omega⟩;show m.us=_;rw[z2,←nT,←List.flatten_append,Nj]
  ·rw[if_neg hci]at hx;obtain⟨mc,k1,k2⟩:=h.box c x hx;refine⟨mc,by rw[MM.set_other _ _ hci];exact k1,k2.ext (Ext.refl _ _) λj hj mj hmj=>⟨mj, ?_,Comp.refl mj⟩⟩;have hne:j≠i:=λe=>by subst e;exact je hmb c x hx j hj (by simp)
   rw[MM.set_other _ _ hne];exact hmj
end
end Go.Sw
namespace Go.Proofs.YtmniihkenijjpaaGreatDoor
open Go Go.RowKit Go.Sw
set_option maxRecDepth 100000
set_option maxHeartbeats 8000000
instance(priority:=2000) afz(y R:Nat):DenI Tryz.prog 142 [.c (.sl 1 ([cellsOf (.c (.v (u32 y)))]++(lim R).map λx=>[.v (u32 x)]))] (y<1000000000) (.c (aV (lim (y+1000000000*R)))):=⟨λhp=>by rw [← MN y R hp];exact (inferInstance:DenI Tryz.prog 142 [.c (aV ([y]++lim R))] True (.c (aV (ah ([y]++lim R))))).den trivial⟩
instance ag2(a:List Nat):DenI Tryz.prog 194 [.c (aV a),.int .u32 (IntKind.u32.wrap 999999999)] (a.length≤1000000000000∧Lb a) (.c (aV (lim (val a*999999999)))):=⟨λhp=>by rw [show IntKind.u32.wrap 999999999=((999999999:Nat):Int) by decide];exact (inferInstance:DenI Tryz.prog 194 [.c (aV a),.int .u32 ((999999999:Nat):Int)] _ _).den ⟨hp.1,hp.2,by decide⟩⟩
theorem aaz{l:List Nat}(h:CanL l)(h2:l.length≤2):val l<1000000000000000000:=rZ (by rw[h.eq];exact h2)
theorem OJ{m n:Nat}(h:m<18446744073709551616):IntKind.u64.wrap ((m:Int).tdiv (n:Int))=((m/n:Nat):Int):=by
 rw[lH (by omega),KZ];exact kQ (by have:=RQ m n;omega)
theorem qsc{n:Nat}:IntKind.u64.wrap ((1000000000:Int).tdiv ((n:Int)+1))=((1000000000/(n+1):Nat):Int):=OJ (m:=1000000000) (n:=n+1) (by decide)
theorem abJ{m n:Nat}(h:m<18446744073709551616):IntKind.u64.wrap ((m:Int)/(n:Int))=((m/n:Nat):Int):=by rw[KZ];exact kQ (by have:=RQ m n;omega)
theorem zqE{n:Int}:IntKind.u64.wrap ((0:Int)/n)=((0:Nat):Int):=by rw[Int.zero_ediv];rfl
theorem Tf{m n:Nat}:(m:Int).tmod (n:Int)=((m%n:Nat):Int):=by
 rw[lC (by omega),MG]
def Rn:Tab:=(2000000000,.flag)::tab
theorem pX:dN Tryz.prog Rn=true:=by kernel_rfl
set_option maxHeartbeats 4000000 in
theorem abv(a b:List Nat)(h1:a.length≤1000000000)(h2:b.length≤1000000000)(hca:CanL a)(hcb:CanL b)(hpos:0<val b):Den Tryz.prog 153 [.c (aV a),.c (aV b)] (.tup [.c (aV (lim (val a/val b))),.c (aV (lim (val a%val b)))]):=by
 have hbn:0<b.length:=by cases b with|nil=>simp[val]at hpos|cons _ _=>simp
 obtain⟨sc,hsc⟩:∃sc,sc=1000000000/(b.getD (b.length-1) 0+1):=⟨_,rfl⟩
 have hscB:=Jb hcb rfl hbn hsc;obtain⟨hsc0,_,hvn,hvtop,hvP⟩:=EG (v:=lim (val b*sc)) hcb rfl hbn hsc (CanL.lim _) (by rw[aB]);rw[←hvn]at hvtop;have hlu:=vk (a:=val a) hscB;rw[hca.eq]at hlu;have hbt:=hcb.1.getD (b.length-1);have hvt:=(bn (val b*sc)).getD ((lim (val b*sc)).length-1);refine Den.of ⟨by kernel_rfl,λw X vs ho hX hl hR=>?_⟩ rfl
 haveI:WOk Tryz.prog w:=.of ho
 refine enter Tryz.func153 rfl rfl (by rw[hl];rfl) λac hF=>?_
 have hc:=mQ (N:=173) hX hl hR hF;refine uY (τ:=Rn) pX cO 8 _ (QA:=λz e bx=>match z with|.normal=>SubE ([(8,.int .u32 (sc:Nat)),(9,.c (aV (lim (val b*sc)))),(10,.int .u64 ((lim (val b*sc)).getD ((lim (val b*sc)).length-1) 0:Nat)),(11,.c (.v (.slice none 0 0))),(12,.gs 64 (a.length+1)),(13,.c (aV (lim (val a*sc))))]) e∧SubB ([(64,.grow 154 1 ((List.replicate (a.length+1) 0).map λx=>[.v (u32 x)]))]) bx|z=>Jz Rn Tryz.f153 [none,none] (.tup [.c (aV (lim (val a/val b))),.c (aV (lim (val a%val b)))]) z e bx) (by kernel_rfl) ?_ hc (λe bx a0 w1 hq hc2=>?_) (λx e b a w hx hq hc=>?_)
 case refine_3=>cases x with|normal=>exact absurd rfl hx|_=>exact um pX hq hc
 case refine_1 =>
  clear hc hF hR hl hX
  all_goals(repeat'((try(conv=>whnf));first
   |refine aG ?_|refine aj ?_ ?_|(with_reducible first|refine aQ ?_|refine aP ?_|refine au (λ_=>?_) (λ_=>?_)|refine cZ (λ_=>?_) (λ_=>?_))|refine OnB.mk (λ_=>?_) (λ_=>?_)|refine bI ?_ ?_|refine Drw.mk (by kernel_rfl) ?_|refine gu ?_ ?_|refine iG ?_ ?_|(with_reducible first|refine bZ ?_ ?_|refine dn ?_|refine dM ?_)|refine Ends.mk ?_))
  all_goals(try refine Pr.mk ?_)
  all_goals(try simp only[aZ,wP]at *)
  all_goals(try(have ha18:=aaz hca (by omega);have hb18:=aaz hcb (by omega)))
  all_goals(try((conv=>whnf);simp(disch:=omega) only[OJ,Tf,wu64,bP,dL,qsc,←hsc]))
  all_goals(repeat'((try(conv=>whnf));first
   |refine aG ?_|refine aj ?_ ?_|(with_reducible first|refine aQ ?_|refine aP ?_|refine au (λ_=>?_) (λ_=>?_)|refine cZ (λ_=>?_) (λ_=>?_))|refine OnB.mk (λ_=>?_) (λ_=>?_)|refine bI ?_ ?_|refine Drw.mk (by kernel_rfl) ?_|refine gu ?_ ?_|refine iG ?_ ?_|(with_reducible first|refine bZ ?_ ?_|refine dn ?_|refine dM ?_)|refine Ends.mk ?_))
  all_goals(try refine Pr.mk ?_)
  all_goals(try((conv=>whnf);simp(disch:=omega) only[OJ,Tf,wu64,bP,dL,qsc,←hsc]))
  all_goals(repeat'((try(conv=>whnf));first
   |refine aG ?_|refine aj ?_ ?_|(with_reducible first|refine aQ ?_|refine aP ?_|refine au (λ_=>?_) (λ_=>?_)|refine cZ (λ_=>?_) (λ_=>?_))|refine OnB.mk (λ_=>?_) (λ_=>?_)|refine bI ?_ ?_|refine Drw.mk (by kernel_rfl) ?_|refine gu ?_ ?_|refine iG ?_ ?_|(with_reducible first|refine bZ ?_ ?_|refine dn ?_|refine dM ?_)|refine Ends.mk ?_))
  all_goals(try refine Pr.mk ?_)
  all_goals(try simp only[aZ,wP]at *)
  all_goals(try((conv=>whnf);simp(disch:=omega) only[OJ,Tf,wu64,bP,dL,qsc,←hsc]))
  all_goals(repeat'((try(conv=>whnf));first
   |refine aG ?_|refine aj ?_ ?_|(with_reducible first|refine aQ ?_|refine aP ?_|refine au (λ_=>?_) (λ_=>?_)|refine cZ (λ_=>?_) (λ_=>?_))|refine OnB.mk (λ_=>?_) (λ_=>?_)|refine bI ?_ ?_|refine Drw.mk (by kernel_rfl) ?_|refine gu ?_ ?_|refine iG ?_ ?_|(with_reducible first|refine bZ ?_ ?_|refine dn ?_|refine dM ?_)|refine Ends.mk ?_))
  all_goals(try refine Pr.mk ?_)
  all_goals(try simp(disch:=omega) only[aZ,uM,gU,zO,bP,dL,wu64,Bo,wP,Uk,lC,lH]at *)
  all_goals(repeat'((try(conv=>whnf));first
   |refine aG ?_|refine aj ?_ ?_|(with_reducible first|refine aQ ?_|refine aP ?_|refine au (λ_=>?_) (λ_=>?_)|refine cZ (λ_=>?_) (λ_=>?_))|refine OnB.mk (λ_=>?_) (λ_=>?_)|refine bI ?_ ?_|refine Drw.mk (by kernel_rfl) ?_|refine gu ?_ ?_|refine iG ?_ ?_|(with_reducible first|refine bZ ?_ ?_|refine dn ?_|refine dM ?_)|refine Ends.mk ?_))
  all_goals(try refine Pr.mk ?_)
  all_goals(try simp(disch:=omega) only[aZ,uM,gU,zO,bP,dL,wu64,Bo,wP,Uk,lC,lH]at *)
  all_goals first
   |((conv=>whnf);refine⟨⟨rfl,rfl, ?_,rfl,rfl,rfl,trivial⟩,⟨sU _ _,trivial⟩⟩;first|rfl|exact iS (kQ (by omega)))|(refine⟨by omega,by omega,by omega⟩)|omega|rfl|exact⟨by omega,hca.1,by omega⟩|exact⟨by omega,hcb.1,by omega⟩|(have:=RQ (val a) (val b);omega)|(have:=Nat.mod_le (val a) (val b);omega)|exact⟨by omega,hcb.1,hscB⟩|exact⟨by omega,hca.1,hscB⟩|skip
 obtain⟨he,hb⟩:=hq;replace hc:=(hc2.sub he hb).nilS (t:=11) (s:=1) rfl;clear he hb hc2 hF hR hl hX;replace hc:=hc.sub (e:=[(8,.int .u32 (sc:Nat)),(9,.c (aV (lim (val b*sc)))),(10,.int .u64 ((lim (val b*sc)).getD ((lim (val b*sc)).length-1) 0:Nat)),(11,.c (aV (lim 0))),(12,.gs 64 (a.length+1)),(13,.c (aV (lim (val a*sc))))]) (b:=[(64,.grow 154 1 ((List.replicate (a.length+1) 0).map λx=>[.v (u32 x)]))]) ⟨rfl,rfl,rfl,(by rw[fE];rfl),rfl,rfl,trivial⟩ ⟨rfl,trivial⟩;refine aF (aI ?_);refine lQ 3 (kK (τ:=Rn) pX (k:=λe bx=>SubE ((68,.gs 64 (a.length+1)) ::(70,.int .i64 ((lim (val a*sc)).length:Nat))::[(8,.int .u32 (sc:Nat)),(9,.c (aV (lim (val b*sc)))),(10,.int .u64 ((lim (val b*sc)).getD ((lim (val b*sc)).length-1) 0:Nat)),(11,.c (aV (lim 0))),(12,.gs 64 (a.length+1)),(13,.c (aV (lim (val a*sc))))]) e∧SubB ([(64,.grow 154 1 ((List.replicate (a.length+1) 0).map λx=>[.v (u32 x)]))]) bx) ?_ (by kernel_rfl) ?_ hc)
 case refine_2 =>
  clear hc
  all_goals(repeat'((try(conv=>whnf));first
   |refine aG ?_|refine aj ?_ ?_|(with_reducible first|refine aQ ?_|refine aP ?_|refine au (λ_=>?_) (λ_=>?_)|refine cZ (λ_=>?_) (λ_=>?_))|refine OnB.mk (λ_=>?_) (λ_=>?_)|refine bI ?_ ?_|refine Drw.mk (by kernel_rfl) ?_|refine gu ?_ ?_|refine iG ?_ ?_|(with_reducible first|refine bZ ?_ ?_|refine dn ?_|refine dM ?_)|refine Ends.mk ?_))
  all_goals(try refine Pr.mk ?_)
  exact⟨⟨rfl,(by show some (AV.int .i64 _)=some (AV.int .i64 _);rw[aZ]),rfl,rfl,rfl,rfl,rfl,rfl,trivial⟩,⟨rfl,trivial⟩⟩
 clear hc;rintro e bx a2 w2 ⟨he,hb⟩ hc;replace hc:=hc.sub he hb;clear he hb;have hle:(lim (val a*sc)).length≤((List.replicate (a.length+1) 0).map λx=>[Cell.v (u32 x)]).length:=by rw[aZ,zO];exact hlu
 obtain⟨A,cp,hv,hcp,hc2⟩:=hc.shrink (t:=68) (i:=64) (d:=71) (e':=[(8,.int .u32 (sc:Nat)),(9,.c (aV (lim (val b*sc)))),(10,.int .u64 ((lim (val b*sc)).getD ((lim (val b*sc)).length-1) 0:Nat)),(11,.c (aV (lim 0))),(13,.c (aV (lim (val a*sc))))]) (by rw[aZ,zO];rfl) rfl hle ⟨by decide,rfl⟩ ⟨rfl,rfl,rfl,rfl,rfl,trivial⟩ rfl rfl;have hFm:Frm 173 a2 [(68,.slice A ((List.replicate (a.length+1) 0).map λx=>[Cell.v (u32 x)]).length cp),(70,.int .i64 ((lim (val a*sc)).length:Nat))]:=(hc.frm.cons (hc.get (t:=70) rfl (by simp))).cons hv;obtain⟨_,hsl,_⟩:=sliceT (aT pX (t:=26) rfl);refine wp1 rfl (Ci hsl (hFm.ev rfl) (hFm.ev rfl) rfl (by omega)) ?_;clear hc hFm hv;refine wY pX (k:=λe bx=>SubE ([(8,.int .u32 (sc:Nat)),(9,.c (aV (lim (val b*sc)))),(10,.int .u64 ((lim (val b*sc)).getD ((lim (val b*sc)).length-1) 0:Nat)),(11,.c (aV (lim 0))),(12,.gs 64 (lim (val a*sc)).length),(13,.c (aV (lim (val a*sc))))]) e∧SubB ([(64,.grow 154 1 ((List.replicate (lim (val a*sc)).length 0).map λx=>[.v (u32 x)]))]) bx) ?_ (by kernel_rfl) ?_ hc2
 case refine_2 =>
  clear hc2
  all_goals(repeat'((try(conv=>whnf));first
   |refine aG ?_|refine aj ?_ ?_|(with_reducible first|refine aQ ?_|refine aP ?_|refine au (λ_=>?_) (λ_=>?_)|refine cZ (λ_=>?_) (λ_=>?_))|refine OnB.mk (λ_=>?_) (λ_=>?_)|refine bI ?_ ?_|refine Drw.mk (by kernel_rfl) ?_|refine gu ?_ ?_|refine iG ?_ ?_|(with_reducible first|refine bZ ?_ ?_|refine dn ?_|refine dM ?_)|refine Ends.mk ?_))
  all_goals(try refine Pr.mk ?_)
  exact⟨⟨rfl,rfl,rfl,rfl,rfl,rfl,trivial⟩,⟨(by show some (Bk.grow _ _ _)=some (Bk.grow _ _ _);rw[←List.map_take,List.take_replicate,Nat.min_eq_left hlu]),trivial⟩⟩
 clear hc2;rintro e bx a3 w3 ⟨he,hb⟩ hc;replace hc:=hc.sub he hb;clear he hb;refine bY ?_;refine eP (τ:=Rn) pX cO _ (QA:=Jz Rn Tryz.f153 [none,none] (.tup [.c (aV (lim (val a/val b))),.c (aV (lim (val a%val b)))])) (by kernel_rfl) ?_ hc (λx e b a w' hx hc'=>um pX hx hc');clear hc ho
 all_goals first
  |((conv=>whnf);refine Sw.Loop.inv (α:=List Nat×Nat×Nat) (λx=>[(8,.int .u32 (sc:Nat)),(9,.c (aV (lim (val b*sc)))),(10,.int .u64 ((lim (val b*sc)).getD ((lim (val b*sc)).length-1) 0:Nat)),(11,.c (aV (lim x.2.1))),(12,.gs 64 x.1.length),(13,.c (aV (lim (val a*sc)))),(14,.int .i64 (((x.2.2:Nat):Int)-1))]) (λx=>[(64,.grow 154 1 (x.1.map λx=>[.v (u32 x)]))]) (λx=>x.2.2≤(lim (val a*sc)).length∧x.1.length=(lim (val a*sc)).length∧Lb x.1∧val ((lim (val a*sc)).drop x.2.2)=(val b*sc)*val (x.1.drop x.2.2)+x.2.1∧x.2.1<(val b*sc)) (λx=>x.2.2) (List.replicate (lim (val a*sc)).length 0,0,(lim (val a*sc)).length) ?_ ?_ ?_ (λx hx=>?_))|skip
 all_goals(repeat'((try(conv=>whnf));first
  |refine aG ?_|refine aj ?_ ?_|(with_reducible first|refine aQ ?_|refine aP ?_|refine au (λ_=>?_) (λ_=>?_)|refine cZ (λ_=>?_) (λ_=>?_))|refine OnB.mk (λ_=>?_) (λ_=>?_)|refine bI ?_ ?_|refine Drw.mk (by kernel_rfl) ?_|refine gu ?_ ?_|refine iG ?_ ?_|(with_reducible first|refine bZ ?_ ?_|refine dn ?_|refine dM ?_)|refine Ends.mk ?_))
 all_goals(try refine Pr.mk ?_)
 all_goals(try simp only[aZ,wP]at *)
 all_goals(try(have hRl:=iJ (Nat.le_of_lt hx.2.2.2.2);have hyu:=(bn (val a*sc)).getD (x.2.2-1);have hR2:=Nk hyu hx.2.2.2.2;have hR2l:=JC hR2;have hra:=(bn ((lim (val a*sc)).getD (x.2.2-1) 0+1000000000*x.2.1)).getD (lim (val b*sc)).length;have hrb:=(bn ((lim (val a*sc)).getD (x.2.2-1) 0+1000000000*x.2.1)).getD ((lim (val b*sc)).length-1);obtain⟨hdge,hdh⟩:=Vf (V:=(val b*sc)) (n:=(lim (val b*sc)).length) rfl rfl (by omega) (top:=(lim (val b*sc)).getD ((lim (val b*sc)).length-1) 0) rfl hR2 (by omega)))
 all_goals(repeat'((try(conv=>whnf));first
  |refine aG ?_|refine aj ?_ ?_|(with_reducible first|refine aQ ?_|refine aP ?_|refine au (λ_=>?_) (λ_=>?_)|refine cZ (λ_=>?_) (λ_=>?_))|refine OnB.mk (λ_=>?_) (λ_=>?_)|refine bI ?_ ?_|refine Drw.mk (by kernel_rfl) ?_|refine gu ?_ ?_|refine iG ?_ ?_|(with_reducible first|refine bZ ?_ ?_|refine dn ?_|refine dM ?_)|refine Ends.mk ?_))
 all_goals(try refine Pr.mk ?_)
 all_goals(try simp(disch:=omega) only[aZ,uM,gU,zO,bP,dL,wu64,Bo,wP,Uk,lC,lH]at *)
 all_goals(repeat'((try(conv=>whnf));first
  |refine aG ?_|refine aj ?_ ?_|(with_reducible first|refine aQ ?_|refine aP ?_|refine au (λ_=>?_) (λ_=>?_)|refine cZ (λ_=>?_) (λ_=>?_))|refine OnB.mk (λ_=>?_) (λ_=>?_)|refine bI ?_ ?_|refine Drw.mk (by kernel_rfl) ?_|refine gu ?_ ?_|refine iG ?_ ?_|(with_reducible first|refine bZ ?_ ?_|refine dn ?_|refine dM ?_)|refine Ends.mk ?_))
 all_goals(try refine Pr.mk ?_)
 all_goals(try simp only[aZ,aB]at *)
 all_goals first
  |omega|((with_reducible show(_:Nat)=_);rfl)|((with_reducible show(_:Nat)≤_);simp only[iy,aZ,iR,jB];omega)|((with_reducible show SubE _ _);exact⟨rfl,rfl,rfl,rfl,rfl,rfl,rfl,trivial⟩)|((with_reducible show SubB _ _);exact⟨rfl,trivial⟩)|exact⟨jE _,by simp,jG _,by rw[fH (jE _),fH (by simp)];simp,Nat.mul_pos hpos hsc0⟩|exact⟨by omega,bn _,by omega⟩|exact⟨by omega,bn _⟩|exact⟨CanL.lim _,CanL.lim _⟩|skip
 all_goals(try simp(disch:=omega) only[Int.zero_add,abJ,zqE,KA]at *)
 all_goals(try((conv=>whnf);simp(disch:=omega) only[wu64,dL,E5,KA,abJ,zqE,Int.zero_add,aB]))
 all_goals(repeat'((try(conv=>whnf));first
  |refine aG ?_|refine aj ?_ ?_|(with_reducible first|refine aQ ?_|refine aP ?_|refine au (λ_=>?_) (λ_=>?_)|refine cZ (λ_=>?_) (λ_=>?_))|refine OnB.mk (λ_=>?_) (λ_=>?_)|refine bI ?_ ?_|refine Drw.mk (by kernel_rfl) ?_|refine gu ?_ ?_|refine iG ?_ ?_|(with_reducible first|refine bZ ?_ ?_|refine dn ?_|refine dM ?_)|refine Ends.mk ?_))
 all_goals(try refine Pr.mk ?_)
 all_goals(try simp only[aZ,aB]at *)
 all_goals first
  |omega|((with_reducible show(_:Nat)=_);rfl)|((with_reducible show(_:Nat)≤_);simp only[iy,aZ,iR,jB];omega)|((with_reducible show SubE _ _);exact⟨rfl,rfl,rfl,rfl,rfl,rfl,rfl,trivial⟩)|((with_reducible show SubB _ _);exact⟨rfl,trivial⟩)|exact⟨jE _,by simp,jG _,by rw[fH (jE _),fH (by simp)];simp,Nat.mul_pos hpos hsc0⟩|exact⟨by omega,bn _,by omega⟩|exact⟨by omega,bn _⟩|exact⟨CanL.lim _,CanL.lim _⟩|skip
 all_goals(try simp(disch:=omega) only[Int.zero_add,abJ,zqE,KA]at *)
 all_goals(try((conv=>whnf);simp(disch:=omega) only[wu64,dL,E5,KA,abJ,zqE,Int.zero_add,aB]))
 all_goals(repeat'((try(conv=>whnf));first
  |refine aG ?_|refine aj ?_ ?_|(with_reducible first|refine aQ ?_|refine aP ?_|refine au (λ_=>?_) (λ_=>?_)|refine cZ (λ_=>?_) (λ_=>?_))|refine OnB.mk (λ_=>?_) (λ_=>?_)|refine bI ?_ ?_|refine Drw.mk (by kernel_rfl) ?_|refine gu ?_ ?_|refine iG ?_ ?_|(with_reducible first|refine bZ ?_ ?_|refine dn ?_|refine dM ?_)|refine Ends.mk ?_))
 all_goals(try refine Pr.mk ?_)
 all_goals(try simp only[aZ,aB]at *)
 all_goals first
  |omega|((with_reducible show(_:Nat)=_);rfl)|((with_reducible show(_:Nat)≤_);simp only[iy,aZ,iR,jB];omega)|((with_reducible show SubE _ _);exact⟨rfl,rfl,rfl,rfl,rfl,rfl,rfl,trivial⟩)|((with_reducible show SubB _ _);exact⟨rfl,trivial⟩)|exact⟨jE _,by simp,jG _,by rw[fH (jE _),fH (by simp)];simp,Nat.mul_pos hpos hsc0⟩|exact⟨by omega,bn _,by omega⟩|exact⟨by omega,bn _⟩|exact⟨CanL.lim _,CanL.lim _⟩|skip
 all_goals(try simp(disch:=omega) only[Int.zero_add,abJ,zqE,KA]at *)
 all_goals(try((conv=>whnf);simp(disch:=omega) only[wu64,dL,E5,KA,abJ,zqE,Int.zero_add,aB]))
 all_goals(repeat'((try(conv=>whnf));first
  |refine aG ?_|refine aj ?_ ?_|(with_reducible first|refine aQ ?_|refine aP ?_|refine au (λ_=>?_) (λ_=>?_)|refine cZ (λ_=>?_) (λ_=>?_))|refine OnB.mk (λ_=>?_) (λ_=>?_)|refine bI ?_ ?_|refine Drw.mk (by kernel_rfl) ?_|refine gu ?_ ?_|refine iG ?_ ?_|(with_reducible first|refine bZ ?_ ?_|refine dn ?_|refine dM ?_)|refine Ends.mk ?_))
 all_goals(try refine Pr.mk ?_)
 all_goals(try simp only[aZ,aB]at *)
 all_goals first
  |omega|((with_reducible show(_:Nat)=_);rfl)|((with_reducible show(_:Nat)≤_);simp only[iy,aZ,iR,jB];omega)|((with_reducible show SubE _ _);exact⟨rfl,rfl,rfl,rfl,rfl,rfl,rfl,trivial⟩)|((with_reducible show SubB _ _);exact⟨rfl,trivial⟩)|exact⟨jE _,by simp,jG _,by rw[fH (jE _),fH (by simp)];simp,Nat.mul_pos hpos hsc0⟩|exact⟨by omega,bn _,by omega⟩|exact⟨by omega,bn _⟩|exact⟨CanL.lim _,CanL.lim _⟩|skip
 all_goals first
  |((conv=>whnf);refine Sw.Loop.inv (α:=Nat) (λy=>[(8,.int .u32 (sc:Nat)),(9,.c (aV (lim (val b*sc)))),(10,.int .u64 ((lim (val b*sc)).getD ((lim (val b*sc)).length-1) 0:Nat)),(11,.c (aV (lim ((lim (val a*sc)).getD (x.2.2-1) 0+1000000000*x.2.1)))),(12,.gs 64 x.1.length),(13,.c (aV (lim (val a*sc)))),(14,.int .i64 (((x.2.2:Nat):Int)-1)),(16,.int .u64 (y:Nat)),(17,.c (aV (lim ((val b*sc)*y))))]) (λy=>[(64,.grow 154 1 (x.1.map λx=>[.v (u32 x)]))]) (λy=>y≤999999999∧((lim (val a*sc)).getD (x.2.2-1) 0+1000000000*x.2.1)<(y+1)*(val b*sc)) (λy=>y) 999999999 ?_ ?_ ?_ (λy hy=>?_);exact⟨rfl,rfl,rfl,rfl,rfl,rfl,rfl,rfl,rfl,trivial⟩;exact⟨rfl,trivial⟩;exact⟨jE _,QX hR2⟩)|((conv=>whnf);refine Sw.Loop.inv (α:=Nat) (λy=>[(8,.int .u32 (sc:Nat)),(9,.c (aV (lim (val b*sc)))),(10,.int .u64 ((lim (val b*sc)).getD ((lim (val b*sc)).length-1) 0:Nat)),(11,.c (aV (lim ((lim (val a*sc)).getD (x.2.2-1) 0+1000000000*x.2.1)))),(12,.gs 64 x.1.length),(13,.c (aV (lim (val a*sc)))),(14,.int .i64 (((x.2.2:Nat):Int)-1)),(16,.int .u64 (y:Nat)),(17,.c (aV (lim ((val b*sc)*y))))]) (λy=>[(64,.grow 154 1 (x.1.map λx=>[.v (u32 x)]))]) (λy=>y≤999999999∧((lim (val a*sc)).getD (x.2.2-1) 0+1000000000*x.2.1)<(y+1)*(val b*sc)) (λy=>y) (((lim ((lim (val a*sc)).getD (x.2.2-1) 0+1000000000*x.2.1)).getD (lim (val b*sc)).length 0*1000000000+(lim ((lim (val a*sc)).getD (x.2.2-1) 0+1000000000*x.2.1)).getD ((lim (val b*sc)).length-1) 0)/(lim (val b*sc)).getD ((lim (val b*sc)).length-1) 0) ?_ ?_ ?_ (λy hy=>?_);exact⟨rfl,rfl,rfl,rfl,rfl,rfl,rfl,rfl,rfl,trivial⟩;exact⟨rfl,trivial⟩;exact⟨by omega,hdge⟩)|(have hge0:=getD_none (l:=(lim ((lim (val a*sc)).getD (x.2.2-1) 0+1000000000*x.2.1))) (k:=(lim (val b*sc)).length) (by omega);rw[hge0,Nat.zero_mul,uX]at hdge;(conv=>whnf);refine Sw.Loop.inv (α:=Nat) (λy=>[(8,.int .u32 (sc:Nat)),(9,.c (aV (lim (val b*sc)))),(10,.int .u64 ((lim (val b*sc)).getD ((lim (val b*sc)).length-1) 0:Nat)),(11,.c (aV (lim ((lim (val a*sc)).getD (x.2.2-1) 0+1000000000*x.2.1)))),(12,.gs 64 x.1.length),(13,.c (aV (lim (val a*sc)))),(14,.int .i64 (((x.2.2:Nat):Int)-1)),(16,.int .u64 (y:Nat)),(17,.c (aV (lim ((val b*sc)*y))))]) (λy=>[(64,.grow 154 1 (x.1.map λx=>[.v (u32 x)]))]) (λy=>y≤999999999∧((lim (val a*sc)).getD (x.2.2-1) 0+1000000000*x.2.1)<(y+1)*(val b*sc)) (λy=>y) ((lim ((lim (val a*sc)).getD (x.2.2-1) 0+1000000000*x.2.1)).getD ((lim (val b*sc)).length-1) 0/(lim (val b*sc)).getD ((lim (val b*sc)).length-1) 0) ?_ ?_ ?_ (λy hy=>?_);exact⟨rfl,rfl,rfl,rfl,rfl,rfl,rfl,rfl,rfl,trivial⟩;exact⟨rfl,trivial⟩;exact⟨by omega,hdge⟩)|(have hge0:=getD_none (l:=(lim ((lim (val a*sc)).getD (x.2.2-1) 0+1000000000*x.2.1))) (k:=(lim (val b*sc)).length) (by omega);have hge1:=getD_none (l:=(lim ((lim (val a*sc)).getD (x.2.2-1) 0+1000000000*x.2.1))) (k:=(lim (val b*sc)).length-1) (by omega);rw[hge0,hge1,Nat.zero_mul,uX,Nat.zero_div]at hdge;(conv=>whnf);refine Sw.Loop.inv (α:=Nat) (λy=>[(8,.int .u32 (sc:Nat)),(9,.c (aV (lim (val b*sc)))),(10,.int .u64 ((lim (val b*sc)).getD ((lim (val b*sc)).length-1) 0:Nat)),(11,.c (aV (lim ((lim (val a*sc)).getD (x.2.2-1) 0+1000000000*x.2.1)))),(12,.gs 64 x.1.length),(13,.c (aV (lim (val a*sc)))),(14,.int .i64 (((x.2.2:Nat):Int)-1)),(16,.int .u64 (y:Nat)),(17,.c (aV (lim ((val b*sc)*y))))]) (λy=>[(64,.grow 154 1 (x.1.map λx=>[.v (u32 x)]))]) (λy=>y≤999999999∧((lim (val a*sc)).getD (x.2.2-1) 0+1000000000*x.2.1)<(y+1)*(val b*sc)) (λy=>y) 0 ?_ ?_ ?_ (λy hy=>?_);exact⟨rfl,rfl,rfl,rfl,rfl,rfl,rfl,rfl,rfl,trivial⟩;exact⟨rfl,trivial⟩;exact⟨by omega,hdge⟩)|skip
 all_goals(repeat'((try(conv=>whnf));first
  |refine aG ?_|refine aj ?_ ?_|(with_reducible first|refine aQ ?_|refine aP ?_|refine au (λ_=>?_) (λ_=>?_)|refine cZ (λ_=>?_) (λ_=>?_))|refine OnB.mk (λ_=>?_) (λ_=>?_)|refine bI ?_ ?_|refine Drw.mk (by kernel_rfl) ?_|refine gu ?_ ?_|refine iG ?_ ?_|(with_reducible first|refine bZ ?_ ?_|refine dn ?_|refine dM ?_)|refine Ends.mk ?_))
 all_goals(try refine Pr.mk ?_)
 all_goals(try simp only[aZ,aB]at *)
 all_goals first
  |omega|((with_reducible show(_:Nat)=_);rfl)|((with_reducible show(_:Nat)≤_);simp only[iy,aZ,iR,jB];omega)|((with_reducible show SubE _ _);exact⟨rfl,rfl,rfl,rfl,rfl,rfl,rfl,trivial⟩)|((with_reducible show SubB _ _);exact⟨rfl,trivial⟩)|exact⟨jE _,by simp,jG _,by rw[fH (jE _),fH (by simp)];simp,Nat.mul_pos hpos hsc0⟩|exact⟨by omega,bn _,by omega⟩|exact⟨by omega,bn _⟩|exact⟨CanL.lim _,CanL.lim _⟩|skip
 all_goals first
  |((with_reducible show _∧_);have hgt:=xC.1 (by assumption);have hy0:0<y:=(by rcases zu y with h0|h0;(rw[h0,SL]at hgt;omega);exact h0);have hVle:(val b*sc)≤(val b*sc)*y:=Nat.le_mul_of_pos_right _ hy0;have hsl:=vk (a:=(val b*sc)) (s:=y) (by omega);exact⟨by omega,by omega,bn _,bn _,iJ hVle,hVle⟩)|((with_reducible show _∧_);have hle2:(val b*sc)*y≤((lim (val a*sc)).getD (x.2.2-1) 0+1000000000*x.2.1):=Nat.not_lt.1 (mt xC.2 (by assumption));have hll:=iJ hle2;exact⟨by omega,by omega,bn _,bn _,hll,hle2⟩)|(have hgt:=xC.1 (by assumption);have hy0:0<y:=(by rcases zu y with h0|h0;(rw[h0,SL]at hgt;omega);exact h0);have hVle:(val b*sc)≤(val b*sc)*y:=Nat.le_mul_of_pos_right _ hy0;have hsl:=vk (a:=(val b*sc)) (s:=y) (by omega);(conv=>whnf);exact⟨y-1,⟨⟨rfl,rfl,rfl,rfl,rfl,rfl,rfl,iS (by(try simp(disch:=omega) only[dL,wu64,bP,lC,lH,xQ])<;>omega),(by show some (AV.c (aV _))=some (AV.c (aV _));rw[QC hy0]),trivial⟩,⟨rfl,trivial⟩,⟨by omega,by rw[Nat.sub_add_cancel hy0];exact Nat.lt_of_lt_of_eq hgt (Dy _ _)⟩,(by show y-1<y;omega)⟩⟩)|(have hle2:(val b*sc)*y≤((lim (val a*sc)).getD (x.2.2-1) 0+1000000000*x.2.1):=Nat.not_lt.1 (mt xC.2 (by assumption));have hll:=iJ hle2;obtain⟨i1,i2,i3,i4,i5⟩:=hx;(conv=>whnf);exact⟨(x.1.set (x.2.2-1) y,((lim (val a*sc)).getD (x.2.2-1) 0+1000000000*x.2.1)-(val b*sc)*y,x.2.2-1),⟨⟨rfl,rfl,rfl,rfl,gsE (by simp),rfl,vw (by omega) (by omega),trivial⟩,⟨BI (by omega) (by(try simp(disch:=omega) only[dL,wu64,bP,lC,lH,xQ])<;>omega),trivial⟩,⟨by show x.2.2-1≤_;omega,by simp only[NC];exact i2,fQ i3 (by omega),NK (by omega) i1 (by omega) i4 rfl hle2,TF hy.2 hle2⟩,(by show x.2.2-1<x.2.2;omega)⟩⟩)|skip
 all_goals first
  |((conv=>whnf);refine Sw.Loop.inv (α:=List Nat×Nat×Nat) (λz=>[(8,.int .u32 (sc:Nat)),(11,.c (aV (lim x.2.1))),(12,.gs 64 x.1.length),(18,.int .u64 (z.2.1:Nat)),(19,.gs 141 z.1.length),(20,.int .i64 (((z.2.2:Nat):Int)-1))]) (λz=>[(64,.grow 154 1 (x.1.map λx=>[.v (u32 x)])),(141,.grow 154 1 (z.1.map λx=>[.v (u32 x)]))]) (λz=>z.2.2≤(lim x.2.1).length∧z.1.length=(lim x.2.1).length∧Lb z.1∧z.2.1<sc∧val ((lim x.2.1).drop z.2.2)=sc*val (z.1.drop z.2.2)+z.2.1) (λz=>z.2.2) (List.replicate (lim x.2.1).length 0,0,(lim x.2.1).length) ?_ ?_ ?_ (λz hz=>?_))|skip
 all_goals(repeat'((try(conv=>whnf));first
  |refine aG ?_|refine aj ?_ ?_|(with_reducible first|refine aQ ?_|refine aP ?_|refine au (λ_=>?_) (λ_=>?_)|refine cZ (λ_=>?_) (λ_=>?_))|refine OnB.mk (λ_=>?_) (λ_=>?_)|refine bI ?_ ?_|refine Drw.mk (by kernel_rfl) ?_|refine gu ?_ ?_|refine iG ?_ ?_|(with_reducible first|refine bZ ?_ ?_|refine dn ?_|refine dM ?_)|refine Ends.mk ?_))
 all_goals(try refine Pr.mk ?_)
 all_goals(try simp only[aZ,aB]at *)
 all_goals first
  |omega|((with_reducible show(_:Nat)=_);rfl)|((with_reducible show(_:Nat)≤_);simp only[iy,aZ,iR,jB];omega)|((with_reducible show SubE _ _);exact⟨rfl,rfl,rfl,rfl,rfl,rfl,rfl,trivial⟩)|((with_reducible show SubB _ _);exact⟨rfl,trivial⟩)|exact⟨jE _,by simp,jG _,by rw[fH (jE _),fH (by simp)];simp,Nat.mul_pos hpos hsc0⟩|exact⟨by omega,bn _,by omega⟩|exact⟨by omega,bn _⟩|exact⟨CanL.lim _,CanL.lim _⟩|skip
 all_goals(try simp(disch:=omega) only[wP,bP,wu64]at *)
 all_goals first
  |((with_reducible show SubE _ _);exact⟨rfl,rfl,rfl,rfl,gsE (by simp),rfl,trivial⟩)|((with_reducible show SubB _ _);exact⟨rfl,sU _ _,trivial⟩)|exact⟨jE _,by simp,jG _,hsc0,by rw[fH (jE _),fH (by simp)];simp⟩|omega|((with_reducible show aA _=_);have q1:=hx.2.2.2.1;have q2:=hz.2.2.2.2;rw[show x.2.2=0 by omega,SX,SX,aB]at q1;rw[show z.2.2=0 by omega,SX,SX,aB]at q2;obtain⟨e1,e2⟩:=Rl hsc0 q1 hx.2.2.2.2 q2 hz.2.2.2.1;rw[←lF _ hx.2.2.1,←lF _ hz.2.2.1,e1,e2];rfl)|(have gz:=(bn x.2.1).getD (z.2.2-1);have c4:=Int.natCast_nonneg ((z.2.1*1000000000+(lim x.2.1).getD (z.2.2-1) 0)/sc);obtain⟨b1,b2,b3⟩:=En hz.2.2.2.1 hscB gz (t:=_) rfl;obtain⟨h1z,h2z,h3z,h4z,h5z⟩:=hz;(conv=>whnf);exact⟨(z.1.set (z.2.2-1) ((z.2.1*1000000000+(lim x.2.1).getD (z.2.2-1) 0)/sc),(z.2.1*1000000000+(lim x.2.1).getD (z.2.2-1) 0)%sc,z.2.2-1),⟨⟨rfl,rfl,rfl,iS (by(try simp(disch:=omega) only[dL,wu64,bP,lC,lH,wP,xQ,PG,P9,KA,KZ,MG])<;>omega),gsE (by simp),vw (by omega) (by omega),trivial⟩,⟨rfl,BI (by omega) (by(try simp(disch:=omega) only[dL,wu64,bP,lC,lH,wP,xQ,PG,P9,KA,KZ,MG])<;>omega),trivial⟩,⟨by show z.2.2-1≤_;omega,by simp only[NC];exact h2z,fQ h3z b1,b2,zo (by omega) h1z (by omega) h5z rfl rfl⟩,(by show z.2.2-1<z.2.2;omega)⟩⟩)|skip
instance(a b:List Nat):DenI Tryz.prog 197 [.c (aV a),.c (aV b)] (a.length≤100000000000∧b.length≤100000000000∧Lb a∧Lb b∧0<val b) (.tup [.c (aV (pad (XT a b) (val a / val b))),.c (aV (pad (WE a b) (val a % val b)))]):=⟨λhp=>agn (by kernel_rfl) λw X u v hX hu hv=>(xA hX hu.ul hv.ul hp.1 hp.2.1 hp.2.2.1 hp.2.2.2.1 hp.2.2.2.2).mono λe w' ⟨u,he,⟨qs,rs,r0,r1,h1,h2,h3,h4,h5,h6,h7,h8,h9⟩,hb⟩=>⟨u,he,by subst h1;obtain ⟨e1,e2⟩:=Xf h4 h5 h6 h7 h8 h9;rw [← e1,← e2];exact ahJ (.c h2.rep) (.c h3.rep),hb⟩⟩
instance(a b:List Nat):DenI Tryz.prog 153 [.c (aV a),.c (aV b)] (a.length≤1000000000∧b.length≤1000000000∧CanL a∧CanL b∧0<val b) (.tup [.c (aV (lim (val a / val b))),.c (aV (lim (val a % val b)))]):=⟨λhp=>abv a b hp.1 hp.2.1 hp.2.2.1 hp.2.2.2.1 hp.2.2.2.2⟩
instance agP(a b:Int):DenI Tryz.prog 234 [Z a,Z b] (sz a≤1000000000∧sz b≤1000000000) (Z (a-b)):=⟨λhp=>by
 refine aC Tryz.func234 rfl ?_
 repeat'((try(conv=>whnf));first
  |(with_reducible first|refine aQ ?_|refine aP ?_)|(with_reducible refine cZ (λ_=>?_) (λ_=>?_)))
 all_goals(try((conv=>whnf);first|rw[abh (by assumption)]|rw[aa8 (by assumption)]))
 all_goals(repeat'((try(conv=>whnf));first
  |refine aj ?_ ?_|refine Ends.mk ?_))
 all_goals(try refine Pr.mk ?_)
 all_goals first
  |(rw[jJ];exact hp)|(refine XL ?_;omega)⟩
instance agL(a:Int):DenI Tryz.prog 331 [Z a] (True) (.tup [.int .i64 (if -9223372036854775808≤a∧a≤9223372036854775807 then a else 0),.bool (decide (-9223372036854775808≤a∧a≤9223372036854775807))]):=⟨λhp=>by
 refine aC Tryz.func331 rfl ?_
 repeat'((try(conv=>whnf));first
  |refine aG ?_|refine aj ?_ ?_|(with_reducible first|refine aQ ?_|refine aP ?_|refine au (λ_=>?_) (λ_=>?_))|refine Drw.mk (by kernel_rfl) ?_|refine Ends.mk ?_)
 all_goals(try refine Pr.mk ?_)
 all_goals first
  |omega|with_reducible exact afy (by assumption)|with_reducible exact afl (by assumption)|(have hb:=adT (by assumption) (by assumption);have hq:=ad2 hb;((conv=>whnf);refine Sw.Loop.inv (α:=Nat) (λx=>[(1,.ptr 1 0),(4,.int .u64 (val ((lim a.natAbs).drop x):Nat)),(5,.int .i64 ((x:Int)-1))]) (λx=>[(1,.var [zs a,zl a])]) (λx=>x≤(lim a.natAbs).length) (λx=>x) ((lim a.natAbs).length) ?_ ?_ ?_ (λx hx=>?_)))
 all_goals(repeat'((try(conv=>whnf));first
  |(with_reducible first|refine au (λ_=>?_) (λ_=>?_)|refine bZ ?_ ?_)|refine Ends.mk ?_))
 all_goals(try refine Pr.mk ?_)
 all_goals first|(show SubE _ _;repeat'(first|exact trivial|refine And.intro ?_ ?_))|(show SubB _ _;repeat'(first|exact trivial|refine And.intro ?_ ?_))|skip
 all_goals(try rfl)
 all_goals(try simp(disch:=omega) only[aZ,uM,gU,zO,bP,dL,wu64,Bo,wP,Uk,lC,lH]at *)
 all_goals first
  |omega|rfl|(rw[fH (jE _)];rfl)|(refine aev hb ?_;rw[show x=0 by omega,SX,aB];first|exact LK (by omega) (by omega)|exact U9 (by omega) (by omega))|(have hd:=pK (l:=lim a.natAbs) (k:=x) (by omega) hx;have hle:=zi (lim a.natAbs) (x-1);have hg:=(bn a.natAbs).getD (x-1);((conv=>whnf);exact⟨x-1,⟨⟨rfl,iS (by(try simp(disch:=omega) only[dL,wu64,bP,lC,lH,wP,xQ,PG,P9,KA,KZ,MG])<;>omega),vw (by omega) (by omega),trivial⟩,⟨rfl,trivial⟩,(by omega),by show x-1<x;omega⟩⟩))⟩
instance ads(a b:Int):DenI Tryz.prog 200 [Z a,Z b] (sz a≤1000000000∧sz b≤1000000000) (.tup [Z (a.fdiv b),Z (if b=0 then 0 else a.fmod b),.int .i64 (if b=0 then 6 else 0)]):=⟨λhp=>by
 refine aC Tryz.func200 rfl ?_
 repeat'((try(conv=>whnf));first
  |refine aj ?_ ?_|(with_reducible first|refine aQ ?_|refine aP ?_|refine au (λ_=>?_) (λ_=>?_))|refine OnB.mk (λ_=>?_) (λ_=>?_)|refine Drw.mk (by kernel_rfl) ?_|refine Ends.mk ?_)
 all_goals(try refine Pr.mk ?_)
 all_goals(try simp(disch:=assumption) only[aB,lT,wR,xZ,yh,aZ,dqI,drI]at *)
 all_goals(try simp(disch:=assumption) only[aB,lT,wR,xZ,yh,aZ,dqI,drI]at *)
 all_goals first
  |omega|(have hb0:b=0:=(by omega);subst hb0;exact UZ a)|with_reducible exact sF _ _|with_reducible exact VX hp.1 hp.2 (by assumption)|with_reducible exact⟨ahG hp.1 _,ahN⟩|with_reducible exact⟨agY hp.1 _,hp.2⟩|with_reducible exact Vb (by assumption) (by assumption) (ZG (r:=a.natAbs%b.natAbs) (by omega) (by assumption))|with_reducible exact Jf (by assumption) (.inr (Ym (r:=a.natAbs%b.natAbs) (by omega) (by assumption)))|with_reducible exact Jf (by assumption) (.inl (by omega))⟩
instance agA(a b:Int):DenI Tryz.prog 120 [Z a,Z b] (sz a≤1000000000∧sz b≤1000000000) (Z ((Nat.gcd a.natAbs b.natAbs:Nat):Int)):=⟨λhp=>by
 refine aC Tryz.func120 rfl ?_
 repeat'((try(conv=>whnf));first
  |refine Drw.mk (by kernel_rfl) ?_)
 all_goals first
  |((conv=>whnf);refine Sw.Loop.inv (α:=Nat×Nat) (λx=>[(4,.ptr 4 0),(5,.c (aV (lim x.1))),(6,.c (aV (lim x.2)))]) (λx=>[(4,.var [.v (.bool false),.sl 1 []])]) (λx=>Nat.gcd x.1 x.2=Nat.gcd a.natAbs b.natAbs∧(lim x.1).length≤1000000000∧(lim x.2).length≤1000000000) (λx=>x.2) (a.natAbs,b.natAbs) ?_ ?_ ?_ (λx hx=>?_))
 all_goals(repeat'((try(conv=>whnf));first
  |refine aj ?_ ?_|(with_reducible first|refine aQ ?_|refine aP ?_|refine au (λ_=>?_) (λ_=>?_))|refine Ends.mk ?_))
 all_goals(try refine Pr.mk ?_)
 all_goals first
  |((conv=>whnf);refine Sw.Loop.inv (α:=Nat×Nat) (λy=>[(4,.ptr 4 0),(9,.int .u64 (y.1:Nat)),(10,.int .u64 (y.2:Nat))]) (λy=>[(4,.var [.v (.bool false),.sl 1 []])]) (λy=>y.1<1000000000000000000∧y.2<1000000000000000000∧Nat.gcd y.1 y.2=Nat.gcd a.natAbs b.natAbs) (λy=>y.2) x ?_ ?_ ?_ (λy hy=>?_))|skip
 all_goals(repeat'((try(conv=>whnf));first
  |refine aj ?_ ?_|(with_reducible refine au (λ_=>?_) (λ_=>?_))|refine bI ?_ ?_|refine Drw.mk (by kernel_rfl) ?_|refine Ends.mk ?_))
 all_goals(try refine Pr.mk ?_)
 all_goals first|(show SubE _ _;repeat'(first|exact trivial|refine And.intro ?_ ?_))|(show SubB _ _;repeat'(first|exact trivial|refine And.intro ?_ ?_))|skip
 all_goals(try rfl)
 all_goals(try simp only[aZ]at *)
 all_goals first
  |with_reducible exact bn _|with_reducible exact agm hx.2.1 hx.2.2 (by omega)|with_reducible exact acD (by omega)|exact⟨trivial,hp.1,hp.2⟩|exact gv|(have hz:=dI (n:=x.2);with_reducible exact YP (by omega) hx.1 (aB _))|with_reducible exact YP (by omega) hy.2.2 (aB _)|exact⟨glt (by omega),glt (by omega),hx.1⟩|(have h3:x.1%x.2<x.2:=xU _ (by have hz:=dI (n:=x.2);omega);((conv=>whnf);exact⟨(x.2,x.1%x.2),⟨⟨rfl,rfl,ag1,trivial⟩,⟨rfl,trivial⟩,⟨wB hx.1 rfl,hx.2.2,dh (iJ (Nat.le_of_lt h3)) hx.2.2⟩,h3⟩⟩))|(have h1:=hy.1;have h2:=hy.2.1;have h3:y.1%y.2<y.2:=xU _ (by omega);((conv=>whnf);exact⟨(y.2,y.1%y.2),⟨⟨rfl,rfl,gm2,trivial⟩,⟨rfl,trivial⟩,⟨by show y.2<_;omega,by show y.1%y.2<_;omega,wB hy.2.2 rfl⟩,h3⟩⟩))|omega⟩
instance agO(a b:Int):DenI Tryz.prog 156 [Z a,Z b] (sz a≤1000000000∧sz b≤1000000000) (Z ((Nat.gcd a.natAbs b.natAbs:Nat):Int)):=⟨λhp=>by
 refine aC Tryz.func156 rfl ?_
 repeat'((try(conv=>whnf));first
  |refine aj ?_ ?_|refine Drw.mk (by kernel_rfl) ?_)
 all_goals(try refine Pr.mk ?_)
 all_goals first
  |((conv=>whnf);refine Sw.Loop.inv (α:=Nat×Nat) (λx=>[(4,.ptr 4 0),(5,.ptr 5 0),(6,.ptr 6 0)]) (λx=>[(4,.var [.v (.bool false),.sl 1 []]),(5,.var [zs (x.1:Nat),zl (x.1:Nat)]),(6,.var [zs (x.2:Nat),zl (x.2:Nat)])]) (λx=>Nat.gcd x.1 x.2=Nat.gcd a.natAbs b.natAbs∧sz ((x.1:Nat):Int)≤1000000000∧sz ((x.2:Nat):Int)≤1000000000) (λx=>x.2) (a.natAbs,b.natAbs) ?_ ?_ ?_ (λx hx=>?_))|skip
 all_goals(repeat'((try(conv=>whnf));first
  |refine aG ?_|refine aj ?_ ?_|(with_reducible first|refine aQ ?_|refine aP ?_|refine au (λ_=>?_) (λ_=>?_))|refine bI ?_ ?_|refine Drw.mk (by kernel_rfl) ?_|refine Ends.mk ?_))
 all_goals(try refine Pr.mk ?_)
 all_goals first
  |((conv=>whnf);refine Sw.Loop.inv (α:=Nat×Nat) (λy=>[(4,.ptr 4 0),(7,.int .u64 (y.1:Nat)),(9,.int .u64 (y.2:Nat))]) (λy=>[(4,.var [.v (.bool false),.sl 1 []])]) (λy=>y.1<1000000000000000000∧y.2<1000000000000000000∧Nat.gcd y.1 y.2=Nat.gcd a.natAbs b.natAbs) (λy=>y.2) x ?_ ?_ ?_ (λy hy=>?_))|skip
 all_goals(repeat'((try(conv=>whnf));first
  |refine aj ?_ ?_|(with_reducible refine au (λ_=>?_) (λ_=>?_))|refine bI ?_ ?_|refine Drw.mk (by kernel_rfl) ?_|refine Ends.mk ?_))
 all_goals(try refine Pr.mk ?_)
 all_goals first|(show SubE _ _;repeat'(first|exact trivial|refine And.intro ?_ ?_))|(show SubB _ _;repeat'(first|exact trivial|refine And.intro ?_ ?_))|skip
 all_goals(try rfl)
 all_goals(try simp only[aZ]at *)
 all_goals first
  |with_reducible exact bn _|with_reducible exact sF _ _|exact UK _ _ (by rw[aB];rfl)|exact⟨trivial,hp.1,hp.2⟩|exact wif (by assumption)|exact⟨Qb (by assumption),Qb (by assumption),hx.1⟩|with_reducible exact ahx hx.2.1 hx.2.2 (by assumption)|omega|with_reducible exact YP (adv (by assumption)) hx.1 (aB _)|with_reducible exact YP (by omega) hy.2.2 (lD _ _ (by omega))|(have h1:=hy.1;have h2:=hy.2.1;have h3:y.1%y.2<y.2:=xU _ (by omega);((conv=>whnf);exact⟨(y.2,y.1%y.2),⟨⟨rfl,rfl,gm2,trivial⟩,⟨rfl,trivial⟩,⟨by show y.2<_;omega,by show y.1%y.2<_;omega,wB hy.2.2 rfl⟩,h3⟩⟩))|(have h0:=ag4 (by assumption);have h3:x.1%x.2<x.2:=xU _ h0;((conv=>whnf);exact⟨(x.2,x.1%x.2),⟨⟨rfl,rfl,rfl,trivial⟩,⟨rfl,rfl,UK _ _ (gst (by assumption)),trivial⟩,⟨wB hx.1 rfl,hx.2.2,dh (ou (by rw[Nz,Nz];exact Nat.le_of_lt h3)) hx.2.2⟩,h3⟩⟩))|(have h0:=hx.2.1;unfold sz at h0;omega)⟩
instance agC:DenI Tryz.prog 158 [] (True) (Z 1):=⟨λhp=>by
 refine aC Tryz.func158 rfl ?_
 repeat'((try(conv=>whnf));first
  |refine aj ?_ ?_|refine Ends.mk ?_)
 all_goals(try refine Pr.mk ?_)
 all_goals first|rfl|decide⟩
instance agb(n:Int):DenI Tryz.prog 222 [Z n] (True) (R (n:Rat)):=⟨λhp=>by
 refine aC Tryz.func222 rfl ?_
 repeat'((try(conv=>whnf));first
  |refine aG ?_|refine Drw.mk (by kernel_rfl) ?_|refine Ends.mk ?_)
 rfl⟩
instance af9(a b:Int):DenI Tryz.prog 159 [Z a,Z b] (sz a≤1000000000∧sz b≤1000000000) (Z (a.fdiv b)):=⟨λhp=>by
 refine aC Tryz.func159 rfl ?_
 repeat'((try(conv=>whnf));first
  |refine aj ?_ ?_|refine Ends.mk ?_)
 all_goals(try refine Pr.mk ?_)
 all_goals first|rfl|exact hp⟩
instance aeK(n d:Int):DenI Tryz.prog 121 [Z n,Z d] (d≠0∧sz n≤1000000000∧sz d≤1000000000) (R ((n:Rat) / d)):=⟨λhp=>by
 refine aC Tryz.func121 rfl ?_
 repeat'((try(conv=>whnf));first
  |refine aG ?_|refine aj ?_ ?_|(with_reducible first|refine au (λ_=>?_) (λ_=>?_)|refine cZ (λ_=>?_) (λ_=>?_))|refine Drw.mk (by kernel_rfl) ?_|refine Ends.mk ?_)
 all_goals(try refine Pr.mk ?_)
 all_goals obtain⟨h0,h1,h2⟩:=hp
 all_goals(try simp only[iD]at *)
 all_goals first
  |(show aA _=_;first|(by_cases hd:d<0;(obtain⟨q1,q2⟩:=X7 (n:=n) (d:=d) hd;first|exact O5 q1 q2|(refine O5 ?_ ?_<;>simp_all));(obtain⟨q1,q2⟩:=FH (n:=n) (d:=d) (by omega);first|exact O5 q1 q2|(refine O5 ?_ ?_<;>simp_all))))|((try simp only[jJ]);(repeat' apply And.intro)<;>first|assumption|exact abA (by(try simp only[jJ]);assumption) (by(try simp only[jJ]);assumption))⟩
instance ahn(n:Int):DenI Tryz.prog 179 [.int .i64 n] (-9223372036854775808≤n∧n≤9223372036854775807) (R (n:Rat)):=⟨λhp=>by
 refine aC Tryz.func179 rfl ?_
 repeat'((try(conv=>whnf));first
  |refine aG ?_|refine aj ?_ ?_|refine Ends.mk ?_)
 all_goals(try refine Pr.mk ?_)
 all_goals first
  |(show aA _=_;rfl)|((repeat' apply And.intro)<;>first|assumption|omega|exact uD (aJ _) (aJ _)|exact aJ _|grind[jM,qK,yH,jJ,nC,oM,rP,oD,qL,vO,qH,kM,sO])⟩
instance ahm(a:Rat):DenI Tryz.prog 49 [R a] (True) (.int .i64 (bG a)):=⟨λhp=>by
 refine aC Tryz.func49 rfl ?_
 repeat'((try(conv=>whnf));first
  |refine aG ?_|refine Ends.mk ?_)
 all_goals(try simp only[iD]at *)
 all_goals first
  |(show aA _=_;rfl)⟩
instance aiL(a:Rat):DenI Tryz.prog 180 [R a] (rz a≤100000000) (R (-a)):=⟨λhp=>by
 refine aC Tryz.func180 rfl ?_
 repeat'((try(conv=>whnf));first
  |refine aj ?_ ?_|refine Drw.mk (by kernel_rfl) ?_|refine Ends.mk ?_)
 all_goals(try refine Pr.mk ?_)
 all_goals first
  |(show aA _=_;rfl)|((repeat' apply And.intro)<;>first|assumption|omega|exact uD (aJ _) (aJ _)|exact aJ _|grind[jM,qK,yH,jJ,nC,oM,rP,oD,qL,vO,qH,kM,sO])⟩
instance ah8(a b:Rat):DenI Tryz.prog 91 [R a,R b] (rz a≤100000000∧rz b≤100000000) (R (a*b)):=⟨λhp=>by
 refine aC Tryz.func91 rfl ?_
 repeat'((try(conv=>whnf));first
  |refine aj ?_ ?_|refine Drw.mk (by kernel_rfl) ?_|refine Ends.mk ?_)
 all_goals(try refine Pr.mk ?_)
 all_goals first
  |(show aA _=_;exact congrArg R (mul_div a b))|((repeat' apply And.intro)<;>first|assumption|omega|exact uD (aJ _) (aJ _)|exact aJ _|grind[jM,qK,yH,jJ,nC,oM,rP,oD,qL,vO,qH,kM,sO])⟩
instance air(a b:Rat):DenI Tryz.prog 163 [R a,R b] (rz a≤100000000∧rz b≤100000000) (R (a+b)):=⟨λhp=>by
 refine aC Tryz.func163 rfl ?_
 repeat'((try(conv=>whnf));first
  |refine aG ?_|refine aj ?_ ?_|(with_reducible refine au (λ_=>?_) (λ_=>?_))|refine Drw.mk (by kernel_rfl) ?_|refine Ends.mk ?_)
 all_goals(try refine Pr.mk ?_)
 all_goals(try simp only[iD]at *)
 all_goals first
  |(show aA _=_;first|exact congrArg R (add_div a b)|exact congrArg R (Wv a b (by assumption)))|((repeat' apply And.intro)<;>first|assumption|omega|exact uD (aJ _) (aJ _)|exact aJ _|grind[jM,qK,yH,jJ,nC,oM,rP,oD,qL,vO,qH,kM,sO])⟩
instance ah5(a b:Rat):DenI Tryz.prog 162 [R a,R b] (rz a≤100000000∧rz b≤100000000) (R (a-b)):=⟨λhp=>by
 refine aC Tryz.func162 rfl ?_
 repeat'((try(conv=>whnf));first
  |refine aj ?_ ?_|refine Drw.mk (by kernel_rfl) ?_|refine Ends.mk ?_)
 all_goals(try refine Pr.mk ?_)
 all_goals first
  |(show aA _=_;exact congrArg R (Rat.sub_eq_add_neg a b).symm)|((repeat' apply And.intro)<;>first|assumption|omega|exact uD (aJ _) (aJ _)|exact aJ _|grind[jM,qK,yH,jJ,nC,oM,rP,oD,qL,vO,qH,kM,sO])⟩
instance agj(a:Rat):DenI Tryz.prog 332 [R a] (rz a≤100000000) (Z a.floor):=⟨λhp=>by
 refine aC Tryz.func332 rfl ?_
 repeat'((try(conv=>whnf));first
  |refine aj ?_ ?_|refine Ends.mk ?_)
 all_goals(try refine Pr.mk ?_)
 all_goals first
  |(show aA _=_;exact congrArg Z (Je a))|((repeat' apply And.intro)<;>first|assumption|omega|exact uD (aJ _) (aJ _)|exact aJ _|grind[jM,qK,yH,jJ,nC,oM,rP,oD,qL,vO,qH,kM,sO])⟩
instance afU:DenI Tryz.prog 81 [] (True) (Z 1):=⟨λhp=>by
 refine aC Tryz.func81 rfl ?_
 repeat'((try(conv=>whnf));first
  |refine aj ?_ ?_|refine Ends.mk ?_)
 all_goals(try refine Pr.mk ?_)
 all_goals first|rfl|decide⟩
instance agd(n:Int):DenI Tryz.prog 42 [.int .i64 n] (-9223372036854775808≤n∧n≤9223372036854775807) (R (n:Rat)):=⟨λhp=>by
 refine aC Tryz.func42 rfl ?_
 repeat'((try(conv=>whnf));first
  |refine aG ?_|refine aj ?_ ?_|refine Ends.mk ?_)
 all_goals(try refine Pr.mk ?_)
 all_goals first
  |(show aA _=_;rfl)|(exact hp)⟩
instance afw(neg:Bool)(l:List Nat):DenI Tryz.prog 119 [Zr neg l] (l.length≤9223372036854775807) (.bool (gV neg l)):=⟨λhp=>by
 refine aC Tryz.func119 rfl ?_
 repeat'((try(conv=>whnf));first
  |refine aG ?_|refine aj ?_ ?_|(with_reducible first|refine aQ ?_|refine aP ?_|refine au (λ_=>?_) (λ_=>?_)|refine cZ (λ_=>?_) (λ_=>?_))|refine OnB.mk (λ_=>?_) (λ_=>?_)|refine bI ?_ ?_|refine Drw.mk (by kernel_rfl) ?_|refine gu ?_ ?_|refine iG ?_ ?_|(with_reducible first|refine bZ ?_ ?_|refine dn ?_|refine dM ?_)|refine Ends.mk ?_)
 all_goals first
  |((conv=>whnf);refine Sw.Loop.inv (α:=Nat) (λx=>[(1,.ptr 1 0),(2,.bool false),(3,.int .i64 x)]) (λx=>[(1,.var [.v (.bool neg),aV l])]) (λx=>x≤l.length∧∀j,j<x→l.getD j 0<1000000000) (λx=>l.length-x) 0 ?_ ?_ ?_ (λx hx=>?_))
 all_goals(repeat'((try(conv=>whnf));first
  |refine aG ?_|(with_reducible first|refine aQ ?_|refine aP ?_|refine au (λ_=>?_) (λ_=>?_))|refine OnB.mk (λ_=>?_) (λ_=>?_)|refine Drw.mk (by kernel_rfl) ?_|(with_reducible refine bZ ?_ ?_)|refine Ends.mk ?_))
 all_goals(try refine Pr.mk ?_)
 all_goals first|(show SubE _ _;repeat'(first|exact trivial|refine And.intro ?_ ?_))|(show SubB _ _;repeat'(first|exact trivial|refine And.intro ?_ ?_))|skip
 all_goals(try rfl)
 all_goals(try simp only[aZ,gU]at *)
 all_goals first
  |exact bE (Ua (x:=x) (by omega) (by assumption))|(refine bE ?_;rw[Xl hx (by assumption)];(have hh:(ah l).length=l.length:=by omega);simp_all;done)|(refine bE ?_;rw[Xl hx (by assumption)];(have hh:¬(ah l).length=l.length:=by omega);simp_all;done)|((conv=>whnf);exact⟨x+1,⟨⟨rfl,rfl,bQ (by omega),trivial⟩,⟨rfl,trivial⟩,⟨by omega,λj hj=>by rcases Nat.lt_succ_iff_lt_or_eq.1 hj with h|h;exact hx.2 j h;subst h;omega⟩,by show l.length-(x+1)<l.length-x;omega⟩⟩)|omega|exact⟨by omega,λj hj=>by omega⟩⟩
instance afE(n1:Bool)(l1:List Nat)(n2:Bool)(l2:List Nat):DenI Tryz.prog 89 [Rr n1 l1 n2 l2] (l1.length≤1000000000∧l2.length≤1000000000) (.bool (jv n1 l1 n2 l2)):=⟨λhp=>by
 rcases zA n1 l1 n2 l2 with h|⟨x,rfl,rfl,h⟩|⟨x,y,rfl,rfl,rfl,rfl⟩
 all_goals refine aC Tryz.func89 rfl ?_
 all_goals(repeat'((try(conv=>whnf));first
  |refine aG ?_|refine aj ?_ ?_|(with_reducible first|refine aQ ?_|refine aP ?_|refine au (λ_=>?_) (λ_=>?_)|refine cZ (λ_=>?_) (λ_=>?_))|refine OnB.mk (λ_=>?_) (λ_=>?_)|refine bI ?_ ?_|refine Drw.mk (by kernel_rfl) ?_|refine gu ?_ ?_|refine iG ?_ ?_|(with_reducible first|refine bZ ?_ ?_|refine dn ?_|refine dM ?_)|refine Ends.mk ?_))
 all_goals(try refine Pr.mk ?_)
 all_goals first
  |(simp only[qQ]at *;exfalso;simp_all;done)|(exfalso;clear hp;simp at *;done)|(exfalso;simp_all;done)|(refine bE ?_;rw[kX];simp_all;done)|exact bE (by unfold jv;simp_all)|exact hp|(first|exact dh hp.1 (by decide)|exact dh hp.2 (by decide))⟩
instance aeN(l h:Int):DenI Tryz.prog 333 [.int .i64 l,.int .i64 h] (True) (Ov (SH l h)):=⟨λhp=>by
 refine aC Tryz.func333 rfl ?_
 repeat'((try(conv=>whnf));first
  |(with_reducible first|refine aQ ?_|refine aP ?_|refine au (λ_=>?_) (λ_=>?_))|refine Ends.mk ?_)
 all_goals first
  |(rw[OY (by omega) (by omega)];rfl)|(rw[Gv (by omega)];rfl)⟩
instance aiP(l h:Int):DenI Tryz.prog 305 [Iv l h] (-2305843009213693952≤l∧l≤2305843009213693952∧-2305843009213693952≤h∧h≤2305843009213693952) (Iv (-h) (-l)):=⟨λhp=>by
 refine aC Tryz.func305 rfl ?_
 repeat'((try(conv=>whnf));first
  |refine Ends.mk ?_)
 rw[bP (by omega) (by omega),bP (by omega) (by omega),Int.zero_sub,Int.zero_sub];rfl⟩
instance aiN(n:Int):DenI Tryz.prog 355 [.int .i64 n] (-9223372036854775808≤n∧n≤9223372036854775807) (.int .u64 n.natAbs):=⟨λhp=>by
 refine aC Tryz.func355 rfl ?_
 repeat'((try(conv=>whnf));first
  |(with_reducible refine au (λ_=>?_) (λ_=>?_))|refine Ends.mk ?_)
 all_goals(refine iE ?_;simp only[IntKind.wrap_u64];omega)⟩
instance ahM(l h:Int):DenI Tryz.prog 306 [Iv l h] (True) (.tup [.int .i64 (Ll l h).1,.bool (Ll l h).2]):=⟨λhp=>by
 refine aC Tryz.func306 rfl ?_
 repeat'((try(conv=>whnf));first
  |(with_reducible first|refine aQ ?_|refine aP ?_|refine au (λ_=>?_) (λ_=>?_))|refine Drw.mk (by kernel_rfl) ?_|refine Ends.mk ?_)
 all_goals(refine ibE ?_ ?_<;>unfold Ll<;>(repeat' split)<;>simp_all<;>omega)⟩
instance agh(a b:Nat):DenI Tryz.prog 327 [.int .u64 a,.int .u64 b] (a<18446744073709551616∧b<18446744073709551616) (.tup [.int .u64 (a*b / 18446744073709551616:Nat),.int .u64 (a*b % 18446744073709551616:Nat)]):=⟨λhp=>by
 refine aC Tryz.func327 rfl ?_
 repeat'((try(conv=>whnf));first
  |refine bI ?_ ?_|refine Ends.mk ?_)
 all_goals(try refine Pr.mk ?_)
 all_goals first
  |(show(0:Int)≤_;decide)|(simp only[ag8,ae8,aeQ,e32,e16,e48,EH,aa0,Va,wu,←XM,←Int.natCast_add];obtain⟨m1,m2,m3,m4,m5⟩:=Qv (a:=a) (b:=b) hp.1 hp.2 rfl rfl rfl rfl;refine iE2 ?_ rfl;rw[←m1];apply congrArg Nat.cast;omega)⟩
instance aeV(x y:Int):DenI Tryz.prog 334 [.int .i64 x,.int .i64 y] ((-9223372036854775808≤x∧x≤9223372036854775807)∧-9223372036854775808≤y∧y≤9223372036854775807) (.tup [.int .i64 (uP x y).1,.int .i64 (uP x y).2.1,.bool (uP x y).2.2]):=⟨λhp=>by
 refine aC Tryz.func334 rfl ?_
 repeat'((try(conv=>whnf));first
  |refine aj ?_ ?_|(with_reducible first|refine aQ ?_|refine aP ?_|refine au (λ_=>?_) (λ_=>?_)|refine cZ (λ_=>?_) (λ_=>?_))|refine OnB.mk (λ_=>?_) (λ_=>?_)|refine bI ?_ ?_|refine Ends.mk ?_)
 all_goals(try refine Pr.mk ?_)
 all_goals(try simp only[ae8,aeQ,e16,e48,EH,Va]at *)
 all_goals first
  |exact hp.1|exact hp.2|(show(0:Int)≤_;decide)|(constructor<;>omega)|(refine MH ?_;exact aa1 (by assumption))|(rw[aeZ (by omega)]at *;refine MH ?_;exact X6 (x:=x) (y:=y) (by assumption))|(rw[aeZ (by omega)]at *;have q1:=w1 (q:=((x.natAbs*y.natAbs/65536:Nat):Int)) (by omega) (by assumption);have q2:=w2 (q:=((x.natAbs*y.natAbs/65536:Nat):Int)) (by omega) (by assumption);have q3:=w3 (q:=((x.natAbs*y.natAbs/65536:Nat):Int)) (by omega) (by assumption);have q4:=w4 (q:=((x.natAbs*y.natAbs/65536:Nat):Int)) (by omega) (by assumption);rename_i g1 g2 g3 g4 hl;(try rw[q1]at hl);(try rw[q2]at hl);(try rw[q3]at hl);(try rw[q4]at hl);(try rw[q1]);(try rw[q2]);(try rw[q3]);(try rw[q4]);clear q1 q2 q3 q4;first|refine Pn (z:=true) g2 g3 g1 (decide_eq_true (by omega)) rfl rfl ?_|refine Pn (z:=false) g2 g3 g1 (decide_eq_false (by omega)) rfl rfl ?_)
 all_goals first|exact decide_eq_decide.2 (by omega)|exact(decide_eq_false (by omega)).symm⟩
instance(k:Nat):DenI Tryz.prog 160 [.bool false,.c (.sl 1 (List.replicate k [Cell.v (.int .u32 0)]++[[Cell.v (.int .u32 1)]]))] True (Z ((1000000000 ^ k:Nat):Int)):=⟨λ_=>by
 have h:=(inferInstance:DenI Tryz.prog 160 [.bool false,.c (aV (List.replicate k 0++[1]))] _ _).den ((jG k).append (Lb.cons (by omega) Lb.nil));rw[Lj]at h;unfold aV at h;rw[gG,List.map_replicate]at h
 exact h⟩
instance agD(a:Int):DenI Tryz.prog 366 [Z a] (sz a≤100000000) (.tup [Z (if a<0 then 0 else uI a.natAbs),.int .i64 (if a<0 then 7 else 0)]):=⟨λhp=>by
 refine aC Tryz.func366 rfl ?_
 repeat'((try(conv=>whnf));first
  |refine aG ?_|refine aj ?_ ?_|(with_reducible refine au (λ_=>?_) (λ_=>?_))|refine bI ?_ ?_|refine gu ?_ ?_|refine Ends.mk ?_)
 all_goals(try refine Pr.mk ?_)
 all_goals have hl:(lim a.natAbs).length≤100000000:=hp
 all_goals first
  |((conv=>whnf);refine Sw.Loop.inv (α:=Nat) (λx=>[(1,.ptr 1 0),(2,.ptr 2 0),(3,.int .i64 0),(5,.ptr 5 0),(6,.ptr 6 0)]) (λx=>[(1,.var [zs a,zl a]),(2,.var [.v (.bool false),.sl 1 []]),(5,.var [zs x,zl x]),(6,.var [zs 2,zl 2])]) (λx=>0<x∧a.natAbs<(x+1)*(x+1)∧sz x≤200000000) (λx=>x) (1000000000^(((lim a.natAbs).length+1)/2)) ?_ ?_ ?_ (λx hx=>?_))|skip
 all_goals(repeat'((try(conv=>whnf));first
  |refine aG ?_|refine aj ?_ ?_|(with_reducible refine au (λ_=>?_) (λ_=>?_))|refine Drw.mk (by kernel_rfl) ?_|refine Ends.mk ?_))
 all_goals(try refine Pr.mk ?_)
 all_goals first|(show SubE _ _;repeat'(first|exact trivial|refine And.intro ?_ ?_))|(show SubB _ _;repeat'(first|exact trivial|refine And.intro ?_ ?_))|skip
 all_goals(try rfl)
 all_goals(try simp only[iD]at *)
 all_goals(try simp only[aZ,aB,xZ,yh]at *)
 all_goals(try rw[V8 (by omega)])
 all_goals(try simp only[gU,zO,iy,iR,jB])
 all_goals(try simp only[U3 (show 0≤a by omega),Vk]at *)
 all_goals first
  |exact Z9 (by assumption)|exact Ue (by assumption) (by assumption)|with_reducible exact Yv (by assumption) (by assumption) (by assumption)|((conv=>whnf);exact⟨(x+a.natAbs/x)/2,⟨⟨rfl,rfl,rfl,rfl,rfl,trivial⟩,⟨rfl,rfl,rfl,rfl,trivial⟩,V3 (by assumption) (by assumption) (by assumption),by show(x+a.natAbs/x)/2<x;omega⟩⟩)|exact NM rfl hl|(show ld _ _=some _;rfl)|(have z1:=@Zh a;have z2:=qK;have z3:=sO;have z4:=kM (n:=2) (by omega) (by omega);(repeat' apply And.intro)<;>first|assumption|omega|decide|(simp;done)|(have z5:=z1 (x:=x);have z6:=z2 x ((a.natAbs/x:Nat):Int);omega)|skip)⟩
end Go.Proofs.YtmniihkenijjpaaGreatDoor
