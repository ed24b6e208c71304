/-
  Rules of the abstract run, plain laws, and what functions answer, for the law RepairJoins.
  Conditions: none.
-/
import Derived.Test.YtmniihkenijjpaaGreatDoorX14
import Derived.Shelf.SlicesE.Clone
import Derived.Maps.OwnSet
import Derived.ChangeSame
import Derived.Shelf.LaysM
import Derived.Shelf.Strconv.Itoa1
import Derived.Shelf.Strconv.Itoa2
import Derived.Lib.Walk
import Derived.Lib.ItoaMem
import Derived.Lib.ItoaLen
import Derived.Lib.AppendIntMem
import Derived.WalkKit
import Derived.BigCall
import Derived.BigGuard
set_option linter.all false
namespace Go.Proofs.YtmniihkenijjpaaGreatDoor
open Go Go.RowKit Go.Sw
set_option maxRecDepth 100000
set_option maxHeartbeats 8000000
set_option synthInstance.maxSize 4000
set_option synthInstance.maxHeartbeats 400000
instance ag9:DenI Tryz.prog 166 [] (True) (.agg [.v (.bool false),zs (0:Rat).num,zl (0:Rat).num,zs (0:Rat).den,zl (0:Rat).den,zs (0:Rat).num,zl (0:Rat).num,zs (0:Rat).den,zl (0:Rat).den,zs (0:Rat).num,zl (0:Rat).num,zs (0:Rat).den,zl (0:Rat).den,zs (0:Rat).num,zl (0:Rat).num,zs (0:Rat).den,zl (0:Rat).den,zs (0:Rat).num,zl (0:Rat).num,zs (0:Rat).den,zl (0:Rat).den,zs (0:Rat).num,zl (0:Rat).num,zs (0:Rat).den,zl (0:Rat).den,.v (.bool false),.v (.bool false),.sl 1 [],.v (.bool false),.sl 1 [],.v (.bool false),.sl 1 [],.v (.bool false),.sl 1 [],.v (.bool false),.sl 1 [],.v (.bool false),.sl 1 [],.v (.bool false),.sl 1 [],.v (.bool false),.sl 1 [],.v (.bool false),.sl 1 [],.v (.bool false),.sl 1 [],.v (.bool false),.sl 1 [],.v (.bool false),.sl 1 [],.v (.bool false),.sl 1 [],.v (.bool false),.sl 1 [],.v (.bool false),.sl 1 [],.v (.bool false),.sl 1 [],.v (.bool false),.sl 1 [],.v (.bool false),.sl 1 [],.v (.bool false),.sl 1 [],.v (.bool false),.sl 1 []]):=⟨λhp=>by
 refine aC Tryz.func166 rfl ?_
 all_goals(repeat'((try(conv=>whnf));first
  |refine aj ?_ ?_|refine Ends.mk ?_))
 all_goals(try refine Pr.mk ?_)
 all_goals(try simp only[iD]at *)
 all_goals first
  |rfl|omega⟩
instance aif(a b c d e f:Rat):DenC Tryz.prog 125 [Q2 a b,Q2 c d,Q2 e f] (rz a≤100∧rz b≤100∧rz c≤100∧rz d≤100∧rz e≤100∧rz f≤100) (cD a b c d e f=0) (.tup [.agg [.v (.bool false),.v (.bool false),.sl 1 [],.v (.bool false),.sl 1 [],.v (.bool false),.sl 1 [],.v (.bool false),.sl 1 [],.v (.bool false),.sl 1 [],.v (.bool false),.sl 1 [],.v (.bool false),.sl 1 [],.v (.bool false),.sl 1 [],.v (.bool false),.sl 1 [],.v (.bool false),.sl 1 [],.v (.bool false),.sl 1 [],.v (.bool false),.sl 1 [],.v (.bool false),.v (.bool false),.sl 1 [],.v (.bool false),.sl 1 [],.v (.bool false),.sl 1 [],.v (.bool false),.sl 1 [],.v (.bool false),.sl 1 [],.v (.bool false),.sl 1 [],.v (.bool false),.sl 1 [],.v (.bool false),.sl 1 [],.v (.bool false),.sl 1 [],.v (.bool false),.sl 1 [],.v (.bool false),.sl 1 [],.v (.bool false),.sl 1 [],.v (.bool false),.sl 1 [],.v (.bool false),.sl 1 [],.v (.bool false),.sl 1 [],.v (.bool false),.sl 1 [],.v (.bool false),.sl 1 [],.v (.bool false),.sl 1 [],.v (.bool false),.sl 1 [],.v (.bool false),.sl 1 []],.int .i64 6]) (.tup [.agg (DN (ctX (a,b) (c,d) (e,f)) (ctY (a,b) (c,d) (e,f)) (VH (a,b) (c,d) (e,f)) (!decide (0<cD a b c d e f)) a b e f),.int .i64 0]):=⟨Yf λhp q e1 e2=>by
 have i_a:RzB a 100:=⟨hp.1⟩
 have i_b:RzB b 100:=⟨hp.2.1⟩
 have i_c:RzB c 100:=⟨hp.2.2.1⟩
 have i_d:RzB d 100:=⟨hp.2.2.2.1⟩
 have i_e:RzB e 100:=⟨hp.2.2.2.2.1⟩
 have i_f:RzB f 100:=⟨hp.2.2.2.2.2⟩
 all_goals refine aC Tryz.func125 rfl ?_
 all_goals(repeat'((try(conv=>whnf));first
  |refine aG ?_|refine aj ?_ ?_|refine kH ?_ (λ_=>?_) (λ_=>?_)|(with_reducible refine cZ (λ_=>?_) (λ_=>?_))|refine Drw.mk (by kernel_rfl) ?_|refine Ends.mk ?_))
 all_goals(try refine Pr.mk ?_)
 all_goals(try simp only[iD]at *)
 all_goals first
  |(exfalso;omega)|(exfalso;rename ¬True=>h;exact h trivial)|(rw[e2 (by unfold cD;assumption),cwF];rfl)|(rw[e1 (by unfold cD;assumption)];rfl)|((repeat' apply And.intro)<;>first|assumption|exact xI (by omega)|exact zf (by omega)|exact uD (aJ _) (aJ _))⟩
instance aiS(X Y Q a b e f x y:Rat)(cw:Bool):DenI Tryz.prog 209 [.agg (DN X Y Q cw a b e f),Q5 x 0 y 0 0] (rz X≤7000∧rz Y≤7000∧rz Q≤27000∧rz a≤12∧rz b≤12∧rz e≤12∧rz f≤12∧rz x≤12∧rz y≤12) (.bool (decide (H9 (X,Y) Q (x,y)))):=⟨λhp=>by
 obtain⟨q0,q1,q2,q3,q4,q5,q6,q7,q8⟩:=hp;have i_X:RzB X 7000:=⟨q0⟩
 have i_Y:RzB Y 7000:=⟨q1⟩
 have i_Q:RzB Q 27000:=⟨q2⟩
 have i_a:RzB a 12:=⟨q3⟩
 have i_b:RzB b 12:=⟨q4⟩
 have i_e:RzB e 12:=⟨q5⟩
 have i_f:RzB f 12:=⟨q6⟩
 have i_x:RzB x 12:=⟨q7⟩
 have i_y:RzB y 12:=⟨q8⟩
 all_goals refine aC Tryz.func209 rfl ?_
 all_goals(repeat'((try(conv=>whnf));first
  |refine aj ?_ ?_|(with_reducible refine aQ ?_)|refine Ends.mk ?_))
 all_goals(try refine Pr.mk ?_)
 all_goals first
  |exact bE Zt|exact⟨by assumption,by assumption,by assumption,by assumption,by assumption⟩⟩
instance aiq(X Y Q a b e f x y:Rat)(cw:Bool):DenI Tryz.prog 210 [.agg (DN X Y Q cw a b e f),Q5 x 0 y 0 0] (rz X≤7000∧rz Y≤7000∧rz Q≤27000∧rz a≤12∧rz b≤12∧rz e≤12∧rz f≤12∧rz x≤12∧rz y≤12) (.bool (decide ((if cw=true then Dx (X,Y) (e,f) (x,y) (a,b) else Dx (X,Y) (a,b) (x,y) (e,f))≤0))):=⟨λhp=>by
 obtain⟨q0,q1,q2,q3,q4,q5,q6,q7,q8⟩:=hp;have i_X:RzB X 7000:=⟨q0⟩
 have i_Y:RzB Y 7000:=⟨q1⟩
 have i_Q:RzB Q 27000:=⟨q2⟩
 have i_a:RzB a 12:=⟨q3⟩
 have i_b:RzB b 12:=⟨q4⟩
 have i_e:RzB e 12:=⟨q5⟩
 have i_f:RzB f 12:=⟨q6⟩
 have i_x:RzB x 12:=⟨q7⟩
 have i_y:RzB y 12:=⟨q8⟩
 cases cw
 all_goals refine aC Tryz.func210 rfl ?_
 all_goals(repeat'((try(conv=>whnf));first
  |refine aj ?_ ?_|refine OnB.mk (λ_=>?_) (λ_=>?_)|refine Ends.mk ?_))
 all_goals(try refine Pr.mk ?_)
 all_goals(try simp only[iD]at *)
 all_goals first
  |rfl|((repeat' apply And.intro)<;>first|assumption|exact xI (by omega)|exact zf (by omega)|exact uD (aJ _) (aJ _))|(exfalso;simp_all;done)⟩
instance ai5(X Y Q a b e f x y:Rat)(cw:Bool):DenI Tryz.prog 168 [.agg (DN X Y Q cw a b e f),Q5 x 0 y 0 0] (rz X≤7000∧rz Y≤7000∧rz Q≤27000∧rz a≤12∧rz b≤12∧rz e≤12∧rz f≤12∧rz x≤12∧rz y≤12) (.bool (onP (X,Y) Q cw (a,b) (e,f) (x,y))):=⟨λhp=>by
 obtain⟨q0,q1,q2,q3,q4,q5,q6,q7,q8⟩:=hp;have i_X:RzB X 7000:=⟨q0⟩
 have i_Y:RzB Y 7000:=⟨q1⟩
 have i_Q:RzB Q 27000:=⟨q2⟩
 have i_a:RzB a 12:=⟨q3⟩
 have i_b:RzB b 12:=⟨q4⟩
 have i_e:RzB e 12:=⟨q5⟩
 have i_f:RzB f 12:=⟨q6⟩
 have i_x:RzB x 12:=⟨q7⟩
 have i_y:RzB y 12:=⟨q8⟩
 all_goals refine aC Tryz.func168 rfl ?_
 all_goals(repeat'((try(conv=>whnf));first
  |refine aj ?_ ?_|(with_reducible first|refine aQ ?_|refine aP ?_|refine au (λ_=>?_) (λ_=>?_))|refine Ends.mk ?_))
 all_goals(try refine Pr.mk ?_)
 all_goals first
  |(refine bE ?_;unfold onP;have hk:decide (H9 (X,Y) Q (x,y))=true:=decide_eq_true (by assumption);rw[hk];rfl)|(refine bE ?_;unfold onP;have hk:decide (H9 (X,Y) Q (x,y))=false:=decide_eq_false (by assumption);rw[hk];rfl)|((repeat' apply And.intro)<;>first|assumption|exact xI (by omega)|exact zf (by omega)|exact uD (aJ _) (aJ _))⟩
end Go.Proofs.YtmniihkenijjpaaGreatDoor
namespace Go.Sw
open Go Go.RowKit
theorem Y7{P:Program}{ρ:Operand→Value}{w:World}{d:Option Tmp}{ty:TypeId}{pos:String}{af:Array Edge}{gd:Option (Nat×Bool)}{t e:TypeId}{s:Nat}{x y:Operand}{g n c:Nat}{k:IntKind}{j:Nat}(ht:sliceOf P t=some (e,s))(hx:ρ x=.slice (some ⟨g,0,none⟩) n c)(hy:ρ y=.int k (j:Nat))(h1:j<n):
 (execOp ρ ⟨d,.indexAddr t x y,ty,pos,af,gd⟩).run P w=.ok (.value (.pointer (some ⟨g,j*s,none⟩))) w:=by
 have:=Yg (w:=w) (d:=d) (ty:=ty) (pos:=pos) (af:=af) (gd:=gd) ht hx rfl hy rfl h1
 rwa [Addr.add_lit,uX]at this
def ahl(P:Program)(kT T:TypeId)(s:Nat)(st:JS)(w:World)(X:List Nat)(us:List Value)(more:List Bx)(mo:Nat×Array MapEntry×Nat)(r:AV)(u:Value)(w':World):Prop :=
 ∃(more':List Bx) (mo':Nat×Array MapEntry×Nat),mo'.1=mo.1∧w'.heap[mo.1]?=some (.map mo'.2.1 mo'.2.2)∧(∀q∈more',(q.1∈bl more∨w.heap.size≤q.1)∧w'.heap[q.1]?=some (.cells q.2.2 q.2.1 (0,0)))∧(more'.Pairwise λa b=>a.1≠b.1) ∧
  (w'.os=w.os∧w'.tape=w.tape∧w'.output=w.output∧w.heap.size≤w'.heap.size∧∀k,k<w.heap.size→k≠mo.1→k ∉ bl more→w'.heap[k]?=w.heap[k]?)∧RepR w' (bl more'++X) u r∧(Gy P kT T s st).rep w' (bl more'++X) us more' mo'
theorem RepR.ext{w w':World}{X X':List Nat}{u:Value}{r:AV}(h:RepR w X u r)(e:Ext w X w' X'):RepR w' X' u r:=by
 cases h with
 |d h=>exact .d (h.ext e)
 |tup hl h=>exact .tup hl λi u v a b=>(h i u v a b).ext e
theorem agF{P:Program}{kT T:TypeId}{s:Nat}{st:JS}{w w':World}{X:List Nat}{us:List Value}{more:List Bx}{mo:Nat×Array MapEntry×Nat}{r:AV}{u:Value}{m:Nat}(hB:Below w.heap.size w w')(hmore:∀q∈more,q.1∈X∧w.heap[q.1]?=some (.cells q.2.2 q.2.1 (0,0)))(hnd:more.Pairwise λa b=>a.1≠b.1)
 (hmap:w.heap[mo.1]?=some (.map mo.2.1 mo.2.2)) (hrep:Yw P kT T s st w X us more mo) (hn:st.n≤m) (hR:RepR w X u r):ahl P kT T s ⟨st.sq,st.f,m⟩ w X us more mo r u w':=by
 have hext:Ext w X w' (bl more++X):=⟨hB.size,λk hk hx _=>⟨hB.block k hk,λhm=>by
  rcases l9.1 hm with hm|hm
  ·obtain⟨q,hq,rfl⟩:=fV.1 hm;exact hx (hmore q hq).1
  ·exact hx hm⟩⟩
 refine⟨more,mo,rfl,(hB.block _ (lt_of_heap hmap)).trans hmap,λq hq=>⟨.inl (fV.2 ⟨q,hq,rfl⟩),(hB.block _ (lt_of_heap (hmore q hq).2)).trans (hmore q hq).2⟩,hnd,⟨hB.os,hB.tape,hB.output,hB.size,λk hk _ _=>hB.block k hk⟩,hR.ext hext, ?_⟩;obtain⟨us',h1,h2,h3,h4,val,og,h5,h6,h7⟩:=hrep;exact⟨us',h1,h2.ext hext,h3,dh h4 hn,val,og,h5,λk=>(h6 k).ext hext,h7⟩
theorem aa9{sq:Rat}{sp:fD}{s:ByteArray}{v:P2}{n:Nat}(h:0≤gy sq v (bU sp s) (bU sp s).length):(KW sq (dD sq sp s v).1 n)=KW sq sp n∧(dD sq sp s v).2=(bU sp s).getD (gy sq v (bU sp s) (bU sp s).length).toNat P0:=by
 obtain⟨_,_,h3⟩:=rW sq v (bU sp s) _ (jE _);rw[Jl,if_neg (by omega)]at h3;unfold dD;rw[h3];exact⟨rfl,rfl⟩
theorem agz{sq:Rat}{sp:fD}{s:ByteArray}{v:P2}{n:Nat}(h:gy sq v (bU sp s) (bU sp s).length<0):(KW sq (dD sq sp s v).1 (n+1))=(KW sq sp n).add s (aY v)∧(dD sq sp s v).2=v:=by
 obtain⟨_,_,h3⟩:=rW sq v (bU sp s) _ (jE _);rw[Jl,if_pos h]at h3;unfold dD;rw[h3,Y5];exact⟨rfl,rfl⟩
end Go.Sw
namespace Go.Sw
open Go Go.RowKit Go.Proofs Go.Shelf Go.Lib
set_option maxHeartbeats 2000000 in
set_option maxRecDepth 100000 in
theorem KE{P:Program}{ρ:Ren}(L:SlLaysE0.n41 P ρ)(i0:TypeInfo)(z:Value)(size bytes:Nat)(hi:P.info? (ρ.t 23)=some i0)(hz0:i0.zero=some z)(hz1:i0.size=size)(hz2:i0.bytes=bytes)(hzs:z.cells.size=size)(hsz:0<size)
 (z23:∀w,(Go.sizeOf (ρ.t 23)).run P w=.ok size w) (a:Addr) (n c:Nat) (news:List Value) (w:World) (hl:news.length=n*size) (hn:n≤maxLen) (hbig:n*bytes≤140737488355328)
 (hc:∀j u,news[j]?=some u→w.cell? (a.add j)=some u) (h1:∀u∈news,u.oneCell'=true) :
 Calls P (ρ.f 41) #[.slice (some a) n c] w λe w'=>∃v',e=.returned v'∧w'.ownsRow w.heap.size (ρ.t 23) size v' n news∧Below w.heap.size w w':=by
 have mixed:=L.mixed;have t4:=L.t4;have a4:=L.a4;have z4:=L.z4;have v4:=L.v4;have t22:=L.t22;have a22:=L.a22;have z22:=L.z22;have v22:=L.v22;have q22:∀(w:World) (a:Option Addr) (n c n' c':Nat),(binOp .eql (ρ.t 22) (.slice a n c) (.slice none n' c')).run P w=.ok (.bool a.isNone) w:=λw a n c n' c'=>Lib.run_eql_slice_nil w _ _ a n c n' c' L.t22
 have u22:∀w,Sem.run P (underlying (ρ.t 22)) w=.ok (TypeDesc.slice (ρ.t 23)) w:=run_underlying t22;have A:Aside (∀j u,news[j]?=some u→w.cell? (a.add j)=some u):=hc;clear hc;obtain⟨_,_,FG⟩:=L.f41
 go_enter FG,SlBodyN.n41_ntmps ρ
 go_wp2_with (at_builtin;refine wpList_append_own _ rfl _ _ (ρ.t 22) rfl w.heap.size (ρ.t 23) i0 z size bytes t22 hi hz0 hz1 hz2 hzs hsz _ _ _ rfl (World.ownsRow_made w #[] 0 (jE _) (rC _) (by simp)) a n c news rfl ?qc1 ?qc2 ?qc3 ?qc4 ?qc5 ?qc6 ?_)
 case qc1=>exact hl
 case qc2=>exactλj u hj=>Lib.cell?_alloc_some _ (A.out j u hj)
 case qc3=>exact h1
 case qc4=>rw[uX];exact hn
 case qc5=>rw[uX];exact hbig
 case qc6=>simp
 intro v' w1 hown hgrow hnil
 go_wp2
 go_ret
 exact⟨v',rfl,by simpa using hown,((Below.refl _ w).alloc (jE _) _).grown hgrow (by simp) (by intro k hk;simp[Value.ownBlock]at hk;omega)⟩
theorem Qy{P:Program}[Wld P]{ρ:Ren}(L:SlLaysE0.n41 P ρ)(hb:dW P (ρ.f 41)=true)(i0:TypeInfo)(z:Value){k:Nat}(hi:P.info? (ρ.t 23)=some i0)(hz0:i0.zero=some z)(hz1:i0.size=k)(hby:i0.bytes≤1000000)(hzs:z.cells.size=k)(hk:0<k)
 (z23:∀w,(Go.sizeOf (ρ.t 23)).run P w=.ok k w) {es:List (List Cell)} (hn:es.length≤1000000):Den P (ρ.f 41) [.c (.sl k es)] (.c (.sl k es)):=by
 refine Den.of ⟨hb,λw X vs hW hX hl hr=>?_⟩ rfl
 match vs,hl with
 |[u],_ =>
 have hu:RepC w X u (.sl k es):=by
  have:=hr 0 u _ rfl rfl;cases this with
  |c h=>exact h
 obtain⟨A,cap,uss,rfl,hcap,hmx,hc,hS⟩:=RepS.of_sl hu
 have hone:∀us∈uss,∀u∈us,u.oneCell'=true:=λus hu=>by
  obtain⟨j,hj,rfl⟩:=FQ hu;exact(hS.get j _ _ (jg hj) (jg (by rw[←hS.len];exact hj))).one
 have hfl:uss.flatten.length=es.length*k:=by rw[dH hS.sz,hS.len]
 cases A with
 |none =>
  have h0:uss.flatten=[]:=by
   by_cases h:uss.flatten=[]
   ·exact h
   ·obtain⟨ad,h1,_⟩:=hc h;cases h1
  rw[h0]at hfl
  have:es=[]:=by
   rcases zu es.length with h|h
   ·exact Jk h
   ·have:=Nat.mul_pos h hk;simp at hfl;omega
  subst this;refine Calls.mono (AnyE.slices_Clone_nil L _ _ w) ?_;rintro e w' ⟨rfl,rfl⟩;exact⟨_,rfl,(RepR.d (.c (RepC.nil _ _ _))).f,Below.refl _ _⟩
 |some a =>
  refine Calls.mono (KE L i0 z k i0.bytes hi hz0 hz1 rfl hzs hk z23 a es.length cap uss.flatten w hfl (by unfold maxLen;omega) (dh (PD hn hby) (by omega)) (λj u hj=>?_) (λu hu=>?_)) ?_
  ·obtain⟨ad,h1,_,_,h2⟩:=hc (λh=>by rw[h]at hj;cases hj);cases h1;exact h2 j u hj
  ·obtain⟨us,h1,h2⟩:=List.mem_flatten.1 hu;exact hone us h1 u h2
  ·rintro e w' ⟨v',rfl,hown,hB⟩;have hext:=Ext.call X hB;have hS':=hS.ext hext;refine⟨v',rfl,(RepR.d (.c ?_)).f,hB⟩;rcases hown with⟨_,⟨rfl,h0⟩|⟨g,cap',cur,rfl,h1,h2,h3,h4,h5,h6⟩⟩
   ·have:es=[]:=Jk h0;subst this;exact RepC.nil _ _ _
   ·refine RepS.sl hS' (λhne=>?_) h3 (by unfold maxLen at h4;omega)
    have hgl:g<w'.heap.size:=by
     rcases D7 g w'.heap.size with h'|h'
     ·exact h'
     ·rw[Array.getElem?_eq_none h']at h2;cases h2
    refine⟨_,rfl,hgl,λhm=>?_,λj u hj=>?_⟩
    ·have:=hX g hm;omega
    ·rw[←h6,Dw]at hj;split at hj
     ·rw[Addr.add_lit,uX,cell_of_row w' g j cur _ _ h2,←Array.getElem?_toList];exact hj
     ·cases hj
theorem RepC.sl_nil{w:World}{X:List Nat}{u:Value}{s k:Nat}(h:RepC w X u (.sl s [])):RepC w X u (.sl k []):=by
 cases h with
 |sl A n cap s uss es hn hu hc hcap hmx hs hr =>
  exact .sl A n cap k uss [] hn hu hc hcap hmx (λi us e a b=>by simp at b) (λi us e a b=>by simp at b)
theorem UN{P:Program}[Wld P]{f:FuncId}{xs:List AV}{s k:Nat}{es:List (List Cell)}{y:AV}(hn:kS xs=true)(h:s=k∨es=[])(hd:Den P f xs (.tup [.c (.sl s es),y])):Den P f xs (.tup [.c (.sl k es),y]):=by
 rcases h with rfl|rfl
 ·exact hd
 ·obtain⟨hb,hd⟩:=hd.old hn;refine Den.of ⟨hb,λw X vs hW hX hl hr=>(hd w X vs hW hX hl hr).mono ?_⟩ hn;rintro e w' ⟨u,rfl,hR,hB⟩;refine⟨u,rfl, ?_,hB⟩;obtain⟨us,vs',G,h1,h2,h3,h4⟩:=hR;rcases h1 with⟨rfl,h1⟩|⟨_,_,h1⟩
  ·cases h1;cases h4 with
   |d hd t =>
    cases hd with
    |c hc=>exact⟨_,_,G,.inl ⟨rfl,rfl⟩,h2,h3,.d (.c hc.sl_nil) t⟩
  ·cases h1
theorem DI{P:Program}[Wld P]{ρ:Ren}(L:SlLaysE0.n41 P ρ)(hb:dW P (ρ.f 41)=true)(i0:TypeInfo)(z:Value){k:Nat}(hi:P.info? (ρ.t 23)=some i0)(hz0:i0.zero=some z)(hz1:i0.size=k)(hby:i0.bytes≤1000000)(hzs:z.cells.size=k)(hk:0<k)
 (z23:∀w,(Go.sizeOf (ρ.t 23)).run P w=.ok k w) {es:List (List Cell)} (hn:es.length≤1000000):Den P (ρ.f 41) [.c (.sl k es)] (.own (ρ.t 23) k es):=by
 refine Den.of ⟨hb,λw X vs hW hX hl hr=>?_⟩ rfl
 match vs,hl with
 |[u],_ =>
 have hu:RepC w X u (.sl k es):=by
  have:=hr 0 u _ rfl rfl;cases this with
  |c h=>exact h
 obtain⟨A,cap,uss,rfl,hcap,hmx,hc,hS⟩:=RepS.of_sl hu
 have hone:∀us∈uss,∀u∈us,u.oneCell'=true:=λus hu=>by
  obtain⟨j,hj,rfl⟩:=FQ hu;exact(hS.get j _ _ (jg hj) (jg (by rw[←hS.len];exact hj))).one
 have hfl:uss.flatten.length=es.length*k:=by rw[dH hS.sz,hS.len]
 cases A with
 |none =>
  have h0:uss.flatten=[]:=by
   by_cases h:uss.flatten=[]
   ·exact h
   ·obtain⟨ad,h1,_⟩:=hc h;cases h1
  rw[h0]at hfl
  have:es=[]:=by
   rcases zu es.length with h|h
   ·exact Jk h
   ·have:=Nat.mul_pos h hk;simp at hfl;omega
  subst this;refine Calls.mono (AnyE.slices_Clone_nil L _ _ w) ?_;rintro e w' ⟨rfl,rfl⟩;exact⟨_,rfl,⟨[_],[_],[],.inr ⟨rfl,rfl,rfl⟩,by simp,List.nodup_nil,.own0 hk .nil⟩,Below.refl _ _⟩
 |some a =>
  refine Calls.mono (KE L i0 z k i0.bytes hi hz0 hz1 rfl hzs hk z23 a es.length cap uss.flatten w hfl (by unfold maxLen;omega) (dh (PD hn hby) (by omega)) (λj u hj=>?_) (λu hu=>?_)) ?_
  ·obtain⟨ad,h1,_,_,h2⟩:=hc (λh=>by rw[h]at hj;cases hj);cases h1;exact h2 j u hj
  ·obtain⟨us,h1,h2⟩:=List.mem_flatten.1 hu;exact hone us h1 u h2
  ·rintro e w' ⟨v',rfl,hown,hB⟩;refine⟨v',rfl, ?_,hB⟩;rcases hown with⟨_,⟨rfl,h0⟩|⟨g,cap',cur,rfl,h1,h2,h3,h4,h5,h6⟩⟩
   ·have:es=[]:=Jk h0;subst this;exact⟨[_],[_],[],.inr ⟨rfl,rfl,rfl⟩,by simp,List.nodup_nil,.own0 hk .nil⟩
   ·have hS':=hS.ext ((Ext.call X hB).add h1);have hcur:cur=(uss.flatten++cur.toList.drop (es.length*k)).toArray:=by rw[←h6,Nj]
    have hlen:(uss.flatten++cur.toList.drop (es.length*k)).length=cur.size:=by rw[←h6,Nj];simp
    exact⟨[_],[_],[g],.inr ⟨rfl,rfl,rfl⟩,by simpa using h1,by simp,.own hk (by rw[←hcur];exact h2) hS' (by rw[hlen];exact h5.symm) h4 h3 .nil⟩
end Go.Sw
namespace Go.Sw
open Go
def jZ(tol:Rat)(es:List Ent):List (Ent×Nat):=(dA (tol*tol) 0 [] es).es.zipIdx
def jK(tol:Rat)(es:List Ent):List (Ent×Nat):=nV (jZ tol es)
def jL(tol:Rat)(es:List Ent):List (Ent×Nat):=sV (jK tol es)
def Il(tol:Rat)(es:List Ent)(x:Nat):List Chn:=(dA (tol*tol) 0 [] es).cs++lS (jZ tol es)++SQ (jK tol es) x
theorem aaK(tol:Rat)(es:List Ent):Il tol es 0=(dA (tol*tol) 0 [] es).cs++lS (jZ tol es):=by unfold Il SQ;simp
theorem NP(tol:Rat)(es:List Ent):(jZ tol es).length=es.length:=by unfold jZ;rw[List.length_zipIdx,tC]
theorem LQ(tol:Rat)(es:List Ent):(jK tol es).length≤es.length:=by
 have:=(F8 (jZ tol es) (jZ tol es).length).1;rw[OT,NP]at this;exact this
theorem NU(tol:Rat)(es:List Ent):(jL tol es).length≤es.length:=by
 have:=(Hr (jK tol es) (jK tol es).length).1;rw[FW]at this;have h2:=LQ tol es;exact dh this h2
theorem aat{tol:Rat}{es:List Ent}(h:∀e∈es,okV e):∀x∈jZ tol es,okV x.1:=λx hx=>ac2 h _ (zip_fst hx)
theorem aaN{tol:Rat}{es:List Ent}(h:∀e∈es,okV e):∀x∈jK tol es,okV x.1:=aal (aat h)
theorem afH{tol:Rat}{es:List Ent}(h:∀e∈es,okV e):∀x∈jL tol es,okV x.1:=left_ok (aaN h)
theorem Ou{tol:Rat}{es:List Ent}(h:∀e∈es,okV e)(x:Nat):(dA (tol*tol) 0 [] es).cs.length≤2*es.length∧(lS (jZ tol es)).length≤es.length∧(Il tol es x).length≤4*es.length:=by
 have h1:=Kt (q:=dB) (sq:=tol*tol) (es:=es) (λe he=>(h e he).2.1) es.length (jE _);have h2:=O7 es es.length;rw[Cb]at h1;have h3:=(F8 (jZ tol es) (jZ tol es).length).2;rw[N9,NP]at h3;have h4:=(Hr (jK tol es) x).2;have h5:=LQ tol es;have h6:=h1.2.2.2.1;refine⟨by omega,h3, ?_⟩;unfold Il;rw[iy,iy];omega
theorem yK(tol:Rat)(es:List Ent):(aH (tol*tol) es).es=(jL tol es).map (·.1)∧(aH (tol*tol) es).cs=Il tol es (jK tol es).length++BN (jL tol es):=by
 refine⟨rfl, ?_⟩;unfold Il;rw[XV];rfl
theorem OX{tol:Rat}{es:List Ent}(h:es.length≤12)(h4:∀e∈es,okV e):(aH (tol*tol) es).cs.length≤1000:=by
 rw[(yK tol es).2];have h1:=(Ou (tol:=tol) h4 (jK tol es).length).2.2;have h2:=AA (jL tol es) (jL tol es).length (jE _);have h3:=NU tol es;rw[Oi]at h2;rw[iy];omega
theorem adD{tol:Rat}{es:List Ent}{x:Nat}(h:x<(jK tol es).length)(hb:(dY ((jK tol es).map (·.1))).getD x false=true):La (jK tol es) (x+1)=La (jK tol es) x∧Il tol es (x+1)=Il tol es x++[⟨3,((jK tol es).getD x N0).2,0,none,none⟩]:=by
 obtain⟨h1,h2⟩:=adV h hb;refine⟨h1, ?_⟩;unfold Il;rw[h2,nT,nT,nT]
theorem afA{tol:Rat}{es:List Ent}{x:Nat}(h:x<(jK tol es).length)(hb:(dY ((jK tol es).map (·.1))).getD x false=false):La (jK tol es) (x+1)=La (jK tol es) x++[(jK tol es).getD x N0]∧Il tol es (x+1)=Il tol es x:=by
 obtain⟨h1,h2⟩:=afL h hb;refine⟨h1, ?_⟩;unfold Il;rw[h2]
theorem QN{l:List (Ent×Nat)}{x:Nat}(h:x<l.length):((l.take (x+1)).map (·.1)).map aK=((l.take x).map (·.1)).map aK++[aK (l.getD x N0).1]:=by
 rw[agE h,gG];rfl
def C0:Chn:=⟨0,0,0,none,none⟩
def UF(cs:List Chn):Bool:=cs.all λc=>decide (c.kind=4)
def bdI(cs:List Chn):Int:=match L9 cs.length (λi=>if(cs.getD i C0).kind=4 then none else some i)with
 |some i=>((i:Nat):Int)
 |none=>-1
theorem abI{cs:List Chn}{x:Nat}(hx:x<cs.length)(h:∀j<x,(cs.getD j C0).kind=4)(h1:¬(cs.getD x C0).kind=4):bdI cs=(x:Nat):=by
 unfold bdI;rw[wo (x:=x) (r:=x) hx (λj hj=>by rw[if_pos (h j hj)]) (by rw[if_neg h1])]
theorem adR{cs:List Chn}(h:∀j<cs.length,(cs.getD j C0).kind=4):bdI cs = -1:=by
 unfold bdI;rw[tZ (λj hj=>by rw[if_pos (h j hj)])]
theorem afR(cs:List Chn):decide (bdI cs≥0) = !UF cs:=by
 unfold UF;cases e:L9 cs.length (λi=>if(cs.getD i C0).kind=4 then none else some i)with
 |none =>
  have h1:=Na e
  have h2:(cs.all λc=>decide (c.kind=4))=true:=by
   rw[lU];intro c hc;obtain⟨j,hj,rfl⟩:=FQ hc;have h3:=h1 j hj;have e1:cs.getD j C0=cs[j]:=by simp[pz,hj]
   rw[e1]at h3;split at h3
   ·rename_i g;simpa using g
   ·cases h3
  rw[h2];unfold bdI;rw[e];rfl
 |some i =>
  obtain⟨j,hj,h3⟩:=MW e
  have h2:(cs.all λc=>decide (c.kind=4))=false:=by
   rw[List.all_eq_false];have e1:cs.getD j C0=cs[j]:=by simp[pz,hj]
   rw[e1]at h3;split at h3
   ·cases h3
   ·rename_i g;exact⟨cs[j],DR hj,by simpa using g⟩
  rw[h2];unfold bdI;rw[e];simp
@[reducible] def Jw(x y u v:Int):Ent:=⟨1,⟨#[97]⟩,[((x:Rat),(y:Rat)),((u:Rat),(v:Rat))],⟨false,[],false,[]⟩⟩
def mg(x:Int):Prop:=-9223372036854775808≤x∧x≤9223372036854775807
theorem F6{x y u v:Int}(h1:mg x)(h2:mg y)(h3:mg u)(h4:mg v):okV (Jw x y u v)∧uO (fK (Jw x y u v)):=by
 have z1:=RH x h1.1 h1.2;have z2:=RH y h2.1 h2.2;have z3:=RH u h3.1 h3.2;have z4:=RH v h4.1 h4.2
 have hs:∀q:Rat,rz q≤4→Iu (nD q):=λq h=>by
  have e1:(lim q.num.natAbs).length≤rz q:=nC q;have e2:(lim (q.den:Int).natAbs).length≤rz q:=oM q;exact⟨by show(lim q.num.natAbs).length≤6;omega,by show(lim (q.den:Int).natAbs).length≤6;omega⟩
 refine⟨⟨.inl ⟨rfl,rfl⟩,λp hp=>?_,by show(ByteArray.mk #[97]).size≤1000;decide,by show 2≤3;decide⟩,λp hp=>?_,⟨rC 6,rC 6⟩,by show 2≤5;decide,by show(ByteArray.mk #[97]).size≤60;decide⟩
 ·have hp':p=((x:Rat),(y:Rat))∨p=((u:Rat),(v:Rat)):=by simpa using hp
  rcases hp' with rfl|rfl
  ·exact⟨dh z1 (by decide),dh z2 (by decide)⟩
  ·exact⟨dh z3 (by decide),dh z4 (by decide)⟩
 ·have hp':p=(nD (x:Rat),nD (y:Rat))∨p=(nD (u:Rat),nD (v:Rat)):=by simpa[fK]using hp
  rcases hp' with rfl|rfl
  ·exact⟨hs _ z1,hs _ z2⟩
  ·exact⟨hs _ z3,hs _ z4⟩
def aw1:List Ent:=[Jw 0 0 1000 0,Jw 1003 0 0 1000,Jw 0 1004 0 0]
def aw2:List Ent:=[Jw 0 0 2 0]
@[reducible] def aLL:List LayD:=[⟨⟨#[97]⟩,1,1000⟩]
theorem yI:(∀e∈aw1,okV e)∧∀e∈aw1,uO (fK e):=by
 have h1:=F6 (x:=0) (y:=0) (u:=1000) (v:=0) (by unfold mg;omega) (by unfold mg;omega) (by unfold mg;omega) (by unfold mg;omega);have h2:=F6 (x:=1003) (y:=0) (u:=0) (v:=1000) (by unfold mg;omega) (by unfold mg;omega) (by unfold mg;omega) (by unfold mg;omega);have h3:=F6 (x:=0) (y:=1004) (u:=0) (v:=0) (by unfold mg;omega) (by unfold mg;omega) (by unfold mg;omega) (by unfold mg;omega);constructor<;>(intro e he;simp only[aw1,rF,List.not_mem_nil,or_false]at he;rcases he with rfl|rfl|rfl)
 ·exact h1.1
 ·exact h2.1
 ·exact h3.1
 ·exact h1.2
 ·exact h2.2
 ·exact h3.2
theorem VY:(∀e∈aw2,okV e)∧∀e∈aw2,uO (fK e):=by
 have h1:=F6 (x:=0) (y:=0) (u:=2) (v:=0) (by unfold mg;omega) (by unfold mg;omega) (by unfold mg;omega) (by unfold mg;omega);constructor<;>(intro e he;simp only[aw2,rF,List.not_mem_nil,or_false]at he;subst he)
 ·exact h1.1
 ·exact h1.2
theorem S9:jD aLL (aw1.map fK)=0:=by decide +kernel
theorem adA:jD aLL (aw2.map fK)=0:=by decide +kernel
theorem VK{cs:List Chn}{l:List (Nat×Nat)}(h:(cs.map λc=>(c.kind,c.ent))=l):cs.length=l.length∧∀i,i<l.length→(cs.getD i C0).kind=(l.getD i (0,0)).1∧(cs.getD i C0).ent=(l.getD i (0,0)).2:=by
 subst h;refine⟨by simp,λi hi=>?_⟩;have hi':i<cs.length:=by simpa using hi
 simp[pz,hi']
theorem afk:((aH (((5:Int):Rat)*((5:Int):Rat)) aw1).cs.map λc=>(c.kind,c.ent))=[(1,1),(1,2)]:=by decide +kernel
theorem afC:((aH (((3:Int):Rat)*((3:Int):Rat)) aw1).cs.map λc=>(c.kind,c.ent))=[(1,1),(4,1),(4,2)]:=by decide +kernel
theorem aeS:((aH (((5:Int):Rat)*((5:Int):Rat)) aw2).cs.map λc=>(c.kind,c.ent))=[(1,0),(2,0)]:=by decide +kernel
theorem ae7:(aH (((5:Int):Rat)*((5:Int):Rat)) aw2).es.length=0:=by decide +kernel
theorem adB:UF (aH (((5:Int):Rat)*((5:Int):Rat)) aw1).cs=false:=by decide +kernel
theorem J5{n:Int}(h:0≤n)(h2:n≤100):rz (n:Rat)≤12∧¬(n:Rat)<0:=⟨dh (RH n (by omega) (by omega)) (by decide),λhn=>by
 have:=Rat.intCast_lt_intCast.1 (show((n:Int):Rat)<((0:Int):Rat)from hn)
 omega⟩
def XQ(r:Rq):Bool:=decide (r.l.length≤6)&&decide (r.m.length≤6)
theorem Ag{r:Rq}:XQ r=true↔Iu r:=by
 unfold XQ Iu;simp
theorem acC{r:Rq}(h:¬(r.l.length≤6∧r.m.length≤6)):XQ r=false:=by
 rw[←Bool.not_eq_true,Ag];exact h
def vsB(p:Rq×Rq):Bool:=XQ p.1&&XQ p.2
def zT(e:EntR):Bool:=(decide (e.pts.length≤5)&&(decide (e.layer.size≤60)&&XQ e.rad))&&e.pts.all vsB
def RU(ls:List LayD)(es:List EntR):Bool:=decide (ls.length≤25)&&(ls.all (λl=>decide (l.name.size≤60))&&es.all zT)
theorem Ad{α:Type}{l:List α}{p:α→Bool}(d:α):l.all p=true↔∀j<l.length,p (l.getD j d)=true:=by
 rw[lU];constructor
 ·intro h j hj;have:l.getD j d∈l:=by simp[List.getD,hj]
  exact h _ this
 ·intro h x hx;obtain⟨j,hj,rfl⟩:=FQ hx;have:=h j hj;simpa[List.getD,hj]using this
theorem L6{α:Type}{l:List α}{p:α→Bool}(d:α){j:Nat}(h:j<l.length)(h1:p (l.getD j d)=false):l.all p=false:=by
 rw[←Bool.not_eq_true,Ad d];intro h2;have:=h2 j h;rw[h1]at this;cases this
theorem adb{ls:List LayD}{es:List EntR}(h:¬ls.length≤25):RU ls es=false:=by unfold RU;rw[decide_eq_false h];rfl
theorem ab8{ls:List LayD}{es:List EntR}{x:Nat}(hx:x<ls.length)(h:¬(ls.getD x L0).name.size≤60):RU ls es=false:=by
 unfold RU;rw[L6 L0 hx (decide_eq_false h)];simp
theorem GY{ls:List LayD}{es:List EntR}{x:Nat}(hx:x<es.length)(h:zT (es.getD x vY)=false):RU ls es=false:=by
 unfold RU;rw[L6 vY hx h];simp
theorem afG{ls:List LayD}{es:List EntR}(h:ls.length≤25)(h1:∀j<ls.length,(ls.getD j L0).name.size≤60)(h2:∀j<es.length,zT (es.getD j vY)=true):RU ls es=true:=by
 unfold RU;rw[decide_eq_true h,(Ad vY).2 h2,(Ad L0).2 (λj hj=>decide_eq_true (h1 j hj))];rfl
theorem Nw{e:EntR}(h:¬e.pts.length≤5∨¬e.layer.size≤60∨XQ e.rad=false):zT e=false:=by
 unfold zT;rcases h with h|h|h
 ·rw[decide_eq_false h];rfl
 ·rw[decide_eq_false h];simp
 ·rw[h];simp
theorem abn{e:EntR}{k:Nat}(hk:k<e.pts.length)(h:vsB (e.pts.getD k xO)=false):zT e=false:=by
 unfold zT;rw[L6 xO hk h];simp
theorem acn{e:EntR}(h1:e.pts.length≤5)(h2:e.layer.size≤60)(h3:XQ e.rad=true)(h4:∀k<e.pts.length,vsB (e.pts.getD k xO)=true):zT e=true:=by
 unfold zT;rw[decide_eq_true h1,decide_eq_true h2,h3,(Ad xO).2 h4];rfl
theorem YT{e:EntR}(h:zT e=true):uO e:=by
 unfold zT at h;simp only[eF,decide_eq_true_eq,lU]at h;obtain⟨⟨h1,h2,h3⟩,h4⟩:=h;refine⟨λp hp=>?_,Ag.1 h3,h1,h2⟩;have:=h4 p hp;unfold vsB at this;rw[eF,Ag,Ag]at this;exact this
theorem abQ{ls:List LayD}{es:List EntR}(h:RU ls es=true):ls.length≤25∧(∀l∈ls,l.name.size≤1000)∧∀e∈es,uO e:=by
 unfold RU at h;simp only[eF,decide_eq_true_eq,lU]at h;exact⟨h.1,λl hl=>dh (h.2.1 l hl) (by decide),λe he=>YT (h.2.2 e he)⟩
def smA(ls:List LayD)(es:List EntR)(t:Rq):Bool:=(decide (es.length≤12)&&RU ls es)&&okr 3 (t.a,t.l,t.b,t.m)
theorem abL{ls:List LayD}{es:List EntR}{t:Rq}(h:smA ls es t=true):ls.length≤25∧(∀l∈ls,l.name.size≤1000)∧es.length≤12∧(∀e∈es,uO e)∧∃q:Rat,t=nD q∧rz q≤6:=by
 unfold smA okr at h;simp only[eF,decide_eq_true_eq]at h;obtain⟨⟨h1,h2⟩,h3,h4,h5⟩:=h;obtain⟨g1,g2,g3⟩:=abQ h2;refine⟨g1,g2,h1,g3,qR t,Bc h5, ?_⟩;have e:=Bc (r:=t) h5;generalize qR t=q at e;subst e;have h3':(lim q.num.natAbs).length≤3:=by have:((lim q.num.natAbs).length:Int)≤3:=h3;omega
 have h4':(lim (q.den:Int).natAbs).length≤3:=by have:((lim (q.den:Int).natAbs).length:Int)≤3:=h4;omega
 unfold rz sz;omega
def ptQ(p:P2):Prop:=dB p∧(Iu (nD p.1)∧Iu (nD p.2))∧(Nb p.1&&Nb p.2)=true
theorem Vs{ls:List LayD}{es:List EntR}{j:Nat}(h:wI ls es j=none):¬vM ls (es.getD j vY).layer<0∧o9 (es.getD j vY)=true:=by
 unfold wI at h;split at h
 ·cases h
 ·rename_i g;split at h
  ·cases h
  ·rename_i f;exact⟨g,by simpa using f⟩
theorem aaZ{es:List Ent}{e:Ent}(h:e∈es):∃j<es.length,(es.map fK).getD j vY=fK e:=by
 obtain⟨j,hj,rfl⟩:=FQ h;exact⟨j,hj,by simp[List.getD,hj]⟩
theorem Zg{es:List Ent}{j:Nat}(h:j<es.length):∃e∈es,(es.map fK).getD j vY=fK e:=⟨es[j],DR h,by simp[List.getD,h]⟩
theorem Q9{ls:List LayD}{es:List Ent}{q:Rat}(h3:es.length≤12)(h4:∀e∈es,okV e)(h5:∀e∈es,uO (fK e))(h8:jD ls (es.map fK)=0):
 (aH (q*q) es).es.length≤12∧(∀e∈(aH (q*q) es).es,okV e)∧(∀e∈(aH (q*q) es).es,uO (fK e))∧jD ls ((aH (q*q) es).es.map fK)=0:=by
 have hv:=aaL h8
 have hlen:(aH (q*q) es).es.length≤12:=by
  rw[(yK q es).1,aZ];exact dh (NU q es) h3
 have hall:∀e∈es,¬vM ls e.layer<0∧o9 (fK e)=true:=λe he=>by
  obtain⟨j,hj,e1⟩:=aaZ he;have:=Vs (hv.2.2.2 j (by rw[aZ];exact hj));rw[e1]at this;exact this
 have hq:∀e∈es,∀p∈e.pts,ptQ p:=λe he p hp=>by
  have hr:(nD p.1,nD p.2)∈(fK e).pts:=fV.2 ⟨p,hp,rfl⟩;refine⟨(h4 e he).2.1 p hp,(h5 e he).1 _ hr, ?_⟩;have h6:=(hall e he).2;unfold o9 at h6;simp only[eF,lU]at h6;have h7:=h6.2.1 _ hr;rw[zW,zW]at h7;rw[eF];exact h7
 have key:∀e'∈(aH (q*q) es).es,okV e'∧uO (fK e')∧¬vM ls e'.layer<0∧o9 (fK e')=true:=λe' he'=>by
  obtain⟨e,he,k1,k2,k3,k4,k5⟩:=Y8 hq he'
  have hl:(fK e').pts.length=(fK e).pts.length:=by
   show(e'.pts.map _).length=(e.pts.map _).length;rw[aZ,aZ,k3]
  have hb:=(hall e he).2;refine⟨⟨?_,λp hp=>(k5 p hp).1,by rw[k1];exact(h4 e he).2.2.1,by rw[k3];exact(h4 e he).2.2.2⟩,⟨λp hp=>?_, ?_, ?_, ?_⟩,by rw[k1];exact(hall e he).1, ?_⟩
  ·have:=(h4 e he).1;rw[k2,k3,k4];exact this
  ·obtain⟨u,hu,rfl⟩:=fV.1 hp;exact(k5 u hu).2.1
  ·show Iu e'.rad;rw[k4];exact(h5 e he).2.1
  ·rw[hl];exact(h5 e he).2.2.1
  ·show e'.layer.size≤60;rw[k1];exact(h5 e he).2.2.2
  ·unfold o9 at hb ⊢;simp only[eF,lU]at hb ⊢;refine⟨?_,λp hp=>?_, ?_⟩
   ·refine decide_eq_true ?_;have h6:=of_decide_eq_true hb.1;rw[hl];show e'.kind=1∧_∨e'.kind=2∧_∨e'.kind=3∧_;rw[k2];exact h6
   ·obtain⟨u,hu,rfl⟩:=fV.1 hp;have:=(k5 u hu).2.2;rw[eF]at this;rw[zW,zW];exact this
   ·have h7:=hb.2.2;simp only[G7,eF,decide_eq_true_eq]at h7 ⊢;show¬e'.kind=3∨jX e'.rad=true∧0<qR e'.rad;rw[k2,k4];exact h7
 refine⟨hlen,λe he=>(key e he).1,λe he=>(key e he).2.1,U2 ?_ hv.2.2.1 λj hj=>?_⟩
 ·rw[aZ];have:=hv.1;omega
 ·rw[aZ]at hj;obtain⟨e,he,e1⟩:=Zg hj;obtain⟨_,_,g1,g2⟩:=key e he;unfold wI;rw[e1,if_neg g1,g2];rfl
theorem acZ(ls:List LayD)(es:List EntR):¬(if jD ls es≠0 then jD ls es else 1)=0:=by
 split
 ·assumption
 ·decide
end Go.Sw
namespace Go.Sw
open Go Go.Lib Go.RowKit
end Go.Sw
namespace Go.Sw
open Go Go.Lib
end Go.Sw
namespace Go.Sw
open Go
def xX(c:Chn):Bool:=Nat.beq c.kind 2 ||(Nat.beq c.kind 5||Nat.beq c.kind 3)
def bF(cs:List Chn):List Nat:=(cs.filter xX).map (·.ent)
theorem sK(a b:List Chn):bF (a++b)=bF a++bF b:=by simp[bF]
theorem Ez{cs:List Chn}(h:∀c∈cs,c.kind=1∨c.kind=4):bF cs=[]:=by
 unfold bF;rw[List.map_eq_nil_iff,List.filter_eq_nil_iff];intro c hc;rcases h c hc with e|e<;>simp[xX,e]
theorem Cj(e:Ent):jc e=0∨jc e=2∨jc e=5:=by
 unfold jc
 repeat' split
 all_goals simp
theorem Qz(l:List (Ent×Nat)):bF (lS l)=(l.filter λx=>!(jc x.1 == 0)).map (·.2):=by
 unfold bF lS;rw[List.filter_eq_self.2,List.map_map]
 ·rfl
 ·intro c hc;obtain⟨x,hx,rfl⟩:=fV.1 hc;have h:=(Af.1 hx).2;rcases Cj x.1 with e|e|e<;>simp[xX,e]at h ⊢
theorem Vd(l:List (Ent×Nat)):bF (F9 l)=(((l.zip (dY (l.map (·.1)))).filter λx=>x.2).map (·.1)).map (·.2):=by
 unfold bF F9;rw[List.filter_eq_self.2,List.map_map,List.map_map]
 ·rfl
 ·intro c hc;obtain⟨x,hx,rfl⟩:=fV.1 hc;simp[xX]
theorem Jr{l:List (Ent×Nat)}{c:Chn}(h:c∈BN l):c.kind=4:=by
 unfold BN at h;obtain⟨i,_,h⟩:=List.mem_flatMap.1 h
 have h1:∀s n i k v,c∈wZ l s n i k v→c.kind=4:=λs n i k v h=>by
  unfold wZ at h;split at h
  ·cases h
  ·rw[uQ.1 h]
 unfold opn at h;split at h
 ·cases h
 ·split at h
  ·rcases l9.1 h with h|h<;>exact h1 _ _ _ _ _ h
  ·cases h
theorem UM(sq:Rat)(es:List Ent):bF (aH sq es).cs=bF (lS (dA sq 0 [] es).es.zipIdx)++bF (F9 (nV (dA sq 0 [] es).es.zipIdx)):=by
 show bF ((dA sq 0 [] es).cs++_++_++_)=_;rw[sK,sK,sK,Ez (λc hc => .inl ((pR sq 0 [] es).cs c hc).1),Ez (λc hc => .inr (Jr hc))];simp
theorem MZ{l s:List Nat}(h:s.Sublist l):l.Nodup→l.filter (λx=>s.contains x)=s:=by
 induction h with
 |slnil=>intro _;rfl
 |@cons s l a h ih =>
  intro hn;obtain⟨h1,h2⟩:=List.nodup_cons.1 hn;rw[List.filter_cons_of_neg (by simpa usingλg=>h1 (h.subset g))];exact ih h2
 |@cons_cons s l a h ih =>
  intro hn;obtain⟨h1,h2⟩:=List.nodup_cons.1 hn;rw[List.filter_cons_of_pos (by simp)];congr 1;rw[←ih h2];refine List.filter_congr λx hx=>?_
  have hne:x≠a:=λe=>h1 (e▸hx)
  rw[ih h2];simp[hne]
theorem WS(l:List (Ent×Nat)):((nV l).map (·.2)++bF (lS l)).Perm (l.map (·.2)):=by
 rw[Qz,←gG];exact(List.filter_append_perm (λx:Ent×Nat=>jc x.1 == 0) l).map _
theorem Ji{l:List (Ent×Nat)}:(l.zip (dY (l.map (·.1)))).map (·.1)=l:=by
 rw[List.map_fst_zip];rw[jo,aZ];exact jE _
theorem QM(l:List (Ent×Nat)):((sV l).map (·.2)++bF (F9 l)).Perm (l.map (·.2)):=by
 rw[Vd];unfold sV;rw[←gG,←gG];have h:=((List.filter_append_perm (λx:(Ent×Nat)×Bool=>!x.2) (l.zip (dY (l.map (·.1))))).map (·.1)).map (·.2);rw[Ji]at h;simpa using h
theorem Jj(l:List (Ent×Nat)):(nV l).Sublist l:=List.filter_sublist
theorem KP(l:List (Ent×Nat)):(sV l).Sublist l:=by
 have h:(sV l).Sublist ((l.zip (dY (l.map (·.1)))).map (·.1)):=List.filter_sublist.map _
 rwa [Ji]at h
theorem Iw(es:List Ent):es.zipIdx.map (·.2)=List.range es.length:=by
 rw[List.zipIdx_map_snd,List.range_eq_range']
theorem IZ(tol:Rat)(es:List Ent):((jL tol es).map (·.2)++bF (aH (tol*tol) es).cs).Perm (List.range es.length):=by
 rw[UM];have h1:=WS (jZ tol es);have h2:=QM (jK tol es)
 have h3:(jZ tol es).map (·.2)=List.range es.length:=by
  unfold jZ;rw[Iw,tC]
 rw[h3]at h1;refine List.Perm.trans ?_ h1;refine List.Perm.trans ?_ (List.Perm.append_right _ h2);rw[nT];exact List.Perm.append_left _ List.perm_append_comm
theorem Ti(tol:Rat)(es:List Ent):(bF (aH (tol*tol) es).cs).Nodup∧(∀i∈bF (aH (tol*tol) es).cs,i<es.length)∧(aH (tol*tol) es).es.length+(bF (aH (tol*tol) es).cs).length=es.length:=by
 have h:=IZ tol es;refine⟨?_,λi hi=>?_, ?_⟩
 ·exact(List.nodup_append.1 (h.nodup_iff.2 List.nodup_range)).2.1
 ·exact List.mem_range.1 (h.subset (qC _ hi))
 ·have h2:=h.length_eq;rw[iy,aZ,List.length_range]at h2;rw[(yK tol es).1,aZ];exact h2
def dR(g:List Nat)(x:Nat):List Nat:=(List.range x).filter λi=>!g.contains i
theorem C9(g:List Nat)(x:Nat):dR g (x+1)=dR g x++(if g.contains x=true then[]else[x]):=by
 unfold dR;rw[List.range_succ,XP];congr 1;cases h:g.contains x<;>simp[h]<;>simpa using h
theorem TM(tol:Rat)(es:List Ent):dR (bF (aH (tol*tol) es).cs) es.length=(jL tol es).map (·.2):=by
 have hp:=IZ tol es;have hn:=List.nodup_append.1 (hp.nodup_iff.2 List.nodup_range)
 have hs:((jL tol es).map (·.2)).Sublist (List.range es.length):=by
  have h3:(jZ tol es).map (·.2)=List.range es.length:=by
   unfold jZ;rw[Iw,tC]
  rw[←h3];exact((KP _).trans (Jj _)).map _
 unfold dR;rw[←MZ hs List.nodup_range];refine List.filter_congr λx hx=>?_
 have hm:=hp.mem_iff.2 hx;rw[l9]at hm
 by_cases h1:x∈(jL tol es).map (·.2)
 ·have h2:x ∉ bF (aH (tol*tol) es).cs:=λh=>hn.2.2 x h1 x h rfl
  simp only[List.contains_eq_mem,h1,h2,decide_true,decide_false,Bool.not_false]
 ·have h2:=hm.resolve_left h1;simp only[List.contains_eq_mem,h1,h2,decide_true,decide_false,Bool.not_true]
theorem aed{tol:Rat}{es:List Ent}{k:Nat}{i:Nat}(h:((jL tol es).map (·.2))[k]?=some i):∃e,(aH (tol*tol) es).es[k]?=some e∧(dA (tol*tol) 0 [] es).es[i]?=some e:=by
 rw[zQ]at h;obtain⟨x,hx,rfl⟩:=Option.map_eq_some_iff.1 h;refine⟨x.1, ?_, ?_⟩
 ·rw[(yK tol es).1,zQ,hx];rfl
 ·have h1:x∈jZ tol es:=((KP _).trans (Jj _)).subset (LV hx);unfold jZ at h1;have:=List.mem_zipIdx_iff_getElem?.1 h1;exact this
theorem Yn{tol:Rat}{es:List Ent}{c:Chn}(hc:c∈(aH (tol*tol) es).cs)(hk:c.kind=1){k:Nat}(h:((jL tol es).map (·.2))[k]?=some c.ent):
 ∃e w,(aH (tol*tol) es).es[k]?=some e∧(bH e)[c.fin]?=some w∧c.dst=some w:=by
 obtain⟨e,h1,h2⟩:=aed h
 have hj:c∈(dA (tol*tol) 0 [] es).cs:=by
  have hr:(aH (tol*tol) es).cs=(dA (tol*tol) 0 [] es).cs++lS (jZ tol es)++F9 (jK tol es)++BN (jL tol es):=rfl;rw[hr]at hc;rcases l9.1 hc with hc|hc
  ·rcases l9.1 hc with hc|hc
   ·rcases l9.1 hc with hc|hc
    ·exact hc
    ·unfold lS at hc;obtain⟨x,hx,rfl⟩:=fV.1 hc;have hx:=(Af.1 hx).2;rcases Cj x.1 with e|e|e<;>simp[e]at hx hk
   ·unfold F9 at hc;obtain⟨x,_,rfl⟩:=fV.1 hc;cases hk
  ·have:=Jr hc;omega
 obtain⟨_,j,e0,e',q,v,w,g1,g2,g3,g4,g5,g6,g7,g8,_⟩:=(pR (tol*tol) 0 [] es).cs c hj;have hij:c.ent=j:=by omega
 rw[hij]at h2;rw[g3]at h2;cases h2;exact⟨e,w,h1,by rw[g4];exact g6,g8⟩
end Go.Sw
namespace Go.Sw
open Go Go.RowKit
open Go.WideElems (rd rg pl)
def vF(k:Nat):Lit:=.int .i64 (k:Nat)
def uS(ks:List Nat):DataW Value:=Maps.setOf (.lit (.bool true)) (ks.map vF)
theorem A8(k:Nat):WideAt.IsKeyLit (vF k):=trivial
theorem Jm{a b:Nat}(h:vF a=vF b):a=b:=by
 unfold vF at h;injection h with _ h
 exact Int.ofNat.inj h
theorem vH(ks:List Nat)(x:Nat):uS (ks++[x])=(uS ks).put (vF x) (.lit (.bool true)):=by
 unfold uS;rw[gG,List.map_singleton,Maps.setOf_snoc]
theorem JO{ks:List Nat}:∀x∈ks.map vF,WideAt.IsKeyLit x:=λx hx=>by
 obtain⟨k,_,rfl⟩:=fV.1 hx;exact A8 k
theorem Dc(ks:List Nat):Maps.Tidy (uS ks):=Maps.tidy_setOf _ _ JO
theorem EF(ks:List Nat)(x:Nat):Maps.has (uS ks) (vF x)=ks.contains x:=by
 unfold uS;rw[Maps.has_setOf _ _ _ JO,List.any_map,List.contains_eq_any_beq];congr 1
 funext y
 show(vF y).sameKey (vF x)=(x == y)
 by_cases h:y=x
 ·subst h;rw[WideAt.sameKey_self (A8 y)];simp
 ·rw[Maps.sameKey_ne (λe=>h (Jm e))];exact(beq_eq_false_iff_ne.2 (λe=>h e.symm)).symm
theorem EO{α:Type}{p:List α→Prop}(h0:p [])(h1:∀l x,p l→p (l++[x])):∀l,p l:=by
 intro l;have:=List.reverse_reverse l;rw[←this];induction l.reverse with
 |nil=>exact h0
 |cons x r ih=>rw[List.reverse_cons];exact h1 _ _ ih
theorem Wj(ks:List Nat)(x:Nat):(uS ks).atKey (vF x) (.lit (.bool false))=.lit (.bool (ks.contains x)):=by
 induction ks using EO with
 |h0=>exact Maps.atKey_of_not_has (EF [] x) _
 |h1 l y ih =>
  rw[vH]
  by_cases h:y=x
  ·subst h;rw[Maps.atKey_put_same (Dc l).isMap (A8 y)];simp
  ·rw[Maps.atKey_put_other (λe=>h (Jm e).symm),ih];have:(x == y)=false:=beq_eq_false_iff_ne.2 (λe=>h e.symm);simp only[List.contains_eq_any_beq,List.any_append,List.any_cons,List.any_nil,this,Bool.or_false]
theorem LX{ks:List Nat}(h:ks.Nodup):Maps.size (uS ks)=ks.length:=by
 induction ks using EO with
 |h0=>rfl
 |h1 l y ih =>
  have h2:=List.nodup_append.1 h;have hy:y ∉ l:=λhy=>h2.2.2 y hy y (by simp) rfl
  rw[vH,Maps.size_put (Dc l),EF];have:l.contains y=false:=by simpa using hy
  rw[this,ih h2.1];simp
def iQ(P:Program)(kT eT:TypeId)(g0:Nat)(ks:List Nat):Gho where
 rep:=λ_ _ _ more mo=>more=[]∧mo.1=g0∧Go.WideElems.Fit P kT (plainElem (H:=Value) P eT) mo.2.1 mo.2.2∧mo.2.1.size≤ks.length∧uS ks=.map ((mo.2.1.toList.map (rg P kT (plainElem (H:=Value) P eT))).foldr DataW.insert [])
 ext:=λh _=>h
def OwnsK(P:Program)(kT eT:TypeId)(w:World)(g0:Nat)(ks:List Nat):Prop:=w.ownsMap P kT (plainElem (H:=Value) P eT) g0 ks.length (uS ks)
section
variable {P:Program} {kT eT:TypeId} {g0:Nat} {ks:List Nat} {w:World}
theorem OwnsK.look{mT:TypeId}(h:OwnsK P kT eT w g0 ks)(hk:P.underlying kT=some (.int .i64))(hm:P.underlying mT=some (.map kT eT))(he:P.underlying eT=some .bool)(hz:(zeroValue eT).run P w=.ok (.bool false) w){x:Nat}(hx:x≤1000000):
 (Instr.lookup mT (.map (some g0)) (.int .i64 (x:Nat)) false).run P w=.ok (.bool (ks.contains x)) w:=by
 have hkey:keyOf P kT (.int .i64 (x:Nat))=some (vF x):=by
  have hw:(Lit.int .i64 (x:Nat)).wf=true:=by
   have h1:(x:Int)≤1000000:=by omega
   have h2:(0:Int)≤x:=by omega
   generalize(x:Int)=z at h1 h2;simp only[Lit.wf,IntKind.min,IntKind.max,IntKind.bits,IntKind.signed,eF,decide_eq_true_eq];simp;omega
  simp[keyOf,hk,mapKey,vF];exact hw
 obtain⟨v,ps,h1,h2⟩:=World.ownsMap.lookup h (Maps.int_keyed hk) hm hz (plainElem_bool he false) hkey;rw[Wj]at h2;rw[h1]
 have hv:∃y,v=.bool y:=by
  unfold plainElem at h2;rw[he]at h2;cases v<;>first|exact⟨_,rfl⟩|(simp at h2;done)
 obtain⟨y,rfl⟩:=hv;rw[plainElem_bool he]at h2;simp only[nU,nH,DataW.lit.injEq,Lit.bool.injEq]at h2;rw[h2.1]
theorem OwnsK.len{mT:TypeId}(h:OwnsK P kT eT w g0 ks)(hm:P.underlying mT=some (.map kT eT))(hn:ks.Nodup)(ty:TypeId):(Builtin.len_ #[mT] ty #[.map (some g0)]).run P w=.ok (.int .i64 (ks.length:Nat)) w:=by
 have:=World.ownsMap.len h hm ty
 rwa [LX hn]at this
theorem ahQ(hk:P.underlying kT=some (.int .i64)){x:Nat}(hx:x≤1000000):keyOf P kT (.int .i64 (x:Nat))=some (vF x):=by
 have hw:(Lit.int .i64 (x:Nat)).wf=true:=by
  have h1:(x:Int)≤1000000:=by omega
  have h2:(0:Int)≤x:=by omega
  generalize(x:Int)=z at h1 h2;simp only[Lit.wf,IntKind.min,IntKind.max,IntKind.bits,IntKind.signed,eF,decide_eq_true_eq];simp;omega
 simp[keyOf,hk,mapKey,vF];exact hw
theorem OwnsK.put{mT:TypeId}(h:OwnsK P kT eT w g0 ks)(hk:P.underlying kT=some (.int .i64))(hm:P.underlying mT=some (.map kT eT))(he:P.underlying eT=some .bool)(hn:ks.length<1000000){x:Nat}(hx:x≤1000000):
 ∃w',(Instr.mapUpdate mT (.map (some g0)) (.int .i64 (x:Nat)) (.bool true)).run P w=.ok () w'∧OwnsK P kT eT w' g0 (ks++[x])∧w.mapTurned w' g0:=by
 obtain⟨w',h1,h2,h3⟩:=World.ownsMap.store h (Maps.int_keyed hk) hm (by unfold maxLen;omega) (ahQ hk hx) (plainElem_bool (H:=Value) he true);refine⟨w',h1, ?_,h3⟩;unfold OwnsK;rw[vH,iy];exact h2
end
section
variable {P:Program} {kT eT:TypeId} {g0:Nat} {ks:List Nat} [Kp] {N:Nat} {w0:World} {X0:List Nat} {e:Env} {b:aN} {a:Act} {w:World} {i:Nat}
theorem Conc.gh_owns(h:Conc N w0 X0 e b a w)(hb:ld i b=some (.gh (iQ P kT eT g0 ks))):OwnsK P kT eT w g0 ks:=by
 obtain⟨S,M,h⟩:=h;obtain⟨m,hm,h1,h2,⟨g,hg⟩,x,hx,hr⟩:=h.box i _ hb;obtain⟨r1,r2,r3,r4,r5⟩:=hr;obtain⟨_,k2,k3,_⟩:=h.ms.gh.inS i m x hm hx;rw[r2]at k2;exact⟨_,_,k2,r3,r4,r5⟩
theorem Conc.gh_turn(h:Conc N w0 X0 e b a w)(hb:ld i b=some (.gh (iQ P kT eT g0 ks))){w':World}{ks':List Nat}(ho:OwnsK P kT eT w' g0 ks')(ht:w.mapTurned w' g0):Conc N w0 X0 e ((i,.gh (iQ P kT eT g0 ks'))::b) a w':=by
 obtain⟨S,M,h⟩:=h;obtain⟨m,hm,h1,h2,⟨g,hg⟩,x,hx,hr⟩:=h.box i _ hb;obtain⟨r1,r2,r3,r4,r5⟩:=hr;obtain⟨k1,k2,k3,k4⟩:=h.ms.gh.inS i m x hm hx;obtain⟨mo,g1,es,ck⟩:=x;simp only at r1 r2 r3 r4 r5 k1 k2 k3 k4;subst r1 r2;obtain⟨es',ck',hmap,hF,hs,hD⟩:=ho;obtain⟨esA,ckA,esB,ckB,hA,hB⟩:=ht;have hgr:=World.mapTurned.grown ⟨esA,ckA,esB,ckB,hA,hB⟩;have hoth:∀k,k<w.heap.size→k≠g1→w'.heap[k]?=w.heap[k]?:=λk hk hn=>hgr.block k hk (λe=>by cases e;exact hn rfl)
 have hext:∀X,Ext w X w' X:=λX=>⟨hgr.size,λk hk hX hn=>⟨hoth k hk (λe=>by subst e;exact hn _ _ hA),hX⟩⟩
 have hset:∀c mc,M.set i { m with gx:=some ([],g1,es',ck') } c=some mc→(c=i∧mc = { m with gx:=some ([],g1,es',ck') })∨(c≠i∧M c=some mc):=λc mc hc=>by
  by_cases hci:c=i
  ·subst hci;rw[MM.set_same]at hc;cases hc;exact .inl ⟨rfl,rfl⟩
  ·rw[MM.set_other _ _ hci]at hc;exact .inr ⟨hci,hc⟩
 have hown:∀c mc,M.set i { m with gx:=some ([],g1,es',ck') } c=some mc→∃m2,M c=some m2∧mc.own=m2.own∧mc.g=m2.g∧mc.T=m2.T∧mc.us=m2.us:=λc mc hc=>by
  rcases hset c mc hc with⟨rfl,rfl⟩|⟨_,h5⟩
  ·exact⟨m,hm,rfl,rfl,rfl,rfl⟩
  ·exact⟨mc,h5,rfl,rfl,rfl,rfl⟩
 have hgx:∀c mc x,M.set i { m with gx:=some ([],g1,es',ck') } c=some mc→mc.gx=some x→∃m2 x2,M c=some m2∧m2.gx=some x2∧x.1=x2.1∧x.2.1=x2.2.1:=λc mc x hc hx'=>by
  rcases hset c mc hc with⟨rfl,rfl⟩|⟨_,h5⟩
  ·simp only[nU]at hx';subst hx';exact⟨m,_,hm,hx,rfl,rfl⟩
  ·exact⟨mc,x,h5,hx',rfl,rfl⟩
 have hne:∀q∈S,q.1≠g1:=λq hq e=>by
  have:=(h.ms.st.box q hq).1;rw[e,k2]at this;cases this
 have hcomp:∀d m1,M d=some m1→∃m2,M.set i { m with gx:=some ([],g1,es',ck') } d=some m2∧Comp m1 m2:=λd m1 hd=>by
  by_cases hdi:d=i
  ·subst hdi;rw[hm]at hd;cases hd;exact⟨_,MM.set_same _ _ _,⟨rfl,λ_=>rfl,λ_ => .inl ⟨rfl,rfl,rfl,rfl⟩⟩⟩
  ·exact⟨m1,by rw[MM.set_other _ _ hdi];exact hd,Comp.refl m1⟩
 refine⟨S,M.set i { m with gx:=some ([],g1,es',ck') },⟨⟨⟨hgr.os.trans h.ms.st.below.os,hgr.tape.trans h.ms.st.below.tape,hgr.output.trans h.ms.st.below.output,dh h.ms.st.below.size hgr.size,λk hk hn=>(hoth k (AX hk h.ms.st.below.size) (by omega)).trans (h.ms.st.below.block k hk hn)⟩,λq hq=>⟨(hoth q.1 (h.ms.st.lt hq) (hne q hq)).trans (h.ms.st.box q hq).1,(h.ms.st.box q hq).2⟩,h.ms.st.nd⟩,⟨?_, ?_, ?_⟩, ?_, ?_⟩,h.x0,h.sz,⟨h.df.1,h.df.2.ext (hext _)⟩,λt v hv=>(h.env t v hv).ext (hext _) λd _ m1 hd=>hcomp d m1 hd,λc x hx'=>?_⟩
 ·intro c mc x hc hx';rcases hset c mc hc with⟨rfl,rfl⟩|⟨hci,h5⟩
  ·simp only[nU]at hx';subst hx';exact⟨λq hq=>(by cases hq),hmap,k3,List.Pairwise.nil⟩
  ·obtain⟨l1,l2,l3,l4⟩:=h.ms.gh.inS c mc x h5 hx';have hg1:x.2.1≠g1:=λe=>hci (h.ms.gh.uni c mc x i m _ h5 hx' hm hx (.inl e))
   exact⟨l1,(hoth _ (lt_of_heap l2) hg1).trans l2,l3,l4⟩
 ·intro c mc x c' mc' g' hc hx' hc' ho' hg' q hq;obtain⟨m2,x2,e1,e2,e3,e4⟩:=hgx c mc x hc hx';obtain⟨m3,f1,f2,f3,_⟩:=hown c' mc' hc';rw[e3]at hq;exact h.ms.gh.own c m2 x2 c' m3 g' e1 e2 f1 (f2▸ho') (f3▸hg') q hq
 ·intro c mc x c' mc' x' hc hx1 hc' hx2 he;obtain⟨m2,y,e1,e2,e3,e4⟩:=hgx c mc x hc hx1;obtain⟨m3,y',f1,f2,f3,f4⟩:=hgx c' mc' x' hc' hx2;rw[e3,e4,f3,f4]at he;exact h.ms.gh.uni c m2 y c' m3 y' e1 e2 f1 f2 he
 ·intro c mc hc ho' gc hgc;obtain⟨m2,e1,e2,e3,e4,e5⟩:=hown c mc hc;rw[e4,e5];exact h.ms.inS c m2 e1 (e2▸ho') gc (e3▸hgc)
 ·intro c c' mc mc' gc hc hc' ho' ho2 hgc hgc';obtain⟨m2,e1,e2,e3,_⟩:=hown c mc hc;obtain⟨m3,f1,f2,f3,_⟩:=hown c' mc' hc';exact h.ms.inj c c' m2 m3 gc e1 f1 (e2▸ho') (f2▸ho2) (e3▸hgc) (f3▸hgc')
 ·by_cases hci:i=c
  ·subst hci;rw[aO]at hx';cases hx';exact⟨_,MM.set_same _ _ _,h1,h2,⟨g,hg⟩,_,rfl,rfl,rfl,hF,hs,hD⟩
  ·rw[aX _ _ hci]at hx';obtain⟨m1,q1,q2⟩:=h.box c x hx';exact⟨m1,by rw[MM.set_other _ _ (λe=>hci e.symm)];exact q1,q2.ext (hext _) λd _ mc hmc=>hcomp d mc hmc⟩
theorem Conc.gh_new(h:Conc N w0 X0 e b a w){cs:List Cell}(hb:ld i b=some (.var cs)):Conc N w0 X0 e ((i,.gh (iQ P kT eT w.heap.size []))::b) a (w.alloc (.map #[] 0)):=by
 obtain⟨S,M,h⟩:=h;obtain⟨m,hm,h1,h2,⟨g,hg⟩,h4⟩:=h.box i _ hb;have hnew:(w.alloc (.map #[] 0)).heap[w.heap.size]?=some (.map #[] 0):=heap_alloc_new w _
 have hfr:∀c mc x,M c=some mc→mc.gx=some x→x.2.1≠w.heap.size:=λc mc x hc hx e=>by
  have:=lt_of_heap (h.ms.gh.inS c mc x hc hx).2.1;omega
 have hx:=Ext.alloc_ w (bl S++X0) (.map #[] 0);have hms:=(h.ms.alloc_ (.map #[] 0)).setG hm hnew h.ms.st.below.size hfr
 have hcomp:∀d m1,M d=some m1→∃m2,M.set i { m with gx:=some ([],w.heap.size,#[],0) } d=some m2∧Comp m1 m2:=λd m1 hd=>by
  by_cases hdi:d=i
  ·subst hdi;rw[hm]at hd;cases hd;exact⟨_,MM.set_same _ _ _,⟨rfl,λ_=>rfl,λ_ => .inl ⟨rfl,rfl,rfl,rfl⟩⟩⟩
  ·exact⟨m1,by rw[MM.set_other _ _ hdi];exact hd,Comp.refl m1⟩
 refine⟨S,_,hms,h.x0,h.sz,⟨h.df.1,h.df.2.ext hx⟩,λt v hv=>(h.env t v hv).ext hx λd _ m1 hd=>hcomp d m1 hd,λc x hx'=>?_⟩
 by_cases hci:i=c
 ·subst hci;rw[aO]at hx';cases hx';obtain⟨es,ck,q1,q2,q3,q4⟩:=World.ownsMap_made w P kT (plainElem (H:=Value) P eT);rw[hnew]at q1;cases q1;exact⟨_,MM.set_same _ _ _,h1,h2,⟨g,hg⟩,_,rfl,rfl,rfl,q2,jE _,q4⟩
 ·rw[aX _ _ hci]at hx';obtain⟨m1,q1,q2⟩:=h.box c x hx';exact⟨m1,by rw[MM.set_other _ _ (λe=>hci e.symm)];exact q1,q2.ext hx λd _ mc hmc=>hcomp d mc hmc⟩
end
section
variable {P:Program} {ops:Array Oper} {Q:Exit→Act→World→Prop} {a:Act} {w w':World}
theorem afe{o:Oper}{rest:List Oper}{u:Value}{j:Nat}{p:Bool}{L:List (Nat×Value)}{N:Nat}(hF:Frm N a L)(hs:said ops L j=some p)(hg:o.guard=some (j,p))(hr:(execOp a.eval o).run P w=.ok (.value u) w')(k:wpList P ops Q rest (a.put o.dst u) w'):wpList P ops Q (o::rest) a w:=by
 unfold wpList;rw[if_pos (by simp[Region.wanted,hg,mY hF hs])];refine .inl ?_;unfold Oper.wp;rw[hr];exact k
theorem Y6{ρ:Operand→Value}{d:Option Tmp}{ty mT:TypeId}{pos:String}{af:Array Edge}{gd:Option (Nat×Bool)}{x:Operand}{v u:Value}(hx:ρ x=v)(h:(Builtin.len_ #[mT] ty #[v]).run P w=.ok u w):(execOp ρ ⟨d,.call ⟨.builtin .len,#[x],#[mT]⟩,ty,pos,af,gd⟩).run P w=.ok (.value u) w:=by
 have hu : #[x].map ρ = #[v]:=by simp[hx]
 simp only[execOp,resolve,invoke,builtin,hu,Sem.run_bind,Sem.run_pure,Result.andThen_ok];rw[h];simp
end
section
variable {P:Program} {kT eT:TypeId} {g0:Nat} {ks:List Nat} {K:Kp} {N:Nat} {w0:World} {X0:List Nat} {e:Env} {b:aN} {a:Act} {w:World} {i:Nat}
theorem Conc.frmK(h : @Conc K wQ N w0 X0 e b a w):Frm N a []:=by letI:Kp:=K;exact Conc.frm h
theorem Conc.getK(h : @Conc K wQ N w0 X0 e b a w){t:Nat}{u:Value}(hx:ld t e=some (.c (.v u)))(hv:∀A n c,u ≠ .slice A n c):a.tmps.getD t undef=u:=by letI:Kp:=K;exact Conc.get h hx hv
theorem Conc.kpK(h : @Conc K wQ N w0 X0 e b a w){t:Nat}{u:Value}(ht:(t,u)∈K.l):a.tmps.getD t undef=u:=by letI:Kp:=K;exact Conc.kp h ht
theorem Conc.putAK(h : @Conc K wQ N w0 X0 e b a w){t:Nat}{u:Value}(ht : @DL K N t):@Conc K wQ N w0 X0 ((t,.any)::e) b (a.put (some t) u) w:=by letI:Kp:=K;exact Conc.putA h ht
theorem Conc.putDK(h : @Conc K wQ N w0 X0 e b a w){t:Nat}{u:Value}{v:AV}(ht : @DL K N t)(hd:RepD w0 X0 u v):@Conc K wQ N w0 X0 ((t,v)::e) b (a.put (some t) u) w:=by letI:Kp:=K;exact Conc.putD h ht hd
theorem Conc.subK{e':Env}{b':aN}(h : @Conc K wQ N w0 X0 e' b' a w)(he:SubE e e')(hb:SubB b b'):@Conc K wQ N w0 X0 e b a w:=by letI:Kp:=K;exact Conc.sub h he hb
theorem Conc.gh_ownsK(h : @Conc K wQ N w0 X0 e b a w)(hb:ld i b=some (.gh (iQ P kT eT g0 ks))):OwnsK P kT eT w g0 ks:=by letI:Kp:=K;exact Conc.gh_owns h hb
theorem Conc.gh_turnK(h : @Conc K wQ N w0 X0 e b a w)(hb:ld i b=some (.gh (iQ P kT eT g0 ks))){w':World}{ks':List Nat}(ho:OwnsK P kT eT w' g0 ks')(ht:w.mapTurned w' g0):@Conc K wQ N w0 X0 e ((i,.gh (iQ P kT eT g0 ks'))::b) a w':=by letI:Kp:=K;exact Conc.gh_turn h hb ho ht
end
end Go.Sw
namespace Go.Sw
open Go
section
variable {cf cg ct cu bf bg bt bu x y:Rat} {cfz ctz cr bfz btz br:Int}
end
end Go.Sw
namespace Go.Sw
open Go
section
variable {a b c d m n e f:Rat}
end
structure Cut7 where
 fx:Int
 fy:Int
 fz:Int
 tx:Int
 ty:Int
 tz:Int
 r:Int
end Go.Sw
namespace Go.Sw
open Go
end Go.Sw
namespace Go.Sw
open Go
section
variable {cf cg ct cu bf bg bt bu x y:Rat} {cfz ctz cr bfz btz br:Int}
end
end Go.Sw
namespace Go.Sw
open Go
section
variable {a b c d e f m n:Rat}
end
end Go.Sw
namespace Go.Sw
open Go
end Go.Sw
namespace Go.Sw
open Go
section
variable {x y:Rat} {L:List Cut7} {o:Rt} {k:Nat}
end
end Go.Sw
namespace Go.Sw
open Go Go.RowKit
theorem all_map{α:Type}{f:α→List Cell}{p:α→Prop}:∀{es:List (List Cell)},(∀x∈es,∃a,p a∧x=f a)→∃L:List α,L.length=es.length∧(∀a∈L,p a)∧es=L.map f
 |[],_=>⟨[],rfl,λa h=>by simp at h,rfl⟩
 |e::r,h=>by
  obtain⟨a,ha,rfl⟩:=h e (by simp);obtain⟨L,l1,l2,l3⟩:=all_map (es:=r) λx hx=>h x (by simp[hx])
  exact⟨a::L,by simp[l1],λb hb=>by rcases rF.1 hb with rfl|hb;exact ha;exact l2 b hb,by simp[l3]⟩
abbrev afr:TS:=.cons .bool (.cons (.slice (.int .u32)) .nil)
abbrev aag:TS:=.cons afr (.cons afr .nil)
abbrev ab1:TS:=.cons aag (.cons aag .nil)
abbrev aa6:TS:=.cons (.int .i64) (.cons .str (.cons (.slice ab1) (.cons aag .nil)))
abbrev afd:TS:=.cons .str (.cons (.int .i64) (.cons (.int .i64) .nil))
theorem Gj{cs:List Cell}(h:Fit aag cs):∃r:Rq,cs=YI r:=by
 obtain⟨_,_,⟨_,_,⟨a,rfl⟩,⟨_,_,h1,rfl,rfl⟩,rfl⟩,⟨_,_,⟨_,_,⟨b,rfl⟩,⟨_,_,h2,rfl,rfl⟩,rfl⟩,rfl,rfl⟩,rfl⟩:=h;obtain⟨l,_,_,rfl⟩:=EU h1;obtain⟨m,_,_,rfl⟩:=EU h2;exact⟨⟨a,l,b,m⟩,rfl⟩
theorem ZN{cs:List Cell}(h:Fit ab1 cs):∃p:Rq×Rq,cs=xE p:=by
 obtain⟨_,_,h1,⟨_,_,h2,rfl,rfl⟩,rfl⟩:=h;obtain⟨r,rfl⟩:=Gj h1;obtain⟨s,rfl⟩:=Gj h2;exact⟨(r,s),rfl⟩
theorem Vr{cs:List Cell}(h:Fit (.slice ab1) cs):∃l:List (Rq×Rq),cs=[.sl 8 (l.map xE)]:=by
 obtain⟨es,h1,h2,rfl⟩:=h
 obtain⟨L,l1,l2,l3⟩:=all_map (f:=xE) (p:=λ_=>True) (es:=es) λx hx=>by
  obtain⟨p,rfl⟩:=ZN (h2 x hx);exact⟨p,trivial,rfl⟩
 exact⟨L,by rw[l3];rfl⟩
theorem ZT{cs:List Cell}(h:Fit aa6 cs):∃e:EntR,cs=dV e∧-9223372036854775808≤e.kind∧e.kind≤9223372036854775807:=by
 obtain⟨_,_,⟨k,wk,rfl⟩,⟨_,_,⟨s,_,rfl⟩,⟨_,_,h1,⟨_,_,h2,rfl,rfl⟩,rfl⟩,rfl⟩,rfl⟩:=h;obtain⟨l,rfl⟩:=Vr h1;obtain⟨r,rfl⟩:=Gj h2;exact⟨⟨k,s,l,r⟩,rfl,aeA wk⟩
theorem Vl{cs:List Cell}(h:Fit (.slice afd) cs):∃l:List LayD,cs=[.sl 3 (l.map aS)]:=by
 obtain⟨es,h1,h2,rfl⟩:=h
 obtain⟨L,l1,l2,l3⟩:=all_map (f:=aS) (p:=λ_=>True) (es:=es) λx hx=>by
  obtain⟨_,_,⟨s,_,rfl⟩,⟨_,_,⟨k,_,rfl⟩,⟨_,_,⟨d,_,rfl⟩,rfl,rfl⟩,rfl⟩,rfl⟩:=h2 x hx;exact⟨⟨s,k,d⟩,trivial,rfl⟩
 exact⟨L,by rw[l3];rfl⟩
theorem VG{cs:List Cell}(h:Fit (.slice aa6) cs):∃l:List EntR,cs=[.sl 7 (l.map dV)]:=by
 obtain⟨es,h1,h2,rfl⟩:=h
 obtain⟨L,l1,l2,l3⟩:=all_map (f:=dV) (p:=λ_=>True) (es:=es) λx hx=>by
  obtain⟨e,rfl,_⟩:=ZT (h2 x hx);exact⟨e,trivial,rfl⟩
 exact⟨L,by rw[l3];rfl⟩
theorem Yt{cs:List Cell}(h:Fit (.cons (.slice afd) (.cons (.slice aa6) .nil)) cs):∃(ls:List LayD) (es:List EntR),cs=[.sl 3 (ls.map aS),.sl 7 (es.map dV)]:=by
 obtain⟨_,_,h1,⟨_,_,h2,rfl,rfl⟩,rfl⟩:=h;obtain⟨ls,rfl⟩:=Vl h1;obtain⟨es,rfl⟩:=VG h2;exact⟨ls,es,rfl⟩
theorem Fb{α β:Type}{f g:α→β}:∀{xs:List α} {j:Nat} {u:β},(xs.flatMap λp=>[f p,g p])[j]?=some u→∃i p,xs[i]?=some p∧((j=2*i∧u=f p)∨(j=2*i+1∧u=g p))
 |[],j,u,h=>by simp at h
 |x::r,0,u,h=>by
  simp at h;exact⟨0,x,rfl,.inl ⟨rfl,h.symm⟩⟩
 |x::r,1,u,h=>by
  simp at h;exact⟨0,x,rfl,.inr ⟨rfl,h.symm⟩⟩
 |x::r,j+2,u,h=>by
  have h':(r.flatMap λp=>[f p,g p])[j]?=some u:=by simpa using h
  obtain⟨i,p,h1,h2⟩:=Fb h'
  exact⟨i+1,p,by simpa using h1,by
   rcases h2 with⟨rfl,rfl⟩|⟨rfl,rfl⟩
   ·exact .inl ⟨by omega,rfl⟩
   ·exact .inr ⟨by omega,rfl⟩⟩
theorem aac{P:Program}{W:World}{l:List (String×DataW Unit)}{nm:String}{xs:List (ByteArray×Int)}{g:Nat}{t e:TypeId}{f0 f1:Field}(h:laidMet P l W)(hm:(nm,DataW.agg (xs.map λp => .agg [.lit (.string p.1.data.toList),.lit (.int .i64 p.2)]))∈l)
 (hg:P.globalNamed nm=some g) (htg:(P.globals[g]?).map (·.type)=some t) (ht:P.underlying t=some (.array xs.length e)) (he:P.underlying e=some (.struct #[f0,f1])) (hs:P.underlying f0.type=some .string) (hi:P.underlying f1.type=some (.int .i64))
 (o0:f0.offset=0) (o1:f1.offset=1) (c0:P.cellsOf f0.type=1) (c1:P.cellsOf f1.type=1) (ce:P.cellsOf e=2) :
 ∀(j:Nat) u,(xs.flatMap λp=>[Value.string p.1,Value.int .i64 p.2])[j]?=some u→W.cell? ((⟨g,0,none⟩:Addr).add j)=some u:=by
 obtain⟨ps,hl,_⟩:=h;obtain⟨g0,t0,cs,fuel,p,hg0,ht0,hv,hd⟩:=CU hl _ hm;obtain rfl:=OO (hg.symm.trans hg0);obtain rfl:=OO (htg.symm.trans ht0);obtain⟨ys,m,_,ex,hlen,hxl,hel⟩:=DataW.trod_array ht hd
 have e1:xs.map (λp=>DataW.agg (H:=Unit) [.lit (.string p.1.data.toList),.lit (.int .i64 p.2)])=ys.map (·.1):=by
  have:=(Prod.mk.inj ex).1;exact DataW.agg.inj this
 intro j u hj;obtain⟨i,q,hq,hju⟩:=Fb hj;have hi':i<xs.length:=(mG.1 hq).1;have h3:=hel i hi';rw[ce]at h3;have hy:ys[i]?=some ys[i]:=jg (by omega);rw[hy]at h3;obtain⟨y0,y1,n,ey,hcl,k0,k1⟩:=Go.ChangeShapes.trod_struct2 he h3;obtain⟨s,a0,b0,_⟩:=DataW.trod_string hs k0;obtain⟨z,a1,b1,_⟩:=DataW.trod_int hi k1;rw[o0,c0]at a0;rw[o1,c1]at a1;have h4:(xs.map (λp=>DataW.agg (H:=Unit) [.lit (.string p.1.data.toList),.lit (.int .i64 p.2)]))[i]?=(ys.map (·.1))[i]?:=by rw[e1]
 rw[zQ,zQ,hq,hy,ey,b0,b1]at h4;simp at h4;obtain⟨h5,h6⟩:=h4
 have h7:s=q.1:=by
  obtain⟨⟨sl⟩⟩:=s;obtain⟨⟨⟨ql⟩⟩,qn⟩:=q;simp at h5;rw[h5]
 subst h6 h7
 have g0':cs.toList[2*i]?=some (.string q.1):=by
  have h8:((((cs.toList.drop (i*2)).take 2).drop 0).take 1)[0]?=some (.string q.1):=by rw[a0];rfl
  rw[SX,List.take_take,Dw,if_pos (by decide),KX,Wq,Dy]at h8;exact h8
 have g1':cs.toList[2*i+1]?=some (.int .i64 q.2):=by
  have h8:((((cs.toList.drop (i*2)).take 2).drop 1).take 1)[0]?=some (.int .i64 q.2):=by rw[a1];rfl
  rw[Dw,if_pos (by decide),KX,Dw,if_pos (by decide),KX,Dy]at h8;exact h8
 have hadd:(⟨g,0,none⟩:Addr).add j=⟨g,j,none⟩:=by
  unfold Addr.add;split
  ·rename_i h;rw[h]
  ·simp
 rw[hadd,World.var?_cell hg hv j];rcases hju with⟨rfl,rfl⟩|⟨rfl,rfl⟩
 ·rw[←g0',Array.getElem?_toList]
 ·rw[←g1',Array.getElem?_toList]
end Go.Sw
namespace Go.Proofs.YtmniihkenijjpaaGreatDoor
open Go Go.RowKit Go.Sw Go.Shelf
set_option maxRecDepth 100000
set_option maxHeartbeats 8000000
def ad7:Go.Shelf.Ren:=⟨λn=>if n=283 then 350 else n,λn=>n,λn=>n⟩
theorem aco:Go.Proofs.Lays.n283 Tryz.prog ad7 where
 mixed:=cO
 f283:=zF Tryz.func350 (congrArg some (Eq.refl _))
 t3:=Tryz.underlying3
 a3:=Tryz.isAgg3
 z3:=Tryz.sizeOf3
 v3:=Tryz.zeroValue3
 t4:=Tryz.underlying4
 a4:=Tryz.isAgg4
 z4:=Tryz.sizeOf4
 v4:=Tryz.zeroValue4
 t9:=Tryz.underlying9
 a9:=Tryz.isAgg9
 z9:=Tryz.sizeOf9
 v9:=Tryz.zeroValue9
instance(priority:=2000) CB:Wld Tryz.prog:=⟨λw=>Lib.TabIs Tryz.prog w "internal/strconv.uint64pow10" .u64 Lib.pow10Tab,λh hb=>Iz h hb,[],λ_ _ _ h=>by cases h⟩
instance ahf{f:FuncId}{xs:List AV}{pre:Prop}{r:AV}[h : @DenI Tryz.prog WC f xs pre r]:@DenI Tryz.prog CB f xs pre r:=⟨λhp=>o7 WC CB (λ_ _=>trivial) (h.den hp)⟩
def tabs:Tab:=tab
theorem YZ : @dN Tryz.prog CB tabs=true:=by kernel_rfl
set_option maxHeartbeats 6400000 in
theorem U8(u:Nat)(h1:u<100)(w:World):Calls Tryz.prog 325 #[.int .u64 u,.int .i64 10] w λe w'=>e=.returned (.string ⟨(Lib.decDigits u).toArray⟩)∧Below w.heap.size w w':=by
 have hlt:(u:Int)<100:=by omega
 go_enter Tryz.func325,Tryz.ntmps325
 go_wp2_with (go_at_call 350;refine(Any.internal_strconv_small aco u h1 _).mono ?_;rintro e w' ⟨rfl,rfl⟩)
 go_ret
 exact⟨rfl,Below.refl _ _⟩
theorem abP(u:Nat)(hu:u<18446744073709551616)(w:World)(hW:Wld.ok Tryz.prog w):Calls Tryz.prog 325 #[.int .u64 u,.int .i64 10] w λe w'=>e=.returned (.string (sD u))∧Below w.heap.size w w':=by
 by_cases h:u<100
 ·exact U8 u h w
 ·exact YD u (by omega) hu w hW
instance aiV(z:Int):DenI Tryz.prog 325 [.c (.v (.int .u64 z)),.c (.v (.int .i64 10))] (0≤z∧z<18446744073709551616) (.c (.v (.string (sD z.toNat)))):=⟨λhp=>by
 obtain⟨n,rfl⟩:=Int.eq_ofNat_of_zero_le hp.1;refine Den.of ⟨by kernel_rfl,λw X vs hW hX hl hr=>?_⟩ rfl
 match vs,hl with
 |[u,v],_ =>
 have hu:u=.int .u64 (n:Nat):=by
  have:=hr 0 u _ rfl rfl;cases this with
  |c h=>cases h;rfl
 have hv:v=.int .i64 10:=by
  have:=hr 1 v _ rfl rfl;cases this with
  |c h=>cases h;rfl
 subst hu hv;refine Calls.mono (abP n (by omega) w hW) ?_;rintro e w' ⟨rfl,hb⟩
 exact⟨_,rfl,(RepR.d (.c (.v _ rfl))).f,hb⟩⟩
instance agx(z:Int):DenI Tryz.prog 289 [.int .u64 z,.int .i64 10] (0≤z∧z<18446744073709551616) (.c (.v (.string (sD z.toNat)))):=⟨λhp=>by
 refine qp (τ:=tabs) YZ cO Tryz.func289 rfl (by kernel_rfl) (by kernel_rfl) (by kernel_rfl) ?_
 all_goals(repeat'((try(conv=>whnf));first
  |refine aj ?_ ?_|refine Ends.mk ?_))
 all_goals(try refine Pr.mk ?_)
 ·exact hp
 ·rfl⟩
theorem FUa{m:Nat}(hm:m<18446744073709551616)(w:World)(hW:Wld.ok Tryz.prog w):Calls Tryz.prog 289 #[.int .u64 m,.int .i64 10] w λe w'=>e=.returned (.string (sD m))∧Below w.heap.size w w':=by
 have h:=((agx (m:Int)).den ⟨by omega,by omega⟩).old rfl;refine(h.2 w [] [.int .u64 m,.int .i64 10] hW (by simp) rfl (λi u v hu hv=>?_)).mono ?_
 ·match i,hu,hv with
  |0,hu,hv=>simp at hu hv;subst hu hv;exact .c (.v _ rfl)
  |1,hu,hv=>simp at hu hv;subst hu hv;exact .c (.v _ rfl)
 ·rintro e w' ⟨u,rfl,hu,hb⟩;refine⟨?_,hb⟩;cases hu.r with
  |d h=>cases h with
   |c h=>cases h;rfl
end Go.Proofs.YtmniihkenijjpaaGreatDoor
