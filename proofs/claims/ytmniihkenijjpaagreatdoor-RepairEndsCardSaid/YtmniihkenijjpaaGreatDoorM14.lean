/-
  Rules of the abstract run, plain laws, and what functions answer, for the law RepairEnds.
  Conditions: none.
-/
import Derived.Test.YtmniihkenijjpaaGreatDoorM13
import Derived.Shelf.SlicesE.Clone
set_option linter.all false
namespace Go.Proofs.YtmniihkenijjpaaGreatDoor
open Go Go.RowKit Go.Sw
set_option maxRecDepth 100000
set_option maxHeartbeats 8000000
set_option synthInstance.maxSize 4000
set_option synthInstance.maxHeartbeats 400000
instance aeg(a b:Rat):DenI Tryz.prog 206 [R a,R b] (rz a≤4000000∧rz b≤4000000) (R (a+b)):=⟨λhp=>by
 have i_a:RzB a 4000000:=⟨hp.1⟩
 have i_b:RzB b 4000000:=⟨hp.2⟩
 all_goals refine aB Tryz.func206 rfl ?_
 all_goals (repeat' ((try (conv=>whnf));first
  |refine ak ?_ ?_
  |refine Ends.mk ?_))
 all_goals (try refine Pr.mk ?_)
 all_goals first
  |rfl
  |((repeat' apply And.intro)<;>first|assumption|exact uF (by omega)|exact xA (by omega)|exact Int.mul_ne_zero (aG _) (aG _))⟩
instance adX(a b:Rat):DenI Tryz.prog 203 [R a,R b] (rz a≤4000000∧rz b≤4000000) (R (a-b)):=⟨λhp=>by
 have i_a:RzB a 4000000:=⟨hp.1⟩
 have i_b:RzB b 4000000:=⟨hp.2⟩
 all_goals refine aB Tryz.func203 rfl ?_
 all_goals (repeat' ((try (conv=>whnf));first
  |refine ak ?_ ?_
  |refine Ends.mk ?_))
 all_goals (try refine Pr.mk ?_)
 all_goals first
  |rfl
  |((repeat' apply And.intro)<;>first|assumption|exact uF (by omega)|exact xA (by omega)|exact Int.mul_ne_zero (aG _) (aG _))⟩
instance ad3(a b:Rat):DenI Tryz.prog 204 [R a,R b] (rz a≤4000000∧rz b≤4000000) (R (a*b)):=⟨λhp=>by
 have i_a:RzB a 4000000:=⟨hp.1⟩
 have i_b:RzB b 4000000:=⟨hp.2⟩
 all_goals refine aB Tryz.func204 rfl ?_
 all_goals (repeat' ((try (conv=>whnf));first
  |refine ak ?_ ?_
  |refine Ends.mk ?_))
 all_goals (try refine Pr.mk ?_)
 all_goals first
  |rfl
  |((repeat' apply And.intro)<;>first|assumption|exact uF (by omega)|exact xA (by omega)|exact Int.mul_ne_zero (aG _) (aG _))⟩
instance acW(a b:Rat):DenI Tryz.prog 207 [R a,R b] (rz a≤4000000∧rz b≤4000000) (R (a / b)):=⟨λhp=>by
 have i_a:RzB a 4000000:=⟨hp.1⟩
 have i_b:RzB b 4000000:=⟨hp.2⟩
 all_goals refine aB Tryz.func207 rfl ?_
 all_goals (repeat' ((try (conv=>whnf));first
  |refine ak ?_ ?_
  |refine fO ?_ (λ_=>?_) (λ_=>?_)
  |(with_reducible refine dn (λ_=>?_) (λ_=>?_))
  |refine Ends.mk ?_))
 all_goals (try refine Pr.mk ?_)
 all_goals (try simp only [gu] at *)
 all_goals first
  |rfl
  |(subst b;exact congrArg R (aaH a))
  |omega
  |(exfalso;simp at *;done)⟩
instance acC(a:Rat):DenI Tryz.prog 205 [R a] (rz a≤4000000) (.bool (decide (a=0))):=⟨λhp=>by
 have i_a:RzB a 4000000:=⟨hp⟩
 all_goals refine aB Tryz.func205 rfl ?_
 all_goals (repeat' ((try (conv=>whnf));first
  |refine aI ?_
  |refine Ends.mk ?_))
 all_goals (try simp only [gu] at *)
 all_goals first
  |rfl⟩
instance acA(a b c d e f:Rat):DenC Tryz.prog 165 [Q2 a b,Q2 c d,Q2 e f] (rz a≤200∧rz b≤200∧rz c≤200∧rz d≤200∧rz e≤200∧rz f≤200) (((c-a)*(f-b)-(d-b)*(e-a))=0) (.tup [ZQ3,.int .i64 6]) (.tup [Q3 (a+((((c-a)*(c-a)+(d-b)*(d-b))*(f-b)-((e-a)*(e-a)+(f-b)*(f-b))*(d-b)) / (((c-a)*(f-b)-(d-b)*(e-a))+((c-a)*(f-b)-(d-b)*(e-a))))) (b+((((e-a)*(e-a)+(f-b)*(f-b))*(c-a)-((c-a)*(c-a)+(d-b)*(d-b))*(e-a)) / (((c-a)*(f-b)-(d-b)*(e-a))+((c-a)*(f-b)-(d-b)*(e-a))))) (((((c-a)*(c-a)+(d-b)*(d-b))*(f-b)-((e-a)*(e-a)+(f-b)*(f-b))*(d-b)) / (((c-a)*(f-b)-(d-b)*(e-a))+((c-a)*(f-b)-(d-b)*(e-a))))*((((c-a)*(c-a)+(d-b)*(d-b))*(f-b)-((e-a)*(e-a)+(f-b)*(f-b))*(d-b)) / (((c-a)*(f-b)-(d-b)*(e-a))+((c-a)*(f-b)-(d-b)*(e-a))))+((((e-a)*(e-a)+(f-b)*(f-b))*(c-a)-((c-a)*(c-a)+(d-b)*(d-b))*(e-a)) / (((c-a)*(f-b)-(d-b)*(e-a))+((c-a)*(f-b)-(d-b)*(e-a))))*((((e-a)*(e-a)+(f-b)*(f-b))*(c-a)-((c-a)*(c-a)+(d-b)*(d-b))*(e-a)) / (((c-a)*(f-b)-(d-b)*(e-a))+((c-a)*(f-b)-(d-b)*(e-a))))),.int .i64 0]):=⟨UU λhp q e1 e2=>by
 have i_a:RzB a 200:=⟨hp.1⟩
 have i_b:RzB b 200:=⟨hp.2.1⟩
 have i_c:RzB c 200:=⟨hp.2.2.1⟩
 have i_d:RzB d 200:=⟨hp.2.2.2.1⟩
 have i_e:RzB e 200:=⟨hp.2.2.2.2.1⟩
 have i_f:RzB f 200:=⟨hp.2.2.2.2.2⟩
 all_goals refine aB Tryz.func165 rfl ?_
 all_goals (repeat' ((try (conv=>whnf));first
  |refine ak ?_ ?_
  |(with_reducible refine au (λ_=>?_) (λ_=>?_))
  |refine Drw.mk (by kernel_rfl) ?_
  |refine Ends.mk ?_))
 all_goals (try refine Pr.mk ?_)
 all_goals first
  |(rw [e1 (by assumption)];rfl)
  |(rw [e2 (by assumption)];rfl)
  |((repeat' apply And.intro)<;>first|assumption|exact uF (by omega)|exact xA (by omega)|exact Int.mul_ne_zero (aG _) (aG _))⟩
end Go.Proofs.YtmniihkenijjpaaGreatDoor
namespace Go.Proofs.YtmniihkenijjpaaGreatDoor
open Go Go.RowKit Go.Sw
set_option maxRecDepth 100000
set_option maxHeartbeats 8000000
instance ab7(neg:Bool)(l:List Nat):DenI Tryz.prog 221 [Zr neg l] (l.length≤9223372036854775807) (.bool (fZ neg l)):=⟨λhp=>by
 refine aB Tryz.func221 rfl ?_
 all_goals first
  |((conv=>whnf);refine Sw.Loop.inv (α:=Nat) (λx=>[(1,.ptr 1 0),(2,.bool false),(7,.c (aX l)),(8,.int .i64 (l.length:Nat)),(9,.int .i64 x)]) (λx=>[(1,.var [.v (.bool neg),aX l])]) (λx=>x≤l.length∧∀j,j<x→l.getD j 0<1000000000) (λx=>l.length-x) 0 ?_ ?_ ?_ (λx hx=>?_))
 all_goals (repeat' ((try (conv=>whnf));first
  |(with_reducible refine au (λ_=>?_) (λ_=>?_))
  |(with_reducible refine dH ?_ ?_)
  |refine Ends.mk ?_))
 all_goals (try refine Pr.mk ?_)
 all_goals first|(show SubE _ _;repeat' (first|exact trivial|refine And.intro ?_ ?_))|(show SubB _ _;repeat' (first|exact trivial|refine And.intro ?_ ?_))|skip
 all_goals (try rfl)
 all_goals (try simp only [List.length_map,Int.toNat_natCast] at *)
 all_goals first
  |exact bE (Yd (x:=x) (by omega) (by assumption))
  |((conv=>whnf);exact ⟨x+1,⟨⟨rfl,rfl,rfl,rfl,bM (by omega),trivial⟩,⟨rfl,trivial⟩,⟨by omega,λj hj=>by rcases Nat.lt_succ_iff_lt_or_eq.1 hj with h|h;exact hx.2 j h;subst h;omega⟩,by show l.length-(x+1)<l.length-x;omega⟩⟩)
  |omega
  |exact ⟨by omega,λj hj=>by omega⟩
  |rfl
  |(rw [bQ (by omega) (by omega)];omega)
  |(have w:(IntKind.i64.wrap ((l.length:Int)-1)).toNat=l.length-1:=(by rw [bQ (by omega) (by omega)];omega);rw [w];exact bE (Jb (I5 λj hj=>hx.2 j (by omega)) (by omega)))
  |exact bE (He (by omega))⟩
instance afc(n1:Bool)(l1:List Nat)(n2:Bool)(l2:List Nat):DenI Tryz.prog 178 [Rr n1 l1 n2 l2] (l1.length≤1000000000∧l2.length≤1000000000) (.bool (kC n1 l1 n2 l2)):=⟨λhp=>by
 rcases FZ n1 l1 n2 l2 with h|⟨x,rfl,rfl,h⟩|⟨x,y,rfl,rfl,rfl,rfl⟩
 all_goals refine aB Tryz.func178 rfl ?_
 all_goals (repeat' ((try (conv=>whnf));first
  |refine aI ?_
  |refine ak ?_ ?_
  |(with_reducible refine aO ?_)
  |(with_reducible refine aT ?_)
  |(with_reducible refine au (λ_=>?_) (λ_=>?_))
  |refine OnB.mk (λ_=>?_) (λ_=>?_)
  |refine Ends.mk ?_))
 all_goals (try refine Pr.mk ?_)
 all_goals (try simp only [gu] at *)
 all_goals first
  |(simp only [rJ] at *;exfalso;simp_all;done)
  |(exfalso;simp_all;done)
  |exact bE (acB (x:=x) (y:=y) (by omega))
  |exact bE (acH (x:=x) (y:=y) (by omega))
  |exact bE (by unfold kC;simp_all)
  |exact hp
  |(first|exact Nat.le_trans hp.1 (by decide)|exact Nat.le_trans hp.2 (by decide))⟩
end Go.Proofs.YtmniihkenijjpaaGreatDoor
namespace Go.Sw
open Go Go.RowKit
theorem Un{P:Program}{ρ:Operand→Value}{w:World}{d:Option Tmp}{ty:TypeId}{pos:String}{af:Array Edge}{gd:Option (Nat × Bool)}{t e:TypeId}{s:Nat}{x y:Operand}{g n c:Nat}{k:IntKind}{j:Nat}(ht:sliceOf P t=some (e,s))(hx:ρ x=.slice (some ⟨g,0,none⟩) n c)(hy:ρ y=.int k (j:Nat))(h1:j<n):
 (execOp ρ ⟨d,.indexAddr t x y,ty,pos,af,gd⟩).run P w=.ok (.value (.pointer (some ⟨g,j*s,none⟩))) w:=by
 have:=Uc (w:=w) (d:=d) (ty:=ty) (pos:=pos) (af:=af) (gd:=gd) ht hx rfl hy rfl h1
 rwa [Addr.add_lit,Nat.zero_add] at this
def ac8(P:Program)(kT T:TypeId)(s:Nat)(st:JS)(w:World)(X:List Nat)(us:List Value)(more:List Bx)(mo:Nat × Array MapEntry × Nat)(r:AV)(u:Value)(w':World):Prop :=
 ∃(more':List Bx) (mo':Nat × Array MapEntry × Nat),mo'.1=mo.1∧w'.heap[mo.1]?=some (.map mo'.2.1 mo'.2.2)∧(∀q∈more',(q.1∈bl more∨w.heap.size≤q.1)∧w'.heap[q.1]?=some (.cells q.2.2 q.2.1 (0,0)))∧(more'.Pairwise λa b=>a.1≠b.1) ∧
  (w'.os=w.os∧w'.tape=w.tape∧w'.output=w.output∧w.heap.size≤w'.heap.size∧∀k,k<w.heap.size→k≠mo.1→k ∉ bl more→w'.heap[k]?=w.heap[k]?)∧RepR w' (bl more'++X) u r∧(Cm P kT T s st).rep w' (bl more'++X) us more' mo'
theorem RepR.ext{w w':World}{X X':List Nat}{u:Value}{r:AV}(h:RepR w X u r)(e:Ext w X w' X'):RepR w' X' u r:=by
 cases h with
 |d h=>exact .d (h.ext e)
 |tup hl h=>exact .tup hl λi u v a b=>(h i u v a b).ext e
theorem ac7{P:Program}{kT T:TypeId}{s:Nat}{st:JS}{w w':World}{X:List Nat}{us:List Value}{more:List Bx}{mo:Nat × Array MapEntry × Nat}{r:AV}{u:Value}{m:Nat}(hB:Below w.heap.size w w')(hmore:∀q∈more,q.1∈X∧w.heap[q.1]?=some (.cells q.2.2 q.2.1 (0,0)))(hnd:more.Pairwise λa b=>a.1≠b.1)
 (hmap:w.heap[mo.1]?=some (.map mo.2.1 mo.2.2)) (hrep:Tm P kT T s st w X us more mo) (hn:st.n≤m) (hR:RepR w X u r):ac8 P kT T s ⟨st.sq,st.f,m⟩ w X us more mo r u w':=by
 have hext:Ext w X w' (bl more++X):=⟨hB.size,λk hk hx _=>⟨hB.block k hk,λhm=>by
  rcases List.mem_append.1 hm with hm|hm
  ·obtain ⟨q,hq,rfl⟩:=List.mem_map.1 hm;exact hx (hmore q hq).1
  ·exact hx hm⟩⟩
 refine ⟨more,mo,rfl,(hB.block _ (lt_of_heap hmap)).trans hmap,λq hq=>⟨.inl (List.mem_map.2 ⟨q,hq,rfl⟩),(hB.block _ (lt_of_heap (hmore q hq).2)).trans (hmore q hq).2⟩,hnd,⟨hB.os,hB.tape,hB.output,hB.size,λk hk _ _=>hB.block k hk⟩,hR.ext hext, ?_⟩;obtain ⟨us',h1,h2,h3,h4,val,og,h5,h6,h7⟩:=hrep;exact ⟨us',h1,h2.ext hext,h3,Nat.le_trans h4 hn,val,og,h5,λk=>(h6 k).ext hext,h7⟩
theorem X8{sq:Rat}{sp:dX}{s:ByteArray}{v:P2}{n:Nat}(h:0≤eX sq v (bF sp s) (bF sp s).length):(Fq sq (bK sq sp s v).1 n)=Fq sq sp n∧(bK sq sp s v).2=(bF sp s).getD (eX sq v (bF sp s) (bF sp s).length).toNat P0:=by
 obtain ⟨_,_,h3⟩:=pY sq v (bF sp s) _ (Nat.le_refl _);rw [List.take_length,if_neg (by omega)] at h3;unfold bK;rw [h3];exact ⟨rfl,rfl⟩
theorem adQ{sq:Rat}{sp:dX}{s:ByteArray}{v:P2}{n:Nat}(h:eX sq v (bF sp s) (bF sp s).length<0):(Fq sq (bK sq sp s v).1 (n+1))=(Fq sq sp n).add s (aS v)∧(bK sq sp s v).2=v:=by
 obtain ⟨_,_,h3⟩:=pY sq v (bF sp s) _ (Nat.le_refl _);rw [List.take_length,if_pos h] at h3;unfold bK;rw [h3,Tz];exact ⟨rfl,rfl⟩
end Go.Sw
namespace Go.Sw
open Go Go.RowKit Go.Proofs Go.Shelf Go.Lib
set_option maxHeartbeats 2000000 in
set_option maxRecDepth 100000 in
theorem EC{P:Program}{ρ:Ren}(L:SlLaysE0.n41 P ρ)(i0:TypeInfo)(z:Value)(size bytes:Nat)(hi:P.info? (ρ.t 23)=some i0)(hz0:i0.zero=some z)(hz1:i0.size=size)(hz2:i0.bytes=bytes)(hzs:z.cells.size=size)(hsz:0<size)
 (z23:∀w,(Go.sizeOf (ρ.t 23)).run P w=.ok size w) (a:Addr) (n c:Nat) (news:List Value) (w:World) (hl:news.length=n*size) (hn:n≤maxLen) (hbig:n*bytes≤140737488355328)
 (hc:∀j u,news[j]?=some u→w.cell? (a.add j)=some u) (h1:∀u∈news,u.oneCell'=true) :
 Calls P (ρ.f 41) #[.slice (some a) n c] w λe w'=>∃v',e=.returned v'∧w'.ownsRow w.heap.size (ρ.t 23) size v' n news∧Below w.heap.size w w':=by
 have mixed:=L.mixed;have t4:=L.t4;have a4:=L.a4;have z4:=L.z4;have v4:=L.v4;have t22:=L.t22;have a22:=L.a22;have z22:=L.z22;have v22:=L.v22;have q22:∀(w:World) (a:Option Addr) (n c n' c':Nat),(binOp .eql (ρ.t 22) (.slice a n c) (.slice none n' c')).run P w=.ok (.bool a.isNone) w:=λw a n c n' c'=>Lib.run_eql_slice_nil w _ _ a n c n' c' L.t22
 have u22:∀w,Sem.run P (underlying (ρ.t 22)) w=.ok (TypeDesc.slice (ρ.t 23)) w:=run_underlying t22;have A:Aside (∀j u,news[j]?=some u→w.cell? (a.add j)=some u):=hc;clear hc;obtain ⟨_,_,FG⟩:=L.f41
 go_enter FG,SlBodyN.n41_ntmps ρ
 go_wp2_with (at_builtin;refine wpList_append_own _ rfl _ _ (ρ.t 22) rfl w.heap.size (ρ.t 23) i0 z size bytes t22 hi hz0 hz1 hz2 hzs hsz _ _ _ rfl (World.ownsRow_made w #[] 0 (Nat.le_refl _) (Nat.zero_le _) (by simp)) a n c news rfl ?qc1 ?qc2 ?qc3 ?qc4 ?qc5 ?qc6 ?_)
 case qc1=>exact hl
 case qc2=>exact λj u hj=>Lib.cell?_alloc_some _ (A.out j u hj)
 case qc3=>exact h1
 case qc4=>rw [Nat.zero_add];exact hn
 case qc5=>rw [Nat.zero_add];exact hbig
 case qc6=>simp
 intro v' w1 hown hgrow hnil
 go_wp2
 go_ret
 exact ⟨v',rfl,by simpa using hown,((Below.refl _ w).alloc (Nat.le_refl _) _).grown hgrow (by simp) (by intro k hk;simp [Value.ownBlock] at hk;omega)⟩
theorem Nz{P:Program}[Wld P]{ρ:Ren}(L:SlLaysE0.n41 P ρ)(hb:dL P (ρ.f 41)=true)(i0:TypeInfo)(z:Value){k:Nat}(hi:P.info? (ρ.t 23)=some i0)(hz0:i0.zero=some z)(hz1:i0.size=k)(hby:i0.bytes≤1000000)(hzs:z.cells.size=k)(hk:0<k)
 (z23:∀w,(Go.sizeOf (ρ.t 23)).run P w=.ok k w) {es:List (List Cell)} (hn:es.length≤1000000):Den P (ρ.f 41) [.c (.sl k es)] (.c (.sl k es)):=by
 refine Den.of ⟨hb,λw X vs hW hX hl hr=>?_⟩ rfl
 match vs,hl with
 |[u],_ =>
 have hu:RepC w X u (.sl k es):=by
  have:=hr 0 u _ rfl rfl;cases this with
  |c h=>exact h
 obtain ⟨A,cap,uss,rfl,hcap,hmx,hc,hS⟩:=RepS.of_sl hu
 have hone:∀us∈uss,∀u∈us,u.oneCell'=true:=λus hu=>by
  obtain ⟨j,hj,rfl⟩:=List.getElem_of_mem hu;exact (hS.get j _ _ (List.getElem?_eq_getElem hj) (List.getElem?_eq_getElem (by rw [← hS.len];exact hj))).one
 have hfl:uss.flatten.length=es.length*k:=by rw [bU hS.sz,hS.len]
 cases A with
 |none =>
  have h0:uss.flatten=[]:=by
   by_cases h:uss.flatten=[]
   ·exact h
   ·obtain ⟨ad,h1,_⟩:=hc h;cases h1
  rw [h0] at hfl
  have:es=[]:=by
   rcases Nat.eq_zero_or_pos es.length with h|h
   ·exact List.eq_nil_of_length_eq_zero h
   ·have:=Nat.mul_pos h hk;simp at hfl;omega
  subst this;refine Calls.mono (AnyE.slices_Clone_nil L _ _ w) ?_;rintro e w' ⟨rfl,rfl⟩;exact ⟨_,rfl,(RepR.d (.c (RepC.nil _ _ _))).f,Below.refl _ _⟩
 |some a =>
  refine Calls.mono (EC L i0 z k i0.bytes hi hz0 hz1 rfl hzs hk z23 a es.length cap uss.flatten w hfl (by unfold maxLen;omega) (Nat.le_trans (Nat.mul_le_mul hn hby) (by omega)) (λj u hj=>?_) (λu hu=>?_)) ?_
  ·obtain ⟨ad,h1,_,_,h2⟩:=hc (λh=>by rw [h] at hj;cases hj);cases h1;exact h2 j u hj
  ·obtain ⟨us,h1,h2⟩:=List.mem_flatten.1 hu;exact hone us h1 u h2
  ·rintro e w' ⟨v',rfl,hown,hB⟩;have hext:=Ext.call X hB;have hS':=hS.ext hext;refine ⟨v',rfl,(RepR.d (.c ?_)).f,hB⟩;rcases hown with ⟨_,⟨rfl,h0⟩|⟨g,cap',cur,rfl,h1,h2,h3,h4,h5,h6⟩⟩
   ·have:es=[]:=List.eq_nil_of_length_eq_zero h0;subst this;exact RepC.nil _ _ _
   ·refine RepS.sl hS' (λhne=>?_) h3 (by unfold maxLen at h4;omega)
    have hgl:g<w'.heap.size:=by
     rcases Nat.lt_or_ge g w'.heap.size with h'|h'
     ·exact h'
     ·rw [Array.getElem?_eq_none h'] at h2;cases h2
    refine ⟨_,rfl,hgl,λhm=>?_,λj u hj=>?_⟩
    ·have:=hX g hm;omega
    ·rw [← h6,List.getElem?_take] at hj;split at hj
     ·rw [Addr.add_lit,Nat.zero_add,cell_of_row w' g j cur _ _ h2,← Array.getElem?_toList];exact hj
     ·cases hj
theorem RepC.sl_nil{w:World}{X:List Nat}{u:Value}{s k:Nat}(h:RepC w X u (.sl s [])):RepC w X u (.sl k []):=by
 cases h with
 |sl A n cap s uss es hn hu hc hcap hmx hs hr =>
  exact .sl A n cap k uss [] hn hu hc hcap hmx (λi us e a b=>by simp at b) (λi us e a b=>by simp at b)
theorem YB{P:Program}[Wld P]{f:FuncId}{xs:List AV}{s k:Nat}{es:List (List Cell)}{y:AV}(hn:lJ xs=true)(h:s=k∨es=[])(hd:Den P f xs (.tup [.c (.sl s es),y])):Den P f xs (.tup [.c (.sl k es),y]):=by
 rcases h with rfl|rfl
 ·exact hd
 ·obtain ⟨hb,hd⟩:=hd.old hn;refine Den.of ⟨hb,λw X vs hW hX hl hr=>(hd w X vs hW hX hl hr).mono ?_⟩ hn;rintro e w' ⟨u,rfl,hR,hB⟩;refine ⟨u,rfl, ?_,hB⟩;obtain ⟨us,vs',G,h1,h2,h3,h4⟩:=hR;rcases h1 with ⟨rfl,h1⟩|⟨_,_,h1⟩
  ·cases h1;cases h4 with
   |d hd t =>
    cases hd with
    |c hc=>exact ⟨_,_,G,.inl ⟨rfl,rfl⟩,h2,h3,.d (.c hc.sl_nil) t⟩
  ·cases h1
theorem zG{P:Program}[Wld P]{ρ:Ren}(L:SlLaysE0.n41 P ρ)(hb:dL P (ρ.f 41)=true)(i0:TypeInfo)(z:Value){k:Nat}(hi:P.info? (ρ.t 23)=some i0)(hz0:i0.zero=some z)(hz1:i0.size=k)(hby:i0.bytes≤1000000)(hzs:z.cells.size=k)(hk:0<k)
 (z23:∀w,(Go.sizeOf (ρ.t 23)).run P w=.ok k w) {es:List (List Cell)} (hn:es.length≤1000000):Den P (ρ.f 41) [.c (.sl k es)] (.own (ρ.t 23) k es):=by
 refine Den.of ⟨hb,λw X vs hW hX hl hr=>?_⟩ rfl
 match vs,hl with
 |[u],_ =>
 have hu:RepC w X u (.sl k es):=by
  have:=hr 0 u _ rfl rfl;cases this with
  |c h=>exact h
 obtain ⟨A,cap,uss,rfl,hcap,hmx,hc,hS⟩:=RepS.of_sl hu
 have hone:∀us∈uss,∀u∈us,u.oneCell'=true:=λus hu=>by
  obtain ⟨j,hj,rfl⟩:=List.getElem_of_mem hu;exact (hS.get j _ _ (List.getElem?_eq_getElem hj) (List.getElem?_eq_getElem (by rw [← hS.len];exact hj))).one
 have hfl:uss.flatten.length=es.length*k:=by rw [bU hS.sz,hS.len]
 cases A with
 |none =>
  have h0:uss.flatten=[]:=by
   by_cases h:uss.flatten=[]
   ·exact h
   ·obtain ⟨ad,h1,_⟩:=hc h;cases h1
  rw [h0] at hfl
  have:es=[]:=by
   rcases Nat.eq_zero_or_pos es.length with h|h
   ·exact List.eq_nil_of_length_eq_zero h
   ·have:=Nat.mul_pos h hk;simp at hfl;omega
  subst this;refine Calls.mono (AnyE.slices_Clone_nil L _ _ w) ?_;rintro e w' ⟨rfl,rfl⟩;exact ⟨_,rfl,⟨[_],[_],[],.inr ⟨rfl,rfl,rfl⟩,by simp,List.nodup_nil,.own0 hk .nil⟩,Below.refl _ _⟩
 |some a =>
  refine Calls.mono (EC L i0 z k i0.bytes hi hz0 hz1 rfl hzs hk z23 a es.length cap uss.flatten w hfl (by unfold maxLen;omega) (Nat.le_trans (Nat.mul_le_mul hn hby) (by omega)) (λj u hj=>?_) (λu hu=>?_)) ?_
  ·obtain ⟨ad,h1,_,_,h2⟩:=hc (λh=>by rw [h] at hj;cases hj);cases h1;exact h2 j u hj
  ·obtain ⟨us,h1,h2⟩:=List.mem_flatten.1 hu;exact hone us h1 u h2
  ·rintro e w' ⟨v',rfl,hown,hB⟩;refine ⟨v',rfl, ?_,hB⟩;rcases hown with ⟨_,⟨rfl,h0⟩|⟨g,cap',cur,rfl,h1,h2,h3,h4,h5,h6⟩⟩
   ·have:es=[]:=List.eq_nil_of_length_eq_zero h0;subst this;exact ⟨[_],[_],[],.inr ⟨rfl,rfl,rfl⟩,by simp,List.nodup_nil,.own0 hk .nil⟩
   ·have hS':=hS.ext ((Ext.call X hB).add h1);have hcur:cur=(uss.flatten++cur.toList.drop (es.length*k)).toArray:=by rw [← h6,List.take_append_drop]
    have hlen:(uss.flatten++cur.toList.drop (es.length*k)).length=cur.size:=by rw [← h6,List.take_append_drop];simp
    exact ⟨[_],[_],[g],.inr ⟨rfl,rfl,rfl⟩,by simpa using h1,by simp,.own hk (by rw [← hcur];exact h2) hS' (by rw [hlen];exact h5.symm) h4 h3 .nil⟩
end Go.Sw
namespace Go.Proofs.YtmniihkenijjpaaGreatDoor
open Go Go.RowKit Go.Sw
set_option maxRecDepth 100000
set_option maxHeartbeats 8000000
set_option synthInstance.maxSize 4000
set_option synthInstance.maxHeartbeats 400000
instance abX(a b c:Rat):DenI Tryz.prog 269 [R a,R b,R c] (rz a≤1000000∧rz b≤1000000∧rz c≤1000000) (.int .i64 (uh a b c)):=⟨λhp=>by
 have i_a:RzB a 1000000:=⟨hp.1⟩
 have i_b:RzB b 1000000:=⟨hp.2.1⟩
 have i_c:RzB c 1000000:=⟨hp.2.2⟩
 all_goals refine aB Tryz.func269 rfl ?_
 all_goals (repeat' ((try (conv=>whnf));first
  |refine aI ?_
  |refine ak ?_ ?_
  |(with_reducible refine aO ?_)
  |(with_reducible refine aT ?_)
  |(with_reducible refine au (λ_=>?_) (λ_=>?_))
  |refine Drw.mk (by kernel_rfl) ?_
  |refine Ends.mk ?_))
 all_goals (try refine Pr.mk ?_)
 all_goals (try simp only [gu] at *)
 all_goals (try simp only [adO,aci] at *)
 all_goals first
  |with_reducible exact adg (by assumption)
  |with_reducible exact acs (by assumption)
  |with_reducible exact ac2 (by assumption) (by assumption) (by assumption)
  |with_reducible exact adP (by assumption) (by assumption) (by assumption)
  |((repeat' apply And.intro)<;>first|assumption|exact uF (by omega)|exact xA (by omega)|exact Int.mul_ne_zero (aG _) (aG _))⟩
instance ab9(a b c f:Rat):DenI Tryz.prog 301 [R a,R b,R c,R f] (rz a≤40000∧rz b≤40000∧rz c≤40000∧rz f≤40000) (Ov (fE a b c f)):=⟨λhp=>by
 have i_a:RzB a 40000:=⟨hp.1⟩
 have i_b:RzB b 40000:=⟨hp.2.1⟩
 have i_c:RzB c 40000:=⟨hp.2.2.1⟩
 have i_f:RzB f 40000:=⟨hp.2.2.2⟩
 all_goals refine aB Tryz.func301 rfl ?_
 all_goals (repeat' ((try (conv=>whnf));first
  |refine ak ?_ ?_
  |(with_reducible refine aO ?_)
  |(with_reducible refine aT ?_)
  |refine OnB.mk (λ_=>?_) (λ_=>?_)
  |refine Drw.mk (by kernel_rfl) ?_
  |refine Ends.mk ?_))
 all_goals (try refine Pr.mk ?_)
 all_goals (try simp only [Prod.eta] at *)
 all_goals first
  |omega
  |(have z1:=E5 a b c;have z2:=iL f;unfold CZ at *;omega)
  |(refine aaS (TV ?_);first|exact .inl (by assumption)|exact .inr (by assumption))
  |(refine Eq.trans ?_ (congrArg Ov (WT (by assumption) (by assumption)));rfl)⟩
instance ZO(X Y Q ax bx ay bb c:Rat):DenI Tryz.prog 268 [Q3 X Y Q,Q5 ax bx ay bb c] (rz X≤40000∧rz Y≤40000∧rz Q≤40000∧rz ax≤40000∧rz bx≤40000∧rz ay≤40000∧rz bb≤40000∧rz c≤40000) (.tup [.int .i64 (jq ax bx ay bb c X Y Q).1,.bool (jq ax bx ay bb c X Y Q).2]):=⟨λhp=>by
 have i_X:RzB X 40000:=⟨hp.1⟩
 have i_Y:RzB Y 40000:=⟨hp.2.1⟩
 have i_Q:RzB Q 40000:=⟨hp.2.2.1⟩
 have i_ax:RzB ax 40000:=⟨hp.2.2.2.1⟩
 have i_bx:RzB bx 40000:=⟨hp.2.2.2.2.1⟩
 have i_ay:RzB ay 40000:=⟨hp.2.2.2.2.2.1⟩
 have i_bb:RzB bb 40000:=⟨hp.2.2.2.2.2.2.1⟩
 have i_c:RzB c 40000:=⟨hp.2.2.2.2.2.2.2⟩
 all_goals refine aB Tryz.func268 rfl ?_
 all_goals (repeat' ((try (conv=>whnf));first
  |refine aI ?_
  |refine ak ?_ ?_
  |(with_reducible refine aO ?_)
  |(with_reducible refine aT ?_)
  |refine OnB.mk (λ_=>?_) (λ_=>?_)
  |refine Drw.mk (by kernel_rfl) ?_
  |refine Ends.mk ?_))
 all_goals (try refine Pr.mk ?_)
 all_goals (try simp only [Prod.eta] at *)
 all_goals first
  |omega
  |(have z1:=EW ax bx c X;have z2:=EW ay bb c Y;have z3:=iL Q;unfold CZ at *;omega)
  |(have z1:=xK ((fE ax bx c X).getD (0,0)) ((fE ax bx c X).getD (0,0));have z2:=xK ((fE ay bb c Y).getD (0,0)) ((fE ay bb c Y).getD (0,0));have z3:=iL Q;have z4:=BJ z1 z2;unfold CZ at *;omega)
  |(refine adL (adT ?_);first|exact .inl (by assumption)|exact .inr (.inl (by assumption))|exact .inr (.inr (by assumption)))
  |(rw [Z9 (ax:=ax) (bx:=bx) (ay:=ay) (bb:=bb) (c:=c) (X:=X) (Y:=Y) (Q:=Q) (by assumption) (by assumption) (by assumption) rfl rfl rfl];generalize (fE ax bx c X).getD (0,0)=u at *;generalize (fE ay bb c Y).getD (0,0)=v at *;generalize (dF Q).getD (0,0)=w at *;rcases k1:pX u u with _|s<;>rcases k2:pX v v with _|t<;>first|rfl|(exfalso;simp_all;done)|(simp only [k1,k2,Option.getD_some,Option.isSome_some] at *;rcases k3:rP s t with _|m<;>first|rfl|(exfalso;simp_all;done)|(simp only [k3,Option.getD_some,Option.isSome_some] at *;rcases k4:rP m (-w.2,-w.1) with _|r<;>first|rfl|(exfalso;simp_all;done))))⟩
instance aaN(X Y Q ax bx ay bb c:Rat):DenI Tryz.prog 238 [Q3 X Y Q,Q5 ax bx ay bb c] (rz X≤7000∧rz Y≤7000∧rz Q≤27000∧rz ax≤12∧rz bx≤12∧rz ay≤12∧rz bb≤12∧rz c≤12) (.int .i64 (-(uh ((ax-X)*(ax-X)+(ay-Y)*(ay-Y)+c*(bx*bx+bb*bb)-Q) ((ax-X)*bx+(ay-Y)*bb+((ax-X)*bx+(ay-Y)*bb)) c))):=⟨λhp=>by
 obtain ⟨q0,q1,q2,q3,q4,q5,q6,q7⟩:=hp;have i_X:RzB X 7000:=⟨q0⟩
 have i_Y:RzB Y 7000:=⟨q1⟩
 have i_Q:RzB Q 27000:=⟨q2⟩
 have i_ax:RzB ax 12:=⟨q3⟩
 have i_bx:RzB bx 12:=⟨q4⟩
 have i_ay:RzB ay 12:=⟨q5⟩
 have i_bb:RzB bb 12:=⟨q6⟩
 have i_c:RzB c 12:=⟨q7⟩
 all_goals refine aB Tryz.func238 rfl ?_
 all_goals (repeat' ((try (conv=>whnf));first
  |refine ak ?_ ?_
  |refine OnB.mk (λ_=>?_) (λ_=>?_)
  |refine Drw.mk (by kernel_rfl) ?_
  |refine Ends.mk ?_))
 all_goals (try refine Pr.mk ?_)
 all_goals first
  |(exact ZQ (by assumption) (Uh (by assumption)) (BO _ _ _).1 (BO _ _ _).2)
  |(refine aaG ?_;rfl)
  |((repeat' apply And.intro)<;>first|assumption|exact uF (by omega)|exact xA (by omega)|exact Int.mul_ne_zero (aG _) (aG _))⟩
instance aeY(X Y Q x y:Rat):DenI Tryz.prog 238 [Q3 X Y Q,Q5 x 0 y 0 0] (rz X≤7000∧rz Y≤7000∧rz Q≤27000∧rz x≤12∧rz y≤12) (.int .i64 (-(aU ((x-X)*(x-X)+(y-Y)*(y-Y)-Q)))):=⟨λ⟨h1,h2,h3,h4,h5⟩=>by
 have h:=(aaN X Y Q x 0 y 0 0).den ⟨h1,h2,h3,h4,by decide +kernel,h5,by decide +kernel,by decide +kernel⟩;rw [XZ,show (x-X)*(x-X)+(y-Y)*(y-Y)+0*(0*0+0*0)-Q=(x-X)*(x-X)+(y-Y)*(y-Y)-Q by grind] at h
 exact h⟩
@[reducible] def zL(X Y Q:Rat)(cw:Bool)(a b e f:Rat):List Cell:=[.v (.bool true),zs (0:Rat).num,zl (0:Rat).num,zs (0:Rat).den,zl (0:Rat).den,zs (0:Rat).num,zl (0:Rat).num,zs (0:Rat).den,zl (0:Rat).den,zs (0:Rat).num,zl (0:Rat).num,zs (0:Rat).den,zl (0:Rat).den,zs X.num,zl X.num,zs X.den,zl X.den,zs Y.num,zl Y.num,zs Y.den,zl Y.den,zs Q.num,zl Q.num,zs Q.den,zl Q.den,.v (.bool cw),zs a.num,zl a.num,zs a.den,zl a.den,zs (0:Rat).num,zl (0:Rat).num,zs (0:Rat).den,zl (0:Rat).den,zs b.num,zl b.num,zs b.den,zl b.den,zs (0:Rat).num,zl (0:Rat).num,zs (0:Rat).den,zl (0:Rat).den,zs (0:Rat).num,zl (0:Rat).num,zs (0:Rat).den,zl (0:Rat).den,zs e.num,zl e.num,zs e.den,zl e.den,zs (0:Rat).num,zl (0:Rat).num,zs (0:Rat).den,zl (0:Rat).den,zs f.num,zl f.num,zs f.den,zl f.den,zs (0:Rat).num,zl (0:Rat).num,zs (0:Rat).den,zl (0:Rat).den,zs (0:Rat).num,zl (0:Rat).num,zs (0:Rat).den,zl (0:Rat).den]
instance ae7:DenI Tryz.prog 367 [] (True) (R 0):=⟨λhp=>by
 refine aB Tryz.func367 rfl ?_
 all_goals (repeat' ((try (conv=>whnf));first
  |refine ak ?_ ?_
  |refine Ends.mk ?_))
 all_goals (try refine Pr.mk ?_)
 all_goals first
  |rfl
  |omega⟩
instance acN(a:Rat):DenI Tryz.prog 358 [R a] (rz a≤4000000) (Q3 a 0 0):=⟨λhp=>by
 have i_a:RzB a 4000000:=⟨hp⟩
 all_goals refine aB Tryz.func358 rfl ?_
 all_goals (repeat' ((try (conv=>whnf));first
  |refine aI ?_
  |refine Drw.mk (by kernel_rfl) ?_
  |refine Ends.mk ?_))
 all_goals first
  |rfl⟩
instance ae4:DenI Tryz.prog 208 [] (True) (R 0):=⟨λhp=>by
 refine aB Tryz.func208 rfl ?_
 all_goals (repeat' ((try (conv=>whnf));first
  |refine ak ?_ ?_
  |refine Ends.mk ?_))
 all_goals (try refine Pr.mk ?_)
 all_goals first
  |rfl
  |omega⟩
instance aff(a b:Rat):DenI Tryz.prog 167 [Q2 a b] (rz a≤4000000∧rz b≤4000000) (Q5 a 0 b 0 0):=⟨λhp=>by
 have i_a:RzB a 4000000:=⟨hp.1⟩
 have i_b:RzB b 4000000:=⟨hp.2⟩
 all_goals refine aB Tryz.func167 rfl ?_
 all_goals (repeat' ((try (conv=>whnf));first
  |refine aI ?_
  |refine Drw.mk (by kernel_rfl) ?_
  |refine Ends.mk ?_))
 all_goals first
  |rfl⟩
instance aeU(a:Rat):DenI Tryz.prog 313 [R a,R 0,R 0] (rz a≤4000000) (Q3 a 0 0):=⟨λhp=>by
 have i_a:RzB a 4000000:=⟨hp⟩
 all_goals refine aB Tryz.func313 rfl ?_
 all_goals (repeat' ((try (conv=>whnf));first
  |refine aI ?_
  |(with_reducible refine au (λ_=>?_) (λ_=>?_))
  |refine Ends.mk ?_))
 all_goals (try simp only [gu] at *)
 all_goals first
  |rfl⟩
instance q_x(a d:Rat):DenI Tryz.prog 272 [Q5 a 0 d 0 0] (rz a≤4000000∧rz d≤4000000) (Q3 a 0 0):=⟨λhp=>by
 have i_a:RzB a 4000000:=⟨hp.1⟩
 have i_d:RzB d 4000000:=⟨hp.2⟩
 all_goals refine aB Tryz.func272 rfl ?_
 all_goals (repeat' ((try (conv=>whnf));first
  |refine ak ?_ ?_
  |refine Ends.mk ?_))
 all_goals (try refine Pr.mk ?_)
 all_goals first
  |rfl
  |((repeat' apply And.intro)<;>first|assumption|exact uF (by omega)|exact xA (by omega)|exact Int.mul_ne_zero (aG _) (aG _))⟩
instance q_y(a d:Rat):DenI Tryz.prog 273 [Q5 a 0 d 0 0] (rz a≤4000000∧rz d≤4000000) (Q3 d 0 0):=⟨λhp=>by
 have i_a:RzB a 4000000:=⟨hp.1⟩
 have i_d:RzB d 4000000:=⟨hp.2⟩
 all_goals refine aB Tryz.func273 rfl ?_
 all_goals (repeat' ((try (conv=>whnf));first
  |refine ak ?_ ?_
  |refine Ends.mk ?_))
 all_goals (try refine Pr.mk ?_)
 all_goals first
  |rfl
  |((repeat' apply And.intro)<;>first|assumption|exact uF (by omega)|exact xA (by omega)|exact Int.mul_ne_zero (aG _) (aG _))⟩
instance aem(a d:Rat):DenI Tryz.prog 271 [Q3 a 0 0,Q3 d 0 0] (rz a≤4000000∧rz d≤4000000) (.int .i64 (gG a d)):=⟨λhp=>by
 have i_a:RzB a 4000000:=⟨hp.1⟩
 have i_d:RzB d 4000000:=⟨hp.2⟩
 all_goals refine aB Tryz.func271 rfl ?_
 all_goals (repeat' ((try (conv=>whnf));first
  |refine aI ?_
  |refine ak ?_ ?_
  |(with_reducible refine aO ?_)
  |(with_reducible refine aT ?_)
  |(with_reducible refine au (λ_=>?_) (λ_=>?_))
  |refine Ends.mk ?_))
 all_goals (try refine Pr.mk ?_)
 all_goals (try simp only [gu] at *)
 all_goals first
  |rfl
  |((repeat' apply And.intro)<;>first|assumption|exact uF (by omega)|exact xA (by omega)|exact Int.mul_ne_zero (aG _) (aG _))
  |(exfalso;simp_all;done)⟩
instance adu(a d:Rat):DenI Tryz.prog 339 [Q3 a 0 0,R d] (rz a≤4000000∧rz d≤4000000) (.int .i64 (gG a d)):=⟨λhp=>by
 have i_a:RzB a 4000000:=⟨hp.1⟩
 have i_d:RzB d 4000000:=⟨hp.2⟩
 all_goals refine aB Tryz.func339 rfl ?_
 all_goals (repeat' ((try (conv=>whnf));first
  |refine ak ?_ ?_
  |refine Drw.mk (by kernel_rfl) ?_
  |refine Ends.mk ?_))
 all_goals (try refine Pr.mk ?_)
 all_goals first
  |rfl
  |((repeat' apply And.intro)<;>first|assumption|exact uF (by omega)|exact xA (by omega)|exact Int.mul_ne_zero (aG _) (aG _))⟩
instance adK(X Y Q x y:Rat):DenI Tryz.prog 314 [Q3 X Y Q,Q5 x 0 y 0 0] (rz X≤1000000∧rz Y≤1000000∧rz Q≤1000000∧rz x≤1000000∧rz y≤1000000) (.int .i64 (hf (X,Y) (x,y))):=⟨λhp=>by
 have i_X:RzB X 1000000:=⟨hp.1⟩
 have i_Y:RzB Y 1000000:=⟨hp.2.1⟩
 have i_Q:RzB Q 1000000:=⟨hp.2.2.1⟩
 have i_x:RzB x 1000000:=⟨hp.2.2.2.1⟩
 have i_y:RzB y 1000000:=⟨hp.2.2.2.2⟩
 all_goals refine aB Tryz.func314 rfl ?_
 all_goals (repeat' ((try (conv=>whnf));first
  |refine ak ?_ ?_
  |(with_reducible refine aO ?_)
  |(with_reducible refine aT ?_)
  |(with_reducible refine au (λ_=>?_) (λ_=>?_))
  |refine Drw.mk (by kernel_rfl) ?_
  |refine Ends.mk ?_))
 all_goals (try refine Pr.mk ?_)
 all_goals (try simp only [gu] at *)
 all_goals first
  |(refine iE ?_;unfold hf;grind)
  |((repeat' apply And.intro)<;>first|assumption|exact uF (by omega)|exact xA (by omega)|exact Int.mul_ne_zero (aG _) (aG _))⟩
instance acK(X Y Q x y u v:Rat):DenI Tryz.prog 277 [Q3 X Y Q,Q5 x 0 y 0 0,Q5 u 0 v 0 0] (rz X≤1000000∧rz Y≤1000000∧rz Q≤1000000∧rz x≤1000000∧rz y≤1000000∧rz u≤1000000∧rz v≤1000000) (.int .i64 (dU (X,Y) (x,y) (u,v))):=⟨λhp=>by
 have i_X:RzB X 1000000:=⟨hp.1⟩
 have i_Y:RzB Y 1000000:=⟨hp.2.1⟩
 have i_Q:RzB Q 1000000:=⟨hp.2.2.1⟩
 have i_x:RzB x 1000000:=⟨hp.2.2.2.1⟩
 have i_y:RzB y 1000000:=⟨hp.2.2.2.2.1⟩
 have i_u:RzB u 1000000:=⟨hp.2.2.2.2.2.1⟩
 have i_v:RzB v 1000000:=⟨hp.2.2.2.2.2.2⟩
 have z1:=zF (X,Y) (x,y);have z2:=zF (X,Y) (u,v);have z3:=zh x u
 all_goals refine aB Tryz.func277 rfl ?_
 all_goals (repeat' ((try (conv=>whnf));first
  |refine ak ?_ ?_
  |(with_reducible refine au (λ_=>?_) (λ_=>?_))
  |(with_reducible refine dn (λ_=>?_) (λ_=>?_))
  |refine Drw.mk (by kernel_rfl) ?_
  |refine Ends.mk ?_))
 all_goals (try refine Pr.mk ?_)
 all_goals first
  |(refine iE ?_;(try rw [bQ (by omega) (by omega)]);unfold dU;grind)
  |((repeat' apply And.intro)<;>first|assumption|exact uF (by omega)|exact xA (by omega)|exact Int.mul_ne_zero (aG _) (aG _))⟩
instance aeE(X Y Q x y u v:Rat):DenI Tryz.prog 275 [Q3 X Y Q,Q5 x 0 y 0 0,Q5 u 0 v 0 0] (rz X≤1000000∧rz Y≤1000000∧rz Q≤1000000∧rz x≤1000000∧rz y≤1000000∧rz u≤1000000∧rz v≤1000000) (.int .i64 (Gz (X,Y) (x,y) (u,v))):=⟨λhp=>by
 have i_X:RzB X 1000000:=⟨hp.1⟩
 have i_Y:RzB Y 1000000:=⟨hp.2.1⟩
 have i_Q:RzB Q 1000000:=⟨hp.2.2.1⟩
 have i_x:RzB x 1000000:=⟨hp.2.2.2.1⟩
 have i_y:RzB y 1000000:=⟨hp.2.2.2.2.1⟩
 have i_u:RzB u 1000000:=⟨hp.2.2.2.2.2.1⟩
 have i_v:RzB v 1000000:=⟨hp.2.2.2.2.2.2⟩
 all_goals refine aB Tryz.func275 rfl ?_
 all_goals (repeat' ((try (conv=>whnf));first
  |refine ak ?_ ?_
  |(with_reducible refine au (λ_=>?_) (λ_=>?_))
  |refine Ends.mk ?_))
 all_goals (try refine Pr.mk ?_)
 all_goals first
  |(refine iE ?_;unfold Gz;grind)
  |((repeat' apply And.intro)<;>first|assumption|exact uF (by omega)|exact xA (by omega)|exact Int.mul_ne_zero (aG _) (aG _))⟩
instance aeK(n:Int):DenI Tryz.prog 276 [.int .i64 n] (True) (.int .i64 (iK n)):=⟨λhp=>by
 refine aB Tryz.func276 rfl ?_
 all_goals (repeat' ((try (conv=>whnf));first
  |refine Ends.mk ?_))
 all_goals first
  |(refine iE ?_;simp only [List.foldl_cons,List.foldl_nil];unfold iK;(repeat' split)<;>omega)⟩
instance aer(X Y Q x y u v s t:Rat):DenI Tryz.prog 242 [Q3 X Y Q,Q5 x 0 y 0 0,Q5 u 0 v 0 0,Q5 s 0 t 0 0] (rz X≤1000000∧rz Y≤1000000∧rz Q≤1000000∧rz x≤1000000∧rz y≤1000000∧rz u≤1000000∧rz v≤1000000∧rz s≤1000000∧rz t≤1000000) (.int .i64 (zC (X,Y) (x,y) (u,v) (s,t))):=⟨λhp=>by
 have i_X:RzB X 1000000:=⟨hp.1⟩
 have i_Y:RzB Y 1000000:=⟨hp.2.1⟩
 have i_Q:RzB Q 1000000:=⟨hp.2.2.1⟩
 have i_x:RzB x 1000000:=⟨hp.2.2.2.1⟩
 have i_y:RzB y 1000000:=⟨hp.2.2.2.2.1⟩
 have i_u:RzB u 1000000:=⟨hp.2.2.2.2.2.1⟩
 have i_v:RzB v 1000000:=⟨hp.2.2.2.2.2.2.1⟩
 have i_s:RzB s 1000000:=⟨hp.2.2.2.2.2.2.2.1⟩
 have i_t:RzB t 1000000:=⟨hp.2.2.2.2.2.2.2.2⟩
 have z4:=Kr (X,Y) (x,y) (u,v);have z5:=Kr (X,Y) (x,y) (s,t)
 all_goals refine aB Tryz.func242 rfl ?_
 all_goals (repeat' ((try (conv=>whnf));first
  |refine aI ?_
  |refine ak ?_ ?_
  |(with_reducible refine dn (λ_=>?_) (λ_=>?_))
  |refine Drw.mk (by kernel_rfl) ?_
  |refine Ends.mk ?_))
 all_goals (try refine Pr.mk ?_)
 all_goals first
  |(refine iE ?_;unfold zC;rw [if_neg (by assumption),bQ (by omega) (by omega)])
  |(refine iE ?_;unfold zC;rw [if_pos (by assumption)])
  |((repeat' apply And.intro)<;>first|assumption|exact uF (by omega)|exact xA (by omega)|exact Int.mul_ne_zero (aG _) (aG _))⟩
instance aep(X Y Q a b e f:Rat):DenI Tryz.prog 274 [.agg (zL X Y Q true a b e f)] (rz X≤1000000∧rz Y≤1000000∧rz Q≤1000000∧rz a≤1000000∧rz b≤1000000∧rz e≤1000000∧rz f≤1000000) (.agg (zL X Y Q false e f a b)):=⟨λhp=>by
 have i_X:RzB X 1000000:=⟨hp.1⟩
 have i_Y:RzB Y 1000000:=⟨hp.2.1⟩
 have i_Q:RzB Q 1000000:=⟨hp.2.2.1⟩
 have i_a:RzB a 1000000:=⟨hp.2.2.2.1⟩
 have i_b:RzB b 1000000:=⟨hp.2.2.2.2.1⟩
 have i_e:RzB e 1000000:=⟨hp.2.2.2.2.2.1⟩
 have i_f:RzB f 1000000:=⟨hp.2.2.2.2.2.2⟩
 all_goals refine aB Tryz.func274 rfl ?_
 all_goals (repeat' ((try (conv=>whnf));first
  |(with_reducible refine aO ?_)
  |refine Ends.mk ?_))
 all_goals first
  |rfl⟩
instance acM(X Y Q a b e f:Rat):DenI Tryz.prog 241 [.agg (zL X Y Q true a b e f)] (rz X≤1000000∧rz Y≤1000000∧rz Q≤1000000∧rz a≤1000000∧rz b≤1000000∧rz e≤1000000∧rz f≤1000000) (.agg (zL X Y Q false e f a b)):=⟨λhp=>by
 have i_X:RzB X 1000000:=⟨hp.1⟩
 have i_Y:RzB Y 1000000:=⟨hp.2.1⟩
 have i_Q:RzB Q 1000000:=⟨hp.2.2.1⟩
 have i_a:RzB a 1000000:=⟨hp.2.2.2.1⟩
 have i_b:RzB b 1000000:=⟨hp.2.2.2.2.1⟩
 have i_e:RzB e 1000000:=⟨hp.2.2.2.2.2.1⟩
 have i_f:RzB f 1000000:=⟨hp.2.2.2.2.2.2⟩
 all_goals refine aB Tryz.func241 rfl ?_
 all_goals (repeat' ((try (conv=>whnf));first
  |refine ak ?_ ?_
  |(with_reducible refine aO ?_)
  |refine Ends.mk ?_))
 all_goals (try refine Pr.mk ?_)
 all_goals first
  |rfl
  |((repeat' apply And.intro)<;>first|assumption|exact uF (by omega)|exact xA (by omega)|exact Int.mul_ne_zero (aG _) (aG _))⟩
instance acE(X Y Q a b e f:Rat):DenI Tryz.prog 241 [.agg (zL X Y Q false a b e f)] (rz X≤1000000∧rz Y≤1000000∧rz Q≤1000000∧rz a≤1000000∧rz b≤1000000∧rz e≤1000000∧rz f≤1000000) (.agg (zL X Y Q false a b e f)):=⟨λhp=>by
 have i_X:RzB X 1000000:=⟨hp.1⟩
 have i_Y:RzB Y 1000000:=⟨hp.2.1⟩
 have i_Q:RzB Q 1000000:=⟨hp.2.2.1⟩
 have i_a:RzB a 1000000:=⟨hp.2.2.2.1⟩
 have i_b:RzB b 1000000:=⟨hp.2.2.2.2.1⟩
 have i_e:RzB e 1000000:=⟨hp.2.2.2.2.2.1⟩
 have i_f:RzB f 1000000:=⟨hp.2.2.2.2.2.2⟩
 all_goals refine aB Tryz.func241 rfl ?_
 all_goals (repeat' ((try (conv=>whnf));first
  |(with_reducible refine aT ?_)
  |refine Ends.mk ?_))
 all_goals first
  |rfl⟩
instance adU:DenI Tryz.prog 166 [] (True) (.agg [.v (.bool false),zs (0:Rat).num,zl (0:Rat).num,zs (0:Rat).den,zl (0:Rat).den,zs (0:Rat).num,zl (0:Rat).num,zs (0:Rat).den,zl (0:Rat).den,zs (0:Rat).num,zl (0:Rat).num,zs (0:Rat).den,zl (0:Rat).den,zs (0:Rat).num,zl (0:Rat).num,zs (0:Rat).den,zl (0:Rat).den,zs (0:Rat).num,zl (0:Rat).num,zs (0:Rat).den,zl (0:Rat).den,zs (0:Rat).num,zl (0:Rat).num,zs (0:Rat).den,zl (0:Rat).den,.v (.bool false),.v (.bool false),.sl 1 [],.v (.bool false),.sl 1 [],.v (.bool false),.sl 1 [],.v (.bool false),.sl 1 [],.v (.bool false),.sl 1 [],.v (.bool false),.sl 1 [],.v (.bool false),.sl 1 [],.v (.bool false),.sl 1 [],.v (.bool false),.sl 1 [],.v (.bool false),.sl 1 [],.v (.bool false),.sl 1 [],.v (.bool false),.sl 1 [],.v (.bool false),.sl 1 [],.v (.bool false),.sl 1 [],.v (.bool false),.sl 1 [],.v (.bool false),.sl 1 [],.v (.bool false),.sl 1 [],.v (.bool false),.sl 1 [],.v (.bool false),.sl 1 [],.v (.bool false),.sl 1 []]):=⟨λhp=>by
 refine aB Tryz.func166 rfl ?_
 all_goals (repeat' ((try (conv=>whnf));first
  |refine ak ?_ ?_
  |refine Ends.mk ?_))
 all_goals (try refine Pr.mk ?_)
 all_goals (try simp only [gu] at *)
 all_goals first
  |rfl
  |omega⟩
instance aeS(a b c d e f:Rat):DenC Tryz.prog 125 [Q2 a b,Q2 c d,Q2 e f] (rz a≤100∧rz b≤100∧rz c≤100∧rz d≤100∧rz e≤100∧rz f≤100) (cD a b c d e f=0) (.tup [.agg [.v (.bool false),.v (.bool false),.sl 1 [],.v (.bool false),.sl 1 [],.v (.bool false),.sl 1 [],.v (.bool false),.sl 1 [],.v (.bool false),.sl 1 [],.v (.bool false),.sl 1 [],.v (.bool false),.sl 1 [],.v (.bool false),.sl 1 [],.v (.bool false),.sl 1 [],.v (.bool false),.sl 1 [],.v (.bool false),.sl 1 [],.v (.bool false),.sl 1 [],.v (.bool false),.v (.bool false),.sl 1 [],.v (.bool false),.sl 1 [],.v (.bool false),.sl 1 [],.v (.bool false),.sl 1 [],.v (.bool false),.sl 1 [],.v (.bool false),.sl 1 [],.v (.bool false),.sl 1 [],.v (.bool false),.sl 1 [],.v (.bool false),.sl 1 [],.v (.bool false),.sl 1 [],.v (.bool false),.sl 1 [],.v (.bool false),.sl 1 [],.v (.bool false),.sl 1 [],.v (.bool false),.sl 1 [],.v (.bool false),.sl 1 [],.v (.bool false),.sl 1 [],.v (.bool false),.sl 1 [],.v (.bool false),.sl 1 [],.v (.bool false),.sl 1 [],.v (.bool false),.sl 1 []],.int .i64 6]) (.tup [.agg (zL (ctX (a,b) (c,d) (e,f)) (ctY (a,b) (c,d) (e,f)) (OX (a,b) (c,d) (e,f)) (!decide (0<cD a b c d e f)) a b e f),.int .i64 0]):=⟨UU λhp q e1 e2=>by
 have i_a:RzB a 100:=⟨hp.1⟩
 have i_b:RzB b 100:=⟨hp.2.1⟩
 have i_c:RzB c 100:=⟨hp.2.2.1⟩
 have i_d:RzB d 100:=⟨hp.2.2.2.1⟩
 have i_e:RzB e 100:=⟨hp.2.2.2.2.1⟩
 have i_f:RzB f 100:=⟨hp.2.2.2.2.2⟩
 all_goals refine aB Tryz.func125 rfl ?_
 all_goals (repeat' ((try (conv=>whnf));first
  |refine aI ?_
  |refine ak ?_ ?_
  |refine fO ?_ (λ_=>?_) (λ_=>?_)
  |(with_reducible refine dn (λ_=>?_) (λ_=>?_))
  |refine Drw.mk (by kernel_rfl) ?_
  |refine Ends.mk ?_))
 all_goals (try refine Pr.mk ?_)
 all_goals (try simp only [gu] at *)
 all_goals first
  |(exfalso;omega)
  |(exfalso;rename ¬True=>h;exact h trivial)
  |(rw [e2 (by unfold cD;assumption),cwF];rfl)
  |(rw [e1 (by unfold cD;assumption)];rfl)
  |((repeat' apply And.intro)<;>first|assumption|exact uF (by omega)|exact xA (by omega)|exact Int.mul_ne_zero (aG _) (aG _))⟩
instance ad7(X Y Q a b e f x y:Rat)(cw:Bool):DenI Tryz.prog 209 [.agg (zL X Y Q cw a b e f),Q5 x 0 y 0 0] (rz X≤7000∧rz Y≤7000∧rz Q≤27000∧rz a≤12∧rz b≤12∧rz e≤12∧rz f≤12∧rz x≤12∧rz y≤12) (.bool (decide (DK (X,Y) Q (x,y)))):=⟨λhp=>by
 obtain ⟨q0,q1,q2,q3,q4,q5,q6,q7,q8⟩:=hp;have i_X:RzB X 7000:=⟨q0⟩
 have i_Y:RzB Y 7000:=⟨q1⟩
 have i_Q:RzB Q 27000:=⟨q2⟩
 have i_a:RzB a 12:=⟨q3⟩
 have i_b:RzB b 12:=⟨q4⟩
 have i_e:RzB e 12:=⟨q5⟩
 have i_f:RzB f 12:=⟨q6⟩
 have i_x:RzB x 12:=⟨q7⟩
 have i_y:RzB y 12:=⟨q8⟩
 all_goals refine aB Tryz.func209 rfl ?_
 all_goals (repeat' ((try (conv=>whnf));first
  |refine ak ?_ ?_
  |(with_reducible refine aO ?_)
  |refine Ends.mk ?_))
 all_goals (try refine Pr.mk ?_)
 all_goals first
  |exact bE Vu
  |exact ⟨by assumption,by assumption,by assumption,by assumption,by assumption⟩⟩
instance ad6(X Y Q a b e f x y:Rat)(cw:Bool):DenI Tryz.prog 210 [.agg (zL X Y Q cw a b e f),Q5 x 0 y 0 0] (rz X≤7000∧rz Y≤7000∧rz Q≤27000∧rz a≤12∧rz b≤12∧rz e≤12∧rz f≤12∧rz x≤12∧rz y≤12) (.bool (decide ((if cw=true then zC (X,Y) (e,f) (x,y) (a,b) else zC (X,Y) (a,b) (x,y) (e,f))≤0))):=⟨λhp=>by
 obtain ⟨q0,q1,q2,q3,q4,q5,q6,q7,q8⟩:=hp;have i_X:RzB X 7000:=⟨q0⟩
 have i_Y:RzB Y 7000:=⟨q1⟩
 have i_Q:RzB Q 27000:=⟨q2⟩
 have i_a:RzB a 12:=⟨q3⟩
 have i_b:RzB b 12:=⟨q4⟩
 have i_e:RzB e 12:=⟨q5⟩
 have i_f:RzB f 12:=⟨q6⟩
 have i_x:RzB x 12:=⟨q7⟩
 have i_y:RzB y 12:=⟨q8⟩
 cases cw
 all_goals refine aB Tryz.func210 rfl ?_
 all_goals (repeat' ((try (conv=>whnf));first
  |refine ak ?_ ?_
  |refine OnB.mk (λ_=>?_) (λ_=>?_)
  |refine Ends.mk ?_))
 all_goals (try refine Pr.mk ?_)
 all_goals (try simp only [gu] at *)
 all_goals first
  |rfl
  |((repeat' apply And.intro)<;>first|assumption|exact uF (by omega)|exact xA (by omega)|exact Int.mul_ne_zero (aG _) (aG _))
  |(exfalso;simp_all;done)⟩
instance ae5(X Y Q a b e f x y:Rat)(cw:Bool):DenI Tryz.prog 168 [.agg (zL X Y Q cw a b e f),Q5 x 0 y 0 0] (rz X≤7000∧rz Y≤7000∧rz Q≤27000∧rz a≤12∧rz b≤12∧rz e≤12∧rz f≤12∧rz x≤12∧rz y≤12) (.bool (ZE (X,Y) Q cw (a,b) (e,f) (x,y))):=⟨λhp=>by
 obtain ⟨q0,q1,q2,q3,q4,q5,q6,q7,q8⟩:=hp;have i_X:RzB X 7000:=⟨q0⟩
 have i_Y:RzB Y 7000:=⟨q1⟩
 have i_Q:RzB Q 27000:=⟨q2⟩
 have i_a:RzB a 12:=⟨q3⟩
 have i_b:RzB b 12:=⟨q4⟩
 have i_e:RzB e 12:=⟨q5⟩
 have i_f:RzB f 12:=⟨q6⟩
 have i_x:RzB x 12:=⟨q7⟩
 have i_y:RzB y 12:=⟨q8⟩
 all_goals refine aB Tryz.func168 rfl ?_
 all_goals (repeat' ((try (conv=>whnf));first
  |refine ak ?_ ?_
  |(with_reducible refine aO ?_)
  |(with_reducible refine aT ?_)
  |(with_reducible refine au (λ_=>?_) (λ_=>?_))
  |refine Ends.mk ?_))
 all_goals (try refine Pr.mk ?_)
 all_goals first
  |(refine bE ?_;unfold ZE;have hk:decide (DK (X,Y) Q (x,y))=true:=decide_eq_true (by assumption);rw [hk];rfl)
  |(refine bE ?_;unfold ZE;have hk:decide (DK (X,Y) Q (x,y))=false:=decide_eq_false (by assumption);rw [hk];rfl)
  |((repeat' apply And.intro)<;>first|assumption|exact uF (by omega)|exact xA (by omega)|exact Int.mul_ne_zero (aG _) (aG _))⟩
end Go.Proofs.YtmniihkenijjpaaGreatDoor
namespace Go.Sw
open Go Go.RowKit
section
variable {P:Program} [Wld P] {τ:Tab}
theorem KJ{fn:Func}{os:List (Option (TypeId × Nat))}{r:AV}{N:Nat}{w:World}{X:List Nat}{x:Ex}{e:Env}{b:aJ}{a:Act}{w':World}[WOk P w](hτ:dG P τ=true)(hx:U4 τ fn os r x e b)(hc':Conc N w X e b a w'):bodyPost P fn (zy λu w1=>RepF w.heap.size w1 X u r∧Below w.heap.size w w1) x.x a w':=by
 obtain ⟨S,M,hs⟩:=hc';cases x with
 |normal=>cases hx
 |exit id=>cases hx
 |ret =>
  simp only [U4] at hx;obtain ⟨vs1,b',G,h1,h2,_,h4,_⟩:=qh (P:=P) hs hx;obtain ⟨us,vs',q1,q2,q3⟩:=TQ h4.at hτ h2 h4 h1;refine ⟨hs.df.1.1,(if h:us.toArray.size=1 then us.toArray[0] else .tuple us.toArray), ?_,_,rfl, ?_,hs.ms.st.below⟩
  ·rw [jd,Sem.run_bind,Array.mapM_eq_mapM_toList];simp [q2]
  ·rw [← q1.eq];refine aar q3 (λg hg=>?_) (h4.nd hs.ms);obtain ⟨p,hp,rfl⟩:=List.mem_map.1 hg;obtain ⟨m,k1,k2,k3,_⟩:=h4.at p hp;exact (hs.ms.st.box _ (hs.ms.inS p.1 m k1 k2 p.2 k3)).2
theorem MS.setG{w0 w:World}{S:List Bx}{M:MM}(h:MS w0 w S M){i:Nat}{m:MB}{g0:Nat}{es:Array MapEntry}{ck:Nat}(hm:M i=some m)(hmap:w.heap[g0]?=some (.map es ck))(hg0:w0.heap.size≤g0)(hfr:∀c mc x,M c=some mc→mc.gx=some x→x.2.1≠g0):MS w0 w S (M.set i { m with gx:=some ([],g0,es,ck) }):=by
 have hset:∀c mc,M.set i { m with gx:=some ([],g0,es,ck) } c=some mc→(c=i∧mc = { m with gx:=some ([],g0,es,ck) })∨(c≠i∧M c=some mc):=λc mc hc=>by
  by_cases hci:c=i
  ·subst hci;rw [MM.set_same] at hc;cases hc;exact .inl ⟨rfl,rfl⟩
  ·rw [MM.set_other _ _ hci] at hc;exact .inr ⟨hci,hc⟩
 have hown:∀c mc,M.set i { m with gx:=some ([],g0,es,ck) } c=some mc→∃m2,M c=some m2∧mc.own=m2.own∧mc.g=m2.g∧mc.T=m2.T∧mc.us=m2.us:=λc mc hc=>by
  rcases hset c mc hc with ⟨rfl,rfl⟩|⟨_,h5⟩
  ·exact ⟨m,hm,rfl,rfl,rfl,rfl⟩
  ·exact ⟨mc,h5,rfl,rfl,rfl,rfl⟩
 refine ⟨h.st,⟨λc mc x hc hx=>?_,λc mc x c' mc' g hc hx hc' ho hg q hq=>?_,λc mc x c' mc' x' hc hx hc' hx' he=>?_⟩,λc mc hc ho g hg=>?_,λc c' mc mc' g hc hc' ho ho' hg hg'=>?_⟩
 ·rcases hset c mc hc with ⟨rfl,rfl⟩|⟨_,h5⟩
  ·simp only [Option.some.injEq] at hx;subst hx;exact ⟨λq hq=>(by cases hq),hmap,hg0,List.Pairwise.nil⟩
  ·exact h.gh.inS c mc x h5 hx
 ·obtain ⟨m2,h6,e1,e2,_,_⟩:=hown c' mc' hc';rcases hset c mc hc with ⟨rfl,rfl⟩|⟨_,h5⟩
  ·simp only [Option.some.injEq] at hx;subst hx;cases hq
  ·exact h.gh.own c mc x c' m2 g h5 hx h6 (e1 ▸ ho) (e2 ▸ hg) q hq
 ·rcases hset c mc hc with ⟨rfl,rfl⟩|⟨h4,h5⟩<;>rcases hset c' mc' hc' with ⟨rfl,rfl⟩|⟨h6,h7⟩
  ·rfl
  ·simp only [Option.some.injEq] at hx;subst hx;rcases he with he|⟨q,hq,_⟩
   ·exact (hfr c' mc' x' h7 hx' he.symm).elim
   ·cases hq
  ·simp only [Option.some.injEq] at hx';subst hx';rcases he with he|⟨q,hq,q',hq',_⟩
   ·exact (hfr c mc x h5 hx he).elim
   ·cases hq'
  ·exact h.gh.uni c mc x c' mc' x' h5 hx h7 hx' he
 ·obtain ⟨m2,h6,e1,e2,e3,e4⟩:=hown c mc hc;rw [e3,e4];exact h.inS c m2 h6 (e1 ▸ ho) g (e2 ▸ hg)
 ·obtain ⟨m2,h5,e1,e2,_,_⟩:=hown c mc hc;obtain ⟨m3,h6,f1,f2,_,_⟩:=hown c' mc' hc';exact h.inj c c' m2 m3 g h5 h6 (e1 ▸ ho) (f1 ▸ ho') (e2 ▸ hg) (f2 ▸ hg')
variable [Kp] {N:Nat} {w0:World} {X0:List Nat} {S:List Bx} {M:MM} {e:Env} {b:aJ} {a:Act} {w:World}
theorem Sta.below(h:Sta N w0 X0 S M a w e b){w':World}(hB:Below w.heap.size w w'):Sta N w0 X0 S M a w' e b:=by
 have hx:=Ext.call (bl S++X0) hB
 exact ⟨h.ms.call hB,h.x0,h.sz,⟨h.df.1,h.df.2.ext hx⟩,λt v hv=>(h.env t v hv).ext hx λi _ m hm=>⟨m,hm,Comp.refl m⟩,λi x hx'=>by
  obtain ⟨m,h1,h2⟩:=h.box i x hx'
  exact ⟨m,h1,h2.ext0 hx⟩⟩
theorem Sta.putV(h:Sta N w0 X0 S M a w e b){t:Nat}{u:Value}{v:AV}(ht:DL N t)(hv:RepV w (bl S++X0) M u v):Sta N w0 X0 S M (a.put (some t) u) w ((t,v) :: e) b:=by
 refine ⟨h.ms,h.x0,by simp [Act.put,h.sz],⟨oZ h.df.1 ht,h.df.2⟩,λs x hx=>?_,h.box⟩
 by_cases hs:t=s
 ·subst hs;rw [aK] at hx;cases hx;rw [bV u h.sz ht.1];exact hv
 ·rw [aY _ _ hs] at hx;rw [bn u hs];exact h.env s x hx
theorem Sta.frm(h:Sta N w0 X0 S M a w e b):Frm N a []:=⟨h.sz,h.df.1.1,λt v h=>by simp [lk] at h⟩
theorem Sta.ghost0{a0:Act}{e0:Env}{w1:World}{i:Nat}{T:TypeId}{us:List Value}{G:Gho}{g0:Nat}(hs:Sta N w0 X0 S M a0 w e0 b)(h:Sta N w0 X0 S M a w1 e b)(hg0:w.heap.size≤g0)(hm:w1.heap[g0]?=some (.map #[] 0))(hi:ld i b=none)(hie:mention [i] e=false)(hib:gB [i] b=false)(hiN:DL N i)
 (hG:G.rep w1 (bl S++X0) us [] (g0,#[],0)):Conc N w0 X0 ((i,.ptr i 0) :: e) ((i,.gh G) :: b) (a.put (some i) (.pointer (some ⟨w1.heap.size,0,none⟩))) (w1.alloc (.cells us.toArray T)):=by
 have hms:=h.ms.alloc (i:=i) (m:=⟨true,true,some w1.heap.size,T,0,0,0,us,none⟩) rfl rfl rfl rfl;have hext:Ext w1 (bl S++X0) (w1.alloc (.cells us.toArray T)) (bl ((w1.heap.size,T,us.toArray) :: S)++X0):=Ext.alloc _ _ _
 have hms2:=hms.setG (MM.set_same _ _ _) (g0:=g0) (es:=#[]) (ck:=0) ((Below.heap_alloc w1 _ g0 (lt_of_heap hm)).trans hm) (Nat.le_trans hs.ms.st.below.size hg0) (λc mc x hc hx he=>by
  by_cases hci:c=i
  ·subst hci;rw [MM.set_same] at hc;cases hc;cases hx
  ·rw [MM.set_other _ _ hci] at hc;have:=lt_of_heap (hs.ms.gh.inS c mc x hc hx).2.1
   omega)
 have hM:∀c,c≠i→∀m,M c=some m→((M.set i ⟨true,true,some w1.heap.size,T,0,0,0,us,none⟩).set i ⟨true,true,some w1.heap.size,T,0,0,0,us,some ([],g0,#[],0)⟩) c=some m:=λc hc m hm=>by
  rw [MM.set_other _ _ hc,MM.set_other _ _ hc];exact hm
 refine ⟨_,_,hms2,h.x0,by simp [Act.put,h.sz],⟨oZ h.df.1 hiN,h.df.2.ext hext⟩,λt v hv=>?_,λc x hx=>?_⟩
 ·by_cases hti:i=t
  ·subst hti;rw [aK] at hv;cases hv;rw [bV _ h.sz hiN.1];exact .ptr (MM.set_same _ _ _) rfl rfl
  ·rw [aY _ _ hti] at hv;rw [bn _ hti];exact (h.env t v hv).ext hext λj hj m hm=>⟨m,hM j (λe=>by subst e;exact jC hie hv j hj (by simp)) m hm,Comp.refl m⟩
 ·by_cases hci:i=c
  ·subst hci;rw [aK] at hx;cases hx;exact ⟨_,MM.set_same _ _ _,rfl,rfl,⟨_,rfl⟩,_,rfl,G.ext hG hext⟩
  ·rw [aY _ _ hci] at hx;obtain ⟨m,h1,h2⟩:=h.box c x hx;exact ⟨m,hM c (λe=>hci e.symm) m h1,h2.ext hext λd hd mc hmc=>⟨mc,hM d (λe=>by subst e;exact jc hib c x hx d hd (by simp)) mc hmc,Comp.refl mc⟩⟩
end
end Go.Sw
namespace Go.Sw
open Go Go.RowKit
section
variable {P:Program} [Wld P] {a:Act} {w:World}
theorem acr{ops:Array Oper}{Q:Exit→Act→World→Prop}{o:Oper}{rest:List Oper}{f:FuncId}{vs:Array Value}{R:Value→World→Prop}(hg:o.guard=none)(hr:(execOp a.eval o).run P w=.ok (.enter f vs) w)(hc:Calls P f vs w (zy R))(k:∀u w',R u w'→wpList P ops Q rest (a.put o.dst u) w'):wpList P ops Q (o :: rest) a w :=
 wpList_plain hg λK hK=>Does.wp (R:=R) (.inr (.inr ⟨f,vs,hr,hc⟩)) (λu w' h=>hK _ _ (k u w' h))
theorem Fz{t:TypeId}{z:List Cell}(htt:fD P t (.row 5 [(0,1,false),(1,4,true)] z)=true)(hzl:z.length=5){g0:Nat}{us:List Value}(hl:us.length=4):(Instr.build t #[(0,.map (some g0)),(1,.agg us.toArray)]).run P w=.ok (.agg (#[.map (some g0)]++us.toArray)) w:=by
 obtain ⟨fl,hun,hfl⟩:=rowT htt;obtain ⟨zz,hz,hzz⟩:=uz htt rfl;have hzr:=(je w [] hzz).len
 match us,hl with
 |[x0,x1,x2,x3],_ =>
 obtain ⟨zl⟩:=zz;have hzl':zl.length=5:=by simpa [hzl,zeroCells] using hzr
 match zl,hzl' with
 |[y0,y1,y2,y3,y4],_ =>
 unfold zeroOf at hz;cases hq:P.info? t with
 |none=>simp [hq] at hz
 |some i =>
  cases hzi:i.zero with
  |none=>simp [hq,hzi] at hz
  |some v =>
   simp [hq,hzi] at hz;have hr:=run_places (w:=w) hfl
   have hr':(fl.mapM (m:=Sem) λf=>Prod.mk f.offset <$> sizeOf f.type).run P w=.ok #[(0,1),(1,4)] w:=by
    rw [Array.mapM_eq_mapM_toList];simp [hr]
   have h1':Instr.fill (λi=>(#[(0,1),(1,4)]:Array (Nat × Nat))[i]?) v.cells [(0,.map (some g0)),(1,.agg #[x0,x1,x2,x3])]=some #[.map (some g0),x0,x1,x2,x3]:=by
    rw [hz];simp [Instr.fill,Value.cells,show Array.range 4 = #[0,1,2,3] by decide,show Array.range 1 = #[0] by decide]
   simp only [Instr.build,zeroValue,typeInfo,Sem.run_bind];simp [hq,hzi,run_underlying hun,hr'];simp at h1';simp [h1']
theorem acv{α β:Type}{f:α→β}{x y:α}{u v:β}(h1:f x=u)(h2:f y=v):#[x,y].map f = #[u,v]:=by simp [h1,h2]
variable [Kp] {N:Nat} {w0:World} {X0:List Nat} {S:List Bx} {M:MM} {e:Env} {b:aJ}
theorem Sta.var(h:Sta N w0 X0 S M a w e b){t i:Nat}{cs:List Cell}(hx:ld t e=some (.ptr i 0))(hb:ld i b=some (.var cs)):∃g T us,a.tmps.getD t undef=.pointer (some ⟨g,0,none⟩)∧w.heap[g]?=some (.cells us T (0,0))∧RepL w (bl S++X0) us.toList cs:=by
 obtain ⟨m,g,hm,hv,hg,hxe⟩:=(h.env t _ hx).ptr_;obtain ⟨m',hm',h1,h2,⟨g',h3⟩,h4⟩:=h.box i _ hb;rw [hm] at hm';cases hm';have h8:=h.ms.st.box _ (h.ms.inS i m hm h2 g hg);exact ⟨g,m.T,_,hxe,h8.1,by simpa using h4⟩
theorem RepF.agg{B:Nat}{w:World}{X:List Nat}{u:Value}{cs:List Cell}(h:RepF B w X u (.agg cs)):∃us:List Value,u=.agg us.toArray∧RepL w X us cs:=by
 cases h.r with
 |d h=>cases h with
  |agg h=>exact ⟨_,rfl,h⟩
end
theorem FW(w:World)(o:Obj):Below w.heap.size w (w.alloc o):=⟨rfl,rfl,rfl,(by show w.heap.size≤(w.heap.push _).size;rw [Array.size_push];omega),λk hk=>Below.heap_alloc w o k hk⟩
theorem P9(w:World)(o:Obj):(w.alloc o).heap[w.heap.size]?=some o:=Array.getElem?_push_size
theorem aaQ{P:Program}{kT T:TypeId}{s:Nat}{sq:List Cell}{w:World}{X:List Nat}{us:List Value}{g0 n:Nat}(h:RepL w X us sq):Tm P kT T s ⟨sq,λ_=>[],n⟩ w X (.map (some g0) :: us) [] (g0,#[],0) :=
 ⟨us,rfl,h,⟨Nat.zero_le _,⟨λ_ h=>(by simp at h),by simp,by simp⟩,λ_ h=>(by simp at h)⟩,Nat.zero_le _,λ_ => .slice none 0 0,λ_=>none,λk=>rfl,λk => .no,λ_ _ _ h=>by cases h⟩
end Go.Sw
namespace Go.Sw
open Go Go.RowKit
section
variable {P:Program} [Wld P] [Kp] {N:Nat} {w0:World} {X0:List Nat} {S:List Bx} {M:MM} {e:Env} {b:aJ} {a:Act} {w:World}
theorem Sta.varo(h:Sta N w0 X0 S M a w e b){i:Nat}{T:TypeId}{us:List Value}{cs:List Cell}(hi:ld i b=none)(hie:mention [i] e=false)(hib:gB [i] b=false)(hic:i ∉ jh cs)(hiN:DL N i)
 (hO:RepO w (bl S++X0) M us cs):Conc N w0 X0 ((i,.ptr i 0) :: e) ((i,.varo cs) :: b) (a.put (some i) (.pointer (some ⟨w.heap.size,0,none⟩))) (w.alloc (.cells us.toArray T)):=by
 have hms:=h.ms.alloc (i:=i) (m:=⟨true,true,some w.heap.size,T,0,0,0,us,none⟩) rfl rfl rfl rfl;have hext:Ext w (bl S++X0) (w.alloc (.cells us.toArray T)) (bl ((w.heap.size,T,us.toArray) :: S)++X0):=Ext.alloc _ _ _
 have hM:∀c,c≠i→∀m,M c=some m→(M.set i ⟨true,true,some w.heap.size,T,0,0,0,us,none⟩) c=some m:=λc hc m hm=>by
  rw [MM.set_other _ _ hc];exact hm
 refine ⟨_,_,hms,h.x0,by simp [Act.put,h.sz],⟨oZ h.df.1 hiN,h.df.2.ext hext⟩,λt v hv=>?_,λc x hx=>?_⟩
 ·by_cases hti:i=t
  ·subst hti;rw [aK] at hv;cases hv;rw [bV _ h.sz hiN.1];exact .ptr (MM.set_same _ _ _) rfl rfl
  ·rw [aY _ _ hti] at hv;rw [bn _ hti];exact (h.env t v hv).ext hext λj hj m hm=>⟨m,hM j (λe=>by subst e;exact jC hie hv j hj (by simp)) m hm,Comp.refl m⟩
 ·by_cases hci:i=c
  ·subst hci;rw [aK] at hx;cases hx;exact ⟨_,MM.set_same _ _ _,rfl,rfl,⟨_,rfl⟩,hO.ext hext λd hd mc hmc=>⟨mc,hM d (λe=>by subst e;exact hic hd) mc hmc,Comp.refl mc⟩⟩
  ·rw [aY _ _ hci] at hx;obtain ⟨m,h1,h2⟩:=h.box c x hx;exact ⟨m,hM c (λe=>hci e.symm) m h1,h2.ext hext λd hd mc hmc=>⟨mc,hM d (λe=>by subst e;exact jc hib c x hx d hd (by simp)) mc hmc,Comp.refl mc⟩⟩
end
end Go.Sw
namespace Go.Sw
open Go Go.RowKit
def UF:Nat→Code→Code
 |n+1,.seq x y => .seq x (UF n y)
 |_,_ => .skip
def Wj:Nat→Code→Code
 |n+1,.seq x y=>Wj n y
 |_,c=>c
section
variable {P:Program} [Wld P] [Kp] {τ:Tab} {N:Nat} {w0:World} {X0:List Nat} [hwo:WOk P w0]
theorem QT(hτ:dG P τ=true)(hm:P.follows .mixedOrders=true):∀(n:Nat) (c:Code) {QA:Ex→Env→aJ→Prop} {Q:Exit→Act→World→Prop} {e:Env} {b:aJ} {a:Act} {w:World},gY N (UF n c)=true→zB (Den P) τ (UF n c) QA e b→Conc N w0 X0 e b a w →
 (∀e b a w,QA .normal e b→Conc N w0 X0 e b a w→(Wj n c).wp P Q a w)→(∀x e b a w,x ≠ .normal→QA x e b→Conc N w0 X0 e b a w→Q x.x a w)→c.wp P Q a w
 |0,c,QA,Q,e,b,a,w,ht,hk,hc,h1,h2=>by
  have hk':QA .normal e b:=by cases c<;>exact hk
  have:=h1 e b a w hk' hc;cases c<;>exact this
 |n+1,c,QA,Q,e,b,a,w,ht,hk,hc,h1,h2=>by
  cases c with
  |seq x y =>
   simp only [UF,gY,Bool.and_eq_true] at ht;refine aC (jk hτ hm x ht.1 hk hc λz e b a w hz hc=>?_);cases z with
   |normal=>exact dh (QT hτ hm n y ht.2 hz hc h1 h2)
   |ret=>exact MR (h2 .ret _ _ _ _ (by intro h;cases h) hz hc)
   |exit id=>exact pz (h2 (.exit id) _ _ _ _ (by intro h;cases h) hz hc)
  |_=>exact h1 e b a w hk hc
end
section
variable {P:Program} [Wld P] [Kp] {N:Nat} {w0:World} {X0:List Nat} {e:Env} {b:aJ} {a:Act} {w:World}
theorem Conc.ghostF(h:Conc N w0 X0 e b a w){i j T s k:Nat}{cs:List Cell}(hb:ld j b=some (.var cs))(hk:cs[k]?=some (.v (.slice none 0 0)))(hie:mention [i] e=false)(hi:ld i b=none)(hs:0<s)(hib:gB [i] b=false):Conc N w0 X0 e ((i,.grow T s []) :: up j (.varo (cs.set k (.ob i 0))) b) a w:=by
 obtain ⟨S,M,h⟩:=h;have hij:i≠j:=λe=>by subst e;rw [hi] at hb;cases hb
 have hM:∀c,c≠i→∀m,M c=some m→(M.set i ⟨false,true,none,T,s,0,0,[],none⟩) c=some m:=λc hc m hm=>by rw [MM.set_other _ _ hc];exact hm
 refine ⟨S,M.set i ⟨false,true,none,T,s,0,0,[],none⟩,⟨h.ms.st,h.ms.gh.set (λx hx=>by cases hx) (λ_ _ _ _ _ _ _ h=>h) (λ_ _ _ h=>h) (λg' h1 h2=>by cases h2),λc mc hc hco gc hgc=>?_,λc c' mc mc' gc h1 h2 h3 h4 h5 h6=>?_⟩,h.x0,h.sz,h.df,λc v hv=>?_,λc x hx=>?_⟩
 ·by_cases hci:c=i
  ·subst hci;rw [MM.set_same] at hc;cases hc;cases hgc
  ·rw [MM.set_other _ _ hci] at hc;exact h.ms.inS c mc hc hco gc hgc
 ·by_cases hci:c=i
  ·subst hci;rw [MM.set_same] at h1;cases h1;cases h5
  ·by_cases hci':c'=i
   ·subst hci';rw [MM.set_same] at h2;cases h2;cases h6
   ·rw [MM.set_other _ _ hci] at h1;rw [MM.set_other _ _ hci'] at h2;exact h.ms.inj c c' mc mc' gc h1 h2 h3 h4 h5 h6
 ·refine (h.env c v hv).ext (Ext.refl _ _) λj hj m hm'=>⟨m, ?_,Comp.refl m⟩
  have hne:j≠i:=λe=>by subst e;exact jC hie hv j hj (by simp)
  rw [MM.set_other _ _ hne];exact hm'
 ·by_cases hci:i=c
  ·subst hci;rw [aK] at hx;cases hx;exact ⟨_,MM.set_same _ _ _,rfl,rfl,rfl,⟨rfl,hs⟩,rfl,.inl ⟨rfl,rfl,rfl⟩⟩
  ·rw [aY _ _ hci,nC] at hx
   by_cases hcj:j=c
   ·subst hcj;simp only [beq_self_eq_true,Nat.beq_refl,cond_true,if_true] at hx;cases hx;obtain ⟨m,h1,q1,q2,q3,q4⟩:=h.box j _ hb;refine ⟨m,hM j (λe=>hij e.symm) m h1,q1,q2,q3,by rw [q4.len,List.length_set],λt u c hu hc=>?_⟩
    by_cases htk:t=k
    ·subst htk;have hlt:t<cs.length:=(List.getElem?_eq_some_iff.1 hk).1;rw [List.getElem?_set_self hlt] at hc;cases hc;have h5:=q4.get t u _ hu hk;have h6:u=.slice none 0 0:=by cases h5 with|v u h=>rfl
     subst h6;exact .ob (.gs (MM.set_same _ _ _) rfl (Nat.le_refl _) (λ_=>rfl) ⟨_,_,rfl⟩) rfl
    ·rw [List.getElem?_set_ne (λe=>htk e.symm)] at hc;exact .c (q4.get t u c hu hc)
   ·have hne:ld c b=some x:=by rwa [if_neg (λe=>hcj e.symm)] at hx
    obtain ⟨m,h1,h2⟩:=h.box c x hne;exact ⟨m,hM c (λe=>hci e.symm) m h1,h2.ext (Ext.refl _ _) λd hd mc hmc=>⟨mc,hM d (λe=>by subst e;exact jc hib c x hne d hd (by simp)) mc hmc,Comp.refl mc⟩⟩
end
end Go.Sw
namespace Go.Sw
open Go
def jZ(tol:Rat)(es:List Ent):List (Ent × Nat):=(dB (tol*tol) 0 [] es).es.zipIdx
def jK(tol:Rat)(es:List Ent):List (Ent × Nat):=rD (jZ tol es)
def jL(tol:Rat)(es:List Ent):List (Ent × Nat):=y9 (jK tol es)
def Ed(tol:Rat)(es:List Ent)(x:Nat):List Chn:=(dB (tol*tol) 0 [] es).cs++pF (jZ tol es)++NR (jK tol es) x
theorem WB(tol:Rat)(es:List Ent):Ed tol es 0=(dB (tol*tol) 0 [] es).cs++pF (jZ tol es):=by unfold Ed NR;simp
theorem Jd(tol:Rat)(es:List Ent):(jZ tol es).length=es.length:=by unfold jZ;rw [List.length_zipIdx,Ae]
theorem Hy(tol:Rat)(es:List Ent):(jK tol es).length≤es.length:=by
 have:=(CX (jZ tol es) (jZ tol es).length).1;rw [J7,Jd] at this;exact this
theorem NV(tol:Rat)(es:List Ent):(jL tol es).length≤es.length:=by
 have:=(Dq (jK tol es) (jK tol es).length).1;rw [BL] at this;have h2:=Hy tol es;exact Nat.le_trans this h2
theorem V7{tol:Rat}{es:List Ent}(h:∀e∈es,okV e):∀x∈jZ tol es,okV x.1:=λx hx=>Yt h _ (zip_fst hx)
theorem V8{tol:Rat}{es:List Ent}(h:∀e∈es,okV e):∀x∈jK tol es,okV x.1:=Vm (V7 h)
theorem aae{tol:Rat}{es:List Ent}(h:∀e∈es,okV e):∀x∈jL tol es,okV x.1:=left_ok (V8 h)
theorem Lc{tol:Rat}{es:List Ent}(h:∀e∈es,okV e)(x:Nat):(dB (tol*tol) 0 [] es).cs.length≤2*es.length∧(pF (jZ tol es)).length≤es.length∧(Ed tol es x).length≤4*es.length:=by
 have h1:=Jk (q:=bJ) (sq:=tol*tol) (es:=es) (λe he=>(h e he).2.1) es.length (Nat.le_refl _);have h2:=J5 es es.length;rw [BD] at h1;have h3:=(CX (jZ tol es) (jZ tol es).length).2;rw [Jv,Jd] at h3;have h4:=(Dq (jK tol es) x).2;have h5:=Hy tol es;have h6:=h1.2.2.2.1;refine ⟨by omega,h3, ?_⟩;unfold Ed;rw [List.length_append,List.length_append];omega
theorem Ii(tol:Rat)(es:List Ent):(bT (tol*tol) es).es=(jL tol es).map (·.1)∧(bT (tol*tol) es).cs=Ed tol es (jK tol es).length++Kt (jL tol es):=by
 refine ⟨rfl, ?_⟩;unfold Ed;rw [U7];rfl
theorem Vz{tol:Rat}{es:List Ent}(h:es.length≤12)(h4:∀e∈es,okV e):(bT (tol*tol) es).cs.length≤1000:=by
 rw [(Ii tol es).2];have h1:=(Lc (tol:=tol) h4 (jK tol es).length).2.2;have h2:=wZ (jL tol es) (jL tol es).length (Nat.le_refl _);have h3:=NV tol es;rw [Ld] at h2;rw [List.length_append];omega
theorem aa4{tol:Rat}{es:List Ent}{x:Nat}(h:x<(jK tol es).length)(hb:(dW ((jK tol es).map (·.1))).getD x false=true):GZ (jK tol es) (x+1)=GZ (jK tol es) x∧Ed tol es (x+1)=Ed tol es x++[⟨3,((jK tol es).getD x N0).2,0,none,none⟩]:=by
 obtain ⟨h1,h2⟩:=Zw h hb;refine ⟨h1, ?_⟩;unfold Ed;rw [h2,List.append_assoc,List.append_assoc,List.append_assoc]
theorem abA{tol:Rat}{es:List Ent}{x:Nat}(h:x<(jK tol es).length)(hb:(dW ((jK tol es).map (·.1))).getD x false=false):GZ (jK tol es) (x+1)=GZ (jK tol es) x++[(jK tol es).getD x N0]∧Ed tol es (x+1)=Ed tol es x:=by
 obtain ⟨h1,h2⟩:=aaM h hb;refine ⟨h1, ?_⟩;unfold Ed;rw [h2]
theorem LD{l:List (Ent × Nat)}{x:Nat}(h:x<l.length):((l.take (x+1)).map (·.1)).map dD=((l.take x).map (·.1)).map dD++[dD (l.getD x N0).1]:=by
 rw [adA h,List.map_append];rfl
def C0:Chn:=⟨0,0,0,none,none⟩
def RG(cs:List Chn):Bool:=cs.all λc=>decide (c.kind=4)
def Wh(cs:List Chn):Int:=match H6 cs.length (λi=>if (cs.getD i C0).kind=4 then none else some i) with
 |some i=>((i:Nat):Int)
 |none=>-1
theorem YD{cs:List Chn}{x:Nat}(hx:x<cs.length)(h:∀j<x,(cs.getD j C0).kind=4)(h1:¬(cs.getD x C0).kind=4):Wh cs=(x:Nat):=by
 unfold Wh;rw [sO (x:=x) (r:=x) hx (λj hj=>by rw [if_pos (h j hj)]) (by rw [if_neg h1])]
theorem aa5{cs:List Chn}(h:∀j<cs.length,(cs.getD j C0).kind=4):Wh cs = -1:=by
 unfold Wh;rw [qp (λj hj=>by rw [if_pos (h j hj)])]
theorem ZI(cs:List Chn):decide (Wh cs≥0) = !RG cs:=by
 unfold RG;cases e:H6 cs.length (λi=>if (cs.getD i C0).kind=4 then none else some i) with
 |none =>
  have h1:=Xu e
  have h2:(cs.all λc=>decide (c.kind=4))=true:=by
   rw [List.all_eq_true];intro c hc;obtain ⟨j,hj,rfl⟩:=List.getElem_of_mem hc;have h3:=h1 j hj;have e1:cs.getD j C0=cs[j]:=by simp [List.getD_eq_getElem?_getD,hj]
   rw [e1] at h3;split at h3
   ·rename_i g;simpa using g
   ·cases h3
  rw [h2];unfold Wh;rw [e];rfl
 |some i =>
  obtain ⟨j,hj,h3⟩:=YV e
  have h2:(cs.all λc=>decide (c.kind=4))=false:=by
   rw [List.all_eq_false];have e1:cs.getD j C0=cs[j]:=by simp [List.getD_eq_getElem?_getD,hj]
   rw [e1] at h3;split at h3
   ·cases h3
   ·rename_i g;exact ⟨cs[j],List.getElem_mem hj,by simpa using g⟩
  rw [h2];unfold Wh;rw [e];simp
@[reducible] def Gm(x y u v:Int):Ent:=⟨1,⟨#[97]⟩,[((x:Rat),(y:Rat)),((u:Rat),(v:Rat))],⟨false,[],false,[]⟩⟩
def kE(x:Int):Prop:=-9223372036854775808≤x∧x≤9223372036854775807
theorem DJ{x y u v:Int}(h1:kE x)(h2:kE y)(h3:kE u)(h4:kE v):okV (Gm x y u v)∧Ey (nT (Gm x y u v)):=by
 have z1:=MW x h1.1 h1.2;have z2:=MW y h2.1 h2.2;have z3:=MW u h3.1 h3.2;have z4:=MW v h4.1 h4.2
 have hs:∀q:Rat,rz q≤4→NM (uf q):=λq h=>by
  have e1:(lim q.num.natAbs).length≤rz q:=kQ q;have e2:(lim (q.den:Int).natAbs).length≤rz q:=mF q;exact ⟨by show (lim q.num.natAbs).length≤6;omega,by show (lim (q.den:Int).natAbs).length≤6;omega⟩
 refine ⟨⟨.inl ⟨rfl,rfl⟩,λp hp=>?_,by show (ByteArray.mk #[97]).size≤1000;decide,by show 2≤3;decide⟩,λp hp=>?_,⟨Nat.zero_le 6,Nat.zero_le 6⟩,by show 2≤5;decide,by show (ByteArray.mk #[97]).size≤60;decide⟩
 ·have hp':p=((x:Rat),(y:Rat))∨p=((u:Rat),(v:Rat)):=by simpa using hp
  rcases hp' with rfl|rfl
  ·exact ⟨Nat.le_trans z1 (by decide),Nat.le_trans z2 (by decide)⟩
  ·exact ⟨Nat.le_trans z3 (by decide),Nat.le_trans z4 (by decide)⟩
 ·have hp':p=(uf (x:Rat),uf (y:Rat))∨p=(uf (u:Rat),uf (v:Rat)):=by simpa [nT] using hp
  rcases hp' with rfl|rfl
  ·exact ⟨hs _ z1,hs _ z2⟩
  ·exact ⟨hs _ z3,hs _ z4⟩
def aw1:List Ent:=[Gm 0 0 1000 0,Gm 1003 0 0 1000,Gm 0 1004 0 0]
def aw2:List Ent:=[Gm 0 0 2 0]
@[reducible] def aLL:List LayD:=[⟨⟨#[97]⟩,1,1000⟩]
theorem vw:(∀e∈aw1,okV e)∧∀e∈aw1,Ey (nT e):=by
 have h1:=DJ (x:=0) (y:=0) (u:=1000) (v:=0) (by unfold kE;omega) (by unfold kE;omega) (by unfold kE;omega) (by unfold kE;omega);have h2:=DJ (x:=1003) (y:=0) (u:=0) (v:=1000) (by unfold kE;omega) (by unfold kE;omega) (by unfold kE;omega) (by unfold kE;omega);have h3:=DJ (x:=0) (y:=1004) (u:=0) (v:=0) (by unfold kE;omega) (by unfold kE;omega) (by unfold kE;omega) (by unfold kE;omega);constructor<;>(intro e he;simp only [aw1,List.mem_cons,List.not_mem_nil,or_false] at he;rcases he with rfl|rfl|rfl)
 ·exact h1.1
 ·exact h2.1
 ·exact h3.1
 ·exact h1.2
 ·exact h2.2
 ·exact h3.2
theorem PL:(∀e∈aw2,okV e)∧∀e∈aw2,Ey (nT e):=by
 have h1:=DJ (x:=0) (y:=0) (u:=2) (v:=0) (by unfold kE;omega) (by unfold kE;omega) (by unfold kE;omega) (by unfold kE;omega);constructor<;>(intro e he;simp only [aw2,List.mem_cons,List.not_mem_nil,or_false] at he;subst he)
 ·exact h1.1
 ·exact h1.2
theorem QV:rH aLL (aw1.map nT)=0:=by decide +kernel
theorem abj:rH aLL (aw2.map nT)=0:=by decide +kernel
theorem RU{cs:List Chn}{l:List (Nat × Nat)}(h:(cs.map λc=>(c.kind,c.ent))=l):cs.length=l.length∧∀i,i<l.length→(cs.getD i C0).kind=(l.getD i (0,0)).1∧(cs.getD i C0).ent=(l.getD i (0,0)).2:=by
 subst h;refine ⟨by simp,λi hi=>?_⟩;have hi':i<cs.length:=by simpa using hi
 simp [List.getD_eq_getElem?_getD,hi']
theorem aaz:((bT (((5:Int):Rat)*((5:Int):Rat)) aw1).cs.map λc=>(c.kind,c.ent))=[(1,1),(1,2)]:=by decide +kernel
theorem aa2:((bT (((3:Int):Rat)*((3:Int):Rat)) aw1).cs.map λc=>(c.kind,c.ent))=[(1,1),(4,1),(4,2)]:=by decide +kernel
theorem aaK:((bT (((5:Int):Rat)*((5:Int):Rat)) aw2).cs.map λc=>(c.kind,c.ent))=[(1,0),(2,0)]:=by decide +kernel
theorem Zn:(bT (((5:Int):Rat)*((5:Int):Rat)) aw2).es.length=0:=by decide +kernel
theorem Zt:RG (bT (((5:Int):Rat)*((5:Int):Rat)) aw1).cs=false:=by decide +kernel
theorem EG{n:Int}(h:0≤n)(h2:n≤100):rz (n:Rat)≤12∧¬(n:Rat)<0:=⟨Nat.le_trans (MW n (by omega) (by omega)) (by decide),λhn=>by
 have:=Rat.intCast_lt_intCast.1 (show ((n:Int):Rat)<((0:Int):Rat) from hn)
 omega⟩
end Go.Sw
namespace Go.Sw
open Go
section
variable {cf cg ct cu bf bg bt bu x y:Rat} {cfz ctz cr bfz btz br:Int}
end
end Go.Sw
