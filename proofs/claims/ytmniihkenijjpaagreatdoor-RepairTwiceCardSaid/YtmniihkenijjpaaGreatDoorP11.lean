/-
  Rules of the abstract run, plain laws, and what functions answer, for the law RepairTwice.
  Conditions: none.
-/
import Derived.Test.YtmniihkenijjpaaGreatDoorP10
import Derived.Test.YtmniihkenijjpaaGreatDoorChecked
set_option linter.all false
namespace Go.Proofs.YtmniihkenijjpaaGreatDoor
open Go Go.RowKit Go.Sw
set_option maxRecDepth 20000
namespace TfPA
theorem body106:dH Tryz.prog 106=true:=by kernel_rfl
theorem body117:dH Tryz.prog 117=true:=by kernel_rfl
theorem body142:dH Tryz.prog 142=true:=by kernel_rfl
theorem body144:dH Tryz.prog 144=true:=by kernel_rfl
theorem body154:dH Tryz.prog 154=true:=by kernel_rfl
theorem body194:dH Tryz.prog 194=true:=by kernel_rfl
theorem el154:Sw.elemOf Tryz.prog 154=some (#[.int .u32 0],1,4):=by kernel_rfl
theorem mixed:Tryz.prog.follows .mixedOrders=true:=by kernel_rfl
theorem one154:gU Tryz.prog 154=true:=by kernel_rfl
theorem size154:(Tryz.prog.info? 154).map (λi=>i.size)=some 1:=by kernel_rfl
theorem sl26:sliceOf Tryz.prog 26=some (154,1):=by kernel_rfl
theorem sls26:(sliceOf Tryz.prog 26).isSome=true:=by kernel_rfl
theorem und152:Tryz.prog.underlying 152=some (TypeDesc.int .u64):=by kernel_rfl
theorem und154:Tryz.prog.underlying 154=some (TypeDesc.int .u32):=by kernel_rfl
theorem unds152:(Tryz.prog.underlying 152).isSome=true:=by kernel_rfl
theorem unds154:(Tryz.prog.underlying 154).isSome=true:=by kernel_rfl
end TfPA
set_option maxHeartbeats 4000000 in
theorem AL{w:World}{X:List Nat}(hX:∀m∈X,m<w.heap.size){v_a:Value}{a:List Nat}(h_a:UL w X v_a (a)){v_b:Value}{b:List Nat}(h_b:UL w X v_b (b))(hn_a:a.length≤1000000000)(hn_b:b.length≤1000000000)(hca:CanL a)(hcb:CanL b)(hpos:0<val b):
 Calls Tryz.prog 153 #[v_a,v_b] w (uV λr w'=>(∃r0 r1,r=.tuple #[r0,r1]∧UL w' X r0 (lim (val a / val b))∧UL w' X r1 (lim (val a % val b)))∧Below w.heap.size w w'):=by
 refine enter (N:=173) (fn:=Tryz.f153) (vs:=[v_a,v_b]) Tryz.func153 rfl rfl rfl ?_;intro fa hF;obtain ⟨A_a,_,c_a,rfl,rfl,hu_a⟩:=h_a;have hl_a:=hu_a.len;have hc_a:=hu_a.cap;obtain ⟨A_b,_,c_b,rfl,rfl,hu_b⟩:=h_b;have hl_b:=hu_b.len;have hc_b:=hu_b.cap;replace hF:Frm 173 fa [(0,(.slice (A_a) (a.length) (c_a))),(1,(.slice (A_b) (b.length) (c_b)))]:=hF;have hS:=St.refl w;have hbn:0<b.length:=by cases hq:b with|nil=>rw [hq] at hpos;simp [val] at hpos|cons _ _=>simp
 have hae:=hca.eq;have hbe:=hcb.eq;refine aA ?_;refine aB ?_;refine pr hF (pa rfl <| pa rfl <| PR.nil) ?_;clear hF fa;intro fa hF;refine aj ?_;refine Gp (λfa w'=>Frm 173 fa [(0,(.slice (A_a) (a.length) (c_a))),(1,(.slice (A_b) (b.length) (c_b)))]∧w=w'∧(¬ (a.length≤2∧b.length≤2))) ?_ ?_
 ·
  refine aA ?_;refine aB ?_;refine pr hF (pm rfl <| pg (λ_ hF=>dX TfPA.sls26 (hF.ev rfl)) <| pg (λ_ hF=>JD (hF.ev rfl) (hF.ev rfl)) <| pm rfl <| PR.nil) ?_;clear hF fa;intro fa hF;rcases Bool.eq_false_or_eq_true (decide (((a.length:Nat):Int)≤2)) with hg1|hg1
  ·
   replace hF:=hF.cons (t:=24) (v:=.bool true) ((hF.get 24 _ rfl).trans (congrArg Value.bool hg1));have hg1p:((a.length:Nat):Int)≤2:=by simpa using hg1
   refine pr hF (pgg (λ_ hF=>bF (hF.ev rfl)) <| pgg (λ_ hF=>dX TfPA.sls26 (hF.ev rfl)) <| pgg (λ_ hF=>JD (hF.ev rfl) (hF.ev rfl)) <| pg (λ_ hF=>rJ (hF.ev rfl) (λ_=>hF.ev rfl) (v:=undef) (λh=>by cases h) rfl) <| PR.nil) ?_;clear hF fa;intro fa hF;refine aj ?_;refine eG hF rfl (λhc2=>?_) (λhc2=>?_)
   ·
    have hc2p:((b.length:Nat):Int)≤2:=by first|simpa using hc2|exact bD hc2|exact bn hc2
    have ha18:val a<1000000000000000000:=ni (by rw [hae];omega);have hb18:val b<1000000000000000000:=ni (by rw [hbe];omega);refine aA ?_;refine aB ?_;refine pr hF (pm rfl <| PR.nil) ?_;clear hF fa;intro fa hF;have hC:=qK (w:=w) (X:=X) (l:=a) (hS.bnd hX) ⟨_,(a.length),_,rfl,(rfl),hu_a⟩ (by omega) (hca.1) (by omega);refine st rfl (dP hF rfl TfPA.body154 (args1 (hF.ev rfl)) hC ?_);clear hC;rintro _ w3 ⟨rfl,hb4⟩;refine jd ?_;clear hF fa;intro fa hF;replace hS:=hS.call hb4;have E5:=Ext.call X hb4;refine pr hF (pm rfl <| PR.nil) ?_;clear hF fa;intro fa hF;have hC:=qK (w:=w3) (X:=X) (l:=b) (hS.bnd hX) ⟨_,(b.length),_,rfl,(rfl),(hu_b.ext E5)⟩ (by omega) (hcb.1) (by omega);refine st rfl (dP hF rfl TfPA.body154 (args1 (hF.ev rfl)) hC ?_);clear hC;rintro _ w6 ⟨rfl,hb7⟩;refine jd ?_;clear hF fa;intro fa hF;replace hS:=hS.call hb7;have E8:=Ext.call X hb7;refine pr hF (pa rfl <| pa rfl <| PR.nil) ?_;clear hF fa;intro fa hF;refine aj ?_;refine aA ?_
    refine Af (N:=173) (L0:=[(0,(.slice (A_a) (a.length) (c_a))),(1,(.slice (A_b) (b.length) (c_b))),(28,(.bool (decide (((b.length:Nat):Int)≤2)))),(6,(.int .u64 (((val a:Nat):Int)))),(7,(.int .u64 (((val b:Nat):Int))))]) [some (.int .u64 (((val a:Nat):Int))),some (.int .u64 (((val b:Nat):Int))),some (.int .u64 ((((val a) / (val b):Nat):Int))),none,some (.int .u64 (((val a:Nat):Int))),some (.int .u64 (((val b:Nat):Int))),some (.int .u64 ((((val a) % (val b):Nat):Int))),none,none,none] [3,7,8,9] [[],[3],[3,7],[3,7,8],[3,7,8,9]] [[0,1,2],[0,1,2],[0],[0],[0,1,2,3],[0,1,2,3],[0,1],[1],[2],[3]] 4 [
     λfa w'=>Frm 173 fa []∧St w w' []∧Ext w6 X w' X
     ,λfa w'=>∃Ao3_3_4:Option Addr,∃co3_3_5:Nat,Frm 173 fa [(36,(.slice (Ao3_3_4) ((lim ((val a) / (val b))).length) (co3_3_5)))]∧St w w' []∧Ext w6 X w' X∧UC w' X Ao3_3_4 co3_3_5 (lim ((val a) / (val b)))
     ,λfa w'=>∃Ao3_3_4:Option Addr,∃co3_3_5:Nat,∃Ao3_7_4:Option Addr,∃co3_7_5:Nat,Frm 173 fa [(36,(.slice (Ao3_3_4) ((lim ((val a) / (val b))).length) (co3_3_5))),(40,(.slice (Ao3_7_4) ((lim ((val a) % (val b))).length) (co3_7_5)))]∧St w w' []∧Ext w6 X w' X∧UC w' X Ao3_3_4 co3_3_5 (lim ((val a) / (val b)))∧UC w' X Ao3_7_4 co3_7_5 (lim ((val a) % (val b)))
     ,λfa w'=>∃Ao3_3_4:Option Addr,∃co3_3_5:Nat,∃Ao3_7_4:Option Addr,∃co3_7_5:Nat,Frm 173 fa [(36,(.slice (Ao3_3_4) ((lim ((val a) / (val b))).length) (co3_3_5))),(40,(.slice (Ao3_7_4) ((lim ((val a) % (val b))).length) (co3_7_5))),(4,(.slice (Ao3_3_4) ((lim ((val a) / (val b))).length) (co3_3_5)))]∧St w w' []∧Ext w6 X w' X∧UC w' X Ao3_3_4 co3_3_5 (lim ((val a) / (val b)))∧UC w' X Ao3_7_4 co3_7_5 (lim ((val a) % (val b)))
     ,λfa w'=>∃Ao3_3_4:Option Addr,∃co3_3_5:Nat,∃Ao3_7_4:Option Addr,∃co3_7_5:Nat,Frm 173 fa [(36,(.slice (Ao3_3_4) ((lim ((val a) / (val b))).length) (co3_3_5))),(40,(.slice (Ao3_7_4) ((lim ((val a) % (val b))).length) (co3_7_5))),(4,(.slice (Ao3_3_4) ((lim ((val a) / (val b))).length) (co3_3_5))),(5,(.slice (Ao3_7_4) ((lim ((val a) % (val b))).length) (co3_7_5)))]∧St w w' []∧Ext w6 X w' X∧UC w' X Ao3_3_4 co3_3_5 (lim ((val a) / (val b)))∧UC w' X Ao3_7_4 co3_7_5 (lim ((val a) % (val b)))
     ] TfPA.mixed rfl rfl rfl rfl rfl rfl (hF.all ⟨rfl,rfl,rfl,rfl,rfl,trivial⟩) rfl ⟨hF.nil,hS.drew,Ext.drew _ _⟩ ?_ ?_ ?_
    all_goals clear hF fa
    ·
     refine ⟨?_, ?_, ?_, ?_, ?_,trivial⟩
     ·
      rintro fa w' i o d v ho hd hna ⟨hA,hR⟩;exact ⟨hA.put_other v (iF (acts:=[3,7,8,9]) rfl ho hd hna),hR⟩
     ·
      rintro fa w' i o d v ho hd hna ⟨Ao3_3_4,co3_3_5,hA,hR⟩;exact ⟨Ao3_3_4,co3_3_5,hA.put_other v (iF (acts:=[3,7,8,9]) rfl ho hd hna),hR⟩
     ·
      rintro fa w' i o d v ho hd hna ⟨Ao3_3_4,co3_3_5,Ao3_7_4,co3_7_5,hA,hR⟩;exact ⟨Ao3_3_4,co3_3_5,Ao3_7_4,co3_7_5,hA.put_other v (iF (acts:=[3,7,8,9]) rfl ho hd hna),hR⟩
     ·
      rintro fa w' i o d v ho hd hna ⟨Ao3_3_4,co3_3_5,Ao3_7_4,co3_7_5,hA,hR⟩;exact ⟨Ao3_3_4,co3_3_5,Ao3_7_4,co3_7_5,hA.put_other v (iF (acts:=[3,7,8,9]) rfl ho hd hna),hR⟩
     ·
      rintro fa w' i o d v ho hd hna ⟨Ao3_3_4,co3_3_5,Ao3_7_4,co3_7_5,hA,hR⟩;exact ⟨Ao3_3_4,co3_3_5,Ao3_7_4,co3_7_5,hA.put_other v (iF (acts:=[3,7,8,9]) rfl ho hd hna),hR⟩
    ·
     refine ⟨?_, ?_, ?_, ?_, ?_, ?_, ?_, ?_, ?_, ?_,trivial⟩
     ·
      refine .inl ⟨rfl,_,_,rfl,rfl,λs fa w' hΦ hF hB K hK=>?_⟩;exact aQ rfl rfl rfl (bF (hF.ev rfl)) hK
     ·
      refine .inl ⟨rfl,_,_,rfl,rfl,λs fa w' hΦ hF hB K hK=>?_⟩;exact aQ rfl rfl rfl (bF (hF.ev rfl)) hK
     ·
      refine .inl ⟨rfl,_,_,rfl,rfl,λs fa w' hΦ hF hB K hK=>?_⟩;replace hF:=hF.cons (hB.val 0 _ 33 _ rfl rfl rfl rfl);replace hF:=hF.cons (hB.val 1 _ 34 _ rfl rfl rfl rfl);exact aQ rfl rfl rfl (nO (hF.ev rfl) (hF.ev rfl) (by omega) (uN (x:=val a) (y:=val b) (by omega) (by omega) (by omega))) hK
     ·
      refine .inr (.inr ⟨rfl, ?_,trivial⟩)
      ·
       intro fa w' hΦ hF hB;obtain ⟨hA,hS,E_w'⟩:=hΦ;replace hF:=hF.cons (hB.val 2 _ 35 _ rfl rfl rfl rfl);refine wop rfl rfl ?_;have hC:=qZ (w:=w') (X:=X) (hS.bnd hX) ((val a) / (val b)) (Nat.lt_of_le_of_lt (Nat.div_le_self _ _) (by omega));refine dP hF rfl TfPA.body117 (args1 (hF.ev (eH (b:=(((val a) / (val b):Nat):Int)) rfl (by first|rfl|omega)))) hC ?_;clear hC;rintro _ wo3_3_1 ⟨⟨Ao3_3_4,_,co3_3_5,rfl,rfl,huo3_3_6⟩,hbo3_3_2⟩;clear hF;intro hF;replace hS:=hS.call hbo3_3_2;have Eo3_3_3:=Ext.call X hbo3_3_2;have hA1:=((hA.put_other _ rfl).cons (hF.get 36 _ rfl))
       exact ⟨1,rfl,⟨Ao3_3_4,co3_3_5,(hA1.all ⟨rfl,trivial⟩),hS,(E_w'.trans Eo3_3_3),huo3_3_6⟩,_,rfl,λu hu=>by cases hu<;>rfl⟩
     ·
      refine .inl ⟨rfl,_,_,rfl,rfl,λs fa w' hΦ hF hB K hK=>?_⟩;exact aQ rfl rfl rfl (bF (hF.ev rfl)) hK
     ·
      refine .inl ⟨rfl,_,_,rfl,rfl,λs fa w' hΦ hF hB K hK=>?_⟩;exact aQ rfl rfl rfl (bF (hF.ev rfl)) hK
     ·
      refine .inl ⟨rfl,_,_,rfl,rfl,λs fa w' hΦ hF hB K hK=>?_⟩;replace hF:=hF.cons (hB.val 4 _ 37 _ rfl rfl rfl rfl);replace hF:=hF.cons (hB.val 5 _ 38 _ rfl rfl rfl rfl);exact aQ rfl rfl rfl (tK (hF.ev rfl) (hF.ev rfl) (by omega) (DT (x:=val a) (y:=val b) (by omega) (by omega))) hK
     ·
      refine .inr (.inr ⟨rfl, ?_,trivial⟩)
      ·
       intro fa w' hΦ hF hB;obtain ⟨Ao3_3_4,co3_3_5,hA,hS,E_w',huo3_3_6⟩:=hΦ;replace hF:=hF.cons (hB.val 6 _ 39 _ rfl rfl rfl rfl);refine wop rfl rfl ?_;have hC:=qZ (w:=w') (X:=X) (hS.bnd hX) ((val a) % (val b)) (Nat.lt_of_le_of_lt (Nat.mod_le _ _) (by omega));refine dP hF rfl TfPA.body117 (args1 (hF.ev (eH (b:=(((val a) % (val b):Nat):Int)) rfl (by first|rfl|omega)))) hC ?_;clear hC;rintro _ wo3_7_1 ⟨⟨Ao3_7_4,_,co3_7_5,rfl,rfl,huo3_7_6⟩,hbo3_7_2⟩;clear hF;intro hF;replace hS:=hS.call hbo3_7_2;have Eo3_7_3:=Ext.call X hbo3_7_2;have hA1:=((hA.put_other _ rfl).cons (hF.get 40 _ rfl))
       exact ⟨2,rfl,⟨Ao3_3_4,co3_3_5,Ao3_7_4,co3_7_5,(hA1.all ⟨rfl,rfl,trivial⟩),hS,(E_w'.trans Eo3_7_3),(huo3_3_6.ext Eo3_7_3),huo3_7_6⟩,_,rfl,λu hu=>by cases hu<;>rfl⟩
     ·
      refine .inr (.inr ⟨rfl, ?_,trivial⟩)
      ·
       intro fa w' hΦ hF hB;obtain ⟨Ao3_3_4,co3_3_5,Ao3_7_4,co3_7_5,hA,hS,E_w',huo3_3_6,huo3_7_6⟩:=hΦ;replace hF:=hF.cons (hA.get 36 _ rfl);refine wop rfl rfl ?_;refine qA hF rfl rfl (jD (hF.ev rfl)) ?_;clear hF;intro hF;have hA1:=((hA.put_other _ rfl).cons (hF.get 4 _ rfl))
       exact ⟨3,rfl,⟨Ao3_3_4,co3_3_5,Ao3_7_4,co3_7_5,(hA1.all ⟨rfl,rfl,rfl,trivial⟩),hS,E_w',huo3_3_6,huo3_7_6⟩,_,rfl,λu hu=>by cases hu<;>rfl⟩
     ·
      refine .inr (.inr ⟨rfl, ?_,trivial⟩)
      ·
       intro fa w' hΦ hF hB;obtain ⟨Ao3_3_4,co3_3_5,Ao3_7_4,co3_7_5,hA,hS,E_w',huo3_3_6,huo3_7_6⟩:=hΦ;replace hF:=hF.cons (hA.get 40 _ rfl);refine wop rfl rfl ?_;refine qA hF rfl rfl (jD (hF.ev rfl)) ?_;clear hF;intro hF;have hA1:=((hA.put_other _ rfl).cons (hF.get 5 _ rfl))
       exact ⟨4,rfl,⟨Ao3_3_4,co3_3_5,Ao3_7_4,co3_7_5,(hA1.all ⟨rfl,rfl,rfl,rfl,trivial⟩),hS,E_w',huo3_3_6,huo3_7_6⟩,_,rfl,λu hu=>by cases hu<;>rfl⟩
    intro fa w9 hΦ hF hC;obtain ⟨Ao3_3_4,co3_3_5,Ao3_7_4,co3_7_5,hA,hS,E_w9,huo3_3_6,huo3_7_6⟩:=hΦ;replace hF:=hF.cons (hA.get 4 _ rfl);replace hF:=hF.cons (hA.get 5 _ rfl);clear hA hC;refine bU ?_;refine qF ?_;refine Jq ?_;refine Sv hF rfl (iQ hF rfl) (iQ hF rfl) ?_;exact ⟨_,rfl,⟨_,_,rfl,(UL.fin (L:=(lim ((val a) / (val b)))) ⟨_,_,_,rfl,(rfl),huo3_3_6⟩ (rfl) (λx hx=>by simp [hx])),(UL.fin (L:=(lim ((val a) % (val b)))) ⟨_,_,_,rfl,(rfl),huo3_7_6⟩ (rfl) (λx hx=>by simp [hx]))⟩,hS.below⟩
   have hc2p:¬ (((b.length:Nat):Int)≤2):=by first|simpa using hc2|exact bD hc2|exact bn hc2
   refine dV ?_;refine bU ?_;exact ⟨(hF.all ⟨rfl,rfl,trivial⟩),rfl,(by omega)⟩
  replace hF:=hF.cons (t:=24) (v:=.bool false) ((hF.get 24 _ rfl).trans (congrArg Value.bool hg1));have hg1p:¬ (((a.length:Nat):Int)≤2):=by simpa using hg1
  refine pr hF (psk rfl rfl <| psk rfl rfl <| psk rfl rfl <| pg (λ_ hF=>rJ (hF.ev rfl) (u:=undef) (λh=>by cases h) (λ_=>hF.ev rfl) rfl) <| PR.nil) ?_;clear hF fa;intro fa hF;refine aj ?_;refine eG hF rfl (λhc=>?_) (λhc=>?_)
  ·
   cases hc
  refine dV ?_;refine bU ?_;exact ⟨(hF.all ⟨rfl,rfl,trivial⟩),rfl,(by omega)⟩
 clear hF fa;rintro fa _ ⟨hF,rfl,hbig⟩;refine aA ?_;have hbt:=hcb.1.getD (b.length-1);refine aB ?_;refine pr hF (pm rfl <| pm rfl <| pg (λ_ hF=>dX TfPA.sls26 (hF.ev rfl)) <| pg (λ_ hF=>dL (hF.ev rfl) (hF.ev rfl) gQ) <| PR.nil) ?_;clear hF fa;intro fa hF;obtain ⟨ad10,hA11,hq12⟩:=hu_b.cl.at_ (iw (l:=b) (i:=b.length-1) (by omega));refine pr hF (pg (λ_ hF=>iq (j:=b.length-1) TfPA.sl26 (hF.ev rfl) hA11 (hF.ev rfl) (by omega) (by omega)) <| pg (λ_ hF=>dN TfPA.one154 (hF.ev rfl) hq12) <| pg (λ_ hF=>bJ TfPA.unds154 TfPA.und152 (hF.ev rfl) (iV (by omega))) <| pg (λ_ hF=>bY (hF.ev rfl) (hF.ev rfl) jH) <| pg (λ_ hF=>nO (hF.ev rfl) (hF.ev rfl) (by omega) (uN (x:=1000000000) (y:=(b.getD (b.length-1) 0)+1) (by omega) (by omega) (by omega))) <| pg (λ_ hF=>bJ TfPA.unds152 TfPA.und154 (hF.ev rfl) (yj (by have:=Nat.div_le_self 1000000000 (b.getD (b.length-1) 0+1);omega))) <| pa rfl <| PR.nil) ?_;clear hF fa;intro fa hF;refine aj ?_;refine aA ?_;obtain ⟨sc,hsc⟩:∃sc,sc=1000000000 / (b.getD (b.length-1) 0+1):=⟨_,rfl⟩
 rw [← hsc] at hF;have hscB:=GZ hcb rfl hbn hsc;obtain ⟨hsc0,_,hvn,hvtop,hvP⟩:=Dj (v:=(lim (val b*sc))) hcb rfl hbn hsc (CanL.lim _) (by rw [aC]);have hvL:=λi=>(aY (val b*sc)).getD i;have huL:=λi=>(aY (val a*sc)).getD i
 have hVp:0<(val b*sc):=Nat.mul_pos hpos hsc0;have hlu:=Bl (a:=val a) hscB;rw [hca.eq] at hlu;refine aB ?_;refine pr hF (pm rfl <| pm rfl <| PR.nil) ?_;clear hF fa;intro fa hF;have hC:=qQ (w:=w) (X:=X) (a:=b) (hS.bnd hX) ⟨_,(b.length),_,rfl,(rfl),hu_b⟩ (sc) (by omega) (hcb.1) (hscB);rw [show (lim (val b*sc))=(lim (val b*sc)) from rfl] at hC;refine st rfl (dP hF rfl TfPA.body194 (args2 (hF.ev rfl) (hF.ev (eH (b:=((sc:Nat):Int)) rfl (by first|rfl|omega)))) hC ?_);clear hC;rintro _ w13 ⟨⟨A16,_,c17,rfl,rfl,hu18⟩,hb14⟩;refine jd ?_;clear hF fa;intro fa hF;replace hS:=hS.call hb14;have E15:=Ext.call X hb14;refine pr hF (pa rfl <| PR.nil) ?_;clear hF fa;intro fa hF;replace hF:Frm 173 fa [(0,(.slice (A_a) (a.length) (c_a))),(1,(.slice (A_b) (b.length) (c_b))),(8,(.int .u32 (((sc:Nat):Int)))),(9,(.slice (A16) (((lim (val b*sc))).length) (c17)))]:=(hF.all ⟨rfl,rfl,rfl,rfl,trivial⟩)
 refine aj ?_;refine aA ?_;rw [← hvn] at hvtop;have hvt:=hvL ((lim (val b*sc)).length-1);refine aB ?_;refine pr hF (pm rfl <| pm rfl <| pg (λ_ hF=>dX TfPA.sls26 (hF.ev rfl)) <| pg (λ_ hF=>dL (hF.ev rfl) (hF.ev rfl) gQ) <| PR.nil) ?_;clear hF fa;intro fa hF;obtain ⟨ad19,hA20,hq21⟩:=hu18.cl.at_ (iw (l:=((lim (val b*sc)))) (i:=(lim (val b*sc)).length-1) (by omega));refine pr hF (pg (λ_ hF=>iq (j:=(lim (val b*sc)).length-1) TfPA.sl26 (hF.ev rfl) hA20 (hF.ev rfl) (by omega) (by omega)) <| pg (λ_ hF=>dN TfPA.one154 (hF.ev rfl) hq21) <| pg (λ_ hF=>bJ TfPA.unds154 TfPA.und152 (hF.ev rfl) (iV (by omega))) <| pa rfl <| PR.nil) ?_;clear hF fa;intro fa hF;refine aj ?_;refine aA ?_;refine aB ?_;refine pr hF (pa rfl <| PR.nil) ?_;clear hF fa;intro fa hF;refine aj ?_;refine aA ?_;refine aB ?_;refine pr hF (pm rfl <| pg (λ_ hF=>dX TfPA.sls26 (hF.ev rfl)) <| pg (λ_ hF=>bY (hF.ev rfl) (hF.ev rfl) gQ) <| PR.nil) ?_;clear hF fa;intro fa hF;refine st rfl (yP (X:=X) (nl:=a.length+1) (nc:=a.length+1) hF hS rfl TfPA.sl26 TfPA.el154 rfl rfl (by omega) (by omega) (by omega) (by omega) (by omega) (vV _) ?_);intro g22 w23 hg25 hS E24;refine jd ?_;clear hF fa;intro fa hF;rw [Nat.mul_one] at hS;refine pr hF (pa rfl <| PR.nil) ?_;clear hF fa;intro fa hF;refine aj ?_;refine aA ?_;refine aB ?_;refine pr hF (pm rfl <| pm rfl <| PR.nil) ?_;clear hF fa;intro fa hF;have hC:=qQ (w:=w23) (X:=(g22 :: X)) (a:=a) (hS.bnd hX) ⟨_,(a.length),_,rfl,(rfl),(hu_a.ext (E15.trans E24))⟩ (sc) (by omega) (hca.1) (hscB);rw [show (lim (val a*sc))=(lim (val a*sc)) from rfl] at hC;refine st rfl (dP hF rfl TfPA.body194 (args2 (hF.ev rfl) (hF.ev (eH (b:=((sc:Nat):Int)) rfl (by first|rfl|omega)))) hC ?_);clear hC;rintro _ w26 ⟨⟨A29,_,c30,rfl,rfl,hu31⟩,hb27⟩;refine jd ?_;clear hF fa;intro fa hF;replace hS:=hS.call hb27;have E28:=Ext.call (g22 :: X) hb27;refine pr hF (pa rfl <| PR.nil) ?_;clear hF fa;intro fa hF;replace hF:Frm 173 fa [(0,(.slice (A_a) (a.length) (c_a))),(1,(.slice (A_b) (b.length) (c_b))),(8,(.int .u32 (((sc:Nat):Int)))),(9,(.slice (A16) (((lim (val b*sc))).length) (c17))),(10,(.int .u64 (((((lim (val b*sc))).getD ((lim (val b*sc)).length-1) 0:Nat):Int)))),(11,(.slice (none) (0) (0))),(12,(.slice (some ⟨g22,0,none⟩) (a.length+1) (a.length+1))),(13,(.slice (A29) (((lim (val a*sc))).length) (c30)))]:=(hF.all ⟨rfl,rfl,rfl,rfl,rfl,rfl,rfl,rfl,trivial⟩)
 refine aj ?_;refine aA ?_;refine aB ?_;refine pr hF (pm rfl <| pm rfl <| pg (λ_ hF=>dX TfPA.sls26 (hF.ev rfl)) <| pg (λ_ hF=>AZ (j:=((lim (val a*sc))).length) TfPA.sl26 (hF.ev rfl) (hF.ev rfl) (by omega) (by omega)) <| pa rfl <| PR.nil) ?_;clear hF fa;intro fa hF;refine aj ?_;refine aA ?_;refine aA ?_;refine aB ?_;refine pr hF (pm rfl <| pg (λ_ hF=>dX TfPA.sls26 (hF.ev rfl)) <| pg (λ_ hF=>dL (hF.ev rfl) (hF.ev rfl) gQ) <| pa rfl <| PR.nil) ?_;clear hF fa;intro fa hF;refine aj ?_;refine eU ?_;refine oU (λmu fa w'=>∃o:List Nat,∃R:Nat,∃j:Nat,∃Ar:Option Addr,∃cr:Nat,Frm 173 fa [(0,(.slice (A_a) (a.length) (c_a))),(1,(.slice (A_b) (b.length) (c_b))),(8,(.int .u32 (((sc:Nat):Int)))),(9,(.slice (A16) (((lim (val b*sc))).length) (c17))),(10,(.int .u64 (((((lim (val b*sc))).getD ((lim (val b*sc)).length-1) 0:Nat):Int)))),(12,(.slice (some ⟨g22,0,none⟩) (((lim (val a*sc))).length) (a.length+1))),(13,(.slice (A29) (((lim (val a*sc))).length) (c30))),(14,(.int .i64 (((j:Nat):Int)-1))),(11,(.slice (Ar) ((lim (R)).length) (cr)))]∧St w w' [(g22,154,(us (o)).toArray)]∧Ext w26 (g22 :: X) w' (g22 :: X)∧UC w' (g22 :: X) Ar cr (lim (R))∧(j≤(lim (val a*sc)).length)∧(o.length=a.length+1)∧(Lb o)∧(val (o.drop (lim (val a*sc)).length)=0)∧(val ((lim (val a*sc)).drop j)=(val b*sc)*val (o.drop j)+R)∧(R<(val b*sc))∧j=mu) ?_ ?_
 ·
  exact ⟨_,List.replicate (a.length+1) 0,0,(lim (val a*sc)).length,none,0,(hF.all ⟨rfl,rfl,rfl,rfl,rfl,rfl,rfl,(aT rfl (by omega)),(uU rfl (by first|omega|(rw [dY];rfl))),trivial⟩),hS,Ext.refl _ _,(by rw [dY];exact UC.nil (by omega)),(Nat.le_refl _),(by simp),(ji _),(by simp [nY]),(by rw [fV (Nat.le_refl _)];simp [nY]),(hVp),rfl⟩
 clear hF fa;intro n0_ fa w' hI;clear hS;obtain ⟨o,R,j,Ar,cr,hF,hS,E33,hr,hj,hol,hbo,hz,hI,hR,rfl⟩:=hI
 rename World=>w32
 refine aA ?_;refine aA ?_;refine aB ?_;refine pr hF (pm rfl <| pg (λ_ hF=>lJ (hF.ev rfl) (hF.ev rfl)) <| PR.nil) ?_;clear hF fa;intro fa hF;refine aj ?_;refine eG hF rfl (λhc34=>?_) (λhc34=>?_)
 ·
  have hc34p:(((j:Nat):Int)-1)≥0:=by first|simpa using hc34|exact bD hc34|exact bn hc34
  refine dV ?_;refine bU ?_;refine aA ?_;refine eU ?_;refine aA ?_;have hxu:=huL (j-1);have hR2:=KY hxu hR;have hR2l:=I7 hR2;have hRl:=fZ (Nat.le_of_lt hR);have hra:=(aY ((lim (val a*sc)).getD (j-1) 0+1000000000*R)).getD (lim (val b*sc)).length;have hrb:=(aY ((lim (val a*sc)).getD (j-1) 0+1000000000*R)).getD ((lim (val b*sc)).length-1);refine aB ?_;refine pr hF (pm rfl <| pm rfl <| PR.nil) ?_;clear hF fa;intro fa hF;obtain ⟨ad35,hA36,hq37⟩:=(hu31.ext E33).cl.at_ (iw (l:=((lim (val a*sc)))) (i:=j-1) (by omega));refine pr hF (pg (λ_ hF=>iq (j:=j-1) TfPA.sl26 (hF.ev rfl) hA36 (hF.ev rfl) (by omega) (by omega)) <| pg (λ_ hF=>dN TfPA.one154 (hF.ev rfl) hq37) <| PR.nil) ?_;clear hF fa;intro fa hF;refine st rfl (KQ (X:=(g22 :: X)) hF hS rfl TfPA.sl26 TfPA.el154 rfl rfl (Lj (hF.ev (eH (b:=((((lim (val a*sc))).getD (j-1) 0:Nat):Int)) rfl (by omega)))) (zu (x:=((lim (val a*sc))).getD (j-1) 0)) ?_);intro g38 w39 hg41 hS E40;refine jd ?_;clear hF fa;intro fa hF;refine pr hF (pm rfl <| PR.nil) ?_;clear hF fa;intro fa hF;replace hS:St w w39 [(g22,154,(us (o)).toArray),(g38,154,(us ([((lim (val a*sc))).getD (j-1) 0])).toArray)]:=hS.perm (List.Perm.swap _ _ _);have E49:Ext w39 (g38 :: (g22 :: X)) w39 (g22 :: (g38 :: X)):=Ext.drop (by simp +contextual);refine st rfl (wJ (X:=X) (F:=[(g22,154,(us (o)).toArray)]) (So:=[(g38,154,(us ([((lim (val a*sc))).getD (j-1) 0])).toArray)]) (l:=us ([((lim (val a*sc))).getD (j-1) 0])) (m:=us ((lim (R)))) hF hS rfl TfPA.sl26 TfPA.el154 rfl rfl rfl (by simp) (OwV.full 154 g38 ([((lim (val a*sc))).getD (j-1) 0]) (1) (1) (by first|rfl|(simp;done)|omega) (by first|rfl|(simp;done)|omega) (by simp)) (hr.ext (E40.trans E49)).cl (Jk _) (by first|(simp;done)|(simp;omega)) (by first|(simp;done)|(simp;omega)) ?_);intro v43 So44 w45 hO46 hS E47 hun48;refine jd ?_;clear hF fa;intro fa hF;clear hun48;rw [← wP] at hO46;replace E47:Ext w39 (g22 :: (g38 :: X)) w45 (g22 :: (bl So44++X)):=E47;replace hS:St w w45 ([(g22,154,(us (o)).toArray)]++So44):=hS;obtain ⟨A50,c51,hv53,hu52⟩:=UC.thaw (F:=[(g22,154,(us (o)).toArray)]) hO46 hS hX;subst hv53;have E54:Ext w45 (g22 :: (bl So44++X)) w45 (g22 :: X):=Ext.drop (by simp +contextual);replace hu52:UC w45 (g22 :: X) A50 c51 (([((lim (val a*sc))).getD (j-1) 0])++(lim (R))):=hu52;replace hS:St w w45 [(g22,154,(us (o)).toArray)]:=hS.drop (List.sublist_append_left _ _);have hC:=nK (w:=w45) (X:=(g22 :: X)) (l:=(([((lim (val a*sc))).getD (j-1) 0])++(lim (R)))) (hS.bnd hX) ⟨_,((([((lim (val a*sc))).getD (j-1) 0])++(lim (R))).length),_,rfl,(rfl),hu52⟩;rw [show (ah (([((lim (val a*sc))).getD (j-1) 0])++(lim (R))))=(lim ((lim (val a*sc)).getD (j-1) 0+1000000000*R)) from Jj _ _ hxu] at hC;refine st rfl (dP hF rfl TfPA.body142 (args1 (hF.ev rfl)) hC ?_);clear hC;rintro _ w55 ⟨⟨A58,_,c59,rfl,rfl,hu60⟩,hb56⟩;refine jd ?_;clear hF fa;intro fa hF;replace hS:=hS.call hb56;have E57:=Ext.call (g22 :: X) hb56;refine pr hF (pa rfl <| PR.nil) ?_;clear hF fa;intro fa hF;replace hF:Frm 173 fa [(0,(.slice (A_a) (a.length) (c_a))),(1,(.slice (A_b) (b.length) (c_b))),(8,(.int .u32 (((sc:Nat):Int)))),(9,(.slice (A16) (((lim (val b*sc))).length) (c17))),(10,(.int .u64 (((((lim (val b*sc))).getD ((lim (val b*sc)).length-1) 0:Nat):Int)))),(12,(.slice (some ⟨g22,0,none⟩) (((lim (val a*sc))).length) (a.length+1))),(13,(.slice (A29) (((lim (val a*sc))).length) (c30))),(14,(.int .i64 (((j:Nat):Int)-1))),(11,(.slice (A58) (((lim ((lim (val a*sc)).getD (j-1) 0+1000000000*R))).length) (c59))),(76,(.bool (decide ((((j:Nat):Int)-1)≥0))))]:=(hF.all ⟨rfl,rfl,rfl,rfl,rfl,rfl,rfl,rfl,rfl,rfl,trivial⟩)
  refine aj ?_;refine aA ?_;refine aB ?_;refine pr hF (pa rfl <| PR.nil) ?_;clear hF fa;intro fa hF;refine aj ?_;refine Gp (λfa w'=>∃h1:Nat,Frm 173 fa [(0,(.slice (A_a) (a.length) (c_a))),(1,(.slice (A_b) (b.length) (c_b))),(8,(.int .u32 (((sc:Nat):Int)))),(9,(.slice (A16) (((lim (val b*sc))).length) (c17))),(10,(.int .u64 (((((lim (val b*sc))).getD ((lim (val b*sc)).length-1) 0:Nat):Int)))),(12,(.slice (some ⟨g22,0,none⟩) (((lim (val a*sc))).length) (a.length+1))),(13,(.slice (A29) (((lim (val a*sc))).length) (c30))),(14,(.int .i64 (((j:Nat):Int)-1))),(11,(.slice (A58) (((lim ((lim (val a*sc)).getD (j-1) 0+1000000000*R))).length) (c59))),(76,(.bool (decide ((((j:Nat):Int)-1)≥0)))),(15,(.int .u64 (((h1:Nat):Int))))]∧w55=w'∧(h1=(lim ((lim (val a*sc)).getD (j-1) 0+1000000000*R)).getD (lim (val b*sc)).length 0*1000000000)) ?_ ?_
  ·
   refine aA ?_;refine aB ?_;refine pr hF (pm rfl <| pg (λ_ hF=>dX TfPA.sls26 (hF.ev rfl)) <| pm rfl <| pg (λ_ hF=>dX TfPA.sls26 (hF.ev rfl)) <| pg (λ_ hF=>uj (hF.ev rfl) (hF.ev rfl)) <| PR.nil) ?_;clear hF fa;intro fa hF;refine aj ?_;refine eG hF rfl (λhc61=>?_) (λhc61=>?_)
   ·
    have hc61p:((((lim ((lim (val a*sc)).getD (j-1) 0+1000000000*R))).length:Nat):Int) > ((((lim (val b*sc))).length:Nat):Int):=by first|simpa using hc61|exact bD hc61|exact bn hc61
    refine aB ?_;refine pr hF (pm rfl <| pm rfl <| pg (λ_ hF=>dX TfPA.sls26 (hF.ev rfl)) <| PR.nil) ?_;clear hF fa;intro fa hF;obtain ⟨ad62,hA63,hq64⟩:=hu60.cl.at_ (iw (l:=((lim ((lim (val a*sc)).getD (j-1) 0+1000000000*R)))) (i:=(lim (val b*sc)).length) (by omega));refine pr hF (pg (λ_ hF=>iq (j:=(lim (val b*sc)).length) TfPA.sl26 (hF.ev rfl) hA63 (hF.ev rfl) (by omega) (by omega)) <| pg (λ_ hF=>dN TfPA.one154 (hF.ev rfl) hq64) <| pg (λ_ hF=>bJ TfPA.unds154 TfPA.und152 (hF.ev rfl) (iV (by omega))) <| pg (λ_ hF=>rD (hF.ev rfl) (hF.ev rfl) jH) <| pa rfl <| PR.nil) ?_;clear hF fa;intro fa hF;refine fJ ?_;refine bU ?_;exact ⟨((((lim ((lim (val a*sc)).getD (j-1) 0+1000000000*R))).getD ((lim (val b*sc)).length) 0)*1000000000),(hF.all ⟨rfl,rfl,rfl,rfl,rfl,rfl,rfl,rfl,rfl,rfl,(aT rfl (by omega)),trivial⟩),rfl,(rfl)⟩
   have hc61p:¬ (((((lim ((lim (val a*sc)).getD (j-1) 0+1000000000*R))).length:Nat):Int) > ((((lim (val b*sc))).length:Nat):Int)):=by first|simpa using hc61|exact bD hc61|exact bn hc61
   have hge0:=getD_none (l:=(lim ((lim (val a*sc)).getD (j-1) 0+1000000000*R))) (k:=(lim (val b*sc)).length) (by omega);refine dV ?_;refine bU ?_;exact ⟨(0),(hF.all ⟨rfl,rfl,rfl,rfl,rfl,rfl,rfl,rfl,rfl,rfl,(aT rfl (by omega)),trivial⟩),rfl,(by rw [hge0,Nat.zero_mul])⟩
  clear hF fa;rintro fa _ ⟨h1,hF,rfl,hh1⟩;refine Gp (λfa w'=>∃h2:Nat,Frm 173 fa [(0,(.slice (A_a) (a.length) (c_a))),(1,(.slice (A_b) (b.length) (c_b))),(8,(.int .u32 (((sc:Nat):Int)))),(9,(.slice (A16) (((lim (val b*sc))).length) (c17))),(10,(.int .u64 (((((lim (val b*sc))).getD ((lim (val b*sc)).length-1) 0:Nat):Int)))),(12,(.slice (some ⟨g22,0,none⟩) (((lim (val a*sc))).length) (a.length+1))),(13,(.slice (A29) (((lim (val a*sc))).length) (c30))),(14,(.int .i64 (((j:Nat):Int)-1))),(11,(.slice (A58) (((lim ((lim (val a*sc)).getD (j-1) 0+1000000000*R))).length) (c59))),(76,(.bool (decide ((((j:Nat):Int)-1)≥0)))),(15,(.int .u64 (((h2:Nat):Int))))]∧w55=w'∧(h2=(lim ((lim (val a*sc)).getD (j-1) 0+1000000000*R)).getD (lim (val b*sc)).length 0*1000000000+(lim ((lim (val a*sc)).getD (j-1) 0+1000000000*R)).getD ((lim (val b*sc)).length-1) 0)) ?_ ?_
  ·
   refine aA ?_;refine aB ?_;refine pr hF (pm rfl <| pg (λ_ hF=>dX TfPA.sls26 (hF.ev rfl)) <| pm rfl <| pg (λ_ hF=>dX TfPA.sls26 (hF.ev rfl)) <| pg (λ_ hF=>lJ (hF.ev rfl) (hF.ev rfl)) <| PR.nil) ?_;clear hF fa;intro fa hF;refine aj ?_;refine eG hF rfl (λhc65=>?_) (λhc65=>?_)
   ·
    have hc65p:((((lim ((lim (val a*sc)).getD (j-1) 0+1000000000*R))).length:Nat):Int)≥((((lim (val b*sc))).length:Nat):Int):=by first|simpa using hc65|exact bD hc65|exact bn hc65
    refine aB ?_;refine pr hF (pm rfl <| pm rfl <| pm rfl <| pg (λ_ hF=>dX TfPA.sls26 (hF.ev rfl)) <| pg (λ_ hF=>dL (hF.ev rfl) (hF.ev rfl) gQ) <| PR.nil) ?_;clear hF fa;intro fa hF;obtain ⟨ad66,hA67,hq68⟩:=hu60.cl.at_ (iw (l:=((lim ((lim (val a*sc)).getD (j-1) 0+1000000000*R)))) (i:=(lim (val b*sc)).length-1) (by omega));refine pr hF (pg (λ_ hF=>iq (j:=(lim (val b*sc)).length-1) TfPA.sl26 (hF.ev rfl) hA67 (hF.ev rfl) (by omega) (by omega)) <| pg (λ_ hF=>dN TfPA.one154 (hF.ev rfl) hq68) <| pg (λ_ hF=>bJ TfPA.unds154 TfPA.und152 (hF.ev rfl) (iV (by omega))) <| pg (λ_ hF=>bY (hF.ev rfl) (hF.ev rfl) jH) <| pa rfl <| PR.nil) ?_;clear hF fa;intro fa hF;replace hF:Frm 173 fa [(0,(.slice (A_a) (a.length) (c_a))),(1,(.slice (A_b) (b.length) (c_b))),(8,(.int .u32 (((sc:Nat):Int)))),(9,(.slice (A16) (((lim (val b*sc))).length) (c17))),(10,(.int .u64 (((((lim (val b*sc))).getD ((lim (val b*sc)).length-1) 0:Nat):Int)))),(12,(.slice (some ⟨g22,0,none⟩) (((lim (val a*sc))).length) (a.length+1))),(13,(.slice (A29) (((lim (val a*sc))).length) (c30))),(14,(.int .i64 (((j:Nat):Int)-1))),(11,(.slice (A58) (((lim ((lim (val a*sc)).getD (j-1) 0+1000000000*R))).length) (c59))),(76,(.bool (decide ((((j:Nat):Int)-1)≥0)))),(15,(.int .u64 (((h1:Nat):Int)+((((lim ((lim (val a*sc)).getD (j-1) 0+1000000000*R))).getD ((lim (val b*sc)).length-1) 0:Nat):Int)))),(103,(.bool (decide (((((lim ((lim (val a*sc)).getD (j-1) 0+1000000000*R))).length:Nat):Int)≥((((lim (val b*sc))).length:Nat):Int)))))]:=(hF.all ⟨rfl,rfl,rfl,rfl,rfl,rfl,rfl,rfl,rfl,rfl,rfl,rfl,trivial⟩)
    refine fJ ?_;refine bU ?_;exact ⟨(h1+(((lim ((lim (val a*sc)).getD (j-1) 0+1000000000*R))).getD ((lim (val b*sc)).length-1) 0)),(hF.all ⟨rfl,rfl,rfl,rfl,rfl,rfl,rfl,rfl,rfl,rfl,(aT rfl (by omega)),trivial⟩),rfl,(by rw [hh1])⟩
   have hc65p:¬ (((((lim ((lim (val a*sc)).getD (j-1) 0+1000000000*R))).length:Nat):Int)≥((((lim (val b*sc))).length:Nat):Int)):=by first|simpa using hc65|exact bD hc65|exact bn hc65
   have hge1:=getD_none (l:=(lim ((lim (val a*sc)).getD (j-1) 0+1000000000*R))) (k:=(lim (val b*sc)).length-1) (by omega);refine dV ?_;refine bU ?_;exact ⟨(h1),(hF.all ⟨rfl,rfl,rfl,rfl,rfl,rfl,rfl,rfl,rfl,rfl,(aT rfl (by omega)),trivial⟩),rfl,(by rw [hh1,hge1,Nat.add_zero])⟩
  clear hF fa;rintro fa _ ⟨h2,hF,rfl,hh2⟩;refine aA ?_;obtain ⟨hdge,hdh⟩:=U8 (V:=(val b*sc)) (n:=(lim (val b*sc)).length) rfl rfl (by omega) (top:=(lim (val b*sc)).getD ((lim (val b*sc)).length-1) 0) rfl hR2 (by omega);rw [← hh2] at hdge hdh;refine aB ?_;refine pr hF (pm rfl <| pm rfl <| pg (λ_ hF=>nO (hF.ev rfl) (hF.ev rfl) (by omega) (uN (x:=h2) (y:=((lim (val b*sc))).getD ((lim (val b*sc)).length-1) 0) (by omega) (by omega) (by omega))) <| pa rfl <| PR.nil) ?_;clear hF fa;intro fa hF;refine aj ?_;refine Gp (λfa w'=>∃dg:Nat,Frm 173 fa [(0,(.slice (A_a) (a.length) (c_a))),(1,(.slice (A_b) (b.length) (c_b))),(8,(.int .u32 (((sc:Nat):Int)))),(9,(.slice (A16) (((lim (val b*sc))).length) (c17))),(10,(.int .u64 (((((lim (val b*sc))).getD ((lim (val b*sc)).length-1) 0:Nat):Int)))),(12,(.slice (some ⟨g22,0,none⟩) (((lim (val a*sc))).length) (a.length+1))),(13,(.slice (A29) (((lim (val a*sc))).length) (c30))),(14,(.int .i64 (((j:Nat):Int)-1))),(11,(.slice (A58) (((lim ((lim (val a*sc)).getD (j-1) 0+1000000000*R))).length) (c59))),(76,(.bool (decide ((((j:Nat):Int)-1)≥0)))),(15,(.int .u64 (((h2:Nat):Int)))),(16,(.int .u64 (((dg:Nat):Int))))]∧w55=w'∧(dg≤999999999)∧(((lim (val a*sc)).getD (j-1) 0+1000000000*R)<(dg+1)*(val b*sc))) ?_ ?_
  ·
   refine aA ?_;refine aB ?_;refine pr hF (pm rfl <| pg (λ_ hF=>uj (hF.ev rfl) (hF.ev rfl)) <| PR.nil) ?_;clear hF fa;intro fa hF;refine aj ?_;refine eG hF rfl (λhc69=>?_) (λhc69=>?_)
   ·
    have hc69p:((h2 / (((lim (val b*sc))).getD ((lim (val b*sc)).length-1) 0):Nat):Int) > 999999999:=by first|simpa using hc69|exact bD hc69|exact bn hc69
    refine aB ?_;refine pr hF (pa rfl <| PR.nil) ?_;clear hF fa;intro fa hF;refine fJ ?_;refine bU ?_;exact ⟨999999999,(hF.all ⟨rfl,rfl,rfl,rfl,rfl,rfl,rfl,rfl,rfl,rfl,rfl,(aT rfl (by omega)),trivial⟩),rfl,(by omega),(Px hR2)⟩
   have hc69p:¬ (((h2 / (((lim (val b*sc))).getD ((lim (val b*sc)).length-1) 0):Nat):Int) > 999999999):=by first|simpa using hc69|exact bD hc69|exact bn hc69
   refine dV ?_;refine bU ?_;exact ⟨h2 / (((lim (val b*sc))).getD ((lim (val b*sc)).length-1) 0),(hF.all ⟨rfl,rfl,rfl,rfl,rfl,rfl,rfl,rfl,rfl,rfl,rfl,(aT rfl (by omega)),trivial⟩),rfl,(by omega),(hdge)⟩
  clear hF fa;rintro fa _ ⟨dg,hF,rfl,hdg,hdgR⟩;refine aA ?_;refine aB ?_;refine pr hF (pm rfl <| pm rfl <| pg (λ_ hF=>bJ TfPA.unds152 TfPA.und154 (hF.ev rfl) (yj (by omega))) <| PR.nil) ?_;clear hF fa;intro fa hF;have hC:=qQ (w:=w55) (X:=(g22 :: X)) (a:=((lim (val b*sc)))) (hS.bnd hX) ⟨_,(((lim (val b*sc))).length),_,rfl,(rfl),(hu18.ext (((((((E24.trans E28).trans E33).trans E40).trans E49).trans E47).trans E54).trans E57))⟩ (dg) (by omega) (aY _) (by omega);rw [show (lim (val (((lim (val b*sc))))*dg))=(lim ((val b*sc)*dg)) from by rw [aC]] at hC;refine st rfl (dP hF rfl TfPA.body194 (args2 (hF.ev rfl) (hF.ev (eH (b:=((dg:Nat):Int)) rfl (by first|rfl|omega)))) hC ?_);clear hC;rintro _ w70 ⟨⟨A73,_,c74,rfl,rfl,hu75⟩,hb71⟩;refine jd ?_;clear hF fa;intro fa hF;replace hS:=hS.call hb71;have E72:=Ext.call (g22 :: X) hb71;refine pr hF (pa rfl <| PR.nil) ?_;clear hF fa;intro fa hF;refine aj ?_;refine aA ?_;refine eU ?_;refine oU (λmu fa w'=>∃dk:Nat,∃Ap:Option Addr,∃cp:Nat,Frm 173 fa [(0,(.slice (A_a) (a.length) (c_a))),(1,(.slice (A_b) (b.length) (c_b))),(8,(.int .u32 (((sc:Nat):Int)))),(9,(.slice (A16) (((lim (val b*sc))).length) (c17))),(10,(.int .u64 (((((lim (val b*sc))).getD ((lim (val b*sc)).length-1) 0:Nat):Int)))),(12,(.slice (some ⟨g22,0,none⟩) (((lim (val a*sc))).length) (a.length+1))),(13,(.slice (A29) (((lim (val a*sc))).length) (c30))),(14,(.int .i64 (((j:Nat):Int)-1))),(11,(.slice (A58) (((lim ((lim (val a*sc)).getD (j-1) 0+1000000000*R))).length) (c59))),(76,(.bool (decide ((((j:Nat):Int)-1)≥0)))),(15,(.int .u64 (((h2:Nat):Int)))),(16,(.int .u64 (((dk:Nat):Int)))),(17,(.slice (Ap) ((lim ((val b*sc)*dk)).length) (cp)))]∧St w w' [(g22,154,(us (o)).toArray)]∧Ext w70 (g22 :: X) w' (g22 :: X)∧UC w' (g22 :: X) Ap cp (lim ((val b*sc)*dk))∧(dk≤999999999)∧(((lim (val a*sc)).getD (j-1) 0+1000000000*R)<(dk+1)*(val b*sc))∧dk=mu) ?_ ?_
  ·
   exact ⟨_,dg,A73,c74,(hF.all ⟨rfl,rfl,rfl,rfl,rfl,rfl,rfl,rfl,rfl,rfl,rfl,(aT rfl (by omega)),(uU rfl (by omega)),trivial⟩),hS,Ext.refl _ _,hu75,(hdg),(hdgR),rfl⟩
  clear hF fa;intro n1_ fa w' hI;clear hS;obtain ⟨dk,Ap,cp,hF,hS,E77,hp,hdk,hdR,rfl⟩:=hI
  rename World=>w76
  refine aA ?_;refine aA ?_;refine aB ?_;refine pr hF (pm rfl <| pm rfl <| PR.nil) ?_;clear hF fa;intro fa hF;have hC:=xw (w:=w76) (X:=(g22 :: X)) (a:=(lim ((val b*sc)*dk))) (b:=((lim ((lim (val a*sc)).getD (j-1) 0+1000000000*R)))) (hS.bnd hX) ⟨_,((lim ((val b*sc)*dk)).length),_,rfl,(rfl),hp⟩ ⟨_,(((lim ((lim (val a*sc)).getD (j-1) 0+1000000000*R))).length),_,rfl,(rfl),(hu60.ext (E72.trans E77))⟩ (CanL.lim _) (CanL.lim _);refine st rfl (dP hF rfl TfPA.body106 (args2 (hF.ev rfl) (hF.ev rfl)) hC ?_);clear hC;rintro _ w78 ⟨rfl,hb79⟩;refine jd ?_;clear hF fa;intro fa hF;replace hS:=hS.call hb79;have E80:=Ext.call (g22 :: X) hb79;refine pr hF (pg (λ_ hF=>uj (hF.ev rfl) (hF.ev rfl)) <| PR.nil) ?_;clear hF fa;intro fa hF;refine aj ?_;refine eG hF rfl (λhc81=>?_) (λhc81=>?_)
  ·
   have hc81p:(eP (val ((lim ((val b*sc)*dk)))) (val (((lim ((lim (val a*sc)).getD (j-1) 0+1000000000*R)))))) > 0:=by first|simpa using hc81|exact bD hc81|exact bn hc81
   have hgt:=Gs.1 hc81p;rw [aC,aC] at hgt;have hdp:0<dk:=by rcases Nat.eq_zero_or_pos dk with h0|h0;rw [h0,Nat.mul_zero] at hgt;omega;exact h0
   have hVd:=OI (V:=(val b*sc)) hdp;have hVle:(val b*sc)≤(val b*sc)*dk:=Nat.le_mul_of_pos_right _ hdp;refine dV ?_;refine bU ?_;refine eU ?_;refine aA ?_;refine aB ?_;refine pr hF (pm rfl <| pg (λ_ hF=>dL (hF.ev rfl) (hF.ev rfl) jH) <| pa rfl <| PR.nil) ?_;clear hF fa;intro fa hF;replace hF:Frm 173 fa [(0,(.slice (A_a) (a.length) (c_a))),(1,(.slice (A_b) (b.length) (c_b))),(8,(.int .u32 (((sc:Nat):Int)))),(9,(.slice (A16) (((lim (val b*sc))).length) (c17))),(10,(.int .u64 (((((lim (val b*sc))).getD ((lim (val b*sc)).length-1) 0:Nat):Int)))),(12,(.slice (some ⟨g22,0,none⟩) (((lim (val a*sc))).length) (a.length+1))),(13,(.slice (A29) (((lim (val a*sc))).length) (c30))),(14,(.int .i64 (((j:Nat):Int)-1))),(11,(.slice (A58) (((lim ((lim (val a*sc)).getD (j-1) 0+1000000000*R))).length) (c59))),(76,(.bool (decide ((((j:Nat):Int)-1)≥0)))),(15,(.int .u64 (((h2:Nat):Int)))),(16,(.int .u64 (((dk:Nat):Int)-1))),(17,(.slice (Ap) ((lim ((val b*sc)*dk)).length) (cp))),(125,(.bool (decide ((eP (val ((lim ((val b*sc)*dk)))) (val (((lim ((lim (val a*sc)).getD (j-1) 0+1000000000*R)))))) > 0))))]:=(hF.all ⟨rfl,rfl,rfl,rfl,rfl,rfl,rfl,rfl,rfl,rfl,rfl,rfl,rfl,rfl,trivial⟩)
   refine aj ?_;refine aB ?_;refine pr hF (pm rfl <| pm rfl <| PR.nil) ?_;clear hF fa;intro fa hF;have hC:=qU (w:=w78) (X:=(g22 :: X)) (x:=(lim ((val b*sc)*dk))) (y:=((lim (val b*sc)))) (hS.bnd hX) ⟨_,((lim ((val b*sc)*dk)).length),_,rfl,(rfl),(hp.ext E80)⟩ ⟨_,(((lim (val b*sc))).length),_,rfl,(rfl),(hu18.ext ((((((((((E24.trans E28).trans E33).trans E40).trans E49).trans E47).trans E54).trans E57).trans E72).trans E77).trans E80))⟩ (by have:=Bl (a:=(val b*sc)) (s:=dk) (by omega);omega) (by omega) (aY _) (aY _) (fZ hVle) (by rw [aC,aC];exact hVle);rw [show (lim (val ((lim ((val b*sc)*dk)))-val (((lim (val b*sc))))))=(lim ((val b*sc)*(dk-1))) from by rw [aC,aC,hVd]] at hC;refine st rfl (dP hF rfl TfPA.body144 (args2 (hF.ev rfl) (hF.ev rfl)) hC ?_);clear hC;rintro _ w82 ⟨⟨A85,_,c86,rfl,rfl,hu87⟩,hb83⟩;refine jd ?_;clear hF fa;intro fa hF;replace hS:=hS.call hb83;have E84:=Ext.call (g22 :: X) hb83;refine pr hF (pa rfl <| PR.nil) ?_;clear hF fa;intro fa hF;refine fJ ?_;refine qp ?_;refine bU ?_;exact ⟨_,(by omega),(dk-1),A85,c86,(hF.all ⟨rfl,rfl,rfl,rfl,rfl,rfl,rfl,rfl,rfl,rfl,rfl,(aT rfl (by omega)),(uU rfl (by omega)),trivial⟩),hS,((E77.trans E80).trans E84),hu87,(by omega),(by rw [Nat.sub_add_cancel hdp];exact Nat.lt_of_lt_of_eq hgt (Nat.mul_comm _ _)),rfl⟩
  have hc81p:¬ ((eP (val ((lim ((val b*sc)*dk)))) (val (((lim ((lim (val a*sc)).getD (j-1) 0+1000000000*R)))))) > 0):=by first|simpa using hc81|exact bD hc81|exact bn hc81
  have hle:=mt Gs.2 hc81p;rw [aC,aC] at hle;have hle2:(val b*sc)*dk≤((lim (val a*sc)).getD (j-1) 0+1000000000*R):=by omega
  refine kZ ?_;refine mD ?_;refine mD ?_;refine yF ?_;refine bU ?_;refine aA ?_;refine aB ?_;refine pr hF (pm rfl <| pm rfl <| PR.nil) ?_;clear hF fa;intro fa hF;have hC:=qU (w:=w78) (X:=(g22 :: X)) (x:=((lim ((lim (val a*sc)).getD (j-1) 0+1000000000*R)))) (y:=(lim ((val b*sc)*dk))) (hS.bnd hX) ⟨_,(((lim ((lim (val a*sc)).getD (j-1) 0+1000000000*R))).length),_,rfl,(rfl),(hu60.ext ((E72.trans E77).trans E80))⟩ ⟨_,((lim ((val b*sc)*dk)).length),_,rfl,(rfl),(hp.ext E80)⟩ (by omega) (by have:=fZ hle2;omega) (aY _) (aY _) (fZ hle2) (by rw [aC,aC];exact hle2);rw [show (lim (val (((lim ((lim (val a*sc)).getD (j-1) 0+1000000000*R))))-val ((lim ((val b*sc)*dk)))))=(lim (((lim (val a*sc)).getD (j-1) 0+1000000000*R)-(val b*sc)*dk)) from by rw [aC,aC]] at hC;refine st rfl (dP hF rfl TfPA.body144 (args2 (hF.ev rfl) (hF.ev rfl)) hC ?_);clear hC;rintro _ w88 ⟨⟨A91,_,c92,rfl,rfl,hu93⟩,hb89⟩;refine jd ?_;clear hF fa;intro fa hF;replace hS:=hS.call hb89;have E90:=Ext.call (g22 :: X) hb89;refine pr hF (pa rfl <| PR.nil) ?_;clear hF fa;intro fa hF;replace hF:Frm 173 fa [(0,(.slice (A_a) (a.length) (c_a))),(1,(.slice (A_b) (b.length) (c_b))),(8,(.int .u32 (((sc:Nat):Int)))),(9,(.slice (A16) (((lim (val b*sc))).length) (c17))),(10,(.int .u64 (((((lim (val b*sc))).getD ((lim (val b*sc)).length-1) 0:Nat):Int)))),(12,(.slice (some ⟨g22,0,none⟩) (((lim (val a*sc))).length) (a.length+1))),(13,(.slice (A29) (((lim (val a*sc))).length) (c30))),(14,(.int .i64 (((j:Nat):Int)-1))),(11,(.slice (A91) (((lim (((lim (val a*sc)).getD (j-1) 0+1000000000*R)-(val b*sc)*dk))).length) (c92))),(76,(.bool (decide ((((j:Nat):Int)-1)≥0)))),(15,(.int .u64 (((h2:Nat):Int)))),(16,(.int .u64 (((dk:Nat):Int)))),(17,(.slice (Ap) ((lim ((val b*sc)*dk)).length) (cp))),(125,(.bool (decide ((eP (val ((lim ((val b*sc)*dk)))) (val (((lim ((lim (val a*sc)).getD (j-1) 0+1000000000*R)))))) > 0))))]:=(hF.all ⟨rfl,rfl,rfl,rfl,rfl,rfl,rfl,rfl,rfl,rfl,rfl,rfl,rfl,rfl,trivial⟩)
  refine aj ?_;refine aB ?_;refine pr hF (pm rfl <| pm rfl <| pm rfl <| pg (λ_ hF=>bJ TfPA.unds152 TfPA.und154 (hF.ev rfl) (yj (by omega))) <| pg (λ_ hF=>kM (j:=j-1) TfPA.sl26 (hF.ev rfl) (hF.ev rfl) (by omega) (by omega)) <| PR.nil) ?_;clear hF fa;intro fa hF;refine st rfl (gq (vs:=#[.int .u32 ((dk:Nat):Int)]) (v:=.int .u32 ((dk:Nat):Int)) (X:=(g22 :: X)) hF hS 0 rfl (by simp) rfl (eH rfl (by omega)) rfl TfPA.size154 rfl (xP (by first|omega|(simp;omega))) ?_);intro w94 hS E95;rw [lI (by first|omega|(simp;omega))] at hS;refine fJ ?_;refine qp ?_;refine bU ?_;refine aB ?_;refine pr hF (pm rfl <| pg (λ_ hF=>dL (hF.ev rfl) (hF.ev rfl) gQ) <| pa rfl <| PR.nil) ?_;clear hF fa;intro fa hF;refine fJ ?_;refine bU ?_;exact ⟨_,(by omega),o.set (j-1) (dk),(((lim (val a*sc)).getD (j-1) 0+1000000000*R)-(val b*sc)*dk),(j-1),A91,c92,(hF.all ⟨rfl,rfl,rfl,rfl,rfl,rfl,rfl,(aT rfl (by omega)),(uU rfl (by first|omega|(rw [dY];rfl))),trivial⟩),hS,((((((((((E33.trans E40).trans E49).trans E47).trans E54).trans E57).trans E72).trans E77).trans E80).trans E90).trans E95),(hu93.ext E95),(by omega),(by simp;omega),(fO hbo (by omega)),(by rw [qN (by omega)];exact hz),(KF (by omega) hj (by omega) hI rfl hle2),(QB hdR hle2),rfl⟩
 have hc34p:¬ ((((j:Nat):Int)-1)≥0):=by first|simpa using hc34|exact bD hc34|exact bn hc34
 refine kZ ?_;refine mD ?_;refine mD ?_;refine yF ?_;refine bU ?_;refine aA ?_;refine aB ?_;refine pr hF (pa rfl <| PR.nil) ?_;clear hF fa;intro fa hF;refine aj ?_;refine aA ?_;have hRl:=fZ (Nat.le_of_lt hR);refine aB ?_;refine pr hF (pm rfl <| pg (λ_ hF=>dX TfPA.sls26 (hF.ev rfl)) <| PR.nil) ?_;clear hF fa;intro fa hF;refine st rfl (yP (X:=(g22 :: X)) (nl:=(lim (R)).length) (nc:=(lim (R)).length) hF hS rfl TfPA.sl26 TfPA.el154 rfl rfl (by omega) (by omega) (by omega) (by omega) (by omega) (vV _) ?_);intro g96 w97 hg99 hS E98;refine jd ?_;clear hF fa;intro fa hF;rw [Nat.mul_one] at hS;refine pr hF (pa rfl <| PR.nil) ?_;clear hF fa;intro fa hF;refine aj ?_;refine aA ?_;refine aA ?_;refine aB ?_;refine pr hF (pm rfl <| pg (λ_ hF=>dX TfPA.sls26 (hF.ev rfl)) <| pg (λ_ hF=>dL (hF.ev rfl) (hF.ev rfl) gQ) <| pa rfl <| PR.nil) ?_;clear hF fa;intro fa hF;replace hF:Frm 173 fa [(0,(.slice (A_a) (a.length) (c_a))),(1,(.slice (A_b) (b.length) (c_b))),(8,(.int .u32 (((sc:Nat):Int)))),(9,(.slice (A16) (((lim (val b*sc))).length) (c17))),(10,(.int .u64 (((((lim (val b*sc))).getD ((lim (val b*sc)).length-1) 0:Nat):Int)))),(12,(.slice (some ⟨g22,0,none⟩) (((lim (val a*sc))).length) (a.length+1))),(13,(.slice (A29) (((lim (val a*sc))).length) (c30))),(14,(.int .i64 (((j:Nat):Int)-1))),(11,(.slice (Ar) ((lim (R)).length) (cr))),(76,(.bool (decide ((((j:Nat):Int)-1)≥0)))),(18,(.int .u64 (0))),(19,(.slice (some ⟨g96,0,none⟩) ((lim (R)).length) ((lim (R)).length))),(20,(.int .i64 ((((lim (R)).length:Nat):Int)-1)))]:=(hF.all ⟨rfl,rfl,rfl,rfl,rfl,rfl,rfl,rfl,rfl,rfl,rfl,rfl,rfl,trivial⟩)
 refine aj ?_;refine eU ?_;refine oU (λmu fa w'=>∃o3:List Nat,∃rr:Nat,∃k:Nat,Frm 173 fa [(0,(.slice (A_a) (a.length) (c_a))),(1,(.slice (A_b) (b.length) (c_b))),(8,(.int .u32 (((sc:Nat):Int)))),(9,(.slice (A16) (((lim (val b*sc))).length) (c17))),(10,(.int .u64 (((((lim (val b*sc))).getD ((lim (val b*sc)).length-1) 0:Nat):Int)))),(12,(.slice (some ⟨g22,0,none⟩) (((lim (val a*sc))).length) (a.length+1))),(13,(.slice (A29) (((lim (val a*sc))).length) (c30))),(14,(.int .i64 (((j:Nat):Int)-1))),(11,(.slice (Ar) ((lim (R)).length) (cr))),(76,(.bool (decide ((((j:Nat):Int)-1)≥0)))),(19,(.slice (some ⟨g96,0,none⟩) ((lim (R)).length) ((lim (R)).length))),(18,(.int .u64 (((rr:Nat):Int)))),(20,(.int .i64 (((k:Nat):Int)-1)))]∧St w w' [(g96,154,(us (o3)).toArray),(g22,154,(us (o)).toArray)]∧Ext w97 (g96 :: (g22 :: X)) w' (g96 :: (g22 :: X))∧(k≤(lim R).length)∧(o3.length=(lim R).length)∧(Lb o3)∧(rr<sc)∧(val ((lim R).drop k)=sc*val (o3.drop k)+rr)∧k=mu) ?_ ?_
 ·
  exact ⟨_,List.replicate (lim R).length 0,0,(lim R).length,(hF.all ⟨rfl,rfl,rfl,rfl,rfl,rfl,rfl,rfl,rfl,rfl,rfl,(aT rfl (by omega)),(aT rfl (by omega)),trivial⟩),hS,Ext.refl _ _,(Nat.le_refl _),(by simp),(ji _),(hsc0),(by rw [fV (Nat.le_refl _),fV (by simp)];simp),rfl⟩
 clear hF fa;intro n2_ fa w' hI;clear hS;obtain ⟨o3,rr,k,hF,hS,E101,hk,ho3,hbo3,hrr,hv3,rfl⟩:=hI
 rename World=>w100
 have hak:=(aY R).getD (k-1);obtain ⟨hbl1,hbl2,hbl3⟩:=DY hrr hscB hak (t:=_) rfl;refine aA ?_;refine aA ?_;refine aB ?_;refine pr hF (pm rfl <| pg (λ_ hF=>lJ (hF.ev rfl) (hF.ev rfl)) <| PR.nil) ?_;clear hF fa;intro fa hF;refine aj ?_;refine eG hF rfl (λhc102=>?_) (λhc102=>?_)
 ·
  have hc102p:(((k:Nat):Int)-1)≥0:=by first|simpa using hc102|exact bD hc102|exact bn hc102
  refine dV ?_;refine bU ?_;refine aA ?_;refine eU ?_;refine aA ?_;refine aB ?_;refine pr hF (pm rfl <| pg (λ_ hF=>rD (hF.ev rfl) (hF.ev rfl) jH) <| pm rfl <| pm rfl <| PR.nil) ?_;clear hF fa;intro fa hF;obtain ⟨ad103,hA104,hq105⟩:=(hr.ext (E98.trans E101)).cl.at_ (iw (l:=(lim (R))) (i:=k-1) (by omega));refine pr hF (pg (λ_ hF=>iq (j:=k-1) TfPA.sl26 (hF.ev rfl) hA104 (hF.ev rfl) (by omega) (by omega)) <| pg (λ_ hF=>dN TfPA.one154 (hF.ev rfl) hq105) <| pg (λ_ hF=>bJ TfPA.unds154 TfPA.und152 (hF.ev rfl) (iV (by omega))) <| pg (λ_ hF=>bY (hF.ev rfl) (hF.ev rfl) jH) <| pa rfl <| PR.nil) ?_;clear hF fa;intro fa hF;refine aj ?_;refine aA ?_;refine aB ?_;refine pr hF (pm rfl <| pm rfl <| pm rfl <| pm rfl <| pg (λ_ hF=>bJ TfPA.unds154 TfPA.und152 (hF.ev rfl) (iV (by omega))) <| pg (λ_ hF=>nO (hF.ev rfl) (hF.ev rfl) (by omega) (uN (x:=(rr*1000000000)+((lim (R)).getD (k-1) 0)) (y:=sc) (by omega) (by omega) (by omega))) <| pg (λ_ hF=>bJ TfPA.unds152 TfPA.und154 (hF.ev rfl) (yj (by omega))) <| pg (λ_ hF=>kM (j:=k-1) TfPA.sl26 (hF.ev rfl) (hF.ev rfl) (by omega) (by omega)) <| PR.nil) ?_;clear hF fa;intro fa hF;refine st rfl (gq (vs:=#[.int .u32 ((((rr*1000000000)+((lim (R)).getD (k-1) 0)) / sc:Nat):Int)]) (v:=.int .u32 ((((rr*1000000000)+((lim (R)).getD (k-1) 0)) / sc:Nat):Int)) (X:=(g96 :: (g22 :: X))) hF hS 0 rfl (by simp) rfl (eH rfl (by omega)) rfl TfPA.size154 rfl (xP (by first|omega|(simp;omega))) ?_);intro w106 hS E107;rw [lI (by first|omega|(simp;omega))] at hS;replace hF:Frm 173 fa [(0,(.slice (A_a) (a.length) (c_a))),(1,(.slice (A_b) (b.length) (c_b))),(8,(.int .u32 (((sc:Nat):Int)))),(9,(.slice (A16) (((lim (val b*sc))).length) (c17))),(10,(.int .u64 (((((lim (val b*sc))).getD ((lim (val b*sc)).length-1) 0:Nat):Int)))),(12,(.slice (some ⟨g22,0,none⟩) (((lim (val a*sc))).length) (a.length+1))),(13,(.slice (A29) (((lim (val a*sc))).length) (c30))),(14,(.int .i64 (((j:Nat):Int)-1))),(11,(.slice (Ar) ((lim (R)).length) (cr))),(76,(.bool (decide ((((j:Nat):Int)-1)≥0)))),(19,(.slice (some ⟨g96,0,none⟩) ((lim (R)).length) ((lim (R)).length))),(18,(.int .u64 ((((rr:Nat):Int)*1000000000)+(((lim (R)).getD (k-1) 0:Nat):Int)))),(20,(.int .i64 (((k:Nat):Int)-1))),(146,(.bool (decide ((((k:Nat):Int)-1)≥0))))]:=(hF.all ⟨rfl,rfl,rfl,rfl,rfl,rfl,rfl,rfl,rfl,rfl,rfl,rfl,rfl,rfl,trivial⟩)
  refine aj ?_;refine aB ?_;refine pr hF (pm rfl <| pm rfl <| pg (λ_ hF=>bJ TfPA.unds154 TfPA.und152 (hF.ev rfl) (iV (by omega))) <| pg (λ_ hF=>tK (hF.ev rfl) (hF.ev rfl) (by omega) (DT (x:=(rr*1000000000)+((lim (R)).getD (k-1) 0)) (y:=sc) (by omega) (by omega))) <| pa rfl <| PR.nil) ?_;clear hF fa;intro fa hF;refine fJ ?_;refine qp ?_;refine bU ?_;refine aB ?_;refine pr hF (pm rfl <| pg (λ_ hF=>dL (hF.ev rfl) (hF.ev rfl) gQ) <| pa rfl <| PR.nil) ?_;clear hF fa;intro fa hF;refine fJ ?_;refine bU ?_;exact ⟨_,(by omega),o3.set (k-1) (((rr*1000000000)+((lim (R)).getD (k-1) 0)) / sc),((rr*1000000000)+((lim (R)).getD (k-1) 0)) % sc,(k-1),(hF.all ⟨rfl,rfl,rfl,rfl,rfl,rfl,rfl,rfl,rfl,rfl,rfl,(aT rfl (by omega)),(aT rfl (by omega)),trivial⟩),hS,(E101.trans E107),(by omega),(by simp;omega),(fO hbo3 hbl1),(hbl2),(xY (by omega) hk (by omega) hv3 rfl rfl),rfl⟩
 have hc102p:¬ ((((k:Nat):Int)-1)≥0):=by first|simpa using hc102|exact bD hc102|exact bn hc102
 refine kZ ?_;refine mD ?_;refine mD ?_;refine yF ?_;refine bU ?_;refine aA ?_;refine aB ?_;refine pr hF (pm rfl <| PR.nil) ?_;clear hF fa;intro fa hF;obtain ⟨hS1,hn1⟩:=hS.out hX 1 rfl;have hu108:=UC.of_boxP (c:=a.length+1) (n:=((lim (val a*sc))).length) (L:=o) (hS.get 1 rfl) hn1 (by unfold maxLen;omega) (by first|omega|(simp;omega)) (by first|omega|(simp;omega));have E109:Ext w100 (g96 :: (g22 :: X)) w100 (g96 :: X):=Ext.drop (by simp +contextual);replace hu108:UC w100 (g96 :: X) (some ⟨g22,0,none⟩) (a.length+1) (o.take (((lim (val a*sc))).length)):=hu108;replace hS:St w w100 [(g96,154,(us (o3)).toArray)]:=hS1;clear hn1;have hC:=nK (w:=w100) (X:=(g96 :: X)) (l:=(o.take (((lim (val a*sc))).length))) (hS.bnd hX) ⟨_,(((lim (val a*sc))).length),_,rfl,(by rw [List.length_take];omega),hu108⟩;refine st rfl (dP hF rfl TfPA.body142 (args1 (hF.ev rfl)) hC ?_);clear hC;rintro _ w110 ⟨⟨A113,_,c114,rfl,rfl,hu115⟩,hb111⟩;refine jd ?_;clear hF fa;intro fa hF;replace hS:=hS.call hb111;have E112:=Ext.call (g96 :: X) hb111;refine pr hF (pm rfl <| PR.nil) ?_;clear hF fa;intro fa hF;obtain ⟨hS1,hn1⟩:=hS.out hX 0 rfl;have hu116:=UC.of_box (L:=o3) (hS.get 0 rfl) hn1 (by first|omega|(simp;omega));have E117:Ext w110 (g96 :: X) w110 X:=Ext.drop (by simp +contextual);replace hu116:UC w110 X (some ⟨g96,0,none⟩) (o3).length (o3):=hu116;replace hS:St w w110 []:=hS1;clear hn1;have hC:=nK (w:=w110) (X:=X) (l:=o3) (hS.bnd hX) (UL.cap (n:=(lim (R)).length) (c:=(lim (R)).length) hu116 (by first|rfl|(simp;done)|omega) (by first|rfl|(simp;done)|omega));refine st rfl (dP hF rfl TfPA.body142 (args1 (hF.ev rfl)) hC ?_);clear hC;rintro _ w118 ⟨⟨A121,_,c122,rfl,rfl,hu123⟩,hb119⟩;refine jd ?_;clear hF fa;intro fa hF;replace hS:=hS.call hb119;have E120:=Ext.call X hb119;refine pr hF (pa rfl <| pa rfl <| PR.nil) ?_;clear hF fa;intro fa hF;refine aj ?_;refine qF ?_;have hk0:k=0:=by omega
 subst hk0;have hj0:j=0:=by omega
 subst hj0;rw [List.drop_zero,List.drop_zero,aC] at hv3 hI;have htk:=sH (U:=o) (k:=(lim (val a*sc)).length) (by omega);rw [hz,Nat.mul_zero,Nat.add_zero] at htk;have hq:=PY hsc0 hI hR hv3 hrr;refine Sv hF rfl (iQ hF rfl) (iQ hF rfl) ?_;exact ⟨_,rfl,⟨_,_,rfl,(UL.fin (L:=(ah (o.take (((lim (val a*sc))).length)))) ⟨_,_,_,rfl,(rfl),(hu115.ext (E117.trans E120))⟩ (by rw [← kN _ (hbo.take _),← htk,hq.1]) (λx hx=>by simp [hx])),(UL.fin (L:=(ah o3)) ⟨_,_,_,rfl,(rfl),hu123⟩ (by rw [← kN _ hbo3,hq.2]) (λx hx=>by simp [hx]))⟩,hS.below⟩
end Go.Proofs.YtmniihkenijjpaaGreatDoor
namespace Go.Proofs.YtmniihkenijjpaaGreatDoor
open Go Go.RowKit Go.Sw
set_option maxRecDepth 100000
set_option maxHeartbeats 8000000
instance(a b:List Nat):DenI Tryz.prog 197 [.c (bG a),.c (bG b)] (a.length≤100000000000∧b.length≤100000000000∧Lb a∧Lb b∧0<val b) (.tup [.c (bG (pad (Vw a b) (val a / val b))),.c (bG (pad (Uu a b) (val a % val b)))]):=⟨λhp=>abN (by kernel_rfl) λw X u v hX hu hv=>(vZ hX hu.ul hv.ul hp.1 hp.2.1 hp.2.2.1 hp.2.2.2.1 hp.2.2.2.2).mono λe w' ⟨u,he,⟨qs,rs,r0,r1,h1,h2,h3,h4,h5,h6,h7,h8,h9⟩,hb⟩=>⟨u,he,by subst h1;obtain ⟨e1,e2⟩:=Td h4 h5 h6 h7 h8 h9;rw [← e1,← e2];exact ac2 (.c h2.rep) (.c h3.rep),hb⟩⟩
instance(a b:List Nat):DenI Tryz.prog 153 [.c (bG a),.c (bG b)] (a.length≤1000000000∧b.length≤1000000000∧CanL a∧CanL b∧0<val b) (.tup [.c (bG (lim (val a / val b))),.c (bG (lim (val a % val b)))]):=⟨λhp=>abN (by kernel_rfl) λw X u v hX hu hv=>(AL hX hu.ul hv.ul hp.1 hp.2.1 hp.2.2.1 hp.2.2.2.1 hp.2.2.2.2).mono λe w' ⟨u,he,⟨r0,r1,h1,h2,h3⟩,hb⟩=>⟨u,he,by subst h1;exact ac2 (.c h2.rep) (.c h3.rep),hb⟩⟩
instance aeA(a b:Int):DenI Tryz.prog 234 [Z a,Z b] (sz a≤1000000000∧sz b≤1000000000) (Z (a-b)):=⟨λhp=>by
 refine aF Tryz.func234 rfl ?_
 repeat' ((try (conv=>whnf));first
  |(with_reducible refine aK ?_)
  |(with_reducible refine aO ?_)
  |(with_reducible refine bW (λ_=>?_) (λ_=>?_)))
 all_goals (try ((conv=>whnf);first|rw [ZV (by assumption)]|rw [aa6 (by assumption)]))
 all_goals (repeat' ((try (conv=>whnf));first
  |refine ak ?_ ?_
  |refine Ends.mk ?_))
 all_goals (try refine Pr.mk ?_)
 all_goals first
  |(rw [jq];exact hp)
  |(refine Vt ?_;omega)⟩
instance aeF(a:Int):DenI Tryz.prog 331 [Z a] (True) (.tup [.int .i64 (if -9223372036854775808≤a∧a≤9223372036854775807 then a else 0),.bool (decide (-9223372036854775808≤a∧a≤9223372036854775807))]):=⟨λhp=>by
 refine aF Tryz.func331 rfl ?_
 repeat' ((try (conv=>whnf));first
  |refine aH ?_
  |refine ak ?_ ?_
  |(with_reducible refine aK ?_)
  |(with_reducible refine aO ?_)
  |(with_reducible refine au (λ_=>?_) (λ_=>?_))
  |refine Drw.mk (by kernel_rfl) ?_
  |refine Ends.mk ?_)
 all_goals (try refine Pr.mk ?_)
 all_goals first
  |omega
  |with_reducible exact ac7 (by assumption)
  |with_reducible exact acJ (by assumption)
  |(have hb:=acZ (by assumption) (by assumption);have hq:=ac4 hb;((conv=>whnf);refine Sw.Loop.inv (α:=Nat) (λx=>[(1,.ptr 1 0),(4,.int .u64 (val ((lim a.natAbs).drop x):Nat)),(5,.int .i64 ((x:Int)-1))]) (λx=>[(1,.var [zs a,zl a])]) (λx=>x≤(lim a.natAbs).length) (λx=>x) ((lim a.natAbs).length) ?_ ?_ ?_ (λx hx=>?_)))
 all_goals (repeat' ((try (conv=>whnf));first
  |(with_reducible refine au (λ_=>?_) (λ_=>?_))
  |(with_reducible refine dB ?_ ?_)
  |refine Ends.mk ?_))
 all_goals (try refine Pr.mk ?_)
 all_goals first|(show SubE _ _;repeat' (first|exact trivial|refine And.intro ?_ ?_))|(show SubB _ _;repeat' (first|exact trivial|refine And.intro ?_ ?_))|skip
 all_goals (try rfl)
 all_goals (try simp (disch:=omega) only [List.length_map,List.length_take,Int.toNat_natCast,List.length_replicate,bV,dW,wu64,EJ,BF,XV,mJ,mF] at *)
 all_goals first
  |omega
  |rfl
  |(rw [fV (Nat.le_refl _)];rfl)
  |(refine acG hb ?_;rw [show x=0 by omega,List.drop_zero,aC];first|exact JM (by omega) (by omega)|exact SB (by omega) (by omega))
  |(have hd:=oz (l:=lim a.natAbs) (k:=x) (by omega) hx;have hle:=x9 (lim a.natAbs) (x-1);have hg:=(aY a.natAbs).getD (x-1);((conv=>whnf);exact ⟨x-1,⟨⟨rfl,iS (by (try simp (disch:=omega) only [dW,wu64,bV,mJ,mF,BF,yN,Qb,Qh,Qa,Qc,P9])<;>omega),zA (by omega) (by omega),trivial⟩,⟨rfl,trivial⟩,(by omega),by show x-1<x;omega⟩⟩))⟩
instance abA(a b:Int):DenI Tryz.prog 200 [Z a,Z b] (sz a≤1000000000∧sz b≤1000000000) (.tup [Z (a.fdiv b),Z (if b=0 then 0 else a.fmod b),.int .i64 (if b=0 then 6 else 0)]):=⟨λhp=>by
 refine aF Tryz.func200 rfl ?_
 repeat' ((try (conv=>whnf));first
  |refine ak ?_ ?_
  |(with_reducible refine aK ?_)
  |(with_reducible refine aO ?_)
  |(with_reducible refine au (λ_=>?_) (λ_=>?_))
  |refine OnB.mk (λ_=>?_) (λ_=>?_)
  |refine Drw.mk (by kernel_rfl) ?_
  |refine Ends.mk ?_)
 all_goals (try refine Pr.mk ?_)
 all_goals (try simp (disch:=assumption) only [aC,kP,wB,xK,xq,List.length_map,dqI,drI] at *)
 all_goals (try simp (disch:=assumption) only [aC,kP,wB,xK,xq,List.length_map,dqI,drI] at *)
 all_goals first
  |omega
  |(have hb0:b=0:=(by omega);subst hb0;exact UJ a)
  |with_reducible exact qJ _ _
  |with_reducible exact Vs hp.1 hp.2 (by assumption)
  |with_reducible exact ⟨afn hp.1 _,aeD⟩
  |with_reducible exact ⟨aeG hp.1 _,hp.2⟩
  |with_reducible exact UY (by assumption) (by assumption) (XA (r:=a.natAbs % b.natAbs) (by omega) (by assumption))
  |with_reducible exact Gw (by assumption) (.inr (Xv (r:=a.natAbs % b.natAbs) (by omega) (by assumption)))
  |with_reducible exact Gw (by assumption) (.inl (by omega))⟩
instance afu(a b:Int):DenI Tryz.prog 120 [Z a,Z b] (sz a≤1000000000∧sz b≤1000000000) (Z ((Nat.gcd a.natAbs b.natAbs:Nat):Int)):=⟨λhp=>by
 refine aF Tryz.func120 rfl ?_
 repeat' ((try (conv=>whnf));first
  |refine Drw.mk (by kernel_rfl) ?_)
 all_goals first
  |((conv=>whnf);refine Sw.Loop.inv (α:=Nat × Nat) (λx=>[(4,.ptr 4 0),(5,.c (bG (lim x.1))),(6,.c (bG (lim x.2)))]) (λx=>[(4,.var [.v (.bool false),.sl 1 []])]) (λx=>Nat.gcd x.1 x.2=Nat.gcd a.natAbs b.natAbs∧(lim x.1).length≤1000000000∧(lim x.2).length≤1000000000) (λx=>x.2) (a.natAbs,b.natAbs) ?_ ?_ ?_ (λx hx=>?_))
 all_goals (repeat' ((try (conv=>whnf));first
  |refine ak ?_ ?_
  |(with_reducible refine aK ?_)
  |(with_reducible refine aO ?_)
  |(with_reducible refine au (λ_=>?_) (λ_=>?_))
  |refine Ends.mk ?_))
 all_goals (try refine Pr.mk ?_)
 all_goals first
  |((conv=>whnf);refine Sw.Loop.inv (α:=Nat × Nat) (λy=>[(4,.ptr 4 0),(9,.int .u64 (y.1:Nat)),(10,.int .u64 (y.2:Nat))]) (λy=>[(4,.var [.v (.bool false),.sl 1 []])]) (λy=>y.1<1000000000000000000∧y.2<1000000000000000000∧Nat.gcd y.1 y.2=Nat.gcd a.natAbs b.natAbs) (λy=>y.2) x ?_ ?_ ?_ (λy hy=>?_))
  |skip
 all_goals (repeat' ((try (conv=>whnf));first
  |refine ak ?_ ?_
  |(with_reducible refine au (λ_=>?_) (λ_=>?_))
  |refine bT ?_ ?_
  |refine Drw.mk (by kernel_rfl) ?_
  |refine Ends.mk ?_))
 all_goals (try refine Pr.mk ?_)
 all_goals first|(show SubE _ _;repeat' (first|exact trivial|refine And.intro ?_ ?_))|(show SubB _ _;repeat' (first|exact trivial|refine And.intro ?_ ?_))|skip
 all_goals (try rfl)
 all_goals (try simp only [List.length_map] at *)
 all_goals first
  |with_reducible exact aY _
  |with_reducible exact ae1 hx.2.1 hx.2.2 (by omega)
  |with_reducible exact aaQ (by omega)
  |exact ⟨trivial,hp.1,hp.2⟩
  |exact gv
  |(have hz:=dG (n:=x.2);with_reducible exact XU (by omega) hx.1 (aC _))
  |with_reducible exact XU (by omega) hy.2.2 (aC _)
  |exact ⟨glt (by omega),glt (by omega),hx.1⟩
  |(have h3:x.1 % x.2<x.2:=Nat.mod_lt _ (by have hz:=dG (n:=x.2);omega);((conv=>whnf);exact ⟨(x.2,x.1 % x.2),⟨⟨rfl,rfl,afo,trivial⟩,⟨rfl,trivial⟩,⟨vM hx.1 rfl,hx.2.2,Nat.le_trans (fZ (Nat.le_of_lt h3)) hx.2.2⟩,h3⟩⟩))
  |(have h1:=hy.1;have h2:=hy.2.1;have h3:y.1 % y.2<y.2:=Nat.mod_lt _ (by omega);((conv=>whnf);exact ⟨(y.2,y.1 % y.2),⟨⟨rfl,rfl,gm2,trivial⟩,⟨rfl,trivial⟩,⟨by show y.2<_;omega,by show y.1 % y.2<_;omega,vM hy.2.2 rfl⟩,h3⟩⟩))
  |omega⟩
instance afB(a b:Int):DenI Tryz.prog 156 [Z a,Z b] (sz a≤1000000000∧sz b≤1000000000) (Z ((Nat.gcd a.natAbs b.natAbs:Nat):Int)):=⟨λhp=>by
 refine aF Tryz.func156 rfl ?_
 repeat' ((try (conv=>whnf));first
  |refine ak ?_ ?_
  |refine Drw.mk (by kernel_rfl) ?_)
 all_goals (try refine Pr.mk ?_)
 all_goals first
  |((conv=>whnf);refine Sw.Loop.inv (α:=Nat × Nat) (λx=>[(4,.ptr 4 0),(5,.ptr 5 0),(6,.ptr 6 0)]) (λx=>[(4,.var [.v (.bool false),.sl 1 []]),(5,.var [zs (x.1:Nat),zl (x.1:Nat)]),(6,.var [zs (x.2:Nat),zl (x.2:Nat)])]) (λx=>Nat.gcd x.1 x.2=Nat.gcd a.natAbs b.natAbs∧sz ((x.1:Nat):Int)≤1000000000∧sz ((x.2:Nat):Int)≤1000000000) (λx=>x.2) (a.natAbs,b.natAbs) ?_ ?_ ?_ (λx hx=>?_))
  |skip
 all_goals (repeat' ((try (conv=>whnf));first
  |refine aH ?_
  |refine ak ?_ ?_
  |(with_reducible refine aK ?_)
  |(with_reducible refine aO ?_)
  |(with_reducible refine au (λ_=>?_) (λ_=>?_))
  |refine bT ?_ ?_
  |refine Drw.mk (by kernel_rfl) ?_
  |refine Ends.mk ?_))
 all_goals (try refine Pr.mk ?_)
 all_goals first
  |((conv=>whnf);refine Sw.Loop.inv (α:=Nat × Nat) (λy=>[(4,.ptr 4 0),(7,.int .u64 (y.1:Nat)),(9,.int .u64 (y.2:Nat))]) (λy=>[(4,.var [.v (.bool false),.sl 1 []])]) (λy=>y.1<1000000000000000000∧y.2<1000000000000000000∧Nat.gcd y.1 y.2=Nat.gcd a.natAbs b.natAbs) (λy=>y.2) x ?_ ?_ ?_ (λy hy=>?_))
  |skip
 all_goals (repeat' ((try (conv=>whnf));first
  |refine ak ?_ ?_
  |(with_reducible refine au (λ_=>?_) (λ_=>?_))
  |refine bT ?_ ?_
  |refine Drw.mk (by kernel_rfl) ?_
  |refine Ends.mk ?_))
 all_goals (try refine Pr.mk ?_)
 all_goals first|(show SubE _ _;repeat' (first|exact trivial|refine And.intro ?_ ?_))|(show SubB _ _;repeat' (first|exact trivial|refine And.intro ?_ ?_))|skip
 all_goals (try rfl)
 all_goals (try simp only [List.length_map] at *)
 all_goals first
  |with_reducible exact aY _
  |with_reducible exact qJ _ _
  |exact SL _ _ (by rw [aC];rfl)
  |exact ⟨trivial,hp.1,hp.2⟩
  |exact wif (by assumption)
  |exact ⟨LP (by assumption),LP (by assumption),hx.1⟩
  |with_reducible exact ae7 hx.2.1 hx.2.2 (by assumption)
  |omega
  |with_reducible exact XU (ac8 (by assumption)) hx.1 (aC _)
  |with_reducible exact XU (by omega) hy.2.2 (kJ _ _ (by omega))
  |(have h1:=hy.1;have h2:=hy.2.1;have h3:y.1 % y.2<y.2:=Nat.mod_lt _ (by omega);((conv=>whnf);exact ⟨(y.2,y.1 % y.2),⟨⟨rfl,rfl,gm2,trivial⟩,⟨rfl,trivial⟩,⟨by show y.2<_;omega,by show y.1 % y.2<_;omega,vM hy.2.2 rfl⟩,h3⟩⟩))
  |(have h0:=afz (by assumption);have h3:x.1 % x.2<x.2:=Nat.mod_lt _ h0;((conv=>whnf);exact ⟨(x.2,x.1 % x.2),⟨⟨rfl,rfl,rfl,trivial⟩,⟨rfl,rfl,SL _ _ (gst (by assumption)),trivial⟩,⟨vM hx.1 rfl,hx.2.2,Nat.le_trans (mX (by rw [Int.natAbs_natCast,Int.natAbs_natCast];exact Nat.le_of_lt h3)) hx.2.2⟩,h3⟩⟩))
  |(have h0:=hx.2.1;unfold sz at h0;omega)⟩
instance aft : DenI Tryz.prog 158 [] (True) (Z 1):=⟨λhp=>by
 refine aF Tryz.func158 rfl ?_
 repeat' ((try (conv=>whnf));first
  |refine ak ?_ ?_
  |refine Ends.mk ?_)
 all_goals (try refine Pr.mk ?_)
 all_goals first|rfl|decide⟩
instance aeb(n:Int):DenI Tryz.prog 222 [Z n] (True) (R (n:Rat)):=⟨λhp=>by
 refine aF Tryz.func222 rfl ?_
 repeat' ((try (conv=>whnf));first
  |refine aH ?_
  |refine Drw.mk (by kernel_rfl) ?_
  |refine Ends.mk ?_)
 rfl⟩
instance ad6(a b:Int):DenI Tryz.prog 159 [Z a,Z b] (sz a≤1000000000∧sz b≤1000000000) (Z (a.fdiv b)):=⟨λhp=>by
 refine aF Tryz.func159 rfl ?_
 repeat' ((try (conv=>whnf));first
  |refine ak ?_ ?_
  |refine Ends.mk ?_)
 all_goals (try refine Pr.mk ?_)
 all_goals first|rfl|exact hp⟩
instance ac1(n d:Int):DenI Tryz.prog 121 [Z n,Z d] (d≠0∧sz n≤1000000000∧sz d≤1000000000) (R ((n:Rat) / d)):=⟨λhp=>by
 refine aF Tryz.func121 rfl ?_
 repeat' ((try (conv=>whnf));first
  |refine aH ?_
  |refine ak ?_ ?_
  |(with_reducible refine au (λ_=>?_) (λ_=>?_))
  |(with_reducible refine bW (λ_=>?_) (λ_=>?_))
  |refine Drw.mk (by kernel_rfl) ?_
  |refine Ends.mk ?_)
 all_goals (try refine Pr.mk ?_)
 all_goals obtain ⟨h0,h1,h2⟩:=hp
 all_goals (try simp only [ig] at *)
 all_goals first
  |(show aG _=_;first|(by_cases hd:d<0;(obtain ⟨q1,q2⟩:=WW (n:=n) (d:=d) hd;first|exact NK q1 q2|(refine NK ?_ ?_<;>simp_all));(obtain ⟨q1,q2⟩:=FW (n:=n) (d:=d) (by omega);first|exact NK q1 q2|(refine NK ?_ ?_<;>simp_all))))
  |((try simp only [jq]);(repeat' apply And.intro)<;>first|assumption|exact aaH (by (try simp only [jq]);assumption) (by (try simp only [jq]);assumption))⟩
instance aeR(n:Int):DenI Tryz.prog 179 [.int .i64 n] (-9223372036854775808≤n∧n≤9223372036854775807) (R (n:Rat)):=⟨λhp=>by
 refine aF Tryz.func179 rfl ?_
 repeat' ((try (conv=>whnf));first
  |refine aH ?_
  |refine ak ?_ ?_
  |refine Ends.mk ?_)
 all_goals (try refine Pr.mk ?_)
 all_goals first
  |(show aG _=_;rfl)
  |((repeat' apply And.intro)<;>first|assumption|omega|exact Int.mul_ne_zero (aI _) (aI _)|exact aI _|grind [jr,pK,xH,jq,lK,nN,qB,ny,oW,uo,pF,jT,qC])⟩
instance aeJ(a:Rat):DenI Tryz.prog 49 [R a] (True) (.int .i64 (aZ a)):=⟨λhp=>by
 refine aF Tryz.func49 rfl ?_
 repeat' ((try (conv=>whnf));first
  |refine aH ?_
  |refine Ends.mk ?_)
 all_goals (try simp only [ig] at *)
 all_goals first
  |(show aG _=_;rfl)⟩
instance af2(a:Rat):DenI Tryz.prog 180 [R a] (rz a≤100000000) (R (-a)):=⟨λhp=>by
 refine aF Tryz.func180 rfl ?_
 repeat' ((try (conv=>whnf));first
  |refine ak ?_ ?_
  |refine Drw.mk (by kernel_rfl) ?_
  |refine Ends.mk ?_)
 all_goals (try refine Pr.mk ?_)
 all_goals first
  |(show aG _=_;rfl)
  |((repeat' apply And.intro)<;>first|assumption|omega|exact Int.mul_ne_zero (aI _) (aI _)|exact aI _|grind [jr,pK,xH,jq,lK,nN,qB,ny,oW,uo,pF,jT,qC])⟩
instance agq(a b:Rat):DenI Tryz.prog 91 [R a,R b] (rz a≤100000000∧rz b≤100000000) (R (a*b)):=⟨λhp=>by
 refine aF Tryz.func91 rfl ?_
 repeat' ((try (conv=>whnf));first
  |refine ak ?_ ?_
  |refine Drw.mk (by kernel_rfl) ?_
  |refine Ends.mk ?_)
 all_goals (try refine Pr.mk ?_)
 all_goals first
  |(show aG _=_;exact congrArg R (mul_div a b))
  |((repeat' apply And.intro)<;>first|assumption|omega|exact Int.mul_ne_zero (aI _) (aI _)|exact aI _|grind [jr,pK,xH,jq,lK,nN,qB,ny,oW,uo,pF,jT,qC])⟩
instance agR(a b:Rat):DenI Tryz.prog 163 [R a,R b] (rz a≤100000000∧rz b≤100000000) (R (a+b)):=⟨λhp=>by
 refine aF Tryz.func163 rfl ?_
 repeat' ((try (conv=>whnf));first
  |refine aH ?_
  |refine ak ?_ ?_
  |(with_reducible refine au (λ_=>?_) (λ_=>?_))
  |refine Drw.mk (by kernel_rfl) ?_
  |refine Ends.mk ?_)
 all_goals (try refine Pr.mk ?_)
 all_goals (try simp only [ig] at *)
 all_goals first
  |(show aG _=_;first|exact congrArg R (add_div a b)|exact congrArg R (Sz a b (by assumption)))
  |((repeat' apply And.intro)<;>first|assumption|omega|exact Int.mul_ne_zero (aI _) (aI _)|exact aI _|grind [jr,pK,xH,jq,lK,nN,qB,ny,oW,uo,pF,jT,qC])⟩
instance agY(a b:Rat):DenI Tryz.prog 162 [R a,R b] (rz a≤100000000∧rz b≤100000000) (R (a-b)):=⟨λhp=>by
 refine aF Tryz.func162 rfl ?_
 repeat' ((try (conv=>whnf));first
  |refine ak ?_ ?_
  |refine Drw.mk (by kernel_rfl) ?_
  |refine Ends.mk ?_)
 all_goals (try refine Pr.mk ?_)
 all_goals first
  |(show aG _=_;exact congrArg R (Rat.sub_eq_add_neg a b).symm)
  |((repeat' apply And.intro)<;>first|assumption|omega|exact Int.mul_ne_zero (aI _) (aI _)|exact aI _|grind [jr,pK,xH,jq,lK,nN,qB,ny,oW,uo,pF,jT,qC])⟩
instance aeu(a:Rat):DenI Tryz.prog 332 [R a] (rz a≤100000000) (Z a.floor):=⟨λhp=>by
 refine aF Tryz.func332 rfl ?_
 repeat' ((try (conv=>whnf));first
  |refine ak ?_ ?_
  |refine Ends.mk ?_)
 all_goals (try refine Pr.mk ?_)
 all_goals first
  |(show aG _=_;exact congrArg Z (GU a))
  |((repeat' apply And.intro)<;>first|assumption|omega|exact Int.mul_ne_zero (aI _) (aI _)|exact aI _|grind [jr,pK,xH,jq,lK,nN,qB,ny,oW,uo,pF,jT,qC])⟩
instance aeg:DenI Tryz.prog 81 [] (True) (Z 1):=⟨λhp=>by
 refine aF Tryz.func81 rfl ?_
 repeat' ((try (conv=>whnf));first
  |refine ak ?_ ?_
  |refine Ends.mk ?_)
 all_goals (try refine Pr.mk ?_)
 all_goals first|rfl|decide⟩
instance ad7(n:Int):DenI Tryz.prog 42 [.int .i64 n] (-9223372036854775808≤n∧n≤9223372036854775807) (R (n:Rat)):=⟨λhp=>by
 refine aF Tryz.func42 rfl ?_
 repeat' ((try (conv=>whnf));first
  |refine aH ?_
  |refine ak ?_ ?_
  |refine Ends.mk ?_)
 all_goals (try refine Pr.mk ?_)
 all_goals first
  |(show aG _=_;rfl)
  |(exact hp)⟩
instance adC(neg:Bool)(l:List Nat):DenI Tryz.prog 119 [Zr neg l] (l.length≤9223372036854775807) (.bool (gI neg l)):=⟨λhp=>by
 refine aF Tryz.func119 rfl ?_
 repeat' ((try (conv=>whnf));first
  |refine aH ?_
  |refine ak ?_ ?_
  |(with_reducible refine aK ?_)
  |(with_reducible refine aO ?_)
  |(with_reducible refine au (λ_=>?_) (λ_=>?_))
  |(with_reducible refine bW (λ_=>?_) (λ_=>?_))
  |refine OnB.mk (λ_=>?_) (λ_=>?_)
  |refine bT ?_ ?_
  |refine Drw.mk (by kernel_rfl) ?_
  |refine gV ?_ ?_
  |refine iy ?_ ?_
  |(with_reducible refine dB ?_ ?_)
  |(with_reducible refine dA ?_)
  |(with_reducible refine dM ?_)
  |refine Ends.mk ?_)
 all_goals first
  |((conv=>whnf);refine Sw.Loop.inv (α:=Nat) (λx=>[(1,.ptr 1 0),(2,.bool false),(3,.int .i64 x)]) (λx=>[(1,.var [.v (.bool neg),bG l])]) (λx=>x≤l.length∧∀j,j<x→l.getD j 0<1000000000) (λx=>l.length-x) 0 ?_ ?_ ?_ (λx hx=>?_))
 all_goals (repeat' ((try (conv=>whnf));first
  |refine aH ?_
  |(with_reducible refine aK ?_)
  |(with_reducible refine aO ?_)
  |(with_reducible refine au (λ_=>?_) (λ_=>?_))
  |refine OnB.mk (λ_=>?_) (λ_=>?_)
  |refine Drw.mk (by kernel_rfl) ?_
  |(with_reducible refine dB ?_ ?_)
  |refine Ends.mk ?_))
 all_goals (try refine Pr.mk ?_)
 all_goals first|(show SubE _ _;repeat' (first|exact trivial|refine And.intro ?_ ?_))|(show SubB _ _;repeat' (first|exact trivial|refine And.intro ?_ ?_))|skip
 all_goals (try rfl)
 all_goals (try simp only [List.length_map,Int.toNat_natCast] at *)
 all_goals first
  |exact bE (Rk (x:=x) (by omega) (by assumption))
  |(refine bE ?_;rw [QX hx (by assumption)];(have hh:(ah l).length=l.length:=by omega);simp_all;done)
  |(refine bE ?_;rw [QX hx (by assumption)];(have hh:¬(ah l).length=l.length:=by omega);simp_all;done)
  |((conv=>whnf);exact ⟨x+1,⟨⟨rfl,rfl,bM (by omega),trivial⟩,⟨rfl,trivial⟩,⟨by omega,λj hj=>by rcases Nat.lt_succ_iff_lt_or_eq.1 hj with h|h;exact hx.2 j h;subst h;omega⟩,by show l.length-(x+1)<l.length-x;omega⟩⟩)
  |omega
  |exact ⟨by omega,λj hj=>by omega⟩⟩
instance adO(n1:Bool)(l1:List Nat)(n2:Bool)(l2:List Nat):DenI Tryz.prog 89 [Rr n1 l1 n2 l2] (l1.length≤1000000000∧l2.length≤1000000000) (.bool (iZ n1 l1 n2 l2)):=⟨λhp=>by
 rcases xU n1 l1 n2 l2 with h|⟨x,rfl,rfl,h⟩|⟨x,y,rfl,rfl,rfl,rfl⟩
 all_goals refine aF Tryz.func89 rfl ?_
 all_goals (repeat' ((try (conv=>whnf));first
  |refine aH ?_
  |refine ak ?_ ?_
  |(with_reducible refine aK ?_)
  |(with_reducible refine aO ?_)
  |(with_reducible refine au (λ_=>?_) (λ_=>?_))
  |(with_reducible refine bW (λ_=>?_) (λ_=>?_))
  |refine OnB.mk (λ_=>?_) (λ_=>?_)
  |refine bT ?_ ?_
  |refine Drw.mk (by kernel_rfl) ?_
  |refine gV ?_ ?_
  |refine iy ?_ ?_
  |(with_reducible refine dB ?_ ?_)
  |(with_reducible refine dA ?_)
  |(with_reducible refine dM ?_)
  |refine Ends.mk ?_))
 all_goals (try refine Pr.mk ?_)
 all_goals first
  |(simp only [pq] at *;exfalso;simp_all;done)
  |(exfalso;clear hp;simp at *;done)
  |(exfalso;simp_all;done)
  |(refine bE ?_;rw [kC];simp_all;done)
  |exact bE (by unfold iZ;simp_all)
  |exact hp
  |(first|exact Nat.le_trans hp.1 (by decide)|exact Nat.le_trans hp.2 (by decide))⟩
instance ady(l h:Int):DenI Tryz.prog 333 [.int .i64 l,.int .i64 h] (True) (Ov (OB l h)):=⟨λhp=>by
 refine aF Tryz.func333 rfl ?_
 repeat' ((try (conv=>whnf));first
  |(with_reducible refine aK ?_)
  |(with_reducible refine aO ?_)
  |(with_reducible refine au (λ_=>?_) (λ_=>?_))
  |refine Ends.mk ?_)
 all_goals first
  |(rw [LY (by omega) (by omega)];rfl)
  |(rw [FK (by omega)];rfl)⟩
instance agJ(l h:Int):DenI Tryz.prog 305 [Iv l h] (-2305843009213693952≤l∧l≤2305843009213693952∧-2305843009213693952≤h∧h≤2305843009213693952) (Iv (-h) (-l)):=⟨λhp=>by
 refine aF Tryz.func305 rfl ?_
 repeat' ((try (conv=>whnf));first
  |refine Ends.mk ?_)
 rw [bV (by omega) (by omega),bV (by omega) (by omega),Int.zero_sub,Int.zero_sub];rfl⟩
instance af5(n:Int):DenI Tryz.prog 355 [.int .i64 n] (-9223372036854775808≤n∧n≤9223372036854775807) (.int .u64 n.natAbs):=⟨λhp=>by
 refine aF Tryz.func355 rfl ?_
 repeat' ((try (conv=>whnf));first
  |(with_reducible refine au (λ_=>?_) (λ_=>?_))
  |refine Ends.mk ?_)
 all_goals (refine iE ?_;simp only [IntKind.wrap_u64];omega)⟩
instance ae3(l h:Int):DenI Tryz.prog 306 [Iv l h] (True) (.tup [.int .i64 (JV l h).1,.bool (JV l h).2]):=⟨λhp=>by
 refine aF Tryz.func306 rfl ?_
 repeat' ((try (conv=>whnf));first
  |(with_reducible refine aK ?_)
  |(with_reducible refine aO ?_)
  |(with_reducible refine au (λ_=>?_) (λ_=>?_))
  |refine Drw.mk (by kernel_rfl) ?_
  |refine Ends.mk ?_)
 all_goals (refine ibE ?_ ?_<;>unfold JV<;>(repeat' split)<;>simp_all<;>omega)⟩
instance ad9(a b:Nat):DenI Tryz.prog 327 [.int .u64 a,.int .u64 b] (a<18446744073709551616∧b<18446744073709551616) (.tup [.int .u64 (a*b / 18446744073709551616:Nat),.int .u64 (a*b % 18446744073709551616:Nat)]):=⟨λhp=>by
 refine aF Tryz.func327 rfl ?_
 repeat' ((try (conv=>whnf));first
  |refine bT ?_ ?_
  |refine Ends.mk ?_)
 all_goals (try refine Pr.mk ?_)
 all_goals first
  |(show (0:Int)≤_;decide)
  |(simp only [afh,adJ,adE,e32,e16,e48,CW,abn,Rw,wu,← Int.natCast_mul,← Int.natCast_add];obtain ⟨m1,m2,m3,m4,m5⟩:=Po (a:=a) (b:=b) hp.1 hp.2 rfl rfl rfl rfl;refine iE2 ?_ rfl;rw [← m1];apply congrArg Nat.cast;omega)⟩
instance abI(x y:Int):DenI Tryz.prog 334 [.int .i64 x,.int .i64 y] ((-9223372036854775808≤x∧x≤9223372036854775807)∧-9223372036854775808≤y∧y≤9223372036854775807) (.tup [.int .i64 (tC x y).1,.int .i64 (tC x y).2.1,.bool (tC x y).2.2]):=⟨λhp=>by
 refine aF Tryz.func334 rfl ?_
 repeat' ((try (conv=>whnf));first
  |refine ak ?_ ?_
  |(with_reducible refine aK ?_)
  |(with_reducible refine aO ?_)
  |(with_reducible refine au (λ_=>?_) (λ_=>?_))
  |(with_reducible refine bW (λ_=>?_) (λ_=>?_))
  |refine OnB.mk (λ_=>?_) (λ_=>?_)
  |refine bT ?_ ?_
  |refine Ends.mk ?_)
 all_goals (try refine Pr.mk ?_)
 all_goals (try simp only [adJ,adE,e16,e48,CW,Rw] at *)
 all_goals first
  |exact hp.1
  |exact hp.2
  |(show (0:Int)≤_;decide)
  |(constructor<;>omega)
  |(refine J3 ?_;exact ZL (by assumption))
  |(rw [adD (by omega)] at *;refine J3 ?_;exact WU (x:=x) (y:=y) (by assumption))
  |(rw [adD (by omega)] at *;have q1:=w1 (q:=((x.natAbs*y.natAbs / 65536:Nat):Int)) (by omega) (by assumption);have q2:=w2 (q:=((x.natAbs*y.natAbs / 65536:Nat):Int)) (by omega) (by assumption);have q3:=w3 (q:=((x.natAbs*y.natAbs / 65536:Nat):Int)) (by omega) (by assumption);have q4:=w4 (q:=((x.natAbs*y.natAbs / 65536:Nat):Int)) (by omega) (by assumption);rename_i g1 g2 g3 g4 hl;(try rw [q1] at hl);(try rw [q2] at hl);(try rw [q3] at hl);(try rw [q4] at hl);(try rw [q1]);(try rw [q2]);(try rw [q3]);(try rw [q4]);clear q1 q2 q3 q4;first|refine MV (z:=true) g2 g3 g1 (decide_eq_true (by omega)) rfl rfl ?_|refine MV (z:=false) g2 g3 g1 (decide_eq_false (by omega)) rfl rfl ?_)
 all_goals first|exact decide_eq_decide.2 (by omega)|exact (decide_eq_false (by omega)).symm⟩
instance(k:Nat):DenI Tryz.prog 160 [.bool false,.c (.sl 1 (List.replicate k [Cell.v (.int .u32 0)]++[[Cell.v (.int .u32 1)]]))] True (Z ((1000000000 ^ k:Nat):Int)):=⟨λ_=>by
 have h:=(inferInstance:DenI Tryz.prog 160 [.bool false,.c (bG (List.replicate k 0++[1]))] _ _).den ((ji k).append (Lb.cons (by omega) Lb.nil));rw [JB] at h;unfold bG at h;rw [List.map_append,List.map_replicate] at h
 exact h⟩
instance afN(a:Int):DenI Tryz.prog 366 [Z a] (sz a≤100000000) (.tup [Z (if a<0 then 0 else sO a.natAbs),.int .i64 (if a<0 then 7 else 0)]):=⟨λhp=>by
 refine aF Tryz.func366 rfl ?_
 repeat' ((try (conv=>whnf));first
  |refine aH ?_
  |refine ak ?_ ?_
  |(with_reducible refine au (λ_=>?_) (λ_=>?_))
  |refine bT ?_ ?_
  |refine gV ?_ ?_
  |refine Ends.mk ?_)
 all_goals (try refine Pr.mk ?_)
 all_goals have hl:(lim a.natAbs).length≤100000000:=hp
 all_goals first
  |((conv=>whnf);refine Sw.Loop.inv (α:=Nat) (λx=>[(1,.ptr 1 0),(2,.ptr 2 0),(3,.int .i64 0),(5,.ptr 5 0),(6,.ptr 6 0)]) (λx=>[(1,.var [zs a,zl a]),(2,.var [.v (.bool false),.sl 1 []]),(5,.var [zs x,zl x]),(6,.var [zs 2,zl 2])]) (λx=>0<x∧a.natAbs<(x+1)*(x+1)∧sz x≤200000000) (λx=>x) (1000000000 ^ (((lim a.natAbs).length+1) / 2)) ?_ ?_ ?_ (λx hx=>?_))
  |skip
 all_goals (repeat' ((try (conv=>whnf));first
  |refine aH ?_
  |refine ak ?_ ?_
  |(with_reducible refine au (λ_=>?_) (λ_=>?_))
  |refine Drw.mk (by kernel_rfl) ?_
  |refine Ends.mk ?_))
 all_goals (try refine Pr.mk ?_)
 all_goals first|(show SubE _ _;repeat' (first|exact trivial|refine And.intro ?_ ?_))|(show SubB _ _;repeat' (first|exact trivial|refine And.intro ?_ ?_))|skip
 all_goals (try rfl)
 all_goals (try simp only [ig] at *)
 all_goals (try simp only [List.length_map,aC,xK,xq] at *)
 all_goals (try rw [Tz (by omega)])
 all_goals (try simp only [Int.toNat_natCast,List.length_replicate,List.length_append,List.length_cons,List.length_nil])
 all_goals (try simp only [TA (show 0≤a by omega),Va] at *)
 all_goals first
  |exact XT (by assumption)
  |exact TU (by assumption) (by assumption)
  |with_reducible exact Xf (by assumption) (by assumption) (by assumption)
  |((conv=>whnf);exact ⟨(x+a.natAbs / x) / 2,⟨⟨rfl,rfl,rfl,rfl,rfl,trivial⟩,⟨rfl,rfl,rfl,rfl,trivial⟩,Q9 (by assumption) (by assumption) (by assumption),by show (x+a.natAbs / x) / 2<x;omega⟩⟩)
  |exact Jo rfl hl
  |(show ld _ _=some _;rfl)
  |(have z1:=@Ym a;have z2:=pK;have z3:=qC;have z4:=jT (n:=2) (by omega) (by omega);(repeat' apply And.intro)<;>first|assumption|omega|decide|(simp;done)|(have z5:=z1 (x:=x);have z6:=z2 x ((a.natAbs / x:Nat):Int);omega)|skip)⟩
instance aby(a:Rat):DenI Tryz.prog 302 [R a] (rz a≤10000000) (Ov (dQ a)):=⟨λhp=>by
 refine aF Tryz.func302 rfl ?_
 repeat' ((try (conv=>whnf));first
  |refine aH ?_
  |refine ak ?_ ?_
  |(with_reducible refine aK ?_)
  |(with_reducible refine aO ?_)
  |(with_reducible refine bW (λ_=>?_) (λ_=>?_))
  |refine Drw.mk (by kernel_rfl) ?_
  |refine Ends.mk ?_)
 all_goals (try refine Pr.mk ?_)
 all_goals first
  |exact ovN (ade (by assumption))
  |exact ovN (acK (by assumption))
  |(rename_i g1 g2;rw [if_pos g1,if_pos g2];rfl)
  |(have z1:=ny a ((65536:Int):Rat);have z2:=aeP;have z3:=oW (a*((65536:Int):Rat));have z4:=Ut (-(a*((65536:Int):Rat)));omega)⟩
instance f_add(a b c d:Int):DenI Tryz.prog 304 [Iv a b,Iv c d] (-2305843009213693952≤a∧a≤2305843009213693952∧-2305843009213693952≤b∧b≤2305843009213693952∧-2305843009213693952≤c∧c≤2305843009213693952∧-2305843009213693952≤d∧d≤2305843009213693952) (Ov (ug (a,b) (c,d))):=⟨λhp=>by
 refine aF Tryz.func304 rfl ?_
 repeat' ((try (conv=>whnf));first
  |refine aH ?_
  |refine Ends.mk ?_)
 rw [bV (by omega) (by omega),bV (by omega) (by omega)];rfl⟩
instance afa(n:Int):DenI Tryz.prog 356 [.int .i64 n] (0≤n∧n≤2305843009213693952) (.tup [.int .i64 (rt n),.bool (decide (rt n*rt n=n*65536))]):=⟨λhp=>by
 refine aF Tryz.func356 rfl ?_
 repeat' ((try (conv=>whnf));first
  |refine aH ?_
  |refine ak ?_ ?_
  |refine Drw.mk (by kernel_rfl) ?_
  |refine Ends.mk ?_)
 all_goals (try refine Pr.mk ?_)
 all_goals (have hn:=QH hp.1 hp.2;have h0:0=0:=rfl)
 all_goals (try simp only [abC,F7])
 all_goals first
  |exact ibE (if_pos (show -9223372036854775808≤rt n∧rt n≤9223372036854775807 by omega)) rfl
  |omega
  |(have z1:=jr n 65536;have z2:=szl n (by omega) (by omega);have z3:=szl 65536 (by omega) (by omega);have z4:=szl (rt n) (by omega) (by omega);omega)⟩
instance afm(l h:Int):DenI Tryz.prog 335 [Iv l h] (l≤h∧-2305843009213693952≤l∧l≤2305843009213693952∧-2305843009213693952≤h∧h≤2305843009213693952) (Ov (mg (l,h))):=⟨λhp=>by
 refine aF Tryz.func335 rfl ?_
 repeat' ((try (conv=>whnf));first
  |refine aH ?_
  |refine ak ?_ ?_
  |(with_reducible refine au (λ_=>?_) (λ_=>?_))
  |(with_reducible refine bW (λ_=>?_) (λ_=>?_))
  |refine Ends.mk ?_)
 all_goals (try refine Pr.mk ?_)
 all_goals (try rw [VU] at *)
 all_goals first
  |exact ovN (if_pos (by assumption))
  |exact ab4 (by assumption) (by assumption)
  |(have hn:=QH (n:=h) (by omega) (by omega);rw [bV (by omega) (by omega)];exact adF (by assumption) (by assumption))
  |(constructor<;>omega)⟩
instance agP(a b c d:Int):DenI Tryz.prog 303 [Iv a b,Iv c d] (-2305843009213693952≤a∧a≤2305843009213693952∧-2305843009213693952≤b∧b≤2305843009213693952∧-2305843009213693952≤c∧c≤2305843009213693952∧-2305843009213693952≤d∧d≤2305843009213693952) (Ov (qP (a,b) (c,d))):=⟨λhp=>by
 refine aF Tryz.func303 rfl ?_
 all_goals (repeat' ((try rw [Mc]);(try rw [Gh]);(try (conv=>whnf));first
  |refine ak ?_ ?_
  |refine Wq rfl ?_
  |refine Fa rfl ?_
  |refine OnB.mk (λ_=>?_) (λ_=>?_)
  |(with_reducible refine dA ?_)
  |(with_reducible refine dM ?_)
  |refine Sw.Loop.unroll ?_
  |refine Ends.mk ?_))
 all_goals (try refine Pr.mk ?_)
 all_goals (try simp only [Ql,Uh])
 all_goals first
  |exact ovN (vg (.inl rfl) (.inl rfl) (by with_reducible assumption))
  |exact ovN (vg (.inl rfl) (.inr rfl) (by with_reducible assumption))
  |exact ovN (vg (.inr rfl) (.inl rfl) (by with_reducible assumption))
  |exact ovN (vg (.inr rfl) (.inr rfl) (by with_reducible assumption))
  |(rename_i g1 g2 g3 g4;exact Sr g1 g2 g3 g4)
  |(constructor<;>constructor<;>omega)⟩
instance aec(a b c:Rat):DenI Tryz.prog 307 [Q3 a b c] (rz a≤100000∧rz b≤100000∧rz c≤100000) (Ov (l9 a b c)):=⟨λhp=>by
 refine aF Tryz.func307 rfl ?_
 repeat' ((try (conv=>whnf));first
  |refine aH ?_
  |refine ak ?_ ?_
  |(with_reducible refine aK ?_)
  |(with_reducible refine aO ?_)
  |(with_reducible refine au (λ_=>?_) (λ_=>?_))
  |refine OnB.mk (λ_=>?_) (λ_=>?_)
  |refine Ends.mk ?_)
 all_goals (try refine Pr.mk ?_)
 all_goals (try simp only [Prod.eta] at *)
 all_goals first
  |omega
  |(have z1:=jg a;have z2:=jg b;have z3:=jg c;have z4:=Uc z3;have z5:=yK ((dQ b).getD (0,0)) ((mg ((dQ c).getD (0,0))).getD (0,0));unfold EH at *;omega)
  |refine abK ?_
  |(show Ov (dQ a)=_;refine congrArg Ov ?_)
  |(show Ov (ug _ _)=_;refine congrArg Ov ?_)
 all_goals (unfold l9;(try simp only [I5,iC] at *);rcases h1:dQ a with _|x<;>rcases h2:dQ b with _|y<;>rcases h3:dQ c with _|z<;>simp_all)
 all_goals (rcases h4:mg z with _|s<;>simp_all)
 all_goals (rcases h5:qP y s with _|p<;>simp_all)⟩
end Go.Proofs.YtmniihkenijjpaaGreatDoor
