/-
  Rules of the abstract run, plain laws, and what functions answer, for the law RepairDistances.
  Conditions: none.
-/
import Derived.Test.YtmniihkenijjpaaGreatDoorQ10
import Derived.Test.YtmniihkenijjpaaGreatDoorChecked
set_option linter.all false
namespace Go.Proofs.YtmniihkenijjpaaGreatDoor
open Go Go.RowKit Go.Sw
set_option maxRecDepth 20000
namespace TfPA
theorem body106:dJ Tryz.prog 106=true:=by kernel_rfl
theorem body117:dJ Tryz.prog 117=true:=by kernel_rfl
theorem body142:dJ Tryz.prog 142=true:=by kernel_rfl
theorem body144:dJ Tryz.prog 144=true:=by kernel_rfl
theorem body154:dJ Tryz.prog 154=true:=by kernel_rfl
theorem body194:dJ Tryz.prog 194=true:=by kernel_rfl
theorem el154:Sw.elemOf Tryz.prog 154=some (#[.int .u32 0],1,4):=by kernel_rfl
theorem mixed:Tryz.prog.follows .mixedOrders=true:=by kernel_rfl
theorem one154:iy Tryz.prog 154=true:=by kernel_rfl
theorem size154:(Tryz.prog.info? 154).map (λi=>i.size)=some 1:=by kernel_rfl
theorem sl26:sliceOf Tryz.prog 26=some (154,1):=by kernel_rfl
theorem sls26:(sliceOf Tryz.prog 26).isSome=true:=by kernel_rfl
theorem und152:Tryz.prog.underlying 152=some (TypeDesc.int .u64):=by kernel_rfl
theorem und154:Tryz.prog.underlying 154=some (TypeDesc.int .u32):=by kernel_rfl
theorem unds152:(Tryz.prog.underlying 152).isSome=true:=by kernel_rfl
theorem unds154:(Tryz.prog.underlying 154).isSome=true:=by kernel_rfl
end TfPA
set_option maxHeartbeats 4000000 in
theorem AO{w:World}{X:List Nat}(hX:∀m∈X,m<w.heap.size){v_a:Value}{a:List Nat}(h_a:UL w X v_a (a)){v_b:Value}{b:List Nat}(h_b:UL w X v_b (b))(hn_a:a.length≤1000000000)(hn_b:b.length≤1000000000)(hca:CanL a)(hcb:CanL b)(hpos:0<val b):
 Calls Tryz.prog 153 #[v_a,v_b] w (vP λr w'=>(∃r0 r1,r=.tuple #[r0,r1]∧UL w' X r0 (lim (val a / val b))∧UL w' X r1 (lim (val a % val b)))∧Below w.heap.size w w'):=by
 refine enter (N:=173) (fn:=Tryz.f153) (vs:=[v_a,v_b]) Tryz.func153 rfl rfl rfl ?_;intro fa hF;obtain ⟨A_a,_,c_a,rfl,rfl,hu_a⟩:=h_a;have hl_a:=hu_a.len;have hc_a:=hu_a.cap;obtain ⟨A_b,_,c_b,rfl,rfl,hu_b⟩:=h_b;have hl_b:=hu_b.len;have hc_b:=hu_b.cap;replace hF:Frm 173 fa [(0,(.slice (A_a) (a.length) (c_a))),(1,(.slice (A_b) (b.length) (c_b)))]:=hF;have hS:=St.refl w;have hbn:0<b.length:=by cases hq:b with|nil=>rw [hq] at hpos;simp [val] at hpos|cons _ _=>simp
 have hae:=hca.eq;have hbe:=hcb.eq;refine aC ?_;refine aF ?_;refine pr hF (pa rfl <| pa rfl <| PR.nil) ?_;clear hF fa;intro fa hF;refine aj ?_;refine IL (λfa w'=>Frm 173 fa [(0,(.slice (A_a) (a.length) (c_a))),(1,(.slice (A_b) (b.length) (c_b)))]∧w=w'∧(¬ (a.length≤2∧b.length≤2))) ?_ ?_
 ·
  refine aC ?_;refine aF ?_;refine pr hF (pm rfl <| pg (λ_ hF=>eF TfPA.sls26 (hF.ev rfl)) <| pg (λ_ hF=>JU (hF.ev rfl) (hF.ev rfl)) <| pm rfl <| PR.nil) ?_;clear hF fa;intro fa hF;rcases Bool.eq_false_or_eq_true (decide (((a.length:Nat):Int)≤2)) with hg1|hg1
  ·
   replace hF:=hF.cons (t:=24) (v:=.bool true) ((hF.get 24 _ rfl).trans (congrArg Value.bool hg1));have hg1p:((a.length:Nat):Int)≤2:=by simpa using hg1
   refine pr hF (pgg (λ_ hF=>bT (hF.ev rfl)) <| pgg (λ_ hF=>eF TfPA.sls26 (hF.ev rfl)) <| pgg (λ_ hF=>JU (hF.ev rfl) (hF.ev rfl)) <| pg (λ_ hF=>uh (hF.ev rfl) (λ_=>hF.ev rfl) (v:=undef) (λh=>by cases h) rfl) <| PR.nil) ?_;clear hF fa;intro fa hF;refine aj ?_;refine eY hF rfl (λhc2=>?_) (λhc2=>?_)
   ·
    have hc2p:((b.length:Nat):Int)≤2:=by first|simpa using hc2|exact bQ hc2|exact bP hc2
    have ha18:val a<1000000000000000000:=nM (by rw [hae];omega);have hb18:val b<1000000000000000000:=nM (by rw [hbe];omega);refine aC ?_;refine aF ?_;refine pr hF (pm rfl <| PR.nil) ?_;clear hF fa;intro fa hF;have hC:=rW (w:=w) (X:=X) (l:=a) (hS.bnd hX) ⟨_,(a.length),_,rfl,(rfl),hu_a⟩ (by omega) (hca.1) (by omega);refine st rfl (dQ hF rfl TfPA.body154 (args1 (hF.ev rfl)) hC ?_);clear hC;rintro _ w3 ⟨rfl,hb4⟩;refine jm ?_;clear hF fa;intro fa hF;replace hS:=hS.call hb4;have E5:=Ext.call X hb4;refine pr hF (pm rfl <| PR.nil) ?_;clear hF fa;intro fa hF;have hC:=rW (w:=w3) (X:=X) (l:=b) (hS.bnd hX) ⟨_,(b.length),_,rfl,(rfl),(hu_b.ext E5)⟩ (by omega) (hcb.1) (by omega);refine st rfl (dQ hF rfl TfPA.body154 (args1 (hF.ev rfl)) hC ?_);clear hC;rintro _ w6 ⟨rfl,hb7⟩;refine jm ?_;clear hF fa;intro fa hF;replace hS:=hS.call hb7;have E8:=Ext.call X hb7;refine pr hF (pa rfl <| pa rfl <| PR.nil) ?_;clear hF fa;intro fa hF;refine aj ?_;refine aC ?_
    refine BP (N:=173) (L0:=[(0,(.slice (A_a) (a.length) (c_a))),(1,(.slice (A_b) (b.length) (c_b))),(28,(.bool (decide (((b.length:Nat):Int)≤2)))),(6,(.int .u64 (((val a:Nat):Int)))),(7,(.int .u64 (((val b:Nat):Int))))]) [some (.int .u64 (((val a:Nat):Int))),some (.int .u64 (((val b:Nat):Int))),some (.int .u64 ((((val a) / (val b):Nat):Int))),none,some (.int .u64 (((val a:Nat):Int))),some (.int .u64 (((val b:Nat):Int))),some (.int .u64 ((((val a) % (val b):Nat):Int))),none,none,none] [3,7,8,9] [[],[3],[3,7],[3,7,8],[3,7,8,9]] [[0,1,2],[0,1,2],[0],[0],[0,1,2,3],[0,1,2,3],[0,1],[1],[2],[3]] 4 [
     λfa w'=>Frm 173 fa []∧St w w' []∧Ext w6 X w' X
     ,λfa w'=>∃Ao3_3_4:Option Addr,∃co3_3_5:Nat,Frm 173 fa [(36,(.slice (Ao3_3_4) ((lim ((val a) / (val b))).length) (co3_3_5)))]∧St w w' []∧Ext w6 X w' X∧UC w' X Ao3_3_4 co3_3_5 (lim ((val a) / (val b)))
     ,λfa w'=>∃Ao3_3_4:Option Addr,∃co3_3_5:Nat,∃Ao3_7_4:Option Addr,∃co3_7_5:Nat,Frm 173 fa [(36,(.slice (Ao3_3_4) ((lim ((val a) / (val b))).length) (co3_3_5))),(40,(.slice (Ao3_7_4) ((lim ((val a) % (val b))).length) (co3_7_5)))]∧St w w' []∧Ext w6 X w' X∧UC w' X Ao3_3_4 co3_3_5 (lim ((val a) / (val b)))∧UC w' X Ao3_7_4 co3_7_5 (lim ((val a) % (val b)))
     ,λfa w'=>∃Ao3_3_4:Option Addr,∃co3_3_5:Nat,∃Ao3_7_4:Option Addr,∃co3_7_5:Nat,Frm 173 fa [(36,(.slice (Ao3_3_4) ((lim ((val a) / (val b))).length) (co3_3_5))),(40,(.slice (Ao3_7_4) ((lim ((val a) % (val b))).length) (co3_7_5))),(4,(.slice (Ao3_3_4) ((lim ((val a) / (val b))).length) (co3_3_5)))]∧St w w' []∧Ext w6 X w' X∧UC w' X Ao3_3_4 co3_3_5 (lim ((val a) / (val b)))∧UC w' X Ao3_7_4 co3_7_5 (lim ((val a) % (val b)))
     ,λfa w'=>∃Ao3_3_4:Option Addr,∃co3_3_5:Nat,∃Ao3_7_4:Option Addr,∃co3_7_5:Nat,Frm 173 fa [(36,(.slice (Ao3_3_4) ((lim ((val a) / (val b))).length) (co3_3_5))),(40,(.slice (Ao3_7_4) ((lim ((val a) % (val b))).length) (co3_7_5))),(4,(.slice (Ao3_3_4) ((lim ((val a) / (val b))).length) (co3_3_5))),(5,(.slice (Ao3_7_4) ((lim ((val a) % (val b))).length) (co3_7_5)))]∧St w w' []∧Ext w6 X w' X∧UC w' X Ao3_3_4 co3_3_5 (lim ((val a) / (val b)))∧UC w' X Ao3_7_4 co3_7_5 (lim ((val a) % (val b)))
     ] TfPA.mixed rfl rfl rfl rfl rfl rfl (hF.all ⟨rfl,rfl,rfl,rfl,rfl,trivial⟩) rfl ⟨hF.nil,hS.drew,Ext.drew _ _⟩ ?_ ?_ ?_
    all_goals clear hF fa
    ·
     refine ⟨?_, ?_, ?_, ?_, ?_,trivial⟩
     ·
      rintro fa w' i o d v ho hd hna ⟨hA,hR⟩;exact ⟨hA.put_other v (iL (acts:=[3,7,8,9]) rfl ho hd hna),hR⟩
     ·
      rintro fa w' i o d v ho hd hna ⟨Ao3_3_4,co3_3_5,hA,hR⟩;exact ⟨Ao3_3_4,co3_3_5,hA.put_other v (iL (acts:=[3,7,8,9]) rfl ho hd hna),hR⟩
     ·
      rintro fa w' i o d v ho hd hna ⟨Ao3_3_4,co3_3_5,Ao3_7_4,co3_7_5,hA,hR⟩;exact ⟨Ao3_3_4,co3_3_5,Ao3_7_4,co3_7_5,hA.put_other v (iL (acts:=[3,7,8,9]) rfl ho hd hna),hR⟩
     ·
      rintro fa w' i o d v ho hd hna ⟨Ao3_3_4,co3_3_5,Ao3_7_4,co3_7_5,hA,hR⟩;exact ⟨Ao3_3_4,co3_3_5,Ao3_7_4,co3_7_5,hA.put_other v (iL (acts:=[3,7,8,9]) rfl ho hd hna),hR⟩
     ·
      rintro fa w' i o d v ho hd hna ⟨Ao3_3_4,co3_3_5,Ao3_7_4,co3_7_5,hA,hR⟩;exact ⟨Ao3_3_4,co3_3_5,Ao3_7_4,co3_7_5,hA.put_other v (iL (acts:=[3,7,8,9]) rfl ho hd hna),hR⟩
    ·
     refine ⟨?_, ?_, ?_, ?_, ?_, ?_, ?_, ?_, ?_, ?_,trivial⟩
     ·
      refine .inl ⟨rfl,_,_,rfl,rfl,λs fa w' hΦ hF hB K hK=>?_⟩;exact aV rfl rfl rfl (bT (hF.ev rfl)) hK
     ·
      refine .inl ⟨rfl,_,_,rfl,rfl,λs fa w' hΦ hF hB K hK=>?_⟩;exact aV rfl rfl rfl (bT (hF.ev rfl)) hK
     ·
      refine .inl ⟨rfl,_,_,rfl,rfl,λs fa w' hΦ hF hB K hK=>?_⟩;replace hF:=hF.cons (hB.val 0 _ 33 _ rfl rfl rfl rfl);replace hF:=hF.cons (hB.val 1 _ 34 _ rfl rfl rfl rfl);exact aV rfl rfl rfl (oG (hF.ev rfl) (hF.ev rfl) (by omega) (wO (x:=val a) (y:=val b) (by omega) (by omega) (by omega))) hK
     ·
      refine .inr (.inr ⟨rfl, ?_,trivial⟩)
      ·
       intro fa w' hΦ hF hB;obtain ⟨hA,hS,E_w'⟩:=hΦ;replace hF:=hF.cons (hB.val 2 _ 35 _ rfl rfl rfl rfl);refine wop rfl rfl ?_;have hC:=sH (w:=w') (X:=X) (hS.bnd hX) ((val a) / (val b)) (Nat.lt_of_le_of_lt (Nat.div_le_self _ _) (by omega));refine dQ hF rfl TfPA.body117 (args1 (hF.ev (eX (b:=(((val a) / (val b):Nat):Int)) rfl (by first|rfl|omega)))) hC ?_;clear hC;rintro _ wo3_3_1 ⟨⟨Ao3_3_4,_,co3_3_5,rfl,rfl,huo3_3_6⟩,hbo3_3_2⟩;clear hF;intro hF;replace hS:=hS.call hbo3_3_2;have Eo3_3_3:=Ext.call X hbo3_3_2;have hA1:=((hA.put_other _ rfl).cons (hF.get 36 _ rfl))
       exact ⟨1,rfl,⟨Ao3_3_4,co3_3_5,(hA1.all ⟨rfl,trivial⟩),hS,(E_w'.trans Eo3_3_3),huo3_3_6⟩,_,rfl,λu hu=>by cases hu<;>rfl⟩
     ·
      refine .inl ⟨rfl,_,_,rfl,rfl,λs fa w' hΦ hF hB K hK=>?_⟩;exact aV rfl rfl rfl (bT (hF.ev rfl)) hK
     ·
      refine .inl ⟨rfl,_,_,rfl,rfl,λs fa w' hΦ hF hB K hK=>?_⟩;exact aV rfl rfl rfl (bT (hF.ev rfl)) hK
     ·
      refine .inl ⟨rfl,_,_,rfl,rfl,λs fa w' hΦ hF hB K hK=>?_⟩;replace hF:=hF.cons (hB.val 4 _ 37 _ rfl rfl rfl rfl);replace hF:=hF.cons (hB.val 5 _ 38 _ rfl rfl rfl rfl);exact aV rfl rfl rfl (vw (hF.ev rfl) (hF.ev rfl) (by omega) (Dt (x:=val a) (y:=val b) (by omega) (by omega))) hK
     ·
      refine .inr (.inr ⟨rfl, ?_,trivial⟩)
      ·
       intro fa w' hΦ hF hB;obtain ⟨Ao3_3_4,co3_3_5,hA,hS,E_w',huo3_3_6⟩:=hΦ;replace hF:=hF.cons (hB.val 6 _ 39 _ rfl rfl rfl rfl);refine wop rfl rfl ?_;have hC:=sH (w:=w') (X:=X) (hS.bnd hX) ((val a) % (val b)) (Nat.lt_of_le_of_lt (Nat.mod_le _ _) (by omega));refine dQ hF rfl TfPA.body117 (args1 (hF.ev (eX (b:=(((val a) % (val b):Nat):Int)) rfl (by first|rfl|omega)))) hC ?_;clear hC;rintro _ wo3_7_1 ⟨⟨Ao3_7_4,_,co3_7_5,rfl,rfl,huo3_7_6⟩,hbo3_7_2⟩;clear hF;intro hF;replace hS:=hS.call hbo3_7_2;have Eo3_7_3:=Ext.call X hbo3_7_2;have hA1:=((hA.put_other _ rfl).cons (hF.get 40 _ rfl))
       exact ⟨2,rfl,⟨Ao3_3_4,co3_3_5,Ao3_7_4,co3_7_5,(hA1.all ⟨rfl,rfl,trivial⟩),hS,(E_w'.trans Eo3_7_3),(huo3_3_6.ext Eo3_7_3),huo3_7_6⟩,_,rfl,λu hu=>by cases hu<;>rfl⟩
     ·
      refine .inr (.inr ⟨rfl, ?_,trivial⟩)
      ·
       intro fa w' hΦ hF hB;obtain ⟨Ao3_3_4,co3_3_5,Ao3_7_4,co3_7_5,hA,hS,E_w',huo3_3_6,huo3_7_6⟩:=hΦ;replace hF:=hF.cons (hA.get 36 _ rfl);refine wop rfl rfl ?_;refine sS hF rfl rfl (jO (hF.ev rfl)) ?_;clear hF;intro hF;have hA1:=((hA.put_other _ rfl).cons (hF.get 4 _ rfl))
       exact ⟨3,rfl,⟨Ao3_3_4,co3_3_5,Ao3_7_4,co3_7_5,(hA1.all ⟨rfl,rfl,rfl,trivial⟩),hS,E_w',huo3_3_6,huo3_7_6⟩,_,rfl,λu hu=>by cases hu<;>rfl⟩
     ·
      refine .inr (.inr ⟨rfl, ?_,trivial⟩)
      ·
       intro fa w' hΦ hF hB;obtain ⟨Ao3_3_4,co3_3_5,Ao3_7_4,co3_7_5,hA,hS,E_w',huo3_3_6,huo3_7_6⟩:=hΦ;replace hF:=hF.cons (hA.get 40 _ rfl);refine wop rfl rfl ?_;refine sS hF rfl rfl (jO (hF.ev rfl)) ?_;clear hF;intro hF;have hA1:=((hA.put_other _ rfl).cons (hF.get 5 _ rfl))
       exact ⟨4,rfl,⟨Ao3_3_4,co3_3_5,Ao3_7_4,co3_7_5,(hA1.all ⟨rfl,rfl,rfl,rfl,trivial⟩),hS,E_w',huo3_3_6,huo3_7_6⟩,_,rfl,λu hu=>by cases hu<;>rfl⟩
    intro fa w9 hΦ hF hC;obtain ⟨Ao3_3_4,co3_3_5,Ao3_7_4,co3_7_5,hA,hS,E_w9,huo3_3_6,huo3_7_6⟩:=hΦ;replace hF:=hF.cons (hA.get 4 _ rfl);replace hF:=hF.cons (hA.get 5 _ rfl);clear hA hC;refine cZ ?_;refine sJ ?_;refine JZ ?_;refine Ux hF rfl (jd hF rfl) (jd hF rfl) ?_;exact ⟨_,rfl,⟨_,_,rfl,(UL.fin (L:=(lim ((val a) / (val b)))) ⟨_,_,_,rfl,(rfl),huo3_3_6⟩ (rfl) (λx hx=>by simp [hx])),(UL.fin (L:=(lim ((val a) % (val b)))) ⟨_,_,_,rfl,(rfl),huo3_7_6⟩ (rfl) (λx hx=>by simp [hx]))⟩,hS.below⟩
   have hc2p:¬ (((b.length:Nat):Int)≤2):=by first|simpa using hc2|exact bQ hc2|exact bP hc2
   refine dZ ?_;refine cZ ?_;exact ⟨(hF.all ⟨rfl,rfl,trivial⟩),rfl,(by omega)⟩
  replace hF:=hF.cons (t:=24) (v:=.bool false) ((hF.get 24 _ rfl).trans (congrArg Value.bool hg1));have hg1p:¬ (((a.length:Nat):Int)≤2):=by simpa using hg1
  refine pr hF (psk rfl rfl <| psk rfl rfl <| psk rfl rfl <| pg (λ_ hF=>uh (hF.ev rfl) (u:=undef) (λh=>by cases h) (λ_=>hF.ev rfl) rfl) <| PR.nil) ?_;clear hF fa;intro fa hF;refine aj ?_;refine eY hF rfl (λhc=>?_) (λhc=>?_)
  ·
   cases hc
  refine dZ ?_;refine cZ ?_;exact ⟨(hF.all ⟨rfl,rfl,trivial⟩),rfl,(by omega)⟩
 clear hF fa;rintro fa _ ⟨hF,rfl,hbig⟩;refine aC ?_;have hbt:=hcb.1.getD (b.length-1);refine aF ?_;refine pr hF (pm rfl <| pm rfl <| pg (λ_ hF=>eF TfPA.sls26 (hF.ev rfl)) <| pg (λ_ hF=>dO (hF.ev rfl) (hF.ev rfl) ig) <| PR.nil) ?_;clear hF fa;intro fa hF;obtain ⟨ad10,hA11,hq12⟩:=hu_b.cl.at_ (iG (l:=b) (i:=b.length-1) (by omega));refine pr hF (pg (λ_ hF=>iF (j:=b.length-1) TfPA.sl26 (hF.ev rfl) hA11 (hF.ev rfl) (by omega) (by omega)) <| pg (λ_ hF=>dP TfPA.one154 (hF.ev rfl) hq12) <| pg (λ_ hF=>bV TfPA.unds154 TfPA.und152 (hF.ev rfl) (jh (by omega))) <| pg (λ_ hF=>dh (hF.ev rfl) (hF.ev rfl) jS) <| pg (λ_ hF=>oG (hF.ev rfl) (hF.ev rfl) (by omega) (wO (x:=1000000000) (y:=(b.getD (b.length-1) 0)+1) (by omega) (by omega) (by omega))) <| pg (λ_ hF=>bV TfPA.unds152 TfPA.und154 (hF.ev rfl) (yK (by have:=Nat.div_le_self 1000000000 (b.getD (b.length-1) 0+1);omega))) <| pa rfl <| PR.nil) ?_;clear hF fa;intro fa hF;refine aj ?_;refine aC ?_;obtain ⟨sc,hsc⟩:∃sc,sc=1000000000 / (b.getD (b.length-1) 0+1):=⟨_,rfl⟩
 rw [← hsc] at hF;have hscB:=Hq hcb rfl hbn hsc;obtain ⟨hsc0,_,hvn,hvtop,hvP⟩:=Ed (v:=(lim (val b*sc))) hcb rfl hbn hsc (CanL.lim _) (by rw [aA]);have hvL:=λi=>(aQ (val b*sc)).getD i;have huL:=λi=>(aQ (val a*sc)).getD i
 have hVp:0<(val b*sc):=Nat.mul_pos hpos hsc0;have hlu:=Bj (a:=val a) hscB;rw [hca.eq] at hlu;refine aF ?_;refine pr hF (pm rfl <| pm rfl <| PR.nil) ?_;clear hF fa;intro fa hF;have hC:=rQ (w:=w) (X:=X) (a:=b) (hS.bnd hX) ⟨_,(b.length),_,rfl,(rfl),hu_b⟩ (sc) (by omega) (hcb.1) (hscB);rw [show (lim (val b*sc))=(lim (val b*sc)) from rfl] at hC;refine st rfl (dQ hF rfl TfPA.body194 (args2 (hF.ev rfl) (hF.ev (eX (b:=((sc:Nat):Int)) rfl (by first|rfl|omega)))) hC ?_);clear hC;rintro _ w13 ⟨⟨A16,_,c17,rfl,rfl,hu18⟩,hb14⟩;refine jm ?_;clear hF fa;intro fa hF;replace hS:=hS.call hb14;have E15:=Ext.call X hb14;refine pr hF (pa rfl <| PR.nil) ?_;clear hF fa;intro fa hF;replace hF:Frm 173 fa [(0,(.slice (A_a) (a.length) (c_a))),(1,(.slice (A_b) (b.length) (c_b))),(8,(.int .u32 (((sc:Nat):Int)))),(9,(.slice (A16) (((lim (val b*sc))).length) (c17)))]:=(hF.all ⟨rfl,rfl,rfl,rfl,trivial⟩)
 refine aj ?_;refine aC ?_;rw [← hvn] at hvtop;have hvt:=hvL ((lim (val b*sc)).length-1);refine aF ?_;refine pr hF (pm rfl <| pm rfl <| pg (λ_ hF=>eF TfPA.sls26 (hF.ev rfl)) <| pg (λ_ hF=>dO (hF.ev rfl) (hF.ev rfl) ig) <| PR.nil) ?_;clear hF fa;intro fa hF;obtain ⟨ad19,hA20,hq21⟩:=hu18.cl.at_ (iG (l:=((lim (val b*sc)))) (i:=(lim (val b*sc)).length-1) (by omega));refine pr hF (pg (λ_ hF=>iF (j:=(lim (val b*sc)).length-1) TfPA.sl26 (hF.ev rfl) hA20 (hF.ev rfl) (by omega) (by omega)) <| pg (λ_ hF=>dP TfPA.one154 (hF.ev rfl) hq21) <| pg (λ_ hF=>bV TfPA.unds154 TfPA.und152 (hF.ev rfl) (jh (by omega))) <| pa rfl <| PR.nil) ?_;clear hF fa;intro fa hF;refine aj ?_;refine aC ?_;refine aF ?_;refine pr hF (pa rfl <| PR.nil) ?_;clear hF fa;intro fa hF;refine aj ?_;refine aC ?_;refine aF ?_;refine pr hF (pm rfl <| pg (λ_ hF=>eF TfPA.sls26 (hF.ev rfl)) <| pg (λ_ hF=>dh (hF.ev rfl) (hF.ev rfl) ig) <| PR.nil) ?_;clear hF fa;intro fa hF;refine st rfl (zQ (X:=X) (nl:=a.length+1) (nc:=a.length+1) hF hS rfl TfPA.sl26 TfPA.el154 rfl rfl (by omega) (by omega) (by omega) (by omega) (by omega) (wo _) ?_);intro g22 w23 hg25 hS E24;refine jm ?_;clear hF fa;intro fa hF;rw [Nat.mul_one] at hS;refine pr hF (pa rfl <| PR.nil) ?_;clear hF fa;intro fa hF;refine aj ?_;refine aC ?_;refine aF ?_;refine pr hF (pm rfl <| pm rfl <| PR.nil) ?_;clear hF fa;intro fa hF;have hC:=rQ (w:=w23) (X:=(g22 :: X)) (a:=a) (hS.bnd hX) ⟨_,(a.length),_,rfl,(rfl),(hu_a.ext (E15.trans E24))⟩ (sc) (by omega) (hca.1) (hscB);rw [show (lim (val a*sc))=(lim (val a*sc)) from rfl] at hC;refine st rfl (dQ hF rfl TfPA.body194 (args2 (hF.ev rfl) (hF.ev (eX (b:=((sc:Nat):Int)) rfl (by first|rfl|omega)))) hC ?_);clear hC;rintro _ w26 ⟨⟨A29,_,c30,rfl,rfl,hu31⟩,hb27⟩;refine jm ?_;clear hF fa;intro fa hF;replace hS:=hS.call hb27;have E28:=Ext.call (g22 :: X) hb27;refine pr hF (pa rfl <| PR.nil) ?_;clear hF fa;intro fa hF;replace hF:Frm 173 fa [(0,(.slice (A_a) (a.length) (c_a))),(1,(.slice (A_b) (b.length) (c_b))),(8,(.int .u32 (((sc:Nat):Int)))),(9,(.slice (A16) (((lim (val b*sc))).length) (c17))),(10,(.int .u64 (((((lim (val b*sc))).getD ((lim (val b*sc)).length-1) 0:Nat):Int)))),(11,(.slice (none) (0) (0))),(12,(.slice (some ⟨g22,0,none⟩) (a.length+1) (a.length+1))),(13,(.slice (A29) (((lim (val a*sc))).length) (c30)))]:=(hF.all ⟨rfl,rfl,rfl,rfl,rfl,rfl,rfl,rfl,trivial⟩)
 refine aj ?_;refine aC ?_;refine aF ?_;refine pr hF (pm rfl <| pm rfl <| pg (λ_ hF=>eF TfPA.sls26 (hF.ev rfl)) <| pg (λ_ hF=>BA (j:=((lim (val a*sc))).length) TfPA.sl26 (hF.ev rfl) (hF.ev rfl) (by omega) (by omega)) <| pa rfl <| PR.nil) ?_;clear hF fa;intro fa hF;refine aj ?_;refine aC ?_;refine aC ?_;refine aF ?_;refine pr hF (pm rfl <| pg (λ_ hF=>eF TfPA.sls26 (hF.ev rfl)) <| pg (λ_ hF=>dO (hF.ev rfl) (hF.ev rfl) ig) <| pa rfl <| PR.nil) ?_;clear hF fa;intro fa hF;refine aj ?_;refine fC ?_;refine qM (λmu fa w'=>∃o:List Nat,∃R:Nat,∃j:Nat,∃Ar:Option Addr,∃cr:Nat,Frm 173 fa [(0,(.slice (A_a) (a.length) (c_a))),(1,(.slice (A_b) (b.length) (c_b))),(8,(.int .u32 (((sc:Nat):Int)))),(9,(.slice (A16) (((lim (val b*sc))).length) (c17))),(10,(.int .u64 (((((lim (val b*sc))).getD ((lim (val b*sc)).length-1) 0:Nat):Int)))),(12,(.slice (some ⟨g22,0,none⟩) (((lim (val a*sc))).length) (a.length+1))),(13,(.slice (A29) (((lim (val a*sc))).length) (c30))),(14,(.int .i64 (((j:Nat):Int)-1))),(11,(.slice (Ar) ((lim (R)).length) (cr)))]∧St w w' [(g22,154,(us (o)).toArray)]∧Ext w26 (g22 :: X) w' (g22 :: X)∧UC w' (g22 :: X) Ar cr (lim (R))∧(j≤(lim (val a*sc)).length)∧(o.length=a.length+1)∧(Lb o)∧(val (o.drop (lim (val a*sc)).length)=0)∧(val ((lim (val a*sc)).drop j)=(val b*sc)*val (o.drop j)+R)∧(R<(val b*sc))∧j=mu) ?_ ?_
 ·
  exact ⟨_,List.replicate (a.length+1) 0,0,(lim (val a*sc)).length,none,0,(hF.all ⟨rfl,rfl,rfl,rfl,rfl,rfl,rfl,(aW rfl (by omega)),(wB rfl (by first|omega|(rw [eH];rfl))),trivial⟩),hS,Ext.refl _ _,(by rw [eH];exact UC.nil (by omega)),(Nat.le_refl _),(by simp),(iU _),(by simp [pX]),(by rw [gI (Nat.le_refl _)];simp [pX]),(hVp),rfl⟩
 clear hF fa;intro n0_ fa w' hI;clear hS;obtain ⟨o,R,j,Ar,cr,hF,hS,E33,hr,hj,hol,hbo,hz,hI,hR,rfl⟩:=hI
 rename World=>w32
 refine aC ?_;refine aC ?_;refine aF ?_;refine pr hF (pm rfl <| pg (λ_ hF=>ni (hF.ev rfl) (hF.ev rfl)) <| PR.nil) ?_;clear hF fa;intro fa hF;refine aj ?_;refine eY hF rfl (λhc34=>?_) (λhc34=>?_)
 ·
  have hc34p:(((j:Nat):Int)-1)≥0:=by first|simpa using hc34|exact bQ hc34|exact bP hc34
  refine dZ ?_;refine cZ ?_;refine aC ?_;refine fC ?_;refine aC ?_;have hxu:=huL (j-1);have hR2:=LX hxu hR;have hR2l:=Ib hR2;have hRl:=gJ (Nat.le_of_lt hR);have hra:=(aQ ((lim (val a*sc)).getD (j-1) 0+1000000000*R)).getD (lim (val b*sc)).length;have hrb:=(aQ ((lim (val a*sc)).getD (j-1) 0+1000000000*R)).getD ((lim (val b*sc)).length-1);refine aF ?_;refine pr hF (pm rfl <| pm rfl <| PR.nil) ?_;clear hF fa;intro fa hF;obtain ⟨ad35,hA36,hq37⟩:=(hu31.ext E33).cl.at_ (iG (l:=((lim (val a*sc)))) (i:=j-1) (by omega));refine pr hF (pg (λ_ hF=>iF (j:=j-1) TfPA.sl26 (hF.ev rfl) hA36 (hF.ev rfl) (by omega) (by omega)) <| pg (λ_ hF=>dP TfPA.one154 (hF.ev rfl) hq37) <| PR.nil) ?_;clear hF fa;intro fa hF;refine st rfl (KJ (X:=(g22 :: X)) hF hS rfl TfPA.sl26 TfPA.el154 rfl rfl (OO (hF.ev (eX (b:=((((lim (val a*sc))).getD (j-1) 0:Nat):Int)) rfl (by omega)))) (zT (x:=((lim (val a*sc))).getD (j-1) 0)) ?_);intro g38 w39 hg41 hS E40;refine jm ?_;clear hF fa;intro fa hF;refine pr hF (pm rfl <| PR.nil) ?_;clear hF fa;intro fa hF;replace hS:St w w39 [(g22,154,(us (o)).toArray),(g38,154,(us ([((lim (val a*sc))).getD (j-1) 0])).toArray)]:=hS.perm (List.Perm.swap _ _ _);have E49:Ext w39 (g38 :: (g22 :: X)) w39 (g22 :: (g38 :: X)):=Ext.drop (by simp +contextual);refine st rfl (x9 (X:=X) (F:=[(g22,154,(us (o)).toArray)]) (So:=[(g38,154,(us ([((lim (val a*sc))).getD (j-1) 0])).toArray)]) (l:=us ([((lim (val a*sc))).getD (j-1) 0])) (m:=us ((lim (R)))) hF hS rfl TfPA.sl26 TfPA.el154 rfl rfl rfl (by simp) (OwV.full 154 g38 ([((lim (val a*sc))).getD (j-1) 0]) (1) (1) (by first|rfl|(simp;done)|omega) (by first|rfl|(simp;done)|omega) (by simp)) (hr.ext (E40.trans E49)).cl (Lh _) (by first|(simp;done)|(simp;omega)) (by first|(simp;done)|(simp;omega)) ?_);intro v43 So44 w45 hO46 hS E47 hun48;refine jm ?_;clear hF fa;intro fa hF;clear hun48;rw [← yA] at hO46;replace E47:Ext w39 (g22 :: (g38 :: X)) w45 (g22 :: (bl So44++X)):=E47;replace hS:St w w45 ([(g22,154,(us (o)).toArray)]++So44):=hS;obtain ⟨A50,c51,hv53,hu52⟩:=UC.thaw (F:=[(g22,154,(us (o)).toArray)]) hO46 hS hX;subst hv53;have E54:Ext w45 (g22 :: (bl So44++X)) w45 (g22 :: X):=Ext.drop (by simp +contextual);replace hu52:UC w45 (g22 :: X) A50 c51 (([((lim (val a*sc))).getD (j-1) 0])++(lim (R))):=hu52;replace hS:St w w45 [(g22,154,(us (o)).toArray)]:=hS.drop (List.sublist_append_left _ _);have hC:=ou (w:=w45) (X:=(g22 :: X)) (l:=(([((lim (val a*sc))).getD (j-1) 0])++(lim (R)))) (hS.bnd hX) ⟨_,((([((lim (val a*sc))).getD (j-1) 0])++(lim (R))).length),_,rfl,(rfl),hu52⟩;rw [show (ah (([((lim (val a*sc))).getD (j-1) 0])++(lim (R))))=(lim ((lim (val a*sc)).getD (j-1) 0+1000000000*R)) from J9 _ _ hxu] at hC;refine st rfl (dQ hF rfl TfPA.body142 (args1 (hF.ev rfl)) hC ?_);clear hC;rintro _ w55 ⟨⟨A58,_,c59,rfl,rfl,hu60⟩,hb56⟩;refine jm ?_;clear hF fa;intro fa hF;replace hS:=hS.call hb56;have E57:=Ext.call (g22 :: X) hb56;refine pr hF (pa rfl <| PR.nil) ?_;clear hF fa;intro fa hF;replace hF:Frm 173 fa [(0,(.slice (A_a) (a.length) (c_a))),(1,(.slice (A_b) (b.length) (c_b))),(8,(.int .u32 (((sc:Nat):Int)))),(9,(.slice (A16) (((lim (val b*sc))).length) (c17))),(10,(.int .u64 (((((lim (val b*sc))).getD ((lim (val b*sc)).length-1) 0:Nat):Int)))),(12,(.slice (some ⟨g22,0,none⟩) (((lim (val a*sc))).length) (a.length+1))),(13,(.slice (A29) (((lim (val a*sc))).length) (c30))),(14,(.int .i64 (((j:Nat):Int)-1))),(11,(.slice (A58) (((lim ((lim (val a*sc)).getD (j-1) 0+1000000000*R))).length) (c59))),(76,(.bool (decide ((((j:Nat):Int)-1)≥0))))]:=(hF.all ⟨rfl,rfl,rfl,rfl,rfl,rfl,rfl,rfl,rfl,rfl,trivial⟩)
  refine aj ?_;refine aC ?_;refine aF ?_;refine pr hF (pa rfl <| PR.nil) ?_;clear hF fa;intro fa hF;refine aj ?_;refine IL (λfa w'=>∃h1:Nat,Frm 173 fa [(0,(.slice (A_a) (a.length) (c_a))),(1,(.slice (A_b) (b.length) (c_b))),(8,(.int .u32 (((sc:Nat):Int)))),(9,(.slice (A16) (((lim (val b*sc))).length) (c17))),(10,(.int .u64 (((((lim (val b*sc))).getD ((lim (val b*sc)).length-1) 0:Nat):Int)))),(12,(.slice (some ⟨g22,0,none⟩) (((lim (val a*sc))).length) (a.length+1))),(13,(.slice (A29) (((lim (val a*sc))).length) (c30))),(14,(.int .i64 (((j:Nat):Int)-1))),(11,(.slice (A58) (((lim ((lim (val a*sc)).getD (j-1) 0+1000000000*R))).length) (c59))),(76,(.bool (decide ((((j:Nat):Int)-1)≥0)))),(15,(.int .u64 (((h1:Nat):Int))))]∧w55=w'∧(h1=(lim ((lim (val a*sc)).getD (j-1) 0+1000000000*R)).getD (lim (val b*sc)).length 0*1000000000)) ?_ ?_
  ·
   refine aC ?_;refine aF ?_;refine pr hF (pm rfl <| pg (λ_ hF=>eF TfPA.sls26 (hF.ev rfl)) <| pm rfl <| pg (λ_ hF=>eF TfPA.sls26 (hF.ev rfl)) <| pg (λ_ hF=>vG (hF.ev rfl) (hF.ev rfl)) <| PR.nil) ?_;clear hF fa;intro fa hF;refine aj ?_;refine eY hF rfl (λhc61=>?_) (λhc61=>?_)
   ·
    have hc61p:((((lim ((lim (val a*sc)).getD (j-1) 0+1000000000*R))).length:Nat):Int) > ((((lim (val b*sc))).length:Nat):Int):=by first|simpa using hc61|exact bQ hc61|exact bP hc61
    refine aF ?_;refine pr hF (pm rfl <| pm rfl <| pg (λ_ hF=>eF TfPA.sls26 (hF.ev rfl)) <| PR.nil) ?_;clear hF fa;intro fa hF;obtain ⟨ad62,hA63,hq64⟩:=hu60.cl.at_ (iG (l:=((lim ((lim (val a*sc)).getD (j-1) 0+1000000000*R)))) (i:=(lim (val b*sc)).length) (by omega));refine pr hF (pg (λ_ hF=>iF (j:=(lim (val b*sc)).length) TfPA.sl26 (hF.ev rfl) hA63 (hF.ev rfl) (by omega) (by omega)) <| pg (λ_ hF=>dP TfPA.one154 (hF.ev rfl) hq64) <| pg (λ_ hF=>bV TfPA.unds154 TfPA.und152 (hF.ev rfl) (jh (by omega))) <| pg (λ_ hF=>sW (hF.ev rfl) (hF.ev rfl) jS) <| pa rfl <| PR.nil) ?_;clear hF fa;intro fa hF;refine fQ ?_;refine cZ ?_;exact ⟨((((lim ((lim (val a*sc)).getD (j-1) 0+1000000000*R))).getD ((lim (val b*sc)).length) 0)*1000000000),(hF.all ⟨rfl,rfl,rfl,rfl,rfl,rfl,rfl,rfl,rfl,rfl,(aW rfl (by omega)),trivial⟩),rfl,(rfl)⟩
   have hc61p:¬ (((((lim ((lim (val a*sc)).getD (j-1) 0+1000000000*R))).length:Nat):Int) > ((((lim (val b*sc))).length:Nat):Int)):=by first|simpa using hc61|exact bQ hc61|exact bP hc61
   have hge0:=getD_none (l:=(lim ((lim (val a*sc)).getD (j-1) 0+1000000000*R))) (k:=(lim (val b*sc)).length) (by omega);refine dZ ?_;refine cZ ?_;exact ⟨(0),(hF.all ⟨rfl,rfl,rfl,rfl,rfl,rfl,rfl,rfl,rfl,rfl,(aW rfl (by omega)),trivial⟩),rfl,(by rw [hge0,Nat.zero_mul])⟩
  clear hF fa;rintro fa _ ⟨h1,hF,rfl,hh1⟩;refine IL (λfa w'=>∃h2:Nat,Frm 173 fa [(0,(.slice (A_a) (a.length) (c_a))),(1,(.slice (A_b) (b.length) (c_b))),(8,(.int .u32 (((sc:Nat):Int)))),(9,(.slice (A16) (((lim (val b*sc))).length) (c17))),(10,(.int .u64 (((((lim (val b*sc))).getD ((lim (val b*sc)).length-1) 0:Nat):Int)))),(12,(.slice (some ⟨g22,0,none⟩) (((lim (val a*sc))).length) (a.length+1))),(13,(.slice (A29) (((lim (val a*sc))).length) (c30))),(14,(.int .i64 (((j:Nat):Int)-1))),(11,(.slice (A58) (((lim ((lim (val a*sc)).getD (j-1) 0+1000000000*R))).length) (c59))),(76,(.bool (decide ((((j:Nat):Int)-1)≥0)))),(15,(.int .u64 (((h2:Nat):Int))))]∧w55=w'∧(h2=(lim ((lim (val a*sc)).getD (j-1) 0+1000000000*R)).getD (lim (val b*sc)).length 0*1000000000+(lim ((lim (val a*sc)).getD (j-1) 0+1000000000*R)).getD ((lim (val b*sc)).length-1) 0)) ?_ ?_
  ·
   refine aC ?_;refine aF ?_;refine pr hF (pm rfl <| pg (λ_ hF=>eF TfPA.sls26 (hF.ev rfl)) <| pm rfl <| pg (λ_ hF=>eF TfPA.sls26 (hF.ev rfl)) <| pg (λ_ hF=>ni (hF.ev rfl) (hF.ev rfl)) <| PR.nil) ?_;clear hF fa;intro fa hF;refine aj ?_;refine eY hF rfl (λhc65=>?_) (λhc65=>?_)
   ·
    have hc65p:((((lim ((lim (val a*sc)).getD (j-1) 0+1000000000*R))).length:Nat):Int)≥((((lim (val b*sc))).length:Nat):Int):=by first|simpa using hc65|exact bQ hc65|exact bP hc65
    refine aF ?_;refine pr hF (pm rfl <| pm rfl <| pm rfl <| pg (λ_ hF=>eF TfPA.sls26 (hF.ev rfl)) <| pg (λ_ hF=>dO (hF.ev rfl) (hF.ev rfl) ig) <| PR.nil) ?_;clear hF fa;intro fa hF;obtain ⟨ad66,hA67,hq68⟩:=hu60.cl.at_ (iG (l:=((lim ((lim (val a*sc)).getD (j-1) 0+1000000000*R)))) (i:=(lim (val b*sc)).length-1) (by omega));refine pr hF (pg (λ_ hF=>iF (j:=(lim (val b*sc)).length-1) TfPA.sl26 (hF.ev rfl) hA67 (hF.ev rfl) (by omega) (by omega)) <| pg (λ_ hF=>dP TfPA.one154 (hF.ev rfl) hq68) <| pg (λ_ hF=>bV TfPA.unds154 TfPA.und152 (hF.ev rfl) (jh (by omega))) <| pg (λ_ hF=>dh (hF.ev rfl) (hF.ev rfl) jS) <| pa rfl <| PR.nil) ?_;clear hF fa;intro fa hF;replace hF:Frm 173 fa [(0,(.slice (A_a) (a.length) (c_a))),(1,(.slice (A_b) (b.length) (c_b))),(8,(.int .u32 (((sc:Nat):Int)))),(9,(.slice (A16) (((lim (val b*sc))).length) (c17))),(10,(.int .u64 (((((lim (val b*sc))).getD ((lim (val b*sc)).length-1) 0:Nat):Int)))),(12,(.slice (some ⟨g22,0,none⟩) (((lim (val a*sc))).length) (a.length+1))),(13,(.slice (A29) (((lim (val a*sc))).length) (c30))),(14,(.int .i64 (((j:Nat):Int)-1))),(11,(.slice (A58) (((lim ((lim (val a*sc)).getD (j-1) 0+1000000000*R))).length) (c59))),(76,(.bool (decide ((((j:Nat):Int)-1)≥0)))),(15,(.int .u64 (((h1:Nat):Int)+((((lim ((lim (val a*sc)).getD (j-1) 0+1000000000*R))).getD ((lim (val b*sc)).length-1) 0:Nat):Int)))),(103,(.bool (decide (((((lim ((lim (val a*sc)).getD (j-1) 0+1000000000*R))).length:Nat):Int)≥((((lim (val b*sc))).length:Nat):Int)))))]:=(hF.all ⟨rfl,rfl,rfl,rfl,rfl,rfl,rfl,rfl,rfl,rfl,rfl,rfl,trivial⟩)
    refine fQ ?_;refine cZ ?_;exact ⟨(h1+(((lim ((lim (val a*sc)).getD (j-1) 0+1000000000*R))).getD ((lim (val b*sc)).length-1) 0)),(hF.all ⟨rfl,rfl,rfl,rfl,rfl,rfl,rfl,rfl,rfl,rfl,(aW rfl (by omega)),trivial⟩),rfl,(by rw [hh1])⟩
   have hc65p:¬ (((((lim ((lim (val a*sc)).getD (j-1) 0+1000000000*R))).length:Nat):Int)≥((((lim (val b*sc))).length:Nat):Int)):=by first|simpa using hc65|exact bQ hc65|exact bP hc65
   have hge1:=getD_none (l:=(lim ((lim (val a*sc)).getD (j-1) 0+1000000000*R))) (k:=(lim (val b*sc)).length-1) (by omega);refine dZ ?_;refine cZ ?_;exact ⟨(h1),(hF.all ⟨rfl,rfl,rfl,rfl,rfl,rfl,rfl,rfl,rfl,rfl,(aW rfl (by omega)),trivial⟩),rfl,(by rw [hh1,hge1,Nat.add_zero])⟩
  clear hF fa;rintro fa _ ⟨h2,hF,rfl,hh2⟩;refine aC ?_;obtain ⟨hdge,hdh⟩:=SX (V:=(val b*sc)) (n:=(lim (val b*sc)).length) rfl rfl (by omega) (top:=(lim (val b*sc)).getD ((lim (val b*sc)).length-1) 0) rfl hR2 (by omega);rw [← hh2] at hdge hdh;refine aF ?_;refine pr hF (pm rfl <| pm rfl <| pg (λ_ hF=>oG (hF.ev rfl) (hF.ev rfl) (by omega) (wO (x:=h2) (y:=((lim (val b*sc))).getD ((lim (val b*sc)).length-1) 0) (by omega) (by omega) (by omega))) <| pa rfl <| PR.nil) ?_;clear hF fa;intro fa hF;refine aj ?_;refine IL (λfa w'=>∃dg:Nat,Frm 173 fa [(0,(.slice (A_a) (a.length) (c_a))),(1,(.slice (A_b) (b.length) (c_b))),(8,(.int .u32 (((sc:Nat):Int)))),(9,(.slice (A16) (((lim (val b*sc))).length) (c17))),(10,(.int .u64 (((((lim (val b*sc))).getD ((lim (val b*sc)).length-1) 0:Nat):Int)))),(12,(.slice (some ⟨g22,0,none⟩) (((lim (val a*sc))).length) (a.length+1))),(13,(.slice (A29) (((lim (val a*sc))).length) (c30))),(14,(.int .i64 (((j:Nat):Int)-1))),(11,(.slice (A58) (((lim ((lim (val a*sc)).getD (j-1) 0+1000000000*R))).length) (c59))),(76,(.bool (decide ((((j:Nat):Int)-1)≥0)))),(15,(.int .u64 (((h2:Nat):Int)))),(16,(.int .u64 (((dg:Nat):Int))))]∧w55=w'∧(dg≤999999999)∧(((lim (val a*sc)).getD (j-1) 0+1000000000*R)<(dg+1)*(val b*sc))) ?_ ?_
  ·
   refine aC ?_;refine aF ?_;refine pr hF (pm rfl <| pg (λ_ hF=>vG (hF.ev rfl) (hF.ev rfl)) <| PR.nil) ?_;clear hF fa;intro fa hF;refine aj ?_;refine eY hF rfl (λhc69=>?_) (λhc69=>?_)
   ·
    have hc69p:((h2 / (((lim (val b*sc))).getD ((lim (val b*sc)).length-1) 0):Nat):Int) > 999999999:=by first|simpa using hc69|exact bQ hc69|exact bP hc69
    refine aF ?_;refine pr hF (pa rfl <| PR.nil) ?_;clear hF fa;intro fa hF;refine fQ ?_;refine cZ ?_;exact ⟨999999999,(hF.all ⟨rfl,rfl,rfl,rfl,rfl,rfl,rfl,rfl,rfl,rfl,rfl,(aW rfl (by omega)),trivial⟩),rfl,(by omega),(O8 hR2)⟩
   have hc69p:¬ (((h2 / (((lim (val b*sc))).getD ((lim (val b*sc)).length-1) 0):Nat):Int) > 999999999):=by first|simpa using hc69|exact bQ hc69|exact bP hc69
   refine dZ ?_;refine cZ ?_;exact ⟨h2 / (((lim (val b*sc))).getD ((lim (val b*sc)).length-1) 0),(hF.all ⟨rfl,rfl,rfl,rfl,rfl,rfl,rfl,rfl,rfl,rfl,rfl,(aW rfl (by omega)),trivial⟩),rfl,(by omega),(hdge)⟩
  clear hF fa;rintro fa _ ⟨dg,hF,rfl,hdg,hdgR⟩;refine aC ?_;refine aF ?_;refine pr hF (pm rfl <| pm rfl <| pg (λ_ hF=>bV TfPA.unds152 TfPA.und154 (hF.ev rfl) (yK (by omega))) <| PR.nil) ?_;clear hF fa;intro fa hF;have hC:=rQ (w:=w55) (X:=(g22 :: X)) (a:=((lim (val b*sc)))) (hS.bnd hX) ⟨_,(((lim (val b*sc))).length),_,rfl,(rfl),(hu18.ext (((((((E24.trans E28).trans E33).trans E40).trans E49).trans E47).trans E54).trans E57))⟩ (dg) (by omega) (aQ _) (by omega);rw [show (lim (val (((lim (val b*sc))))*dg))=(lim ((val b*sc)*dg)) from by rw [aA]] at hC;refine st rfl (dQ hF rfl TfPA.body194 (args2 (hF.ev rfl) (hF.ev (eX (b:=((dg:Nat):Int)) rfl (by first|rfl|omega)))) hC ?_);clear hC;rintro _ w70 ⟨⟨A73,_,c74,rfl,rfl,hu75⟩,hb71⟩;refine jm ?_;clear hF fa;intro fa hF;replace hS:=hS.call hb71;have E72:=Ext.call (g22 :: X) hb71;refine pr hF (pa rfl <| PR.nil) ?_;clear hF fa;intro fa hF;refine aj ?_;refine aC ?_;refine fC ?_;refine qM (λmu fa w'=>∃dk:Nat,∃Ap:Option Addr,∃cp:Nat,Frm 173 fa [(0,(.slice (A_a) (a.length) (c_a))),(1,(.slice (A_b) (b.length) (c_b))),(8,(.int .u32 (((sc:Nat):Int)))),(9,(.slice (A16) (((lim (val b*sc))).length) (c17))),(10,(.int .u64 (((((lim (val b*sc))).getD ((lim (val b*sc)).length-1) 0:Nat):Int)))),(12,(.slice (some ⟨g22,0,none⟩) (((lim (val a*sc))).length) (a.length+1))),(13,(.slice (A29) (((lim (val a*sc))).length) (c30))),(14,(.int .i64 (((j:Nat):Int)-1))),(11,(.slice (A58) (((lim ((lim (val a*sc)).getD (j-1) 0+1000000000*R))).length) (c59))),(76,(.bool (decide ((((j:Nat):Int)-1)≥0)))),(15,(.int .u64 (((h2:Nat):Int)))),(16,(.int .u64 (((dk:Nat):Int)))),(17,(.slice (Ap) ((lim ((val b*sc)*dk)).length) (cp)))]∧St w w' [(g22,154,(us (o)).toArray)]∧Ext w70 (g22 :: X) w' (g22 :: X)∧UC w' (g22 :: X) Ap cp (lim ((val b*sc)*dk))∧(dk≤999999999)∧(((lim (val a*sc)).getD (j-1) 0+1000000000*R)<(dk+1)*(val b*sc))∧dk=mu) ?_ ?_
  ·
   exact ⟨_,dg,A73,c74,(hF.all ⟨rfl,rfl,rfl,rfl,rfl,rfl,rfl,rfl,rfl,rfl,rfl,(aW rfl (by omega)),(wB rfl (by omega)),trivial⟩),hS,Ext.refl _ _,hu75,(hdg),(hdgR),rfl⟩
  clear hF fa;intro n1_ fa w' hI;clear hS;obtain ⟨dk,Ap,cp,hF,hS,E77,hp,hdk,hdR,rfl⟩:=hI
  rename World=>w76
  refine aC ?_;refine aC ?_;refine aF ?_;refine pr hF (pm rfl <| pm rfl <| PR.nil) ?_;clear hF fa;intro fa hF;have hC:=xQ (w:=w76) (X:=(g22 :: X)) (a:=(lim ((val b*sc)*dk))) (b:=((lim ((lim (val a*sc)).getD (j-1) 0+1000000000*R)))) (hS.bnd hX) ⟨_,((lim ((val b*sc)*dk)).length),_,rfl,(rfl),hp⟩ ⟨_,(((lim ((lim (val a*sc)).getD (j-1) 0+1000000000*R))).length),_,rfl,(rfl),(hu60.ext (E72.trans E77))⟩ (CanL.lim _) (CanL.lim _);refine st rfl (dQ hF rfl TfPA.body106 (args2 (hF.ev rfl) (hF.ev rfl)) hC ?_);clear hC;rintro _ w78 ⟨rfl,hb79⟩;refine jm ?_;clear hF fa;intro fa hF;replace hS:=hS.call hb79;have E80:=Ext.call (g22 :: X) hb79;refine pr hF (pg (λ_ hF=>vG (hF.ev rfl) (hF.ev rfl)) <| PR.nil) ?_;clear hF fa;intro fa hF;refine aj ?_;refine eY hF rfl (λhc81=>?_) (λhc81=>?_)
  ·
   have hc81p:(eU (val ((lim ((val b*sc)*dk)))) (val (((lim ((lim (val a*sc)).getD (j-1) 0+1000000000*R)))))) > 0:=by first|simpa using hc81|exact bQ hc81|exact bP hc81
   have hgt:=IG.1 hc81p;rw [aA,aA] at hgt;have hdp:0<dk:=by rcases Nat.eq_zero_or_pos dk with h0|h0;rw [h0,Nat.mul_zero] at hgt;omega;exact h0
   have hVd:=Px (V:=(val b*sc)) hdp;have hVle:(val b*sc)≤(val b*sc)*dk:=Nat.le_mul_of_pos_right _ hdp;refine dZ ?_;refine cZ ?_;refine fC ?_;refine aC ?_;refine aF ?_;refine pr hF (pm rfl <| pg (λ_ hF=>dO (hF.ev rfl) (hF.ev rfl) jS) <| pa rfl <| PR.nil) ?_;clear hF fa;intro fa hF;replace hF:Frm 173 fa [(0,(.slice (A_a) (a.length) (c_a))),(1,(.slice (A_b) (b.length) (c_b))),(8,(.int .u32 (((sc:Nat):Int)))),(9,(.slice (A16) (((lim (val b*sc))).length) (c17))),(10,(.int .u64 (((((lim (val b*sc))).getD ((lim (val b*sc)).length-1) 0:Nat):Int)))),(12,(.slice (some ⟨g22,0,none⟩) (((lim (val a*sc))).length) (a.length+1))),(13,(.slice (A29) (((lim (val a*sc))).length) (c30))),(14,(.int .i64 (((j:Nat):Int)-1))),(11,(.slice (A58) (((lim ((lim (val a*sc)).getD (j-1) 0+1000000000*R))).length) (c59))),(76,(.bool (decide ((((j:Nat):Int)-1)≥0)))),(15,(.int .u64 (((h2:Nat):Int)))),(16,(.int .u64 (((dk:Nat):Int)-1))),(17,(.slice (Ap) ((lim ((val b*sc)*dk)).length) (cp))),(125,(.bool (decide ((eU (val ((lim ((val b*sc)*dk)))) (val (((lim ((lim (val a*sc)).getD (j-1) 0+1000000000*R)))))) > 0))))]:=(hF.all ⟨rfl,rfl,rfl,rfl,rfl,rfl,rfl,rfl,rfl,rfl,rfl,rfl,rfl,rfl,trivial⟩)
   refine aj ?_;refine aF ?_;refine pr hF (pm rfl <| pm rfl <| PR.nil) ?_;clear hF fa;intro fa hF;have hC:=sF (w:=w78) (X:=(g22 :: X)) (x:=(lim ((val b*sc)*dk))) (y:=((lim (val b*sc)))) (hS.bnd hX) ⟨_,((lim ((val b*sc)*dk)).length),_,rfl,(rfl),(hp.ext E80)⟩ ⟨_,(((lim (val b*sc))).length),_,rfl,(rfl),(hu18.ext ((((((((((E24.trans E28).trans E33).trans E40).trans E49).trans E47).trans E54).trans E57).trans E72).trans E77).trans E80))⟩ (by have:=Bj (a:=(val b*sc)) (s:=dk) (by omega);omega) (by omega) (aQ _) (aQ _) (gJ hVle) (by rw [aA,aA];exact hVle);rw [show (lim (val ((lim ((val b*sc)*dk)))-val (((lim (val b*sc))))))=(lim ((val b*sc)*(dk-1))) from by rw [aA,aA,hVd]] at hC;refine st rfl (dQ hF rfl TfPA.body144 (args2 (hF.ev rfl) (hF.ev rfl)) hC ?_);clear hC;rintro _ w82 ⟨⟨A85,_,c86,rfl,rfl,hu87⟩,hb83⟩;refine jm ?_;clear hF fa;intro fa hF;replace hS:=hS.call hb83;have E84:=Ext.call (g22 :: X) hb83;refine pr hF (pa rfl <| PR.nil) ?_;clear hF fa;intro fa hF;refine fQ ?_;refine qY ?_;refine cZ ?_;exact ⟨_,(by omega),(dk-1),A85,c86,(hF.all ⟨rfl,rfl,rfl,rfl,rfl,rfl,rfl,rfl,rfl,rfl,rfl,(aW rfl (by omega)),(wB rfl (by omega)),trivial⟩),hS,((E77.trans E80).trans E84),hu87,(by omega),(by rw [Nat.sub_add_cancel hdp];exact Nat.lt_of_lt_of_eq hgt (Nat.mul_comm _ _)),rfl⟩
  have hc81p:¬ ((eU (val ((lim ((val b*sc)*dk)))) (val (((lim ((lim (val a*sc)).getD (j-1) 0+1000000000*R)))))) > 0):=by first|simpa using hc81|exact bQ hc81|exact bP hc81
  have hle:=mt IG.2 hc81p;rw [aA,aA] at hle;have hle2:(val b*sc)*dk≤((lim (val a*sc)).getD (j-1) 0+1000000000*R):=by omega
  refine lN ?_;refine ng ?_;refine ng ?_;refine zf ?_;refine cZ ?_;refine aC ?_;refine aF ?_;refine pr hF (pm rfl <| pm rfl <| PR.nil) ?_;clear hF fa;intro fa hF;have hC:=sF (w:=w78) (X:=(g22 :: X)) (x:=((lim ((lim (val a*sc)).getD (j-1) 0+1000000000*R)))) (y:=(lim ((val b*sc)*dk))) (hS.bnd hX) ⟨_,(((lim ((lim (val a*sc)).getD (j-1) 0+1000000000*R))).length),_,rfl,(rfl),(hu60.ext ((E72.trans E77).trans E80))⟩ ⟨_,((lim ((val b*sc)*dk)).length),_,rfl,(rfl),(hp.ext E80)⟩ (by omega) (by have:=gJ hle2;omega) (aQ _) (aQ _) (gJ hle2) (by rw [aA,aA];exact hle2);rw [show (lim (val (((lim ((lim (val a*sc)).getD (j-1) 0+1000000000*R))))-val ((lim ((val b*sc)*dk)))))=(lim (((lim (val a*sc)).getD (j-1) 0+1000000000*R)-(val b*sc)*dk)) from by rw [aA,aA]] at hC;refine st rfl (dQ hF rfl TfPA.body144 (args2 (hF.ev rfl) (hF.ev rfl)) hC ?_);clear hC;rintro _ w88 ⟨⟨A91,_,c92,rfl,rfl,hu93⟩,hb89⟩;refine jm ?_;clear hF fa;intro fa hF;replace hS:=hS.call hb89;have E90:=Ext.call (g22 :: X) hb89;refine pr hF (pa rfl <| PR.nil) ?_;clear hF fa;intro fa hF;replace hF:Frm 173 fa [(0,(.slice (A_a) (a.length) (c_a))),(1,(.slice (A_b) (b.length) (c_b))),(8,(.int .u32 (((sc:Nat):Int)))),(9,(.slice (A16) (((lim (val b*sc))).length) (c17))),(10,(.int .u64 (((((lim (val b*sc))).getD ((lim (val b*sc)).length-1) 0:Nat):Int)))),(12,(.slice (some ⟨g22,0,none⟩) (((lim (val a*sc))).length) (a.length+1))),(13,(.slice (A29) (((lim (val a*sc))).length) (c30))),(14,(.int .i64 (((j:Nat):Int)-1))),(11,(.slice (A91) (((lim (((lim (val a*sc)).getD (j-1) 0+1000000000*R)-(val b*sc)*dk))).length) (c92))),(76,(.bool (decide ((((j:Nat):Int)-1)≥0)))),(15,(.int .u64 (((h2:Nat):Int)))),(16,(.int .u64 (((dk:Nat):Int)))),(17,(.slice (Ap) ((lim ((val b*sc)*dk)).length) (cp))),(125,(.bool (decide ((eU (val ((lim ((val b*sc)*dk)))) (val (((lim ((lim (val a*sc)).getD (j-1) 0+1000000000*R)))))) > 0))))]:=(hF.all ⟨rfl,rfl,rfl,rfl,rfl,rfl,rfl,rfl,rfl,rfl,rfl,rfl,rfl,rfl,trivial⟩)
  refine aj ?_;refine aF ?_;refine pr hF (pm rfl <| pm rfl <| pm rfl <| pg (λ_ hF=>bV TfPA.unds152 TfPA.und154 (hF.ev rfl) (yK (by omega))) <| pg (λ_ hF=>lu (j:=j-1) TfPA.sl26 (hF.ev rfl) (hF.ev rfl) (by omega) (by omega)) <| PR.nil) ?_;clear hF fa;intro fa hF;refine st rfl (gG (vs:=#[.int .u32 ((dk:Nat):Int)]) (v:=.int .u32 ((dk:Nat):Int)) (X:=(g22 :: X)) hF hS 0 rfl (by simp) rfl (eX rfl (by omega)) rfl TfPA.size154 rfl (yG (by first|omega|(simp;omega))) ?_);intro w94 hS E95;rw [mG (by first|omega|(simp;omega))] at hS;refine fQ ?_;refine qY ?_;refine cZ ?_;refine aF ?_;refine pr hF (pm rfl <| pg (λ_ hF=>dO (hF.ev rfl) (hF.ev rfl) ig) <| pa rfl <| PR.nil) ?_;clear hF fa;intro fa hF;refine fQ ?_;refine cZ ?_;exact ⟨_,(by omega),o.set (j-1) (dk),(((lim (val a*sc)).getD (j-1) 0+1000000000*R)-(val b*sc)*dk),(j-1),A91,c92,(hF.all ⟨rfl,rfl,rfl,rfl,rfl,rfl,rfl,(aW rfl (by omega)),(wB rfl (by first|omega|(rw [eH];rfl))),trivial⟩),hS,((((((((((E33.trans E40).trans E49).trans E47).trans E54).trans E57).trans E72).trans E77).trans E80).trans E90).trans E95),(hu93.ext E95),(by omega),(by simp;omega),(eG hbo (by omega)),(by rw [rH (by omega)];exact hz),(KP (by omega) hj (by omega) hI rfl hle2),(Uc hdR hle2),rfl⟩
 have hc34p:¬ ((((j:Nat):Int)-1)≥0):=by first|simpa using hc34|exact bQ hc34|exact bP hc34
 refine lN ?_;refine ng ?_;refine ng ?_;refine zf ?_;refine cZ ?_;refine aC ?_;refine aF ?_;refine pr hF (pa rfl <| PR.nil) ?_;clear hF fa;intro fa hF;refine aj ?_;refine aC ?_;have hRl:=gJ (Nat.le_of_lt hR);refine aF ?_;refine pr hF (pm rfl <| pg (λ_ hF=>eF TfPA.sls26 (hF.ev rfl)) <| PR.nil) ?_;clear hF fa;intro fa hF;refine st rfl (zQ (X:=(g22 :: X)) (nl:=(lim (R)).length) (nc:=(lim (R)).length) hF hS rfl TfPA.sl26 TfPA.el154 rfl rfl (by omega) (by omega) (by omega) (by omega) (by omega) (wo _) ?_);intro g96 w97 hg99 hS E98;refine jm ?_;clear hF fa;intro fa hF;rw [Nat.mul_one] at hS;refine pr hF (pa rfl <| PR.nil) ?_;clear hF fa;intro fa hF;refine aj ?_;refine aC ?_;refine aC ?_;refine aF ?_;refine pr hF (pm rfl <| pg (λ_ hF=>eF TfPA.sls26 (hF.ev rfl)) <| pg (λ_ hF=>dO (hF.ev rfl) (hF.ev rfl) ig) <| pa rfl <| PR.nil) ?_;clear hF fa;intro fa hF;replace hF:Frm 173 fa [(0,(.slice (A_a) (a.length) (c_a))),(1,(.slice (A_b) (b.length) (c_b))),(8,(.int .u32 (((sc:Nat):Int)))),(9,(.slice (A16) (((lim (val b*sc))).length) (c17))),(10,(.int .u64 (((((lim (val b*sc))).getD ((lim (val b*sc)).length-1) 0:Nat):Int)))),(12,(.slice (some ⟨g22,0,none⟩) (((lim (val a*sc))).length) (a.length+1))),(13,(.slice (A29) (((lim (val a*sc))).length) (c30))),(14,(.int .i64 (((j:Nat):Int)-1))),(11,(.slice (Ar) ((lim (R)).length) (cr))),(76,(.bool (decide ((((j:Nat):Int)-1)≥0)))),(18,(.int .u64 (0))),(19,(.slice (some ⟨g96,0,none⟩) ((lim (R)).length) ((lim (R)).length))),(20,(.int .i64 ((((lim (R)).length:Nat):Int)-1)))]:=(hF.all ⟨rfl,rfl,rfl,rfl,rfl,rfl,rfl,rfl,rfl,rfl,rfl,rfl,rfl,trivial⟩)
 refine aj ?_;refine fC ?_;refine qM (λmu fa w'=>∃o3:List Nat,∃rr:Nat,∃k:Nat,Frm 173 fa [(0,(.slice (A_a) (a.length) (c_a))),(1,(.slice (A_b) (b.length) (c_b))),(8,(.int .u32 (((sc:Nat):Int)))),(9,(.slice (A16) (((lim (val b*sc))).length) (c17))),(10,(.int .u64 (((((lim (val b*sc))).getD ((lim (val b*sc)).length-1) 0:Nat):Int)))),(12,(.slice (some ⟨g22,0,none⟩) (((lim (val a*sc))).length) (a.length+1))),(13,(.slice (A29) (((lim (val a*sc))).length) (c30))),(14,(.int .i64 (((j:Nat):Int)-1))),(11,(.slice (Ar) ((lim (R)).length) (cr))),(76,(.bool (decide ((((j:Nat):Int)-1)≥0)))),(19,(.slice (some ⟨g96,0,none⟩) ((lim (R)).length) ((lim (R)).length))),(18,(.int .u64 (((rr:Nat):Int)))),(20,(.int .i64 (((k:Nat):Int)-1)))]∧St w w' [(g96,154,(us (o3)).toArray),(g22,154,(us (o)).toArray)]∧Ext w97 (g96 :: (g22 :: X)) w' (g96 :: (g22 :: X))∧(k≤(lim R).length)∧(o3.length=(lim R).length)∧(Lb o3)∧(rr<sc)∧(val ((lim R).drop k)=sc*val (o3.drop k)+rr)∧k=mu) ?_ ?_
 ·
  exact ⟨_,List.replicate (lim R).length 0,0,(lim R).length,(hF.all ⟨rfl,rfl,rfl,rfl,rfl,rfl,rfl,rfl,rfl,rfl,rfl,(aW rfl (by omega)),(aW rfl (by omega)),trivial⟩),hS,Ext.refl _ _,(Nat.le_refl _),(by simp),(iU _),(hsc0),(by rw [gI (Nat.le_refl _),gI (by simp)];simp),rfl⟩
 clear hF fa;intro n2_ fa w' hI;clear hS;obtain ⟨o3,rr,k,hF,hS,E101,hk,ho3,hbo3,hrr,hv3,rfl⟩:=hI
 rename World=>w100
 have hak:=(aQ R).getD (k-1);obtain ⟨hbl1,hbl2,hbl3⟩:=En hrr hscB hak (t:=_) rfl;refine aC ?_;refine aC ?_;refine aF ?_;refine pr hF (pm rfl <| pg (λ_ hF=>ni (hF.ev rfl) (hF.ev rfl)) <| PR.nil) ?_;clear hF fa;intro fa hF;refine aj ?_;refine eY hF rfl (λhc102=>?_) (λhc102=>?_)
 ·
  have hc102p:(((k:Nat):Int)-1)≥0:=by first|simpa using hc102|exact bQ hc102|exact bP hc102
  refine dZ ?_;refine cZ ?_;refine aC ?_;refine fC ?_;refine aC ?_;refine aF ?_;refine pr hF (pm rfl <| pg (λ_ hF=>sW (hF.ev rfl) (hF.ev rfl) jS) <| pm rfl <| pm rfl <| PR.nil) ?_;clear hF fa;intro fa hF;obtain ⟨ad103,hA104,hq105⟩:=(hr.ext (E98.trans E101)).cl.at_ (iG (l:=(lim (R))) (i:=k-1) (by omega));refine pr hF (pg (λ_ hF=>iF (j:=k-1) TfPA.sl26 (hF.ev rfl) hA104 (hF.ev rfl) (by omega) (by omega)) <| pg (λ_ hF=>dP TfPA.one154 (hF.ev rfl) hq105) <| pg (λ_ hF=>bV TfPA.unds154 TfPA.und152 (hF.ev rfl) (jh (by omega))) <| pg (λ_ hF=>dh (hF.ev rfl) (hF.ev rfl) jS) <| pa rfl <| PR.nil) ?_;clear hF fa;intro fa hF;refine aj ?_;refine aC ?_;refine aF ?_;refine pr hF (pm rfl <| pm rfl <| pm rfl <| pm rfl <| pg (λ_ hF=>bV TfPA.unds154 TfPA.und152 (hF.ev rfl) (jh (by omega))) <| pg (λ_ hF=>oG (hF.ev rfl) (hF.ev rfl) (by omega) (wO (x:=(rr*1000000000)+((lim (R)).getD (k-1) 0)) (y:=sc) (by omega) (by omega) (by omega))) <| pg (λ_ hF=>bV TfPA.unds152 TfPA.und154 (hF.ev rfl) (yK (by omega))) <| pg (λ_ hF=>lu (j:=k-1) TfPA.sl26 (hF.ev rfl) (hF.ev rfl) (by omega) (by omega)) <| PR.nil) ?_;clear hF fa;intro fa hF;refine st rfl (gG (vs:=#[.int .u32 ((((rr*1000000000)+((lim (R)).getD (k-1) 0)) / sc:Nat):Int)]) (v:=.int .u32 ((((rr*1000000000)+((lim (R)).getD (k-1) 0)) / sc:Nat):Int)) (X:=(g96 :: (g22 :: X))) hF hS 0 rfl (by simp) rfl (eX rfl (by omega)) rfl TfPA.size154 rfl (yG (by first|omega|(simp;omega))) ?_);intro w106 hS E107;rw [mG (by first|omega|(simp;omega))] at hS;replace hF:Frm 173 fa [(0,(.slice (A_a) (a.length) (c_a))),(1,(.slice (A_b) (b.length) (c_b))),(8,(.int .u32 (((sc:Nat):Int)))),(9,(.slice (A16) (((lim (val b*sc))).length) (c17))),(10,(.int .u64 (((((lim (val b*sc))).getD ((lim (val b*sc)).length-1) 0:Nat):Int)))),(12,(.slice (some ⟨g22,0,none⟩) (((lim (val a*sc))).length) (a.length+1))),(13,(.slice (A29) (((lim (val a*sc))).length) (c30))),(14,(.int .i64 (((j:Nat):Int)-1))),(11,(.slice (Ar) ((lim (R)).length) (cr))),(76,(.bool (decide ((((j:Nat):Int)-1)≥0)))),(19,(.slice (some ⟨g96,0,none⟩) ((lim (R)).length) ((lim (R)).length))),(18,(.int .u64 ((((rr:Nat):Int)*1000000000)+(((lim (R)).getD (k-1) 0:Nat):Int)))),(20,(.int .i64 (((k:Nat):Int)-1))),(146,(.bool (decide ((((k:Nat):Int)-1)≥0))))]:=(hF.all ⟨rfl,rfl,rfl,rfl,rfl,rfl,rfl,rfl,rfl,rfl,rfl,rfl,rfl,rfl,trivial⟩)
  refine aj ?_;refine aF ?_;refine pr hF (pm rfl <| pm rfl <| pg (λ_ hF=>bV TfPA.unds154 TfPA.und152 (hF.ev rfl) (jh (by omega))) <| pg (λ_ hF=>vw (hF.ev rfl) (hF.ev rfl) (by omega) (Dt (x:=(rr*1000000000)+((lim (R)).getD (k-1) 0)) (y:=sc) (by omega) (by omega))) <| pa rfl <| PR.nil) ?_;clear hF fa;intro fa hF;refine fQ ?_;refine qY ?_;refine cZ ?_;refine aF ?_;refine pr hF (pm rfl <| pg (λ_ hF=>dO (hF.ev rfl) (hF.ev rfl) ig) <| pa rfl <| PR.nil) ?_;clear hF fa;intro fa hF;refine fQ ?_;refine cZ ?_;exact ⟨_,(by omega),o3.set (k-1) (((rr*1000000000)+((lim (R)).getD (k-1) 0)) / sc),((rr*1000000000)+((lim (R)).getD (k-1) 0)) % sc,(k-1),(hF.all ⟨rfl,rfl,rfl,rfl,rfl,rfl,rfl,rfl,rfl,rfl,rfl,(aW rfl (by omega)),(aW rfl (by omega)),trivial⟩),hS,(E101.trans E107),(by omega),(by simp;omega),(eG hbo3 hbl1),(hbl2),(yY (by omega) hk (by omega) hv3 rfl rfl),rfl⟩
 have hc102p:¬ ((((k:Nat):Int)-1)≥0):=by first|simpa using hc102|exact bQ hc102|exact bP hc102
 refine lN ?_;refine ng ?_;refine ng ?_;refine zf ?_;refine cZ ?_;refine aC ?_;refine aF ?_;refine pr hF (pm rfl <| PR.nil) ?_;clear hF fa;intro fa hF;obtain ⟨hS1,hn1⟩:=hS.out hX 1 rfl;have hu108:=UC.of_boxP (c:=a.length+1) (n:=((lim (val a*sc))).length) (L:=o) (hS.get 1 rfl) hn1 (by unfold maxLen;omega) (by first|omega|(simp;omega)) (by first|omega|(simp;omega));have E109:Ext w100 (g96 :: (g22 :: X)) w100 (g96 :: X):=Ext.drop (by simp +contextual);replace hu108:UC w100 (g96 :: X) (some ⟨g22,0,none⟩) (a.length+1) (o.take (((lim (val a*sc))).length)):=hu108;replace hS:St w w100 [(g96,154,(us (o3)).toArray)]:=hS1;clear hn1;have hC:=ou (w:=w100) (X:=(g96 :: X)) (l:=(o.take (((lim (val a*sc))).length))) (hS.bnd hX) ⟨_,(((lim (val a*sc))).length),_,rfl,(by rw [List.length_take];omega),hu108⟩;refine st rfl (dQ hF rfl TfPA.body142 (args1 (hF.ev rfl)) hC ?_);clear hC;rintro _ w110 ⟨⟨A113,_,c114,rfl,rfl,hu115⟩,hb111⟩;refine jm ?_;clear hF fa;intro fa hF;replace hS:=hS.call hb111;have E112:=Ext.call (g96 :: X) hb111;refine pr hF (pm rfl <| PR.nil) ?_;clear hF fa;intro fa hF;obtain ⟨hS1,hn1⟩:=hS.out hX 0 rfl;have hu116:=UC.of_box (L:=o3) (hS.get 0 rfl) hn1 (by first|omega|(simp;omega));have E117:Ext w110 (g96 :: X) w110 X:=Ext.drop (by simp +contextual);replace hu116:UC w110 X (some ⟨g96,0,none⟩) (o3).length (o3):=hu116;replace hS:St w w110 []:=hS1;clear hn1;have hC:=ou (w:=w110) (X:=X) (l:=o3) (hS.bnd hX) (UL.cap (n:=(lim (R)).length) (c:=(lim (R)).length) hu116 (by first|rfl|(simp;done)|omega) (by first|rfl|(simp;done)|omega));refine st rfl (dQ hF rfl TfPA.body142 (args1 (hF.ev rfl)) hC ?_);clear hC;rintro _ w118 ⟨⟨A121,_,c122,rfl,rfl,hu123⟩,hb119⟩;refine jm ?_;clear hF fa;intro fa hF;replace hS:=hS.call hb119;have E120:=Ext.call X hb119;refine pr hF (pa rfl <| pa rfl <| PR.nil) ?_;clear hF fa;intro fa hF;refine aj ?_;refine sJ ?_;have hk0:k=0:=by omega
 subst hk0;have hj0:j=0:=by omega
 subst hj0;rw [List.drop_zero,List.drop_zero,aA] at hv3 hI;have htk:=tu (U:=o) (k:=(lim (val a*sc)).length) (by omega);rw [hz,Nat.mul_zero,Nat.add_zero] at htk;have hq:=Qk hsc0 hI hR hv3 hrr;refine Ux hF rfl (jd hF rfl) (jd hF rfl) ?_;exact ⟨_,rfl,⟨_,_,rfl,(UL.fin (L:=(ah (o.take (((lim (val a*sc))).length)))) ⟨_,_,_,rfl,(rfl),(hu115.ext (E117.trans E120))⟩ (by rw [← kC _ (hbo.take _),← htk,hq.1]) (λx hx=>by simp [hx])),(UL.fin (L:=(ah o3)) ⟨_,_,_,rfl,(rfl),hu123⟩ (by rw [← kC _ hbo3,hq.2]) (λx hx=>by simp [hx]))⟩,hS.below⟩
end Go.Proofs.YtmniihkenijjpaaGreatDoor
namespace Go.Proofs.YtmniihkenijjpaaGreatDoor
open Go Go.RowKit Go.Sw
set_option maxRecDepth 100000
set_option maxHeartbeats 8000000
instance(a b:List Nat):DenI Tryz.prog 197 [.c (bJ a),.c (bJ b)] (a.length≤100000000000∧b.length≤100000000000∧Lb a∧Lb b∧0<val b) (.tup [.c (bJ (pad (V9 a b) (val a / val b))),.c (bJ (pad (RS a b) (val a % val b)))]):=⟨λhp=>adR (by kernel_rfl) λw X u v hX hu hv=>(xG hX hu.ul hv.ul hp.1 hp.2.1 hp.2.2.1 hp.2.2.2.1 hp.2.2.2.2).mono λe w' ⟨u,he,⟨qs,rs,r0,r1,h1,h2,h3,h4,h5,h6,h7,h8,h9⟩,hb⟩=>⟨u,he,by subst h1;obtain ⟨e1,e2⟩:=Ue h4 h5 h6 h7 h8 h9;rw [← e1,← e2];exact aeb (.c h2.rep) (.c h3.rep),hb⟩⟩
instance(a b:List Nat):DenI Tryz.prog 153 [.c (bJ a),.c (bJ b)] (a.length≤1000000000∧b.length≤1000000000∧CanL a∧CanL b∧0<val b) (.tup [.c (bJ (lim (val a / val b))),.c (bJ (lim (val a % val b)))]):=⟨λhp=>adR (by kernel_rfl) λw X u v hX hu hv=>(AO hX hu.ul hv.ul hp.1 hp.2.1 hp.2.2.1 hp.2.2.2.1 hp.2.2.2.2).mono λe w' ⟨u,he,⟨r0,r1,h1,h2,h3⟩,hb⟩=>⟨u,he,by subst h1;exact aeb (.c h2.rep) (.c h3.rep),hb⟩⟩
instance agH(a b:Int):DenI Tryz.prog 187 [Z a,Z b] (sz a≤1000000000∧sz b≤1000000000) (Z (a-b)):=⟨λhp=>by
 refine aI Tryz.func187 rfl ?_
 repeat' ((try (conv=>whnf));first
  |refine ak ?_ ?_
  |refine Drw.mk (by kernel_rfl) ?_
  |refine Ends.mk ?_)
 all_goals (try refine Pr.mk ?_)
 all_goals first
  |with_reducible exact hp.2
  |(rw [fM];exact hp)
  |(refine OJ ?_;omega)⟩
instance ahc(a b:Int):DenI Tryz.prog 234 [Z a,Z b] (sz a≤1000000000∧sz b≤1000000000) (Z (a-b)):=⟨λhp=>by
 refine aI Tryz.func234 rfl ?_
 repeat' ((try (conv=>whnf));first
  |(with_reducible refine aJ ?_)
  |(with_reducible refine aK ?_)
  |(with_reducible refine bG (λ_=>?_) (λ_=>?_)))
 all_goals (try ((conv=>whnf);first|rw [aaD (by assumption)]|rw [abK (by assumption)]))
 all_goals (repeat' ((try (conv=>whnf));first
  |refine ak ?_ ?_
  |refine Ends.mk ?_))
 all_goals (try refine Pr.mk ?_)
 all_goals first
  |(rw [fM];exact hp)
  |(refine OJ ?_;omega)⟩
instance agP(a:Int):DenI Tryz.prog 331 [Z a] (True) (.tup [.int .i64 (if -9223372036854775808≤a∧a≤9223372036854775807 then a else 0),.bool (decide (-9223372036854775808≤a∧a≤9223372036854775807))]):=⟨λhp=>by
 refine aI Tryz.func331 rfl ?_
 repeat' ((try (conv=>whnf));first
  |refine aG ?_
  |refine ak ?_ ?_
  |(with_reducible refine aJ ?_)
  |(with_reducible refine aK ?_)
  |(with_reducible refine au (λ_=>?_) (λ_=>?_))
  |refine Drw.mk (by kernel_rfl) ?_
  |refine Ends.mk ?_)
 all_goals (try refine Pr.mk ?_)
 all_goals first
  |omega
  |with_reducible exact adu (by assumption)
  |with_reducible exact acZ (by assumption)
  |(have hb:=ac2 (by assumption) (by assumption);have hq:=aeM hb;((conv=>whnf);refine Sw.Loop.inv (α:=Nat) (λx=>[(1,.ptr 1 0),(4,.int .u64 (val ((lim a.natAbs).drop x):Nat)),(5,.int .i64 ((x:Int)-1))]) (λx=>[(1,.var [zs a,zl a])]) (λx=>x≤(lim a.natAbs).length) (λx=>x) ((lim a.natAbs).length) ?_ ?_ ?_ (λx hx=>?_)))
 all_goals (repeat' ((try (conv=>whnf));first
  |(with_reducible refine au (λ_=>?_) (λ_=>?_))
  |(with_reducible refine bH ?_ ?_)
  |refine Ends.mk ?_))
 all_goals (try refine Pr.mk ?_)
 all_goals first|(show SubE _ _;repeat' (first|exact trivial|refine And.intro ?_ ?_))|(show SubB _ _;repeat' (first|exact trivial|refine And.intro ?_ ?_))|skip
 all_goals (try rfl)
 all_goals (try simp (disch:=omega) only [List.length_map,List.length_take,Int.toNat_natCast,List.length_replicate,bY,dM,wu64,Dp,CQ,Wi,kN,kQ] at *)
 all_goals first
  |omega
  |rfl
  |(rw [gI (Nat.le_refl _)];rfl)
  |(refine ad1 hb ?_;rw [show x=0 by omega,List.drop_zero,aA];first|exact LH (by omega) (by omega)|exact RN (by omega) (by omega))
  |(have hd:=pR (l:=lim a.natAbs) (k:=x) (by omega) hx;have hle:=yR (lim a.natAbs) (x-1);have hg:=(aQ a.natAbs).getD (x-1);((conv=>whnf);exact ⟨x-1,⟨⟨rfl,iS (by (try simp (disch:=omega) only [dM,wu64,bY,kN,kQ,CQ,zN,QC,QI,QD,QF,QG])<;>omega),BK (by omega) (by omega),trivial⟩,⟨rfl,trivial⟩,(by omega),by show x-1<x;omega⟩⟩))⟩
instance acC(a b:Int):DenI Tryz.prog 200 [Z a,Z b] (sz a≤1000000000∧sz b≤1000000000) (.tup [Z (a.fdiv b),Z (if b=0 then 0 else a.fmod b),.int .i64 (if b=0 then 6 else 0)]):=⟨λhp=>by
 refine aI Tryz.func200 rfl ?_
 repeat' ((try (conv=>whnf));first
  |refine ak ?_ ?_
  |(with_reducible refine aJ ?_)
  |(with_reducible refine aK ?_)
  |(with_reducible refine au (λ_=>?_) (λ_=>?_))
  |refine OnB.mk (λ_=>?_) (λ_=>?_)
  |refine Drw.mk (by kernel_rfl) ?_
  |refine Ends.mk ?_)
 all_goals (try refine Pr.mk ?_)
 all_goals (try simp (disch:=assumption) only [aA,lI,xH,ug,tX,List.length_map,dqI,drI] at *)
 all_goals (try simp (disch:=assumption) only [aA,lI,xH,ug,tX,List.length_map,dqI,drI] at *)
 all_goals first
  |omega
  |(have hb0:b=0:=(by omega);subst hb0;exact Jk a)
  |with_reducible exact lQ _ _
  |with_reducible exact QN hp.1 hp.2 (by assumption)
  |with_reducible exact ⟨agz hp.1 _,aga⟩
  |with_reducible exact ⟨afH hp.1 _,hp.2⟩
  |with_reducible exact Jl (by assumption) (by assumption) (Xm (r:=a.natAbs % b.natAbs) (by omega) (by assumption))
  |with_reducible exact vY (by assumption) (.inr (Yt (r:=a.natAbs % b.natAbs) (by omega) (by assumption)))
  |with_reducible exact vY (by assumption) (.inl (by omega))⟩
instance afY(a b:Int):DenI Tryz.prog 120 [Z a,Z b] (sz a≤1000000000∧sz b≤1000000000) (Z ((Nat.gcd a.natAbs b.natAbs:Nat):Int)):=⟨λhp=>by
 refine aI Tryz.func120 rfl ?_
 repeat' ((try (conv=>whnf));first
  |refine Drw.mk (by kernel_rfl) ?_)
 all_goals first
  |((conv=>whnf);refine Sw.Loop.inv (α:=Nat × Nat) (λx=>[(4,.ptr 4 0),(5,.c (bJ (lim x.1))),(6,.c (bJ (lim x.2)))]) (λx=>[(4,.var [.v (.bool false),.sl 1 []])]) (λx=>Nat.gcd x.1 x.2=Nat.gcd a.natAbs b.natAbs∧(lim x.1).length≤1000000000∧(lim x.2).length≤1000000000) (λx=>x.2) (a.natAbs,b.natAbs) ?_ ?_ ?_ (λx hx=>?_))
 all_goals (repeat' ((try (conv=>whnf));first
  |refine ak ?_ ?_
  |(with_reducible refine aJ ?_)
  |(with_reducible refine aK ?_)
  |(with_reducible refine au (λ_=>?_) (λ_=>?_))
  |refine Ends.mk ?_))
 all_goals (try refine Pr.mk ?_)
 all_goals first
  |((conv=>whnf);refine Sw.Loop.inv (α:=Nat × Nat) (λy=>[(4,.ptr 4 0),(9,.int .u64 (y.1:Nat)),(10,.int .u64 (y.2:Nat))]) (λy=>[(4,.var [.v (.bool false),.sl 1 []])]) (λy=>y.1<1000000000000000000∧y.2<1000000000000000000∧Nat.gcd y.1 y.2=Nat.gcd a.natAbs b.natAbs) (λy=>y.2) x ?_ ?_ ?_ (λy hy=>?_))
  |skip
 all_goals (repeat' ((try (conv=>whnf));first
  |refine ak ?_ ?_
  |(with_reducible refine au (λ_=>?_) (λ_=>?_))
  |refine aU ?_ ?_
  |refine Drw.mk (by kernel_rfl) ?_
  |refine Ends.mk ?_))
 all_goals (try refine Pr.mk ?_)
 all_goals first|(show SubE _ _;repeat' (first|exact trivial|refine And.intro ?_ ?_))|(show SubB _ _;repeat' (first|exact trivial|refine And.intro ?_ ?_))|skip
 all_goals (try rfl)
 all_goals (try simp only [List.length_map] at *)
 all_goals first
  |with_reducible exact aQ _
  |with_reducible exact ag7 hx.2.1 hx.2.2 (by omega)
  |with_reducible exact aaM (by omega)
  |exact ⟨trivial,hp.1,hp.2⟩
  |exact gv
  |(have hz:=dI (n:=x.2);with_reducible exact Yz (by omega) hx.1 (aA _))
  |with_reducible exact Yz (by omega) hy.2.2 (aA _)
  |exact ⟨glt (by omega),glt (by omega),hx.1⟩
  |(have h3:x.1 % x.2<x.2:=Nat.mod_lt _ (by have hz:=dI (n:=x.2);omega);((conv=>whnf);exact ⟨(x.2,x.1 % x.2),⟨⟨rfl,rfl,afn,trivial⟩,⟨rfl,trivial⟩,⟨wM hx.1 rfl,hx.2.2,Nat.le_trans (gJ (Nat.le_of_lt h3)) hx.2.2⟩,h3⟩⟩))
  |(have h1:=hy.1;have h2:=hy.2.1;have h3:y.1 % y.2<y.2:=Nat.mod_lt _ (by omega);((conv=>whnf);exact ⟨(y.2,y.1 % y.2),⟨⟨rfl,rfl,gm2,trivial⟩,⟨rfl,trivial⟩,⟨by show y.2<_;omega,by show y.1 % y.2<_;omega,wM hy.2.2 rfl⟩,h3⟩⟩))
  |omega⟩
instance afS(a b:Int):DenI Tryz.prog 156 [Z a,Z b] (sz a≤1000000000∧sz b≤1000000000) (Z ((Nat.gcd a.natAbs b.natAbs:Nat):Int)):=⟨λhp=>by
 refine aI Tryz.func156 rfl ?_
 repeat' ((try (conv=>whnf));first
  |refine ak ?_ ?_
  |refine Drw.mk (by kernel_rfl) ?_)
 all_goals (try refine Pr.mk ?_)
 all_goals first
  |((conv=>whnf);refine Sw.Loop.inv (α:=Nat × Nat) (λx=>[(4,.ptr 4 0),(5,.ptr 5 0),(6,.ptr 6 0)]) (λx=>[(4,.var [.v (.bool false),.sl 1 []]),(5,.var [zs (x.1:Nat),zl (x.1:Nat)]),(6,.var [zs (x.2:Nat),zl (x.2:Nat)])]) (λx=>Nat.gcd x.1 x.2=Nat.gcd a.natAbs b.natAbs∧sz ((x.1:Nat):Int)≤1000000000∧sz ((x.2:Nat):Int)≤1000000000) (λx=>x.2) (a.natAbs,b.natAbs) ?_ ?_ ?_ (λx hx=>?_))
  |skip
 all_goals (repeat' ((try (conv=>whnf));first
  |refine aG ?_
  |refine ak ?_ ?_
  |(with_reducible refine aJ ?_)
  |(with_reducible refine aK ?_)
  |(with_reducible refine au (λ_=>?_) (λ_=>?_))
  |refine aU ?_ ?_
  |refine Drw.mk (by kernel_rfl) ?_
  |refine Ends.mk ?_))
 all_goals (try refine Pr.mk ?_)
 all_goals first
  |((conv=>whnf);refine Sw.Loop.inv (α:=Nat × Nat) (λy=>[(4,.ptr 4 0),(7,.int .u64 (y.1:Nat)),(9,.int .u64 (y.2:Nat))]) (λy=>[(4,.var [.v (.bool false),.sl 1 []])]) (λy=>y.1<1000000000000000000∧y.2<1000000000000000000∧Nat.gcd y.1 y.2=Nat.gcd a.natAbs b.natAbs) (λy=>y.2) x ?_ ?_ ?_ (λy hy=>?_))
  |skip
 all_goals (repeat' ((try (conv=>whnf));first
  |refine ak ?_ ?_
  |(with_reducible refine au (λ_=>?_) (λ_=>?_))
  |refine aU ?_ ?_
  |refine Drw.mk (by kernel_rfl) ?_
  |refine Ends.mk ?_))
 all_goals (try refine Pr.mk ?_)
 all_goals first|(show SubE _ _;repeat' (first|exact trivial|refine And.intro ?_ ?_))|(show SubB _ _;repeat' (first|exact trivial|refine And.intro ?_ ?_))|skip
 all_goals (try rfl)
 all_goals (try simp only [List.length_map] at *)
 all_goals first
  |with_reducible exact aQ _
  |with_reducible exact lQ _ _
  |exact U6 _ _ (by rw [aA];rfl)
  |exact ⟨trivial,hp.1,hp.2⟩
  |exact wif (by assumption)
  |exact ⟨NR (by assumption),NR (by assumption),hx.1⟩
  |with_reducible exact afm hx.2.1 hx.2.2 (by assumption)
  |omega
  |with_reducible exact Yz (aee (by assumption)) hx.1 (aA _)
  |with_reducible exact Yz (by omega) hy.2.2 (kY _ _ (by omega))
  |(have h1:=hy.1;have h2:=hy.2.1;have h3:y.1 % y.2<y.2:=Nat.mod_lt _ (by omega);((conv=>whnf);exact ⟨(y.2,y.1 % y.2),⟨⟨rfl,rfl,gm2,trivial⟩,⟨rfl,trivial⟩,⟨by show y.2<_;omega,by show y.1 % y.2<_;omega,wM hy.2.2 rfl⟩,h3⟩⟩))
  |(have h0:=agq (by assumption);have h3:x.1 % x.2<x.2:=Nat.mod_lt _ h0;((conv=>whnf);exact ⟨(x.2,x.1 % x.2),⟨⟨rfl,rfl,rfl,trivial⟩,⟨rfl,rfl,U6 _ _ (gst (by assumption)),trivial⟩,⟨wM hx.1 rfl,hx.2.2,Nat.le_trans (nR (by rw [Int.natAbs_natCast,Int.natAbs_natCast];exact Nat.le_of_lt h3)) hx.2.2⟩,h3⟩⟩))
  |(have h0:=hx.2.1;unfold sz at h0;omega)⟩
instance agl : DenI Tryz.prog 158 [] (True) (Z 1):=⟨λhp=>by
 refine aI Tryz.func158 rfl ?_
 repeat' ((try (conv=>whnf));first
  |refine ak ?_ ?_
  |refine Ends.mk ?_)
 all_goals (try refine Pr.mk ?_)
 all_goals first|rfl|decide⟩
instance aff(n:Int):DenI Tryz.prog 222 [Z n] (True) (R (n:Rat)):=⟨λhp=>by
 refine aI Tryz.func222 rfl ?_
 repeat' ((try (conv=>whnf));first
  |refine aG ?_
  |refine Drw.mk (by kernel_rfl) ?_
  |refine Ends.mk ?_)
 rfl⟩
instance aeS(a b:Int):DenI Tryz.prog 159 [Z a,Z b] (sz a≤1000000000∧sz b≤1000000000) (Z (a.fdiv b)):=⟨λhp=>by
 refine aI Tryz.func159 rfl ?_
 repeat' ((try (conv=>whnf));first
  |refine ak ?_ ?_
  |refine Ends.mk ?_)
 all_goals (try refine Pr.mk ?_)
 all_goals first|rfl|exact hp⟩
instance adK(n d:Int):DenI Tryz.prog 121 [Z n,Z d] (d≠0∧sz n≤1000000000∧sz d≤1000000000) (R ((n:Rat) / d)):=⟨λhp=>by
 refine aI Tryz.func121 rfl ?_
 repeat' ((try (conv=>whnf));first
  |refine aG ?_
  |refine ak ?_ ?_
  |(with_reducible refine au (λ_=>?_) (λ_=>?_))
  |(with_reducible refine bG (λ_=>?_) (λ_=>?_))
  |refine Drw.mk (by kernel_rfl) ?_
  |refine Ends.mk ?_)
 all_goals (try refine Pr.mk ?_)
 all_goals obtain ⟨h0,h1,h2⟩:=hp
 all_goals (try simp only [dU] at *)
 all_goals first
  |(show aB _=_;first|(by_cases hd:d<0;(obtain ⟨q1,q2⟩:=MC (n:=n) (d:=d) hd;first|exact yU q1 q2|(refine yU ?_ ?_<;>simp_all));(obtain ⟨q1,q2⟩:=Aa (n:=n) (d:=d) (by omega);first|exact yU q1 q2|(refine yU ?_ ?_<;>simp_all))))
  |((try simp only [fM]);(repeat' apply And.intro)<;>first|assumption|exact RJ (by (try simp only [fM]);assumption) (by (try simp only [fM]);assumption))⟩
instance agC(n:Int):DenI Tryz.prog 179 [.int .i64 n] (-9223372036854775808≤n∧n≤9223372036854775807) (R (n:Rat)):=⟨λhp=>by
 refine aI Tryz.func179 rfl ?_
 repeat' ((try (conv=>whnf));first
  |refine aG ?_
  |refine ak ?_ ?_
  |refine Ends.mk ?_)
 all_goals (try refine Pr.mk ?_)
 all_goals first
  |(show aB _=_;rfl)
  |((repeat' apply And.intro)<;>first|assumption|omega|exact Int.mul_ne_zero (aH _) (aH _)|exact aH _|grind [gU,jE,lW,fM,iM,iR,jX,iW,jv,kX,jH,gZ,jq])⟩
instance afs(a:Rat):DenI Tryz.prog 49 [R a] (True) (.int .i64 (bI a)):=⟨λhp=>by
 refine aI Tryz.func49 rfl ?_
 repeat' ((try (conv=>whnf));first
  |refine aG ?_
  |refine Ends.mk ?_)
 all_goals (try simp only [dU] at *)
 all_goals first
  |(show aB _=_;rfl)⟩
instance ahN(a:Rat):DenI Tryz.prog 180 [R a] (rz a≤100000000) (R (-a)):=⟨λhp=>by
 refine aI Tryz.func180 rfl ?_
 repeat' ((try (conv=>whnf));first
  |refine ak ?_ ?_
  |refine Drw.mk (by kernel_rfl) ?_
  |refine Ends.mk ?_)
 all_goals (try refine Pr.mk ?_)
 all_goals first
  |(show aB _=_;rfl)
  |((repeat' apply And.intro)<;>first|assumption|omega|exact Int.mul_ne_zero (aH _) (aH _)|exact aH _|grind [gU,jE,lW,fM,iM,iR,jX,iW,jv,kX,jH,gZ,jq])⟩
instance ahR(a b:Rat):DenI Tryz.prog 91 [R a,R b] (rz a≤100000000∧rz b≤100000000) (R (a*b)):=⟨λhp=>by
 refine aI Tryz.func91 rfl ?_
 repeat' ((try (conv=>whnf));first
  |refine ak ?_ ?_
  |refine Drw.mk (by kernel_rfl) ?_
  |refine Ends.mk ?_)
 all_goals (try refine Pr.mk ?_)
 all_goals first
  |(show aB _=_;exact congrArg R (mul_div a b))
  |((repeat' apply And.intro)<;>first|assumption|omega|exact Int.mul_ne_zero (aH _) (aH _)|exact aH _|grind [gU,jE,lW,fM,iM,iR,jX,iW,jv,kX,jH,gZ,jq])⟩
instance ahX(a b:Rat):DenI Tryz.prog 163 [R a,R b] (rz a≤100000000∧rz b≤100000000) (R (a+b)):=⟨λhp=>by
 refine aI Tryz.func163 rfl ?_
 repeat' ((try (conv=>whnf));first
  |refine aG ?_
  |refine ak ?_ ?_
  |(with_reducible refine au (λ_=>?_) (λ_=>?_))
  |refine Drw.mk (by kernel_rfl) ?_
  |refine Ends.mk ?_)
 all_goals (try refine Pr.mk ?_)
 all_goals (try simp only [dU] at *)
 all_goals first
  |(show aB _=_;first|exact congrArg R (add_div a b)|exact congrArg R (QV a b (by assumption)))
  |((repeat' apply And.intro)<;>first|assumption|omega|exact Int.mul_ne_zero (aH _) (aH _)|exact aH _|grind [gU,jE,lW,fM,iM,iR,jX,iW,jv,kX,jH,gZ,jq])⟩
instance ahB(a b:Rat):DenI Tryz.prog 162 [R a,R b] (rz a≤100000000∧rz b≤100000000) (R (a-b)):=⟨λhp=>by
 refine aI Tryz.func162 rfl ?_
 repeat' ((try (conv=>whnf));first
  |refine ak ?_ ?_
  |refine Drw.mk (by kernel_rfl) ?_
  |refine Ends.mk ?_)
 all_goals (try refine Pr.mk ?_)
 all_goals first
  |(show aB _=_;exact congrArg R (Rat.sub_eq_add_neg a b).symm)
  |((repeat' apply And.intro)<;>first|assumption|omega|exact Int.mul_ne_zero (aH _) (aH _)|exact aH _|grind [gU,jE,lW,fM,iM,iR,jX,iW,jv,kX,jH,gZ,jq])⟩
instance ae3(a:Rat):DenI Tryz.prog 332 [R a] (rz a≤100000000) (Z a.floor):=⟨λhp=>by
 refine aI Tryz.func332 rfl ?_
 repeat' ((try (conv=>whnf));first
  |refine ak ?_ ?_
  |refine Ends.mk ?_)
 all_goals (try refine Pr.mk ?_)
 all_goals first
  |(show aB _=_;exact congrArg Z (I7 a))
  |((repeat' apply And.intro)<;>first|assumption|omega|exact Int.mul_ne_zero (aH _) (aH _)|exact aH _|grind [gU,jE,lW,fM,iM,iR,jX,iW,jv,kX,jH,gZ,jq])⟩
instance acB(a b:Int):DenI Tryz.prog 141 [Z a,Z b] (sz a≤500000000∧sz b≤500000000) (.tup [Z (a.fdiv b),Z (if b=0 then 0 else a.fmod b),.int .i64 (if b=0 then 6 else 0)]):=⟨λhp=>by
 refine aI Tryz.func141 rfl ?_
 repeat' ((try (conv=>whnf));first
  |refine aG ?_
  |refine ak ?_ ?_
  |(with_reducible refine aJ ?_)
  |(with_reducible refine aK ?_)
  |(with_reducible refine au (λ_=>?_) (λ_=>?_))
  |(with_reducible refine bG (λ_=>?_) (λ_=>?_))
  |refine OnB.mk (λ_=>?_) (λ_=>?_)
  |refine aU ?_ ?_
  |refine Drw.mk (by kernel_rfl) ?_
  |refine dH ?_ ?_
  |refine dF ?_ ?_
  |(with_reducible refine bH ?_ ?_)
  |(with_reducible refine bF ?_)
  |(with_reducible refine bM ?_)
  |refine Ends.mk ?_)
 all_goals (try refine Pr.mk ?_)
 all_goals (try simp only [List.length_map,aA,ug,tX] at *)
 all_goals obtain ⟨h1,h2⟩:=hp
 all_goals (try simp only [dU] at *)
 all_goals first
  |(show aB _=_;(first|(have hb0:b=0:=(by omega);subst hb0;exact Jk a)|with_reducible exact Jl (by assumption) (by assumption) (by assumption)|with_reducible exact vY (by assumption) (.inl (by omega))|with_reducible exact vY (by assumption) (.inr (by simp_all))))
  |(have z1:=zG (decide (a<0) != decide (b<0)) (a.natAbs / b.natAbs) a (Nat.div_le_self _ _);have z2:=zG (decide (a<0)) (a.natAbs % b.natAbs) a (Nat.mod_le _ _);have z3:=jq;(repeat' apply And.intro)<;>first|assumption|omega|exact CanL.lim _|exact aQ _|exact Dx _|(unfold sz at *;omega)|skip)⟩
instance aeU:DenI Tryz.prog 81 [] (True) (Z 1):=⟨λhp=>by
 refine aI Tryz.func81 rfl ?_
 repeat' ((try (conv=>whnf));first
  |refine ak ?_ ?_
  |refine Ends.mk ?_)
 all_goals (try refine Pr.mk ?_)
 all_goals first|rfl|decide⟩
instance aic(n d:Int):DenI Tryz.prog 105 [Z n,Z d] (d≠0∧sz n≤500000000∧sz d≤500000000) (R ((n:Rat) / d)):=⟨λhp=>by
 refine aI Tryz.func105 rfl ?_
 repeat' ((try (conv=>whnf));first
  |refine aG ?_
  |refine ak ?_ ?_
  |(with_reducible refine aJ ?_)
  |(with_reducible refine aK ?_)
  |(with_reducible refine au (λ_=>?_) (λ_=>?_))
  |(with_reducible refine bG (λ_=>?_) (λ_=>?_))
  |refine OnB.mk (λ_=>?_) (λ_=>?_)
  |refine aU ?_ ?_
  |refine Drw.mk (by kernel_rfl) ?_
  |refine dH ?_ ?_
  |refine dF ?_ ?_
  |(with_reducible refine bH ?_ ?_)
  |(with_reducible refine bF ?_)
  |(with_reducible refine bM ?_)
  |refine Ends.mk ?_)
 all_goals (try refine Pr.mk ?_)
 all_goals obtain ⟨h0,h1,h2⟩:=hp
 all_goals (try simp only [dU] at *)
 all_goals first
  |(show aB _=_;first|(by_cases hd:d<0;(obtain ⟨q1,q2⟩:=MC (n:=n) (d:=d) hd;first|exact yU q1 q2|(refine yU ?_ ?_<;>simp_all));(obtain ⟨q1,q2⟩:=Aa (n:=n) (d:=d) (by omega);first|exact yU q1 q2|(refine yU ?_ ?_<;>simp_all))))
  |((try simp only [fM]);(repeat' apply And.intro)<;>first|assumption|omega|exact RJ (by (try simp only [fM]);assumption) (by (try simp only [fM]);assumption))⟩
instance afc(n:Int):DenI Tryz.prog 42 [.int .i64 n] (-9223372036854775808≤n∧n≤9223372036854775807) (R (n:Rat)):=⟨λhp=>by
 refine aI Tryz.func42 rfl ?_
 repeat' ((try (conv=>whnf));first
  |refine aG ?_
  |refine ak ?_ ?_
  |refine Ends.mk ?_)
 all_goals (try refine Pr.mk ?_)
 all_goals first
  |(show aB _=_;rfl)
  |(exact hp)⟩
instance ae8(n d:Int):DenI Tryz.prog 186 [.int .i64 n,.int .i64 d] ((-9223372036854775808≤n∧n≤9223372036854775807)∧-9223372036854775808≤d∧d≤9223372036854775807) (R ((n:Rat) / d)):=⟨λhp=>by
 refine aI Tryz.func186 rfl ?_
 repeat' ((try (conv=>whnf));first
  |refine aG ?_
  |refine ak ?_ ?_
  |(with_reducible refine aJ ?_)
  |(with_reducible refine aK ?_)
  |(with_reducible refine au (λ_=>?_) (λ_=>?_))
  |(with_reducible refine bG (λ_=>?_) (λ_=>?_))
  |refine OnB.mk (λ_=>?_) (λ_=>?_)
  |refine aU ?_ ?_
  |refine Drw.mk (by kernel_rfl) ?_
  |refine dH ?_ ?_
  |refine dF ?_ ?_
  |(with_reducible refine bH ?_ ?_)
  |(with_reducible refine bF ?_)
  |(with_reducible refine bM ?_)
  |refine Ends.mk ?_)
 all_goals (try refine Pr.mk ?_)
 all_goals obtain ⟨⟨h1,h2⟩,h3,h4⟩:=hp
 all_goals (try simp only [dU] at *)
 all_goals first
  |(show aB _=_;first|rfl|(subst d;exact congrArg R (ZI n)))
  |(have z1:=gZ h1 h2;have z2:=gZ h3 h4;have z3:=jq;have z4:=gZ (n:=0) (by omega) (by omega);(repeat' apply And.intro)<;>first|assumption|omega|exact Int.mul_ne_zero (aH _) (aH _)|exact aH _|grind [gU,jE,lW,fM,iM,iR,jX,iW,jv,kX,jH,gZ,jq])⟩
instance ae7(a:Rat):DenI Tryz.prog 21 [R a] (True) (.int .i64 (bI a)):=⟨λhp=>by
 refine aI Tryz.func21 rfl ?_
 repeat' ((try (conv=>whnf));first
  |refine aG ?_
  |refine ak ?_ ?_
  |(with_reducible refine aJ ?_)
  |(with_reducible refine aK ?_)
  |(with_reducible refine au (λ_=>?_) (λ_=>?_))
  |(with_reducible refine bG (λ_=>?_) (λ_=>?_))
  |refine OnB.mk (λ_=>?_) (λ_=>?_)
  |refine aU ?_ ?_
  |refine Drw.mk (by kernel_rfl) ?_
  |refine dH ?_ ?_
  |refine dF ?_ ?_
  |(with_reducible refine bH ?_ ?_)
  |(with_reducible refine bF ?_)
  |(with_reducible refine bM ?_)
  |refine Ends.mk ?_)
 all_goals (try refine Pr.mk ?_)
 all_goals (try simp only [dU] at *)
 all_goals first
  |(show aB _=_;rfl)
  |(skip)⟩
instance agU(a:Rat):DenI Tryz.prog 110 [R a] (rz a≤100000000) (R (-a)):=⟨λhp=>by
 refine aI Tryz.func110 rfl ?_
 repeat' ((try (conv=>whnf));first
  |refine aG ?_
  |refine ak ?_ ?_
  |(with_reducible refine aJ ?_)
  |(with_reducible refine aK ?_)
  |(with_reducible refine au (λ_=>?_) (λ_=>?_))
  |(with_reducible refine bG (λ_=>?_) (λ_=>?_))
  |refine OnB.mk (λ_=>?_) (λ_=>?_)
  |refine aU ?_ ?_
  |refine Drw.mk (by kernel_rfl) ?_
  |refine dH ?_ ?_
  |refine dF ?_ ?_
  |(with_reducible refine bH ?_ ?_)
  |(with_reducible refine bF ?_)
  |(with_reducible refine bM ?_)
  |refine Ends.mk ?_)
 all_goals (try refine Pr.mk ?_)
 all_goals (try simp only [dU] at *)
 all_goals first
  |(show aB _=_;rfl)
  |((repeat' apply And.intro)<;>first|assumption|omega|exact Int.mul_ne_zero (aH _) (aH _)|exact aH _|grind [gU,jE,lW,fM,iM,iR,jX,iW,jv,kX,jH,gZ,jq])⟩
instance agE(a b:Rat):DenI Tryz.prog 69 [R a,R b] (rz a≤100000000∧rz b≤100000000) (R (a*b)):=⟨λhp=>by
 refine aI Tryz.func69 rfl ?_
 repeat' ((try (conv=>whnf));first
  |refine aG ?_
  |refine ak ?_ ?_
  |(with_reducible refine aJ ?_)
  |(with_reducible refine aK ?_)
  |(with_reducible refine au (λ_=>?_) (λ_=>?_))
  |(with_reducible refine bG (λ_=>?_) (λ_=>?_))
  |refine OnB.mk (λ_=>?_) (λ_=>?_)
  |refine aU ?_ ?_
  |refine Drw.mk (by kernel_rfl) ?_
  |refine dH ?_ ?_
  |refine dF ?_ ?_
  |(with_reducible refine bH ?_ ?_)
  |(with_reducible refine bF ?_)
  |(with_reducible refine bM ?_)
  |refine Ends.mk ?_)
 all_goals (try refine Pr.mk ?_)
 all_goals (try simp only [dU] at *)
 all_goals first
  |(show aB _=_;exact congrArg R (mul_div a b))
  |((repeat' apply And.intro)<;>first|assumption|omega|exact Int.mul_ne_zero (aH _) (aH _)|exact aH _|grind [gU,jE,lW,fM,iM,iR,jX,iW,jv,kX,jH,gZ,jq])⟩
instance af9(a b:Rat):DenI Tryz.prog 72 [R a,R b] (rz a≤100000000∧rz b≤100000000) (R (a+b)):=⟨λhp=>by
 refine aI Tryz.func72 rfl ?_
 repeat' ((try (conv=>whnf));first
  |refine aG ?_
  |refine ak ?_ ?_
  |(with_reducible refine aJ ?_)
  |(with_reducible refine aK ?_)
  |(with_reducible refine au (λ_=>?_) (λ_=>?_))
  |(with_reducible refine bG (λ_=>?_) (λ_=>?_))
  |refine OnB.mk (λ_=>?_) (λ_=>?_)
  |refine aU ?_ ?_
  |refine Drw.mk (by kernel_rfl) ?_
  |refine dH ?_ ?_
  |refine dF ?_ ?_
  |(with_reducible refine bH ?_ ?_)
  |(with_reducible refine bF ?_)
  |(with_reducible refine bM ?_)
  |refine Ends.mk ?_)
 all_goals (try refine Pr.mk ?_)
 all_goals (try simp only [dU] at *)
 all_goals first
  |(show aB _=_;exact congrArg R (add_div a b))
  |((repeat' apply And.intro)<;>first|assumption|omega|exact Int.mul_ne_zero (aH _) (aH _)|exact aH _|grind [gU,jE,lW,fM,iM,iR,jX,iW,jv,kX,jH,gZ,jq])⟩
instance agI(a b:Rat):DenI Tryz.prog 73 [R a,R b] (rz a≤100000000∧rz b≤100000000) (R (a-b)):=⟨λhp=>by
 refine aI Tryz.func73 rfl ?_
 repeat' ((try (conv=>whnf));first
  |refine aG ?_
  |refine ak ?_ ?_
  |(with_reducible refine aJ ?_)
  |(with_reducible refine aK ?_)
  |(with_reducible refine au (λ_=>?_) (λ_=>?_))
  |(with_reducible refine bG (λ_=>?_) (λ_=>?_))
  |refine OnB.mk (λ_=>?_) (λ_=>?_)
  |refine aU ?_ ?_
  |refine Drw.mk (by kernel_rfl) ?_
  |refine dH ?_ ?_
  |refine dF ?_ ?_
  |(with_reducible refine bH ?_ ?_)
  |(with_reducible refine bF ?_)
  |(with_reducible refine bM ?_)
  |refine Ends.mk ?_)
 all_goals (try refine Pr.mk ?_)
 all_goals (try simp only [dU] at *)
 all_goals first
  |(show aB _=_;exact congrArg R (Rat.sub_eq_add_neg a b).symm)
  |((repeat' apply And.intro)<;>first|assumption|omega|exact Int.mul_ne_zero (aH _) (aH _)|exact aH _|grind [gU,jE,lW,fM,iM,iR,jX,iW,jv,kX,jH,gZ,jq])⟩
instance agM(a b:Rat):DenI Tryz.prog 24 [R a,R b] (rz a≤100000000∧rz b≤100000000) (.int .i64 (iI a b)):=⟨λhp=>by
 refine aI Tryz.func24 rfl ?_
 repeat' ((try (conv=>whnf));first
  |refine aG ?_
  |refine ak ?_ ?_
  |(with_reducible refine aJ ?_)
  |(with_reducible refine aK ?_)
  |(with_reducible refine au (λ_=>?_) (λ_=>?_))
  |(with_reducible refine bG (λ_=>?_) (λ_=>?_))
  |refine OnB.mk (λ_=>?_) (λ_=>?_)
  |refine aU ?_ ?_
  |refine Drw.mk (by kernel_rfl) ?_
  |refine dH ?_ ?_
  |refine dF ?_ ?_
  |(with_reducible refine bH ?_ ?_)
  |(with_reducible refine bF ?_)
  |(with_reducible refine bM ?_)
  |refine Ends.mk ?_)
 all_goals (try refine Pr.mk ?_)
 all_goals (try simp only [dU] at *)
 all_goals first
  |(show aB _=_;rfl)
  |((repeat' apply And.intro)<;>first|assumption|omega|exact Int.mul_ne_zero (aH _) (aH _)|exact aH _|grind [gU,jE,lW,fM,iM,iR,jX,iW,jv,kX,jH,gZ,jq])⟩
instance ad6(neg:Bool)(l:List Nat):DenI Tryz.prog 119 [Zr neg l] (l.length≤9223372036854775807) (.bool (gV neg l)):=⟨λhp=>by
 refine aI Tryz.func119 rfl ?_
 repeat' ((try (conv=>whnf));first
  |refine aG ?_
  |refine ak ?_ ?_
  |(with_reducible refine aJ ?_)
  |(with_reducible refine aK ?_)
  |(with_reducible refine au (λ_=>?_) (λ_=>?_))
  |(with_reducible refine bG (λ_=>?_) (λ_=>?_))
  |refine OnB.mk (λ_=>?_) (λ_=>?_)
  |refine aU ?_ ?_
  |refine Drw.mk (by kernel_rfl) ?_
  |refine dH ?_ ?_
  |refine dF ?_ ?_
  |(with_reducible refine bH ?_ ?_)
  |(with_reducible refine bF ?_)
  |(with_reducible refine bM ?_)
  |refine Ends.mk ?_)
 all_goals first
  |((conv=>whnf);refine Sw.Loop.inv (α:=Nat) (λx=>[(1,.ptr 1 0),(2,.bool false),(3,.int .i64 x)]) (λx=>[(1,.var [.v (.bool neg),bJ l])]) (λx=>x≤l.length∧∀j,j<x→l.getD j 0<1000000000) (λx=>l.length-x) 0 ?_ ?_ ?_ (λx hx=>?_))
 all_goals (repeat' ((try (conv=>whnf));first
  |refine aG ?_
  |(with_reducible refine aJ ?_)
  |(with_reducible refine aK ?_)
  |(with_reducible refine au (λ_=>?_) (λ_=>?_))
  |refine OnB.mk (λ_=>?_) (λ_=>?_)
  |refine Drw.mk (by kernel_rfl) ?_
  |(with_reducible refine bH ?_ ?_)
  |refine Ends.mk ?_))
 all_goals (try refine Pr.mk ?_)
 all_goals first|(show SubE _ _;repeat' (first|exact trivial|refine And.intro ?_ ?_))|(show SubB _ _;repeat' (first|exact trivial|refine And.intro ?_ ?_))|skip
 all_goals (try rfl)
 all_goals (try simp only [List.length_map,Int.toNat_natCast] at *)
 all_goals first
  |exact bE (VO (x:=x) (by omega) (by assumption))
  |(refine bE ?_;rw [Ve hx (by assumption)];(have hh:(ah l).length=l.length:=by omega);simp_all;done)
  |(refine bE ?_;rw [Ve hx (by assumption)];(have hh:¬(ah l).length=l.length:=by omega);simp_all;done)
  |((conv=>whnf);exact ⟨x+1,⟨⟨rfl,rfl,aX (by omega),trivial⟩,⟨rfl,trivial⟩,⟨by omega,λj hj=>by rcases Nat.lt_succ_iff_lt_or_eq.1 hj with h|h;exact hx.2 j h;subst h;omega⟩,by show l.length-(x+1)<l.length-x;omega⟩⟩)
  |omega
  |exact ⟨by omega,λj hj=>by omega⟩⟩
instance acV(n1:Bool)(l1:List Nat)(n2:Bool)(l2:List Nat):DenI Tryz.prog 89 [Rr n1 l1 n2 l2] (l1.length≤1000000000∧l2.length≤1000000000) (.bool (iO n1 l1 n2 l2)):=⟨λhp=>by
 rcases yO n1 l1 n2 l2 with h|⟨x,rfl,rfl,h⟩|⟨x,y,rfl,rfl,rfl,rfl⟩
 all_goals refine aI Tryz.func89 rfl ?_
 all_goals (repeat' ((try (conv=>whnf));first
  |refine aG ?_
  |refine ak ?_ ?_
  |(with_reducible refine aJ ?_)
  |(with_reducible refine aK ?_)
  |(with_reducible refine au (λ_=>?_) (λ_=>?_))
  |(with_reducible refine bG (λ_=>?_) (λ_=>?_))
  |refine OnB.mk (λ_=>?_) (λ_=>?_)
  |refine aU ?_ ?_
  |refine Drw.mk (by kernel_rfl) ?_
  |refine dH ?_ ?_
  |refine dF ?_ ?_
  |(with_reducible refine bH ?_ ?_)
  |(with_reducible refine bF ?_)
  |(with_reducible refine bM ?_)
  |refine Ends.mk ?_))
 all_goals (try refine Pr.mk ?_)
 all_goals first
  |(simp only [qL] at *;exfalso;simp_all;done)
  |(exfalso;clear hp;simp at *;done)
  |(exfalso;simp_all;done)
  |(refine bE ?_;rw [kV];simp_all;done)
  |exact bE (by unfold iO;simp_all)
  |exact hp
  |(first|exact Nat.le_trans hp.1 (by decide)|exact Nat.le_trans hp.2 (by decide))⟩
instance adr(l h:Int):DenI Tryz.prog 333 [.int .i64 l,.int .i64 h] (True) (Ov (O5 l h)):=⟨λhp=>by
 refine aI Tryz.func333 rfl ?_
 repeat' ((try (conv=>whnf));first
  |(with_reducible refine aJ ?_)
  |(with_reducible refine aK ?_)
  |(with_reducible refine au (λ_=>?_) (λ_=>?_))
  |refine Ends.mk ?_)
 all_goals first
  |(rw [OA (by omega) (by omega)];rfl)
  |(rw [EL (by omega)];rfl)⟩
instance ah7(l h:Int):DenI Tryz.prog 305 [Iv l h] (-2305843009213693952≤l∧l≤2305843009213693952∧-2305843009213693952≤h∧h≤2305843009213693952) (Iv (-h) (-l)):=⟨λhp=>by
 refine aI Tryz.func305 rfl ?_
 repeat' ((try (conv=>whnf));first
  |refine Ends.mk ?_)
 rw [bY (by omega) (by omega),bY (by omega) (by omega),Int.zero_sub,Int.zero_sub];rfl⟩
instance ahG(n:Int):DenI Tryz.prog 355 [.int .i64 n] (-9223372036854775808≤n∧n≤9223372036854775807) (.int .u64 n.natAbs):=⟨λhp=>by
 refine aI Tryz.func355 rfl ?_
 repeat' ((try (conv=>whnf));first
  |(with_reducible refine au (λ_=>?_) (λ_=>?_))
  |refine Ends.mk ?_)
 all_goals (refine iE ?_;simp only [IntKind.wrap_u64];omega)⟩
instance ag9(l h:Int):DenI Tryz.prog 306 [Iv l h] (True) (.tup [.int .i64 (LG l h).1,.bool (LG l h).2]):=⟨λhp=>by
 refine aI Tryz.func306 rfl ?_
 repeat' ((try (conv=>whnf));first
  |(with_reducible refine aJ ?_)
  |(with_reducible refine aK ?_)
  |(with_reducible refine au (λ_=>?_) (λ_=>?_))
  |refine Drw.mk (by kernel_rfl) ?_
  |refine Ends.mk ?_)
 all_goals (refine ibE ?_ ?_<;>unfold LG<;>(repeat' split)<;>simp_all<;>omega)⟩
instance afh(a b:Nat):DenI Tryz.prog 327 [.int .u64 a,.int .u64 b] (a<18446744073709551616∧b<18446744073709551616) (.tup [.int .u64 (a*b / 18446744073709551616:Nat),.int .u64 (a*b % 18446744073709551616:Nat)]):=⟨λhp=>by
 refine aI Tryz.func327 rfl ?_
 repeat' ((try (conv=>whnf));first
  |refine aU ?_ ?_
  |refine Ends.mk ?_)
 all_goals (try refine Pr.mk ?_)
 all_goals first
  |(show (0:Int)≤_;decide)
  |(simp only [agJ,adX,adx,e32,e16,e48,Ee,aaw,Un,wu,← Int.natCast_mul,← Int.natCast_add];obtain ⟨m1,m2,m3,m4,m5⟩:=PZ (a:=a) (b:=b) hp.1 hp.2 rfl rfl rfl rfl;refine iE2 ?_ rfl;rw [← m1];apply congrArg Nat.cast;omega)⟩
instance ac5(x y:Int):DenI Tryz.prog 334 [.int .i64 x,.int .i64 y] ((-9223372036854775808≤x∧x≤9223372036854775807)∧-9223372036854775808≤y∧y≤9223372036854775807) (.tup [.int .i64 (uV x y).1,.int .i64 (uV x y).2.1,.bool (uV x y).2.2]):=⟨λhp=>by
 refine aI Tryz.func334 rfl ?_
 repeat' ((try (conv=>whnf));first
  |refine ak ?_ ?_
  |(with_reducible refine aJ ?_)
  |(with_reducible refine aK ?_)
  |(with_reducible refine au (λ_=>?_) (λ_=>?_))
  |(with_reducible refine bG (λ_=>?_) (λ_=>?_))
  |refine OnB.mk (λ_=>?_) (λ_=>?_)
  |refine aU ?_ ?_
  |refine Ends.mk ?_)
 all_goals (try refine Pr.mk ?_)
 all_goals (try simp only [adX,adx,e16,e48,Ee,Un] at *)
 all_goals first
  |exact hp.1
  |exact hp.2
  |(show (0:Int)≤_;decide)
  |(constructor<;>omega)
  |(refine KF ?_;exact abo (by assumption))
  |(rw [aen (by omega)] at *;refine KF ?_;exact Wu (x:=x) (y:=y) (by assumption))
  |(rw [aen (by omega)] at *;have q1:=w1 (q:=((x.natAbs*y.natAbs / 65536:Nat):Int)) (by omega) (by assumption);have q2:=w2 (q:=((x.natAbs*y.natAbs / 65536:Nat):Int)) (by omega) (by assumption);have q3:=w3 (q:=((x.natAbs*y.natAbs / 65536:Nat):Int)) (by omega) (by assumption);have q4:=w4 (q:=((x.natAbs*y.natAbs / 65536:Nat):Int)) (by omega) (by assumption);rename_i g1 g2 g3 g4 hl;(try rw [q1] at hl);(try rw [q2] at hl);(try rw [q3] at hl);(try rw [q4] at hl);(try rw [q1]);(try rw [q2]);(try rw [q3]);(try rw [q4]);clear q1 q2 q3 q4;first|refine Oh (z:=true) g2 g3 g1 (decide_eq_true (by omega)) rfl rfl ?_|refine Oh (z:=false) g2 g3 g1 (decide_eq_false (by omega)) rfl rfl ?_)
 all_goals first|exact decide_eq_decide.2 (by omega)|exact (decide_eq_false (by omega)).symm⟩
instance(k:Nat):DenI Tryz.prog 160 [.bool false,.c (.sl 1 (List.replicate k [Cell.v (.int .u32 0)]++[[Cell.v (.int .u32 1)]]))] True (Z ((1000000000 ^ k:Nat):Int)):=⟨λ_=>by
 have h:=(inferInstance:DenI Tryz.prog 160 [.bool false,.c (bJ (List.replicate k 0++[1]))] _ _).den ((iU k).append (Lb.cons (by omega) Lb.nil));rw [Kq] at h;unfold bJ at h;rw [List.map_append,List.map_replicate] at h
 exact h⟩
instance agp(a:Int):DenI Tryz.prog 366 [Z a] (sz a≤100000000) (.tup [Z (if a<0 then 0 else uI a.natAbs),.int .i64 (if a<0 then 7 else 0)]):=⟨λhp=>by
 refine aI Tryz.func366 rfl ?_
 repeat' ((try (conv=>whnf));first
  |refine aG ?_
  |refine ak ?_ ?_
  |(with_reducible refine au (λ_=>?_) (λ_=>?_))
  |refine aU ?_ ?_
  |refine dH ?_ ?_
  |refine Ends.mk ?_)
 all_goals (try refine Pr.mk ?_)
 all_goals have hl:(lim a.natAbs).length≤100000000:=hp
 all_goals first
  |((conv=>whnf);refine Sw.Loop.inv (α:=Nat) (λx=>[(1,.ptr 1 0),(2,.ptr 2 0),(3,.int .i64 0),(5,.ptr 5 0),(6,.ptr 6 0)]) (λx=>[(1,.var [zs a,zl a]),(2,.var [.v (.bool false),.sl 1 []]),(5,.var [zs x,zl x]),(6,.var [zs 2,zl 2])]) (λx=>0<x∧a.natAbs<(x+1)*(x+1)∧sz x≤200000000) (λx=>x) (1000000000 ^ (((lim a.natAbs).length+1) / 2)) ?_ ?_ ?_ (λx hx=>?_))
  |skip
 all_goals (repeat' ((try (conv=>whnf));first
  |refine aG ?_
  |refine ak ?_ ?_
  |(with_reducible refine au (λ_=>?_) (λ_=>?_))
  |refine Drw.mk (by kernel_rfl) ?_
  |refine Ends.mk ?_))
 all_goals (try refine Pr.mk ?_)
 all_goals first|(show SubE _ _;repeat' (first|exact trivial|refine And.intro ?_ ?_))|(show SubB _ _;repeat' (first|exact trivial|refine And.intro ?_ ?_))|skip
 all_goals (try rfl)
 all_goals (try simp only [dU] at *)
 all_goals (try simp only [List.length_map,aA,ug,tX] at *)
 all_goals (try rw [Vq (by omega)])
 all_goals (try simp only [Int.toNat_natCast,List.length_replicate,List.length_append,List.length_cons,List.length_nil])
 all_goals (try simp only [Si (show 0≤a by omega),Uf] at *)
 all_goals first
  |exact XG (by assumption)
  |exact V6 (by assumption) (by assumption)
  |with_reducible exact Yb (by assumption) (by assumption) (by assumption)
  |((conv=>whnf);exact ⟨(x+a.natAbs / x) / 2,⟨⟨rfl,rfl,rfl,rfl,rfl,trivial⟩,⟨rfl,rfl,rfl,rfl,trivial⟩,UE (by assumption) (by assumption) (by assumption),by show (x+a.natAbs / x) / 2<x;omega⟩⟩)
  |exact JY rfl hl
  |(show ld _ _=some _;rfl)
  |(have z1:=@YD a;have z2:=jE;have z3:=jq;have z4:=gZ (n:=2) (by omega) (by omega);(repeat' apply And.intro)<;>first|assumption|omega|decide|(simp;done)|(have z5:=z1 (x:=x);have z6:=z2 x ((a.natAbs / x:Nat):Int);omega)|skip)⟩
instance acA(a:Rat):DenI Tryz.prog 302 [R a] (rz a≤10000000) (Ov (dS a)):=⟨λhp=>by
 refine aI Tryz.func302 rfl ?_
 repeat' ((try (conv=>whnf));first
  |refine aG ?_
  |refine ak ?_ ?_
  |(with_reducible refine aJ ?_)
  |(with_reducible refine aK ?_)
  |(with_reducible refine bG (λ_=>?_) (λ_=>?_))
  |refine Drw.mk (by kernel_rfl) ?_
  |refine Ends.mk ?_)
 all_goals (try refine Pr.mk ?_)
 all_goals first
  |exact ovN (aey (by assumption))
  |exact ovN (acR (by assumption))
  |(rename_i g1 g2;rw [if_pos g1,if_pos g2];rfl)
  |(have z1:=iW a ((65536:Int):Rat);have z2:=afo;have z3:=jv (a*((65536:Int):Rat));have z4:=VH (-(a*((65536:Int):Rat)));omega)⟩
instance f_add(a b c d:Int):DenI Tryz.prog 304 [Iv a b,Iv c d] (-2305843009213693952≤a∧a≤2305843009213693952∧-2305843009213693952≤b∧b≤2305843009213693952∧-2305843009213693952≤c∧c≤2305843009213693952∧-2305843009213693952≤d∧d≤2305843009213693952) (Ov (vF (a,b) (c,d))):=⟨λhp=>by
 refine aI Tryz.func304 rfl ?_
 repeat' ((try (conv=>whnf));first
  |refine aG ?_
  |refine Ends.mk ?_)
 rw [bY (by omega) (by omega),bY (by omega) (by omega)];rfl⟩
instance afG(n:Int):DenI Tryz.prog 356 [.int .i64 n] (0≤n∧n≤2305843009213693952) (.tup [.int .i64 (rt n),.bool (decide (rt n*rt n=n*65536))]):=⟨λhp=>by
 refine aI Tryz.func356 rfl ?_
 repeat' ((try (conv=>whnf));first
  |refine aG ?_
  |refine ak ?_ ?_
  |refine Drw.mk (by kernel_rfl) ?_
  |refine Ends.mk ?_)
 all_goals (try refine Pr.mk ?_)
 all_goals (have hn:=Vm hp.1 hp.2;have h0:0=0:=rfl)
 all_goals (try simp only [aeB,Ir])
 all_goals first
  |exact ibE (if_pos (show -9223372036854775808≤rt n∧rt n≤9223372036854775807 by omega)) rfl
  |omega
  |(have z1:=gU n 65536;have z2:=szl n (by omega) (by omega);have z3:=szl 65536 (by omega) (by omega);have z4:=szl (rt n) (by omega) (by omega);omega)⟩
instance afA(l h:Int):DenI Tryz.prog 335 [Iv l h] (l≤h∧-2305843009213693952≤l∧l≤2305843009213693952∧-2305843009213693952≤h∧h≤2305843009213693952) (Ov (ny (l,h))):=⟨λhp=>by
 refine aI Tryz.func335 rfl ?_
 repeat' ((try (conv=>whnf));first
  |refine aG ?_
  |refine ak ?_ ?_
  |(with_reducible refine au (λ_=>?_) (λ_=>?_))
  |(with_reducible refine bG (λ_=>?_) (λ_=>?_))
  |refine Ends.mk ?_)
 all_goals (try refine Pr.mk ?_)
 all_goals (try rw [Wx] at *)
 all_goals first
  |exact ovN (if_pos (by assumption))
  |exact acW (by assumption) (by assumption)
  |(have hn:=Vm (n:=h) (by omega) (by omega);rw [bY (by omega) (by omega)];exact aez (by assumption) (by assumption))
  |(constructor<;>omega)⟩
instance ahw(a b c d:Int):DenI Tryz.prog 303 [Iv a b,Iv c d] (-2305843009213693952≤a∧a≤2305843009213693952∧-2305843009213693952≤b∧b≤2305843009213693952∧-2305843009213693952≤c∧c≤2305843009213693952∧-2305843009213693952≤d∧d≤2305843009213693952) (Ov (rG (a,b) (c,d))):=⟨λhp=>by
 refine aI Tryz.func303 rfl ?_
 all_goals (repeat' ((try rw [Na]);(try rw [Hr]);(try (conv=>whnf));first
  |refine ak ?_ ?_
  |refine NZ rfl ?_
  |refine Bv rfl ?_
  |refine OnB.mk (λ_=>?_) (λ_=>?_)
  |(with_reducible refine bF ?_)
  |(with_reducible refine bM ?_)
  |refine Sw.Loop.unroll ?_
  |refine Ends.mk ?_))
 all_goals (try refine Pr.mk ?_)
 all_goals (try simp only [Vf,TQ])
 all_goals first
  |exact ovN (vX (.inl rfl) (.inl rfl) (by with_reducible assumption))
  |exact ovN (vX (.inl rfl) (.inr rfl) (by with_reducible assumption))
  |exact ovN (vX (.inr rfl) (.inl rfl) (by with_reducible assumption))
  |exact ovN (vX (.inr rfl) (.inr rfl) (by with_reducible assumption))
  |(rename_i g1 g2 g3 g4;exact Ro g1 g2 g3 g4)
  |(constructor<;>constructor<;>omega)⟩
instance aeX(a b c:Rat):DenI Tryz.prog 307 [Q3 a b c] (rz a≤100000∧rz b≤100000∧rz c≤100000) (Ov (nH a b c)):=⟨λhp=>by
 refine aI Tryz.func307 rfl ?_
 repeat' ((try (conv=>whnf));first
  |refine aG ?_
  |refine ak ?_ ?_
  |(with_reducible refine aJ ?_)
  |(with_reducible refine aK ?_)
  |(with_reducible refine au (λ_=>?_) (λ_=>?_))
  |refine OnB.mk (λ_=>?_) (λ_=>?_)
  |refine Ends.mk ?_)
 all_goals (try refine Pr.mk ?_)
 all_goals (try simp only [Prod.eta] at *)
 all_goals first
  |omega
  |(have z1:=jB a;have z2:=jB b;have z3:=jB c;have z4:=SV z3;have z5:=zC ((dS b).getD (0,0)) ((ny ((dS c).getD (0,0))).getD (0,0));unfold Gw at *;omega)
  |refine acU ?_
  |(show Ov (dS a)=_;refine congrArg Ov ?_)
  |(show Ov (vF _ _)=_;refine congrArg Ov ?_)
 all_goals (unfold nH;(try simp only [Ht,iK] at *);rcases h1:dS a with _|x<;>rcases h2:dS b with _|y<;>rcases h3:dS c with _|z<;>simp_all)
 all_goals (rcases h4:ny z with _|s<;>simp_all)
 all_goals (rcases h5:rG y s with _|p<;>simp_all)⟩
end Go.Proofs.YtmniihkenijjpaaGreatDoor
