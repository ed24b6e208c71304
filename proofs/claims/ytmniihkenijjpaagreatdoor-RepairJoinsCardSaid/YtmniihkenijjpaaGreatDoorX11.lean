/-
  Rules of the abstract run, plain laws, and what functions answer, for the law RepairJoins.
  Conditions: none.
-/
import Derived.Test.YtmniihkenijjpaaGreatDoorX10
import Derived.Test.YtmniihkenijjpaaGreatDoorChecked
import Derived.Maps.Own
import Derived.Maps.Views
set_option linter.all false
namespace Go.Proofs.YtmniihkenijjpaaGreatDoor
open Go Go.RowKit Go.Sw
set_option maxRecDepth 20000
namespace TfR
theorem body161:dW Tryz.prog 161=true:=by kernel_rfl
theorem body198:dW Tryz.prog 198=true:=by kernel_rfl
theorem body230:dW Tryz.prog 230=true:=by kernel_rfl
theorem body231:dW Tryz.prog 231=true:=by kernel_rfl
theorem body232:dW Tryz.prog 232=true:=by kernel_rfl
theorem body233:dW Tryz.prog 233=true:=by kernel_rfl
theorem el154:Sw.elemOf Tryz.prog 154=some (#[.int .u32 0],1,4):=by kernel_rfl
theorem mixed:Tryz.prog.follows .mixedOrders=true:=by kernel_rfl
theorem one154:iH Tryz.prog 154=true:=by kernel_rfl
theorem size154:(Tryz.prog.info? 154).map (λi=>i.size)=some 1:=by kernel_rfl
theorem sl26:sliceOf Tryz.prog 26=some (154,1):=by kernel_rfl
theorem sls26:(sliceOf Tryz.prog 26).isSome=true:=by kernel_rfl
theorem und152:Tryz.prog.underlying 152=some (TypeDesc.int .u64):=by kernel_rfl
theorem und154:Tryz.prog.underlying 154=some (TypeDesc.int .u32):=by kernel_rfl
theorem unds152:(Tryz.prog.underlying 152).isSome=true:=by kernel_rfl
theorem unds154:(Tryz.prog.underlying 154).isSome=true:=by kernel_rfl
end TfR
set_option maxHeartbeats 4000000 in
theorem xA{w:World}{X:List Nat}(hX:∀m∈X,m<w.heap.size){v_a:Value}{a:List Nat}(h_a:UL w X v_a (a)){v_b:Value}{b:List Nat}(h_b:UL w X v_b (b))(hn_a:a.length≤100000000000)(hn_b:b.length≤100000000000)(hb_a:Lb a)(hb_b:Lb b)(hpos:0<val b):
 Calls Tryz.prog 197 #[v_a,v_b] w (BG λr w'=>(∃qs:List Nat,∃rs:List Nat,∃r0 r1,r=.tuple #[r0,r1]∧UL w' X r0 (qs)∧UL w' X r1 (rs)∧Lb qs∧Lb rs∧val a=val b*val qs+val rs∧val rs<val b∧qs.length=XT a b∧rs.length=WE a b)∧Below w.heap.size w w'):=by
 refine enter (N:=179) (fn:=Tryz.f197) (vs:=[v_a,v_b]) Tryz.func197 rfl rfl rfl ?_;intro fa hF;obtain⟨A_a,_,c_a,rfl,rfl,hu_a⟩:=h_a;have hl_a:=hu_a.len;have hc_a:=hu_a.cap;obtain⟨A_b,_,c_b,rfl,rfl,hu_b⟩:=h_b;have hl_b:=hu_b.len;have hc_b:=hu_b.cap;replace hF:Frm 179 fa [(0,(.slice (A_a) (a.length) (c_a))),(1,(.slice (A_b) (b.length) (c_b)))]:=hF;have hS:=St.refl w;have hca:=eX hb_a;have hcb:=eX hb_b;have hva:=dZ a;have hvb0:=dZ b;have hla:=fA a;have hlb:=fA b;have hbn:0<(ah b).length:=by cases hq:ah b with|nil=>rw[hq]at hvb0;simp[val]at hvb0;omega|cons _ _=>simp
 refine aF ?_;refine aI ?_;refine pr hF (pa rfl <| pa rfl <| PR.nil) ?_;clear hF fa;intro fa hF;refine ak ?_;refine aF ?_;refine aI ?_;refine pr hF (pm rfl <| PR.nil) ?_;clear hF fa;intro fa hF;have hC:=jI (w:=w) (X:=X) (l:=a) (hS.bnd hX) ⟨_,(a.length),_,rfl,(rfl),hu_a⟩;refine st rfl (kP hF rfl TfR.body230 (args1 (hF.ev rfl)) hC ?_);clear hC;rintro _ w1 ⟨⟨A4,_,c5,rfl,rfl,hu6⟩,hb2⟩;refine qY ?_;clear hF fa;intro fa hF;replace hS:=hS.call hb2;have E3:=Ext.call X hb2;refine pr hF (pm rfl <| PR.nil) ?_;clear hF fa;intro fa hF;have hC:=jI (w:=w1) (X:=X) (l:=b) (hS.bnd hX) ⟨_,(b.length),_,rfl,(rfl),(hu_b.ext E3)⟩;refine st rfl (kP hF rfl TfR.body230 (args1 (hF.ev rfl)) hC ?_);clear hC;rintro _ w7 ⟨⟨A10,_,c11,rfl,rfl,hu12⟩,hb8⟩;refine qY ?_;clear hF fa;intro fa hF;replace hS:=hS.call hb8;have E9:=Ext.call X hb8;refine pr hF (pa rfl <| pa rfl <| PR.nil) ?_;clear hF fa;intro fa hF;refine ak ?_;refine aF ?_;refine aF ?_;refine aI ?_;refine pr hF (pm rfl <| pg (λ_ hF=>kY TfR.sls26 (hF.ev rfl)) <| pg (λ_ hF=>Vq (hF.ev rfl) (hF.ev rfl)) <| PR.nil) ?_;clear hF fa;intro fa hF;refine ak ?_;refine iW hF rfl (λhc13=>?_) (λhc13=>?_)
 ·
  have hc13p:(((ah b).length:Nat):Int)=1:=by first|simpa using hc13|exact dK hc13|exact dJ hc13
  have h1b:=TP (l:=ah b) (by omega);refine aF ?_;refine aI ?_;refine pr hF (pm rfl <| pm rfl <| PR.nil) ?_;clear hF fa;intro fa hF;obtain⟨ad14,hA15,hq16⟩:=hu12.cl.at_ (kZ (l:=(ah b)) (i:=0) (by omega));refine pr hF (pg (λ_ hF=>kV (j:=0) TfR.sl26 (hF.ev rfl) hA15 (hF.ev rfl) (by omega) (by omega)) <| pg (λ_ hF=>gQ TfR.one154 (hF.ev rfl) hq16) <| PR.nil) ?_;clear hF fa;intro fa hF;have hC:=nZ (w:=w7) (X:=X) (a:=(ah a)) (hS.bnd hX) ⟨_,((ah a).length),_,rfl,(rfl),(hu6.ext E9)⟩ ((ah b).getD (0) 0) (by omega) (hca.1) (by omega) (hcb.1.getD 0);refine st rfl (kP hF rfl TfR.body231 (args2 (hF.ev rfl) (hF.ev (iT (b:=(((ah b).getD (0) 0:Nat):Int)) rfl (by first|rfl|omega)))) hC ?_);clear hC;rintro _ w17 ⟨⟨qs_20,rs_21,_,_,rfl,⟨A22,_,c23,rfl,rfl,hu24⟩,⟨A25,_,c26,rfl,rfl,hu27⟩,hp28,hp29,hp30,hp31,hp32,hp33⟩,hb18⟩;refine qY ?_;clear hF fa;intro fa hF;replace hS:=hS.call hb18;have E19:=Ext.call X hb18;have hw_lq:=hp28;have hw_lr:=hp29;have hw_v:=hp30;have hw_l:=hp31;have hw_q:=hp32;have hw_r:=hp33;refine pr hF (px rfl rfl <| px rfl rfl <| pa rfl <| pa rfl <| PR.nil) ?_;clear hF fa;intro fa hF;replace hF:Frm 179 fa [(0,(.slice (A4) ((ah a).length) (c5))),(1,(.slice (A10) ((ah b).length) (c11))),(4,(.slice (A22) (qs_20.length) (c23))),(5,(.slice (A25) (rs_21.length) (c26))),(23,(.bool (decide ((((ah b).length:Nat):Int)=1))))]:=(hF.all ⟨rfl,rfl,rfl,rfl,rfl,trivial⟩)
  refine ak ?_;refine xq ?_;refine Ry ?_;refine adk hF rfl (mJ hF rfl) (mJ hF rfl) ?_;exact⟨_,rfl,⟨qs_20,rs_21,_,_,rfl,(UL.fin (L:=qs_20) ⟨_,_,_,rfl,(rfl),hu24⟩ (rfl) (λx hx=>by simp[hx])),(UL.fin (L:=rs_21) ⟨_,_,_,rfl,(rfl),hu27⟩ (rfl) (λx hx=>by simp[hx])),(hw_lq),(hw_lr),(by rw[←hva,←hvb0,h1b];exact hw_v),(by rw[←hvb0,h1b];exact hw_l),(by unfold XT;rw[if_pos (by omega)];omega),(by unfold WE;rw[if_pos (by omega)];omega)⟩,hS.below⟩
 have hc13p:¬((((ah b).length:Nat):Int)=1):=by first|simpa using hc13|exact dK hc13|exact dJ hc13
 have hn2:2≤(ah b).length:=by omega
 refine fM ?_;refine bY ?_;refine aF ?_;refine aF ?_;refine aI ?_;refine pr hF (pm rfl <| pm rfl <| PR.nil) ?_;clear hF fa;intro fa hF;have hC:=vU (w:=w7) (X:=X) (a:=(ah a)) (b:=(ah b)) (hS.bnd hX) ⟨_,((ah a).length),_,rfl,(rfl),(hu6.ext E9)⟩ ⟨_,((ah b).length),_,rfl,(rfl),hu12⟩ (hca.1) (hcb.1);refine st rfl (kP hF rfl TfR.body198 (args2 (hF.ev rfl) (hF.ev rfl)) hC ?_);clear hC;rintro _ w34 ⟨rfl,hb35⟩;refine qY ?_;clear hF fa;intro fa hF;replace hS:=hS.call hb35;have E36:=Ext.call X hb35;refine pr hF (pg (λ_ hF=>oL (hF.ev rfl) (hF.ev rfl)) <| PR.nil) ?_;clear hF fa;intro fa hF;refine ak ?_;refine iW hF rfl (λhc37=>?_) (λhc37=>?_)
 ·
  have hc37p:(fU (val ((ah a))) (val ((ah b))))<0:=by first|simpa using hc37|exact dK hc37|exact dJ hc37
  have hlt0:=wV.1 hc37p;refine aF ?_;refine aI ?_;refine pr hF (pm rfl <| PR.nil) ?_;clear hF fa;intro fa hF;refine st rfl (Ey (X:=X) (F:=[]) (So:=[]) (l:=us ([])) (m:=us ((ah a))) hF hS rfl TfR.sl26 TfR.el154 rfl rfl rfl (by simp) (OwV.nil 154) (hu6.ext (E9.trans E36)).cl (Uo _) (by simp;omega) (by simp;omega) ?_);intro v38 So39 w40 hO41 hS E42 hun43;refine qY ?_;clear hF fa;intro fa hF;clear hun43;rw[←EP]at hO41;simp only[vJ]at hO41;replace E42:Ext w34 X w40 (bl So39++X):=E42;replace hS:St w w40 So39:=hS;refine pr hF (pa rfl <| pa rfl <| PR.nil) ?_;clear hF fa;intro fa hF;refine ak ?_;refine xq ?_;refine Ry ?_;refine adk hF rfl (mJ hF rfl) (mJ hF rfl) ?_;exact⟨_,rfl,⟨[],(ah a),_,_,rfl,(UL.nil_ _ _),(UL.fin (UC.of_ow (F:=[]) hO41 hS hX) (rfl) (λ_ h=>h)),(Lb.nil),(hca.1),(by rw[hva];simp[val]),(by omega),(by unfold XT;rw[if_neg (by omega),if_pos (by omega)];rfl),(by unfold WE;rw[if_neg (by omega),if_pos (by omega)])⟩,hS.below⟩
 have hc37p:¬((fU (val ((ah a))) (val ((ah b))))<0):=by first|simpa using hc37|exact dK hc37|exact dJ hc37
 have hle0:val (ah b)≤val (ah a):=by have:=mt wV.2 hc37p;omega
 have hlen:=D9 hca hcb hle0;have hbtop:=hcb.1.getD ((ah b).length-1);refine fM ?_;refine bY ?_;refine aF ?_;refine aI ?_;refine pr hF (pm rfl <| pg (λ_ hF=>kY TfR.sls26 (hF.ev rfl)) <| pa rfl <| PR.nil) ?_;clear hF fa;intro fa hF;refine ak ?_;refine aF ?_;refine aI ?_;refine pr hF (pm rfl <| pm rfl <| pg (λ_ hF=>fO (hF.ev rfl) (hF.ev rfl) jm) <| PR.nil) ?_;clear hF fa;intro fa hF;obtain⟨ad44,hA45,hq46⟩:=(hu12.ext E36).cl.at_ (kZ (l:=(ah b)) (i:=(ah b).length-1) (by omega));refine pr hF (pg (λ_ hF=>kV (j:=(ah b).length-1) TfR.sl26 (hF.ev rfl) hA45 (hF.ev rfl) (by omega) (by omega)) <| pg (λ_ hF=>gQ TfR.one154 (hF.ev rfl) hq46) <| pg (λ_ hF=>dO TfR.unds154 TfR.und152 (hF.ev rfl) (kQ (by omega))) <| pg (λ_ hF=>dF (hF.ev rfl) (hF.ev rfl) mO) <| pg (λ_ hF=>yR (hF.ev rfl) (hF.ev rfl) (by omega) (KR (x:=1000000000) (y:=((ah b).getD ((ah b).length-1) 0)+1) (by omega) (by omega) (by omega))) <| pg (λ_ hF=>dO TfR.unds152 TfR.und154 (hF.ev rfl) (E5 (by have:=RQ 1000000000 ((ah b).getD ((ah b).length-1) 0+1);omega))) <| pa rfl <| PR.nil) ?_;clear hF fa;intro fa hF;replace hF:Frm 179 fa [(0,(.slice (A4) ((ah a).length) (c5))),(1,(.slice (A10) ((ah b).length) (c11))),(4,(.slice (none) (0) (0))),(5,(.slice (none) (0) (0))),(23,(.bool (decide ((((ah b).length:Nat):Int)=1)))),(34,(.bool (decide ((fU (val ((ah a))) (val ((ah b))))<0)))),(6,(.int .i64 ((((ah b).length:Nat):Int)))),(7,(.int .u32 (((1000000000/(((ah b).getD ((ah b).length-1) 0)+1):Nat):Int))))]:=(hF.all ⟨rfl,rfl,rfl,rfl,rfl,rfl,rfl,rfl,trivial⟩)
 refine ak ?_;refine aF ?_;obtain⟨sc,hsc⟩:∃sc,sc=1000000000/((ah b).getD ((ah b).length-1) 0+1):=⟨_,rfl⟩
 rw[←hsc]at hF;have hscB:=Jb hcb rfl hbn hsc;refine aI ?_;refine pr hF (pm rfl <| pm rfl <| PR.nil) ?_;clear hF fa;intro fa hF;refine st rfl (NQ (X:=X) hF hS (hS.bnd hX) rfl TfR.sl26 TfR.el154 rfl rfl (WT (hF.ev (iT (b:=((sc:Nat):Int)) rfl (by omega)))) (G5 (x:=sc)) ?_);intro g47 w48 hg50 hS E49 hc51;refine qY ?_;clear hF fa;intro fa hF;have hu52:=UC.one (l:=[sc]) hc51 (by simp);have hC:=oZ (w:=w48) (X:=X) (a:=(ah a)) (b:=([sc])) (hS.bnd hX) ⟨_,((ah a).length),_,rfl,(rfl),(hu6.ext ((E9.trans E36).trans E49))⟩ ⟨_,(1),_,rfl,(rfl),hu52⟩ (by omega) (by simp) (hca.1) (Lb.cons hscB Lb.nil);refine st rfl (kP hF rfl TfR.body161 (args2 (hF.ev rfl) (hF.ev rfl)) hC ?_);clear hC;rintro _ w53 ⟨⟨o_56,⟨g57,rfl,hq58,hg59⟩,hp60,hp61,hp62⟩,hb54⟩;refine qY ?_;clear hF fa;intro fa hF;replace hS:=hS.push_new hb54 hq58 hg59;have E55:=Ext.push_new X hb54 hg59;simp[val]at hp61 hp62;have hol:=hp62;have hob:=hp60;have hu0:val (o_56++[0])=val a*sc:=by rw[QS,hp61,hva]
 refine st rfl (NQ (X:=(g57::X)) hF hS (hS.bnd hX) rfl TfR.sl26 TfR.el154 rfl rfl (WT (hF.ev (iT (b:=((0:Nat):Int)) rfl (by omega)))) (G5 (x:=0)) ?_);intro g63 w64 hg66 hS E65 hc67;refine qY ?_;clear hF fa;intro fa hF;have hu68:=UC.one (l:=[0]) hc67 (by simp);refine st rfl (Ey (X:=X) (F:=[]) (So:=[(g57,154,(us (o_56)).toArray)]) (l:=us (o_56)) (m:=us ([0])) hF hS rfl TfR.sl26 TfR.el154 rfl rfl rfl (by simp) (OwV.full 154 g57 (o_56) (o_56.length) (o_56.length) (by first|rfl|(simp;done)|omega) (by first|rfl|(simp;done)|omega) (by first|omega|(simp;omega))) hu68.cl (Uo _) (by simp;omega) (by simp;omega) ?_);intro v69 So70 w71 hO72 hS E73 hun74;refine qY ?_;clear hF fa;intro fa hF;clear hun74;rw[←EP]at hO72;replace E73:Ext w64 (g57::X) w71 (bl So70++X):=E73;replace hS:St w w71 So70:=hS;obtain⟨g75,c76,R77,hs81,hv78,hcl79,hcm80⟩:=OwV.settle hO72 (by simp);unfold maxLen at hcm80;subst hs81;subst hv78;have hs81_:(o_56++([0])).length=(ah a).length+2:=by simp;omega
 rw[hs81_]at hF hcl79;refine pr hF (pa rfl <| PR.nil) ?_;clear hF fa;intro fa hF;refine ak ?_;refine aF ?_;refine aI ?_;refine pr hF (pm rfl <| pm rfl <| PR.nil) ?_;clear hF fa;intro fa hF;refine st rfl (NQ (X:=(g75::X)) hF hS (hS.bnd hX) rfl TfR.sl26 TfR.el154 rfl rfl (WT (hF.ev (iT (b:=((sc:Nat):Int)) rfl (by omega)))) (G5 (x:=sc)) ?_);intro g82 w83 hg85 hS E84 hc86;refine qY ?_;clear hF fa;intro fa hF;have hu87:=UC.one (l:=[sc]) hc86 (by simp);have hC:=oZ (w:=w83) (X:=(g75::X)) (a:=(ah b)) (b:=([sc])) (hS.bnd hX) ⟨_,((ah b).length),_,rfl,(rfl),(hu12.ext (((((E36.trans E49).trans E55).trans E65).trans E73).trans E84))⟩ ⟨_,(1),_,rfl,(rfl),hu87⟩ (by omega) (by simp) (hcb.1) (Lb.cons hscB Lb.nil);refine st rfl (kP hF rfl TfR.body161 (args2 (hF.ev rfl) (hF.ev rfl)) hC ?_);clear hC;rintro _ w88 ⟨⟨o_91,⟨g92,rfl,hq93,hg94⟩,hp95,hp96,hp97⟩,hb89⟩;refine qY ?_;clear hF fa;intro fa hF;replace hS:=hS.push_new hb89 hq93 hg94;have E90:=Ext.push_new (g75::X) hb89 hg94;simp[val]at hp96 hp97;have hcv:=eX hp95;obtain⟨hsc0,_,hvn,hvtop,hvP⟩:=EG (v:=ah o_91) hcb rfl hbn hsc hcv (by rw[dZ,hp96]);have hvb:=hcv.1;have hvL:=λi=>hvb.getD i
 have hV:val (ah o_91)=val b*sc:=by rw[dZ,hp96,hvb0]
 have hVM:val (ah o_91)≤1000000000^((ah b).length+1):=by have h0:=fF _ hvb;rw[hvn]at h0;have:=Ik (n:=1000000000) (by omega) (show(ah b).length≤(ah b).length+1 by omega);omega
 obtain⟨hS1,hn1⟩:=hS.out hX 0 rfl;have hu98:=UC.of_box (L:=o_91) (hS.get 0 rfl) hn1 (by first|omega|(simp;omega));have E99:Ext w88 (g92 ::(g75::X)) w88 (g75::X):=Ext.drop (by simp +contextual);replace hu98:UC w88 (g75::X) (some ⟨g92,0,none⟩) (o_91).length (o_91):=hu98;replace hS:St w w88 [(g75,154,(us (o_56++([0]))++R77).toArray)]:=hS1;clear hn1;have hC:=jI (w:=w88) (X:=(g75::X)) (l:=o_91) (hS.bnd hX) (UL.cap (n:=o_91.length) (c:=o_91.length) hu98 (by first|rfl|(simp;done)|omega) (by first|rfl|(simp;done)|omega));refine st rfl (kP hF rfl TfR.body230 (args1 (hF.ev rfl)) hC ?_);clear hC;rintro _ w100 ⟨⟨A103,_,c104,rfl,rfl,hu105⟩,hb101⟩;refine qY ?_;clear hF fa;intro fa hF;replace hS:=hS.call hb101;have E102:=Ext.call (g75::X) hb101;refine pr hF (pa rfl <| PR.nil) ?_;clear hF fa;intro fa hF;refine ak ?_;refine aF ?_;refine aI ?_;refine pr hF (pm rfl <| pg (λ_ hF=>kY TfR.sls26 (hF.ev rfl)) <| pm rfl <| pg (λ_ hF=>fO (hF.ev rfl) (hF.ev rfl) jm) <| PR.nil) ?_;clear hF fa;intro fa hF;refine st rfl (OA (X:=(g75::X)) (nl:=((ah a).length+2)-((ah b).length)) (nc:=((ah a).length+2)-((ah b).length)) hF hS rfl TfR.sl26 TfR.el154 rfl rfl (by omega) (by omega) (by omega) (by omega) (by omega) (Hw _) ?_);intro g106 w107 hg109 hS E108;refine qY ?_;clear hF fa;intro fa hF;rw[Nat.mul_one]at hS;refine pr hF (pa rfl <| PR.nil) ?_;clear hF fa;intro fa hF;replace hF:Frm 179 fa [(0,(.slice (A4) ((ah a).length) (c5))),(1,(.slice (A10) ((ah b).length) (c11))),(4,(.slice (none) (0) (0))),(5,(.slice (none) (0) (0))),(23,(.bool (decide ((((ah b).length:Nat):Int)=1)))),(34,(.bool (decide ((fU (val ((ah a))) (val ((ah b))))<0)))),(6,(.int .i64 ((((ah b).length:Nat):Int)))),(7,(.int .u32 (((sc:Nat):Int)))),(8,(.slice (some ⟨g75,0,none⟩) ((ah a).length+2) (c76))),(9,(.slice (A103) ((ah o_91).length) (c104))),(10,(.slice (some ⟨g106,0,none⟩) (((ah a).length+2)-((ah b).length)) (((ah a).length+2)-((ah b).length))))]:=(hF.all ⟨rfl,rfl,rfl,rfl,rfl,rfl,rfl,rfl,rfl,rfl,rfl,trivial⟩)
 refine ak ?_;refine aF ?_;refine aF ?_;refine aI ?_;refine pr hF (pm rfl <| pg (λ_ hF=>kY TfR.sls26 (hF.ev rfl)) <| pm rfl <| pg (λ_ hF=>fO (hF.ev rfl) (hF.ev rfl) jm) <| pg (λ_ hF=>fO (hF.ev rfl) (hF.ev rfl) jm) <| pa rfl <| PR.nil) ?_;clear hF fa;intro fa hF;refine ak ?_;refine fZ ?_;refine sJ (λmu fa w'=>∃U:List Nat,∃Q:List Nat,∃j:Nat,Frm 179 fa [(0,(.slice (A4) ((ah a).length) (c5))),(1,(.slice (A10) ((ah b).length) (c11))),(4,(.slice (none) (0) (0))),(5,(.slice (none) (0) (0))),(23,(.bool (decide ((((ah b).length:Nat):Int)=1)))),(34,(.bool (decide ((fU (val ((ah a))) (val ((ah b))))<0)))),(6,(.int .i64 ((((ah b).length:Nat):Int)))),(7,(.int .u32 (((sc:Nat):Int)))),(8,(.slice (some ⟨g75,0,none⟩) ((ah a).length+2) (c76))),(9,(.slice (A103) ((ah o_91).length) (c104))),(10,(.slice (some ⟨g106,0,none⟩) (((ah a).length+2)-((ah b).length)) (((ah a).length+2)-((ah b).length)))),(11,(.int .i64 (((j:Nat):Int)-1)))]∧St w w' [(g106,154,(us (Q)).toArray),(g75,154,(us (U)++R77).toArray)]∧Ext w107 (g106 ::(g75::X)) w' (g106 ::(g75::X))∧(j≤(ah a).length+2-(ah b).length)∧(U.length=(ah a).length+2)∧(Lb U)∧(Q.length=(ah a).length+2-(ah b).length)∧(Lb Q)∧(DivInv (val a*sc) (val (ah o_91)) U Q j)∧j=mu) ?_ ?_
 ·
  exact⟨_,o_56++([0]),List.replicate (((ah a).length+2)-((ah b).length)) 0,((ah a).length+2-(ah b).length),(hF.all ⟨rfl,rfl,rfl,rfl,rfl,rfl,rfl,rfl,rfl,rfl,rfl,(bV rfl (by omega)),trivial⟩),hS,Ext.refl _ _,(jE _),(by simp;omega),(qO hob (by omega)),(by simp),(jG _),(by rw[←hu0];exact DivInv.start (n:=(ah b).length) (by simp;omega) (by omega) (qO hob (by omega)) (by rw[show(ah a).length+2-(ah b).length+(ah b).length-1=_ from(show _=(_:List Nat).length by rw[hol];omega)];exact LC _) hvP),rfl⟩
 clear hF fa;intro n0_ fa w' hI;clear hS;obtain⟨U,Q,j,hF,hS,E111,hj,hUl,hbU,hQl,hbQ,hI,rfl⟩:=hI
 rename World=>w110
 refine aF ?_;refine aF ?_;refine aI ?_;refine pr hF (pm rfl <| pg (λ_ hF=>rU (hF.ev rfl) (hF.ev rfl)) <| PR.nil) ?_;clear hF fa;intro fa hF;refine ak ?_;refine iW hF rfl (λhc112=>?_) (λhc112=>?_)
 ·
  have hc112p:(((j:Nat):Int)-1)≥0:=by first|simpa using hc112|exact dK hc112|exact dJ hc112
  refine fM ?_;refine bY ?_;refine aF ?_;refine fZ ?_;refine aF ?_;have hdw:=hI.win (n:=(ah b).length) (by omega) (by omega) hvb hbU hvn;have htl:=ada hdw hn2 hvn hvb;have hua:=hbU.getD (j-1+(ah b).length);have hub:=hbU.getD (j-1+(ah b).length-1);have huc:=hbU.getD (j-1+(ah b).length-2);have hva1:=hvL ((ah b).length-1);have hva2:=hvL ((ah b).length-2)
  refine Gn (N:=179) (L0:=[(0,(.slice (A4) ((ah a).length) (c5))),(1,(.slice (A10) ((ah b).length) (c11))),(4,(.slice (none) (0) (0))),(5,(.slice (none) (0) (0))),(23,(.bool (decide ((((ah b).length:Nat):Int)=1)))),(34,(.bool (decide ((fU (val ((ah a))) (val ((ah b))))<0)))),(6,(.int .i64 ((((ah b).length:Nat):Int)))),(7,(.int .u32 (((sc:Nat):Int)))),(8,(.slice (some ⟨g75,0,none⟩) ((ah a).length+2) (c76))),(9,(.slice (A103) ((ah o_91).length) (c104))),(10,(.slice (some ⟨g106,0,none⟩) (((ah a).length+2)-((ah b).length)) (((ah a).length+2)-((ah b).length)))),(11,(.int .i64 (((j:Nat):Int)-1))),(70,(.bool (decide ((((j:Nat):Int)-1)≥0))))]) [some (.slice (some ⟨g75,0,none⟩) ((ah a).length+2) (c76)),some (.int .i64 (((j:Nat):Int)-1)),some (.int .i64 ((((ah b).length:Nat):Int))),some (.int .i64 ((((j:Nat):Int)-1)+(((ah b).length:Nat):Int))),some (.pointer (some ⟨g75,j-1+(ah b).length,none⟩)),some (.int .u32 (((U.getD (j-1+(ah b).length) 0:Nat):Int))),some (.int .u64 (((U.getD (j-1+(ah b).length) 0:Nat):Int))),some (.int .u64 (((U.getD (j-1+(ah b).length) 0:Nat):Int)*1000000000)),some (.slice (some ⟨g75,0,none⟩) ((ah a).length+2) (c76)),some (.int .i64 (((j:Nat):Int)-1)),some (.int .i64 ((((ah b).length:Nat):Int))),some (.int .i64 ((((j:Nat):Int)-1)+(((ah b).length:Nat):Int))),some (.int .i64 (((((j:Nat):Int)-1)+(((ah b).length:Nat):Int))-1)),some (.pointer (some ⟨g75,j-1+(ah b).length-1,none⟩)),some (.int .u32 (((U.getD (j-1+(ah b).length-1) 0:Nat):Int))),some (.int .u64 (((U.getD (j-1+(ah b).length-1) 0:Nat):Int))),some (.int .u64 ((((U.getD (j-1+(ah b).length) 0:Nat):Int)*1000000000)+((U.getD (j-1+(ah b).length-1) 0:Nat):Int))),some (.int .u64 ((((U.getD (j-1+(ah b).length) 0:Nat):Int)*1000000000)+((U.getD (j-1+(ah b).length-1) 0:Nat):Int)))] [] [[]] [[0],[0],[0],[0],[0],[0],[0],[0],[0],[0],[0],[0],[0],[0],[0],[0],[0],[0]] 0 [
   λfa w'=>Frm 179 fa []∧St w w' [(g106,154,(us (Q)).toArray),(g75,154,(us (U)++R77).toArray)]∧Ext w110 (g106 ::(g75::X)) w' (g106 ::(g75::X))
   ] TfR.mixed rfl rfl rfl rfl rfl rfl (hF.all ⟨rfl,rfl,rfl,rfl,rfl,rfl,rfl,rfl,rfl,rfl,rfl,rfl,rfl,trivial⟩) rfl ⟨hF.nil,hS.drew,Ext.drew _ _⟩ ?_ ?_ ?_
  all_goals clear hF fa
  ·
   refine⟨?_,trivial⟩
   ·
    rintro fa w' i o d v ho hd hna ⟨hA,hR⟩;exact⟨hA.put_other v (oP (acts:=[]) rfl ho hd hna),hR⟩
  ·
   refine⟨?_, ?_, ?_, ?_, ?_, ?_, ?_, ?_, ?_, ?_, ?_, ?_, ?_, ?_, ?_, ?_, ?_, ?_,trivial⟩
   ·
    refine .inl ⟨rfl,_,_,rfl,rfl,λs fa w' hΦ hF hB K hK=>?_⟩;exact bD rfl rfl rfl (bM (hF.ev rfl)) hK
   ·
    refine .inl ⟨rfl,_,_,rfl,rfl,λs fa w' hΦ hF hB K hK=>?_⟩;exact bD rfl rfl rfl (bM (hF.ev rfl)) hK
   ·
    refine .inl ⟨rfl,_,_,rfl,rfl,λs fa w' hΦ hF hB K hK=>?_⟩;exact bD rfl rfl rfl (bM (hF.ev rfl)) hK
   ·
    refine .inl ⟨rfl,_,_,rfl,rfl,λs fa w' hΦ hF hB K hK=>?_⟩;replace hF:=hF.cons (hB.val 1 _ 74 _ rfl rfl rfl rfl);replace hF:=hF.cons (hB.val 2 _ 75 _ rfl rfl rfl rfl);exact bD rfl rfl rfl (dF (hF.ev rfl) (hF.ev rfl) jm) hK
   ·
    refine .inl ⟨rfl,_,_,rfl,rfl,λs fa w' hΦ hF hB K hK=>?_⟩;replace hF:=hF.cons (hB.val 0 _ 73 _ rfl rfl rfl rfl);replace hF:=hF.cons (hB.val 3 _ 76 _ rfl rfl rfl rfl);exact bD rfl rfl rfl (nY (j:=j-1+(ah b).length) TfR.sl26 (hF.ev rfl) (hF.ev rfl) (by omega) (by omega)) hK
   ·
    refine .inr (.inl ⟨rfl,_,_,rfl,rfl, ?_,trivial⟩)
    ·
     intro fa w' hΦ hF hB K hK;obtain⟨hA,hS,E_w'⟩:=hΦ;replace hF:=hF.cons (hB.val 4 _ 77 _ rfl rfl rfl rfl);exact bD rfl rfl rfl (ig TfR.one154 (hF.ev rfl) (hS.get 1 rfl) (tV (by first|omega|(simp;omega)))) hK
   ·
    refine .inl ⟨rfl,_,_,rfl,rfl,λs fa w' hΦ hF hB K hK=>?_⟩;replace hF:=hF.cons (hB.val 5 _ 78 _ rfl rfl rfl rfl);exact bD rfl rfl rfl (dO TfR.unds154 TfR.und152 (hF.ev rfl) (kQ (by omega))) hK
   ·
    refine .inl ⟨rfl,_,_,rfl,rfl,λs fa w' hΦ hF hB K hK=>?_⟩;replace hF:=hF.cons (hB.val 6 _ 79 _ rfl rfl rfl rfl);exact bD rfl rfl rfl (y5 (hF.ev rfl) (hF.ev rfl) mO) hK
   ·
    refine .inl ⟨rfl,_,_,rfl,rfl,λs fa w' hΦ hF hB K hK=>?_⟩;exact bD rfl rfl rfl (bM (hF.ev rfl)) hK
   ·
    refine .inl ⟨rfl,_,_,rfl,rfl,λs fa w' hΦ hF hB K hK=>?_⟩;exact bD rfl rfl rfl (bM (hF.ev rfl)) hK
   ·
    refine .inl ⟨rfl,_,_,rfl,rfl,λs fa w' hΦ hF hB K hK=>?_⟩;exact bD rfl rfl rfl (bM (hF.ev rfl)) hK
   ·
    refine .inl ⟨rfl,_,_,rfl,rfl,λs fa w' hΦ hF hB K hK=>?_⟩;replace hF:=hF.cons (hB.val 9 _ 82 _ rfl rfl rfl rfl);replace hF:=hF.cons (hB.val 10 _ 83 _ rfl rfl rfl rfl);exact bD rfl rfl rfl (dF (hF.ev rfl) (hF.ev rfl) jm) hK
   ·
    refine .inl ⟨rfl,_,_,rfl,rfl,λs fa w' hΦ hF hB K hK=>?_⟩;replace hF:=hF.cons (hB.val 11 _ 84 _ rfl rfl rfl rfl);exact bD rfl rfl rfl (fO (hF.ev rfl) (hF.ev rfl) jm) hK
   ·
    refine .inl ⟨rfl,_,_,rfl,rfl,λs fa w' hΦ hF hB K hK=>?_⟩;replace hF:=hF.cons (hB.val 8 _ 81 _ rfl rfl rfl rfl);replace hF:=hF.cons (hB.val 12 _ 85 _ rfl rfl rfl rfl);exact bD rfl rfl rfl (nY (j:=j-1+(ah b).length-1) TfR.sl26 (hF.ev rfl) (hF.ev rfl) (by omega) (by omega)) hK
   ·
    refine .inr (.inl ⟨rfl,_,_,rfl,rfl, ?_,trivial⟩)
    ·
     intro fa w' hΦ hF hB K hK;obtain⟨hA,hS,E_w'⟩:=hΦ;replace hF:=hF.cons (hB.val 13 _ 86 _ rfl rfl rfl rfl);exact bD rfl rfl rfl (ig TfR.one154 (hF.ev rfl) (hS.get 1 rfl) (tV (by first|omega|(simp;omega)))) hK
   ·
    refine .inl ⟨rfl,_,_,rfl,rfl,λs fa w' hΦ hF hB K hK=>?_⟩;replace hF:=hF.cons (hB.val 14 _ 87 _ rfl rfl rfl rfl);exact bD rfl rfl rfl (dO TfR.unds154 TfR.und152 (hF.ev rfl) (kQ (by omega))) hK
   ·
    refine .inl ⟨rfl,_,_,rfl,rfl,λs fa w' hΦ hF hB K hK=>?_⟩;replace hF:=hF.cons (hB.val 7 _ 80 _ rfl rfl rfl rfl);replace hF:=hF.cons (hB.val 15 _ 88 _ rfl rfl rfl rfl);exact bD rfl rfl rfl (dF (hF.ev rfl) (hF.ev rfl) mO) hK
   ·
    refine .inl ⟨rfl,_,_,rfl,rfl,λs fa w' hΦ hF hB K hK=>?_⟩;replace hF:=hF.cons (hB.val 16 _ 89 _ rfl rfl rfl rfl);exact bD rfl rfl rfl (jV (hF.ev rfl)) hK
  intro fa w113 hΦ hF hC;obtain⟨hA,hS,E_w113⟩:=hΦ;replace hF:=hF.cons (hC 17 _ 12 _ rfl rfl rfl);clear hA hC;refine bY ?_;refine aF ?_;obtain⟨ad_94,hA_94,hq_94⟩:=(hu105.ext ((E108.trans E111).trans E_w113)).cl.at2 (kZ (l:=(ah o_91)) (i:=(ah b).length-1) (by omega));obtain⟨ad_102,hA_102,hq_102⟩:=(hu105.ext ((E108.trans E111).trans E_w113)).cl.at2 (kZ (l:=(ah o_91)) (i:=(ah b).length-1) (by omega))
  refine Gn (N:=179) (L0:=[(0,(.slice (A4) ((ah a).length) (c5))),(1,(.slice (A10) ((ah b).length) (c11))),(4,(.slice (none) (0) (0))),(5,(.slice (none) (0) (0))),(23,(.bool (decide ((((ah b).length:Nat):Int)=1)))),(34,(.bool (decide ((fU (val ((ah a))) (val ((ah b))))<0)))),(6,(.int .i64 ((((ah b).length:Nat):Int)))),(7,(.int .u32 (((sc:Nat):Int)))),(8,(.slice (some ⟨g75,0,none⟩) ((ah a).length+2) (c76))),(9,(.slice (A103) ((ah o_91).length) (c104))),(10,(.slice (some ⟨g106,0,none⟩) (((ah a).length+2)-((ah b).length)) (((ah a).length+2)-((ah b).length)))),(11,(.int .i64 (((j:Nat):Int)-1))),(70,(.bool (decide ((((j:Nat):Int)-1)≥0)))),(12,(.int .u64 ((((U.getD (j-1+(ah b).length) 0:Nat):Int)*1000000000)+((U.getD (j-1+(ah b).length-1) 0:Nat):Int))))]) [some (.int .u64 ((((U.getD (j-1+(ah b).length) 0:Nat):Int)*1000000000)+((U.getD (j-1+(ah b).length-1) 0:Nat):Int))),some (.slice (A103) ((ah o_91).length) (c104)),some (.int .i64 ((((ah b).length:Nat):Int))),some (.int .i64 ((((ah b).length:Nat):Int)-1)),some (.pointer (some (ad_94.add ((ah b).length-1)))),some (.int .u32 ((((ah o_91).getD ((ah b).length-1) 0:Nat):Int))),some (.int .u64 ((((ah o_91).getD ((ah b).length-1) 0:Nat):Int))),some (.int .u64 ((((((U.getD (j-1+(ah b).length) 0)*1000000000)+(U.getD (j-1+(ah b).length-1) 0))/((ah o_91).getD ((ah b).length-1) 0):Nat):Int))),some (.int .u64 ((((U.getD (j-1+(ah b).length) 0:Nat):Int)*1000000000)+((U.getD (j-1+(ah b).length-1) 0:Nat):Int))),some (.slice (A103) ((ah o_91).length) (c104)),some (.int .i64 ((((ah b).length:Nat):Int))),some (.int .i64 ((((ah b).length:Nat):Int)-1)),some (.pointer (some (ad_102.add ((ah b).length-1)))),some (.int .u32 ((((ah o_91).getD ((ah b).length-1) 0:Nat):Int))),some (.int .u64 ((((ah o_91).getD ((ah b).length-1) 0:Nat):Int))),some (.int .u64 ((((((U.getD (j-1+(ah b).length) 0)*1000000000)+(U.getD (j-1+(ah b).length-1) 0))%((ah o_91).getD ((ah b).length-1) 0):Nat):Int))),some (.int .u64 ((((((U.getD (j-1+(ah b).length) 0)*1000000000)+(U.getD (j-1+(ah b).length-1) 0))/((ah o_91).getD ((ah b).length-1) 0):Nat):Int))),some (.int .u64 ((((((U.getD (j-1+(ah b).length) 0)*1000000000)+(U.getD (j-1+(ah b).length-1) 0))%((ah o_91).getD ((ah b).length-1) 0):Nat):Int)))] [] [[]] [[0],[0],[0],[0],[0],[0],[0],[0],[0],[0],[0],[0],[0],[0],[0],[0],[0],[0]] 0 [
   λfa w'=>Frm 179 fa []∧St w w' [(g106,154,(us (Q)).toArray),(g75,154,(us (U)++R77).toArray)]∧Ext w113 (g106 ::(g75::X)) w' (g106 ::(g75::X))
   ] TfR.mixed rfl rfl rfl rfl rfl rfl (hF.all ⟨rfl,rfl,rfl,rfl,rfl,rfl,rfl,rfl,rfl,rfl,rfl,rfl,rfl,rfl,trivial⟩) rfl ⟨hF.nil,hS.drew,Ext.drew _ _⟩ ?_ ?_ ?_
  all_goals clear hF fa
  ·
   refine⟨?_,trivial⟩
   ·
    rintro fa w' i o d v ho hd hna ⟨hA,hR⟩;exact⟨hA.put_other v (oP (acts:=[]) rfl ho hd hna),hR⟩
  ·
   refine⟨?_, ?_, ?_, ?_, ?_, ?_, ?_, ?_, ?_, ?_, ?_, ?_, ?_, ?_, ?_, ?_, ?_, ?_,trivial⟩
   ·
    refine .inl ⟨rfl,_,_,rfl,rfl,λs fa w' hΦ hF hB K hK=>?_⟩;exact bD rfl rfl rfl (bM (hF.ev rfl)) hK
   ·
    refine .inl ⟨rfl,_,_,rfl,rfl,λs fa w' hΦ hF hB K hK=>?_⟩;exact bD rfl rfl rfl (bM (hF.ev rfl)) hK
   ·
    refine .inl ⟨rfl,_,_,rfl,rfl,λs fa w' hΦ hF hB K hK=>?_⟩;exact bD rfl rfl rfl (bM (hF.ev rfl)) hK
   ·
    refine .inl ⟨rfl,_,_,rfl,rfl,λs fa w' hΦ hF hB K hK=>?_⟩;replace hF:=hF.cons (hB.val 2 _ 92 _ rfl rfl rfl rfl);exact bD rfl rfl rfl (fO (hF.ev rfl) (hF.ev rfl) jm) hK
   ·
    refine .inl ⟨rfl,_,_,rfl,rfl,λs fa w' hΦ hF hB K hK=>?_⟩;replace hF:=hF.cons (hB.val 1 _ 91 _ rfl rfl rfl rfl);replace hF:=hF.cons (hB.val 3 _ 93 _ rfl rfl rfl rfl);exact bD rfl rfl rfl (kV (j:=(ah b).length-1) TfR.sl26 (hF.ev rfl) hA_94 (hF.ev rfl) (by omega) (by omega)) hK
   ·
    refine .inr (.inl ⟨rfl,_,_,rfl,rfl, ?_,trivial⟩)
    ·
     intro fa w' hΦ hF hB K hK;obtain⟨hA,hS,E_w'⟩:=hΦ;replace hF:=hF.cons (hB.val 4 _ 94 _ rfl rfl rfl rfl);exact bD rfl rfl rfl (gQ TfR.one154 (hF.ev rfl) (hq_94 E_w')) hK
   ·
    refine .inl ⟨rfl,_,_,rfl,rfl,λs fa w' hΦ hF hB K hK=>?_⟩;replace hF:=hF.cons (hB.val 5 _ 95 _ rfl rfl rfl rfl);exact bD rfl rfl rfl (dO TfR.unds154 TfR.und152 (hF.ev rfl) (kQ (by omega))) hK
   ·
    refine .inl ⟨rfl,_,_,rfl,rfl,λs fa w' hΦ hF hB K hK=>?_⟩;replace hF:=hF.cons (hB.val 0 _ 90 _ rfl rfl rfl rfl);replace hF:=hF.cons (hB.val 6 _ 96 _ rfl rfl rfl rfl);exact bD rfl rfl rfl (yR (hF.ev rfl) (hF.ev rfl) (by omega) (KR (x:=((U.getD (j-1+(ah b).length) 0)*1000000000)+(U.getD (j-1+(ah b).length-1) 0)) (y:=(ah o_91).getD ((ah b).length-1) 0) (by omega) (by omega) (by omega))) hK
   ·
    refine .inl ⟨rfl,_,_,rfl,rfl,λs fa w' hΦ hF hB K hK=>?_⟩;exact bD rfl rfl rfl (bM (hF.ev rfl)) hK
   ·
    refine .inl ⟨rfl,_,_,rfl,rfl,λs fa w' hΦ hF hB K hK=>?_⟩;exact bD rfl rfl rfl (bM (hF.ev rfl)) hK
   ·
    refine .inl ⟨rfl,_,_,rfl,rfl,λs fa w' hΦ hF hB K hK=>?_⟩;exact bD rfl rfl rfl (bM (hF.ev rfl)) hK
   ·
    refine .inl ⟨rfl,_,_,rfl,rfl,λs fa w' hΦ hF hB K hK=>?_⟩;replace hF:=hF.cons (hB.val 10 _ 100 _ rfl rfl rfl rfl);exact bD rfl rfl rfl (fO (hF.ev rfl) (hF.ev rfl) jm) hK
   ·
    refine .inl ⟨rfl,_,_,rfl,rfl,λs fa w' hΦ hF hB K hK=>?_⟩;replace hF:=hF.cons (hB.val 9 _ 99 _ rfl rfl rfl rfl);replace hF:=hF.cons (hB.val 11 _ 101 _ rfl rfl rfl rfl);exact bD rfl rfl rfl (kV (j:=(ah b).length-1) TfR.sl26 (hF.ev rfl) hA_102 (hF.ev rfl) (by omega) (by omega)) hK
   ·
    refine .inr (.inl ⟨rfl,_,_,rfl,rfl, ?_,trivial⟩)
    ·
     intro fa w' hΦ hF hB K hK;obtain⟨hA,hS,E_w'⟩:=hΦ;replace hF:=hF.cons (hB.val 12 _ 102 _ rfl rfl rfl rfl);exact bD rfl rfl rfl (gQ TfR.one154 (hF.ev rfl) (hq_102 E_w')) hK
   ·
    refine .inl ⟨rfl,_,_,rfl,rfl,λs fa w' hΦ hF hB K hK=>?_⟩;replace hF:=hF.cons (hB.val 13 _ 103 _ rfl rfl rfl rfl);exact bD rfl rfl rfl (dO TfR.unds154 TfR.und152 (hF.ev rfl) (kQ (by omega))) hK
   ·
    refine .inl ⟨rfl,_,_,rfl,rfl,λs fa w' hΦ hF hB K hK=>?_⟩;replace hF:=hF.cons (hB.val 8 _ 98 _ rfl rfl rfl rfl);replace hF:=hF.cons (hB.val 14 _ 104 _ rfl rfl rfl rfl);exact bD rfl rfl rfl (BL (hF.ev rfl) (hF.ev rfl) (by omega) (PO (x:=((U.getD (j-1+(ah b).length) 0)*1000000000)+(U.getD (j-1+(ah b).length-1) 0)) (y:=(ah o_91).getD ((ah b).length-1) 0) (by omega) (by omega))) hK
   ·
    refine .inl ⟨rfl,_,_,rfl,rfl,λs fa w' hΦ hF hB K hK=>?_⟩;replace hF:=hF.cons (hB.val 7 _ 97 _ rfl rfl rfl rfl);exact bD rfl rfl rfl (jV (hF.ev rfl)) hK
   ·
    refine .inl ⟨rfl,_,_,rfl,rfl,λs fa w' hΦ hF hB K hK=>?_⟩;replace hF:=hF.cons (hB.val 15 _ 105 _ rfl rfl rfl rfl);exact bD rfl rfl rfl (jV (hF.ev rfl)) hK
  intro fa w114 hΦ hF hC;obtain⟨hA,hS,E_w114⟩:=hΦ;replace hF:=hF.cons (hC 16 _ 13 _ rfl rfl rfl);replace hF:=hF.cons (hC 17 _ 14 _ rfl rfl rfl);clear hA hC;refine bY ?_;refine KJ (λfa w'=>∃gs:Nat,Frm 179 fa [(0,(.slice (A4) ((ah a).length) (c5))),(1,(.slice (A10) ((ah b).length) (c11))),(4,(.slice (none) (0) (0))),(5,(.slice (none) (0) (0))),(23,(.bool (decide ((((ah b).length:Nat):Int)=1)))),(34,(.bool (decide ((fU (val ((ah a))) (val ((ah b))))<0)))),(6,(.int .i64 ((((ah b).length:Nat):Int)))),(7,(.int .u32 (((sc:Nat):Int)))),(8,(.slice (some ⟨g75,0,none⟩) ((ah a).length+2) (c76))),(9,(.slice (A103) ((ah o_91).length) (c104))),(10,(.slice (some ⟨g106,0,none⟩) (((ah a).length+2)-((ah b).length)) (((ah a).length+2)-((ah b).length)))),(11,(.int .i64 (((j:Nat):Int)-1))),(70,(.bool (decide ((((j:Nat):Int)-1)≥0)))),(12,(.int .u64 ((((U.getD (j-1+(ah b).length) 0:Nat):Int)*1000000000)+((U.getD (j-1+(ah b).length-1) 0:Nat):Int)))),(13,(.int .u64 (((gs:Nat):Int))))]∧St w w' [(g106,154,(us (Q)).toArray),(g75,154,(us (U)++R77).toArray)]∧Ext w114 (g106 ::(g75::X)) w' (g106 ::(g75::X))∧(gs<1000000000)∧(gs*val (ah o_91)≤val (win U (j-1) ((ah b).length+1))+val (ah o_91))∧(val (win U (j-1) ((ah b).length+1))<(gs+1)*val (ah o_91))) ?_ ?_
  ·
   refine fZ ?_;refine sJ (λmu fa w'=>∃g:Nat,∃r:Nat,Frm 179 fa [(0,(.slice (A4) ((ah a).length) (c5))),(1,(.slice (A10) ((ah b).length) (c11))),(4,(.slice (none) (0) (0))),(5,(.slice (none) (0) (0))),(23,(.bool (decide ((((ah b).length:Nat):Int)=1)))),(34,(.bool (decide ((fU (val ((ah a))) (val ((ah b))))<0)))),(6,(.int .i64 ((((ah b).length:Nat):Int)))),(7,(.int .u32 (((sc:Nat):Int)))),(8,(.slice (some ⟨g75,0,none⟩) ((ah a).length+2) (c76))),(9,(.slice (A103) ((ah o_91).length) (c104))),(10,(.slice (some ⟨g106,0,none⟩) (((ah a).length+2)-((ah b).length)) (((ah a).length+2)-((ah b).length)))),(11,(.int .i64 (((j:Nat):Int)-1))),(70,(.bool (decide ((((j:Nat):Int)-1)≥0)))),(12,(.int .u64 ((((U.getD (j-1+(ah b).length) 0:Nat):Int)*1000000000)+((U.getD (j-1+(ah b).length-1) 0:Nat):Int)))),(13,(.int .u64 (((g:Nat):Int)))),(14,(.int .u64 (((r:Nat):Int))))]∧St w w' [(g106,154,(us (Q)).toArray),(g75,154,(us (U)++R77).toArray)]∧Ext w114 (g106 ::(g75::X)) w' (g106 ::(g75::X))∧(g*(ah o_91).getD ((ah b).length-1) 0+r=U.getD (j-1+(ah b).length) 0*1000000000+U.getD (j-1+(ah b).length-1) 0)∧(r<1000000000)∧(g≤1000000001)∧(val (win U (j-1) ((ah b).length+1))<(g+1)*val (ah o_91))∧g=mu) ?_ ?_
   ·
    exact⟨_,(((U.getD (j-1+(ah b).length) 0)*1000000000)+(U.getD (j-1+(ah b).length-1) 0))/((ah o_91).getD ((ah b).length-1) 0),(((U.getD (j-1+(ah b).length) 0)*1000000000)+(U.getD (j-1+(ah b).length-1) 0))%((ah o_91).getD ((ah b).length-1) 0),(hF.all ⟨rfl,rfl,rfl,rfl,rfl,rfl,rfl,rfl,rfl,rfl,rfl,rfl,rfl,rfl,(bV rfl (by omega)),(bV rfl (by omega)),trivial⟩),hS,Ext.refl _ _,(by rw[Dy];exact Nat.div_add_mod _ _),(AX (xU _ (by omega)) (by omega)),((N8 hdw hn2 hvn hvb hbU hvtop rfl).2),((N8 hdw hn2 hvn hvb hbU hvtop rfl).1),rfl⟩
   clear hF fa;intro n1_ fa w' hI;clear hS;obtain⟨g,r,hF,hS,E118,hgr,hrb,hgb,hgw,rfl⟩:=hI
   rename World=>w117
   have hgm:g*(ah o_91).getD ((ah b).length-2) 0≤1000000001*999999999:=PD hgb (by have:=hvL ((ah b).length-2);omega);refine aF ?_;refine aF ?_;rcases Bool.eq_false_or_eq_true (decide (((g:Nat):Int)≥1000000000))with hk119|hk119
   ·
    have hk119p:=hk119;simp at hk119p;have hgB:=of_decide_eq_true hk119;have hgp:0<g:=by omega
    have hw1:=adi (g:=g) hdw (by omega)
    refine Gn (N:=179) (L0:=[(0,(.slice (A4) ((ah a).length) (c5))),(1,(.slice (A10) ((ah b).length) (c11))),(4,(.slice (none) (0) (0))),(5,(.slice (none) (0) (0))),(23,(.bool (decide ((((ah b).length:Nat):Int)=1)))),(34,(.bool (decide ((fU (val ((ah a))) (val ((ah b))))<0)))),(6,(.int .i64 ((((ah b).length:Nat):Int)))),(7,(.int .u32 (((sc:Nat):Int)))),(8,(.slice (some ⟨g75,0,none⟩) ((ah a).length+2) (c76))),(9,(.slice (A103) ((ah o_91).length) (c104))),(10,(.slice (some ⟨g106,0,none⟩) (((ah a).length+2)-((ah b).length)) (((ah a).length+2)-((ah b).length)))),(11,(.int .i64 (((j:Nat):Int)-1))),(70,(.bool (decide ((((j:Nat):Int)-1)≥0)))),(12,(.int .u64 ((((U.getD (j-1+(ah b).length) 0:Nat):Int)*1000000000)+((U.getD (j-1+(ah b).length-1) 0:Nat):Int)))),(13,(.int .u64 (((g:Nat):Int)))),(14,(.int .u64 (((r:Nat):Int))))]) [some (.int .u64 (((g:Nat):Int))),some (.bool (true)),some (.bool (true)),some undef,some undef,some undef,some undef,some undef,some undef,some undef,some undef,some undef,some undef,some undef,some undef,some undef,some undef,some undef,some undef,some undef,some undef,some undef,some undef,some (.bool (true))] [] [[]] [[0],[0],[0],[0],[0],[0],[0],[0],[0],[0],[0],[0],[0],[0],[0],[0],[0],[0],[0],[0],[0],[0],[0],[0]] 0 [
     λfa w'=>Frm 179 fa []∧St w w' [(g106,154,(us (Q)).toArray),(g75,154,(us (U)++R77).toArray)]∧Ext w117 (g106 ::(g75::X)) w' (g106 ::(g75::X))
     ] TfR.mixed rfl rfl rfl rfl rfl rfl (hF.all ⟨rfl,rfl,rfl,rfl,rfl,rfl,rfl,rfl,rfl,rfl,rfl,rfl,rfl,rfl,rfl,rfl,trivial⟩) rfl ⟨hF.nil,hS.drew,Ext.drew _ _⟩ ?_ ?_ ?_
    all_goals clear hF fa
    ·
     refine⟨?_,trivial⟩
     ·
      rintro fa w' i o d v ho hd hna ⟨hA,hR⟩;exact⟨hA.put_other v (oP (acts:=[]) rfl ho hd hna),hR⟩
    ·
     refine⟨?_, ?_, ?_, ?_, ?_, ?_, ?_, ?_, ?_, ?_, ?_, ?_, ?_, ?_, ?_, ?_, ?_, ?_, ?_, ?_, ?_, ?_, ?_, ?_,trivial⟩
     ·
      refine .inl ⟨rfl,_,_,rfl,rfl,λs fa w' hΦ hF hB K hK=>?_⟩;exact bD rfl rfl rfl (bM (hF.ev rfl)) hK
     ·
      refine .inl ⟨rfl,_,_,rfl,rfl,λs fa w' hΦ hF hB K hK=>?_⟩;replace hF:=hF.cons (hB.val 0 _ 106 _ rfl rfl rfl rfl);exact bD rfl rfl rfl (afv hk119 (rU (hF.ev rfl) (hF.ev rfl))) hK
     ·
      refine .inl ⟨rfl,_,_,rfl,rfl,λs fa w' hΦ hF hB K hK=>?_⟩;replace hF:=hF.cons (hB.val 1 _ 107 _ rfl rfl rfl rfl);exact bD rfl rfl rfl (bM (hF.ev rfl)) hK
     ·
      refine .inl ⟨rfl,_,_,rfl,rfl,λs fa w' hΦ hF hB K hK=>?_⟩;replace hF:=hF.cons (hB.val 2 _ 108 _ rfl rfl rfl rfl);exact eY hF rfl rfl rfl rfl rfl hK
     ·
      refine .inl ⟨rfl,_,_,rfl,rfl,λs fa w' hΦ hF hB K hK=>?_⟩;replace hF:=hF.cons (hB.val 2 _ 108 _ rfl rfl rfl rfl);exact eY hF rfl rfl rfl rfl rfl hK
     ·
      refine .inl ⟨rfl,_,_,rfl,rfl,λs fa w' hΦ hF hB K hK=>?_⟩;replace hF:=hF.cons (hB.val 2 _ 108 _ rfl rfl rfl rfl);exact eY hF rfl rfl rfl rfl rfl hK
     ·
      refine .inl ⟨rfl,_,_,rfl,rfl,λs fa w' hΦ hF hB K hK=>?_⟩;replace hF:=hF.cons (hB.val 5 _ 111 _ rfl rfl rfl rfl);replace hF:=hF.cons (hB.val 2 _ 108 _ rfl rfl rfl rfl);exact eY hF rfl rfl rfl rfl rfl hK
     ·
      refine .inl ⟨rfl,_,_,rfl,rfl,λs fa w' hΦ hF hB K hK=>?_⟩;replace hF:=hF.cons (hB.val 4 _ 110 _ rfl rfl rfl rfl);replace hF:=hF.cons (hB.val 6 _ 112 _ rfl rfl rfl rfl);replace hF:=hF.cons (hB.val 2 _ 108 _ rfl rfl rfl rfl);exact eY hF rfl rfl rfl rfl rfl hK
     ·
      refine .inl ⟨rfl,_,_,rfl,rfl,λs fa w' hΦ hF hB K hK=>?_⟩;replace hF:=hF.cons (hB.val 7 _ 113 _ rfl rfl rfl rfl);replace hF:=hF.cons (hB.val 2 _ 108 _ rfl rfl rfl rfl);exact eY hF rfl rfl rfl rfl rfl hK
     ·
      refine .inl ⟨rfl,_,_,rfl,rfl,λs fa w' hΦ hF hB K hK=>?_⟩;replace hF:=hF.cons (hB.val 8 _ 114 _ rfl rfl rfl rfl);replace hF:=hF.cons (hB.val 2 _ 108 _ rfl rfl rfl rfl);exact eY hF rfl rfl rfl rfl rfl hK
     ·
      refine .inl ⟨rfl,_,_,rfl,rfl,λs fa w' hΦ hF hB K hK=>?_⟩;replace hF:=hF.cons (hB.val 3 _ 109 _ rfl rfl rfl rfl);replace hF:=hF.cons (hB.val 9 _ 115 _ rfl rfl rfl rfl);replace hF:=hF.cons (hB.val 2 _ 108 _ rfl rfl rfl rfl);exact eY hF rfl rfl rfl rfl rfl hK
     ·
      refine .inl ⟨rfl,_,_,rfl,rfl,λs fa w' hΦ hF hB K hK=>?_⟩;replace hF:=hF.cons (hB.val 2 _ 108 _ rfl rfl rfl rfl);exact eY hF rfl rfl rfl rfl rfl hK
     ·
      refine .inl ⟨rfl,_,_,rfl,rfl,λs fa w' hΦ hF hB K hK=>?_⟩;replace hF:=hF.cons (hB.val 11 _ 117 _ rfl rfl rfl rfl);replace hF:=hF.cons (hB.val 2 _ 108 _ rfl rfl rfl rfl);exact eY hF rfl rfl rfl rfl rfl hK
     ·
      refine .inl ⟨rfl,_,_,rfl,rfl,λs fa w' hΦ hF hB K hK=>?_⟩;replace hF:=hF.cons (hB.val 2 _ 108 _ rfl rfl rfl rfl);exact eY hF rfl rfl rfl rfl rfl hK
     ·
      refine .inl ⟨rfl,_,_,rfl,rfl,λs fa w' hΦ hF hB K hK=>?_⟩;replace hF:=hF.cons (hB.val 2 _ 108 _ rfl rfl rfl rfl);exact eY hF rfl rfl rfl rfl rfl hK
     ·
      refine .inl ⟨rfl,_,_,rfl,rfl,λs fa w' hΦ hF hB K hK=>?_⟩;replace hF:=hF.cons (hB.val 2 _ 108 _ rfl rfl rfl rfl);exact eY hF rfl rfl rfl rfl rfl hK
     ·
      refine .inl ⟨rfl,_,_,rfl,rfl,λs fa w' hΦ hF hB K hK=>?_⟩;replace hF:=hF.cons (hB.val 14 _ 120 _ rfl rfl rfl rfl);replace hF:=hF.cons (hB.val 15 _ 121 _ rfl rfl rfl rfl);replace hF:=hF.cons (hB.val 2 _ 108 _ rfl rfl rfl rfl);exact eY hF rfl rfl rfl rfl rfl hK
     ·
      refine .inl ⟨rfl,_,_,rfl,rfl,λs fa w' hΦ hF hB K hK=>?_⟩;replace hF:=hF.cons (hB.val 16 _ 122 _ rfl rfl rfl rfl);replace hF:=hF.cons (hB.val 2 _ 108 _ rfl rfl rfl rfl);exact eY hF rfl rfl rfl rfl rfl hK
     ·
      refine .inl ⟨rfl,_,_,rfl,rfl,λs fa w' hΦ hF hB K hK=>?_⟩;replace hF:=hF.cons (hB.val 13 _ 119 _ rfl rfl rfl rfl);replace hF:=hF.cons (hB.val 17 _ 123 _ rfl rfl rfl rfl);replace hF:=hF.cons (hB.val 2 _ 108 _ rfl rfl rfl rfl);exact eY hF rfl rfl rfl rfl rfl hK
     ·
      refine .inl ⟨rfl,_,_,rfl,rfl,λs fa w' hΦ hF hB K hK=>?_⟩;replace hF:=hF.cons (hB.val 18 _ 124 _ rfl rfl rfl rfl);replace hF:=hF.cons (hB.val 2 _ 108 _ rfl rfl rfl rfl);exact eY hF rfl rfl rfl rfl rfl hK
     ·
      refine .inl ⟨rfl,_,_,rfl,rfl,λs fa w' hΦ hF hB K hK=>?_⟩;replace hF:=hF.cons (hB.val 19 _ 125 _ rfl rfl rfl rfl);replace hF:=hF.cons (hB.val 2 _ 108 _ rfl rfl rfl rfl);exact eY hF rfl rfl rfl rfl rfl hK
     ·
      refine .inl ⟨rfl,_,_,rfl,rfl,λs fa w' hΦ hF hB K hK=>?_⟩;replace hF:=hF.cons (hB.val 12 _ 118 _ rfl rfl rfl rfl);replace hF:=hF.cons (hB.val 20 _ 126 _ rfl rfl rfl rfl);replace hF:=hF.cons (hB.val 2 _ 108 _ rfl rfl rfl rfl);exact eY hF rfl rfl rfl rfl rfl hK
     ·
      refine .inl ⟨rfl,_,_,rfl,rfl,λs fa w' hΦ hF hB K hK=>?_⟩;replace hF:=hF.cons (hB.val 10 _ 116 _ rfl rfl rfl rfl);replace hF:=hF.cons (hB.val 21 _ 127 _ rfl rfl rfl rfl);replace hF:=hF.cons (hB.val 2 _ 108 _ rfl rfl rfl rfl);exact eY hF rfl rfl rfl rfl rfl hK
     ·
      refine .inl ⟨rfl,_,_,rfl,rfl,λs fa w' hΦ hF hB K hK=>?_⟩;replace hF:=hF.cons (hB.val 2 _ 108 _ rfl rfl rfl rfl);replace hF:=hF.cons (hB.val 22 _ 128 _ rfl rfl rfl rfl);exact bD rfl rfl rfl (xw (hF.ev rfl) (λ_=>hF.ev rfl) (v:=undef) (λh=>by cases h) rfl) hK
    intro fa w120 hΦ hF hC;obtain⟨hA,hS,E_w120⟩:=hΦ;replace hF:=hF.cons (hC 23 _ 129 _ rfl rfl rfl);clear hA hC;refine bY ?_;refine iW hF rfl (λhc=>?_) (λhc=>?_)
    rotate_left
    ·
     cases hc
    refine fM ?_;refine bY ?_;refine fZ ?_;refine aF ?_;refine aI ?_;refine pr hF (pm rfl <| pg (λ_ hF=>fO (hF.ev rfl) (hF.ev rfl) mO) <| pa rfl <| PR.nil) ?_;clear hF fa;intro fa hF;refine ak ?_;refine aF ?_;refine aI ?_;refine pr hF (pm rfl <| pm rfl <| pm rfl <| pg (λ_ hF=>fO (hF.ev rfl) (hF.ev rfl) jm) <| PR.nil) ?_;clear hF fa;intro fa hF;obtain⟨ad121,hA122,hq123⟩:=(hu105.ext (((((E108.trans E111).trans E_w113).trans E_w114).trans E118).trans E_w120)).cl.at_ (kZ (l:=(ah o_91)) (i:=(ah b).length-1) (by omega));refine pr hF (pg (λ_ hF=>kV (j:=(ah b).length-1) TfR.sl26 (hF.ev rfl) hA122 (hF.ev rfl) (by omega) (by omega)) <| pg (λ_ hF=>gQ TfR.one154 (hF.ev rfl) hq123) <| pg (λ_ hF=>dO TfR.unds154 TfR.und152 (hF.ev rfl) (kQ (by omega))) <| pg (λ_ hF=>dF (hF.ev rfl) (hF.ev rfl) mO) <| pa rfl <| PR.nil) ?_;clear hF fa;intro fa hF;replace hF:Frm 179 fa [(0,(.slice (A4) ((ah a).length) (c5))),(1,(.slice (A10) ((ah b).length) (c11))),(4,(.slice (none) (0) (0))),(5,(.slice (none) (0) (0))),(23,(.bool (decide ((((ah b).length:Nat):Int)=1)))),(34,(.bool (decide ((fU (val ((ah a))) (val ((ah b))))<0)))),(6,(.int .i64 ((((ah b).length:Nat):Int)))),(7,(.int .u32 (((sc:Nat):Int)))),(8,(.slice (some ⟨g75,0,none⟩) ((ah a).length+2) (c76))),(9,(.slice (A103) ((ah o_91).length) (c104))),(10,(.slice (some ⟨g106,0,none⟩) (((ah a).length+2)-((ah b).length)) (((ah a).length+2)-((ah b).length)))),(11,(.int .i64 (((j:Nat):Int)-1))),(70,(.bool (decide ((((j:Nat):Int)-1)≥0)))),(12,(.int .u64 ((((U.getD (j-1+(ah b).length) 0:Nat):Int)*1000000000)+((U.getD (j-1+(ah b).length-1) 0:Nat):Int)))),(13,(.int .u64 (((g:Nat):Int)-1))),(14,(.int .u64 (((r:Nat):Int)+(((ah o_91).getD ((ah b).length-1) 0:Nat):Int)))),(129,(.bool (true)))]:=(hF.all ⟨rfl,rfl,rfl,rfl,rfl,rfl,rfl,rfl,rfl,rfl,rfl,rfl,rfl,rfl,rfl,rfl,rfl,trivial⟩)
    refine ak ?_;refine aF ?_;refine aI ?_;refine pr hF (pm rfl <| pg (λ_ hF=>rU (hF.ev rfl) (hF.ev rfl)) <| PR.nil) ?_;clear hF fa;intro fa hF;refine ak ?_;refine iW hF rfl (λhc124=>?_) (λhc124=>?_)
    ·
     have hc124p:(((r:Nat):Int)+(((ah o_91).getD ((ah b).length-1) 0:Nat):Int))≥1000000000:=by first|simpa using hc124|exact dK hc124|exact dJ hc124
     have hgr1:=O4 hgp hgr;have hout:=UQ (w2:=U.getD (j-1+(ah b).length-2) 0) hgr1 htl (by omega) (hvL ((ah b).length-2)) rfl;refine qF ?_;refine aaO rfl ?_;refine qP ?_;refine Bz ?_;refine bY ?_;exact⟨(g-1),(hF.all ⟨rfl,rfl,rfl,rfl,rfl,rfl,rfl,rfl,rfl,rfl,rfl,rfl,rfl,rfl,(bV rfl (by omega)),trivial⟩),hS,(E118.trans E_w120),(hout.1),(MO hn2 hvn hvb hvtop hgr1 hout.1 hout.2),(by rw[Nat.sub_add_cancel hgp];exact hw1)⟩
    have hc124p:¬((((r:Nat):Int)+(((ah o_91).getD ((ah b).length-1) 0:Nat):Int))≥1000000000):=by first|simpa using hc124|exact dK hc124|exact dJ hc124
    refine fM ?_;refine ru ?_;refine bY ?_;exact⟨_,(by omega),(g-1),r+((ah o_91).getD ((ah b).length-1) 0),(hF.all ⟨rfl,rfl,rfl,rfl,rfl,rfl,rfl,rfl,rfl,rfl,rfl,rfl,rfl,rfl,(bV rfl (by omega)),(bV rfl (by omega)),trivial⟩),hS,(E118.trans E_w120),(O4 hgp hgr),(by omega),(by omega),(by rw[Nat.sub_add_cancel hgp];exact hw1),rfl⟩
   have hk119p:=hk119;simp at hk119p;have hgB:g<1000000000:=by have:=of_decide_eq_false hk119;omega
   obtain⟨ad_113,hA_113,hq_113⟩:=(hu105.ext ((((E108.trans E111).trans E_w113).trans E_w114).trans E118)).cl.at2 (kZ (l:=(ah o_91)) (i:=(ah b).length-2) (by omega))
   refine Gn (N:=179) (L0:=[(0,(.slice (A4) ((ah a).length) (c5))),(1,(.slice (A10) ((ah b).length) (c11))),(4,(.slice (none) (0) (0))),(5,(.slice (none) (0) (0))),(23,(.bool (decide ((((ah b).length:Nat):Int)=1)))),(34,(.bool (decide ((fU (val ((ah a))) (val ((ah b))))<0)))),(6,(.int .i64 ((((ah b).length:Nat):Int)))),(7,(.int .u32 (((sc:Nat):Int)))),(8,(.slice (some ⟨g75,0,none⟩) ((ah a).length+2) (c76))),(9,(.slice (A103) ((ah o_91).length) (c104))),(10,(.slice (some ⟨g106,0,none⟩) (((ah a).length+2)-((ah b).length)) (((ah a).length+2)-((ah b).length)))),(11,(.int .i64 (((j:Nat):Int)-1))),(70,(.bool (decide ((((j:Nat):Int)-1)≥0)))),(12,(.int .u64 ((((U.getD (j-1+(ah b).length) 0:Nat):Int)*1000000000)+((U.getD (j-1+(ah b).length-1) 0:Nat):Int)))),(13,(.int .u64 (((g:Nat):Int)))),(14,(.int .u64 (((r:Nat):Int))))]) [some (.int .u64 (((g:Nat):Int))),some (.bool (false)),some (.bool (false)),some (.int .u64 (((g:Nat):Int))),some (.slice (A103) ((ah o_91).length) (c104)),some (.int .i64 ((((ah b).length:Nat):Int))),some (.int .i64 ((((ah b).length:Nat):Int)-2)),some (.pointer (some (ad_113.add ((ah b).length-2)))),some (.int .u32 ((((ah o_91).getD ((ah b).length-2) 0:Nat):Int))),some (.int .u64 ((((ah o_91).getD ((ah b).length-2) 0:Nat):Int))),some (.int .u64 (((g:Nat):Int)*(((ah o_91).getD ((ah b).length-2) 0:Nat):Int))),some (.int .u64 (((r:Nat):Int))),some (.int .u64 (((r:Nat):Int)*1000000000)),some (.slice (some ⟨g75,0,none⟩) ((ah a).length+2) (c76)),some (.int .i64 (((j:Nat):Int)-1)),some (.int .i64 ((((ah b).length:Nat):Int))),some (.int .i64 ((((j:Nat):Int)-1)+(((ah b).length:Nat):Int))),some (.int .i64 (((((j:Nat):Int)-1)+(((ah b).length:Nat):Int))-2)),some (.pointer (some ⟨g75,j-1+(ah b).length-2,none⟩)),some (.int .u32 (((U.getD (j-1+(ah b).length-2) 0:Nat):Int))),some (.int .u64 (((U.getD (j-1+(ah b).length-2) 0:Nat):Int))),some (.int .u64 ((((r:Nat):Int)*1000000000)+((U.getD (j-1+(ah b).length-2) 0:Nat):Int))),some (.bool (decide ((((g:Nat):Int)*(((ah o_91).getD ((ah b).length-2) 0:Nat):Int))>((((r:Nat):Int)*1000000000)+((U.getD (j-1+(ah b).length-2) 0:Nat):Int))))),some (.bool (decide ((((g:Nat):Int)*(((ah o_91).getD ((ah b).length-2) 0:Nat):Int))>((((r:Nat):Int)*1000000000)+((U.getD (j-1+(ah b).length-2) 0:Nat):Int)))))] [] [[]] [[0],[0],[0],[0],[0],[0],[0],[0],[0],[0],[0],[0],[0],[0],[0],[0],[0],[0],[0],[0],[0],[0],[0],[0]] 0 [
    λfa w'=>Frm 179 fa []∧St w w' [(g106,154,(us (Q)).toArray),(g75,154,(us (U)++R77).toArray)]∧Ext w117 (g106 ::(g75::X)) w' (g106 ::(g75::X))
    ] TfR.mixed rfl rfl rfl rfl rfl rfl (hF.all ⟨rfl,rfl,rfl,rfl,rfl,rfl,rfl,rfl,rfl,rfl,rfl,rfl,rfl,rfl,rfl,rfl,trivial⟩) rfl ⟨hF.nil,hS.drew,Ext.drew _ _⟩ ?_ ?_ ?_
   all_goals clear hF fa
   ·
    refine⟨?_,trivial⟩
    ·
     rintro fa w' i o d v ho hd hna ⟨hA,hR⟩;exact⟨hA.put_other v (oP (acts:=[]) rfl ho hd hna),hR⟩
   ·
    refine⟨?_, ?_, ?_, ?_, ?_, ?_, ?_, ?_, ?_, ?_, ?_, ?_, ?_, ?_, ?_, ?_, ?_, ?_, ?_, ?_, ?_, ?_, ?_, ?_,trivial⟩
    ·
     refine .inl ⟨rfl,_,_,rfl,rfl,λs fa w' hΦ hF hB K hK=>?_⟩;exact bD rfl rfl rfl (bM (hF.ev rfl)) hK
    ·
     refine .inl ⟨rfl,_,_,rfl,rfl,λs fa w' hΦ hF hB K hK=>?_⟩;replace hF:=hF.cons (hB.val 0 _ 106 _ rfl rfl rfl rfl);exact bD rfl rfl rfl (afv hk119 (rU (hF.ev rfl) (hF.ev rfl))) hK
    ·
     refine .inl ⟨rfl,_,_,rfl,rfl,λs fa w' hΦ hF hB K hK=>?_⟩;replace hF:=hF.cons (hB.val 1 _ 107 _ rfl rfl rfl rfl);exact bD rfl rfl rfl (bM (hF.ev rfl)) hK
    ·
     refine .inl ⟨rfl,_,_,rfl,rfl,λs fa w' hΦ hF hB K hK=>?_⟩;replace hF:=hF.cons (hB.val 2 _ 108 _ rfl rfl rfl rfl);exact eU hF rfl rfl rfl rfl (bM (hF.ev rfl)) hK
    ·
     refine .inl ⟨rfl,_,_,rfl,rfl,λs fa w' hΦ hF hB K hK=>?_⟩;replace hF:=hF.cons (hB.val 2 _ 108 _ rfl rfl rfl rfl);exact eU hF rfl rfl rfl rfl (bM (hF.ev rfl)) hK
    ·
     refine .inl ⟨rfl,_,_,rfl,rfl,λs fa w' hΦ hF hB K hK=>?_⟩;replace hF:=hF.cons (hB.val 2 _ 108 _ rfl rfl rfl rfl);exact eU hF rfl rfl rfl rfl (bM (hF.ev rfl)) hK
    ·
     refine .inl ⟨rfl,_,_,rfl,rfl,λs fa w' hΦ hF hB K hK=>?_⟩;replace hF:=hF.cons (hB.val 5 _ 111 _ rfl rfl rfl rfl);replace hF:=hF.cons (hB.val 2 _ 108 _ rfl rfl rfl rfl);exact eU hF rfl rfl rfl rfl (fO (hF.ev rfl) (hF.ev rfl) jm) hK
    ·
     refine .inl ⟨rfl,_,_,rfl,rfl,λs fa w' hΦ hF hB K hK=>?_⟩;replace hF:=hF.cons (hB.val 4 _ 110 _ rfl rfl rfl rfl);replace hF:=hF.cons (hB.val 6 _ 112 _ rfl rfl rfl rfl);replace hF:=hF.cons (hB.val 2 _ 108 _ rfl rfl rfl rfl);exact eU hF rfl rfl rfl rfl (kV (j:=(ah b).length-2) TfR.sl26 (hF.ev rfl) hA_113 (hF.ev rfl) (by omega) (by omega)) hK
    ·
     refine .inr (.inl ⟨rfl,_,_,rfl,rfl, ?_,trivial⟩)
     ·
      intro fa w' hΦ hF hB K hK;obtain⟨hA,hS,E_w'⟩:=hΦ;replace hF:=hF.cons (hB.val 7 _ 113 _ rfl rfl rfl rfl);replace hF:=hF.cons (hB.val 2 _ 108 _ rfl rfl rfl rfl);exact eU hF rfl rfl rfl rfl (gQ TfR.one154 (hF.ev rfl) (hq_113 E_w')) hK
    ·
     refine .inl ⟨rfl,_,_,rfl,rfl,λs fa w' hΦ hF hB K hK=>?_⟩;replace hF:=hF.cons (hB.val 8 _ 114 _ rfl rfl rfl rfl);replace hF:=hF.cons (hB.val 2 _ 108 _ rfl rfl rfl rfl);exact eU hF rfl rfl rfl rfl (dO TfR.unds154 TfR.und152 (hF.ev rfl) (kQ (by omega))) hK
    ·
     refine .inl ⟨rfl,_,_,rfl,rfl,λs fa w' hΦ hF hB K hK=>?_⟩;replace hF:=hF.cons (hB.val 3 _ 109 _ rfl rfl rfl rfl);replace hF:=hF.cons (hB.val 9 _ 115 _ rfl rfl rfl rfl);replace hF:=hF.cons (hB.val 2 _ 108 _ rfl rfl rfl rfl);exact eU hF rfl rfl rfl rfl (y5 (hF.ev rfl) (hF.ev rfl) mO) hK
    ·
     refine .inl ⟨rfl,_,_,rfl,rfl,λs fa w' hΦ hF hB K hK=>?_⟩;replace hF:=hF.cons (hB.val 2 _ 108 _ rfl rfl rfl rfl);exact eU hF rfl rfl rfl rfl (bM (hF.ev rfl)) hK
    ·
     refine .inl ⟨rfl,_,_,rfl,rfl,λs fa w' hΦ hF hB K hK=>?_⟩;replace hF:=hF.cons (hB.val 11 _ 117 _ rfl rfl rfl rfl);replace hF:=hF.cons (hB.val 2 _ 108 _ rfl rfl rfl rfl);exact eU hF rfl rfl rfl rfl (y5 (hF.ev rfl) (hF.ev rfl) mO) hK
    ·
     refine .inl ⟨rfl,_,_,rfl,rfl,λs fa w' hΦ hF hB K hK=>?_⟩;replace hF:=hF.cons (hB.val 2 _ 108 _ rfl rfl rfl rfl);exact eU hF rfl rfl rfl rfl (bM (hF.ev rfl)) hK
    ·
     refine .inl ⟨rfl,_,_,rfl,rfl,λs fa w' hΦ hF hB K hK=>?_⟩;replace hF:=hF.cons (hB.val 2 _ 108 _ rfl rfl rfl rfl);exact eU hF rfl rfl rfl rfl (bM (hF.ev rfl)) hK
    ·
     refine .inl ⟨rfl,_,_,rfl,rfl,λs fa w' hΦ hF hB K hK=>?_⟩;replace hF:=hF.cons (hB.val 2 _ 108 _ rfl rfl rfl rfl);exact eU hF rfl rfl rfl rfl (bM (hF.ev rfl)) hK
    ·
     refine .inl ⟨rfl,_,_,rfl,rfl,λs fa w' hΦ hF hB K hK=>?_⟩;replace hF:=hF.cons (hB.val 14 _ 120 _ rfl rfl rfl rfl);replace hF:=hF.cons (hB.val 15 _ 121 _ rfl rfl rfl rfl);replace hF:=hF.cons (hB.val 2 _ 108 _ rfl rfl rfl rfl);exact eU hF rfl rfl rfl rfl (dF (hF.ev rfl) (hF.ev rfl) jm) hK
    ·
     refine .inl ⟨rfl,_,_,rfl,rfl,λs fa w' hΦ hF hB K hK=>?_⟩;replace hF:=hF.cons (hB.val 16 _ 122 _ rfl rfl rfl rfl);replace hF:=hF.cons (hB.val 2 _ 108 _ rfl rfl rfl rfl);exact eU hF rfl rfl rfl rfl (fO (hF.ev rfl) (hF.ev rfl) jm) hK
    ·
     refine .inl ⟨rfl,_,_,rfl,rfl,λs fa w' hΦ hF hB K hK=>?_⟩;replace hF:=hF.cons (hB.val 13 _ 119 _ rfl rfl rfl rfl);replace hF:=hF.cons (hB.val 17 _ 123 _ rfl rfl rfl rfl);replace hF:=hF.cons (hB.val 2 _ 108 _ rfl rfl rfl rfl);exact eU hF rfl rfl rfl rfl (nY (j:=j-1+(ah b).length-2) TfR.sl26 (hF.ev rfl) (hF.ev rfl) (by omega) (by omega)) hK
    ·
     refine .inr (.inl ⟨rfl,_,_,rfl,rfl, ?_,trivial⟩)
     ·
      intro fa w' hΦ hF hB K hK;obtain⟨hA,hS,E_w'⟩:=hΦ;replace hF:=hF.cons (hB.val 18 _ 124 _ rfl rfl rfl rfl);replace hF:=hF.cons (hB.val 2 _ 108 _ rfl rfl rfl rfl);exact eU hF rfl rfl rfl rfl (ig TfR.one154 (hF.ev rfl) (hS.get 1 rfl) (tV (by first|omega|(simp;omega)))) hK
    ·
     refine .inl ⟨rfl,_,_,rfl,rfl,λs fa w' hΦ hF hB K hK=>?_⟩;replace hF:=hF.cons (hB.val 19 _ 125 _ rfl rfl rfl rfl);replace hF:=hF.cons (hB.val 2 _ 108 _ rfl rfl rfl rfl);exact eU hF rfl rfl rfl rfl (dO TfR.unds154 TfR.und152 (hF.ev rfl) (kQ (by omega))) hK
    ·
     refine .inl ⟨rfl,_,_,rfl,rfl,λs fa w' hΦ hF hB K hK=>?_⟩;replace hF:=hF.cons (hB.val 12 _ 118 _ rfl rfl rfl rfl);replace hF:=hF.cons (hB.val 20 _ 126 _ rfl rfl rfl rfl);replace hF:=hF.cons (hB.val 2 _ 108 _ rfl rfl rfl rfl);exact eU hF rfl rfl rfl rfl (dF (hF.ev rfl) (hF.ev rfl) mO) hK
    ·
     refine .inl ⟨rfl,_,_,rfl,rfl,λs fa w' hΦ hF hB K hK=>?_⟩;replace hF:=hF.cons (hB.val 10 _ 116 _ rfl rfl rfl rfl);replace hF:=hF.cons (hB.val 21 _ 127 _ rfl rfl rfl rfl);replace hF:=hF.cons (hB.val 2 _ 108 _ rfl rfl rfl rfl);exact eU hF rfl rfl rfl rfl (Gq (hF.ev rfl) (hF.ev rfl)) hK
    ·
     refine .inl ⟨rfl,_,_,rfl,rfl,λs fa w' hΦ hF hB K hK=>?_⟩;replace hF:=hF.cons (hB.val 2 _ 108 _ rfl rfl rfl rfl);replace hF:=hF.cons (hB.val 22 _ 128 _ rfl rfl rfl rfl);exact bD rfl rfl rfl (xw (hF.ev rfl) (u:=undef) (λh=>by cases h) (λ_=>hF.ev rfl) rfl) hK
   intro fa w125 hΦ hF hC;obtain⟨hA,hS,E_w125⟩:=hΦ;replace hF:=hF.cons (hC 23 _ 129 _ rfl rfl rfl);clear hA hC;refine bY ?_;refine iW hF rfl (λhc126=>?_) (λhc126=>?_)
   ·
    have hc126p:(((g:Nat):Int)*(((ah o_91).getD ((ah b).length-2) 0:Nat):Int))>((((r:Nat):Int)*1000000000)+((U.getD (j-1+(ah b).length-2) 0:Nat):Int)):=by first|simpa using hc126|exact dK hc126|exact dJ hc126
    have hgv:g*(ah o_91).getD ((ah b).length-2) 0>r*1000000000+U.getD (j-1+(ah b).length-2) 0:=YO hc126p;have hgp:=aeP hgv;have hw1:=ZU hn2 hvn hbU hgr hgv;refine fM ?_;refine bY ?_;refine fZ ?_;refine aF ?_;refine aI ?_;refine pr hF (pm rfl <| pg (λ_ hF=>fO (hF.ev rfl) (hF.ev rfl) mO) <| pa rfl <| PR.nil) ?_;clear hF fa;intro fa hF;refine ak ?_;refine aF ?_;refine aI ?_;refine pr hF (pm rfl <| pm rfl <| pm rfl <| pg (λ_ hF=>fO (hF.ev rfl) (hF.ev rfl) jm) <| PR.nil) ?_;clear hF fa;intro fa hF;obtain⟨ad127,hA128,hq129⟩:=(hu105.ext (((((E108.trans E111).trans E_w113).trans E_w114).trans E118).trans E_w125)).cl.at_ (kZ (l:=(ah o_91)) (i:=(ah b).length-1) (by omega));refine pr hF (pg (λ_ hF=>kV (j:=(ah b).length-1) TfR.sl26 (hF.ev rfl) hA128 (hF.ev rfl) (by omega) (by omega)) <| pg (λ_ hF=>gQ TfR.one154 (hF.ev rfl) hq129) <| pg (λ_ hF=>dO TfR.unds154 TfR.und152 (hF.ev rfl) (kQ (by omega))) <| pg (λ_ hF=>dF (hF.ev rfl) (hF.ev rfl) mO) <| pa rfl <| PR.nil) ?_;clear hF fa;intro fa hF;replace hF:Frm 179 fa [(0,(.slice (A4) ((ah a).length) (c5))),(1,(.slice (A10) ((ah b).length) (c11))),(4,(.slice (none) (0) (0))),(5,(.slice (none) (0) (0))),(23,(.bool (decide ((((ah b).length:Nat):Int)=1)))),(34,(.bool (decide ((fU (val ((ah a))) (val ((ah b))))<0)))),(6,(.int .i64 ((((ah b).length:Nat):Int)))),(7,(.int .u32 (((sc:Nat):Int)))),(8,(.slice (some ⟨g75,0,none⟩) ((ah a).length+2) (c76))),(9,(.slice (A103) ((ah o_91).length) (c104))),(10,(.slice (some ⟨g106,0,none⟩) (((ah a).length+2)-((ah b).length)) (((ah a).length+2)-((ah b).length)))),(11,(.int .i64 (((j:Nat):Int)-1))),(70,(.bool (decide ((((j:Nat):Int)-1)≥0)))),(12,(.int .u64 ((((U.getD (j-1+(ah b).length) 0:Nat):Int)*1000000000)+((U.getD (j-1+(ah b).length-1) 0:Nat):Int)))),(13,(.int .u64 (((g:Nat):Int)-1))),(14,(.int .u64 (((r:Nat):Int)+(((ah o_91).getD ((ah b).length-1) 0:Nat):Int)))),(129,(.bool (decide ((((g:Nat):Int)*(((ah o_91).getD ((ah b).length-2) 0:Nat):Int))>((((r:Nat):Int)*1000000000)+((U.getD (j-1+(ah b).length-2) 0:Nat):Int))))))]:=(hF.all ⟨rfl,rfl,rfl,rfl,rfl,rfl,rfl,rfl,rfl,rfl,rfl,rfl,rfl,rfl,rfl,rfl,rfl,trivial⟩)
    refine ak ?_;refine aF ?_;refine aI ?_;refine pr hF (pm rfl <| pg (λ_ hF=>rU (hF.ev rfl) (hF.ev rfl)) <| PR.nil) ?_;clear hF fa;intro fa hF;refine ak ?_;refine iW hF rfl (λhc130=>?_) (λhc130=>?_)
    ·
     have hc130p:(((r:Nat):Int)+(((ah o_91).getD ((ah b).length-1) 0:Nat):Int))≥1000000000:=by first|simpa using hc130|exact dK hc130|exact dJ hc130
     have hgr1:=O4 hgp hgr;have hout:=UQ (w2:=U.getD (j-1+(ah b).length-2) 0) hgr1 htl (by omega) (hvL ((ah b).length-2)) rfl;refine qF ?_;refine aaO rfl ?_;refine qP ?_;refine Bz ?_;refine bY ?_;exact⟨(g-1),(hF.all ⟨rfl,rfl,rfl,rfl,rfl,rfl,rfl,rfl,rfl,rfl,rfl,rfl,rfl,rfl,(bV rfl (by omega)),trivial⟩),hS,(E118.trans E_w125),(hout.1),(MO hn2 hvn hvb hvtop hgr1 hout.1 hout.2),(by rw[Nat.sub_add_cancel hgp];exact hw1)⟩
    have hc130p:¬((((r:Nat):Int)+(((ah o_91).getD ((ah b).length-1) 0:Nat):Int))≥1000000000):=by first|simpa using hc130|exact dK hc130|exact dJ hc130
    refine fM ?_;refine ru ?_;refine bY ?_;exact⟨_,(by omega),(g-1),r+((ah o_91).getD ((ah b).length-1) 0),(hF.all ⟨rfl,rfl,rfl,rfl,rfl,rfl,rfl,rfl,rfl,rfl,rfl,rfl,rfl,rfl,(bV rfl (by omega)),(bV rfl (by omega)),trivial⟩),hS,(E118.trans E_w125),(O4 hgp hgr),(by omega),(by omega),(by rw[Nat.sub_add_cancel hgp];exact hw1),rfl⟩
   have hc126p:¬((((g:Nat):Int)*(((ah o_91).getD ((ah b).length-2) 0:Nat):Int))>((((r:Nat):Int)*1000000000)+((U.getD (j-1+(ah b).length-2) 0:Nat):Int))):=by first|simpa using hc126|exact dK hc126|exact dJ hc126
   refine qF ?_;refine qP ?_;refine qP ?_;refine Bz ?_;refine bY ?_;exact⟨(g),(hF.all ⟨rfl,rfl,rfl,rfl,rfl,rfl,rfl,rfl,rfl,rfl,rfl,rfl,rfl,rfl,(bV rfl (by omega)),trivial⟩),hS,(E118.trans E_w125),(hgB),(MO hn2 hvn hvb hvtop hgr hgB (by omega)),(hgw)⟩
  clear hF fa hS;rintro fa w115 ⟨gs,hF,hS,E116,hgsB,hslo,hshi⟩;refine aF ?_;refine aF ?_;refine aI ?_;refine pr hF (pm rfl <| pm rfl <| pm rfl <| pm rfl <| pg (λ_ hF=>dF (hF.ev rfl) (hF.ev rfl) jm) <| pg (λ_ hF=>dF (hF.ev rfl) (hF.ev rfl) jm) <| pg (λ_ hF=>wJ (j:=j-1) (m:=j-1+(ah b).length+1) (q:=(ah b).length+1) TfR.sl26 (hF.ev rfl) (hF.ev rfl) (hF.ev rfl) (by omega) (by omega) (by omega) (by omega) (by omega) (by omega)) <| pm rfl <| pm rfl <| PR.nil) ?_;clear hF fa;intro fa hF;replace hS:St w w115 [(g75,154,(us (U)++R77).toArray),(g106,154,(us (Q)).toArray)]:=hS.perm (List.Perm.swap _ _ _);have E131:Ext w115 (g106 ::(g75::X)) w115 (g75 ::(g106::X)):=Ext.drop (by simp +contextual);have hC:=uz (w:=w115) (X:=X) (So:=[(g106,154,(us (Q)).toArray)]) (v:=(ah o_91)) (U:=U) (c_U:=c76-(j-1)) hX hS (j-1) ((ah b).length+1) ⟨_,((ah o_91).length),_,rfl,(rfl),(hu105.ext (((((E108.trans E111).trans E_w113).trans E_w114).trans E116).trans E131))⟩ (gs) (by omega) (by omega) (by omega) (hbU) (hvb) (hgsB);refine st rfl (kP hF rfl TfR.body232 (afQ (hF.ev rfl) (hF.ev rfl) (hF.ev (iT (b:=((gs:Nat):Int)) rfl (by first|rfl|omega)))) hC ?_);clear hC hS;rintro _ w135 ⟨o_137,cy_138,rfl,hp139,hp140,hp141,hp142,hp143,hS,E136⟩;refine qY ?_;clear hF fa;intro fa hF;replace E136:Ext w115 (g75 ::(g106::X)) w135 (g75 ::(g106::X)):=E136;have hs_len:=hp139;have hs_lb:=hp140;have hs_tk:=hp141;have hs_dr:=hp142;have hs_v:=hp143;replace hF:Frm 179 fa [(0,(.slice (A4) ((ah a).length) (c5))),(1,(.slice (A10) ((ah b).length) (c11))),(4,(.slice (none) (0) (0))),(5,(.slice (none) (0) (0))),(23,(.bool (decide ((((ah b).length:Nat):Int)=1)))),(34,(.bool (decide ((fU (val ((ah a))) (val ((ah b))))<0)))),(6,(.int .i64 ((((ah b).length:Nat):Int)))),(7,(.int .u32 (((sc:Nat):Int)))),(8,(.slice (some ⟨g75,0,none⟩) ((ah a).length+2) (c76))),(9,(.slice (A103) ((ah o_91).length) (c104))),(10,(.slice (some ⟨g106,0,none⟩) (((ah a).length+2)-((ah b).length)) (((ah a).length+2)-((ah b).length)))),(11,(.int .i64 (((j:Nat):Int)-1))),(70,(.bool (decide ((((j:Nat):Int)-1)≥0)))),(12,(.int .u64 ((((U.getD (j-1+(ah b).length) 0:Nat):Int)*1000000000)+((U.getD (j-1+(ah b).length-1) 0:Nat):Int)))),(13,(.int .u64 (((gs:Nat):Int)))),(151,(.bool (decide (0<cy_138))))]:=(hF.all ⟨rfl,rfl,rfl,rfl,rfl,rfl,rfl,rfl,rfl,rfl,rfl,rfl,rfl,rfl,rfl,rfl,trivial⟩)
  refine ak ?_;refine iW hF rfl (λhc144=>?_) (λhc144=>?_)
  ·
   have hc144p:0<cy_138:=by first|simpa using hc144|exact dK hc144|exact dJ hc144
   have hgs0:0<gs:=Yq hs_v hc144p (yE hs_lb _ _);have hcyp:=hc144p;refine aF ?_;refine aI ?_;refine pr hF (pm rfl <| pg (λ_ hF=>fO (hF.ev rfl) (hF.ev rfl) mO) <| pa rfl <| PR.nil) ?_;clear hF fa;intro fa hF;refine ak ?_;refine aI ?_;refine pr hF (pm rfl <| pm rfl <| pm rfl <| pm rfl <| pg (λ_ hF=>dF (hF.ev rfl) (hF.ev rfl) jm) <| pg (λ_ hF=>dF (hF.ev rfl) (hF.ev rfl) jm) <| pg (λ_ hF=>wJ (j:=j-1) (m:=j-1+(ah b).length+1) (q:=(ah b).length+1) TfR.sl26 (hF.ev rfl) (hF.ev rfl) (hF.ev rfl) (by omega) (by omega) (by omega) (by omega) (by omega) (by omega)) <| pm rfl <| PR.nil) ?_;clear hF fa;intro fa hF;have hC:=vI (w:=w135) (X:=X) (So:=[(g106,154,(us (Q)).toArray)]) (v:=(ah o_91)) (U:=o_137) (c_U:=c76-(j-1)) hX hS (j-1) ((ah b).length+1) ⟨_,((ah o_91).length),_,rfl,(rfl),(hu105.ext ((((((E108.trans E111).trans E_w113).trans E_w114).trans E116).trans E131).trans E136))⟩ (by omega) (by omega) (by omega) (hs_lb) (hvb);refine st rfl (kP hF rfl TfR.body233 (args2 (hF.ev rfl) (hF.ev rfl)) hC ?_);clear hC hS;rintro _ w148 ⟨o_150,cy_151,rfl,hp152,hp153,hp154,hp155,hp156,hp157,hS,E149⟩;refine qY ?_;clear hF fa;intro fa hF;replace E149:Ext w135 (g75 ::(g106::X)) w148 (g75 ::(g106::X)):=E149;have hr_len:=hp152;have hr_lb:=hp153;have hr_tk:=hp154;have hr_dr:=hp155;have hr_v:=hp156;have hr_c:=hp157;have hdb:=Vz hs_v hcyp (yE hs_lb _ _) hslo hVM hr_v (yE hr_lb _ _) hr_c;refine ak ?_;refine aI ?_;refine pr hF (pm rfl <| pm rfl <| pm rfl <| pg (λ_ hF=>dO TfR.unds152 TfR.und154 (hF.ev rfl) FY) <| pg (λ_ hF=>nY (j:=j-1) TfR.sl26 (hF.ev rfl) (hF.ev rfl) (by omega) (by omega)) <| PR.nil) ?_;clear hF fa;intro fa hF;refine st rfl (iL (vs:=#[.int .u32 ((gs-1:Nat):Int)]) (v:=.int .u32 ((gs-1:Nat):Int)) (X:=(g75 ::(g106::X))) hF hS 1 rfl (by simp) rfl (iT rfl (by omega)) rfl TfR.size154 rfl (GV (by first|omega|(simp;omega))) ?_);intro w158 hS E159;rw[tJ (by first|omega|(simp;omega))]at hS;replace hF:Frm 179 fa [(0,(.slice (A4) ((ah a).length) (c5))),(1,(.slice (A10) ((ah b).length) (c11))),(4,(.slice (none) (0) (0))),(5,(.slice (none) (0) (0))),(23,(.bool (decide ((((ah b).length:Nat):Int)=1)))),(34,(.bool (decide ((fU (val ((ah a))) (val ((ah b))))<0)))),(6,(.int .i64 ((((ah b).length:Nat):Int)))),(7,(.int .u32 (((sc:Nat):Int)))),(8,(.slice (some ⟨g75,0,none⟩) ((ah a).length+2) (c76))),(9,(.slice (A103) ((ah o_91).length) (c104))),(10,(.slice (some ⟨g106,0,none⟩) (((ah a).length+2)-((ah b).length)) (((ah a).length+2)-((ah b).length)))),(11,(.int .i64 (((j:Nat):Int)-1))),(70,(.bool (decide ((((j:Nat):Int)-1)≥0)))),(12,(.int .u64 ((((U.getD (j-1+(ah b).length) 0:Nat):Int)*1000000000)+((U.getD (j-1+(ah b).length-1) 0:Nat):Int)))),(13,(.int .u64 (((gs:Nat):Int)-1))),(151,(.bool (decide (0<cy_138))))]:=(hF.all ⟨rfl,rfl,rfl,rfl,rfl,rfl,rfl,rfl,rfl,rfl,rfl,rfl,rfl,rfl,rfl,rfl,trivial⟩)
   refine iO ?_;refine ru ?_;refine bY ?_;refine aI ?_;refine pr hF (pm rfl <| pg (λ_ hF=>fO (hF.ev rfl) (hF.ev rfl) jm) <| pa rfl <| PR.nil) ?_;clear hF fa;intro fa hF;refine iO ?_;refine bY ?_;replace hS:St w w158 [(g106,154,(us (Q.set (j-1) (gs-1))).toArray),(g75,154,(us (o_150)++R77).toArray)]:=hS.perm (List.Perm.swap _ _ _);have E160:Ext w158 (g75 ::(g106::X)) w158 (g106 ::(g75::X)):=Ext.drop (by simp +contextual);exact⟨_,(by omega),o_150,Q.set (j-1) (gs-1),(j-1),(hF.all ⟨rfl,rfl,rfl,rfl,rfl,rfl,rfl,rfl,rfl,rfl,rfl,(bV rfl (by omega)),trivial⟩),hS,((((((((E111.trans E_w113).trans E_w114).trans E116).trans E131).trans E136).trans E149).trans E159).trans E160),(by omega),(hr_len.trans (hs_len.trans hUl)),(hr_lb),(by simp;omega),(fQ hbQ (by omega)),(DivInv.step (k:=j-1) (n:=(ah b).length) hI (by omega) (by omega) (hr_len.trans hs_len) (by omega) (hr_tk.trans hs_tk) (hr_dr.trans hs_dr) hdw.rest rfl rfl hdb.2),rfl⟩
  have hc144p:¬(0<cy_138):=by first|simpa using hc144|exact dK hc144|exact dJ hc144
  refine fM ?_;refine bY ?_;refine aI ?_;refine pr hF (pm rfl <| pm rfl <| pm rfl <| pg (λ_ hF=>dO TfR.unds152 TfR.und154 (hF.ev rfl) (E5 (by omega))) <| pg (λ_ hF=>nY (j:=j-1) TfR.sl26 (hF.ev rfl) (hF.ev rfl) (by omega) (by omega)) <| PR.nil) ?_;clear hF fa;intro fa hF;refine st rfl (iL (vs:=#[.int .u32 ((gs:Nat):Int)]) (v:=.int .u32 ((gs:Nat):Int)) (X:=(g75 ::(g106::X))) hF hS 1 rfl (by simp) rfl (iT rfl (by omega)) rfl TfR.size154 rfl (GV (by first|omega|(simp;omega))) ?_);intro w161 hS E162;rw[tJ (by first|omega|(simp;omega))]at hS;refine iO ?_;refine ru ?_;refine bY ?_;refine aI ?_;refine pr hF (pm rfl <| pg (λ_ hF=>fO (hF.ev rfl) (hF.ev rfl) jm) <| pa rfl <| PR.nil) ?_;clear hF fa;intro fa hF;refine iO ?_;refine bY ?_;replace hS:St w w161 [(g106,154,(us (Q.set (j-1) (gs))).toArray),(g75,154,(us (o_137)++R77).toArray)]:=hS.perm (List.Perm.swap _ _ _);have E163:Ext w161 (g75 ::(g106::X)) w161 (g106 ::(g75::X)):=Ext.drop (by simp +contextual);exact⟨_,(by omega),o_137,Q.set (j-1) (gs),(j-1),(hF.all ⟨rfl,rfl,rfl,rfl,rfl,rfl,rfl,rfl,rfl,rfl,rfl,(bV rfl (by omega)),trivial⟩),hS,(((((((E111.trans E_w113).trans E_w114).trans E116).trans E131).trans E136).trans E162).trans E163),(by omega),(hs_len.trans hUl),(hs_lb),(by simp;omega),(fQ hbQ (by omega)),(DivInv.step (k:=j-1) (n:=(ah b).length) hI (by omega) (by omega) hs_len (by omega) hs_tk hs_dr hdw.rest rfl rfl (Vm hs_v (by omega) hshi)),rfl⟩
 have hc112p:¬((((j:Nat):Int)-1)≥0):=by first|simpa using hc112|exact dK hc112|exact dJ hc112
 refine qF ?_;refine qP ?_;refine qP ?_;refine Bz ?_;refine bY ?_;refine aF ?_;refine aI ?_;refine pr hF (pm rfl <| pm rfl <| pg (λ_ hF=>Ci (j:=(ah b).length) TfR.sl26 (hF.ev rfl) (hF.ev rfl) (by omega) (by omega)) <| PR.nil) ?_;clear hF fa;intro fa hF;obtain⟨hS1,hn1⟩:=hS.out hX 1 rfl;have hu164:=UC.of_boxR (R:=R77) (c:=c76) (n:=(ah b).length) (L:=U) (hS.get 1 rfl) hn1 (by unfold maxLen;omega) (by first|omega|(simp;omega)) (by first|omega|(simp;omega));have E165:Ext w110 (g106 ::(g75::X)) w110 (g106::X):=Ext.drop (by simp +contextual);replace hu164:UC w110 (g106::X) (some ⟨g75,0,none⟩) (c76) (U.take ((ah b).length)):=hu164;replace hS:St w w110 [(g106,154,(us (Q)).toArray)]:=hS1;clear hn1;have hC:=jI (w:=w110) (X:=(g106::X)) (l:=(U.take ((ah b).length))) (hS.bnd hX) ⟨_,((ah b).length),_,rfl,(by rw[uM];omega),hu164⟩;refine st rfl (kP hF rfl TfR.body230 (args1 (hF.ev rfl)) hC ?_);clear hC;rintro _ w166 ⟨⟨A169,_,c170,rfl,rfl,hu171⟩,hb167⟩;refine qY ?_;clear hF fa;intro fa hF;replace hS:=hS.call hb167;have E168:=Ext.call (g106::X) hb167;refine pr hF (pm rfl <| PR.nil) ?_;clear hF fa;intro fa hF;have hC:=nZ (w:=w166) (X:=(g106::X)) (a:=(ah (U.take ((ah b).length)))) (hS.bnd hX) ⟨_,((ah (U.take ((ah b).length))).length),_,rfl,(rfl),hu171⟩ (sc) (by have:=fA (U.take (ah b).length);simp at this;omega) (mX (hbU.take _)) (hsc0) (hscB);refine st rfl (kP hF rfl TfR.body231 (args2 (hF.ev rfl) (hF.ev (iT (b:=((sc:Nat):Int)) rfl (by first|rfl|omega)))) hC ?_);clear hC;rintro _ w172 ⟨⟨qs_175,rs_176,_,_,rfl,⟨A177,_,c178,rfl,rfl,hu179⟩,⟨A180,_,c181,rfl,rfl,hu182⟩,hp183,hp184,hp185,hp186,hp187,hp188⟩,hb173⟩;refine qY ?_;clear hF fa;intro fa hF;replace hS:=hS.call hb173;have E174:=Ext.call (g106::X) hb173;have hw_lq:=hp183;have hw_v:=hp185;have hw_l:=hp186;have hw_q:=hp187;rw[dZ]at hw_v;refine pr hF (pm rfl <| px rfl rfl <| px rfl rfl <| pa rfl <| pa rfl <| PR.nil) ?_;clear hF fa;intro fa hF;replace hF:Frm 179 fa [(0,(.slice (A4) ((ah a).length) (c5))),(1,(.slice (A10) ((ah b).length) (c11))),(4,(.slice (none) (0) (0))),(5,(.slice (none) (0) (0))),(23,(.bool (decide ((((ah b).length:Nat):Int)=1)))),(34,(.bool (decide ((fU (val ((ah a))) (val ((ah b))))<0)))),(6,(.int .i64 ((((ah b).length:Nat):Int)))),(7,(.int .u32 (((sc:Nat):Int)))),(8,(.slice (some ⟨g75,0,none⟩) ((ah a).length+2) (c76))),(9,(.slice (A103) ((ah o_91).length) (c104))),(10,(.slice (some ⟨g106,0,none⟩) (((ah a).length+2)-((ah b).length)) (((ah a).length+2)-((ah b).length)))),(11,(.int .i64 (((j:Nat):Int)-1))),(70,(.bool (decide ((((j:Nat):Int)-1)≥0)))),(15,(.slice (A177) (qs_175.length) (c178)))]:=(hF.all ⟨rfl,rfl,rfl,rfl,rfl,rfl,rfl,rfl,rfl,rfl,rfl,rfl,rfl,rfl,trivial⟩)
 refine ak ?_;refine aF ?_;refine aI ?_;refine pr hF (pm rfl <| pm rfl <| pa rfl <| pa rfl <| PR.nil) ?_;clear hF fa;intro fa hF;refine ak ?_;refine xq ?_;have hj0:j=0:=by omega
 subst hj0;simp only[DivInv,SX,Nat.pow_zero,Nat.one_mul]at hI;have hvlt:=fF _ hvb;rw[hvn]at hvlt;have htk0:=Ba (U:=U) (k:=(ah b).length) (by omega) (Nat.lt_trans hI.2 hvlt);rw[Ba (by omega) (Nat.lt_trans hI.2 hvlt)]at hw_v;rw[hV]at hI;have hend:=Po hsc0 hI.1 hI.2 hw_v hw_l;have htln:=fA (U.take (ah b).length);simp at htln;refine adk hF rfl (mJ hF rfl) (mJ hF rfl) ?_;exact⟨_,rfl,⟨Q,qs_175,_,_,rfl,(UL.own (L:=Q) (hS.get 0 rfl) (hS.notX hX 0 rfl) (by first|rfl|(simp;done)|omega) (by first|rfl|(simp;done)|omega) (by first|omega|(simp;omega)) (rfl)),(UL.fin (L:=qs_175) ⟨_,_,_,rfl,(rfl),hu179⟩ (rfl) (λx hx=>by simp[hx])),(hbQ),(hw_lq),(hend.1),(hend.2),(by unfold XT;rw[if_neg (by omega),if_neg (by omega)];omega),(by unfold WE;rw[if_neg (by omega),if_neg (by omega),hw_q];exact abN hbU htk0 (by unfold Ut;rw[←hsc];exact hI.1) hend.1 hend.2)⟩,hS.below⟩
end Go.Proofs.YtmniihkenijjpaaGreatDoor
namespace Go.Sw
open Go Go.RowKit
section
variable {P:Program} [Wld P] [Kp] {τ:Tab} {N:Nat} {w0:World} {X0:List Nat} {e:Env} {b:aN} {a:Act} {w:World}
theorem kK[WOk P w0]{O l2:List Oper}{Q:Exit→Act→World→Prop}{k:Env→aN→Prop}(hτ:dN P τ=true)(hQ:∀e b a w,k e b→Conc N w0 X0 e b a w→wpList P O.toArray Q l2 a w):∀{l:List Oper} {e:Env} {b:aN} {a:Act} {w:World},yZ N l=true→AU (Den P) τ O l e b k→Conc N w0 X0 e b a w→wpList P O.toArray Q (l++l2) a w
 |[],e,b,a,w,_,hk,hc=>hQ e b a w hk hc
 |o::r,e,b,a,w,hd,hk,hc=>by
  simp only[yZ,List.all_cons,eF]at hd;simp only[AU,GZ,uf]at hk
  have hdo:∀t,o.dst=some t→DL N t:=by
   intro t ht;have:=hd.1;rw[ht]at this;simpa[DL,Ew]using this
  have:=KL (k:=λe b=>AU (Den P) τ O r e b k) (K:=wpList P O.toArray Q (r++l2)) (Q:=Q) hτ hc hdo hk (λe b a w hk hc=>kK hτ hQ (l:=r) hd.2 hk hc);rw[vg];unfold wpList;cases hw:Region.wanted o (yielded O.toArray a.tmps)with
  |true=>simp only[if_true];exact .inl (this.1 hw)
  |false=>simp only[Lc,if_false];exact this.2 hw
theorem wp1{ops:Array Oper}{Q:Exit→Act→World→Prop}{o:Oper}{rest:List Oper}{u:Value}{w':World}(hg:o.guard=none)(hr:(execOp a.eval o).run P w=.ok (.value u) w')(k:wpList P ops Q rest (a.put o.dst u) w'):wpList P ops Q (o::rest) a w :=
 wpList_plain hg λK hK=>by
  unfold Oper.wp;rw[hr];exact hK _ _ k
theorem aaT{ops:Array Oper}{Q:Exit→Act→World→Prop}{o:Oper}{rest:List Oper}{w':World}(hg:o.guard=none)(hr:(execOp a.eval o).run P w=.ok .skip w')(k:wpList P ops Q rest (a.put o.dst undef) w'):wpList P ops Q (o::rest) a w :=
 wpList_plain hg λK hK=>by
  unfold Oper.wp;rw[hr];exact hK _ _ k
theorem StG.ext0{S:List Bx}(h:StG w0 w S):Ext w0 X0 w (bl S++X0):=⟨h.below.size,λk hk hx _=>⟨h.below.block k hk (PE k),λhm=>by
 rcases l9.1 hm with hm|hm
 ·obtain⟨q,hq,rfl⟩:=fV.1 hm;have:=TJ (h.box q hq).2;omega
 ·exact hx hm⟩⟩
theorem Conc.putD(h:Conc N w0 X0 e b a w){t:Nat}{u:Value}{v:AV}(ht:DL N t)(hd:RepD w0 X0 u v):Conc N w0 X0 ((t,v)::e) b (a.put (some t) u) w:=by
 obtain⟨S,M,h⟩:=h;refine⟨S,M,h.ms,h.x0,by simp[Act.put,h.sz],⟨qB h.df.1 ht,h.df.2⟩,λs x hx=>?_,h.box⟩
 by_cases hs:t=s
 ·subst hs;rw[aO]at hx;cases hx;rw[dw u h.sz ht.1];exact .d (hd.ext h.ms.st.ext0)
 ·rw[aX _ _ hs]at hx;rw[bK u hs];exact h.env s x hx
theorem Conc.putA(h:Conc N w0 X0 e b a w){t:Nat}{u:Value}(ht:DL N t):Conc N w0 X0 ((t,.any)::e) b (a.put (some t) u) w:=by
 obtain⟨S,M,h⟩:=h;refine⟨S,M,h.ms,h.x0,by simp[Act.put,h.sz],⟨qB h.df.1 ht,h.df.2⟩,λs x hx=>?_,h.box⟩
 by_cases hs:t=s
 ·subst hs;rw[aO]at hx;cases hx;exact .any
 ·rw[aX _ _ hs]at hx;rw[bK u hs];exact h.env s x hx
theorem Conc.frm(h:Conc N w0 X0 e b a w):Frm N a []:=by
 obtain⟨S,M,h⟩:=h;exact⟨h.sz,h.df.1.1,λt v h=>by simp[lk]at h⟩
theorem Conc.get(h:Conc N w0 X0 e b a w){t:Nat}{u:Value}(hx:ld t e=some (.c (.v u)))(hv:∀A n c,u ≠ .slice A n c):a.tmps.getD t undef=u:=by
 obtain⟨S,M,h⟩:=h;exact(h.env t _ hx).v_
theorem Conc.var(h:Conc N w0 X0 e b a w){t i:Nat}{cs:List Cell}(hx:ld t e=some (.ptr i 0))(hb:ld i b=some (.var cs)):∃g T us,a.tmps.getD t undef=.pointer (some ⟨g,0,none⟩)∧w0.heap.size≤g∧w.heap[g]?=some (.cells us T (0,0))∧RepL w X0 us.toList cs:=by
 obtain⟨S,M,h⟩:=h;obtain⟨m,g,hm,hv,hg,hxe⟩:=(h.env t _ hx).ptr_;obtain⟨m',hm',h1,h2,⟨g',h3⟩,h4⟩:=h.box i _ hb;rw[hm]at hm';cases hm';have h8:=h.ms.st.box _ (h.ms.inS i m hm h2 g hg);exact⟨g,m.T,_,hxe,TJ h8.2,h8.1,by simpa using h4.ext (Ext.drop λx hx=>qC _ hx)⟩
theorem Conc.sz(h:Conc N w0 X0 e b a w):a.tmps.size=N∧a.defers=[]∧Below w0.heap.size w0 w:=by
 obtain⟨S,M,h⟩:=h;exact⟨h.sz,h.df.1.1,h.ms.st.below.b0⟩
theorem Conc.kp(h:Conc N w0 X0 e b a w){t:Nat}{u:Value}(ht:(t,u)∈Kp.l):a.tmps.getD t undef=u:=by
 obtain⟨S,M,h⟩:=h;exact h.df.1.2 t u ht
end
theorem Conc.keep(K:List (Nat×Value)){k1:Kp}{N:Nat}{w0:World}{X0:List Nat}{e:Env}{b:aN}{a:Act}{w:World}(h : @Conc k1 wQ N w0 X0 e b a w)(hK:∀t u,(t,u)∈K→a.tmps.getD t undef=u):@Conc ⟨K,k1.h⟩ wQ N w0 X0 e b a w:=by
 obtain⟨S,M,h⟩:=h;exact⟨S,M,@Sta.mk ⟨K,k1.h⟩ wQ N w0 X0 S M a w e b h.ms h.x0 h.sz ⟨⟨h.df.1.1,λt u ht=>hK t u ht⟩,h.df.2⟩ h.env h.box⟩
theorem Conc.boxF{k1:Kp}{N:Nat}{w0:World}{X0:List Nat}{e:Env}{b:aN}{a:Act}{w:World}{t:Nat}{T:TypeId}{us:List Value}{cs:List Cell}(h : @Conc k1 wQ N w0 X0 e b a w)(hd:RepL w0 X0 us cs)(hz:∀g o,(g,o)∈k1.h→False)(ht : @DL k1 N t):
 @Conc ⟨(t,.pointer (some ⟨w.heap.size,0,none⟩))::k1.l,[(w.heap.size,.cells us.toArray T (0,0))]⟩ wQ N w0 X0 ((t,.c (.p cs))::e) b (a.put (some t) (.pointer (some ⟨w.heap.size,0,none⟩))) (w.alloc (.cells us.toArray T)):=by
 obtain⟨S,M,h⟩:=h;have hx:=Ext.alloc_ w (bl S++X0) (.cells us.toArray T);have hnew:(w.alloc (.cells us.toArray T)).heap[w.heap.size]?=some (.cells us.toArray T (0,0)):=heap_alloc_new w _;have hnX:w.heap.size ∉ bl S++X0:=λhm=>by have:=h.bnd _ hm;omega
 refine⟨S,M,@Sta.mk ⟨(t,.pointer (some ⟨w.heap.size,0,none⟩))::k1.l,[(w.heap.size,.cells us.toArray T (0,0))]⟩ wQ N w0 X0 S M _ _ _ b (h.ms.alloc_ _) h.x0 (by simp[Act.put,h.sz]) ⟨⟨h.df.1.1,λs x hs=>?_⟩,λg o hg=>?_⟩ (λs x hx'=>?_) (λi x hx'=>?_)⟩
 ·rcases rF.1 hs with hs|hs
  ·cases hs;exact dw _ h.sz ht.1
  ·rw[bK _ (Fp ht.2 hs)];exact h.df.1.2 s x hs
 ·have hg':(g,o)∈[(w.heap.size,Obj.cells us.toArray T (0,0))]:=hg;simp only[uQ,nH]at hg';obtain⟨rfl,rfl⟩:=hg';exact⟨hnew,hnX,.row hnew⟩
 ·by_cases hs:t=s
  ·subst hs;rw[aO]at hx';cases hx';rw[dw _ h.sz ht.1];have hcl:=Cl.of_block hnew hnX us.length;rw[XR,Jl]at hcl;exact .d (.c (IE hcl ((hd.ext h.ms.st.ext0).ext hx)))
  ·rw[aX _ _ hs]at hx';rw[bK _ hs];exact(h.env s x hx').ext hx λi _ m hm=>⟨m,hm,Comp.refl m⟩
 ·obtain⟨m,h1,h2⟩:=h.box i x hx';exact⟨m,h1,h2.ext0 hx⟩
theorem Conc.kh{k1:Kp}{N:Nat}{w0:World}{X0:List Nat}{e:Env}{b:aN}{a:Act}{w:World}(h : @Conc k1 wQ N w0 X0 e b a w){g:Nat}{o:Obj}(hg:(g,o)∈k1.h):w.heap[g]?=some o:=by
 obtain⟨S,M,h⟩:=h;exact(h.df.2 g o hg).1
end Go.Sw
namespace Go.Sw
open Go Go.RowKit
section
variable {P:Program} [Wld P] {τ:Tab}
theorem um{fn:Func}{os:List (Option (TypeId×Nat))}{r:AV}{N:Nat}{w:World}{X:List Nat}{x:Ex}{e:Env}{b:aN}{a:Act}{w':World}[WOk P w](hτ:dN P τ=true)(hx:Jz τ fn os r x e b)(hc':Conc N w X e b a w'):bodyPost P fn (BG λu w1=>RepF w.heap.size w1 X u r∧Below w.heap.size w w1) x.x a w':=by
 obtain⟨S,M,hs⟩:=hc';cases x with
 |normal=>cases hx
 |exit id=>cases hx
 |ret =>
  simp only[Jz]at hx;obtain⟨vs1,b',G,h1,h2,_,h4,_⟩:=rV (P:=P) hs hx;obtain⟨us,vs',q1,q2,q3⟩:=Zj h4.at hτ h2 h4 h1;refine⟨hs.df.1.1,(if h:us.toArray.size=1 then us.toArray[0]else .tuple us.toArray), ?_,_,rfl, ?_,hs.ms.st.below.b0⟩
  ·rw[jS,Sem.run_bind,qbS];simp[q2]
  ·rw[←q1.eq];refine aeW q3 (λg hg=>?_) (h4.nd hs.ms);obtain⟨p,hp,rfl⟩:=fV.1 hg;obtain⟨m,k1,k2,k3,_⟩:=h4.at p hp;exact TJ (hs.ms.st.box _ (hs.ms.inS p.1 m k1 k2 p.2 k3)).2
theorem MS.setG{w0 w:World}{S:List Bx}{M:MM}(h:MS w0 w S M){i:Nat}{m:MB}{g0:Nat}{es:Array MapEntry}{ck:Nat}(hm:M i=some m)(hmap:w.heap[g0]?=some (.map es ck))(hg0:w0.heap.size≤g0)(hfr:∀c mc x,M c=some mc→mc.gx=some x→x.2.1≠g0):MS w0 w S (M.set i { m with gx:=some ([],g0,es,ck) }):=by
 have hset:∀c mc,M.set i { m with gx:=some ([],g0,es,ck) } c=some mc→(c=i∧mc = { m with gx:=some ([],g0,es,ck) })∨(c≠i∧M c=some mc):=λc mc hc=>by
  by_cases hci:c=i
  ·subst hci;rw[MM.set_same]at hc;cases hc;exact .inl ⟨rfl,rfl⟩
  ·rw[MM.set_other _ _ hci]at hc;exact .inr ⟨hci,hc⟩
 have hown:∀c mc,M.set i { m with gx:=some ([],g0,es,ck) } c=some mc→∃m2,M c=some m2∧mc.own=m2.own∧mc.g=m2.g∧mc.T=m2.T∧mc.us=m2.us:=λc mc hc=>by
  rcases hset c mc hc with⟨rfl,rfl⟩|⟨_,h5⟩
  ·exact⟨m,hm,rfl,rfl,rfl,rfl⟩
  ·exact⟨mc,h5,rfl,rfl,rfl,rfl⟩
 refine⟨h.st,⟨λc mc x hc hx=>?_,λc mc x c' mc' g hc hx hc' ho hg q hq=>?_,λc mc x c' mc' x' hc hx hc' hx' he=>?_⟩,λc mc hc ho g hg=>?_,λc c' mc mc' g hc hc' ho ho' hg hg'=>?_⟩
 ·rcases hset c mc hc with⟨rfl,rfl⟩|⟨_,h5⟩
  ·simp only[nU]at hx;subst hx;exact⟨λq hq=>(by cases hq),hmap,hg0,List.Pairwise.nil⟩
  ·exact h.gh.inS c mc x h5 hx
 ·obtain⟨m2,h6,e1,e2,_,_⟩:=hown c' mc' hc';rcases hset c mc hc with⟨rfl,rfl⟩|⟨_,h5⟩
  ·simp only[nU]at hx;subst hx;cases hq
  ·exact h.gh.own c mc x c' m2 g h5 hx h6 (e1▸ho) (e2▸hg) q hq
 ·rcases hset c mc hc with⟨rfl,rfl⟩|⟨h4,h5⟩<;>rcases hset c' mc' hc' with⟨rfl,rfl⟩|⟨h6,h7⟩
  ·rfl
  ·simp only[nU]at hx;subst hx;rcases he with he|⟨q,hq,_⟩
   ·exact(hfr c' mc' x' h7 hx' he.symm).elim
   ·cases hq
  ·simp only[nU]at hx';subst hx';rcases he with he|⟨q,hq,q',hq',_⟩
   ·exact(hfr c mc x h5 hx he).elim
   ·cases hq'
  ·exact h.gh.uni c mc x c' mc' x' h5 hx h7 hx' he
 ·obtain⟨m2,h6,e1,e2,e3,e4⟩:=hown c mc hc;rw[e3,e4];exact h.inS c m2 h6 (e1▸ho) g (e2▸hg)
 ·obtain⟨m2,h5,e1,e2,_,_⟩:=hown c mc hc;obtain⟨m3,h6,f1,f2,_,_⟩:=hown c' mc' hc';exact h.inj c c' m2 m3 g h5 h6 (e1▸ho) (f1▸ho') (e2▸hg) (f2▸hg')
variable [Kp] {N:Nat} {w0:World} {X0:List Nat} {S:List Bx} {M:MM} {e:Env} {b:aN} {a:Act} {w:World}
theorem Sta.below(h:Sta N w0 X0 S M a w e b){w':World}(hB:Below w.heap.size w w'):Sta N w0 X0 S M a w' e b:=by
 have hx:=Ext.call (bl S++X0) hB
 exact⟨h.ms.call hB,h.x0,h.sz,⟨h.df.1,h.df.2.ext hx⟩,λt v hv=>(h.env t v hv).ext hx λi _ m hm=>⟨m,hm,Comp.refl m⟩,λi x hx'=>by
  obtain⟨m,h1,h2⟩:=h.box i x hx'
  exact⟨m,h1,h2.ext0 hx⟩⟩
theorem Sta.putV(h:Sta N w0 X0 S M a w e b){t:Nat}{u:Value}{v:AV}(ht:DL N t)(hv:RepV w (bl S++X0) M u v):Sta N w0 X0 S M (a.put (some t) u) w ((t,v)::e) b:=by
 refine⟨h.ms,h.x0,by simp[Act.put,h.sz],⟨qB h.df.1 ht,h.df.2⟩,λs x hx=>?_,h.box⟩
 by_cases hs:t=s
 ·subst hs;rw[aO]at hx;cases hx;rw[dw u h.sz ht.1];exact hv
 ·rw[aX _ _ hs]at hx;rw[bK u hs];exact h.env s x hx
theorem Sta.frm(h:Sta N w0 X0 S M a w e b):Frm N a []:=⟨h.sz,h.df.1.1,λt v h=>by simp[lk]at h⟩
theorem Sta.ghost0{a0:Act}{e0:Env}{w1:World}{i:Nat}{T:TypeId}{us:List Value}{G:Gho}{g0:Nat}(hs:Sta N w0 X0 S M a0 w e0 b)(h:Sta N w0 X0 S M a w1 e b)(hg0:w.heap.size≤g0)(hm:w1.heap[g0]?=some (.map #[] 0))(hi:ld i b=none)(hie:mention [i] e=false)(hib:gZ [i] b=false)(hiN:DL N i)
 (hG:G.rep w1 (bl S++X0) us [] (g0,#[],0)):Conc N w0 X0 ((i,.ptr i 0)::e) ((i,.gh G)::b) (a.put (some i) (.pointer (some ⟨w1.heap.size,0,none⟩))) (w1.alloc (.cells us.toArray T)):=by
 have hms:=h.ms.alloc (i:=i) (m:=⟨true,true,some w1.heap.size,T,0,0,0,us,none⟩) rfl rfl rfl rfl;have hext:Ext w1 (bl S++X0) (w1.alloc (.cells us.toArray T)) (bl ((w1.heap.size,T,us.toArray)::S)++X0):=Ext.alloc _ _ _
 have hms2:=hms.setG (MM.set_same _ _ _) (g0:=g0) (es:=#[]) (ck:=0) ((Below.heap_alloc w1 _ g0 (lt_of_heap hm)).trans hm) (dh hs.ms.st.below.size hg0) (λc mc x hc hx he=>by
  by_cases hci:c=i
  ·subst hci;rw[MM.set_same]at hc;cases hc;cases hx
  ·rw[MM.set_other _ _ hci]at hc;have:=lt_of_heap (hs.ms.gh.inS c mc x hc hx).2.1
   omega)
 have hM:∀c,c≠i→∀m,M c=some m→((M.set i ⟨true,true,some w1.heap.size,T,0,0,0,us,none⟩).set i ⟨true,true,some w1.heap.size,T,0,0,0,us,some ([],g0,#[],0)⟩) c=some m:=λc hc m hm=>by
  rw[MM.set_other _ _ hc,MM.set_other _ _ hc];exact hm
 refine⟨_,_,hms2,h.x0,by simp[Act.put,h.sz],⟨qB h.df.1 hiN,h.df.2.ext hext⟩,λt v hv=>?_,λc x hx=>?_⟩
 ·by_cases hti:i=t
  ·subst hti;rw[aO]at hv;cases hv;rw[dw _ h.sz hiN.1];exact .ptr (MM.set_same _ _ _) rfl rfl
  ·rw[aX _ _ hti]at hv;rw[bK _ hti];exact(h.env t v hv).ext hext λj hj m hm=>⟨m,hM j (λe=>by subst e;exact jQ hie hv j hj (by simp)) m hm,Comp.refl m⟩
 ·by_cases hci:i=c
  ·subst hci;rw[aO]at hx;cases hx;exact⟨_,MM.set_same _ _ _,rfl,rfl,⟨_,rfl⟩,_,rfl,G.ext hG hext⟩
  ·rw[aX _ _ hci]at hx;obtain⟨m,h1,h2⟩:=h.box c x hx;exact⟨m,hM c (λe=>hci e.symm) m h1,h2.ext hext λd hd mc hmc=>⟨mc,hM d (λe=>by subst e;exact je hib c x hx d hd (by simp)) mc hmc,Comp.refl mc⟩⟩
end
end Go.Sw
namespace Go.Sw
open Go Go.RowKit
open Go.WideElems (rd rg pl)
def Rv(v:Value):Option (DataW Value×List MemPlace):=some (.held v,[])
def datum(P:Program)(kT:TypeId)(es:Array MapEntry):DataW Value:=.map ((es.toList.map (rg P kT Rv)).foldr DataW.insert [])
inductive SlotR (w:World) (X:List Nat) (T:TypeId) (s:Nat) (more:List Bx):Value→List (List Cell)→Option Nat→Prop where
 |no:SlotR w X T s more (.slice none 0 0) [] none
 |some {g cap:Nat} {es:List (List Cell)} {uss:List (List Value)} {rest:List Value} (hm:(g,T,(uss.flatten++rest).toArray)∈more) (hr:RepS w X s uss es) (hc:cap*s=(uss.flatten++rest).length) (hx:cap≤maxLen) (hn:es.length≤cap) (h0:0<es.length):SlotR w X T s more (.slice (some ⟨g,0,none⟩) es.length cap) es (some g)
structure JS where
 sq:List Cell
 f:ByteArray→List (List Cell)
 n:Nat
def Yw(P:Program)(kT T:TypeId)(s:Nat)(st:JS)(w:World)(X:List Nat)(us:List Value)(more:List Bx)(mo:Nat×Array MapEntry×Nat):Prop :=
 ∃us',us=.map (some mo.1)::us'∧RepL w X us' st.sq∧Go.WideElems.Fit P kT Rv mo.2.1 mo.2.2∧mo.2.1.size≤st.n ∧
  ∃(val:ByteArray→Value) (og:ByteArray→Option Nat),(∀k,(datum P kT mo.2.1).atKey (.string k.data.toList) (DataW.held (Value.slice none 0 0))=DataW.held (val k))∧(∀k,SlotR w X T s more (val k) (st.f k) (og k))∧∀k1 k2 g,og k1=some g→og k2=some g→k1=k2
theorem SlotR.ext{w w':World}{X X':List Nat}{T:TypeId}{s:Nat}{more:List Bx}{v:Value}{es:List (List Cell)}{og:Option Nat}(h:SlotR w X T s more v es og)(e:Ext w X w' X'):SlotR w' X' T s more v es og:=by
 cases h with
 |no=>exact .no
 |some hm hr hc hx hn h0=>exact .some hm (hr.ext e) hc hx hn h0
def Gy(P:Program)(kT T:TypeId)(s:Nat)(st:JS):Gho where
 rep:=Yw P kT T s st
 ext:=by
  rintro w X w' X' us more mo ⟨us',h1,h2,h3,h4,val,og,h5,h6,h7⟩ e;exact⟨us',h1,h2.ext e,h3,h4,val,og,h5,λk=>(h6 k).ext e,h7⟩
theorem afs{P:Program}{mT kT sT:TypeId}{w:World}{es:Array MapEntry}{ck g0:Nat}{val:ByteArray→Value}(hkT:P.underlying kT=some .string)(hmT:P.underlying mT=some (.map kT sT))(hz:∀W:World,(zeroValue sT).run P W=.ok (.slice none 0 0) W)
 (hF:Go.WideElems.Fit P kT Rv es ck) (hb:w.heap[g0]?=some (.map es ck)) (hv:∀k,(datum P kT es).atKey (.string k.data.toList) (DataW.held (Value.slice none 0 0))=DataW.held (val k)) (k:ByteArray) (hk:k.size≤maxLen) :
 (Instr.lookup mT (.map (some g0)) (.string k) false).run P w=.ok (val k) w:=by
 have hkey:keyOf P kT (.string k)=some (.string k.data.toList):=by simp[keyOf,hkT,mapKey,hk]
 rcases Maps.fit_look false (Maps.string_keyed hkT) hmT (hz w) hb hF hkey with⟨hr,_,hd⟩|⟨e0,y,_,_,hr,hy,hd,_⟩
 ·have h1:=hv k;have h2:=hd (DataW.held (Value.slice none 0 0));unfold datum at h1;rw[h2]at h1;simp only[DataW.held.injEq]at h1;rw[←h1];simpa using hr
 ·have h1:=hv k;have h2:=hd (DataW.held (Value.slice none 0 0));unfold datum at h1;rw[h2]at h1;simp only[Rv,nU]at hy;subst hy;simp only[DataW.held.injEq]at h1;rw[←h1];simpa using hr
theorem SlotR.data{w:World}{X X1:List Nat}{T:TypeId}{s:Nat}{more:List Bx}{v:Value}{es:List (List Cell)}{og:Option Nat}(h:SlotR w X T s more v es og)(hm:∀q:Bx,q∈more→w.heap[q.1]?=Option.some (Obj.cells q.2.2 q.2.1 (0,0)))(hX:∀x∈X1,x∈X∧x ∉ bl more):RepC w X1 v (.sl s es):=by
 cases h with
 |no=>exact .nil _ _ _
 |some hm' hr hc hx hn h0 =>
  rename_i g cap uss rest;have hh:=hm _ hm';have hcl:=Cl.of_block (X:=X1) hh (λhx=>(hX g hx).2 (fV.2 ⟨_,hm',rfl⟩)) uss.flatten.length;rw[XR,List.take_left' rfl]at hcl;exact(hr.ext (Ext.drop λx hx=>(hX x hx).1)).sl hcl hn (by unfold maxLen at hx;omega)
def JS.add(st:JS)(k:ByteArray)(c:List Cell):JS:=⟨st.sq,λx=>if x=k then st.f x++[c]else st.f x,st.n+1⟩
theorem aen{w w3:World}{more more':List Bx}{g':Nat}{T:TypeId}{cur:Array Value}{og:Option Nat}(hm':more'=(g',T,cur)::more.filter λq=>!(decide (og=some q.1)))(hg:og=some g'∨w.heap.size≤g')(hog:∀g,og=some g→g∈bl more)(hl:∀q:Bx,q∈more→q.1<w.heap.size)
 (hn:w3.heap[g']?=some (Obj.cells cur T (0,0))) (hk:∀q:Bx,q∈more→og≠some q.1→w3.heap[q.1]?=some (Obj.cells q.2.2 q.2.1 (0,0))) (hnd:more.Pairwise λa b=>a.1≠b.1) :
 (∀q:Bx,q∈more'→(q.1∈bl more∨w.heap.size≤q.1)∧w3.heap[q.1]?=some (Obj.cells q.2.2 q.2.1 (0,0)))∧more'.Pairwise λa b=>a.1≠b.1:=by
 subst hm';refine⟨λq hq=>?_,List.pairwise_cons.2 ⟨λq hq=>?_,hnd.filter _⟩⟩
 ·rcases rF.1 hq with rfl|hq
  ·refine⟨?_,hn⟩;rcases hg with h|h
   ·exact .inl (hog _ h)
   ·exact .inr h
  ·obtain⟨h1,h2⟩:=Af.1 hq;exact⟨.inl (fV.2 ⟨q,h1,rfl⟩),hk q h1 (by simpa using h2)⟩
 ·obtain⟨h1,h2⟩:=Af.1 hq;have h2':og≠some q.1:=by simpa using h2
  intro e;simp only at e;rcases hg with h|h
  ·exact h2' (by rw[h,e])
  ·have:=hl q h1;omega
theorem Xg{P:Program}{kT:TypeId}{es es':Array MapEntry}{kl:Lit}{d:DataW Value}{n:Nat}(h:(es'.toList.map (rg P kT Rv)).foldr DataW.insert []=ChangeMaps.putKey kl d ((es.toList.map (rg P kT Rv)).foldr DataW.insert []))(hn:es.size≤n):es'.size≤n+1:=by
 have e1:es'.size=((es'.toList.map (rg P kT Rv)).foldr DataW.insert []).length:=by rw[length_sorted];simp
 rw[e1,h];unfold ChangeMaps.putKey;rw[length_insert];have e2:=qbO (ChangeMaps.notKey kl) ((es.toList.map (rg P kT Rv)).foldr DataW.insert []);rw[length_sorted]at e2;simp at e2;omega
theorem agB{P:Program}{mT kT sT T:TypeId}{s:Nat}{st:JS}{w w1 w2:World}{X:List Nat}{us:List Value}{more:List Bx}{es:Array MapEntry}{ck g0:Nat}{us':List Value}{val:ByteArray→Value}{og:ByteArray→Option Nat}{k:ByteArray}{v':Value}{vs:List Value}{vC:List Cell}{uss:List (List Value)}
 (hkT:P.underlying kT=some .string) (hmT:P.underlying mT=some (.map kT sT)) (hs0:0<s)
 (hu:us=.map (some g0)::us') (hus:RepL w X us' st.sq) (hF:Go.WideElems.Fit P kT Rv es ck) (hn:es.size≤st.n) (hroom:st.n<maxLen) (hv:∀k,(datum P kT es).atKey (.string k.data.toList) (DataW.held (Value.slice none 0 0))=DataW.held (val k)) (hsl:∀k,SlotR w X T s more (val k) (st.f k) (og k)) (hinj:∀k1 k2 g,og k1=some g→og k2=some g→k1=k2)
 (hX:∀q:Bx,q∈more→q.1∈X∧w.heap[q.1]?=some (Obj.cells q.2.2 q.2.1 (0,0))) (hnd:more.Pairwise λa b=>a.1≠b.1) (hmap:w.heap[g0]?=some (Obj.map es ck)) (hk:k.size≤maxLen)
 (hvs:RepL w X vs vC) (hvl:vs.length=s) (huss:RepS w X s uss (st.f k))
 (hb1:Below w.heap.size w w1) (hown:w2.ownsRow 0 T s v' ((st.f k).length+1) (uss.flatten++vs)) (hgr:w1.grownBy w2 (val k).ownBlock) (hob:v'.ownBlock=(val k).ownBlock∨v'.ownBlock=some w1.heap.size) (hgo:(val k).ownBlock=og k) :
 ∃w3 mo' more',(Instr.mapUpdate mT (.map (some g0)) (.string k) v').run P w2=.ok () w3∧mo'.1=g0∧w3.heap[g0]?=some (Obj.map mo'.2.1 mo'.2.2)∧(∀q:Bx,q∈more'→(q.1∈bl more∨w1.heap.size≤q.1)∧w3.heap[q.1]?=some (Obj.cells q.2.2 q.2.1 (0,0)))∧(more'.Pairwise λa b=>a.1≠b.1) ∧
  (w3.os=w.os∧w3.tape=w.tape∧w3.output=w.output∧w.heap.size≤w3.heap.size∧∀i,i<w.heap.size→i≠g0→i ∉ bl more→w3.heap[i]?=w.heap[i]?)∧(∀i,i<w1.heap.size→i≠g0→og k≠some i→w3.heap[i]?=w1.heap[i]?)∧Yw P kT T s (st.add k vC) w3 (bl more'++X) us more' mo':=by
 have hkey:keyOf P kT (.string k)=some (.string k.data.toList):=by simp[keyOf,hkT,mapKey,hk]
 have hg0:=lt_of_heap hmap;have hlt:∀q:Bx,q∈more→q.1<w.heap.size:=λq hq=>lt_of_heap (hX q hq).2
 have hne0:∀q:Bx,q∈more→q.1≠g0:=λq hq e=>by
  have:=(hX q hq).2;rw[e,hmap]at this;cases this
 have hogm:∀k g,og k=some g→g∈bl more∧g<w.heap.size∧g≠g0:=by
  intro k1 g1 h1;have h6:=hsl k1;rw[h1]at h6;generalize val k1=vx at h6;generalize st.f k1=fx at h6;cases h6 with
  |some hm hr hc hx hn h0=>exact⟨fV.2 ⟨_,hm,rfl⟩,hlt _ hm,hne0 _ hm⟩
 have hb0:(val k).ownBlock≠some g0:=by rw[hgo];exactλe=>(hogm k g0 e).2.2 rfl
 have hmap2:w2.heap[g0]?=some (Obj.map es ck):=(hgr.block g0 (AX hg0 hb1.size) (λe=>hb0 e.symm)).trans ((hb1.block g0 hg0).trans hmap);obtain⟨es',ck',hrun,hF',hput,_⟩:=Maps.fit_store (R':=Rv) (Maps.string_keyed hkT) hmT hmap2 hF (Nat.lt_of_le_of_lt hn hroom) (λ_ _ _ _ hz=>hz) hkey (show Rv v'=some (DataW.held v',[])from rfl);rcases hown.2 with⟨_,h0⟩|⟨g',cap,cur,hv',hb',hg',hle,hmx,hcs,htk⟩
 ·omega
 have hg'2:og k=some g'∨g'=w1.heap.size:=by
  rw[hv']at hob;rcases hob with h|h
  ·left;rw[←hgo,←h];rfl
  ·right;simpa[Value.ownBlock]using h
 have hg'0:g'≠g0:=λe=>by rw[e,hmap2]at hg';cases hg'
 let w3:=ChangeMaps.setBlock w2 g0 (.map es' ck')
 have hsame:w3.heap[g0]?=some (Obj.map es' ck'):=ChangeMaps.heap_setBlock_same hmap2 _;have hoth:∀i,i≠g0→w3.heap[i]?=w2.heap[i]?:=λi hi=>ChangeMaps.heap_setBlock_other hmap2 _ hi
 have h31:∀i,i<w1.heap.size→i≠g0→og k≠some i→w3.heap[i]?=w1.heap[i]?:=λi hi h1 h2=>(hoth i h1).trans (hgr.block i hi (λe=>h2 (by rw[←hgo,←e])))
 have h30:∀i,i<w.heap.size→i≠g0→og k≠some i→w3.heap[i]?=w.heap[i]?:=λi hi h1 h2=>(h31 i (AX hi hb1.size) h1 h2).trans (hb1.block i hi)
 have hsz:w.heap.size≤w3.heap.size:=by
  have:w3.heap.size=w2.heap.size:=by simp[w3,ChangeMaps.setBlock]
  rw[this];exact dh hb1.size hgr.size
 obtain⟨hM,hP⟩:=aen (w:=w1) (w3:=w3) (more:=more) (g':=g') (T:=T) (cur:=cur) (og:=og k) rfl (by
  rcases hg'2 with h|h
  ·exact .inl h
  ·right;rw[h];exact jE _) (λg h=>(hogm k g h).1) (λq hq=>AX (hlt q hq) hb1.size) ((hoth g' hg'0).trans hg') (λq hq h=>(h30 q.1 (hlt q hq) (hne0 q hq) h).trans (hX q hq).2) hnd
 have hext:Ext w X w3 (bl ((g',T,cur)::more.filter λq=>!(decide (og k=some q.1)))++X):=by
  refine⟨hsz,λi hi hx hnm=>?_⟩;have hi0:i≠g0:=λe=>hnm _ _ (e▸hmap)
  have hik:og k≠some i:=λe=>by
   obtain⟨q,hq,rfl⟩:=fV.1 (hogm k i e).1;exact hx (hX q hq).1
  refine⟨h30 i hi hi0 hik,λhm=>?_⟩;rcases l9.1 hm with hm|hm
  ·obtain⟨q,hq,rfl⟩:=fV.1 hm;rcases(hM q hq).1 with h|h
   ·obtain⟨p,hp,hpe⟩:=fV.1 h;exact hx (hpe▸(hX p hp).1)
   ·have:=hb1.size;omega
  ·exact hx hm
 refine⟨w3,(g0,es',ck'),_,hrun,rfl,hsame,hM,hP,⟨hgr.os.trans hb1.os,hgr.tape.trans hb1.tape,hgr.output.trans hb1.output,hsz,λi hi h1 h2=>h30 i hi h1 (λe=>h2 (hogm k i e).1)⟩,h31,us',hu,hus.ext hext,hF', ?_, ?_⟩
 ·exact Xg hput hn
 ·have hD:datum P kT es'=(datum P kT es).put (.string k.data.toList) (.held v'):=by unfold datum;rw[DataW.put_eq,hput]
  refine⟨λx=>if x=k then v' else val x,λx=>if x=k then some g' else og x,λx=>?_,λx=>?_,λk1 k2 g1 h1 h2=>?_⟩
  ·show(datum P kT es').atKey _ _=_;rw[hD]
   by_cases hx:x=k
   ·subst hx;refine zF ?_ (congrArg DataW.held (if_pos rfl).symm);exact Maps.atKey_put_same (D:=datum P kT es) ⟨_,rfl⟩ (k:=.string x.data.toList) trivial _ _
   ·refine zF ?_ (congrArg DataW.held (if_neg hx).symm);rw[Maps.atKey_put_other (λe=>hx ?_)]
    ·exact hv x
    ·injection e with e
     have:x.data=k.data:=Dv e;cases x;cases k;simp_all
  ·by_cases hx:x=k
   ·subst hx;simp only[if_true,JS.add];rw[hv']
    have hR:RepS w X s (uss++[vs]) (st.f x++[vC]):=huss.append ⟨rfl,λu hu=>by simp at hu;subst hu;exact hvl,λi a c h1 h2=>by
     cases i with
     |zero=>simp at h1 h2;subst h1 h2;exact hvs
     |succ i=>simp at h1⟩
    have hfl:cur=((uss++[vs]).flatten++cur.toList.drop (((st.f x).length+1)*s)).toArray:=by
     have e1:(uss++[vs]).flatten=uss.flatten++vs:=by simp
     rw[e1,←htk,Nj]
    have hl:(st.f x++[vC]).length=(st.f x).length+1:=by simp
    rw[←hl];refine .some (uss:=uss++[vs]) (rest:=cur.toList.drop (((st.f x).length+1)*s)) ?_ (hR.ext hext) ?_ hmx (by rw[hl];exact hle) (by rw[hl];omega)
    ·rw[←hfl];simp
    ·have:((uss++[vs]).flatten++cur.toList.drop (((st.f x).length+1)*s)).length=cur.size:=by
      conv=>rhs;rw[hfl]
      simp
     rw[this,hcs]
   ·simp only[if_neg hx,JS.add];have h6:=hsl x;generalize hgx:og x=ox at h6;generalize hvx:val x=vx at h6;generalize hfx:st.f x=fx at h6;cases h6 with
    |no=>exact .no
    |some hm hr hc hx' hn' h0' =>
     refine .some (JX _ (Af.2 ⟨hm, ?_⟩)) (hr.ext hext) hc hx' hn' h0';simp only[BR,decide_eq_false_iff_not];exactλe=>hx (hinj x k _ hgx e)
  ·replace h1:(if k1=k then some g' else og k1)=some g1:=h1;replace h2:(if k2=k then some g' else og k2)=some g1:=h2
   have key:∀x,x≠k→og x=some g'→False:=λx hx h=>by
    rcases hg'2 with h3|h3
    ·exact hx (hinj x k g' h h3)
    ·have:=(hogm x g' h).2.1;have:=hb1.size;omega
   by_cases e1:k1=k<;>by_cases e2:k2=k
   ·rw[e1,e2]
   ·rw[if_pos e1]at h1;rw[if_neg e2]at h2;cases h1;exact(key k2 e2 h2).elim
   ·rw[if_neg e1]at h1;rw[if_pos e2]at h2;cases h2;exact(key k1 e1 h1).elim
   ·rw[if_neg e1]at h1;rw[if_neg e2]at h2;exact hinj k1 k2 g1 h1 h2
end Go.Sw
namespace Go.Sw
open Go
def hf(c p:Rat×Rat):Int:=if c.2<p.2∨(p.2=c.2∧c.1<p.1)then 0 else 1
def fC(c p q:Rat×Rat):Int:=if hf c p=hf c q then(if hf c p=0 then -(iV p.1 q.1)else iV p.1 q.1)else hf c p-hf c q
def JW(c f p:Rat×Rat):Int:=if fC c p f=0 then 0 else if fC c p f>0 then 1 else 2
def Dx(c f p q:Rat×Rat):Int:=if JW c f p=JW c f q then jr (fC c p q)else jr (JW c f p-JW c f q)
theorem DJ(c p:Rat×Rat):hf c p=0∨hf c p=1:=by unfold hf;split<;>simp
end Go.Sw
namespace Go.Sw
open Go
def kR(a b c:Rat×Rat):Rat:=(b.1-a.1)*(c.2-a.2)-(b.2-a.2)*(c.1-a.1)
theorem acv{x y:Rat}(hy:0≤y)(h:x*x<y*y):x<y:=by
 by_cases g:x<y
 ·exact g
 ·exfalso;have h1:0≤x-y:=by grind
  have h2:0≤x+y:=by grind
  have h3:=zC h1 h2
  grind
theorem conc{q u1 v1 u2 v2 u3 v3:Rat}(e1:u1*u1+v1*v1=q)(e2:u2*u2+v2*v2=q)(e3:u3*u3+v3*v3=q)(h12:u2<u1)(h23:u3<u2)(p2:0≤v2):
 (u2-u3)*v1+(u1-u2)*v3<v2*(u1-u3):=by
 have hL:0<u1-u3:=by grind
 have ha:0<u2-u3:=by grind
 have hb:0<u1-u2:=by grind
 apply acv (zC p2 (by grind));have h1:=Am ha hb;have h2:=Am h1 (Am hL hL)
 have h3:0≤(v1-v3)*(v1-v3):=by
  by_cases g:0≤v1-v3
  ·exact zC g g
  ·have:=zC (show 0≤v3-v1 by grind) (show 0≤v3-v1 by grind)
   grind
 have h4:=zC (show 0≤(u2-u3)*(u1-u2) by grind) h3
 have key:v2*(u1-u3)*(v2*(u1-u3))-((u2-u3)*v1+(u1-u2)*v3)*((u2-u3)*v1+(u1-u2)*v3)=(u2-u3)*(u1-u2)*((u1-u3)*(u1-u3))+(u2-u3)*(u1-u2)*((v1-v3)*(v1-v3)):=by
  clear h12 h23 p2 hL ha hb h1 h2 h3 h4
  grind
 clear e1 e2 e3;generalize(u2-u3)*(u1-u2)*((u1-u3)*(u1-u3))=z1 at *;generalize(u2-u3)*(u1-u2)*((v1-v3)*(v1-v3))=z2 at *;generalize v2*(u1-u3)*(v2*(u1-u3))=z3 at *;generalize((u2-u3)*v1+(u1-u2)*v3)*((u2-u3)*v1+(u1-u2)*v3)=z4 at *;clear h1 h3
 grind
section
variable {q u1 v1 u2 v2 u3 v3:Rat}
theorem aea(e1:u1*u1+v1*v1=q)(e2:u2*u2+v2*v2=q)(e3:u3*u3+v3*v3=q)(h12:u2<u1)(h23:u3<u2)(p2:0≤v2):0<(u2-u1)*(v3-v1)-(v2-v1)*(u3-u1):=by
 have:=conc e1 e2 e3 h12 h23 p2
 grind
theorem adX(e1:u1*u1+v1*v1=q)(e2:u2*u2+v2*v2=q)(e3:u3*u3+v3*v3=q)(h12:u2<u1)(p1:0≤v1)(p2:0≤v2)(p3:v3≤0)(z2:v2=0→0<u2)(z3:v3=0→u3<0):0<(u2-u1)*(v3-v1)-(v2-v1)*(u3-u1):=by
 have e3':u3*u3+(-v3)*(-v3)=q:=by grind
 have hb:0<u1-u2:=by grind
 have hv:0≤(u1-u2)*(-v3):=zC (by grind) (by grind)
 by_cases c1:u3<u2
 ·have:=conc e1 e2 e3' h12 c1 p2;clear e1 e2 e3 e3'
  grind
 ·by_cases c2:u1<u3
  ·have:=conc e3' e1 e2 c2 h12 p1;clear e1 e2 e3 e3'
   grind
  ·have k1:0≤(u3-u2)*v1:=zC (by grind) p1;have k2:0≤(u1-u3)*v2:=zC (by grind) p2;have kD:(u2-u1)*(v3-v1)-(v2-v1)*(u3-u1)=(u3-u2)*v1+(u1-u3)*v2+(u1-u2)*(-v3):=by clear e1 e2 e3 e3';grind
   rw[kD]
   by_cases g:v3<0
   ·have:=Am hb (show 0 < -v3 by grind);clear e1 e2 e3 e3' kD
    grind
   ·have g0:v3=0:=by grind
    have g1:=z3 g0
    have g2:0<v2:=by
     by_cases g3:v2=0
     ·have g4:=z2 g3;exfalso
      grind
     ·grind
    have g5:u3*u3=q:=by rw[←e3,g0];grind
    exfalso;have g6:0<v2*v2:=Am g2 g2;have g7:u2*u2<u3*u3:=by rw[g5,←e2];grind
    have g8:0≤u3-u2:=by grind
    have g9:0≤-u3-u2:=by grind
    have g10:=zC g8 g9;clear e1 e2 e3 e3' kD g5 g6
    grind
end
theorem LZ{c p:Rat×Rat}(h:hf c p=0):0≤p.2-c.2∧(p.2-c.2=0→0<p.1-c.1):=by
 unfold hf at h;split at h
 ·rename_i g;rcases g with g|⟨g1,g2⟩<;>constructor<;>grind
 ·exact absurd h (by decide)
theorem L8{c p:Rat×Rat}(h:hf c p=1)(hn:p.2=c.2→p.1≠c.1):p.2-c.2≤0∧(p.2-c.2=0→p.1-c.1<0):=by
 unfold hf at h;split at h
 ·exact absurd h (by decide)
 ·rename_i g;constructor<;>grind
theorem pF{a b:Rat}:(iV a b<0→a<b)∧(-(iV a b)<0→b<a):=by
 unfold iV;constructor<;>(intro h;grind)
theorem ZH{c p1 p2 p3:Rat×Rat}{q:Rat}(e1:(p1.1-c.1)*(p1.1-c.1)+(p1.2-c.2)*(p1.2-c.2)=q)(e2:(p2.1-c.1)*(p2.1-c.1)+(p2.2-c.2)*(p2.2-c.2)=q)(e3:(p3.1-c.1)*(p3.1-c.1)+(p3.2-c.2)*(p3.2-c.2)=q)
 (n1:p1.2=c.2→p1.1≠c.1) (n2:p2.2=c.2→p2.1≠c.1) (n3:p3.2=c.2→p3.1≠c.1) (o12:fC c p1 p2<0) (o23:fC c p2 p3<0):0<kR p1 p2 p3:=by
 have kD:kR p1 p2 p3=((p2.1-c.1)-(p1.1-c.1))*((p3.2-c.2)-(p1.2-c.2))-((p2.2-c.2)-(p1.2-c.2))*((p3.1-c.1)-(p1.1-c.1)):=by unfold kR;grind
 rw[kD];rcases DJ c p1 with h1|h1<;>rcases DJ c p2 with h2|h2<;>rcases DJ c p3 with h3|h3<;>(unfold fC at o12 o23;rw[h1,h2]at o12;rw[h2,h3]at o23;simp only[if_true,if_false,Int.reduceEq,reduceIte]at o12 o23)
 ·have a:=pF.2 o12;have b:=pF.2 o23;exact aea e1 e2 e3 (by grind) (by grind) (LZ h2).1
 ·have a:=pF.2 o12;exact adX e1 e2 e3 (by grind) (LZ h1).1 (LZ h2).1 (L8 h3 n3).1 (LZ h2).2 (L8 h3 n3).2
 ·exact absurd o23 (by decide)
 ·have a:=pF.1 o23;obtain⟨x1,x2⟩:=LZ h1;obtain⟨y1,y2⟩:=L8 h2 n2;obtain⟨z1,z2⟩:=L8 h3 n3;have:=adX (q:=q) (u1:=-(p2.1-c.1)) (v1:=-(p2.2-c.2)) (u2:=-(p3.1-c.1)) (v2:=-(p3.2-c.2)) (u3:=-(p1.1-c.1)) (v3:=-(p1.2-c.2)) (by grind) (by grind) (by grind) (by grind) (by grind) (by grind) (by grind) (λh=>by have:=z2 (by grind);grind) (λh=>by have:=x2 (by grind);grind);clear e1 e2 e3
  grind
 ·exact absurd o12 (by decide)
 ·exact absurd o12 (by decide)
 ·exact absurd o23 (by decide)
 ·have a:=pF.1 o12;have b:=pF.1 o23;have:=aea (q:=q) (u1:=-(p1.1-c.1)) (v1:=-(p1.2-c.2)) (u2:=-(p2.1-c.1)) (v2:=-(p2.2-c.2)) (u3:=-(p3.1-c.1)) (v3:=-(p3.2-c.2)) (by grind) (by grind) (by grind) (by grind) (by grind) (by have:=(L8 h2 n2).1;grind);clear e1 e2 e3
  grind
end Go.Sw
namespace Go.Sw
open Go
theorem jl(c p q:Rat×Rat):fC c p q = -fC c q p:=by
 rcases DJ c p with hp|hp<;>rcases DJ c q with hq|hq<;>(simp only[fC,hp,hq];unfold iV;grind)
theorem tH{c p r:Rat×Rat}{q:Rat}(e1:(p.1-c.1)*(p.1-c.1)+(p.2-c.2)*(p.2-c.2)=q)(e2:(r.1-c.1)*(r.1-c.1)+(r.2-c.2)*(r.2-c.2)=q)(n1:p.2=c.2→p.1≠c.1)(n2:r.2=c.2→r.1≠c.1)(h:fC c p r=0):p=r:=by
 have hx:p.1=r.1∧hf c p=hf c r:=by
  rcases DJ c p with hp|hp<;>rcases DJ c r with hr|hr<;>(simp only[fC,hp,hr]at h;unfold iV at h;grind)
 obtain⟨h1,h2⟩:=hx;have hy:(p.2-c.2)*(p.2-c.2)=(r.2-c.2)*(r.2-c.2):=by rw[h1]at e1;grind
 have hz:(p.2-r.2)*((p.2-c.2)+(r.2-c.2))=0:=by grind
 have h3:p.2=r.2:=by
  rcases Rat.mul_eq_zero.1 hz with g|g
  ·grind
  ·rcases DJ c p with hp|hp
   ·have a:=(LZ hp).1;have b:=(LZ (h2▸hp)).1
    grind
   ·have a:=(L8 hp n1).1;have b:=(L8 (h2▸hp) n2).1
    grind
 exact Prod.ext h1 h3
theorem OQ{c f p r:Rat×Rat}{q:Rat}(e1:(f.1-c.1)*(f.1-c.1)+(f.2-c.2)*(f.2-c.2)=q)(e2:(p.1-c.1)*(p.1-c.1)+(p.2-c.2)*(p.2-c.2)=q)(e3:(r.1-c.1)*(r.1-c.1)+(r.2-c.2)*(r.2-c.2)=q)
 (n1:f.2=c.2→f.1≠c.1) (n2:p.2=c.2→p.1≠c.1) (n3:r.2=c.2→r.1≠c.1) (h:0<kR f p r):Dx c f p r≤0:=by
 have x1:kR f r p = -kR f p r:=by unfold kR;grind
 have x2:kR r p f = -kR f p r:=by unfold kR;grind
 have x3:kR p f r = -kR f p r:=by unfold kR;grind
 have d1:fC c p f≠0:=λg=>by
  obtain rfl:=tH e2 e1 n2 n1 g;have:kR p p r=0:=by unfold kR;grind
  grind
 have d2:fC c r f≠0:=λg=>by
  obtain rfl:=tH e3 e1 n3 n1 g;have:kR r p r=0:=by unfold kR;grind
  grind
 have a1:=jl c p f;have a2:=jl c r f;have a3:=jl c p r;have l1:fC c f r<0→fC c r p<0→False:=λg1 g2=>by have:=ZH e1 e3 e2 n1 n3 n2 g1 g2;grind
 have l2:fC c r p<0→fC c p f<0→False:=λg1 g2=>by have:=ZH e3 e2 e1 n3 n2 n1 g1 g2;grind
 have l3:fC c p f<0→fC c f r<0→False:=λg1 g2=>by have:=ZH e2 e1 e3 n2 n1 n3 g1 g2;grind
 clear e1 e2 e3 n1 n2 n3 x1 x2 x3 h;unfold Dx JW jr;generalize fC c p f=A at *;generalize fC c r f=B at *;generalize fC c p r=C at *;generalize fC c f r=B' at *;generalize fC c f p=A' at *;generalize fC c r p=C' at *
 (repeat' split)<;>first|omega|(exfalso;by_cases g1:B'<0<;>by_cases g2:C'<0<;>by_cases g3:A<0<;>simp_all<;>omega)
theorem ons{c p:Rat×Rat}{q:Rat}(hq:0<q)(e:(p.1-c.1)*(p.1-c.1)+(p.2-c.2)*(p.2-c.2)=q):p.2=c.2→p.1≠c.1:=λh1 h2=>by
 rw[h1,h2]at e;grind
end Go.Sw
namespace Go.Sw
open Go
def cD(a b c d e f:Rat):Rat:=(c-a)*(f-b)-(d-b)*(e-a)
def cU(a b c d e f:Rat):Rat:=((c-a)*(c-a)+(d-b)*(d-b))*(f-b)-((e-a)*(e-a)+(f-b)*(f-b))*(d-b)
def cV(a b c d e f:Rat):Rat:=((e-a)*(e-a)+(f-b)*(f-b))*(c-a)-((c-a)*(c-a)+(d-b)*(d-b))*(e-a)
section
variable {a b c d e f:Rat}
theorem FB{x:Rat}(h:x≠0):x+x≠0:=by grind
theorem aap{u v:Rat}(h:¬(u=0∧v=0)):0<u*u+v*v:=by
 have h1:=zB u;have h2:=zB v
 have:u*u+v*v≠0:=λhh=>by
  have a1:u*u=0:=by grind
  have a2:v*v=0:=by grind
  exact h ⟨by rcases Rat.mul_eq_zero.1 a1 with h|h<;>exact h,by rcases Rat.mul_eq_zero.1 a2 with h|h<;>exact h⟩
 grind
theorem adg(h:¬cD a b c d e f=0):0<cU a b c d e f/(cD a b c d e f+cD a b c d e f)*(cU a b c d e f/(cD a b c d e f+cD a b c d e f))+cV a b c d e f/(cD a b c d e f+cD a b c d e f)*(cV a b c d e f/(cD a b c d e f+cD a b c d e f)):=by
 have h2:=FB h;refine aap λhh=>?_
 have u0:cU a b c d e f=0:=by have:=hh.1;grind
 have v0:cV a b c d e f=0:=by have:=hh.2;grind
 have e1:cU a b c d e f*(c-a)+cV a b c d e f*(d-b)=((c-a)*(c-a)+(d-b)*(d-b))*cD a b c d e f:=by unfold cU cV cD;grind
 rw[u0,v0]at e1
 have e2:(c-a)*(c-a)+(d-b)*(d-b)=0:=by
  rcases Rat.mul_eq_zero.1 (show((c-a)*(c-a)+(d-b)*(d-b))*cD a b c d e f=0 by rw[←e1];grind)with h'|h'
  ·exact h'
  ·exact absurd h' h
 refine h ?_
 have h3:c-a=0∧d-b=0:=by
  refine Decidable.byContradiction λhn=>?_
  have:=aap hn;grind
 unfold cD;rw[h3.1,h3.2];grind
theorem acS(h:¬cD a b c d e f=0){u v:Rat}(hu:u=cU a b c d e f/(cD a b c d e f+cD a b c d e f))(hv:v=cV a b c d e f/(cD a b c d e f+cD a b c d e f)):
 (c-(a+u))*(c-(a+u))+(d-(b+v))*(d-(b+v))=u*u+v*v:=by
 have h2:=FB h;have e1:(c-a)*cU a b c d e f+(d-b)*cV a b c d e f=((c-a)*(c-a)+(d-b)*(d-b))*cD a b c d e f:=by unfold cU cV cD;grind
 have e2:(c-a)*u+(d-b)*v=((c-a)*(c-a)+(d-b)*(d-b))/2:=by
  rw[hu,hv];generalize cD a b c d e f=D at *;generalize cU a b c d e f=U at *;generalize cV a b c d e f=V at *
  grind
 grind
theorem ab9(h:¬cD a b c d e f=0){u v:Rat}(hu:u=cU a b c d e f/(cD a b c d e f+cD a b c d e f))(hv:v=cV a b c d e f/(cD a b c d e f+cD a b c d e f)):
 (e-(a+u))*(e-(a+u))+(f-(b+v))*(f-(b+v))=u*u+v*v:=by
 have h2:=FB h;have e1:(e-a)*cU a b c d e f+(f-b)*cV a b c d e f=((e-a)*(e-a)+(f-b)*(f-b))*cD a b c d e f:=by unfold cU cV cD;grind
 have e2:(e-a)*u+(f-b)*v=((e-a)*(e-a)+(f-b)*(f-b))/2:=by
  rw[hu,hv];generalize cD a b c d e f=D at *;generalize cU a b c d e f=U at *;generalize cV a b c d e f=V at *
  grind
 grind
theorem abV(h:¬cD a b c d e f=0){u v:Rat}(hu:u=cU a b c d e f/(cD a b c d e f+cD a b c d e f))(hv:v=cV a b c d e f/(cD a b c d e f+cD a b c d e f)):
 (a-(a+u))*(a-(a+u))+(b-(b+v))*(b-(b+v))=u*u+v*v:=by grind
end
end Go.Sw
namespace Go.Sw
open Go
abbrev P2:=Rat×Rat
structure Rq where
 a:Bool
 l:List Nat
 b:Bool
 m:List Nat
deriving DecidableEq
structure Ent where
 kind:Int
 layer:ByteArray
 pts:List P2
 rad:Rq
structure Chn where
 kind:Nat
 ent:Nat
 fin:Nat
 src:Option P2
 dst:Option P2
def P0:P2:=(0,0)
def bH(e:Ent):List P2 :=
 match e.pts with
 |[a,b]=>if e.kind=1 then[a,b]else[]
 |[a,_,b]=>if e.kind=2 then[a,b]else[]
 |_=>[]
def lJ(p q:P2):Rat:=(p.1-q.1)*(p.1-q.1)+(p.2-q.2)*(p.2-q.2)
def ED(sq:Rat)(v:P2)(b:Option P2)(w:P2):Option P2 :=
 if lJ v w≤sq then(match b with|none=>some w|some u=>if lJ v w<lJ v u then some w else b)else b
def wM(sq:Rat)(v:P2)(l:List P2):Option P2:=l.foldl (ED sq v) none
abbrev fD:=List (ByteArray×P2)
def bU(sp:fD)(s:ByteArray):List P2:=(sp.filter λp=>p.1.toList == s.toList).map (·.2)
def dD(sq:Rat)(sp:fD)(s:ByteArray)(v:P2):fD×P2 :=
 match wM sq v (bU sp s)with
 |some u=>(sp,u)
 |none=>(sp++[(s,v)],v)
def jn(i k:Nat)(v w:P2):List Chn:=if v=w then[]else[⟨1,i,k,some v,some w⟩]
structure JL where
 sp:fD
 ws:List P2
 cs:List Chn
def joinL(sq:Rat)(s:ByteArray)(i:Nat):Nat→fD→List P2→JL
 |_,sp,[]=>⟨sp,[],[]⟩
 |k,sp,v::r =>
  let a:=dD sq sp s v
  let b:=joinL sq s i (k+1) a.1 r
  ⟨b.sp,a.2::b.ws,jn i k v a.2++b.cs⟩
def gW(e:Ent)(l:List P2):Ent :=
 match l,e.pts with
 |[a,b],[_,_]=>{ e with pts:=[a,b] }
 |[a,b],[_,m,_]=>{ e with pts:=[a,m,b] }
 |_,_=>e
structure JA where
 sp:fD
 es:List Ent
 cs:List Chn
def dA(sq:Rat):Nat→fD→List Ent→JA
 |_,sp,[]=>⟨sp,[],[]⟩
 |i,sp,e::r =>
  let a:=joinL sq e.layer i 0 sp (bH e)
  let b:=dA sq (i+1) a.sp r
  ⟨b.sp,gW e a.ws::b.es,a.cs++b.cs⟩
def DY(e:Ent):Bool:=match e.pts with
 |[a,b,c]=>decide (cD a.1 a.2 b.1 b.2 c.1 c.2=0)
 |_=>false
def jc(e:Ent):Nat :=
 match bH e with
 |[a,b]=>if a=b then 2 else if e.kind=2∧DY e=true then 5 else 0
 |_=>if e.kind=2∧DY e=true then 5 else 0
def nV(l:List (Ent×Nat)):List (Ent×Nat):=l.filter λx=>jc x.1 == 0
def lS(l:List (Ent×Nat)):List Chn:=(l.filter λx=>!(jc x.1 == 0)).map λx=>⟨jc x.1,x.2,0,none,none⟩
def eqS(a b:ByteArray):Bool:=a.toList == b.toList
def XK(a b c p:P2):Bool :=
 decide (cD a.1 a.2 b.1 b.2 c.1 c.2≠0∧(cU a.1 a.2 b.1 b.2 c.1 c.2*(p.1-a.1)+cV a.1 a.2 b.1 b.2 c.1 c.2*(p.2-a.2)=cD a.1 a.2 b.1 b.2 c.1 c.2*((p.1-a.1)*(p.1-a.1)+(p.2-a.2)*(p.2-a.2))) ∧
  (p=a∨p=c∨0<kR a p c*kR a b c))
def Ia(a b c d:P2):Bool:=decide ((a=c∧b=d)∨(a=d∧b=c))
def iZ(e f:Ent):Bool :=
 eqS e.layer f.layer&&decide (e.kind=f.kind) &&
 match e.pts,f.pts with
 |[a],[b]=>decide (a=b)&&decide (e.rad=f.rad)
 |[a,b],[c,d]=>Ia a b c d
 |[a,m,b],[c,n,d]=>Ia a b c d&&(if DY e||DY f then DY e&&DY f&&decide (m=n)else XK c n d m&&XK a m b n)
 |_,_=>false
def zS(l:List Ent):List (Ent×Bool):=l.foldl (λacc e=>acc++[(e,acc.any λp=>!p.2&&iZ e p.1)]) []
def dY(l:List Ent):List Bool:=(zS l).map (·.2)
def metAt(l:List (Ent×Nat))(s:ByteArray)(i k:Nat)(v:P2)(j:Nat):Bool :=
 match l[j]? with
 |none=>false
 |some x=>eqS x.1.layer s&&(match bH x.1 with
  |[a,b]=>((j != i||0 != k)&&decide (v=a)) ||((j != i||1 != k)&&decide (v=b))
  |_=>false)
def D8(l:List (Ent×Nat))(s:ByteArray)(i k:Nat)(v:P2):Bool:=(List.range l.length).any (metAt l s i k v)
def wZ(l:List (Ent×Nat))(s:ByteArray)(n i k:Nat)(v:P2):List Chn:=if D8 l s i k v=true then[]else[⟨4,n,k,some v,some v⟩]
def opn(l:List (Ent×Nat))(i:Nat):List Chn :=
 match l[i]? with
 |none=>[]
 |some x=>(match bH x.1 with
  |[a,b]=>wZ l x.1.layer x.2 i 0 a++wZ l x.1.layer x.2 i 1 b
  |_=>[])
def BN(l:List (Ent×Nat)):List Chn:=(List.range l.length).flatMap (opn l)
def sV(l:List (Ent×Nat)):List (Ent×Nat):=((l.zip (dY (l.map (·.1)))).filter λx=>!x.2).map (·.1)
def F9(l:List (Ent×Nat)):List Chn:=((l.zip (dY (l.map (·.1)))).filter λx=>x.2).map λx=>⟨3,x.1.2,0,none,none⟩
structure RP where
 es:List Ent
 cs:List Chn
def aH(sq:Rat)(es:List Ent):RP :=
 let a:=dA sq 0 [] es
 let nb:=a.es.zipIdx
 let k:=nV nb
 let l:=sV k
 ⟨l.map (·.1),a.cs++lS nb++F9 k++BN l⟩
end Go.Sw
