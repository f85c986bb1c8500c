/- Part of the proof of WholeStep. -/
import Derived.Test.YtllbdpdnpaocnaaGreatDoorZAQ
import Derived.Deep.CutBlock
namespace Go.Proofs.YtllbdpdnpaocnaaGreatDoor
set_option linter.unusedSimpArgs false
set_option linter.unusedVariables false
set_option linter.constructorNameAsVariable false
open Go.RowKit Go.Maps
def wy (base:Nat) (e:Ending) (w:World):Prop:=∃(A:Option Addr) (n C:Nat) (L:List aX),e=.returned (.slice A n C)∧w.ownsRow base 51 4 (.slice A n C) n (L.flatMap ay)∧(∀i∈L,eB i)∧1≤n∧n≤2048
set_option maxRecDepth 20000 in
set_option maxHeartbeats 2000000 in
theorem wA (w:World) (b:Nat) (bh part:Int) (p:PgT) (F:Ss) (A:Option Addr) (N C:Nat) (hb0:w.cell? ⟨b,0,none⟩=some (.int .i64 bh)) (hp:cI w w.heap.size p) (hF:cE w w.heap.size A N F) (hG:ey F) (hsz:F.size≤256) (hfew:p.size≤1200):Calls Tryz.prog 54 #[.pointer (some ⟨b,0,none⟩),.int .i64 part,.slice A N C,.agg (pgC p).toArray] w fun e w'=>wy w.heap.size e w'∧Below w.heap.size w w':=by
 obtain ⟨z,hz⟩:∃z,w.heap.size=z:=⟨_,rfl⟩;obtain ⟨w1,hw1⟩:∃w1,w.alloc (.cells (pgC p).toArray 66)=w1:=⟨_,rfl⟩;have hk:Bk w1 z 66 (pgC p):=hw1▸Bk.at_ w _ _ hz rfl;have hb:Below w.heap.size w w1:=hw1▸ai w _;have hbl:b < w.heap.size:=World.block_lt_of_cell? _ _ hb0;have HW:=aa hw1;have HB:=aa hb;have HZ:=aa hz;have HK:=aa hk;have HP:=aa (hp.later hb);have HF:=aa (hF.later hb);have HG:=aa hG;have HC:Hid (w1.cell? ⟨b,0,none⟩=some (.int .i64 bh)):=(hb.cell hbl).trans hb0;have HBL:Hid (b < w1.heap.size):=Nat.lt_of_lt_of_le hbl hb.size;clear hk hw1 hz hb hb0 hp hF hG hbl;go_enter Tryz.func54,Tryz.ntmps54;go_upto_region 1 with fail
 rw [HW.out,HZ.out];go_cut [9] (fun p9 wx=>∃(g wb ms me:Nat),p9=.pointer (some ⟨g,0,none⟩)∧Hid (MkA wx w1.heap.size g wb 0 0 ⟨p,bh,ms,me⟩ none)∧Hid (Below w1.heap.size w1 wx))
 case first=>
  refine wp_region_held_drew (S:=fun wk=>Bk wk z 66 (pgC p)∧wk.cell? ⟨b,0,none⟩=some (.int .i64 bh)) (by kernel_rfl) ⟨HK.later (ac w1 _ 1),((ac w1 w1.heap.size 1).cell HBL.out).trans HC.out⟩ (fun hHeld=>?_);obtain ⟨w2,hw2⟩:∃wa,w1.drew=wa:=⟨_,rfl⟩;have hb2:Below w1.heap.size w1 w2:=hw2▸ac w1 w1.heap.size 1;rw [hw2] at hHeld ⊢;have HB2:=aa hb2;clear hw2 hb2;refine tkR 0 (pgC p) (fun w hSw=>(Bk.range (pre:=[]) (post:=[]) (by simpa using hSw.1) rfl)) Tryz.underlying66 ((db p)) ?_;refine tk 1 ?_;refine tk 2 ?_;refine tk 3 ?_;refine tkv 4 rfl (fun w hSw=>by have hcell:=hSw.2;clear hSw;go_simp;try with_reducible rfl) ?_;refine wpAnyH_ready (rs:=[5,6]) (by kernel_rfl) (by simp) ?_;refine AllReadyH.cons rfl (fun Kx hK=>?_) (AllReadyH.cons rfl (fun Kx hK=>?_) AllReadyH.nil)
  ·
   have hmm:=run_makeMap (P:=Tryz.prog) 195 w2;obtain ⟨wb,hwb⟩:∃q,w2.heap.size=q:=⟨_,rfl⟩;obtain ⟨w3,hw3⟩:∃wa,w2.alloc (.map #[] 0)=wa:=⟨_,rfl⟩;have hbn:Below w2.heap.size w2 w3:=hw3▸ai w2 _;have HD:Hid (w3.ownsMap (H:=Unit) Tryz.prog 9 (plainElem Tryz.prog 3) wb 0 (.map [])):=by show World.ownsMap _ _ _ _ _ _ _;rw [←hw3,←hwb];exact World.ownsMap_made w2 _ _ _
   rw [hwb,hw3] at hmm;have HWB:Hid (w2.heap.size=wb∧wb < w3.heap.size):=⟨hwb,HD.lt⟩;have HB3:=aa (ab HB2.out hbn);have HN3:=aa hbn;rw [if_pos (by rfl)];go_simp;clear hmm hw3 hwb hbn;refine so hK ⟨HK.later HB3.out,(HB3.cell HBL.out).trans HC.out⟩ (fun hHeld=>?_);clear hK Kx;refine wpAnyH_ready (rs:=[6]) (by kernel_rfl) (by simp) ?_;refine AllReadyH.cons rfl (fun Kx hK=>?_) AllReadyH.nil;go_simp;refine (iG w3).mono ?_;rintro e w4 ⟨⟨ms,rfl,hms,hlo⟩,hbn⟩;have HMS:=aa hms;have HSL:Hid (w3.heap.size≤ms∧ms < w4.heap.size):=⟨hlo,hms.lt⟩;have HB4:=aa (ab HB3.out hbn);have HN4:=aa hbn;clear hms hlo hbn;refine so hK ⟨HK.later HB4.out,(HB4.cell HBL.out).trans HC.out⟩ (fun hHeld=>?_);clear hK Kx;refine wpAnyH_ready (rs:=[7]) (by kernel_rfl) (by simp) ?_;refine AllReadyH.cons rfl (fun Kx hK=>?_) AllReadyH.nil;go_simp;refine (fA w4).mono ?_;rintro e w5 ⟨⟨me,rfl,hme,hlo⟩,hbn⟩;have HME:=aa hme;have HEL:Hid (w4.heap.size≤me∧me < w5.heap.size):=⟨hlo,hme.lt⟩;have HB5:=aa (ab HB4.out hbn);have HN5:=aa hbn;clear hme hlo hbn;refine so hK ⟨HK.later HB5.out,(HB5.cell HBL.out).trans HC.out⟩ (fun hHeld=>?_);clear hK Kx;have hz2:=HN3.size;have hz3:=HN4.size;have hz4:=HN5.size;have hz1:=HB2.size;have hne:ms≠wb∧me≠wb:=by have:=HWB.out;have:=HSL.out;have:=HEL.out;omega
   have HT3:Hid (Below w3.heap.size w3 w5):=HN4.trans (HN5.mono HN4.size);have HT4:Hid (Below w4.heap.size w4 w5):=HN5.out;have HT5:Hid (Below w5.heap.size w5 w5):=Below.refl _ _;have HD5:Hid (w5.ownsMap (H:=Unit) Tryz.prog 9 (plainElem Tryz.prog 3) wb 0 (.map [])):=HD.kept (av HT3.out) (by simp);have HMS5:Hid (cZ cr w5 ms):=HMS.kept (av HT4.out) (by simp);have HME5:Hid (cZ bX w5 me):=HME.kept (av HT5.out) (by simp);have HLW:Hid (w1.heap.size≤wb):=by have:=HWB.out;show _≤_;omega
   have HNE:=aa hne;clear hz1 hz2 hz3 hz4 hne;refine wpAnyH_take (i:=8) (v:=.agg (List.toArray (mkC (.slice none 0 0) ⟨p,bh,ms,me⟩ wb 0))) rfl (by kernel_rfl) (by kernel_rfl) (by kernel_rfl) (fun _ _ _ h=>h) (bF (by rfl) _ _ rfl #[(1,.agg (pgC p).toArray),(2,.int .i64 bh),(3,.map (some wb)),(5,.map (some ms)),(6,.map (some me))] (by simp [Act.eval]) _ (l0 p bh wb ms me)) (by assumption) ?_;try simp only [Act.put,q1,q2,q3,q4,q5,q6]
   refine wpAnyH_ready (rs:=[9]) (by kernel_rfl) (by simp) ?_;refine AllReadyH.cons rfl (fun Kx hK=>?_) AllReadyH.nil;go_simp;obtain ⟨g,hg⟩:∃q,w5.heap.size=q:=⟨_,rfl⟩;obtain ⟨w6,hw6⟩:∃wa,w5.alloc (.cells (mkC (.slice none 0 0) ⟨p,bh,ms,me⟩ wb 0).toArray 201)=wa:=⟨_,rfl⟩;have hbn:Below w5.heap.size w5 w6:=hw6▸ai w5 _;have HV6:Hid (Bk w6 g 201 (mkC (.slice none 0 0) ⟨p,bh,ms,me⟩ wb 0)):=by show Bk _ _ _ _;rw [←hw6,←hg];exact Bk.new' _ _ _ rfl
   have HG6:Hid (w1.heap.size≤g):=by have:=HB5.size;show _≤_;omega
   have HB6:=aa (ab HB5.out hbn);have HN6:=aa hbn;rw [hw6,hg];clear hw6 hg hbn;refine so hK ⟨HK.later HB6.out,(HB6.cell HBL.out).trans HC.out⟩ (fun hHeld=>?_);clear hK Kx;refine tk 10 ?_;refine wpAnyH_done rfl ?_ _;go_wp2_with fail
   go_meet;exact ⟨g,wb,ms,me,rfl,⟨⟨⟨none,0,0,[],HV6.out,World.ownsRow_nil _ _ _ _,fun i hi=>by simp at hi,rfl⟩,⟨0,_,HD5.kept (av HN6.out) (by simp),Nat.le_refl _⟩,⟨HG6.out,HLW.out⟩,HB6.size⟩,HMS5.kept (av HN6.out) (by simp),HME5.kept (av HN6.out) (by simp),HNE.out,HP.below HB6.out⟩,HB6.out⟩
  ·
   go_simp;refine (iG w2).mono ?_;rintro e w3 ⟨⟨ms,rfl,hms,hlo⟩,hbn⟩;have HMS:=aa hms;have HSL:Hid (w2.heap.size≤ms∧ms < w3.heap.size):=⟨hlo,hms.lt⟩;have HB3:=aa (ab HB2.out hbn);have HN3:=aa hbn;clear hms hlo hbn;refine so hK ⟨HK.later HB3.out,(HB3.cell HBL.out).trans HC.out⟩ (fun hHeld=>?_);clear hK Kx;refine wpAnyH_ready (rs:=[5,7]) (by kernel_rfl) (by simp) ?_;refine AllReadyH.cons rfl (fun Kx hK=>?_) (AllReadyH.cons rfl (fun Kx hK=>?_) AllReadyH.nil)
   ·
    have hmm:=run_makeMap (P:=Tryz.prog) 195 w3;obtain ⟨wb,hwb⟩:∃q,w3.heap.size=q:=⟨_,rfl⟩;obtain ⟨w4,hw4⟩:∃wa,w3.alloc (.map #[] 0)=wa:=⟨_,rfl⟩;have hbn:Below w3.heap.size w3 w4:=hw4▸ai w3 _;have HD:Hid (w4.ownsMap (H:=Unit) Tryz.prog 9 (plainElem Tryz.prog 3) wb 0 (.map [])):=by show World.ownsMap _ _ _ _ _ _ _;rw [←hw4,←hwb];exact World.ownsMap_made w3 _ _ _
    rw [hwb,hw4] at hmm;have HWB:Hid (w3.heap.size=wb∧wb < w4.heap.size):=⟨hwb,HD.lt⟩;have HB4:=aa (ab HB3.out hbn);have HN4:=aa hbn;rw [if_pos (by rfl)];go_simp;clear hmm hw4 hwb hbn;refine so hK ⟨HK.later HB4.out,(HB4.cell HBL.out).trans HC.out⟩ (fun hHeld=>?_);clear hK Kx;refine wpAnyH_ready (rs:=[7]) (by kernel_rfl) (by simp) ?_;refine AllReadyH.cons rfl (fun Kx hK=>?_) AllReadyH.nil;go_simp;refine (fA w4).mono ?_;rintro e w5 ⟨⟨me,rfl,hme,hlo⟩,hbn⟩;have HME:=aa hme;have HEL:Hid (w4.heap.size≤me∧me < w5.heap.size):=⟨hlo,hme.lt⟩;have HB5:=aa (ab HB4.out hbn);have HN5:=aa hbn;clear hme hlo hbn;refine so hK ⟨HK.later HB5.out,(HB5.cell HBL.out).trans HC.out⟩ (fun hHeld=>?_);clear hK Kx;have hz2:=HN3.size;have hz3:=HN4.size;have hz4:=HN5.size;have hz1:=HB2.size;have hne:ms≠wb∧me≠wb:=by have:=HWB.out;have:=HSL.out;have:=HEL.out;omega
    have HT3:Hid (Below w3.heap.size w3 w5):=HN4.trans (HN5.mono HN4.size);have HT4:Hid (Below w4.heap.size w4 w5):=HN5.out;have HT5:Hid (Below w5.heap.size w5 w5):=Below.refl _ _;have HD5:Hid (w5.ownsMap (H:=Unit) Tryz.prog 9 (plainElem Tryz.prog 3) wb 0 (.map [])):=HD.kept (av HT4.out) (by simp);have HMS5:Hid (cZ cr w5 ms):=HMS.kept (av HT3.out) (by simp);have HME5:Hid (cZ bX w5 me):=HME.kept (av HT5.out) (by simp);have HLW:Hid (w1.heap.size≤wb):=by have:=HWB.out;show _≤_;omega
    have HNE:=aa hne;clear hz1 hz2 hz3 hz4 hne;refine wpAnyH_take (i:=8) (v:=.agg (List.toArray (mkC (.slice none 0 0) ⟨p,bh,ms,me⟩ wb 0))) rfl (by kernel_rfl) (by kernel_rfl) (by kernel_rfl) (fun _ _ _ h=>h) (bF (by rfl) _ _ rfl #[(1,.agg (pgC p).toArray),(2,.int .i64 bh),(3,.map (some wb)),(5,.map (some ms)),(6,.map (some me))] (by simp [Act.eval]) _ (l0 p bh wb ms me)) (by assumption) ?_;try simp only [Act.put,q1,q2,q3,q4,q5,q6]
    refine wpAnyH_ready (rs:=[9]) (by kernel_rfl) (by simp) ?_;refine AllReadyH.cons rfl (fun Kx hK=>?_) AllReadyH.nil;go_simp;obtain ⟨g,hg⟩:∃q,w5.heap.size=q:=⟨_,rfl⟩;obtain ⟨w6,hw6⟩:∃wa,w5.alloc (.cells (mkC (.slice none 0 0) ⟨p,bh,ms,me⟩ wb 0).toArray 201)=wa:=⟨_,rfl⟩;have hbn:Below w5.heap.size w5 w6:=hw6▸ai w5 _;have HV6:Hid (Bk w6 g 201 (mkC (.slice none 0 0) ⟨p,bh,ms,me⟩ wb 0)):=by show Bk _ _ _ _;rw [←hw6,←hg];exact Bk.new' _ _ _ rfl
    have HG6:Hid (w1.heap.size≤g):=by have:=HB5.size;show _≤_;omega
    have HB6:=aa (ab HB5.out hbn);have HN6:=aa hbn;rw [hw6,hg];clear hw6 hg hbn;refine so hK ⟨HK.later HB6.out,(HB6.cell HBL.out).trans HC.out⟩ (fun hHeld=>?_);clear hK Kx;refine tk 10 ?_;refine wpAnyH_done rfl ?_ _;go_wp2_with fail
    go_meet;exact ⟨g,wb,ms,me,rfl,⟨⟨⟨none,0,0,[],HV6.out,World.ownsRow_nil _ _ _ _,fun i hi=>by simp at hi,rfl⟩,⟨0,_,HD5.kept (av HN6.out) (by simp),Nat.le_refl _⟩,⟨HG6.out,HLW.out⟩,HB6.size⟩,HMS5.kept (av HN6.out) (by simp),HME5.kept (av HN6.out) (by simp),HNE.out,HP.below HB6.out⟩,HB6.out⟩
   ·
    go_simp;refine (fA w3).mono ?_;rintro e w4 ⟨⟨me,rfl,hme,hlo⟩,hbn⟩;have HME:=aa hme;have HEL:Hid (w3.heap.size≤me∧me < w4.heap.size):=⟨hlo,hme.lt⟩;have HB4:=aa (ab HB3.out hbn);have HN4:=aa hbn;clear hme hlo hbn;refine so hK ⟨HK.later HB4.out,(HB4.cell HBL.out).trans HC.out⟩ (fun hHeld=>?_);clear hK Kx;refine wpAnyH_ready (rs:=[5]) (by kernel_rfl) (by simp) ?_;refine AllReadyH.cons rfl (fun Kx hK=>?_) AllReadyH.nil;have hmm:=run_makeMap (P:=Tryz.prog) 195 w4;obtain ⟨wb,hwb⟩:∃q,w4.heap.size=q:=⟨_,rfl⟩;obtain ⟨w5,hw5⟩:∃wa,w4.alloc (.map #[] 0)=wa:=⟨_,rfl⟩;have hbn:Below w4.heap.size w4 w5:=hw5▸ai w4 _;have HD:Hid (w5.ownsMap (H:=Unit) Tryz.prog 9 (plainElem Tryz.prog 3) wb 0 (.map [])):=by show World.ownsMap _ _ _ _ _ _ _;rw [←hw5,←hwb];exact World.ownsMap_made w4 _ _ _
    rw [hwb,hw5] at hmm;have HWB:Hid (w4.heap.size=wb∧wb < w5.heap.size):=⟨hwb,HD.lt⟩;have HB5:=aa (ab HB4.out hbn);have HN5:=aa hbn;rw [if_pos (by rfl)];go_simp;clear hmm hw5 hwb hbn;refine so hK ⟨HK.later HB5.out,(HB5.cell HBL.out).trans HC.out⟩ (fun hHeld=>?_);clear hK Kx;have hz2:=HN3.size;have hz3:=HN4.size;have hz4:=HN5.size;have hz1:=HB2.size;have hne:ms≠wb∧me≠wb:=by have:=HWB.out;have:=HSL.out;have:=HEL.out;omega
    have HT3:Hid (Below w3.heap.size w3 w5):=HN4.trans (HN5.mono HN4.size);have HT4:Hid (Below w4.heap.size w4 w5):=HN5.out;have HT5:Hid (Below w5.heap.size w5 w5):=Below.refl _ _;have HD5:Hid (w5.ownsMap (H:=Unit) Tryz.prog 9 (plainElem Tryz.prog 3) wb 0 (.map [])):=HD.kept (av HT5.out) (by simp);have HMS5:Hid (cZ cr w5 ms):=HMS.kept (av HT3.out) (by simp);have HME5:Hid (cZ bX w5 me):=HME.kept (av HT4.out) (by simp);have HLW:Hid (w1.heap.size≤wb):=by have:=HWB.out;show _≤_;omega
    have HNE:=aa hne;clear hz1 hz2 hz3 hz4 hne;refine wpAnyH_take (i:=8) (v:=.agg (List.toArray (mkC (.slice none 0 0) ⟨p,bh,ms,me⟩ wb 0))) rfl (by kernel_rfl) (by kernel_rfl) (by kernel_rfl) (fun _ _ _ h=>h) (bF (by rfl) _ _ rfl #[(1,.agg (pgC p).toArray),(2,.int .i64 bh),(3,.map (some wb)),(5,.map (some ms)),(6,.map (some me))] (by simp [Act.eval]) _ (l0 p bh wb ms me)) (by assumption) ?_;try simp only [Act.put,q1,q2,q3,q4,q5,q6]
    refine wpAnyH_ready (rs:=[9]) (by kernel_rfl) (by simp) ?_;refine AllReadyH.cons rfl (fun Kx hK=>?_) AllReadyH.nil;go_simp;obtain ⟨g,hg⟩:∃q,w5.heap.size=q:=⟨_,rfl⟩;obtain ⟨w6,hw6⟩:∃wa,w5.alloc (.cells (mkC (.slice none 0 0) ⟨p,bh,ms,me⟩ wb 0).toArray 201)=wa:=⟨_,rfl⟩;have hbn:Below w5.heap.size w5 w6:=hw6▸ai w5 _;have HV6:Hid (Bk w6 g 201 (mkC (.slice none 0 0) ⟨p,bh,ms,me⟩ wb 0)):=by show Bk _ _ _ _;rw [←hw6,←hg];exact Bk.new' _ _ _ rfl
    have HG6:Hid (w1.heap.size≤g):=by have:=HB5.size;show _≤_;omega
    have HB6:=aa (ab HB5.out hbn);have HN6:=aa hbn;rw [hw6,hg];clear hw6 hg hbn;refine so hK ⟨HK.later HB6.out,(HB6.cell HBL.out).trans HC.out⟩ (fun hHeld=>?_);clear hK Kx;refine tk 10 ?_;refine wpAnyH_done rfl ?_ _;go_wp2_with fail
    go_meet;exact ⟨g,wb,ms,me,rfl,⟨⟨⟨none,0,0,[],HV6.out,World.ownsRow_nil _ _ _ _,fun i hi=>by simp at hi,rfl⟩,⟨0,_,HD5.kept (av HN6.out) (by simp),Nat.le_refl _⟩,⟨HG6.out,HLW.out⟩,HB6.size⟩,HMS5.kept (av HN6.out) (by simp),HME5.kept (av HN6.out) (by simp),HNE.out,HP.below HB6.out⟩,HB6.out⟩
 obtain ⟨g,wb,ms,me,rfl,HM,HB2⟩:=hcut;refine ‹∀(a:Act) (w:World),Code.wp _ _ _ a w→_› _ _ ?_;obtain ⟨lo,hlo⟩:∃q,w1.heap.size=q:=⟨_,rfl⟩;have HLO:=aa hlo;rw [hlo] at HM HB2;have HLG:=aa HM.m.los;have HVN:Hid (p.vrL.length=p.vr.N∧p.vr.N≤1200∧p.paL.length=p.pa.N∧p.pa.N≤1200):=by have:=HP.lens;unfold PgT.size at hfew;show _∧_∧_∧_;omega
 have hvn:=HVN.out.2.1;have hpn:=HVN.out.2.2.2;have HKz:Hid (z < lo):=by have:=HK.lt;show _ < _;omega
 have HK0:Hid (∀wk,Below lo w1 wk→Bk wk z 66 (pgC p)):=fun wk hwk=>HK.under hwk HKz.out;have HP0:Hid (cI w1 lo p):=by show cI _ _ _;rw [←hlo];exact HP.out
 have HF0:Hid (cE w1 lo A N F):=by show cE _ _ _ _ _;rw [←hlo];exact HF.out
 have HCb:Hid (∀wk,Below lo w1 wk→wk.cell? ⟨b,0,none⟩=some (.int .i64 bh)):=fun wk hwk=>(hwk.cell (by show b < lo;rw [←hlo];exact HBL.out)).trans HC.out;clear hlo;have c3:wc.cell? ⟨z,3,none⟩=some (.slice p.vr.A p.vr.N p.vr.C):=(HK0.out wc HB2.out).cell 3;go_wp2_with fail
 clear c3;go_loopw [11,28] (fun _ i wr=>∃k:Nat,k≤p.vr.N∧i=.int .i64 k∧Hid (MkA wr lo g wb 0 k ⟨p,bh,ms,me⟩ none)∧Hid (Below lo w1 wr)) (fun _ i _=>p.vr.N - (intOf i).toNat)
 case atStart=>exact ⟨0,Nat.zero_le _,rfl,HM.out,HB2.out⟩
 case round=>
  obtain ⟨k,hk,rfl,HMr,HBr⟩:=hrel;by_cases hlt:k < p.vr.N
  ·obtain ⟨b',o,x,hA,hb,hr,hx,hok⟩:=(HP0.vr.below HBr.out).spot hlt;have HR:=aa hr;have hnm:=hok.nm;clear hr hx hok;rw [hA];go_wp2_with (first | (with_reducible refine wpList_load_mid rfl 117 _ rfl b' (o+k*4) rfl (vaC x) _ HR.out Tryz.underlying117 rfl (aQ x) ?_) | (with_reducible refine ah 117 _ _ rfl ?_))
   refine ak.go ?_;obtain ⟨g3,hg3⟩:∃q,wr.heap.size=q:=⟨_,rfl⟩;have HG3:=aa hg3;rw [hg3];refine an 117 _ _ rfl g3 hg3 (vaC x) rfl rfl rfl rfl (aQ x) (bw x) ?_;intro w3 hk hbn;have HK3:=aa hk;have HB3:=aa hbn;clear hk hbn;have HM3:=aa (HMr.later HB3.out);have HBL3:=aa (HBr.trans (HB3.mono HMr.m.hp));go_wp2_with fail
   refine wp_region_held_drew (S:=fun wk=>wk.cell? ⟨g,13,none⟩=some (.map (some wb))∧wk.cell? ⟨g3,0,none⟩=some (.string x.nm)∧Bk wk z 66 (pgC p)) (by kernel_rfl)
    ⟨(HM3.later (ac w3 _ 1)).m.c13,(HK3.later (ac w3 _ 1)).cell 0,(HK0.out w3 HBL3.out).later (ac w3 _ 1)⟩ (fun hHeld=>?_)
   obtain ⟨w4,hw4⟩:∃wa,w3.drew=wa:=⟨_,rfl⟩;have hb4:Below w3.heap.size w3 w4:=hw4▸ac w3 w3.heap.size 1;rw [hw4] at hHeld ⊢;have HB4:=aa hb4;have HM4:=aa (HM3.later hb4);have HBL4:=aa (HBL3.trans (hb4.mono HM3.m.hp));have HK4:=aa (HK3.later hb4);clear hw4 hb4;refine tk 0 ?_;refine tk 4 ?_;refine tk 7 ?_;refine tkR 6 (pgC p) (fun w hSw=>(Bk.range (pre:=[]) (post:=[]) (by simpa using hSw.2.2) rfl)) Tryz.underlying66 ((db p)) ?_;refine tk 1 ?_;refine tkv 5 rfl (fun w hSw=>by have hcell:=hSw.2.1;clear hSw;go_simp;try with_reducible rfl) ?_;refine tkv 8 rfl (fun w hSw=>by have hcell:=hSw.2.1;clear hSw;go_simp;try with_reducible rfl) ?_;refine tk 2 ?_;refine tkv 3 rfl (fun w hSw=>by have hcell:=hSw.1;clear hSw;go_simp;try with_reducible rfl) ?_;refine rd1 9 (fun K hK=>?_);go_simp
   (refine (uc w4 p x.nm ((HP0.below HBL4.out).more HM4.m.hp)).mono ?_;rintro e w5 ⟨⟨q,v,y,rfl,_,hq⟩,hbn⟩;have HQR:=aa hq;have HM5:=aa (HM4.later hbn);have HBL5:=aa (HBL4.trans (hbn.mono HM4.m.hp));have HK5:=aa (HK4.later hbn);clear hbn hq)
   refine so hK (⟨HM5.m.c13,HK5.cell 0,HK0.out w5 HBL5.out⟩) (fun hHeld=>?_);clear hK K;refine tk 10 ?_;refine tk 11 ?_;refine tk 12 ?_;refine tk 13 ?_;refine wpAnyH_ready (rs:=[14]) (by kernel_rfl) (by simp) ?_;refine AllReadyH.cons rfl (fun Kx hK=>?_) AllReadyH.nil;rw [if_pos (by rfl)];obtain ⟨m,D,hm,hmc⟩:=HM5.m.mp;have HD5:=aa hm;have HMC:=aa hmc;clear hm hmc;refine kh _ _ _ rfl wb m x.nm _ rfl rfl rfl hnm HQR.out D HD5.out (by have:=HMC.out;omega) ?_;intro w6 D6 hown6 hg6;have HM6:Hid (MkA w6 lo g wb 0 (k+1) ⟨p,bh,ms,me⟩ none):=HM5.go (HM5.m.mapped hg6 ⟨_,_,hown6,Nat.succ_le_succ HMC.out⟩) ((Fr.refl g wb w5 none).map hg6);have HBL6:=aa (HBL5.trans (HM5.m.below ((Fr.refl g wb w5 none).map hg6)));have HK6:=aa (((Fr.refl g wb w5 none).map hg6).keep HK5.out (by have:=HMr.m.lt;have:=HG3.out;omega) (by have:=HMr.m.lt;have:=HG3.out;omega) (by simp));clear hown6 hg6;refine so hK ⟨HM6.m.c13,HK6.cell 0,HK0.out w6 HBL6.out⟩ (fun hHeld=>?_);clear hK Kx;refine wpAnyH_done rfl ?_ _;go_wp2_with fail
   go_roundw
   case rel=>exact ⟨k+1,by omega,by go_num,HM6.out,HBL6.out⟩
   case measure=>simp [intOf];omega
  ·have c0:wr.cell? ⟨b,0,none⟩=some (.int .i64 bh):=HCb.out wr HBr.out;go_upto_block 2 with fail
   clear c0;have HMe:=aa HMr.out;have HBe:=aa HBr.out;obtain ⟨wq,hwq⟩:∃wq,wr=wq:=⟨_,rfl⟩;rw [hwq] at HMe HBe ⊢;clear hwq HMr HBr;go_cut [] (fun wx=>∃c',Hid (c'≤4096)∧Hid (MkA wx lo g wb 0 c' ⟨p,bh,ms,me⟩ none)∧Hid (Below lo w1 wx))
   case first=>
    by_cases h2:part=2
    ·subst h2;have c6:wq.cell? ⟨z,6,none⟩=some (.slice p.pa.A p.pa.N p.pa.C):=(HK0.out wq HBe.out).cell 6;go_wp2_with fail
     clear c6;go_loopw [13,14,58] (fun _ _ i wr=>∃q:Nat,q≤p.pa.N∧i=.int .i64 q∧Hid (MkA wr lo g wb 0 (k+q) ⟨p,bh,ms,me⟩ none)∧Hid (Below lo w1 wr)) (fun _ _ i _=>p.pa.N - (intOf i).toNat)
     case atStart=>exact ⟨0,Nat.zero_le _,rfl,HMe.out,HBe.out⟩
     case round=>
      obtain ⟨q,hq,rfl,HMr,HBr⟩:=hrel;by_cases hlq:q < p.pa.N
      ·obtain ⟨b',o,x,hA,hb,hr,hx,hok⟩:=(HP0.pa.below HBr.out).spot hlq;have HR:=aa hr;have hnm:=hok.nm;clear hr hx hok;rw [hA];go_wp2_with (first | (with_reducible refine wpList_load_mid rfl 117 _ rfl b' (o+q*4) rfl (vaC x) _ HR.out Tryz.underlying117 rfl (aQ x) ?_) | (with_reducible refine ah 117 _ _ rfl ?_))
       refine ak.go ?_;obtain ⟨g3,hg3⟩:∃q,wr.heap.size=q:=⟨_,rfl⟩;have HG3:=aa hg3;rw [hg3];refine an 117 _ _ rfl g3 hg3 (vaC x) rfl rfl rfl rfl (aQ x) (bw x) ?_;intro w3 hk hbn;have HK3:=aa hk;have HB3:=aa hbn;clear hk hbn;have HM3:=aa (HMr.later HB3.out);have HBL3:=aa (HBr.trans (HB3.mono HMr.m.hp));go_wp2_with fail
       refine wp_region_held_drew (S:=fun wk=>wk.cell? ⟨g,13,none⟩=some (.map (some wb))∧wk.cell? ⟨g3,0,none⟩=some (.string x.nm)) (by kernel_rfl)
        ⟨(HM3.later (ac w3 _ 1)).m.c13,(HK3.later (ac w3 _ 1)).cell 0⟩ (fun hHeld=>?_)
       obtain ⟨w4,hw4⟩:∃wa,w3.drew=wa:=⟨_,rfl⟩;have hb4:Below w3.heap.size w3 w4:=hw4▸ac w3 w3.heap.size 1;rw [hw4] at hHeld ⊢;have HB4:=aa hb4;have HM4:=aa (HM3.later hb4);have HBL4:=aa (HBL3.trans (hb4.mono HM3.m.hp));have HK4:=aa (HK3.later hb4);clear hw4 hb4;refine tk 0 ?_;refine tk 4 ?_;refine tk 6 ?_;refine tk 7 ?_;refine tk 1 ?_;refine tkv 5 rfl (fun w hSw=>by have hcell:=hSw.2;clear hSw;go_simp;try with_reducible rfl) ?_;refine tk 8 ?_;refine tk 2 ?_;refine tkv 3 rfl (fun w hSw=>by have hcell:=hSw.1;clear hSw;go_simp;try with_reducible rfl) ?_;refine wpAnyH_ready (rs:=[9]) (by kernel_rfl) (by simp) ?_;refine AllReadyH.cons rfl (fun Kx hK=>?_) AllReadyH.nil;rw [if_pos (by rfl)];obtain ⟨m,D,hm,hmc⟩:=HM4.m.mp;have HD5:=aa hm;have HMC:=aa hmc;clear hm hmc;refine kh _ _ _ rfl wb m _ _ rfl rfl rfl (hnm) Bo D HD5.out (by have:=HMC.out;omega) ?_;intro w6 D6 hown6 hg6;have HM6:=aa (HM4.go (HM4.m.mapped hg6 ⟨_,_,hown6,Nat.succ_le_succ HMC.out⟩) ((Fr.refl g wb w4 none).map hg6));have HBL6:=aa (HBL4.trans (HM4.m.below ((Fr.refl g wb w4 none).map hg6)));have HK6:=aa (((Fr.refl g wb w4 none).map hg6).keep HK4.out (by have:=HMr.m.lt;have:=HG3.out;omega) (by have:=HMr.m.lt;have:=HG3.out;omega) (by simp));clear hown6 hg6;refine so hK (⟨HM6.m.c13,HK6.cell 0⟩) (fun hHeld=>?_);clear hK Kx;refine wpAnyH_done rfl ?_ _;go_wp2_with fail
       go_roundw
       case rel=>exact ⟨q+1,by omega,by go_num,HM6.out,HBL6.out⟩
       case measure=>simp [intOf];omega
      ·go_wp2_with fail
       go_meet;exact ⟨k+q,by show _≤_;omega,HMr.out,HBr.out⟩
    by_cases h3:part=3
    ·subst h3;clear h2;go_wp2_with fail
     have hsi:p.si.size≤1048576:=HP.si;refine wp_region_held_drew (S:=fun wk=>wk.cell? ⟨g,13,none⟩=some (.map (some wb))∧wk.cell? ⟨z,8,none⟩=some (.string p.si)) (by kernel_rfl)
      ⟨(HMe.later (ac wq _ 1)).m.c13,((HK0.out wq HBe.out).later (ac wq _ 1)).cell 8⟩ (fun hHeld=>?_)
     obtain ⟨w4,hw4⟩:∃wa,wq.drew=wa:=⟨_,rfl⟩;have hb4:Below wq.heap.size wq w4:=hw4▸ac wq wq.heap.size 1;rw [hw4] at hHeld ⊢;have HM4:=aa (HMe.later hb4);have HBL4:=aa (HBe.trans (hb4.mono HMe.m.hp));clear hw4 hb4;refine tk 0 ?_;refine tk 4 ?_;refine tk 6 ?_;refine tk 1 ?_;refine tkv 5 rfl (fun w hSw=>by have hcell:=hSw.2;clear hSw;go_simp;try with_reducible rfl) ?_;refine tk 2 ?_;refine tkv 3 rfl (fun w hSw=>by have hcell:=hSw.1;clear hSw;go_simp;try with_reducible rfl) ?_;refine wpAnyH_ready (rs:=[7]) (by kernel_rfl) (by simp) ?_;refine AllReadyH.cons rfl (fun Kx hK=>?_) AllReadyH.nil;rw [if_pos (by rfl)];obtain ⟨m,D,hm,hmc⟩:=HM4.m.mp;have HD5:=aa hm;have HMC:=aa hmc;clear hm hmc;refine kh _ _ _ rfl wb m _ _ rfl rfl rfl (hsi) Bo D HD5.out (by have:=HMC.out;omega) ?_;intro w6 D6 hown6 hg6;have HM6:=aa (HM4.go (HM4.m.mapped hg6 ⟨_,_,hown6,Nat.succ_le_succ HMC.out⟩) ((Fr.refl g wb w4 none).map hg6));have HBL6:=aa (HBL4.trans (HM4.m.below ((Fr.refl g wb w4 none).map hg6)));clear hown6 hg6;refine so hK ⟨HM6.m.c13,(HK0.out w6 HBL6.out).cell 8⟩ (fun hHeld=>?_);clear hK Kx;refine wpAnyH_done rfl ?_ _;go_wp2_with fail
     go_meet;exact ⟨k+1,by show _≤_;omega,HM6.out,HBL6.out⟩
    have h2b:(part == 2)=false:=by simp [h2]
    have h3b:(part == 3)=false:=by simp [h3]
    go_wp2_with fail
    go_meet;exact ⟨k,by show _≤_;omega,HMe.out,HBe.out⟩
   obtain ⟨c',HCL,HM7,HB7⟩:=hcut;refine ‹∀(a:Act) (w:World),Code.wp _ _ _ a w→_› _ _ ?_;go_wp2_with fail
   refine (rL F wc lo g wb 0 c' _ none A N C HM7.out (HF0.below HB7.out) HG.out (by omega) (by have:=HCL.out;omega)).mono ?_;rintro e w8 ⟨rfl,q8,o8,hl8,hu8,hm9,hf9⟩;have HM8:=aa hm9;have HF8:=aa hf9;clear hm9 hf9;go_wp2_with fail
   refine (aL _ _ _ _ _ _ _ _ HM8.out _ _ _ _ (⟨aM rfl,aM rfl,aM rfl,aM rfl⟩) (by omega)).mono ?_;rintro e w9 ⟨rfl,o9,hm9,hf9,_⟩;have HM9:=aa hm9;have HF9:=aa hf9;clear hm9 hf9;obtain ⟨A9,C9,f9,L9,k9,r9,i9,_⟩:=HM9.m.bk;have c9:w9.cell? ⟨g,0,none⟩=some (.slice A9 (q8+1) C9):=k9.cell 0;have HR9:=aa r9;have HI9:=aa i9;clear k9 r9 i9;go_wp2_with fail
   go_ret;have hle:w.heap.size≤lo:=by rw [←HLO.out];exact HB.size
   have hbf:Below lo w1 w9:=HB7.trans (HM7.m.below (HF8.trans HF9.out));exact ⟨⟨A9,q8+1,C9,L9,rfl,dB HR9.out hle,HI9.out,by omega,by omega⟩,HB.trans (hbf.mono hle)⟩
theorem je (n:Int) (w:World):Calls Tryz.prog 30 #[.int .i64 n] w fun e w'=>e=.returned (.bool (decide (0≤n) && decide (n < 5)))∧w=w':=by
 go_enter Tryz.func30,Tryz.ntmps30;by_cases h1:0≤n
 ·by_cases h2:n < 5
  ·go_wp2_with fail
   go_ret;exact ⟨by simp [h1,h2],rfl⟩
  ·go_wp2_with fail
   go_ret;exact ⟨by simp [h1,h2],rfl⟩
 ·go_wp2_with fail
  go_ret;exact ⟨by simp [h1];omega,rfl⟩
theorem mL (w:World) (b:Nat) (bh:Int) (h:w.cell? ⟨b,0,none⟩=some (.int .i64 bh)) (hr : -1000≤bh∧bh≤1000):Calls Tryz.prog 29 #[.pointer (some ⟨b,0,none⟩)] w fun e w'=>e=.returned (.int .i64 (bh+49))∧w=w':=by
 have hw:wrap64 (bh+49)=bh+49:=IntWalk.wrap64_in _ (by omega);go_enter Tryz.func29,Tryz.ntmps29;go_wp2_with fail
 go_ret;exact ⟨by simp [hw],rfl⟩
theorem yw (w:World):(Instr.buildSlice 42 0 #[]).run Tryz.prog w=.ok (.slice (some ⟨w.heap.size,0,none⟩) 0 0) (w.alloc (.cells #[] 51)):=by kernel_rfl
structure CdT where
 bh:Int
 seats:Int
 F:Sln
 P:Sln
 I:Nat→Sln
 m0:Int
 m1:Int
 m2:Int
 m3:Int
 m4:Int
def cdC (c:CdT):List Value:=[.int .i64 c.bh,.int .i64 c.seats,.slice c.F.A c.F.N c.F.C,.slice c.P.A c.P.N c.P.C,.slice (c.I 0).A (c.I 0).N (c.I 0).C,.slice (c.I 1).A (c.I 1).N (c.I 1).C,.slice (c.I 2).A (c.I 2).N (c.I 2).C,.slice (c.I 3).A (c.I 3).N (c.I 3).C,.slice (c.I 4).A (c.I 4).N (c.I 4).C,.int .i64 c.m0,.int .i64 c.m1,.int .i64 c.m2,.int .i64 c.m3,.int .i64 c.m4]
structure bZ (w:World) (B:Nat) (s:Sln) (L:List aX):Prop where
 sl:Sl w B 4 s.A s.N (L.flatMap ay)
 ok:∀i∈L,eB i
 one:1≤s.N
 few:s.N≤2048
theorem bZ.len {w:World} {B:Nat} {s:Sln} {L:List aX} (h:bZ w B s L):L.length=s.N:=by have:=h.sl.len;rw [eC] at this;omega
theorem bZ.below {w w' : World} {B:Nat} {s:Sln} {L:List aX} (h:bZ w B s L) (hb:Below B w w'):bZ w' B s L:=⟨h.sl.below hb,h.ok,h.one,h.few⟩
theorem bZ.more {w:World} {B B' : Nat} {s:Sln} {L:List aX} (h:bZ w B s L) (hB:B≤B'):bZ w B' s L:=⟨h.sl.more hB,h.ok,h.one,h.few⟩
theorem rM {w:World} {B:Nat} {s:Sln} {L:List aX} (h:bZ w B s L):∃ad,s.A=some ad:=by obtain ⟨ad,e,_⟩:=h.sl.mem (by have:=h.one;omega);exact ⟨ad,e⟩
set_option maxRecDepth 20000 in
theorem dX (w:World) (s:Sln) (L:List aX) (h:bZ w w.heap.size s L):Calls Tryz.prog 31 #[.slice s.A s.N s.C] w fun e w'=>(∃v,e=.returned v∧w'.ownsRow w.heap.size 51 4 v s.N (L.flatMap ay))∧Below w.heap.size w w':=by
 obtain ⟨ad,he⟩:=rM h;have HS:=aa h.sl;have hn:s.N≤2048:=h.few;rw [he] at HS ⊢;have hc:∀w,(Go.binOp BinOp.eql 42 (.slice (some ad) s.N s.C) (.slice none 0 0)).run Tryz.prog w=.ok (.bool false) w:=fun w=>by kernel_rfl
 clear h he;go_enter Tryz.func31,Tryz.ntmps31;go_wp2_with (with_reducible refine a8 42 _ _ rfl ?_)
 refine ak.go ?_;refine ar rfl 42 0 _ rfl #[] ?_ 51 [] (fun w=>yw w) ?_
 ·simp [Act.eval,Act.put]
 intro q2 w2 hq2 hb2 hbn;have HS2:=aa (HS.later hbn);have HB2:=aa hbn;have HO2:Hid (w2.ownsRow w.heap.size 51 4 (.slice (some ⟨q2,0,none⟩) 0 0) 0 []):=hb2.own (base:=w.heap.size) (size:=4) (cap:=0) (n:=0) (by omega) (Nat.le_refl _) (by omega) rfl rfl;clear hq2 hb2 hbn;obtain ⟨i0,hj,hj0,hj1,hj2⟩:=info_parts Tryz.infoIns;have hbw:w.heap.size≤w2.heap.size:=HB2.size;have hone:∀x∈L.flatMap ay,x.oneCell'=true:=fun x hx=>by obtain ⟨i,_,hi⟩:=List.mem_flatMap.1 hx;exact dN i x hi
 go_wp2_with (at_builtin;refine bm _ rfl (.tmp 5) (.tmp 6) 42 rfl w.heap.size 51 i0 _ _ _ Tryz.underlying42 hj hj0 hj1 hj2 rfl (by decide) _ _ _ rfl HO2.out _ _ _ _ _ rfl HS2.out hone (by unfold maxLen;omega) (by omega) hbw ?_;intro v4 w4 hown hg hat;refine bA ?_)
 refine ak.go ?_;have HO4:Hid (w4.ownsRow w.heap.size 51 4 v4 s.N (L.flatMap ay)):=by show World.ownsRow _ _ _ _ _ _ _;simpa using hown
 have HB4:=aa (aB HB2.out HO2.out hg (Nat.le_refl _) hbw);clear hown hg hat hj hj0 hj1 hj2 i0 hone;go_wp2_with fail
 go_ret;exact ⟨⟨_,rfl,HO4.out⟩,HB4.out⟩
set_option maxRecDepth 20000 in
theorem rN (w:World) (b:Nat) (c:CdT) (k:Nat) (L:List aX) (hk:k≤4) (h:Bk w b 87 (cdC c)) (hI:bZ w w.heap.size (c.I k) L):Calls Tryz.prog 9 #[.pointer (some ⟨b,0,none⟩),.int .i64 k] w fun e w'=>(∃v,e=.returned v∧w'.ownsRow w.heap.size 51 4 v (c.I k).N (L.flatMap ay))∧Below w.heap.size w w':=by
 have HB:=aa h;have HI:=aa hI;clear h hI;have:k=0∨k=1∨k=2∨k=3∨k=4:=by omega
 rcases this with rfl | rfl | rfl | rfl | rfl
 ·go_enter Tryz.func9,Tryz.ntmps9;have c4:w.cell? ⟨b,4+0,none⟩=some (.slice (c.I 0).A (c.I 0).N (c.I 0).C):=HB.cell (4+0);simp only [Nat.reduceAdd] at c4;go_wp2_with (go_at_call 30;refine (je _ _).mono ?_;rintro e w' ⟨rfl,rfl⟩)
  refine (dX w (c.I 0) L HI.out).mono ?_;rintro e w2 ⟨⟨v,rfl,hown⟩,hbn⟩;have HO:=aa hown;have HB2:=aa hbn;clear hown hbn c4;go_wp2_with fail
  go_ret;exact ⟨⟨v,rfl,HO.out⟩,HB2.out⟩
 ·go_enter Tryz.func9,Tryz.ntmps9;have c4:w.cell? ⟨b,4+1,none⟩=some (.slice (c.I 1).A (c.I 1).N (c.I 1).C):=HB.cell (4+1);simp only [Nat.reduceAdd] at c4;go_wp2_with (go_at_call 30;refine (je _ _).mono ?_;rintro e w' ⟨rfl,rfl⟩)
  refine (dX w (c.I 1) L HI.out).mono ?_;rintro e w2 ⟨⟨v,rfl,hown⟩,hbn⟩;have HO:=aa hown;have HB2:=aa hbn;clear hown hbn c4;go_wp2_with fail
  go_ret;exact ⟨⟨v,rfl,HO.out⟩,HB2.out⟩
 ·go_enter Tryz.func9,Tryz.ntmps9;have c4:w.cell? ⟨b,4+2,none⟩=some (.slice (c.I 2).A (c.I 2).N (c.I 2).C):=HB.cell (4+2);simp only [Nat.reduceAdd] at c4;go_wp2_with (go_at_call 30;refine (je _ _).mono ?_;rintro e w' ⟨rfl,rfl⟩)
  refine (dX w (c.I 2) L HI.out).mono ?_;rintro e w2 ⟨⟨v,rfl,hown⟩,hbn⟩;have HO:=aa hown;have HB2:=aa hbn;clear hown hbn c4;go_wp2_with fail
  go_ret;exact ⟨⟨v,rfl,HO.out⟩,HB2.out⟩
 ·go_enter Tryz.func9,Tryz.ntmps9;have c4:w.cell? ⟨b,4+3,none⟩=some (.slice (c.I 3).A (c.I 3).N (c.I 3).C):=HB.cell (4+3);simp only [Nat.reduceAdd] at c4;go_wp2_with (go_at_call 30;refine (je _ _).mono ?_;rintro e w' ⟨rfl,rfl⟩)
  refine (dX w (c.I 3) L HI.out).mono ?_;rintro e w2 ⟨⟨v,rfl,hown⟩,hbn⟩;have HO:=aa hown;have HB2:=aa hbn;clear hown hbn c4;go_wp2_with fail
  go_ret;exact ⟨⟨v,rfl,HO.out⟩,HB2.out⟩
 ·go_enter Tryz.func9,Tryz.ntmps9;have c4:w.cell? ⟨b,4+4,none⟩=some (.slice (c.I 4).A (c.I 4).N (c.I 4).C):=HB.cell (4+4);simp only [Nat.reduceAdd] at c4;go_wp2_with (go_at_call 30;refine (je _ _).mono ?_;rintro e w' ⟨rfl,rfl⟩)
  refine (dX w (c.I 4) L HI.out).mono ?_;rintro e w2 ⟨⟨v,rfl,hown⟩,hbn⟩;have HO:=aa hown;have HB2:=aa hbn;clear hown hbn c4;go_wp2_with fail
  go_ret;exact ⟨⟨v,rfl,HO.out⟩,HB2.out⟩
def aF (pc:Int) (v:Value) (halt:Int):List Value:=[.int .i64 pc,v,.int .i64 halt]
theorem aN (pc:Int) (v:Value) (halt:Int):(Tryz.prog.info? 38).map (·.size)=some (aF pc v halt).length:=(show (Tryz.prog.info? 38).map (·.size)=some 3 by kernel_rfl)
theorem dq (pc:Int) (A:Option Addr) (N C:Nat) (halt:Int):∀v∈aF pc (.slice A N C) halt,v.oneCell'=true:=by intro v hv;simp only [aF,List.mem_cons,List.not_mem_nil,or_false] at hv;rcases hv with rfl | rfl | rfl <;> rfl
theorem ud (A:Option Addr) (N C:Nat) (w:World):(Instr.build 38 #[(1,.slice A N C)]).run Tryz.prog w=.ok (.agg (aF 0 (.slice A N C) 0).toArray) w:=by kernel_rfl
theorem Tryz.infoI32:(Tryz.prog.info? 21).map (fun i=>(i.zero,i.size,i.bytes))=some (some (.int .i32 0),1,4):=by kernel_rfl
def zer (n:Nat):List Int:=List.replicate n 0
theorem mg (N:Nat) (hN:N≤5000) (W:World):(Instr.makeSlice 27 (.int .i64 (N:Int)) (.int .i64 (N:Int))).run Tryz.prog W=.ok (.slice (some ⟨W.heap.size,0,none⟩) N N) (W.alloc (.cells ((zer N).map (.int .i32)).toArray 21)):=by
 obtain ⟨d0,hdi,hd0,hd1,hd2⟩:=info_parts Tryz.infoI32;have:=run_make (P:=Tryz.prog) W 27 21 d0 (.int .i32 0) Tryz.underlying27 hdi hd0 .i64 .i64 N N (by omega) (Int.le_refl _) (by rw [hd2];omega) (by omega);rw [hd1,Int.toNat_natCast,Nat.mul_one] at this;have hz:madeCells (Value.int .i32 0).cells N=((zer N).map (.int .i32)).toArray:=by have h1:=pb (z:=Value.int .i32 0) (n:=N);show madeCells #[Value.int .i32 0] N=_;rw [←Array.toArray_toList (xs:=madeCells #[Value.int .i32 0] N),h1];simp [zer]
 rw [hz] at this;exact this
set_option maxRecDepth 20000 in
theorem wB (w:World) (n:Nat) (h1:1≤n) (h2:n≤256):Calls Tryz.prog 28 #[.int .i64 n] w fun e w'=>(∃(A:Option Addr) (C:Nat),e=.returned (.tuple #[.agg (aF 0 (.slice A n C) 0).toArray,.int .i64 0])∧w'.ownsRow w.heap.size 21 1 (.slice A n C) n ((zer n).map (.int .i32)))∧Below w.heap.size w w':=by
 obtain ⟨z,hz⟩:∃z,w.heap.size=z:=⟨_,rfl⟩;obtain ⟨w1,hw1⟩:∃w1,w.alloc (.cells #[.int .i64 0,.slice none 0 0,.int .i64 0] 38)=w1:=⟨_,rfl⟩;have hk:Bk w1 z 38 (aF 0 (.slice none 0 0) 0):=hw1▸Bk.at_ w _ _ hz rfl;have hb:Below w.heap.size w w1:=hw1▸ai w _;have HW:=aa hw1;have HB:=aa hb;have HZ:=aa hz;have HK:=aa hk;have g1:(1:Int)≤n:=by omega
 have g2:¬((256:Int) < n):=by omega
 clear hk hw1 hz hb;go_enter Tryz.func28,Tryz.ntmps28;go_upto_region 1 with fail
 rw [HW.out,HZ.out];obtain ⟨q,hq⟩:∃q,w1.heap.size=q:=⟨_,rfl⟩;obtain ⟨w2,hw2⟩:∃w2,w1.alloc (.cells ((zer n).map (.int .i32)).toArray 21)=w2:=⟨_,rfl⟩;have hmk:=mg n (by omega) w1;rw [hq,hw2] at hmk;have hb2:Below w1.heap.size w1 w2:=hw2▸ai w1 _;have hk2:Bk w2 q 21 ((zer n).map (.int .i32)):=hw2▸Bk.at_ w1 _ _ hq (by simp);have HO2:Hid (w2.ownsRow w.heap.size 21 1 (.slice (some ⟨q,0,none⟩) n n) n ((zer n).map (.int .i32))):=hk2.own (base:=w.heap.size) (size:=1) (cap:=n) (n:=n) (by have:=HB.size;omega) (Nat.le_refl _) (by omega) (by simp [zer]) (by simp [zer]);have HB2:=aa hb2;have HK2:=aa (HK.later hb2);have HBS:=ud (some ⟨q,0,none⟩) n n;clear hq hw2 hb2 hk2;go_wp2_with (with_reducible refine ah 38 _ _ rfl ?_)
 refine ak.go ?_;refine ae rfl 38 _ _ rfl z 0 (.agg (aF 0 (.slice (some ⟨q,0,none⟩) n n) 0).toArray) (aF 0 (.slice (some ⟨q,0,none⟩) n n) 0) rfl rfl rfl 38 [] (aF 0 (.slice none 0 0) 0) [] (by simpa using HK2.out) rfl rfl (aN _ _ _) (dq _ _ _ _ _) ?_;intro w3 hp;have hbk:Bk w3 z 38 (aF 0 (.slice (some ⟨q,0,none⟩) n n) 0):=by have:=hp.bk;simpa using this
 have HBK:=aa hbk;have HO3:=aa (bx HO2.out hp.only (aP HO2.out HK2.out (by decide)));have HB3:=aa (ag (ab HB.out HB2.out) hp.only (ab HB.out HB2.out).size (by have:=HZ.out;omega));clear hp hbk hmk;go_wp2_with fail
 refine bodyPost_ret (bp rfl _ _ z 38 (aF 0 (.slice (some ⟨q,0,none⟩) n n) 0) _ rfl HBK.out Tryz.underlying38 rfl (aN _ _ _)) rfl ?_;exact ⟨⟨_,n,rfl,HO3.out⟩,HB3.out⟩
theorem zX (w:World):(Instr.buildSlice 63 0 #[]).run Tryz.prog w=.ok (.slice (some ⟨w.heap.size,0,none⟩) 0 0) (w.alloc (.cells #[] 117)):=by kernel_rfl
set_option maxRecDepth 20000 in
theorem mM (w:World) (A:Option Addr) (N C:Nat) (l:List VaT) (h:el w w.heap.size A N l) (hN:N≤1048576):Calls Tryz.prog 53 #[.slice A N C] w fun e w'=>(∃v,e=.returned v∧w'.ownsRow w.heap.size 117 4 v N (l.flatMap vaC))∧Below w.heap.size w w':=by
 have hl:=h.len;have HS:=aa h.sl;clear h;cases A with
 | none=>
  obtain rfl:N=0:=by
   by_cases h0:0 < N
   ·obtain ⟨ad,e,_⟩:=HS.mem h0;cases e
   ·omega
  obtain rfl:l=[]:=List.eq_nil_of_length_eq_zero hl;have hc:∀w,(Go.binOp BinOp.eql 63 (.slice none 0 C) (.slice none 0 0)).run Tryz.prog w=.ok (.bool true) w:=fun w=>by kernel_rfl
  go_enter Tryz.func53,Tryz.ntmps53;go_wp2_with fail
  go_ret;exact ⟨⟨_,rfl,World.ownsRow_nil _ _ _ _⟩,Below.refl _ _⟩
 | some ad=>
  have hc:∀w,(Go.binOp BinOp.eql 63 (.slice (some ad) N C) (.slice none 0 0)).run Tryz.prog w=.ok (.bool false) w:=fun w=>by kernel_rfl
  go_enter Tryz.func53,Tryz.ntmps53;go_wp2_with (with_reducible refine a8 63 _ _ rfl ?_)
  refine ak.go ?_;refine ar rfl 63 0 _ rfl #[] ?_ 117 [] (fun w=>zX w) ?_
  ·simp [Act.eval,Act.put]
  intro q2 w2 hq2 hb2 hbn;have HS2:=aa (HS.later hbn);have HB2:=aa hbn;have HO2:Hid (w2.ownsRow w.heap.size 117 4 (.slice (some ⟨q2,0,none⟩) 0 0) 0 []):=hb2.own (base:=w.heap.size) (size:=4) (cap:=0) (n:=0) (by omega) (Nat.le_refl _) (by omega) rfl rfl;clear hq2 hb2 hbn;obtain ⟨i0,hj,hj0,hj1,hj2⟩:=info_parts Tryz.infoVa;have hbw:w.heap.size≤w2.heap.size:=HB2.size;have hone:∀x∈l.flatMap vaC,x.oneCell'=true:=fun x hx=>by obtain ⟨i,_,hi⟩:=List.mem_flatMap.1 hx;exact bw i x hi
  go_wp2_with (at_builtin;refine bm _ rfl (.tmp 5) (.tmp 6) 63 rfl w.heap.size 117 i0 _ _ _ Tryz.underlying63 hj hj0 hj1 hj2 rfl (by decide) _ _ _ rfl HO2.out _ _ _ _ _ rfl HS2.out hone (by unfold maxLen;omega) (by omega) hbw ?_;intro v4 w4 hown hg hat;refine bA ?_)
  refine ak.go ?_;have HO4:Hid (w4.ownsRow w.heap.size 117 4 v4 N (l.flatMap vaC)):=by show World.ownsRow _ _ _ _ _ _ _;simpa using hown
  have HB4:=aa (aB HB2.out HO2.out hg (Nat.le_refl _) hbw);clear hown hg hat hj hj0 hj1 hj2 i0 hone;go_wp2_with fail
  go_ret;exact ⟨⟨_,rfl,HO4.out⟩,HB4.out⟩
set_option maxRecDepth 20000 in
theorem iI (w:World) (v:VaT):Calls Tryz.prog 70 #[.agg (vaC v).toArray] w fun e w'=>e=.returned (.int .i64 (eO v))∧Below w.heap.size w w':=by
 obtain ⟨w1,hw1⟩:∃w1,w.alloc (.cells (vaC v).toArray 81)=w1:=⟨_,rfl⟩;have hk:Bk w1 w.heap.size 81 (vaC v):=hw1▸Bk.new' w _ _ rfl;have hb:Below w.heap.size w w1:=hw1▸ai w _;have c1:=hk.cell 1;simp only [vaC,List.getElem?_cons_succ,List.getElem?_cons_zero] at c1;have HW:=aa hw1;have HB:=aa hb;clear hk hb hw1;obtain ⟨q,hq⟩:∃q,eO v=q:=⟨_,rfl⟩;rw [hq];have HQ:=aa hq;clear hq;go_enter Tryz.func70,Tryz.ntmps70;go_upto_region 1 with fail
 rw [HW.out];by_cases h1:v.sz < 1
 ·go_wp2_with fail
  go_ret;have e:q=1:=by rw [←HQ.out,eO,if_neg (by simp [dt];omega)]
  exact ⟨by rw [e];rfl,HB.out⟩
 ·by_cases h2:64 < v.sz
  ·go_wp2_with fail
   go_ret;have e:q=1:=by rw [←HQ.out,eO,if_neg (by simp [dt];omega)]
   exact ⟨by rw [e];rfl,HB.out⟩
  ·go_wp2_with fail
   go_ret;have e:q=v.sz:=by rw [←HQ.out,eO,if_pos (by simp [dt];omega)]
   exact ⟨by rw [e];rfl,HB.out⟩
set_option maxRecDepth 20000 in
theorem rO (w:World) (p:PgT) (h:cI w w.heap.size p):Calls Tryz.prog 26 #[.agg (pgC p).toArray] w fun e w'=>e=.returned (.int .i64 (bI p.vrL))∧Below w.heap.size w w':=by
 obtain ⟨z,hz⟩:∃z,w.heap.size=z:=⟨_,rfl⟩;obtain ⟨w1,hw1⟩:∃w1,w.alloc (.cells (pgC p).toArray 26)=w1:=⟨_,rfl⟩;have hk:Bk w1 z 26 (pgC p):=hw1▸Bk.at_ w _ _ hz rfl;have hb:Below w.heap.size w w1:=hw1▸ai w _;have HW:=aa hw1;have HB:=aa hb;have HV:=aa (h.vr.below hb);have HK:=aa hk;have HZ:=aa hz;have hlen:=h.vr.len;have HLN:=aa hlen;have hN2:p.vr.N≤1048576:=by have:=h.few;unfold PgT.size at this;omega
 have HR:=aa (eY p.vrL);clear hk hw1 h hb hlen hz;go_enter Tryz.func26,Tryz.ntmps26;go_upto_region 1 with fail
 rw [HW.out,HZ.out];go_wp2_with fail
 go_loopw [3,4] (fun s i wr=>∃(k:Nat) (sv:Int),k≤p.vr.N∧i=.int .i64 k∧s=.int .i64 sv∧0≤sv∧sv≤67108864∧Hid (sv+bI (p.vrL.drop k)=bI p.vrL)∧Hid (Below w1.heap.size w1 wr)) (fun _ i _=>p.vr.N - (intOf i).toNat)
 case atStart=>exact ⟨0,0,Nat.zero_le _,rfl,rfl,by omega,by omega,by show _=_;simp,Below.refl _ _⟩
 case round=>
  obtain ⟨k,sv,hk,rfl,rfl,hs0,hs1,hs,hB⟩:=hrel;have c3:wr.cell? ⟨z,3,none⟩=some (.slice p.vr.A p.vr.N p.vr.C):=(HK.later hB.out).cell 3;by_cases hlt:k < p.vr.N
  ·obtain ⟨b,o,x,hA,hb,hr,hx,hok⟩:=(HV.below (hB.out.mono HB.size)).spot hlt;have HR2:=aa hr;have hss:=hs.out;rw [dJ hx,bI] at hss;have hrn:=eY (p.vrL.drop (k+1));have hrx:=iZ x;have hRt:=HR.out;rw [HLN.out] at hRt;obtain ⟨q,hq⟩:∃q,eO x=q:=⟨_,rfl⟩;have hcz:Hid (∀wk,Calls Tryz.prog 70 #[.agg (vaC x).toArray] wk fun e w'=>e=.returned (.int .i64 q)∧Below wk.heap.size wk w'):=fun wk=>by rw [←hq];exact iI wk x
   rw [hq] at hss hrx;have HSS:=aa hss;have hsum:0≤sv+q∧sv+q≤67108864:=by omega
   obtain ⟨hsum1,hsum2⟩:=hsum;clear hr hx hok hss hrn hRt hq hs;rw [hA] at c3;have hkN:(k:Int) < p.vr.N:=by omega
   go_wp2_with (with_reducible refine wpList_load_mid rfl 81 _ rfl b (o+k*4) rfl (vaC x) _ HR2.out Tryz.underlying81 rfl (bQ x) ?_)
   refine (hcz.out wr).mono ?_;rintro e w3 ⟨rfl,hb3⟩;have HB3:=aa hb3;clear hb3 c3;go_wp2_with fail
   go_roundw
   case rel=>exact ⟨k+1,sv+q,by omega,by go_num,by go_num,hsum1,hsum2,by have:=HSS.out;show _=_;omega,ab hB.out HB3.out⟩
   case measure=>simp [intOf];omega
  ·go_wp2_with fail
   go_ret;go_light;have e1:=hs.out;rw [List.drop_eq_nil_of_le (by rw [HLN.out];omega)] at e1;exact ⟨by rw [←e1];simp [bI],ab HB.out hB.out⟩
end Go.Proofs.YtllbdpdnpaocnaaGreatDoor
