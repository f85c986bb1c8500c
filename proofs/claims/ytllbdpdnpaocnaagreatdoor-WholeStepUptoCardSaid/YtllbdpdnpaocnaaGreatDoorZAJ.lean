/- Part of the proof of WholeStep. -/
import Derived.Test.YtllbdpdnpaocnaaGreatDoorZAI
import Derived.WalkMore
namespace Go.Proofs.YtllbdpdnpaocnaaGreatDoor
set_option linter.unusedSimpArgs false
set_option linter.unusedVariables false
set_option linter.constructorNameAsVariable false
open Go.RowKit Go.Maps
theorem bG {w w' w'' : World} {r:Option Nat} (h:w.grownBy w' r) (k:w'.grownBy w'' r):w.grownBy w'' r:=
 ⟨k.os.trans h.os,k.tape.trans h.tape,k.output.trans h.output,Nat.le_trans h.size k.size,fun i hi hne=>(k.block i (Nat.lt_of_lt_of_le hi h.size) hne).trans (h.block i hi hne)⟩
theorem eR {w w' : World} (h:Below w.heap.size w w') (r:Option Nat):w.grownBy w' r:=⟨h.os,h.tape,h.output,h.size,fun i hi _=>h.block i hi⟩
theorem lX {w w' : World} {b lo:Nat} (h:w.grownBy w' (some b)) (hb:lo≤b) (hlo:lo≤w.heap.size):Below lo w w':=
 ⟨h.os,h.tape,h.output,h.size,fun i hi=>h.block i (by omega) (fun e=>by injection e with e;omega)⟩
def vS (F:Es):Prop:=∀(w:World) (m1 m2:Nat) (op n:Int) (nm:ByteArray) (A:Option Addr) (N C:Nat),j8 w m1 m2→de w w.heap.size A N F→F.size≤1048576→(-9223372036854775808≤op∧op < 9223372036854775808)→
 Calls Tryz.prog 242 #[.agg (ctC m1 m2).toArray,.agg (exC op n nm A N C).toArray] w fun e w'=>il e∧Below w.heap.size w w'
def zS (F:Es):Prop:=∀(w:World) (lo m1 m2 b:Nat) (n:Int) (A:Option Addr) (N C:Nat),j8 w m1 m2→de w lo A N F→lo≤b→lo≤w.heap.size→F.size≤1048576→Bk w b 3 [.int .i64 n]→
 Calls Tryz.prog 219 #[.agg (ctC m1 m2).toArray,kL b,.slice A N C] w fun e w'=>e=.returned (.tuple #[])∧(∃n' : Int,Bk w' b 3 [.int .i64 n'])∧w.grownBy w' (some b)
set_option maxRecDepth 20000 in
theorem vT (F:Es) (hE:∀G:Es,G.size < F.size→vS G):zS F:=by
 intro w lo m1 m2 sb n A N C hct hF hlb hlo hsz hbk;have hN2:N≤1048576:=by have:=hF.len;have:=Es.len_size F;omega
 have hcs:=dH sb;unfold kL;obtain ⟨z,hz⟩:∃z,w.heap.size=z:=⟨_,rfl⟩;have hzb:z≠sb:=by have:=hbk.lt;omega
 obtain ⟨w1,hw1⟩:∃w1,w.alloc (.cells (ctC m1 m2).toArray 190)=w1:=⟨_,rfl⟩;have hk:Bk w1 z 190 (ctC m1 m2):=hw1▸Bk.at_ w _ _ hz rfl;have hb1:Below w.heap.size w w1:=hw1▸ai w _;have HW:=aa hw1;have HB:=aa hb1;have HZ:=aa hz;have HK:=aa hk;have HCT:=aa (hct.later hb1);have HF:=aa (hF.below (hb1.mono hlo));have HBK:=aa (hbk.later hb1);have HLO:=aa (Nat.le_trans hlo hb1.size);have HE:=aa hE;have HZB:=aa hzb;have HLB:=aa hlb;clear hk hw1 hz hb1 hct hF hlo hbk hE hzb hlb;go_enter Tryz.func219,Tryz.ntmps219;go_upto_region 1 with fail
 rw [HW.out,HZ.out];go_wp2_with fail
 go_step3;go_wp2_with fail
 go_step3;go_wp2_with fail
 go_loopw [7,10] (fun _ i wr=>∃(k:Nat) (q:Int),k≤N∧i=.int .i64 k∧Hid (Bk wr sb 3 [.int .i64 q])∧Hid (w1.grownBy wr (some sb))) (fun _ i _=>N - (intOf i).toNat)
 case atStart=>exact ⟨0,n,Nat.zero_le _,rfl,HBK.out,eR (Below.refl _ _) _⟩
 case round=>
  obtain ⟨k,q,hk,rfl,hBq,hG⟩:=hrel;by_cases hlt:k < N
  ·obtain ⟨b,o,op',n',nm',A',N',C',kids,rest,hA,hb,hr,e1,e2,hkd,hop',_,_,_,hks⟩:=(HF.below (lX hG.out HLB.out HLO.out)).spot hlt;subst hA;have HR:=aa hr;have HLO2:=aa (Nat.le_trans HLO.out hG.out.size);have HCT2:=aa (HCT.grown HBK.out hG.out);have HCC:Hid (∀wk,Below wr.heap.size wr wk→Calls Tryz.prog 242 #[.agg (ctC m1 m2).toArray,.agg (exC op' n' nm' A' N' C').toArray] wk fun e w'=>il e∧Below wk.heap.size wk w'):=fun wk hwk=>HE.out kids hks wk m1 m2 op' n' nm' A' N' C' (HCT2.later hwk) ((hkd.below (hwk.mono HLO2.out)).more (Nat.le_trans HLO2.out hwk.size)) (by omega) hop';clear hkd hr e1 e2 hks hop';have HKr:=aa (HK.grown hG.out (fun e=>by injection e with e;exact HZB.out e));go_wp2_with (first | (with_reducible refine wpList_load_mid rfl 257 _ rfl b (o+k*4) rfl (exC op' n' nm' A' N' C') _ HR.out Tryz.underlying257 rfl (aV _ _ _ _ _ _) ?_) | (with_reducible refine ah 257 _ _ rfl ?_))
   refine ak.go ?_;obtain ⟨g3,hg3⟩:∃q,wr.heap.size=q:=⟨_,rfl⟩;rw [hg3];refine an 257 _ _ rfl g3 hg3 (exC op' n' nm' A' N' C') rfl rfl rfl rfl (aV _ _ _ _ _ _) (gY _ _ _ _ _ _) ?_;intro w3 hk hbn;have HK3:=aa hk;have HB3:=aa hbn;clear hk hbn;have HKz:=aa (HKr.later HB3.out);go_wp2_with (first | (with_reducible refine aj rfl 257 _ rfl g3 rfl (exC op' n' nm' A' N' C') 257 HK3.out _ Tryz.underlying257 rfl (aV _ _ _ _ _ _) ?_) | (with_reducible refine aj rfl 190 _ rfl z rfl (ctC m1 m2) 190 HKz.out _ Tryz.underlying190 rfl (cj _ _) ?_))
   refine (HCC.out _ HB3.out).mono ?_;rintro e w4 ⟨⟨v,rfl⟩,hbn⟩;have HB4:=aa (ab HB3.out hbn);have HBq4:=aa (hBq.out.later (ab HB3.out hbn));clear hbn;go_wp2_with fail
   refine (bd w4 sb q v HBq4.out).mono ?_;rintro e w5 ⟨⟨q',rfl,hbq⟩,hg⟩;have HB5:=aa hbq;have HG5:=aa (bG hG.out (bG (eR HB4.out _) hg));clear hbq hg;by_cases hgt:65536 < q'
   ·go_wp2_with fail
    rw [Exit.noGoto_normal];refine bodyPost_end (results_none rfl _ _ _) rfl ?_;exact ⟨rfl,⟨q',HB5.out⟩,bG (eR HB.out _) HG5.out⟩
   ·go_wp2_with fail
    go_roundw
    case rel=>exact ⟨k+1,q',by omega,by go_num,HB5.out,HG5.out⟩
    case measure=>simp [intOf];omega
  ·go_wp2_with fail
   rw [Exit.noGoto_normal];refine bodyPost_end (results_none rfl _ _ _) rfl ?_;exact ⟨rfl,⟨q,hBq.out⟩,bG (eR HB.out _) hG.out⟩
theorem nt (w:World):(zeroValue 277).run Tryz.prog w=.ok (.agg #[.int .i64 0,.bool false]) w:=by kernel_rfl
theorem jd (n:Int) (b:Bool):(Tryz.prog.info? 277).map (·.size)=some ([.int .i64 n,.bool b]:List Value).length:=by kernel_rfl
theorem j9 (n:Int) (b:Bool):∀v∈([.int .i64 n,.bool b]:List Value),v.oneCell'=true:=by intro v hv;simp only [List.mem_cons,List.not_mem_nil,or_false] at hv;rcases hv with rfl | rfl <;> rfl
set_option maxRecDepth 20000 in
set_option maxHeartbeats 1000000 in
theorem yi (F:Es) (hA:zS F):vS F:=by
 intro w m1 m2 op n nm A N C hct hF hsz hop;obtain ⟨z,hz⟩:∃z,w.heap.size=z:=⟨_,rfl⟩;obtain ⟨w1,hw1⟩:∃w1,(w.alloc (.cells (ctC m1 m2).toArray 190)).alloc (.cells (exC op n nm A N C).toArray 257)=w1:=⟨_,rfl⟩;have hk:Bk w1 z 190 (ctC m1 m2):=hw1▸(Bk.at_ w _ _ hz rfl).alloc _;have hx:Bk w1 (z+1) 257 (exC op n nm A N C):=hw1▸Bk.at_ _ _ _ (by simp [hz]) rfl;have hb1:Below w.heap.size w w1:=hw1▸(ai w _).alloc (by simp) _;obtain ⟨v,x,hlk,c0,f0,rfl⟩:∃v x,(Instr.lookup 188 (.map (some m1)) (.int .i64 op) true).run Tryz.prog w1=.ok (.tuple #[v,.bool x]) w1∧eA v:=(hct.later hb1).1.look Tryz.underlying188 (nt w1) ⟨_,_,rfl⟩ hop;have HW:=aa hw1;have HB:=aa hb1;have HZ:=aa hz;have HK:=aa hk;have HX:=aa hx;have HCT:=aa (hct.later hb1);have HF:=aa (hF.below hb1);have HA:=aa hA;have e0:w1.cell? ⟨z,0,none⟩=some (.map (some m1)):=hk.cell 0;have x0:w1.cell? ⟨z+1,0,none⟩=some (.int .i64 op):=hx.cell 0;have HBD:=gW 2 true;clear hk hx hw1 hz hb1 hct hF hA;go_enter Tryz.func242,Tryz.ntmps242;go_upto_region 1 with fail
 rw [HW.out,HZ.out];go_wp2_with (with_reducible refine ah 277 _ _ rfl ?_)
 refine ak.go ?_;obtain ⟨g5,hg5⟩:∃q,w1.heap.size=q:=⟨_,rfl⟩;rw [hg5];refine an 277 _ _ rfl g5 hg5 [.int .i64 c0,.bool f0] rfl rfl rfl rfl (jd _ _) (j9 _ _) ?_;intro w2 hk2 hb2;have HK2:=aa hk2;have HB2:=aa hb2;have HG5:Hid (w1.heap.size=g5):=hg5;clear hk2 hb2 hg5 e0 x0 hlk;cases x with
 | true=>
  go_upto_region 4 with fail
  obtain ⟨w3,hw3⟩:∃w3,w2=w3:=⟨_,rfl⟩;have HKC:=aa HK2.out;have HB3:=aa HB2.out;rw [hw3] at HKC HB3 ⊢;clear hw3 HK2;have y0:w3.cell? ⟨g5,0,none⟩=some (.int .i64 c0):=HKC.cell 0;go_wp2_with fail
  refine (dW _ w3).mono ?_;rintro e w4 ⟨⟨sb,rfl,hsb,hlt⟩,hbn⟩;have HSB:=aa hsb;have HB4:=aa (ab HB3.out hbn);have HLT:=aa hlt;have y1:w4.cell? ⟨g5,1,none⟩=some (.bool f0):=(HKC.later hbn).cell 1;have hcs:=dH sb;unfold kL;clear hsb hbn hlt y0;cases f0 with
  | false=>
   go_wp2_with fail
   refine (bd w4 sb _ 0 HSB.out).mono ?_;rintro e w5 ⟨⟨q,rfl,hbq⟩,hg⟩;have HG6:=aa hg;clear hbq hg;go_wp2_with fail
   go_ret;have h1:w.heap.size≤w1.heap.size:=HB.size;have h3:w1.heap.size≤w3.heap.size:=HB3.size;have h4:w1.heap.size≤w4.heap.size:=HB4.size;exact ⟨⟨_,rfl⟩,ag (ab HB.out HB4.out) HG6.out (by omega) (by have:=HLT.out;omega)⟩
  | true=>
   have y3:w4.cell? ⟨z+1,3,none⟩=some (.slice A N C):=(HX.later HB4.out).cell 3;have HK4:=aa (HK.later HB4.out);have HLO:Hid (w1.heap.size≤sb∧w1.heap.size≤w4.heap.size):=⟨Nat.le_trans HB3.size HLT.out,HB4.size⟩;go_wp2_with (with_reducible refine aj rfl 190 _ rfl z rfl (ctC m1 m2) 190 HK4.out _ Tryz.underlying190 rfl (cj _ _) ?_)
   refine (HA.out w4 w.heap.size m1 m2 sb _ A N C (HCT.later HB4.out) ((HF.out).below (HB4.mono HB.size)) (Nat.le_trans HB.size HLO.out.1) (Nat.le_trans HB.size HLO.out.2) hsz HSB.out).mono ?_;rintro e w5 ⟨rfl,⟨q5,hbq⟩,hg⟩;have HSB5:=aa hbq;have HG5b:=aa hg;clear hbq hg y3 y1;go_wp2_with fail
   refine (bd w5 sb _ 0 HSB5.out).mono ?_;rintro e w6 ⟨⟨q,rfl,hbq⟩,hg⟩;have HG6:=aa (bG HG5b.out hg);clear hbq hg;go_wp2_with fail
   go_ret;have h1:w.heap.size≤w1.heap.size:=HB.size;have h3:w1.heap.size≤w3.heap.size:=HB3.size;have h4:w1.heap.size≤w4.heap.size:=HB4.size;exact ⟨⟨_,rfl⟩,ag (ab HB.out HB4.out) HG6.out (by omega) (by have:=HLT.out;omega)⟩
 | false=>
  go_wp2_with (first | ((with_reducible refine aS rfl 277 _ rfl #[(0,.int .i64 2),(1,.bool true)] ?_ _ (HBD _) ?_);focus (simp [Act.eval,Act.put];done)) | (with_reducible refine ah 277 _ _ rfl ?_))
  refine ak.go ?_;refine ae rfl 277 _ _ rfl g5 0 (.agg #[.int .i64 2,.bool true]) [.int .i64 2,.bool true] rfl rfl rfl 277 [] [.int .i64 c0,.bool f0] [] (by simpa using HK2.out) rfl rfl (jd _ _) (j9 _ _) ?_;intro w3 hp;have HKC:Hid (Bk w3 g5 277 [.int .i64 2,.bool true]):=by show Bk _ _ _ _;have:=hp.bk;simpa using this
  have HB3:Hid (Below w1.heap.size w1 w3):=ag HB2.out hp.only HB2.size (Nat.le_of_eq HG5.out);clear hp;have y0:w3.cell? ⟨g5,0,none⟩=some (.int .i64 2):=HKC.cell 0;go_wp2_with fail
  refine (dW _ w3).mono ?_;rintro e w4 ⟨⟨sb,rfl,hsb,hlt⟩,hbn⟩;have HSB:=aa hsb;have HB4:=aa (ab HB3.out hbn);have HLT:=aa hlt;have y1:w4.cell? ⟨g5,1,none⟩=some (.bool true):=(HKC.later hbn).cell 1;have hcs:=dH sb;unfold kL;clear hsb hbn hlt y0;have y3:w4.cell? ⟨z+1,3,none⟩=some (.slice A N C):=(HX.later HB4.out).cell 3;have HK4:=aa (HK.later HB4.out);have HLO:Hid (w1.heap.size≤sb∧w1.heap.size≤w4.heap.size):=⟨Nat.le_trans HB3.size HLT.out,HB4.size⟩;go_wp2_with (with_reducible refine aj rfl 190 _ rfl z rfl (ctC m1 m2) 190 HK4.out _ Tryz.underlying190 rfl (cj _ _) ?_)
  refine (HA.out w4 w.heap.size m1 m2 sb _ A N C (HCT.later HB4.out) ((HF.out).below (HB4.mono HB.size)) (Nat.le_trans HB.size HLO.out.1) (Nat.le_trans HB.size HLO.out.2) hsz HSB.out).mono ?_;rintro e w5 ⟨rfl,⟨q5,hbq⟩,hg⟩;have HSB5:=aa hbq;have HG5b:=aa hg;clear hbq hg y3 y1;go_wp2_with fail
  refine (bd w5 sb _ 0 HSB5.out).mono ?_;rintro e w6 ⟨⟨q,rfl,hbq⟩,hg⟩;have HG6:=aa (bG HG5b.out hg);clear hbq hg;go_wp2_with fail
  go_ret;have h1:w.heap.size≤w1.heap.size:=HB.size;have h3:w1.heap.size≤w3.heap.size:=HB3.size;have h4:w1.heap.size≤w4.heap.size:=HB4.size;exact ⟨⟨_,rfl⟩,ag (ab HB.out HB4.out) HG6.out (by omega) (by have:=HLT.out;omega)⟩
theorem tO (F:Es):vS F:=by
 obtain ⟨m,hm⟩:∃m,F.size=m:=⟨_,rfl⟩;induction m using Nat.strongRecOn generalizing F with
 | ind m ih=>exact yi F (vT F fun G hG=>ih G.size (by omega) G rfl)
theorem vU (F:Es):zS F:=vT F fun G _=>tO G
def lY (F:Ss):Prop:=∀(w:World) (m1 m2:Nat) (A:Option Addr) (N C:Nat),j8 w m1 m2→cE w w.heap.size A N F→F.size≤1048576→
 Calls Tryz.prog 113 #[.agg (ctC m1 m2).toArray,.slice A N C] w fun e w'=>il e∧Below w.heap.size w w'
set_option maxRecDepth 20000 in
set_option maxHeartbeats 4000000 in
theorem vV (L M:Ss) (hL:lY L) (hM:lY M) (w:World) (m1 m2:Nat) (kd:Int) (nm:ByteArray) (A:Option Addr) (N C:Nat) (E:Es) (l h:Int) (A1:Option Addr) (N1 C1:Nat) (A2:Option Addr) (N2 C2:Nat) (hct:j8 w m1 m2) (hs:iA w w.heap.size kd nm A N C E l h A1 N1 C1 L A2 N2 C2 M) (hsz:E.size+L.size+M.size≤1048576):Calls Tryz.prog 171 #[.agg (ctC m1 m2).toArray,.agg (aR kd nm A N C l h A1 N1 C1 A2 N2 C2).toArray] w fun e w'=>il e∧Below w.heap.size w w':=by
 obtain ⟨z,hz⟩:∃z,w.heap.size=z:=⟨_,rfl⟩;obtain ⟨w1,hw1⟩:∃w1,(w.alloc (.cells (ctC m1 m2).toArray 190)).alloc (.cells (aR kd nm A N C l h A1 N1 C1 A2 N2 C2).toArray 186)=w1:=⟨_,rfl⟩;have hk:Bk w1 z 190 (ctC m1 m2):=hw1▸(Bk.at_ w _ _ hz rfl).alloc _;have hx:Bk w1 (z+1) 186 (aR kd nm A N C l h A1 N1 C1 A2 N2 C2):=hw1▸Bk.at_ _ _ _ (by simp [hz]) rfl;have hb1:Below w.heap.size w w1:=hw1▸(ai w _).alloc (by simp) _;obtain ⟨v,x,hlk,c0,f0,rfl⟩:∃v x,(Instr.lookup 188 (.map (some m2)) (.int .i64 kd) true).run Tryz.prog w1=.ok (.tuple #[v,.bool x]) w1∧eA v:=(hct.later hb1).2.look Tryz.underlying188 (nt w1) ⟨_,_,rfl⟩ hs.kd;have HW:=aa hw1;have HB:=aa hb1;have HZ:=aa hz;have HK:=aa hk;have HX:=aa hx;have HCT:=aa (hct.later hb1);have HE:=aa (hs.e.below hb1);have HCL:Hid (∀wk,Below w1.heap.size w1 wk→Calls Tryz.prog 113 #[.agg (ctC m1 m2).toArray,.slice A1 N1 C1] wk fun e w'=>il e∧Below wk.heap.size wk w'):=fun wk hwk=>hL wk m1 m2 A1 N1 C1 (HCT.later hwk) ((hs.l.below (hb1.trans (hwk.mono hb1.size))).more (Nat.le_trans hb1.size hwk.size)) (by omega);have HCM:Hid (∀wk,Below w1.heap.size w1 wk→Calls Tryz.prog 113 #[.agg (ctC m1 m2).toArray,.slice A2 N2 C2] wk fun e w'=>il e∧Below wk.heap.size wk w'):=fun wk hwk=>hM wk m1 m2 A2 N2 C2 (HCT.later hwk) ((hs.m.below (hb1.trans (hwk.mono hb1.size))).more (Nat.le_trans hb1.size hwk.size)) (by omega);have e0:w1.cell? ⟨z,1,none⟩=some (.map (some m2)):=hk.cell 1;have x0:w1.cell? ⟨z+1,0,none⟩=some (.int .i64 kd):=hx.cell 0;have HBD:=gW 1 false;clear hk hx hw1 hz hb1 hct hs hL hM;go_enter Tryz.func171,Tryz.ntmps171;go_upto_region 1 with fail
 rw [HW.out,HZ.out];go_wp2_with (with_reducible refine ah 277 _ _ rfl ?_)
 refine ak.go ?_;obtain ⟨g5,hg5⟩:∃q,w1.heap.size=q:=⟨_,rfl⟩;rw [hg5];refine an 277 _ _ rfl g5 hg5 [.int .i64 c0,.bool f0] rfl rfl rfl rfl (jd _ _) (j9 _ _) ?_;intro w2 hk2 hb2;have HK2:=aa hk2;have HB2:=aa hb2;have HG5:Hid (w1.heap.size=g5):=hg5;clear hk2 hb2 hg5 e0 x0 hlk;cases x with
 | true=>
  go_upto_region 4 with fail
  obtain ⟨w3,hw3⟩:∃w3,w2=w3:=⟨_,rfl⟩;have HKC:=aa HK2.out;have HB3:=aa HB2.out;rw [hw3] at HKC HB3 ⊢;clear hw3 HK2;have y0:w3.cell? ⟨g5,0,none⟩=some (.int .i64 c0):=HKC.cell 0;go_wp2_with fail
  refine (dW _ w3).mono ?_;rintro e w4 ⟨⟨sb,rfl,hsb,hlt⟩,hbn⟩;have HSB:=aa hsb;have HB4:=aa (ab HB3.out hbn);have HLT:Hid (w1.heap.size≤sb):=Nat.le_trans HB3.size hlt;have y1:w4.cell? ⟨g5,1,none⟩=some (.bool f0):=(HKC.later hbn).cell 1;have hcs:=dH sb;unfold kL;clear hsb hbn hlt y0;cases f0 with
  | false=>
   obtain ⟨w5,hw5⟩:∃w5,w4=w5:=⟨_,rfl⟩;have HB5:=aa HB4.out;have HSB5:=aa HSB.out;rw [hw5] at HB5 HSB5 y1 ⊢;clear hw5 HB4 HSB;go_upto_region 7 with fail
   clear y1;have HX5:=aa (HX.later HB5.out);have HK5:=aa (HK.later HB5.out);have d0:w5.cell? ⟨z+1,0,none⟩=some (.int .i64 kd):=HX5.cell 0;have d3:w5.cell? ⟨z+1,3,none⟩=some (.int .i64 l):=HX5.cell 3;have d4:w5.cell? ⟨z+1,4,none⟩=some (.int .i64 h):=HX5.cell 4;have d5:w5.cell? ⟨z+1,5,none⟩=some (.slice A1 N1 C1):=HX5.cell 5;by_cases k2:kd=2
   ·go_wp2_with fail
    clear d0 d3 d4 d5;refine wp_region_held_drew (S:=fun wk=>Bk wk (z+1) 186 (aR kd nm A N C l h A1 N1 C1 A2 N2 C2)∧Bk wk z 190 (ctC m1 m2)) (by kernel_rfl) ⟨HX5.later (ac w5 _ 1),HK5.later (ac w5 _ 1)⟩ (fun hHeld=>?_);obtain ⟨w6,hw6⟩:∃wa,w5.drew=wa:=⟨_,rfl⟩;have hb6:Below w5.heap.size w5 w6:=hw6▸ac w5 w5.heap.size 1;rw [hw6] at hHeld ⊢;have HB6:=aa (ab HB5.out hb6);have HSB6:=aa (HSB5.later hb6);clear hw6 hb6;refine tk 0 ?_;refine tkR 1 (ctC m1 m2) (fun w hSw=>(Bk.range (pre:=[]) (post:=[]) (by simpa using hSw.2) rfl)) Tryz.underlying190 ((cj m1 m2)) ?_;refine tk 2 ?_;refine tkR 5 (ctC m1 m2) (fun w hSw=>(Bk.range (pre:=[]) (post:=[]) (by simpa using hSw.2) rfl)) Tryz.underlying190 ((cj m1 m2)) ?_;refine tk 6 ?_;refine tkv 3 rfl (fun w hSw=>by have hcell:=(show w.cell? ⟨z+1,5,none⟩=some (.slice A1 N1 C1) from hSw.1.cell 5);clear hSw;go_simp;try with_reducible rfl) ?_;refine tkv 7 rfl (fun w hSw=>by have hcell:=(show w.cell? ⟨z+1,6,none⟩=some (.slice A2 N2 C2) from hSw.1.cell 6);clear hSw;go_simp;try with_reducible rfl) ?_;refine rd1 4 (fun K hK=>?_);go_simp
    (refine (HCL.out w6 HB6.out).mono ?_;rintro e w7 ⟨⟨v7,rfl⟩,hbn⟩;have HB7:=aa (ab HB6.out hbn);have HSB7:=aa (HSB6.later hbn);clear hbn)
    refine so hK (⟨HX.later HB7.out,HK.later HB7.out⟩) (fun hHeld=>?_);clear hK K;refine rd1 8 (fun K hK=>?_);go_simp
    (refine (HCM.out w7 HB7.out).mono ?_;rintro e w8 ⟨⟨v8,rfl⟩,hbn⟩;have HB8:=aa (ab HB7.out hbn);have HSB8:=aa (HSB7.later hbn);clear hbn)
    refine so hK (⟨HX.later HB8.out,HK.later HB8.out⟩) (fun hHeld=>?_);clear hK K;refine tk 9 ?_;refine rd1 10 (fun K hK=>?_);go_simp
    (refine (bd w8 sb _ _ HSB8.out).mono ?_;rintro e wa ⟨⟨qa,rfl,hbq⟩,hg⟩;have HSBa:=aa hbq;have HBa:=aa (ag HB8.out hg HB8.size HLT.out);clear hbq hg)
    refine so hK (⟨HX.later HBa.out,HK.later HBa.out⟩) (fun hHeld=>?_);clear hK K;refine wpAnyH_done rfl ?_ _;go_wp2_with fail
    refine (bd wa sb _ 0 HSBa.out).mono ?_;rintro e w9 ⟨⟨q9,rfl,hbq⟩,hg⟩;have HG9:=aa hg;clear hbq hg;go_wp2_with fail
    go_ret;exact ⟨⟨_,rfl⟩,ag (ab HB.out HBa.out) HG9.out (Nat.le_trans HB.size HBa.size) (Nat.le_trans HB.size HLT.out)⟩
   by_cases k3:kd=3
   ·by_cases hlh:l≤h
    ·go_wp2_with (with_reducible refine aj rfl 190 _ rfl z rfl (ctC m1 m2) 190 HK5.out _ Tryz.underlying190 rfl (cj _ _) ?_)
     refine (HCL.out w5 HB5.out).mono ?_;rintro e w7 ⟨⟨v7,rfl⟩,hbn⟩;have HB7:=aa (ab HB5.out hbn);have HSB7:=aa (HSB5.later hbn);clear hbn d0 d3 d4 d5;go_wp2_with fail
     refine (bd w7 sb _ _ HSB7.out).mono ?_;rintro e wa ⟨⟨qa,rfl,hbq⟩,hg⟩;have HSBa:=aa hbq;have HBa:=aa (ag HB7.out hg HB7.size HLT.out);clear hbq hg;go_wp2_with fail
     refine (bd wa sb _ 0 HSBa.out).mono ?_;rintro e w9 ⟨⟨q9,rfl,hbq⟩,hg⟩;have HG9:=aa hg;clear hbq hg;go_wp2_with fail
     go_ret;exact ⟨⟨_,rfl⟩,ag (ab HB.out HBa.out) HG9.out (Nat.le_trans HB.size HBa.size) (Nat.le_trans HB.size HLT.out)⟩
    ·
     go_wp2_with fail
     refine (bd w5 sb _ 0 HSB5.out).mono ?_;rintro e w9 ⟨⟨q9,rfl,hbq⟩,hg⟩;have HG9:=aa hg;clear hbq hg;go_wp2_with fail
     go_ret;exact ⟨⟨_,rfl⟩,ag (ab HB.out HB5.out) HG9.out (Nat.le_trans HB.size HB5.size) (Nat.le_trans HB.size HLT.out)⟩
   ·
    go_wp2_with fail
    refine (bd w5 sb _ 0 HSB5.out).mono ?_;rintro e w9 ⟨⟨q9,rfl,hbq⟩,hg⟩;have HG9:=aa hg;clear hbq hg;go_wp2_with fail
    go_ret;exact ⟨⟨_,rfl⟩,ag (ab HB.out HB5.out) HG9.out (Nat.le_trans HB.size HB5.size) (Nat.le_trans HB.size HLT.out)⟩
  | true=>
   have y3:w4.cell? ⟨z+1,2,none⟩=some (.slice A N C):=(HX.later HB4.out).cell 2;have HK4:=aa (HK.later HB4.out);go_wp2_with (with_reducible refine aj rfl 190 _ rfl z rfl (ctC m1 m2) 190 HK4.out _ Tryz.underlying190 rfl (cj _ _) ?_)
   refine (vU E w4 w.heap.size m1 m2 sb _ A N C (HCT.later HB4.out) (HE.below (HB4.mono HB.size)) (Nat.le_trans HB.size HLT.out) (Nat.le_trans HB.size HB4.size) (by omega) HSB.out).mono ?_;rintro e w5 ⟨rfl,⟨q5,hbq⟩,hg⟩;have HSB5:=aa hbq;have HB5:=aa (ag HB4.out hg HB4.size HLT.out);clear hbq hg y3 HK4;go_upto_region 7 with fail
   clear y1;have HX5:=aa (HX.later HB5.out);have HK5:=aa (HK.later HB5.out);have d0:w5.cell? ⟨z+1,0,none⟩=some (.int .i64 kd):=HX5.cell 0;have d3:w5.cell? ⟨z+1,3,none⟩=some (.int .i64 l):=HX5.cell 3;have d4:w5.cell? ⟨z+1,4,none⟩=some (.int .i64 h):=HX5.cell 4;have d5:w5.cell? ⟨z+1,5,none⟩=some (.slice A1 N1 C1):=HX5.cell 5;by_cases k2:kd=2
   ·go_wp2_with fail
    clear d0 d3 d4 d5;refine wp_region_held_drew (S:=fun wk=>Bk wk (z+1) 186 (aR kd nm A N C l h A1 N1 C1 A2 N2 C2)∧Bk wk z 190 (ctC m1 m2)) (by kernel_rfl) ⟨HX5.later (ac w5 _ 1),HK5.later (ac w5 _ 1)⟩ (fun hHeld=>?_);obtain ⟨w6,hw6⟩:∃wa,w5.drew=wa:=⟨_,rfl⟩;have hb6:Below w5.heap.size w5 w6:=hw6▸ac w5 w5.heap.size 1;rw [hw6] at hHeld ⊢;have HB6:=aa (ab HB5.out hb6);have HSB6:=aa (HSB5.later hb6);clear hw6 hb6;refine tk 0 ?_;refine tkR 1 (ctC m1 m2) (fun w hSw=>(Bk.range (pre:=[]) (post:=[]) (by simpa using hSw.2) rfl)) Tryz.underlying190 ((cj m1 m2)) ?_;refine tk 2 ?_;refine tkR 5 (ctC m1 m2) (fun w hSw=>(Bk.range (pre:=[]) (post:=[]) (by simpa using hSw.2) rfl)) Tryz.underlying190 ((cj m1 m2)) ?_;refine tk 6 ?_;refine tkv 3 rfl (fun w hSw=>by have hcell:=(show w.cell? ⟨z+1,5,none⟩=some (.slice A1 N1 C1) from hSw.1.cell 5);clear hSw;go_simp;try with_reducible rfl) ?_;refine tkv 7 rfl (fun w hSw=>by have hcell:=(show w.cell? ⟨z+1,6,none⟩=some (.slice A2 N2 C2) from hSw.1.cell 6);clear hSw;go_simp;try with_reducible rfl) ?_;refine rd1 4 (fun K hK=>?_);go_simp
    (refine (HCL.out w6 HB6.out).mono ?_;rintro e w7 ⟨⟨v7,rfl⟩,hbn⟩;have HB7:=aa (ab HB6.out hbn);have HSB7:=aa (HSB6.later hbn);clear hbn)
    refine so hK (⟨HX.later HB7.out,HK.later HB7.out⟩) (fun hHeld=>?_);clear hK K;refine rd1 8 (fun K hK=>?_);go_simp
    (refine (HCM.out w7 HB7.out).mono ?_;rintro e w8 ⟨⟨v8,rfl⟩,hbn⟩;have HB8:=aa (ab HB7.out hbn);have HSB8:=aa (HSB7.later hbn);clear hbn)
    refine so hK (⟨HX.later HB8.out,HK.later HB8.out⟩) (fun hHeld=>?_);clear hK K;refine tk 9 ?_;refine rd1 10 (fun K hK=>?_);go_simp
    (refine (bd w8 sb _ _ HSB8.out).mono ?_;rintro e wa ⟨⟨qa,rfl,hbq⟩,hg⟩;have HSBa:=aa hbq;have HBa:=aa (ag HB8.out hg HB8.size HLT.out);clear hbq hg)
    refine so hK (⟨HX.later HBa.out,HK.later HBa.out⟩) (fun hHeld=>?_);clear hK K;refine wpAnyH_done rfl ?_ _;go_wp2_with fail
    refine (bd wa sb _ 0 HSBa.out).mono ?_;rintro e w9 ⟨⟨q9,rfl,hbq⟩,hg⟩;have HG9:=aa hg;clear hbq hg;go_wp2_with fail
    go_ret;exact ⟨⟨_,rfl⟩,ag (ab HB.out HBa.out) HG9.out (Nat.le_trans HB.size HBa.size) (Nat.le_trans HB.size HLT.out)⟩
   by_cases k3:kd=3
   ·by_cases hlh:l≤h
    ·go_wp2_with (with_reducible refine aj rfl 190 _ rfl z rfl (ctC m1 m2) 190 HK5.out _ Tryz.underlying190 rfl (cj _ _) ?_)
     refine (HCL.out w5 HB5.out).mono ?_;rintro e w7 ⟨⟨v7,rfl⟩,hbn⟩;have HB7:=aa (ab HB5.out hbn);have HSB7:=aa (HSB5.later hbn);clear hbn d0 d3 d4 d5;go_wp2_with fail
     refine (bd w7 sb _ _ HSB7.out).mono ?_;rintro e wa ⟨⟨qa,rfl,hbq⟩,hg⟩;have HSBa:=aa hbq;have HBa:=aa (ag HB7.out hg HB7.size HLT.out);clear hbq hg;go_wp2_with fail
     refine (bd wa sb _ 0 HSBa.out).mono ?_;rintro e w9 ⟨⟨q9,rfl,hbq⟩,hg⟩;have HG9:=aa hg;clear hbq hg;go_wp2_with fail
     go_ret;exact ⟨⟨_,rfl⟩,ag (ab HB.out HBa.out) HG9.out (Nat.le_trans HB.size HBa.size) (Nat.le_trans HB.size HLT.out)⟩
    ·
     go_wp2_with fail
     refine (bd w5 sb _ 0 HSB5.out).mono ?_;rintro e w9 ⟨⟨q9,rfl,hbq⟩,hg⟩;have HG9:=aa hg;clear hbq hg;go_wp2_with fail
     go_ret;exact ⟨⟨_,rfl⟩,ag (ab HB.out HB5.out) HG9.out (Nat.le_trans HB.size HB5.size) (Nat.le_trans HB.size HLT.out)⟩
   ·
    go_wp2_with fail
    refine (bd w5 sb _ 0 HSB5.out).mono ?_;rintro e w9 ⟨⟨q9,rfl,hbq⟩,hg⟩;have HG9:=aa hg;clear hbq hg;go_wp2_with fail
    go_ret;exact ⟨⟨_,rfl⟩,ag (ab HB.out HB5.out) HG9.out (Nat.le_trans HB.size HB5.size) (Nat.le_trans HB.size HLT.out)⟩
 | false=>
  go_wp2_with (first | ((with_reducible refine aS rfl 277 _ rfl #[(0,.int .i64 1),(1,.bool false)] ?_ _ (HBD _) ?_);focus (simp [Act.eval,Act.put];done)) | (with_reducible refine ah 277 _ _ rfl ?_))
  refine ak.go ?_;refine ae rfl 277 _ _ rfl g5 0 (.agg #[.int .i64 1,.bool false]) [.int .i64 1,.bool false] rfl rfl rfl 277 [] [.int .i64 c0,.bool f0] [] (by simpa using HK2.out) rfl rfl (jd _ _) (j9 _ _) ?_;intro w3 hp;have HKC:Hid (Bk w3 g5 277 [.int .i64 1,.bool false]):=by show Bk _ _ _ _;have:=hp.bk;simpa using this
  have HB3:Hid (Below w1.heap.size w1 w3):=ag HB2.out hp.only HB2.size (Nat.le_of_eq HG5.out);clear hp;have y0:w3.cell? ⟨g5,0,none⟩=some (.int .i64 1):=HKC.cell 0;go_wp2_with fail
  refine (dW _ w3).mono ?_;rintro e w4 ⟨⟨sb,rfl,hsb,hlt⟩,hbn⟩;have HSB:=aa hsb;have HB4:=aa (ab HB3.out hbn);have HLT:Hid (w1.heap.size≤sb):=Nat.le_trans HB3.size hlt;have y1:w4.cell? ⟨g5,1,none⟩=some (.bool false):=(HKC.later hbn).cell 1;have hcs:=dH sb;unfold kL;clear hsb hbn hlt y0;obtain ⟨w5,hw5⟩:∃w5,w4=w5:=⟨_,rfl⟩;have HB5:=aa HB4.out;have HSB5:=aa HSB.out;rw [hw5] at HB5 HSB5 y1 ⊢;clear hw5 HB4 HSB;go_upto_region 7 with fail
  clear y1;have HX5:=aa (HX.later HB5.out);have HK5:=aa (HK.later HB5.out);have d0:w5.cell? ⟨z+1,0,none⟩=some (.int .i64 kd):=HX5.cell 0;have d3:w5.cell? ⟨z+1,3,none⟩=some (.int .i64 l):=HX5.cell 3;have d4:w5.cell? ⟨z+1,4,none⟩=some (.int .i64 h):=HX5.cell 4;have d5:w5.cell? ⟨z+1,5,none⟩=some (.slice A1 N1 C1):=HX5.cell 5;by_cases k2:kd=2
  ·go_wp2_with fail
   clear d0 d3 d4 d5;refine wp_region_held_drew (S:=fun wk=>Bk wk (z+1) 186 (aR kd nm A N C l h A1 N1 C1 A2 N2 C2)∧Bk wk z 190 (ctC m1 m2)) (by kernel_rfl) ⟨HX5.later (ac w5 _ 1),HK5.later (ac w5 _ 1)⟩ (fun hHeld=>?_);obtain ⟨w6,hw6⟩:∃wa,w5.drew=wa:=⟨_,rfl⟩;have hb6:Below w5.heap.size w5 w6:=hw6▸ac w5 w5.heap.size 1;rw [hw6] at hHeld ⊢;have HB6:=aa (ab HB5.out hb6);have HSB6:=aa (HSB5.later hb6);clear hw6 hb6;refine tk 0 ?_;refine tkR 1 (ctC m1 m2) (fun w hSw=>(Bk.range (pre:=[]) (post:=[]) (by simpa using hSw.2) rfl)) Tryz.underlying190 ((cj m1 m2)) ?_;refine tk 2 ?_;refine tkR 5 (ctC m1 m2) (fun w hSw=>(Bk.range (pre:=[]) (post:=[]) (by simpa using hSw.2) rfl)) Tryz.underlying190 ((cj m1 m2)) ?_;refine tk 6 ?_;refine tkv 3 rfl (fun w hSw=>by have hcell:=(show w.cell? ⟨z+1,5,none⟩=some (.slice A1 N1 C1) from hSw.1.cell 5);clear hSw;go_simp;try with_reducible rfl) ?_;refine tkv 7 rfl (fun w hSw=>by have hcell:=(show w.cell? ⟨z+1,6,none⟩=some (.slice A2 N2 C2) from hSw.1.cell 6);clear hSw;go_simp;try with_reducible rfl) ?_;refine rd1 4 (fun K hK=>?_);go_simp
   (refine (HCL.out w6 HB6.out).mono ?_;rintro e w7 ⟨⟨v7,rfl⟩,hbn⟩;have HB7:=aa (ab HB6.out hbn);have HSB7:=aa (HSB6.later hbn);clear hbn)
   refine so hK (⟨HX.later HB7.out,HK.later HB7.out⟩) (fun hHeld=>?_);clear hK K;refine rd1 8 (fun K hK=>?_);go_simp
   (refine (HCM.out w7 HB7.out).mono ?_;rintro e w8 ⟨⟨v8,rfl⟩,hbn⟩;have HB8:=aa (ab HB7.out hbn);have HSB8:=aa (HSB7.later hbn);clear hbn)
   refine so hK (⟨HX.later HB8.out,HK.later HB8.out⟩) (fun hHeld=>?_);clear hK K;refine tk 9 ?_;refine rd1 10 (fun K hK=>?_);go_simp
   (refine (bd w8 sb _ _ HSB8.out).mono ?_;rintro e wa ⟨⟨qa,rfl,hbq⟩,hg⟩;have HSBa:=aa hbq;have HBa:=aa (ag HB8.out hg HB8.size HLT.out);clear hbq hg)
   refine so hK (⟨HX.later HBa.out,HK.later HBa.out⟩) (fun hHeld=>?_);clear hK K;refine wpAnyH_done rfl ?_ _;go_wp2_with fail
   refine (bd wa sb _ 0 HSBa.out).mono ?_;rintro e w9 ⟨⟨q9,rfl,hbq⟩,hg⟩;have HG9:=aa hg;clear hbq hg;go_wp2_with fail
   go_ret;exact ⟨⟨_,rfl⟩,ag (ab HB.out HBa.out) HG9.out (Nat.le_trans HB.size HBa.size) (Nat.le_trans HB.size HLT.out)⟩
  by_cases k3:kd=3
  ·by_cases hlh:l≤h
   ·go_wp2_with (with_reducible refine aj rfl 190 _ rfl z rfl (ctC m1 m2) 190 HK5.out _ Tryz.underlying190 rfl (cj _ _) ?_)
    refine (HCL.out w5 HB5.out).mono ?_;rintro e w7 ⟨⟨v7,rfl⟩,hbn⟩;have HB7:=aa (ab HB5.out hbn);have HSB7:=aa (HSB5.later hbn);clear hbn d0 d3 d4 d5;go_wp2_with fail
    refine (bd w7 sb _ _ HSB7.out).mono ?_;rintro e wa ⟨⟨qa,rfl,hbq⟩,hg⟩;have HSBa:=aa hbq;have HBa:=aa (ag HB7.out hg HB7.size HLT.out);clear hbq hg;go_wp2_with fail
    refine (bd wa sb _ 0 HSBa.out).mono ?_;rintro e w9 ⟨⟨q9,rfl,hbq⟩,hg⟩;have HG9:=aa hg;clear hbq hg;go_wp2_with fail
    go_ret;exact ⟨⟨_,rfl⟩,ag (ab HB.out HBa.out) HG9.out (Nat.le_trans HB.size HBa.size) (Nat.le_trans HB.size HLT.out)⟩
   ·
    go_wp2_with fail
    refine (bd w5 sb _ 0 HSB5.out).mono ?_;rintro e w9 ⟨⟨q9,rfl,hbq⟩,hg⟩;have HG9:=aa hg;clear hbq hg;go_wp2_with fail
    go_ret;exact ⟨⟨_,rfl⟩,ag (ab HB.out HB5.out) HG9.out (Nat.le_trans HB.size HB5.size) (Nat.le_trans HB.size HLT.out)⟩
  ·
   go_wp2_with fail
   refine (bd w5 sb _ 0 HSB5.out).mono ?_;rintro e w9 ⟨⟨q9,rfl,hbq⟩,hg⟩;have HG9:=aa hg;clear hbq hg;go_wp2_with fail
   go_ret;exact ⟨⟨_,rfl⟩,ag (ab HB.out HB5.out) HG9.out (Nat.le_trans HB.size HB5.size) (Nat.le_trans HB.size HLT.out)⟩
end Go.Proofs.YtllbdpdnpaocnaaGreatDoor
