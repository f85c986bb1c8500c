/- Part of the proof of WholeStep. -/
import Derived.Test.YtllbdpdnpaocnaaGreatDoorZBF
import Derived.Lib.Strings
import Derived.Lib.Slices
import Derived.Lib.Small
import Derived.Lib.Walk
import Derived.Lib.BitFns
namespace Go.Proofs.YtllbdpdnpaocnaaGreatDoor
set_option linter.unusedSimpArgs false
set_option linter.unusedVariables false
set_option linter.constructorNameAsVariable false
open Go.RowKit
theorem pi:Lib.len8tab.size=256:=by kernel_rfl
theorem su (c:Nat) (hc:c < 256) (h:c < Lib.len8tab.size):(Lib.len8tab[c]'h).toNat=Lib.bitLen c:=by
 have key:∀n:Fin 256,(Lib.len8tab[n.val]'(by rw [pi];exact n.isLt)).toNat=Lib.bitLen n.val:=by decide +kernel
 exact key ⟨c,hc⟩
theorem Aw (c:Nat) (hc:c < 256):Lib.bitLen c≤8:=Lib.bitLen_le8 ⟨c,hc⟩
set_option maxHeartbeats 4000000 in
set_option maxRecDepth 100000 in
theorem s7 (x:Int) (w:World) (h0:0≤x) (h1:x≤4095):Calls Tryz.prog 157 #[.int .u64 x] w fun e w'=>e=.returned (.int .i64 (Lib.bitLen x.toNat))∧w=w':=by
 have hsz:(255:Int) < Lib.len8tab.size:=by rw [pi];decide
 by_cases h8:x < 256
 ·go_enter Tryz.func157,Tryz.ntmps157;go_wp2;go_ret;refine ⟨congrArg Ending.returned (congrArg (Value.int IntKind.i64) ?_),rfl⟩;rw [su x.toNat (by omega)];have:=Aw x.toNat (by omega);have e1:=IntWalk.wrap64_in ((Lib.bitLen x.toNat:Nat):Int) (by omega);rw [e1,e1]
 ·have h8' : 256≤x:=by omega
  go_enter Tryz.func157,Tryz.ntmps157;go_wp2;go_ret;refine ⟨congrArg Ending.returned (congrArg (Value.int IntKind.i64) ?_),rfl⟩;rw [su (x / 256).toNat (by omega)];have:=Aw (x / 256).toNat (by omega);have s:=Lib.bitLen_shift8 x.toNat (by omega) (by omega);have e:(x / 256).toNat=x.toNat / 256:=by omega
  rw [e] at this ⊢;have e1:=IntWalk.wrap64_in ((Lib.bitLen (x.toNat / 256):Nat):Int) (by omega);have e2:=IntWalk.wrap64_in (8+((Lib.bitLen (x.toNat / 256):Nat):Int)) (by omega);rw [e1,e2,s];omega
theorem nP (x:Int) (w:World) (h0:0≤x) (h1:x≤4095):Calls Tryz.prog 88 #[.int .u64 x] w fun e w'=>e=.returned (.int .i64 (Lib.bitLen x.toNat))∧w=w':=by
 go_enter Tryz.func88,Tryz.ntmps88;go_wp2_with (go_at_call 157;refine (s7 x _ h0 h1).mono ?_;rintro e w' ⟨rfl,rfl⟩)
 go_ret;exact ⟨rfl,rfl⟩
def bB (n:Nat):Nat:=Lib.bitLen (n - 1)
def dn (n:Nat):Int:=if n < 1∨4096 < n then -1 else bB n
theorem mU {n:Nat} (h:n≤4096):bB n≤12:=Lib.bitLen_le _ _ (by omega) (by omega)
theorem zw (x:Nat) (hx:x < 2 ^ 64):∀k,2 ^ k≤x→k < Lib.bitLen x:=by intro k hk;rw [Lib.bitLen_shift k x hk hx];have h1:0 < x / 2 ^ k:=Nat.div_pos hk (Nat.two_pow_pos k);have h2:x / 2 ^ k < 2 ^ 64:=Nat.lt_of_le_of_lt (Nat.div_le_self _ _) hx;rw [Lib.bitLen_half _ (by omega) h2];omega
theorem mV {n:Nat} (h4:n≤4096):n≤2 ^ bB n:=by
 rcases Nat.lt_or_ge (2 ^ bB n) n with h | h
 ·have:=zw (n - 1) (by omega) (bB n) (by omega);unfold bB at this;omega
 ·exact h
theorem gg (n:Nat) (w:World):Calls Tryz.prog 43 #[.int .i64 (n:Int)] w fun e w'=>e=.returned (.int .i64 (dn n))∧w=w':=by
 by_cases h1:n < 1
 ·have HV:=aa (show dn n= -1 by rw [dn,if_pos (.inl h1)]);have h1' : (n:Int) < 1:=by omega
  go_enter Tryz.func43,Tryz.ntmps43;go_wp2_with fail
  go_ret;exact ⟨by rw [HV.out];rfl,rfl⟩
 by_cases h2:4096 < n
 ·have HV:=aa (show dn n= -1 by rw [dn,if_pos (.inr h2)]);have h1' : decide ((n:Int) < 1)=false:=by simp;omega
  have h2' : (4096:Int) < n:=by omega
  go_enter Tryz.func43,Tryz.ntmps43;go_wp2_with fail
  go_ret;exact ⟨by rw [HV.out];rfl,rfl⟩
 ·have HV:=aa (show dn n=bB n by rw [dn,if_neg (by omega)]);have h1' : decide ((n:Int) < 1)=false:=by simp;omega
  have h2' : decide ((4096:Int) < n)=false:=by simp;omega
  have h3:(1:Int)≤n:=by omega
  have h4:(n:Int)≤4096:=by omega
  have e1:((n:Int) - 1).toNat=n - 1:=by omega
  have E1:=aa e1;clear e1;go_enter Tryz.func43,Tryz.ntmps43;go_wp2_with (go_at_call 88;refine (nP _ _ (by omega) (by omega)).mono ?_;rintro e w' ⟨rfl,rfl⟩;rw [E1.out])
  go_ret;exact ⟨by rw [HV.out];rfl,rfl⟩
def nQ (h:Nat):List UInt8:=if h < 10 then [UInt8.ofNat (48+h)] else [49,UInt8.ofNat (38+h)]
def mW (h:Nat):ByteArray:=⟨([114,111,111,116] ++ nQ h).toArray⟩
theorem zx {x:Int} (h0:0≤x) (hh:x≤12):x=0∨x=1∨x=2∨x=3∨x=4∨x=5∨x=6∨x=7∨x=8∨x=9∨x=10∨x=11∨x=12:=by omega
set_option maxRecDepth 100000 in
theorem s8 (x:Int) (h0:0≤x) (hh:x≤12) (w:World):Calls Tryz.prog 245 #[.int .i64 x] w fun e w'=>e=.returned (.string ⟨(nQ x.toNat).toArray⟩)∧w=w':=by
 rcases zx h0 hh with rfl | rfl | rfl | rfl | rfl | rfl | rfl | rfl | rfl | rfl | rfl | rfl | rfl;all_goals
  go_enter Tryz.func245,Tryz.ntmps245;go_wp2_with fail
  go_ret;exact ⟨congrArg (fun b=>Ending.returned (Value.string b)) (by decide +kernel),rfl⟩
theorem va (x:Int) (h0:0≤x) (hh:x≤12) (w:World):Calls Tryz.prog 134 #[.int .i64 x] w fun e w'=>e=.returned (.string ⟨(nQ x.toNat).toArray⟩)∧w=w':=by
 have hd:decide (0≤x)=true:=by simp;omega
 have h2:decide (x < 100)=true:=by simp;omega
 obtain ⟨S,hS⟩:∃S:ByteArray,⟨(nQ x.toNat).toArray⟩=S:=⟨_,rfl⟩;have HC:∀W,Calls Tryz.prog 228 #[.int .i64 x,.int .i64 10] W fun e w'=>e=.returned (.string S)∧W=w':=by
  intro W;have HSM:=s8 x h0 hh;rw [hS] at HSM;have HM:=aa HSM;clear HSM hS;go_enter Tryz.func228,Tryz.ntmps228;go_wp2_with (go_at_call 245;refine (HM.out _).mono ?_;rintro e w' ⟨rfl,rfl⟩)
  go_ret;exact ⟨rfl,rfl⟩
 rw [hS];have H1:=aa HC;clear HC hS;have H2:Hid (∀W,Calls Tryz.prog 197 #[.int .i64 x] W fun e w'=>e=.returned (.string S)∧W=w'):=by
  intro W;go_enter Tryz.func197,Tryz.ntmps197;go_wp2_with (go_at_call 228;refine (H1.out _).mono ?_;rintro e w' ⟨rfl,rfl⟩)
  go_ret;exact ⟨rfl,rfl⟩
 go_enter Tryz.func134,Tryz.ntmps134;go_wp2_with (go_at_call 197;refine (H2.out _).mono ?_;rintro e w' ⟨rfl,rfl⟩)
 go_ret;exact ⟨rfl,rfl⟩
def Ax:ByteArray:=⟨#[108,101,97,102]⟩
def Ay:ByteArray:=⟨#[110,111,110,101]⟩
theorem fQ:aO ap:=⟨rfl,fun b hb=>by rw [List.eq_of_mem_replicate hb];omega⟩
def fR (d:List Int):List Int:=ge d (cd Ax)
def gx:List Int:=ge ap (cd Ay)
def kF (d:List Int) (h:Nat):List Int:=ge d (cd (mW h))
theorem gM (d:List Int):aO (fR d):=fN _ _
theorem jV:aO gx:=fN _ _
theorem ld (d:List Int) (h:Nat):aO (kF d h):=fN _ _
theorem Bk.put8 {w:World} {g:Nat} {t:TypeId} {z:List Int} (h:bU w g t z) (hz:z.length=8) (o0 o1 o2 o3 o4 o5 o6 o7:Int):bU ((((((((w.setCell ⟨g,0,none⟩ (.int .u8 o0)).setCell ⟨g,1,none⟩ (.int .u8 o1)).setCell ⟨g,2,none⟩ (.int .u8 o2)).setCell ⟨g,3,none⟩ (.int .u8 o3)).setCell ⟨g,4,none⟩ (.int .u8 o4)).setCell ⟨g,5,none⟩ (.int .u8 o5)).setCell ⟨g,6,none⟩ (.int .u8 o6)).setCell ⟨g,7,none⟩ (.int .u8 o7)) g t [o0,o1,o2,o3,o4,o5,o6,o7]:=by obtain ⟨z0,z1,z2,z3,z4,z5,z6,z7,rfl⟩:=dQ z hz;exact Bk.set_ (Bk.set_ (Bk.set_ (Bk.set_ (Bk.set_ (Bk.set_ (Bk.set_ (Bk.set_ h 0 (.int .u8 o0)) 1 (.int .u8 o1)) 2 (.int .u8 o2)) 3 (.int .u8 o3)) 4 (.int .u8 o4)) 5 (.int .u8 o5)) 6 (.int .u8 o6)) 7 (.int .u8 o7)
theorem qM {B g:Nat} {w0 w:World} (h:Below B w0 w) (hg:B≤g) (o0 o1 o2 o3 o4 o5 o6 o7:Int):Below B w0 ((((((((w.setCell ⟨g,0,none⟩ (.int .u8 o0)).setCell ⟨g,1,none⟩ (.int .u8 o1)).setCell ⟨g,2,none⟩ (.int .u8 o2)).setCell ⟨g,3,none⟩ (.int .u8 o3)).setCell ⟨g,4,none⟩ (.int .u8 o4)).setCell ⟨g,5,none⟩ (.int .u8 o5)).setCell ⟨g,6,none⟩ (.int .u8 o6)).setCell ⟨g,7,none⟩ (.int .u8 o7)):=
 (((((((h.setCell (p:=⟨g,0,none⟩) hg _).setCell (p:=⟨g,1,none⟩) hg _).setCell (p:=⟨g,2,none⟩) hg _).setCell (p:=⟨g,3,none⟩) hg _).setCell (p:=⟨g,4,none⟩) hg _).setCell (p:=⟨g,5,none⟩) hg _).setCell (p:=⟨g,6,none⟩) hg _).setCell (p:=⟨g,7,none⟩) hg _
theorem s9 {g:Nat} {w0 w:World} (h:w0.grownBy w (some g)) (o0 o1 o2 o3 o4 o5 o6 o7:Int):w0.grownBy ((((((((w.setCell ⟨g,0,none⟩ (.int .u8 o0)).setCell ⟨g,1,none⟩ (.int .u8 o1)).setCell ⟨g,2,none⟩ (.int .u8 o2)).setCell ⟨g,3,none⟩ (.int .u8 o3)).setCell ⟨g,4,none⟩ (.int .u8 o4)).setCell ⟨g,5,none⟩ (.int .u8 o5)).setCell ⟨g,6,none⟩ (.int .u8 o6)).setCell ⟨g,7,none⟩ (.int .u8 o7)) (some g):=
 bg (bg (bg (bg (bg (bg (bg (bg h _ _) _ _) _ _) _ _) _ _) _ _) _ _) _ _
theorem sw (w:World) (d:List Int) (hd:aO d):Calls Tryz.prog 132 #[.agg (dgA d)] w fun e w'=>e=.returned (.agg (dgA (fR d)))∧Below w.heap.size w w':=by
 obtain ⟨w1,hw1⟩:∃w1,(w.alloc (.cells (dgA d) 45)).alloc (.cells (dgA ap) 45)=w1:=⟨_,rfl⟩;have kd:bU w1 w.heap.size 45 d:=hw1▸Bk.alloc (cM w _ _) _;have kz:bU w1 (w.heap.size+1) 45 ap:=hw1▸Bk.at_ _ _ _ (by simp) (dS _);have hb1:Below w.heap.size w w1:=hw1▸(ai w _).alloc (by simp) _;have HKZ:=aa kz;have HB1:=aa hb1;have HW:=aa hw1;have HC1:=aa kd.heap;have HID:=bM d hd;clear kd kz hb1 hw1;go_enter Tryz.func132,Tryz.ntmps132;go_upto_region 1 with fail
 rw [fj,show List.replicate 8 (0:Int)=ap from rfl,HW.out];go_wp2_with (refine wpList_load_row rfl 45 _ rfl w.heap.size rfl 45 (dgA d) (0,0) _ HC1.out Tryz.underlying45 rfl HID.out ?_)
 refine (lq _ d hd _ (by decide)).mono ?_;rintro e w2 ⟨rfl,hb2⟩;have HB2:=aa (HB1.trans (hb2.mono HB1.size));have HZ2:=aa (HKZ.later hb2).heap;clear hb2;rw [show ge d (cd { data:=#[108,101,97,102] })=fR d from rfl];have HI:=bM (fR d) (gM _);have HO:=aa (dk (fR d));have HS:Hid ((dgA ap).size=(dgA (fR d)).size):=by show _=_;rw [bc,bc,(gM d).len];rfl
 obtain ⟨C,hC⟩:∃C,dgA (fR d)=C:=⟨_,rfl⟩;have HC:=aa hC;rw [hC] at HI HO HS ⊢;clear hC;go_wp2_with (refine wpList_store_row rfl 45 _ _ rfl (w.heap.size+1) C rfl rfl 45 (dgA ap) HZ2.out HI.out HS.out HO.out ?_)
 refine bodyPost_ret (results_cell_row (p:=2) (ty:=45) rfl _ _ (w.heap.size+1) 45 C (0,0) _ rfl (setRow_heap _ _ _ _ _ _ HZ2.out) Tryz.underlying45 rfl HI.out) rfl ?_;rw [←HC.out];exact ⟨rfl,below_setRow HB2.out (by omega) _⟩
theorem Az (w:World) (a:List Int) (ha:aO a) (s:ByteArray) (hs:s.size≤9223372036854775807):Calls Tryz.prog 131 #[.agg (dgA a),.string s] w fun e w'=>∃o0 o1 o2 o3 o4 o5 o6 o7:Int,e=.returned (.agg #[.int .u8 o0,.int .u8 o1,.int .u8 o2,.int .u8 o3,.int .u8 o4,.int .u8 o5,.int .u8 o6,.int .u8 o7])∧Hid (ge a (cd s)=[o0,o1,o2,o3,o4,o5,o6,o7])∧Below w.heap.size w w':=by obtain ⟨o0,o1,o2,o3,o4,o5,o6,o7,ho⟩:=dQ (ge a (cd s)) (fN _ _).len;refine (lq w a ha s hs).mono ?_;rintro e w' ⟨rfl,hb⟩;exact ⟨o0,o1,o2,o3,o4,o5,o6,o7,by rw [ho];rfl,ho,hb⟩
theorem vb (x:Nat):(⟨#[114,111,111,116]⟩ ++ ⟨(nQ x).toArray⟩:ByteArray)=mW x:=by rw [mW];simp [ByteArray.ext_iff]
theorem ta (x:Nat):(⟨(nQ x).toArray⟩:ByteArray).size≤2:=by unfold nQ;split <;> simp [ByteArray.size]
theorem tb (x:Nat):(mW x).size≤6:=by unfold mW nQ;split <;> simp [ByteArray.size]
set_option maxRecDepth 20000 in
theorem sx (w:World) (d:List Int) (hd:aO d) (x:Int) (h0:0≤x) (h1:x≤12):Calls Tryz.prog 73 #[.agg (dgA d),.int .i64 x] w fun e w'=>e=.returned (.agg (dgA (kF d x.toNat)))∧Below w.heap.size w w':=by
 obtain ⟨a0,a1,a2,a3,a4,a5,a6,a7,rfl⟩:=dQ d hd.len;obtain ⟨w1,hw1⟩:∃w1,(w.alloc (.cells (dgA [a0,a1,a2,a3,a4,a5,a6,a7]) 45)).alloc (.cells (dgA ap) 45)=w1:=⟨_,rfl⟩;have kd:bU w1 w.heap.size 45 [a0,a1,a2,a3,a4,a5,a6,a7]:=hw1▸Bk.alloc (cM w _ _) _;have kz:bU w1 (w.heap.size+1) 45 ap:=hw1▸Bk.at_ _ _ _ (by simp) (dS _);have hb1:Below w.heap.size w w1:=hw1▸(ai w _).alloc (by simp) _;have hS:=jr kd;have hRS:=tb x.toNat;have hds:=ta x.toNat;have HIT:=aa (fun W=>va x h0 h1 W);have HAD:=aa (vb x.toNat);obtain ⟨R,hR⟩:∃R:ByteArray,⟨(nQ x.toNat).toArray⟩=R:=⟨_,rfl⟩;obtain ⟨RR,hRR⟩:∃RR:ByteArray,mW x.toNat=RR:=⟨_,rfl⟩;have hTop:∀a,ge a (cd RR)=kF a x.toNat:=fun a=>by rw [kF,hRR]
 rw [hR,hRR] at HAD;rw [hR] at HIT hds;have q1:¬(9223372036854775807 < 4+R.size):=by omega
 have q2:¬(9223372036854775803 < R.size):=by omega
 rw [hRR] at hRS;have hadd:(⟨#[114,111,111,116]⟩ ++ R:ByteArray)=RR:=HAD.out;have HRS:Hid (RR.size≤9223372036854775807):=by show _≤_;omega
 have HTOP:=aa hTop;have HKZ:=aa kz;have HB1:=aa hb1;have HW:=aa hw1;have HA:=aa hd;have HKA:=aa kd;clear kd kz hb1 hw1 hd hR hRR hRS hTop HAD;go_enter Tryz.func73,Tryz.ntmps73;go_upto_region 1 with fail
 rw [fj,show List.replicate 8 (0:Int)=ap from rfl,HW.out];go_region_held3 (fun w'=>w'.cell? ⟨w.heap.size,0,none⟩=some (.int .u8 a0)∧w'.cell? ⟨w.heap.size,1,none⟩=some (.int .u8 a1)∧w'.cell? ⟨w.heap.size,2,none⟩=some (.int .u8 a2)∧w'.cell? ⟨w.heap.size,3,none⟩=some (.int .u8 a3)∧w'.cell? ⟨w.heap.size,4,none⟩=some (.int .u8 a4)∧w'.cell? ⟨w.heap.size,5,none⟩=some (.int .u8 a5)∧w'.cell? ⟨w.heap.size,6,none⟩=some (.int .u8 a6)∧w'.cell? ⟨w.heap.size,7,none⟩=some (.int .u8 a7)) (first | (with_reducible exact hS3) | (with_reducible exact hS2) | (with_reducible exact hS) | go_keep)
  (first | (go_at_call 134;refine (HIT.out _).mono ?_;rintro e w2 ⟨rfl,rfl⟩) | (go_at_call 131;refine (Az _ [a0,a1,a2,a3,a4,a5,a6,a7] HA.out RR HRS.out).mono ?_;rintro e w2 ⟨o0,o1,o2,o3,o4,o5,o6,o7,rfl,ho,hb2⟩;have E2:Hid (Below w1.heap.size w1 w2):=((ac w1 _ 1).trans hb2);have hS2:=jr (HKA.later E2.out);obtain ⟨⟨z0,z1,z2,z3,z4,z5,z6,z7⟩,zf,zl⟩:=zq (HKZ.later E2.out);have hS3:=jr (show bU _ w.heap.size _ _ from Bk.grown HKA.out (s9 (dm (bO w1 (w.heap.size+1)) E2.out) o0 o1 o2 o3 o4 o5 o6 o7) (by simp));clear hb2))
 have HZ8:=aa (Bk.put8 (HKZ.later E2.out) rfl o0 o1 o2 o3 o4 o5 o6 o7);have HBL:=aa (qM (B:=w.heap.size) (g:=w.heap.size+1) (HB1.trans (E2.out.mono HB1.size)) (by omega) o0 o1 o2 o3 o4 o5 o6 o7);have HI:=bM [o0,o1,o2,o3,o4,o5,o6,o7] ⟨rfl,by rw [←ho.out];exact (fN _ _).byt⟩;clear z0 z1 z2 z3 z4 z5 z6 z7 zf zl hS hS2 hS3;go_wp2_with fail
 refine bodyPost_ret (results_cell_row (p:=4) (ty:=45) rfl _ _ (w.heap.size+1) 45 (dgA [o0,o1,o2,o3,o4,o5,o6,o7]) (0,0) _ rfl HZ8.heap Tryz.underlying45 rfl HI.out) rfl ?_;exact ⟨by rw [←HTOP.out,ho.out],HBL.out⟩
open Go.Maps
def kq (l:List Int) (j:Nat):List Int:=(l.set (j+1) (l.getD j 0)).set j (l.getD (j+1) 0)
def kO:List Int→Nat→List Int
 | l,0=>l
 | l,j+1=>if l.getD (j+1) 0 < l.getD j 0 then kO (kq l j) j else l
def ku (xs:List Int):Nat→List Int
 | 0=>xs
 | i+1=>kO (ku xs i) i
theorem nD (l:List Int) (j:Nat):(kq l j).length=l.length:=by simp [kq]
theorem qt:∀(j:Nat) (l:List Int),(kO l j).length=l.length
 | 0,l=>rfl
 | j+1,l=>by
  rw [kO];split
  ·rw [qt j,nD]
  ·rfl
theorem qw (xs:List Int):∀i,(ku xs i).length=xs.length
 | 0=>rfl
 | i+1=>by rw [ku,qt,qw xs i]
theorem sg {xs:List Int} (h:xs.length≤3) (h1:1≤xs.length):ku xs xs.length=dh xs:=by
 match xs,h,h1 with
 | [a],_,_=>rfl
 | [a,b],_,_=>
  simp only [List.length_cons,List.length_nil,ku,kO,kq,dh,mK,List.getD_cons_zero,List.getD_cons_succ,List.set_cons_zero,List.set_cons_succ]
  repeat' split
  all_goals first | rfl | (exfalso;omega) | ((obtain rfl:a=b:=by omega);rfl)
 | [a,b,c],_,_=>simp only [List.length_cons,List.length_nil,ku,kO,kq,dh,mK,List.getD_cons_zero,List.getD_cons_succ,List.set_cons_zero,List.set_cons_succ];by_cases h1:b < a <;> by_cases h2:c < b <;> by_cases h3:c < a <;> by_cases e1:b≤c <;> by_cases e2:a≤b <;> by_cases e3:a≤c <;> first | (exfalso;omega) | (simp only [mK,h1,h2,h3,e1,e2,e3,if_true,if_false,List.getD_cons_zero,List.getD_cons_succ,List.set_cons_zero,List.set_cons_succ];done) | (simp only [mK,h1,h2,h3,e1,e2,e3,if_true,if_false,List.getD_cons_zero,List.getD_cons_succ,List.set_cons_zero,List.set_cons_succ];simp;omega)
theorem xj (x y:Int) (w:World):Calls Tryz.prog 206 #[.int .i64 x,.int .i64 y] w fun e w'=>e=.returned (.bool (decide (x < y)))∧w=w':=by
 obtain ⟨b,hb⟩:∃b,decide (x < y)=b:=⟨_,rfl⟩;rw [hb];have hn:∀w,Calls Tryz.prog 235 #[.int .i64 x] w fun e w'=>e=.returned (.bool false)∧w=w':=fun w=>by go_enter Tryz.func235,Tryz.ntmps235;go_wp2;go_ret;exact ⟨by simp,rfl⟩
 have HN:=aa hn;clear hn;go_enter Tryz.func206,Tryz.ntmps206;go_wp2_with (go_at_call 235;refine (HN.out _).mono ?_;rintro e w' ⟨rfl,rfl⟩)
 go_ret;exact ⟨rfl,rfl⟩
theorem sh {m:List Int} {j:Nat} (hj:j < m.length) (ys:List Value):m.map (Value.int .i64) ++ ys=(m.take j).map (Value.int .i64) ++ ([Value.int .i64 (m[j])] ++ ((m.drop (j+1)).map (Value.int .i64) ++ ys)):=by
 have h:m=m.take j ++ (m[j] :: m.drop (j+1)):=by rw [List.getElem_cons_drop,List.take_append_drop]
 calc m.map (Value.int .i64) ++ ys=(m.take j ++ (m[j] :: m.drop (j+1))).map (Value.int .i64) ++ ys:=by rw [←h]
  _=_:=by rw [List.map_append,List.map_cons,List.append_assoc];rfl
theorem xk (m:List Int) {j:Nat} (hj:j < m.length) (v:Int) (ys:List Value):(m.take j).map (Value.int .i64) ++ ([Value.int .i64 v] ++ ((m.drop (j+1)).map (Value.int .i64) ++ ys))=(m.set j v).map (Value.int .i64) ++ ys:=by rw [List.set_eq_take_append_cons_drop,if_pos hj];simp
theorem nE {w:World} {q j:Nat} {m:List Int} {ys:List Value} (h:Bk w q 3 (m.map (.int .i64) ++ ys)) (hj:j < m.length):w.cell? ⟨q,j,none⟩=some (.int .i64 (m.getD j 0)):=by rw [h.cell,List.getElem?_append_left (by simpa using hj),List.getElem?_map,List.getD_eq_getElem?_getD,List.getElem?_eq_getElem hj];rfl
theorem sS {op:Oper} {a:Act} {w:World} {Q:Exit→Act→World→Prop} {K:Act→World→Prop} (x y:Operand) (ho:op.op=.store 3 x y) (q j:Nat) (v:Int) (hx:a.eval x=.pointer (some ⟨q,j,none⟩)) (hy:a.eval y=.int .i64 v) (m:List Int) (ys:List Value) (hb:Bk w q 3 (m.map (.int .i64) ++ ys)) (hj:j < m.length) (h:∀w',Bk w' q 3 ((m.set j v).map (.int .i64) ++ ys)→w.grownBy w' (some q)→K (a.put op.dst undef) w'):op.wp Tryz.prog a w K Q:=
 au 3 x y ho q j (.int .i64 v) [.int .i64 v] hx hy rfl 3 ((m.take j).map (.int .i64)) [.int .i64 (m[j])] ((m.drop (j+1)).map (.int .i64) ++ ys) (by rw [←sh hj];exact hb) (by simp;omega) rfl (by kernel_rfl) (by intro v hv;simp at hv;subst hv;rfl)
  fun w' hp=>h w' (by have:=hp.bk;rw [xk m hj] at this;exact this) hp.only
set_option maxRecDepth 20000 in
set_option maxHeartbeats 1000000 in
theorem uB (w:World) (q n C:Nat) (xs:List Int) (ys:List Value) (h:Bk w q 3 (xs.map (.int .i64) ++ ys)) (hn:xs.length=n) (h1:1≤n) (h3:n≤3):Calls Tryz.prog 200 #[.slice (some ⟨q,0,none⟩) n C,.int .i64 0,.int .i64 n] w fun e w'=>e=.returned (.tuple #[])∧Bk w' q 3 ((ku xs n).map (.int .i64) ++ ys)∧Ch2 q q w w':=by
 have H:=aa h;have HN:=aa hn;clear h hn;go_enter Tryz.func200,Tryz.ntmps200;go_upto_region 1 with fail
 go_loopw [6,7] (fun i _ wr=>∃k:Nat,1≤k∧k≤n∧i=.int .i64 k∧Hid (Bk wr q 3 ((ku xs k).map (.int .i64) ++ ys))∧Hid (Ch2 q q w wr)) (fun i _ _=>n - (intOf i).toNat)
 case atStart=>exact ⟨1,Nat.le_refl _,h1,rfl,H.out,Ch2.refl _ _ _⟩
 case round=>
  obtain ⟨k,hk1,hk,rfl,hB,hC⟩:=hrel;by_cases hlt:k < n
  ·have hkn:(k:Int) < n:=by omega
   go_upto_region 4 with fail
   go_loopw [7] (fun j w2=>∃(t:Nat) (l:List Int),t≤k∧j=.int .i64 t∧Hid (Bk w2 q 3 (l.map (.int .i64) ++ ys))∧Hid (l.length=n∧kO l t=kO (ku xs k) k)∧Hid (Ch2 q q w w2)) (fun j _=>(intOf j).toNat)
   case atStart=>exact ⟨k,ku xs k,Nat.le_refl _,rfl,hB.out,⟨by rw [qw];exact HN.out,rfl⟩,hC.out⟩
   case round=>
    obtain ⟨t,l,ht,rfl,hL,hI,hC2⟩:=hrel;by_cases ht0:t=0
    ·subst ht0;go_upto_region 4 with fail
     refine wp_region_held_drew (S:=fun _=>True) (by kernel_rfl) trivial (fun hHeld=>?_);obtain ⟨wd,hwd⟩:∃wa,wr.drew=wa:=⟨_,rfl⟩;have hbd:Below wr.heap.size wr wd:=hwd▸ac wr wr.heap.size 1;rw [hwd];have HLd:=aa (hL.out.later hbd);have HCd:=aa (hC2.out.trans (Ch2.of_below hbd));clear hwd hbd;refine tk 0 ?_;refine tk 1 ?_;refine tk 2 ?_;refine tk 3 ?_;refine tk0 4 ?_;refine tk0 5 ?_;refine tk0 6 ?_;refine tk0 7 ?_;refine tk0 8 ?_;refine tk0 9 ?_;refine tk0 10 ?_;refine tk0 11 ?_;refine tk0 12 ?_;refine tk0 13 ?_;refine tk 14 ?_;refine wpAnyH_done rfl ?_ _;have HNX:Hid (ku xs (k+1)=l):=(hI.out.2).symm;go_wp2_with fail
     go_roundw
     case rel=>exact ⟨k+1,by omega,by omega,by go_num,by rw [HNX.out];exact HLd.out,HCd.out⟩
     case measure=>simp [intOf];omega
    ·obtain ⟨p,hp⟩:∃p,t=p+1:=⟨t - 1,by omega⟩;have htn:t < n:=by omega
     have hpn:p < n:=by omega
     have htl:t < l.length:=by rw [hI.out.1];exact htn
     have hpl:p < l.length:=by rw [hI.out.1];exact hpn
     obtain ⟨x,hx⟩:∃x,l.getD t 0=x:=⟨_,rfl⟩;obtain ⟨y,hy⟩:∃x,l.getD p 0=x:=⟨_,rfl⟩;have hw:IntKind.i64.wrap ((t:Int) - 1)=(p:Int):=by rw [IntWalk.i64_in _ (by omega)];omega
     have hd1:decide (0 < t)=true:=by simp;omega
     have htn' : (t:Int) < n:=by omega
     have hpn' : (p:Int) < n:=by omega
     have HX:Hid (∀wk,Bk wk q 3 (l.map (.int .i64) ++ ys)→wk.cell? ⟨q,t,none⟩=some (.int .i64 x)∧wk.cell? ⟨q,p,none⟩=some (.int .i64 y)):=fun wk hk=>⟨by rw [←hx];exact nE hk htl,by rw [←hy];exact nE hk hpl⟩;have HXY:Hid (l.getD t 0=x∧l.getD p 0=y∧t=p+1):=⟨hx,hy,hp⟩;have HPL:=aa (And.intro htl hpl);clear hx hy htl hpl hp ht0;go_upto_region 4 with fail
     refine wp_region_held_drew (S:=fun wk=>Bk wk q 3 (l.map (Value.int .i64) ++ ys)) (by kernel_rfl) (hL.out.later (ac wr _ 1)) (fun hHeld=>?_);obtain ⟨wd,hwd⟩:∃wa,wr.drew=wa:=⟨_,rfl⟩;have hbd:Below wr.heap.size wr wd:=hwd▸ac wr wr.heap.size 1;rw [hwd] at hHeld ⊢;have HLd:=aa (hL.out.later hbd);have HCd:=aa (hC2.out.trans (Ch2.of_below hbd));clear hwd hbd;refine tk 0 ?_;refine tk 1 ?_;refine tk 2 ?_;refine tk 3 ?_;refine tk 4 ?_;refine tk 5 ?_;refine tk 8 ?_;refine tk 9 ?_;refine tk 6 ?_;refine tk 10 ?_;refine tkv 7 rfl (fun w hSw=>by have hcell:=(HX.out w hSw).1;clear hSw;go_simp;try with_reducible rfl) ?_;refine tk 11 ?_;refine tkv 12 rfl (fun w hSw=>by have hcell:=(HX.out w hSw).2;clear hSw;go_simp;try with_reducible rfl) ?_;obtain ⟨bl,hbl⟩:∃b,decide (x < y)=b:=⟨_,rfl⟩;have HLS:=aa (xj x y);rw [hbl] at HLS;have HBL:=aa hbl;clear hbl;refine rd1 13 (fun K hK=>?_);go_simp
     (refine (HLS.out _).mono ?_;rintro e w' ⟨rfl,rfl⟩)
     refine so hK (HLd.out) (fun hHeld=>?_);clear hK K;refine tk 14 ?_;refine wpAnyH_done rfl ?_ _;cases bl with
     | false=>
      have hno:kO l t=l:=by rw [HXY.out.2.2,kO,if_neg];have:=HBL.out;rw [←HXY.out.2.2,HXY.out.1,HXY.out.2.1];simpa using this
      have HNX:Hid (ku xs (k+1)=l):=(hno.symm.trans hI.out.2).symm;go_wp2_with fail
      go_roundw
      case rel=>exact ⟨k+1,by omega,by omega,by go_num,by rw [HNX.out];exact HLd.out,HCd.out⟩
      case measure=>simp [intOf];omega
     | true=>
      have hyes:kO (kq l p) p=kO (ku xs k) k:=by rw [←hI.out.2,HXY.out.2.2,kO,if_pos];have:=HBL.out;rw [←HXY.out.2.2,HXY.out.1,HXY.out.2.1];simpa using this
      have HY:=aa hyes;clear hyes;go_upto_region 6 with fail
      refine cJ [(15,fun wk=>Bk wk q 3 (l.map (Value.int .i64) ++ ys))] (by kernel_rfl) ⟨fun _=>HLd.later (ac wd _ 1),trivial⟩ (fun hHeld=>?_);have HLe:=aa (HLd.later (ac wd wd.heap.size 1));have HCe:=aa (HCd.trans (Ch2.of_below (ac wd wd.heap.size 1)));refine tl 0 (fun hHeld=>?_);refine tl 1 (fun hHeld=>?_);refine tl 2 (fun hHeld=>?_);refine tl 3 (fun hHeld=>?_);refine tl 5 (fun hHeld=>?_);refine tl 6 (fun hHeld=>?_);refine tl 10 (fun hHeld=>?_);refine tl 11 (fun hHeld=>?_);refine tl 4 (fun hHeld=>?_);refine tl 7 (fun hHeld=>?_);refine tl 12 (fun hHeld=>?_);refine tl 8 (fun hHeld=>?_);refine tlv 13 0 rfl rfl (fun w hSw=>by have hcell:=(HX.out w hSw).1;clear hSw;go_simp;try with_reducible rfl) (fun hHeld=>?_);refine tlv 9 0 rfl rfl (fun w hSw=>by have hcell:=(HX.out w hSw).2;clear hSw;go_simp;try with_reducible rfl) (fun hHeld=>?_);refine tl 14 (fun hHeld=>?_);refine rlw 15 (fun K hK=>?_);refine sS _ _ rfl q t y rfl rfl l ys HLe.out HPL.out.1 ?_;intro w7 hb7 hg7;have HL7:=aa hb7;have HC7:=aa (HCe.trans (Ch2.of_only hg7 (.inl rfl)));clear hb7 hg7;refine sl hK ⟨fun h=>jT h (by kernel_rfl),trivial⟩ (fun hHeld=>?_);clear hK K;refine tl 16 (fun hHeld=>?_);refine rlw 17 (fun K hK=>?_);refine sS _ _ rfl q p x rfl rfl (l.set t y) ys HL7.out (by rw [List.length_set];exact HPL.out.2) ?_;intro w8 hb8 hg8;have HL8:Hid (Bk w8 q 3 ((kq l p).map (.int .i64) ++ ys)):=by show Bk _ _ _ _;obtain ⟨h1,h2,h4⟩:=HXY.out;subst h4;rw [kq,h1,h2];exact hb8
      have HC8:=aa (HC7.trans (Ch2.of_only hg8 (.inl rfl)));clear hb8 hg8;refine sl hK ⟨fun h=>jT h (by kernel_rfl),trivial⟩ (fun hHeld=>?_);clear hK K;refine cU rfl ?_ _;go_wp2_with fail
      have htp:=HXY.out.2.2;exact ⟨⟨p,kq l p,by omega,rfl,HL8.out,⟨by rw [nD];exact hI.out.1,HY.out⟩,HC8.out⟩,by simp [intOf];omega⟩
  ·go_wp2_with fail
   refine bodyPost_end (results_none rfl _ _ _) rfl ?_;have e1:k=n:=by omega
   have h9:=hB.out;rw [e1] at h9;exact ⟨rfl,h9,hC.out⟩
def zk (q:Nat) (xs:List Int) (ys:List Value) (w:World) (e:Ending) (w' : World):Prop:=e=.returned (.tuple #[])∧Bk w' q 3 ((dh xs).map (.int .i64) ++ ys)∧Ch2 q q w w'
set_option maxRecDepth 20000 in
set_option maxHeartbeats 1000000 in
theorem yK (w:World) (q n C:Nat) (lim:Int) (xs:List Int) (ys:List Value) (h:Bk w q 3 (xs.map (.int .i64) ++ ys)) (hn:xs.length=n) (h1:1≤n) (h3:n≤3):Calls Tryz.prog 155 #[.slice (some ⟨q,0,none⟩) n C,.int .i64 0,.int .i64 n,.int .i64 lim] w (zk q xs ys w):=by
 have HI:=aa (uB w q n C xs ys h hn h1 h3);have HS:=aa (show ku xs n=dh xs by rw [←hn];exact sg (by omega) (by omega));have hn12:(n:Int)≤12:=by omega
 clear h hn;go_enter Tryz.func155,Tryz.ntmps155;go_upto_region 2 with fail
 go_loopw [1,2] (fun a b wr=>a=.int .i64 0∧b=.int .i64 n∧wr=w) (fun _ _ _=>0)
 case atStart=>exact ⟨rfl,rfl,rfl⟩
 case round=>
  obtain ⟨rfl,rfl,rfl⟩:=hrel;go_wp2_with fail
  refine HI.mono ?_;rintro e w2 ⟨rfl,hb,hc⟩;rw [HS.out] at hb;have HB:=aa hb;have HC:=aa hc;clear hb hc HI;go_wp2_with fail
  refine bodyPost_end (results_none rfl _ _ _) rfl ?_;exact ⟨rfl,HB.out,HC.out⟩
set_option maxRecDepth 20000 in
set_option maxHeartbeats 1000000 in
theorem xl (w:World) (q n C:Nat) (xs:List Int) (ys:List Value) (h:Bk w q 3 (xs.map (.int .i64) ++ ys)) (hn:xs.length=n) (h1:1≤n) (h3:n≤3):Calls Tryz.prog 87 #[.slice (some ⟨q,0,none⟩) n C] w (zk q xs ys w):=by
 have HP:=aa (fun lim=>yK w q n C lim xs ys h hn h1 h3);have HL:=aa (nP (n:Int) w (by omega) (by omega));have hw:IntKind.u64.wrap (n:Int)=n:=by rw [IntKind.wrap_u64];omega
 clear h hn;go_enter Tryz.func87,Tryz.ntmps87;go_wp2_with (first | (go_at_call 88;refine HL.mono ?_;rintro e w' ⟨rfl,rfl⟩) | (go_at_call 155;refine (HP.out _).mono ?_;rintro e w' ⟨rfl,hb,hc⟩;have HB:=aa hb;have HC:=aa hc;clear hb hc HP))
 refine bodyPost_end (results_none rfl _ _ _) rfl ?_;exact ⟨rfl,HB.out,HC.out⟩
set_option maxRecDepth 20000 in
theorem uC (w:World) (A:Option Addr) (C:Nat):Calls Tryz.prog 87 #[.slice A 0 C] w fun e w'=>e=.returned (.tuple #[])∧w=w':=by
 have HL:=aa (nP 0 w (by omega) (by omega));have HP:Hid (∀lim,Calls Tryz.prog 155 #[.slice A 0 C,.int .i64 0,.int .i64 0,.int .i64 lim] w fun e w'=>e=.returned (.tuple #[])∧w=w'):=by
  intro lim;have HI:Hid (Calls Tryz.prog 200 #[.slice A 0 C,.int .i64 0,.int .i64 0] w fun e w'=>e=.returned (.tuple #[])∧w=w'):=by
   show Calls _ _ _ _ _;go_enter Tryz.func200,Tryz.ntmps200;go_upto_region 1 with fail
   go_loopw [6,7] (fun i _ wr=>i=.int .i64 1∧wr=w) (fun _ _ _=>0)
   case atStart=>exact ⟨rfl,rfl⟩
   case round=>
    obtain ⟨rfl,rfl⟩:=hrel;go_wp2_with fail
    refine bodyPost_end (results_none rfl _ _ _) rfl ?_;exact ⟨rfl,rfl⟩
  go_enter Tryz.func155,Tryz.ntmps155;go_upto_region 2 with fail
  go_loopw [1,2] (fun a b wr=>a=.int .i64 0∧b=.int .i64 0∧wr=w) (fun _ _ _=>0)
  case atStart=>exact ⟨rfl,rfl,rfl⟩
  case round=>
   obtain ⟨rfl,rfl,rfl⟩:=hrel;go_wp2_with fail
   refine HI.mono ?_;rintro e w2 ⟨rfl,rfl⟩;go_wp2_with fail
   refine bodyPost_ret (results_none rfl _ _ _) rfl ?_;exact ⟨rfl,rfl⟩
 go_enter Tryz.func87,Tryz.ntmps87;go_wp2_with (first | (go_at_call 88;refine HL.mono ?_;rintro e w' ⟨rfl,rfl⟩) | (go_at_call 155;refine (HP.out _).mono ?_;rintro e w' ⟨rfl,rfl⟩))
 refine bodyPost_end (results_none rfl _ _ _) rfl ?_;exact ⟨rfl,rfl⟩
theorem fy (w:World) (base n:Nat) (v:Value) (xs:List Int) (h:w.ownsRow base 3 1 v n (xs.map (.int .i64))) (hn:xs.length=n) (h3:n≤3) (hbw:base≤w.heap.size):Calls Tryz.prog 87 #[v] w fun e w'=>e=.returned (.tuple #[])∧w'.ownsRow base 3 1 v n ((dh xs).map (.int .i64))∧Below base w w'∧Ch2 (v.ownBlock.getD 0) (v.ownBlock.getD 0) w w':=by
 by_cases h1:1≤n
 ·obtain ⟨e1,e2,_⟩ | ⟨q,cap,ys,rfl,hb0,hb,hc,hcc,hyl,hyt⟩:=dA h
  ·omega
  ·have hbk:Bk w q 3 (xs.map (.int .i64) ++ ys.drop n):=by
    have:ys=xs.map (.int .i64) ++ ys.drop n:=by
     conv=>lhs;rw [←List.take_append_drop n ys]
     rw [Nat.mul_one] at hyt;rw [hyt]
    rw [←this];exact hb
   refine (xl w q n cap xs (ys.drop n) hbk hn h1 h3).mono ?_;rintro e w' ⟨rfl,hb',hch⟩;refine ⟨rfl,?_,hch.below (Below.refl _ _) hb0 hb0 hbw,hch⟩;exact hb'.own (base:=base) (size:=1) (cap:=cap) (n:=n) hb0 (by omega) (by omega) (by simp [cR];omega) (by rw [Nat.mul_one];exact List.take_left' (by rw [List.length_map,cR];exact hn))
 ·obtain rfl:n=0:=by omega
  obtain rfl:xs=[]:=List.eq_nil_of_length_eq_zero hn;obtain ⟨A,C,rfl⟩:=aI h;refine (uC w A C).mono ?_;rintro e w' ⟨rfl,rfl⟩;exact ⟨rfl,h,Below.refl _ _,Ch2.refl _ _ _⟩
def Ba (base:Nat) (rs:List Int) (wr:Int) (e:Ending) (w' : World):Prop:=∃v,e=.returned (.tuple #[v,.int .i64 wr])∧w'.ownsRow base 3 1 v rs.length (rs.map (.int .i64))
set_option maxRecDepth 20000 in
set_option maxHeartbeats 1000000 in
theorem mv (w:World) (s:MsT) (A:Option Addr) (C:Nat) (c:Sln) (L:List aX) (hm:Sl w w.heap.size 1 A s.mem.length (s.mem.map (.int .i32))) (ok:eF s) (h0:s.halt=0) (hc:bZ w w.heap.size c L) (hL:cX w):Calls Tryz.prog 39 #[.slice c.A c.N c.C,.agg (aF s.pc (.slice A s.mem.length C) s.halt).toArray] w fun e w'=>Ba w.heap.size (aE (L.map toI) s).1 (aE (L.map toI) s).2 e w'∧Below w.heap.size w w':=by
 obtain ⟨z,hz⟩:∃z,w.heap.size=z:=⟨_,rfl⟩;obtain ⟨w1,hw1⟩:∃w1,w.alloc (.cells (aF s.pc (.slice A s.mem.length C) s.halt).toArray 38)=w1:=⟨_,rfl⟩;have hk:Bk w1 z 38 (aF s.pc (.slice A s.mem.length C) s.halt):=hw1▸Bk.at_ w _ _ hz rfl;have hb:Below w.heap.size w w1:=hw1▸ai w _;have HW:=aa hw1;have HB:=aa hb;have HZ:=aa hz;have HK:=aa hk;have HM:=aa (hm.later hb);have HOK:=aa ok;have HC:Hid (bZ w1 w1.heap.size c L):=(hc.below hb).more hb.size;have HL:=aa (hL.later hb);have H0:=aa h0;clear hk hw1 hz hb hm ok h0 hc hL;go_enter Tryz.func39,Tryz.ntmps39;go_upto_region 1 with fail
 rw [HW.out,HZ.out];go_wp2_with (with_reducible refine aj rfl 38 _ rfl z rfl (aF s.pc (.slice A s.mem.length C) s.halt) 38 HK.out _ Tryz.underlying38 rfl (aN _ _ _) ?_)
 refine (jE w1 s A C HOK.out).mono ?_;rintro e w2 ⟨rfl,hbn⟩;have HK2:=aa (HK.later hbn);have HB2:=aa (ab HB.out hbn);have HM2:=aa (HM.later hbn);have HC2:Hid (bZ w2 w2.heap.size c L):=(HC.below hbn).more hbn.size;have HL2:=aa (HL.later hbn);have d2:w2.cell? ⟨z,2,none⟩=some (.int .i64 0):=by have:=HK2.cell 2;simpa [aF,H0.out] using this
 have HMI:Hid (oM w2 z A C s):=⟨HK2.out,HM2.out,HOK.out⟩;clear hbn;go_wp2_with fail
 refine (ql w2 z A C s c L HMI.out HC2.out HL2.out).mono ?_;rintro e w3 ⟨hnx,hbn⟩;have HMI3:=aa (HMI.later hbn);have HB3:=aa (ab HB2.out hbn);have HL3:=aa (HL2.later hbn);clear hbn d2;rcases hnx with ⟨i,hi,hok,hn,rfl⟩ | ⟨hn,rfl⟩;rotate_left
 ·have HRM:Hid (aE (L.map toI) s=([],-1)):=by
   show _=_;unfold aE;rw [if_neg (by rw [H0.out];decide),hn]
  clear hn;go_wp2_with (with_reducible refine ah 51 _ _ rfl ?_)
  refine ak.go ?_;obtain ⟨g,hg⟩:∃q,w3.heap.size=q:=⟨_,rfl⟩;rw [hg];refine an 51 _ _ rfl g hg (ay ⟨0,0,0,0⟩) rfl rfl rfl rfl (aW _) (dN _) ?_;intro w4 hk hbn;have HB4:=aa (ab HB3.out hbn);clear hk hbn hg;go_wp2_with fail
  go_ret2;rw [HRM.out];exact ⟨⟨_,rfl,World.ownsRow_nil _ _ _ _⟩,HB4.out⟩
 ·have HN:=aa hn;have HOK2:=aa (gA (bW hn));clear hi hok hn;go_wp2_with (with_reducible refine ah 51 _ _ rfl ?_)
  refine ak.go ?_;obtain ⟨g,hg⟩:∃q,w3.heap.size=q:=⟨_,rfl⟩;rw [hg];refine an 51 _ _ rfl g hg (ay i) rfl rfl rfl rfl (aW i) (dN i) ?_;intro w4 hk hbn;have HK4:=aa hk;have HB4:=aa (ab HB3.out hbn);have HMI4:=aa (HMI3.later hbn);have HL4:=aa (HL3.later hbn);clear hk hbn hg;obtain ⟨rs,hrs⟩:∃x,bi (toI i)=x:=⟨_,rfl⟩;obtain ⟨wi,hwi⟩:∃x,aK (toI i)=x:=⟨_,rfl⟩;go_upto_region 6 with fail
  refine wp_region_held_drew (S:=fun wk=>Bk wk g 51 (ay i)) (by kernel_rfl) (HK4.later (ac w4 _ 1)) (fun hHeld=>?_);obtain ⟨w5,hw5⟩:∃wa,w4.drew=wa:=⟨_,rfl⟩;have hb5:Below w4.heap.size w4 w5:=hw5▸ac w4 w4.heap.size 1;rw [hw5] at hHeld ⊢;have HK5:=aa (HK4.later hb5);have HB5:=aa (ab HB4.out hb5);have HMI5:=aa (HMI4.later hb5);have HL5:=aa (HL4.later hb5);clear hw5 hb5;refine tkR 0 (ay i) (fun w hSw=>(Bk.range (pre:=[]) (post:=[]) (by simpa using hSw) rfl)) Tryz.underlying51 ((aW i)) ?_;refine tkR 2 (ay i) (fun w hSw=>(Bk.range (pre:=[]) (post:=[]) (by simpa using hSw) rfl)) Tryz.underlying51 ((aW i)) ?_;refine rd1 1 (fun K hK=>?_);go_simp
  (refine (sf w5 i HL5.out HOK2.out).mono ?_;rintro e w6 ⟨⟨v6,rfl,hown⟩,hbn⟩;rw [hrs] at hown;have HO6:=aa (dB hown HB5.size);have HK6:=aa (HK5.later hbn);have HB6:=aa (ab HB5.out hbn);have HMI6:=aa (HMI5.later hbn);have HL6:=aa (HL5.later hbn);clear hown hbn)
  refine so hK (HK6.out) (fun hHeld=>?_);clear hK K;refine rd1 3 (fun K hK=>?_);go_simp
  (refine (qq w6 i HL6.out HOK2.out).mono ?_;rintro e w7 ⟨rfl,hbn⟩;rw [hwi];have HO7:=aa (az HO6.out hbn);have HK7:=aa (HK6.later hbn);have HB7:=aa (ab HB6.out hbn);have HMI7:=aa (HMI6.later hbn);clear hbn)
  refine so hK (HK7.out) (fun hHeld=>?_);clear hK K;refine tk 4 ?_;refine tk 5 ?_;refine wpAnyH_done rfl ?_ _;go_wp2_with (with_reducible refine aj rfl 51 _ rfl g rfl (ay i) 51 HK7.out _ Tryz.underlying51 rfl (aW i) ?_)
  refine (sR w7 z A C s i _ HMI7.out (bW HN.out)).mono ?_;rintro e w8 ⟨rfl,hbn⟩;obtain ⟨f,hf⟩:∃x,dg (toI i) s.mem=x:=⟨_,rfl⟩;rw [hf];have HO8:=aa (az HO7.out hbn);have HK8:=aa (HK7.later hbn);have HB8:=aa (ab HB7.out hbn);have HE:Hid (bi (toI i)=rs∧aK (toI i)=wi∧dg (toI i) s.mem=f):=⟨hrs,hwi,hf⟩;have hlen:rs.length≤2:=by rw [←hrs];exact ng _
  have HLEN:=aa hlen;have c0:w8.cell? ⟨g,0,none⟩=some (.int .i64 i.op):=HK8.cell 0;clear hrs hwi hf hbn hlen;obtain ⟨v8,hv8⟩:∃x,v6=x:=⟨_,rfl⟩;rw [hv8] at HO8 ⊢;clear hv8;have HRR:Hid (aE (L.map toI) s=(if i.op=16 then (dh rs,f) else if i.op=15 then (if f < 0 then (dh rs,-1) else (dh (if f∈rs then rs else rs ++ [f]),wi)) else (dh rs,wi))):=by show _=_;unfold aE;rw [if_neg (by rw [H0.out];decide),HN.out];simp only [HE.out.1,HE.out.2.1,HE.out.2.2];rfl
  cases h6:(i.op == 16) with
  | true=>
   have HRM:Hid (aE (L.map toI) s=(dh rs,f)):=by show _=_;rw [HRR.out,if_pos (eq_of_beq h6)]
   go_wp2_with fail
   refine (fy w8 w.heap.size (rs).length v8 (rs) HO8.out rfl (by have:=HLEN.out;omega) (by have:=HB8.size;omega)).mono ?_;rintro e w9 ⟨rfl,ho9,hb9,_⟩;have HO9:=aa ho9;have HB9:=aa (HB8.trans hb9);clear ho9 hb9;go_wp2_with fail
   go_ret2;rw [HRM.out];refine ⟨⟨_,rfl,?_⟩,HB9.out⟩;show World.ownsRow _ _ _ _ _ _ _;rw [cR];exact HO9.out
  | false=>
   have n6:=ne_of_beq_false h6;cases h5:(i.op == 15) with
   | false=>
    have HRM:Hid (aE (L.map toI) s=(dh rs,wi)):=by show _=_;rw [HRR.out,if_neg n6,if_neg (ne_of_beq_false h5)]
    go_wp2_with fail
    refine (fy w8 w.heap.size (rs).length v8 (rs) HO8.out rfl (by have:=HLEN.out;omega) (by have:=HB8.size;omega)).mono ?_;rintro e w9 ⟨rfl,ho9,hb9,_⟩;have HO9:=aa ho9;have HB9:=aa (HB8.trans hb9);clear ho9 hb9;go_wp2_with fail
    go_ret2;rw [HRM.out];refine ⟨⟨_,rfl,?_⟩,HB9.out⟩;show World.ownsRow _ _ _ _ _ _ _;rw [cR];exact HO9.out
   | true=>
    cases hf0:decide (f < 0) with
    | true=>
     have hf0' : f < 0:=by simpa using hf0
     have HRM:Hid (aE (L.map toI) s=(dh rs,-1)):=by show _=_;rw [HRR.out,if_neg n6,if_pos (eq_of_beq h5),if_pos hf0']
     go_wp2_with fail
     refine (fy w8 w.heap.size (rs).length v8 (rs) HO8.out rfl (by have:=HLEN.out;omega) (by have:=HB8.size;omega)).mono ?_;rintro e w9 ⟨rfl,ho9,hb9,_⟩;have HO9:=aa ho9;have HB9:=aa (HB8.trans hb9);clear ho9 hb9;go_wp2_with fail
     go_ret2;rw [HRM.out];refine ⟨⟨_,rfl,?_⟩,HB9.out⟩;show World.ownsRow _ _ _ _ _ _ _;rw [cR];exact HO9.out
    | false=>
     have hf0' : ¬f < 0:=by simpa using hf0
     obtain ⟨A8,C8,rfl⟩:=aI HO8.out;go_wp2_with fail
     refine (fE w8 w8.heap.size A8 _ C8 rs f (Sl.of_own HO8.out) (by have:=HLEN.out;omega)).mono ?_;rintro e w' ⟨rfl,rfl⟩;cases hin:decide (f∈rs) with
     | true=>
      have HRM:Hid (aE (L.map toI) s=(dh rs,wi)):=by show _=_;rw [HRR.out,if_neg n6,if_pos (eq_of_beq h5),if_neg (show ¬f < 0 by omega),if_pos (by simpa using hin)]
      go_wp2_with fail
      refine (fy w8 w.heap.size (rs).length (.slice A8 rs.length C8) (rs) HO8.out rfl (by have:=HLEN.out;omega) (by have:=HB8.size;omega)).mono ?_;rintro e w9 ⟨rfl,ho9,hb9,_⟩;have HO9:=aa ho9;have HB9:=aa (HB8.trans hb9);clear ho9 hb9;go_wp2_with fail
      go_ret2;rw [HRM.out];refine ⟨⟨_,rfl,?_⟩,HB9.out⟩;show World.ownsRow _ _ _ _ _ _ _;rw [cR];exact HO9.out
     | false=>
      have HRM:Hid (aE (L.map toI) s=(dh (rs ++ [f]),wi)):=by show _=_;rw [HRR.out,if_neg n6,if_pos (eq_of_beq h5),if_neg (show ¬f < 0 by omega),if_neg (by simpa using hin)]
      go_wp2_with (with_reducible refine a8 22 _ _ rfl ?_)
      refine ak.go ?_;refine ar (by rfl) 22 1 _ rfl #[(0,.int .i64 f)] (by simp [Act.eval,Act.put]) 3 [.int .i64 f] (fun w=>jF _ w) ?_;intro q9 w9 hq9 hb9 hbn;have HN9:=aa hb9;have HO9:=aa (az HO8.out hbn);have HB9:=aa (ab HB8.out hbn);clear hq9 hb9 hbn c0;obtain ⟨i0,hj,hj0,hj1,hj2⟩:=info_parts Tryz.infoI64;have hbw:w.heap.size≤w9.heap.size:=HB9.size;have hnl:=HLEN.out;go_wp2_with (at_builtin;refine bm _ rfl (.tmp 55) (.tmp 57) 22 rfl w.heap.size 3 i0 _ _ _ Tryz.underlying22 hj hj0 hj1 hj2 rfl (by decide) _ _ _ rfl HO9.out _ _ _ _ _ rfl (HN9.sl (n:=1) rfl (by omega) (fun _ _ h=>h)) (by intro u hu;simp at hu;subst hu;rfl) (by unfold maxLen;omega) (by omega) hbw ?_;intro v10 w10 hown hg hat;refine bA ?_)
      refine ak.go ?_;have HO10:Hid (w10.ownsRow w.heap.size 3 1 v10 (rs ++ [f]).length ((rs ++ [f]).map (.int .i64))):=by show World.ownsRow _ _ _ _ _ _ _;rw [List.length_append,List.map_append];exact hown
      have HB10:=aa (aB HB9.out HO9.out hg (Nat.le_refl _) hbw);clear hown hg hat hj hj0 hj1 hj2 i0 hbw hnl;go_wp2_with fail
      refine (fy w10 w.heap.size (rs ++ [f]).length v10 (rs ++ [f]) HO10.out rfl (by rw [List.length_append];have:=HLEN.out;simp;omega) (by have:=HB10.size;omega)).mono ?_;rintro e w11 ⟨rfl,ho9,hb9,_⟩;have HO11:=aa ho9;have HB11:=aa (HB10.trans hb9);clear ho9 hb9;go_wp2_with fail
      go_ret2;rw [HRM.out];refine ⟨⟨_,rfl,?_⟩,HB11.out⟩;show World.ownsRow _ _ _ _ _ _ _;rw [cR];exact HO11.out
theorem jU.nil (w:World):jU w []:=fun p hp=>by simp at hp
theorem jU.add {w w' : World} {ps:List Pc} {p:Pc} (h:jU w ps) (hb:Below w.heap.size w w') (hp:jU w' [p]):jU w' (ps ++ [p]):=fun q hq=>by
 rcases List.mem_append.1 hq with hq | hq
 ·exact h.later hb q hq
 ·exact hp q hq
open Go.ChangeShapes Go.WideShapes Go.ChangeAt Go.Deep
theorem oW {α:Type} {f:α→List Value} {m:Nat} : ∀(l:List α) (_:∀z∈l,(f z).length=m) (i j:Nat) (z:α),l[i]?=some z→j < m→(l.flatMap f)[i*m+j]?=(f z)[j]?
 | [],_,i,j,z,h,_=>by simp at h
 | x :: l,hf,0,j,z,h,hj=>by simp at h;subst h;rw [List.flatMap_cons,List.getElem?_append_left (by rw [hf x (by simp)];omega)];simp
 | x :: l,hf,i+1,j,z,h,hj=>by
  rw [List.flatMap_cons,List.getElem?_append_right (by rw [hf x (by simp),Nat.succ_mul];omega),hf x (by simp)];have:(i+1)*m+j - m=i*m+j:=by rw [Nat.succ_mul];omega
  rw [this];exact oW l (fun z hz=>hf z (by simp [hz])) i j z (by simpa using h) hj
theorem lk {α:Type} {f:α→List Value} {m:Nat} : ∀(l:List α) (_:∀z∈l,(f z).length=m),(l.flatMap f).length=l.length*m
 | [],_=>by simp
 | x :: l,hf=>by rw [List.flatMap_cons,List.length_append,hf x (by simp),lk l (fun z hz=>hf z (by simp [hz])),List.length_cons,Nat.succ_mul];omega
end Go.Proofs.YtllbdpdnpaocnaaGreatDoor
