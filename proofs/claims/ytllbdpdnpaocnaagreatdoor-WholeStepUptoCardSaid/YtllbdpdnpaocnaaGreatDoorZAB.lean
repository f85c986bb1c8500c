/- Part of the proof of WholeStep. -/
import Derived.Test.YtllbdpdnpaocnaaGreatDoorZAA
import Derived.Lib.ConvBytes
import Derived.Test.YtllbdpdnpaocnaaGreatDoorRows
import Derived.BigGuardPart
import Derived.Deep.Light
import Derived.Deep.QuietTactic
import Derived.BigQuiet
import Derived.Lib.AppendStr
import Derived.Lib.EndianBits
import Derived.Deep.RegionHeld3
import Derived.BigRegion
import Derived.Deep.RegionLaw
import Derived.StillTailTactics
import Derived.Laws.Bits64
import Derived.Laws.Bits64b
import Derived.Deep.DeepCutAuto
import Derived.Deep.WholeRow
import Derived.Deep.MidRow
import Derived.Laws.CopyOwn
namespace Go.Proofs.YtllbdpdnpaocnaaGreatDoor
set_option linter.unusedSimpArgs false
set_option linter.unusedVariables false
set_option linter.constructorNameAsVariable false
open Go.RowKit
def ap:List Int:=List.replicate 8 0
def fz (ds:List Int):Prop:=∀b∈ds,0≤b∧b < 256
theorem fz.tail {b:Int} {l:List Int} (h:fz (b :: l)):fz l:=fun x hx=>h x (by simp [hx])
theorem fz.take {l:List Int} (h:fz l) (k:Nat):fz (l.take k):=fun x hx=>h x (List.mem_of_mem_take hx)
theorem fz.drop {l:List Int} (h:fz l) (k:Nat):fz (l.drop k):=fun x hx=>h x (List.mem_of_mem_drop hx)
theorem Tryz.infoU8:(Tryz.prog.info? 5).map (fun i=>(i.zero,i.size,i.bytes))=some (some (.int .u8 0),1,1):=by kernel_rfl
def cd (s:ByteArray):List Int:=s.data.toList.map fun c=>(c.toNat:Int)
theorem kR (s:ByteArray):(cd s).length=s.size:=by simp [cd]
theorem qH (s:ByteArray):fz (cd s):=fun b hb=>by
 simp only [cd,List.mem_map] at hb;obtain ⟨c,_,rfl⟩:=hb;have:=c.toNat_lt;omega
theorem kS (W:World) (e:TypeId) (s:ByteArray):Below W.heap.size W (Lib.bytesWorld W e s):=
 ⟨rfl,rfl,rfl,by rw [Lib.bytesWorld_size];omega,fun j hj=>Lib.bytesWorld_at_old W e s j hj⟩
theorem uT (W:World) (e:TypeId) (s:ByteArray) (hs:s.size≤9223372036854775807):Sl (Lib.bytesWorld W e s) (Lib.bytesWorld W e s).heap.size 1 (some ⟨W.heap.size,0,none⟩) s.size ((cd s).map (.int .u8)):=
 ⟨by simp [kR],hs,fun _=>⟨_,rfl,by rw [Lib.bytesWorld_size];exact Nat.lt_succ_self _,fun j u hu=>by
  have hj:j < s.size:=by have:=(List.getElem?_eq_some_iff.1 hu).1;simpa [kR] using this
  rw [fH,Nat.zero_add,Lib.bytesWorld_cell W e s j hj];have hl:j < s.data.toList.length:=by simpa using hj
  rw [List.getElem?_map,cd,List.getElem?_map,List.getElem?_eq_getElem hl] at hu;rw [List.getD_eq_getElem?_getD,List.getElem?_eq_getElem hl];simpa using hu⟩⟩
theorem lr {w w' : World} {size n ga:Nat} {A:Option Addr} {xs:List Value} (h:Sl w w.heap.size size A n xs) (hg:w.grownBy w' (some ga)) (ha:∀ad,A=some ad→ad.block≠ga):Sl w' w'.heap.size size A n xs:=
 ⟨h.len,h.le,fun hn=>by
  obtain ⟨ad,e,hb,hc⟩:=h.mem hn;exact ⟨ad,e,Nat.lt_of_lt_of_le hb hg.size,fun j u hu=>(World.cell?_of_block (hg.block _ (by rw [du];exact hb) (by rw [du];intro h;injection h with h;exact ha ad e h))).trans (hc j u hu)⟩⟩
def kB:Nat→Nat→List Int
 | 0,n=>[(n:Int)]
 | f+1,n=>if n < 128 then [(n:Int)] else ((n % 128+128:Nat):Int) :: kB f (n / 128)
def kC (n:Nat):List Int:=kB 9 n
theorem gK {f n:Nat} (h:n < 128):kB f n=[(n:Int)]:=by cases f <;> simp [kB,h]
theorem lu {f n:Nat} (h:128≤n):kB (f+1) n=((n % 128+128:Nat):Int) :: kB f (n / 128):=by rw [kB,if_neg (by omega)]
theorem pd:∀f n,1≤(kB f n).length∧(kB f n).length≤f+1
 | 0,n=>by simp [kB]
 | f+1,n=>by
  by_cases h:n < 128
  ·rw [gK h];simp
  ·rw [lu (by omega),List.length_cons];have:=pd f (n / 128);omega
theorem uU:∀(f n:Nat),n < 128 ^ (f+1)→∀b∈kB f n,0≤b∧b < 256
 | 0,n,hn,b,hb=>by rw [gK (by omega)] at hb;simp at hb;subst hb;omega
 | f+1,n,hn,b,hb=>by
  by_cases h:n < 128
  ·rw [gK h] at hb;simp at hb;subst hb;omega
  ·rw [lu (by omega),List.mem_cons] at hb;rcases hb with rfl | hb
   ·omega
   ·exact uU f (n / 128) (Nat.div_lt_of_lt_mul (by rw [Nat.pow_succ,Nat.mul_comm] at hn;exact hn)) b hb
theorem Av {x:Int} (h0:0≤x) (h1:x < 256):bits .or .u8 x 128=x % 128+128:=by
 have H:∀k:Fin 256,bits .or .u8 (k.val:Int) 128=(k.val:Int) % 128+128:=by decide +kernel
 have:=H ⟨x.toNat,by omega⟩;rwa [show ((⟨x.toNat,by omega⟩:Fin 256).val:Int)=x by simp;omega] at this
def uV (base:Nat) (bs:List Int) (w:World) (v:Value) (w' : World):Prop:=
 w'.ownsRow base 5 1 v bs.length (bs.map (.int .u8))∧Below base w w'
def uW (base:Nat) (bs:List Int) (w:World) (e:Ending) (w' : World):Prop:=∃v,e=.returned v∧uV base bs w v w'
set_option maxRecDepth 20000 in
theorem qI (w:World) (base:Nat) (v:Value) (xs:List Int) (hown:w.ownsRow base 5 1 v xs.length (xs.map (.int .u8))) (hbase:base≤w.heap.size) (n:Nat) (hn:Hid (n < 18446744073709551616)) (hk:xs.length≤1099511627776):Calls Tryz.prog 236 #[v,.int .u64 n] w (uW base (xs ++ kC n) w):=by
 obtain ⟨i0,hi,hi0,hi1,hi2⟩:=info_parts Tryz.infoU8;have HO:=aa hown;have HN:=hn;clear hown hn;go_enter Tryz.func236,Tryz.ntmps236;go_wp2_with fail
 go_loopw [0,1] (fun vs ns wr=>∃(done:List Int) (f m:Nat),f+done.length=9∧ns=.int .u64 m∧Hid (m < 128 ^ (f+1))∧Hid (done ++ kB f m=kC n)∧Hid (wr.ownsRow base 5 1 vs (xs ++ done).length ((xs ++ done).map (.int .u8)))∧Hid (Below base w wr)) (fun _ ns _=>(intOf ns).toNat)
 case atStart=>exact ⟨[],9,n,rfl,rfl,(by have:=HN.out;show n < 128 ^ 10;omega),by show [] ++ kB 9 n=kC n;rfl,by rw [List.append_nil];exact HO.out,Below.refl _ _⟩
 case round=>
  obtain ⟨done,f,m,hf,rfl,HM,HD,HOW,HB⟩:=hrel;have hfd:done.length≤9:=by omega
  obtain ⟨L,hL⟩:∃L,(xs ++ done).length=L:=⟨_,rfl⟩;have hLk:L≤xs.length+9:=by rw [←hL,List.length_append];omega
  rw [hL] at HOW;have HL:=aa hL;have hsz:=Nat.le_trans hbase HB.size;clear hL;by_cases hlt:128≤m
  ·have hm1:decide ((128:Int)≤(m:Int))=true:=by simp;omega
   have hm2:(128:Int)≤(m:Int):=by omega
   obtain ⟨f',rfl⟩:∃f',f=f' + 1:=⟨f - 1,by rcases Nat.eq_zero_or_pos f with rfl | h <;> first | omega | (have:=HM.out;omega)⟩;have hx:bits .or .u8 ((m:Int) % 256) 128=((m % 128+128:Nat):Int):=by rw [Av (by omega) (by omega)];omega
   have HX:=aa hx;clear hx;go_wp2_with (at_builtin;refine bm _ rfl (.tmp 7) (.tmp 11) 166 rfl base 5 i0 (.int .u8 0) 1 1 Tryz.underlying166 hi hi0 hi1 hi2 rfl (by decide) u0 L ((xs ++ done).map (.int .u8)) rfl (HOW.alloc _) _ _ 1 1 [.int .u8 (bits .or .u8 ((m:Int) % 256) 128)] rfl (nO wr #[.int .u8 (bits .or .u8 ((m:Int) % 256) 128)] 5 1 1 rfl (by omega)) (by simp [Value.oneCell']) (by unfold maxLen;omega) (by omega) (by simp;omega) ?_;intro v1 w3 hown1 hg1 hat1;have hb3:=aB (HB.alloc hsz (.cells #[.int .u8 (bits .or .u8 ((m:Int) % 256) 128)] 5)) (HOW.alloc _) hg1 (Nat.le_refl _) (by simp;omega);have HO3:=aa hown1;have HB3:=aa hb3;clear hown1 hg1 hat1 hb3)
   go_roundw
   case rel=>
    refine ⟨done ++ [((m % 128+128:Nat):Int)],f',m / 128,by simp;omega,by go_num,?_,?_,?_,HB3⟩
    ·have:=HM.out;show _ < _;exact Nat.div_lt_of_lt_mul (by rw [Nat.pow_succ,Nat.mul_comm] at this;exact this)
    ·show _=_;rw [←HD.out,lu hlt,List.append_assoc];rfl
    ·have:=HO3.out;rw [HX.out] at this;show World.ownsRow _ _ _ _ _ _ _;rw [←List.append_assoc,List.length_append,List.map_append,HL.out];exact this
   case measure=>simp [intOf];omega
  ·have hm1:decide ((128:Int)≤(m:Int))=false:=by simp;omega
   have hm2:(m:Int) < 128:=by omega
   have hfin:done ++ [(m:Int)]=kC n:=by rw [←HD.out,gK (by omega)]
   have HF:=aa hfin;clear hfin;go_wp2_with (at_builtin;refine bm _ rfl (.tmp 15) (.tmp 18) 166 rfl base 5 i0 (.int .u8 0) 1 1 Tryz.underlying166 hi hi0 hi1 hi2 rfl (by decide) u0 L ((xs ++ done).map (.int .u8)) rfl (HOW.alloc _) _ _ 1 1 [.int .u8 (m:Int)] rfl (nO wr #[.int .u8 (m:Int)] 5 1 1 rfl (by omega)) (by simp [Value.oneCell']) (by unfold maxLen;omega) (by omega) (by simp;omega) ?_;intro v1 w3 hown1 hg1 hat1;have hb3:=aB (HB.alloc hsz (.cells #[.int .u8 (m:Int)] 5)) (HOW.alloc _) hg1 (Nat.le_refl _) (by simp;omega);have HO3:=aa hown1;have HB3:=aa hb3;clear hown1 hg1 hat1 hb3)
   go_ret;refine ⟨_,rfl,?_,HB3.out⟩;have:=HO3.out;rw [←HF.out,←List.append_assoc,List.length_append,List.map_append,HL.out];exact this
set_option maxRecDepth 20000 in
theorem s6 (w:World) (A:Option Addr) (n c:Nat) (bs:List Int) (hs:Sl w w.heap.size 1 A n (bs.map (.int .u8))) (m:Nat) (hn:n≤1099511627776) (hm:m≤1099511627776):Calls Tryz.prog 237 #[.slice A n c,.int .i64 m] w (uW w.heap.size bs w):=by
 obtain ⟨i0,hi,hi0,hi1,hi2⟩:=info_parts Tryz.infoU8;have hlen:=hs.length;have HS:=aa hs;have HL:=aa hlen;clear hs hlen;go_enter Tryz.func237,Tryz.ntmps237;go_wp2_with (first | (at_make;refine wpList_make_own _ rfl _ _ 166 rfl w.heap.size 5 i0 (.int .u8 0) 1 Tryz.underlying166 hi hi0 hi1 .i64 .i64 _ (n+m) rfl rfl (by omega) (by rw [hi2];omega) (by unfold maxLen;omega) (Nat.le_refl _) ?_;intro w1 hown1 hg1;have hb1:=(Below.refl w.heap.size w).grown hg1 (Nat.le_refl _) (fun k hk=>by cases hk);have HO1:=aa hown1;have HB1:=aa hb1;have HS1:=aa (HS.below HB1.out);clear hown1 hg1 hb1) | (at_builtin;refine bm _ rfl (.tmp 9) (.tmp 10) 166 rfl w.heap.size 5 i0 (.int .u8 0) 1 1 Tryz.underlying166 hi hi0 hi1 hi2 rfl (by decide) _ 0 [] rfl HO1.out _ _ n c (bs.map (.int .u8)) rfl HS1.out (iq _ _) (by unfold maxLen;omega) (by omega) HB1.size ?_;intro v2 w2 hown2 hg2 hat2;have hb2:=aB HB1.out HO1.out hg2 (Nat.le_refl _) HB1.size;have HO2:=aa hown2;have HB2:=aa hb2;clear hown2 hg2 hb2 hat2))
 go_ret;have:=HO2.out;rw [Nat.zero_add,List.nil_append,←HL.out] at this;exact ⟨_,rfl,this,HB2.out⟩
theorem uV.form {base:Nat} {bs:List Int} {w w' : World} {v:Value} (h:uV base bs w v w'):∃A c,v=.slice A bs.length c:=aI h.1
theorem uV.sl {base:Nat} {bs:List Int} {w w' : World} {A:Option Addr} {n c:Nat} (h:uV base bs w (.slice A n c) w'):Sl w' w'.heap.size 1 A bs.length (bs.map (.int .u8)):=by
 obtain ⟨A',c',e⟩:=h.form;injection e with e1 e2 e3
 subst e1 e2 e3;exact Sl.of_own h.1
theorem lw (w:World) (A:Option Addr) (n c:Nat) (bs:List Int) (hs:Sl w w.heap.size 1 A n (bs.map (.int .u8))) (k:Nat) (hk:Hid (k < 18446744073709551616)) (hn:n≤1073741824):Calls Tryz.prog 211 #[.slice A n c,.int .u64 k] w (uW w.heap.size (bs ++ kC k) w):=by
 have hlen:=hs.length;have HS:=aa hs;have HL:=aa hlen;clear hs hlen;go_enter Tryz.func211,Tryz.ntmps211;go_wp2_with fail
 refine (s6 _ A n c bs HS.out 10 (by omega) (by omega)).mono ?_;rintro e w1 ⟨v,rfl,hown,hb1⟩;have HB1:=aa hb1;have HO1:=aa hown;clear hb1 hown;go_wp2_with fail
 refine (qI _ w.heap.size v bs HO1.out HB1.size k hk (by rw [HL.out];omega)).mono ?_;rintro e w2 ⟨v2,rfl,hown2,hb2⟩;have HB2:=aa (HB1.trans hb2);have HO2:=aa hown2;clear hb2 hown2;go_wp2_with fail
 go_ret;exact ⟨_,rfl,HO2.out,HB2.out⟩
def gw (n:Int):Nat:=if n < 0 then (2*(-(n+1))+1).toNat else (2*n).toNat
theorem xL (m:Nat) (hm:m < 9223372036854775808):bits .xor .i64 (-1) (-((m:Int)+1))=m:=by
 show IntKind.i64.wrap ((BitVec.ofInt 64 (-1) ^^^ BitVec.ofInt 64 (-((m:Int)+1))).toNat:Int)=_;have h1:BitVec.ofInt 64 (-1)=BitVec.allOnes 64:=by decide
 have h2:(-((m:Int)+1))=Int.negSucc m:=by omega
 rw [h1,BitVec.allOnes_xor,h2,BitVec.ofInt_negSucc_eq_not_ofNat,BitVec.not_not,BitVec.toNat_ofNat,Nat.mod_eq_of_lt (by omega),IntKind.wrap_i64];omega
theorem zu {x:Int} (h0:0≤x) (h1:x < 18446744073709551616) (h2:x % 2=0):bits .or .u64 x 1=x+1:=by have h:=bits_join .u64 64 (by decide) wraps_u64 1 x 1 h0 (by omega) (by omega) (by omega) (by omega) (by omega);exact h
theorem uX {k:Int} (h0 : -9223372036854775808≤k) (h:k < 0):bits .or .u64 (IntKind.u64.wrap (IntKind.u64.wrap (bits .xor .i64 (-1) k)*2)) 1=(gw k:Int):=by obtain ⟨m,rfl⟩:∃m:Nat,k= -((m:Int)+1):=⟨(-k - 1).toNat,by omega⟩;rw [xL m (by omega),IntKind.wrap_u64,IntKind.wrap_u64,zu (by omega) (by omega) (by omega),gw,if_pos h];omega
theorem uY {k:Int} (h0:k < 9223372036854775808) (h:¬k < 0):IntKind.u64.wrap (IntKind.u64.wrap k*2)=(gw k:Int):=by rw [IntKind.wrap_u64,IntKind.wrap_u64,gw,if_neg h];omega
theorem jP {k:Int} (h0 : -9223372036854775808≤k) (h1:k < 9223372036854775808):gw k < 18446744073709551616:=by unfold gw;split <;> omega
set_option maxRecDepth 20000 in
theorem qJ (w:World) (A:Option Addr) (n c:Nat) (bs:List Int) (hs:Sl w w.heap.size 1 A n (bs.map (.int .u8))) (k:Int) (hk0:Hid (-9223372036854775808≤k)) (hk1:Hid (k < 9223372036854775808)) (hn:n≤1073741824):Calls Tryz.prog 160 #[.slice A n c,.int .i64 k] w (uW w.heap.size (bs ++ kC (gw k)) w):=by
 have HS:=aa hs;have HF:=aa (jP hk0.out hk1.out);clear hs;by_cases h:k < 0
 ·have HE:=aa (uX hk0.out h);have hsg:IntKind.i64.signed=true:=rfl;go_enter Tryz.func160,Tryz.ntmps160;go_wp2_with fail
  rw [HE.out];refine (lw _ A n c bs HS.out _ HF.out hn).mono ?_;rintro e w2 ⟨v2,rfl,hown2,hb2⟩;have HB2:=aa hb2;have HO2:=aa hown2;clear hb2 hown2;go_wp2_with fail
  go_ret;exact ⟨_,rfl,HO2.out,HB2.out⟩
 ·have HE:=aa (uY hk1.out h);go_enter Tryz.func160,Tryz.ntmps160;go_wp2_with fail
  rw [HE.out];refine (lw _ A n c bs HS.out _ HF.out hn).mono ?_;rintro e w2 ⟨v2,rfl,hown2,hb2⟩;have HB2:=aa hb2;have HO2:=aa hown2;clear hb2 hown2;go_wp2_with fail
  go_ret;exact ⟨_,rfl,HO2.out,HB2.out⟩
structure Rd where
 rest:List Int
 err:Int
def jQ (w:World) (B:Nat) (v:Value) (s:Rd):Prop:=
 ∃(A:Option Addr) (n c:Nat) (bs:List Int) (at_:Nat),v=.agg #[.slice A n c,.int .i64 (at_:Int),.int .i64 s.err]∧Sl w B 1 A n (bs.map (.int .u8))∧fz bs∧at_≤n∧n≤c∧n≤1073741824∧bs.drop at_=s.rest
theorem jQ.below {w w' : World} {B:Nat} {v:Value} {s:Rd} (h:jQ w B v s) (hb:Below B w w'):jQ w' B v s:=by obtain ⟨A,n,c,bs,k,h1,h2,h3⟩:=h;exact ⟨A,n,c,bs,k,h1,h2.below hb,h3⟩
theorem jQ.more {w:World} {B B' : Nat} {v:Value} {s:Rd} (h:jQ w B v s) (hb:B≤B'):jQ w B' v s:=by obtain ⟨A,n,c,bs,k,h1,h2,h3⟩:=h;exact ⟨A,n,c,bs,k,h1,h2.more hb,h3⟩
theorem jQ.ok {w:World} {B:Nat} {v:Value} {s:Rd} (h:jQ w B v s):fz s.rest:=by obtain ⟨A,n,c,bs,k,h1,h2,h3,_,_,_,h4⟩:=h;rw [←h4];exact h3.drop _
theorem jQ.new {w:World} {B:Nat} {A:Option Addr} {n c:Nat} {bs:List Int} (hs:Sl w B 1 A n (bs.map (.int .u8))) (ho:fz bs) (hn:n≤1073741824) (hc:n≤c):jQ w B (.agg #[.slice A n c,.int .i64 0,.int .i64 0]) ⟨bs,0⟩:=
 ⟨A,n,c,bs,0,rfl,hs,ho,by omega,hc,hn,rfl⟩
def yW (B:Nat) (p:Rd × Int) (w:World) (e:Ending) (w' : World):Prop:=∃v,e=.returned (.tuple #[v,.int .u64 p.2])∧jQ w' B v p.1∧Below w.heap.size w w'
theorem yW.mk {w w' : World} {B:Nat} {p q:Rd × Int} {v:Value} (hq:p=q) (hv:jQ w B v q.1) (hB:B≤w.heap.size) (hb:Below w.heap.size w w'):yW B p w (.returned (.tuple #[v,.int .u64 q.2])) w':=by subst hq;exact ⟨v,rfl,hv.below (hb.mono hB),hb⟩
def yX (B:Nat) (p:Rd × List Int) (w:World) (e:Ending) (w' : World):Prop:=
 ∃v b,e=.returned (.tuple #[v,b])∧jQ w' B v p.1∧w'.ownsRow w.heap.size 5 1 b p.2.length (p.2.map (.int .u8))∧Below w.heap.size w w'
theorem yX.mk {w w' : World} {B:Nat} {p q:Rd × List Int} {v b:Value} (hq:p=q) (hv:jQ w B v q.1) (hB:B≤w.heap.size) (ho:w'.ownsRow w.heap.size 5 1 b q.2.length (q.2.map (.int .u8))) (hb:Below w.heap.size w w'):yX B p w (.returned (.tuple #[v,b])) w':=by subst hq;exact ⟨v,b,rfl,hv.below (hb.mono hB),ho,hb⟩
def nL (x:Int) (k:Nat):Int:=bits .or .u64 (IntKind.u64.wrap (x*2 ^ k)) (x / 2 ^ (64 - k))
def nM (a b:Int):Int:=bits .xor .u64 a b
def xG (a b:Int):Int:=IntKind.u64.wrap (a+b)
theorem An (x:Int) (w:World):Calls Tryz.prog 229 #[.int .u64 x,.int .i64 32] w fun e w'=>e=.returned (.int .u64 (nL x 32))∧w=w':=by
 have h1:bits .and .u64 32 63=32:=by decide +kernel
 go_enter Tryz.func229,Tryz.ntmps229;go_wp2_with fail
 go_ret;exact ⟨rfl,rfl⟩
theorem Ao (x:Int) (w:World):Calls Tryz.prog 229 #[.int .u64 x,.int .i64 24] w fun e w'=>e=.returned (.int .u64 (nL x 24))∧w=w':=by
 have h1:bits .and .u64 24 63=24:=by decide +kernel
 go_enter Tryz.func229,Tryz.ntmps229;go_wp2_with fail
 go_ret;exact ⟨rfl,rfl⟩
theorem Ap (x:Int) (w:World):Calls Tryz.prog 229 #[.int .u64 x,.int .i64 16] w fun e w'=>e=.returned (.int .u64 (nL x 16))∧w=w':=by
 have h1:bits .and .u64 16 63=16:=by decide +kernel
 go_enter Tryz.func229,Tryz.ntmps229;go_wp2_with fail
 go_ret;exact ⟨rfl,rfl⟩
theorem Aq (x:Int) (w:World):Calls Tryz.prog 229 #[.int .u64 x,.int .i64 63] w fun e w'=>e=.returned (.int .u64 (nL x 63))∧w=w':=by
 have h1:bits .and .u64 63 63=63:=by decide +kernel
 go_enter Tryz.func229,Tryz.ntmps229;go_wp2_with fail
 go_ret;exact ⟨rfl,rfl⟩
theorem xH (x k:Int) (w:World) (hk:k=32∨k=24∨k=16∨k=63):Calls Tryz.prog 229 #[.int .u64 x,.int .i64 k] w fun e w'=>e=.returned (.int .u64 (nL x k.toNat))∧w=w':=by
 rcases hk with rfl | rfl | rfl | rfl
 ·exact An x w
 ·exact Ao x w
 ·exact Ap x w
 ·exact Aq x w
structure St where
 a:Int
 b:Int
 c:Int
 d:Int
def uM (k:Int) (s:St):St:=
 let a0:=nM (xG s.a s.b) k;let d1:=nL (nM s.d a0) 32;let c1:=xG s.c d1;let b1:=nL (nM s.b c1) 24;let a1:=xG a0 b1;let d2:=nL (nM d1 a1) 16;let c2:=xG c1 d2;let b2:=nL (nM b1 c2) 63
 ⟨a1,b2,c2,d2⟩
def fc:Nat→St→St
 | 0,s=>s
 | k+1,s=>uM ((k:Int)+1) (fc k s)
def uN (s:St):St:=fc 6 s
def fh (s:St) (n:Int):St:=uN ⟨nM s.a n,s.b,s.c,s.d⟩
def stC (s:St):List Value:=[.int .u64 s.a,.int .u64 s.b,.int .u64 s.c,.int .u64 s.d]
def dR (w:World) (g:Nat) (t:TypeId) (s:St):Prop:=Bk w g t (stC s)
theorem dR.cells {w:World} {g:Nat} {t:TypeId} {s:St} (h:dR w g t s):w.cell? ⟨g,0,none⟩=some (.int .u64 s.a)∧w.cell? ⟨g,1,none⟩=some (.int .u64 s.b)∧w.cell? ⟨g,2,none⟩=some (.int .u64 s.c)∧w.cell? ⟨g,3,none⟩=some (.int .u64 s.d)∧∀i,w.frozen? ⟨g,i,none⟩=false:=
 ⟨h.cell 0,h.cell 1,h.cell 2,h.cell 3,h.frozen⟩
theorem bO (w:World) (g:Nat):w.grownBy w (some g):=World.grownBy.refl _ _
set_option maxRecDepth 20000 in
theorem uO (w:World) (g:Nat) (s:St) (h:dR w g 222 s):Calls Tryz.prog 198 #[.pointer (some ⟨g,0,none⟩)] w fun e w'=>e=.returned (.tuple #[])∧dR w' g 222 (uN s)∧w.grownBy w' (some g):=by
 obtain ⟨c0,c1,c2,c3,cf⟩:=h.cells;have hlt:g < w.heap.size:=Bk.lt h;have H:=aa h;clear h;go_enter Tryz.func198,Tryz.ntmps198;go_wp2_with fail
 go_quiet (fail);go_wp2_with fail
 go_loop [2,3,4,5,23] (fun a b c d i=>∃k:Nat,k≤6∧i=.int .u64 k∧a=.int .u64 (fc k s).a∧b=.int .u64 (fc k s).b∧c=.int .u64 (fc k s).c∧d=.int .u64 (fc k s).d) (fun _ _ _ _ i=>6 - (intOf i).toNat);case atStart=>exact ⟨0,by omega,rfl,rfl,rfl,rfl,rfl⟩
 case round=>
  obtain ⟨k,hk,rfl,rfl,rfl,rfl,rfl⟩:=hrel;by_cases hlt:k < 6
  ·obtain ⟨sk,hsk⟩:∃sk,fc k s=sk:=⟨_,rfl⟩;rw [hsk];have HSK:=aa hsk;clear hsk;have hk1:(k:Int) < 6:=by omega
   go_wp2_with (go_at_call 229;refine (xH _ _ _ (by decide)).mono ?_;rintro e w' ⟨rfl,rfl⟩)
   go_round;case rel=>refine ⟨k+1,by omega,by go_num,?_,?_,?_,?_⟩ <;> (rw [show fc (k+1) s=uM ((k:Int)+1) sk from by rw [fc,HSK.out]];rfl)
   case measure=>simp [intOf];omega
  ·have hk6:fc k s=uN s:=by rw [show k=6 by omega];rfl
   have HK6:=aa hk6;clear hk6;have hk1:(6:Int)≤k:=by omega
   go_wp2_with fail
   rw [HK6.out];go_end0;exact ⟨rfl,((((Bk.drewN H.out nq).set_ 0 _).set_ 1 _).set_ 2 _).set_ 3 _,bg (bg (bg (bg (qE (bO w g) nq) _ _) _ _) _ _) _ _⟩
theorem fi (w:World) (g:Nat) (s:St) (h:dR w g 222 s) (n:Int):Calls Tryz.prog 149 #[.pointer (some ⟨g,0,none⟩),.int .u64 n] w fun e w'=>e=.returned (.tuple #[])∧dR w' g 222 (fh s n)∧w.grownBy w' (some g):=by
 obtain ⟨c0,c1,c2,c3,cf⟩:=h.cells;have hlt:g < w.heap.size:=Bk.lt h;have H:=aa h;clear h;go_enter Tryz.func149,Tryz.ntmps149;go_wp2_with fail
 go_region;all_goals
  go_wp2_with fail
  refine (uO _ g ⟨nM s.a n,s.b,s.c,s.d⟩ (((H.out:Bk w g _ _).set_ 0 (.int .u64 (nM s.a n))).drew)).mono ?_;rintro e w2 ⟨rfl,hs,hg⟩;go_wp2_with fail
  go_end0;exact ⟨rfl,hs,fP (mS (bg (bO w g) _ _)) hg⟩
section
variable {w wr:World} {s:St}
end
def eI:List Int→Int
 | []=>0
 | b :: l=>b+256*eI l
structure aO (ds:List Int):Prop where
 len:ds.length=8
 byt:fz ds
def dgA (ds:List Int):Array Value:=(ds.map (Value.int .u8)).toArray
def cT (n:Int):List Int:=(List.range 8).map fun i=>n / 256 ^ i % 256
theorem ln:∀(l:List Int),fz l→0≤eI l∧eI l < 256 ^ l.length
 | [],_=>by simp [eI]
 | b :: l,h=>by obtain ⟨h1,h2⟩:=ln l h.tail;obtain ⟨h3,h4⟩:=h b (by simp);simp only [eI,List.length_cons,Int.pow_succ];omega
theorem mO:∀(l:List Int) (b:Int),eI (l ++ [b])=eI l+b*256 ^ l.length
 | [],b=>by simp [eI]
 | x :: l,b=>by
  have e:b*(256 ^ l.length*256)=256*(b*256 ^ l.length):=by rw [←Int.mul_assoc,Int.mul_comm]
  simp only [List.cons_append,eI,mO l b,List.length_cons,Int.pow_succ,e,Int.mul_add];omega
theorem lp:∀(k:Nat),(256:Int) ^ k=2 ^ (8*k)
 | 0=>rfl
 | k+1=>by rw [Int.pow_succ,lp k,Nat.mul_add,Int.pow_add];rfl
theorem mP {k m:Nat} (h:k≤m):(256:Int) ^ k≤256 ^ m:=by
 obtain ⟨d,rfl⟩:=Nat.le.dest h;rw [Int.pow_add];have h1:(0:Int) < 256 ^ k:=Int.pow_pos (by omega);have h2:(1:Int)≤256 ^ d:=by have:(0:Int) < 256 ^ d:=Int.pow_pos (by omega);omega
 calc (256:Int) ^ k=256 ^ k*1:=by rw [Int.mul_one]
  _≤256 ^ k*256 ^ d:=Int.mul_le_mul_of_nonneg_left h2 (by omega)
theorem uP {ds:List Int} (h:aO ds) {k:Nat} {b:Int} (hb:ds[k]?=some b):bits .or .u64 (eI (ds.take k)) (IntKind.u64.wrap (b*2 ^ (8*k)))=eI (ds.take (k+1)):=by
 have hk:k < 8:=by rw [←h.len];exact (List.getElem?_eq_some_iff.1 hb).1
 obtain ⟨b0,b1⟩:=h.byt b (List.mem_of_getElem? hb);have hl:(ds.take k).length=k:=by rw [List.length_take,h.len];omega
 obtain ⟨n0,n1⟩:=ln _ (h.byt.take k);rw [hl] at n1;rw [cF hb,mO,hl];have hp:(0:Int) < 256 ^ k:=Int.pow_pos (by omega);have hx0:0≤b*256 ^ k:=Int.mul_nonneg b0 (by omega);have hx1:b*256 ^ k < 256 ^ 8:=by
  have h1:b*256 ^ k≤255*256 ^ k:=Int.mul_le_mul_of_nonneg_right (by omega) (by omega);have h2:(256:Int) ^ k≤256 ^ 7:=mP (by omega);have h3:(256:Int) ^ 7*256=256 ^ 8:=by rw [←Int.pow_succ]
  have h4:(0:Int) < 256 ^ 7:=Int.pow_pos (by omega);omega
 have e8:(256:Int) ^ 8=2 ^ 64:=by decide
 rw [←lp,wraps_u64 _ hx0 (by rw [←e8];exact hx1)];exact bits_join_low .u64 64 (by decide) wraps_u64 (8*k) _ _ n0 (by rw [←lp];exact n1) (by rw [←e8];exact Int.lt_of_lt_of_le n1 (mP (by omega))) hx0 (by rw [←lp];exact Int.mul_emod_left _ _) (by rw [←e8];exact hx1)
theorem fG (n:Int):(cT n).length=8:=by simp [cT]
theorem sW (n:Int) {k:Nat} (hk:k < 8):(cT n)[k]?=some (n / 256 ^ k % 256):=by simp [cT,hk]
theorem io (n:Int):aO (cT n):=⟨fG n,fun b hb=>by
 simp only [cT,List.mem_map] at hb;obtain ⟨i,_,rfl⟩:=hb;omega⟩
theorem bc (ds:List Int):(dgA ds).size=ds.length:=by simp [dgA]
theorem xI (ds:List Int) (k:Nat):(dgA ds)[k]?=ds[k]?.map (Value.int .u8):=by simp [dgA]
theorem dS (ds:List Int):(dgA ds).toList=ds.map (Value.int .u8):=by simp [dgA]
theorem dk (ds:List Int):(dgA ds).all (·.oneCell')=true:=by unfold dgA;exact all_oneCell_toArray fun v hv=>iq _ _ v hv
theorem iO:(Tryz.prog.info? 45).map (·.size)=some 8:=by kernel_rfl
def bU (w:World) (g:Nat) (t:TypeId) (ds:List Int):Prop:=Bk w g t (ds.map (Value.int .u8))
theorem bU.heap {w:World} {g:Nat} {t:TypeId} {ds:List Int} (h:bU w g t ds):w.heap[g]?=some (.cells (dgA ds) t (0,0)):=h
theorem cM (w:World) (t:TypeId) (ds:List Int):bU (w.alloc (.cells (dgA ds) t)) w.heap.size t ds:=Bk.new' w t _ (dS ds)
theorem Bk.row {w:World} {g:Nat} {t:TypeId} {xs:List Value} (h:Bk w g t xs) (cs:Array Value):Bk (w.setRow g cs) g t cs.toList:=by unfold Bk at h ⊢;simpa using setRow_heap w g _ cs t (0,0) h
theorem Bk.rowFar {w:World} {g g' : Nat} {t:TypeId} {xs:List Value} (h:Bk w g t xs) (hne:g≠g') (cs:Array Value):Bk (w.setRow g' cs) g t xs:=by unfold Bk at h ⊢;rw [setRow_other _ _ _ _ hne];exact h
theorem bU.row {w:World} {g:Nat} {t:TypeId} {xs:List Value} (h:Bk w g t xs) (ds:List Int):bU (w.setRow g (dgA ds)) g t ds:=by have:=Bk.row h (dgA ds);rw [dS] at this;exact this
theorem oX {a w:World} {g:Nat} (h:a.grownBy w (some g)) (cs:Array Value):a.grownBy (w.setRow g cs) (some g):=
 ⟨h.os,h.tape,h.output,by simpa using h.size,fun k hk hne=>(setRow_other w g k cs (by rintro rfl;exact hne rfl)).trans (h.block k hk hne)⟩
theorem fd {P:Program} (t e:TypeId) (n:Nat) (cs:Array Value) (k:IntKind) (i:Nat) (v:Value) (h:P.underlying t=some (.array n e)) (hs:(P.info? e).map (·.size)=some 1) (hi:i < n) (hv:cs[i]?=some v) (hag:∀w,(isAgg e).run P w=.ok false w) (w:World):(Instr.index t (.agg cs) (.int k (i:Int))).run P w=.ok v w:=by
 have h1:∀w,(sizeOf e).run P w=.ok 1 w:=fun w=>by
  cases hq:P.info? e with
  | none=>simp [hq] at hs
  | some j=>simp [hq] at hs;simp [sizeOf,typeInfo,hq,hs]
 have h0:(0:Int)≤i:=by omega
 have h2:(i:Int) < n:=by omega
 simp [Instr.index,run_underlying h,asIntOf,h0,part,h1,hag,hv];intro hc;omega
set_option maxRecDepth 20000 in
theorem iP (ds:List Int) (h:aO ds) (w:World):Calls Tryz.prog 150 #[.agg (dgA ds)] w fun e w'=>e=.returned (.int .u64 (eI ds))∧Below w.heap.size w w':=by
 have hb1:=ai w (.cells (dgA ds) 45);have HC:=aa (cM w 45 ds).heap;have HI:Hid ((Tryz.prog.info? 45).map (·.size)=some (dgA ds).size):=by show _=_;rw [bc,h.len];exact iO
 have hidx:∀(k:Nat) (b:Int),ds[k]?=some b→∀w,(Instr.index 45 (.agg (dgA ds)) (.int .i64 (k:Int))).run Tryz.prog w=.ok (.int .u8 b) w:=fun k b hb w=>fd 45 5 8 _ .i64 k _ Tryz.underlying45 (by kernel_rfl) (by rw [←h.len];exact (List.getElem?_eq_some_iff.1 hb).1) (by rw [xI,hb];rfl) (fun w=>by simp [isAgg,run_underlying Tryz.underlying5]) w;have HX:=aa hidx;have HD:=aa h;clear hidx h;generalize dgA ds=C at HC HI HX hb1 ⊢;go_enter Tryz.func150,Tryz.ntmps150;go_wp2_with (refine wpList_load_row rfl 45 _ rfl w.heap.size rfl 45 C (0,0) _ HC.out Tryz.underlying45 rfl HI.out ?_)
 go_loop [3,7] (fun n i=>∃k:Nat,k≤8∧i=.int .i64 k∧n=.int .u64 (eI (ds.take k))) (fun _ i=>8 - (intOf i).toNat);case atStart=>exact ⟨0,by omega,rfl,rfl⟩
 case round=>
  obtain ⟨k,hk,rfl,rfl⟩:=hrel;by_cases hlt:k < 8
  ·have hk1:(k:Int) < 8:=by omega
   obtain ⟨b,hb⟩:∃b,ds[k]?=some b:=⟨ds[k]'(by rw [HD.len];exact hlt),List.getElem?_eq_getElem _⟩;have hx:=HX.out k b hb;have hs:=uP HD.out hb;have b01:=HD.byt b (List.mem_of_getElem? hb);obtain ⟨b0,b1⟩:=b01;obtain ⟨nk,hnk⟩:∃nk,eI (ds.take k)=nk:=⟨_,rfl⟩;rw [hnk] at hs ⊢;have HS:=aa hs;clear hb hs hnk;go_wp2_with fail
   refine ⟨⟨k+1,by omega,by go_num,by rw [HS.out]⟩,by simp [intOf];omega⟩
  ·have e8:ds.take k=ds:=List.take_of_length_le (by rw [HD.len];omega);have E8:=aa e8;clear e8;have hk1:(8:Int)≤k:=by omega
   go_wp2_with fail
   go_ret;go_light;exact ⟨(show Ending.returned (.int .u64 (eI (ds.take k)))=.returned (.int .u64 (eI ds)) by rw [E8.out]),hb1⟩
theorem sX (n:Int) (k:Nat) (hk:k < 8):((cT n).take k ++ List.replicate (8 - k) 0).set k (n / 256 ^ k % 256)=(cT n).take (k+1) ++ List.replicate (8 - (k+1)) 0:=by
 have e3:8 - k=(8 - (k+1))+1:=by omega
 have hl:((cT n).take k).length=k:=by rw [List.length_take,fG];omega
 rw [List.set_append,if_neg (by rw [hl];omega),hl,Nat.sub_self,e3,List.replicate_succ,List.set_cons_zero,cF (sW n hk),List.append_assoc];rfl
set_option maxRecDepth 20000 in
theorem oY (n:Int) (w:World):Calls Tryz.prog 80 #[.int .u64 n] w fun e w'=>e=.returned (.agg (dgA (cT n)))∧Below w.heap.size w w':=by
 obtain ⟨w1,hw1⟩:∃w1,(w.alloc (.cells #[.int .u8 0,.int .u8 0,.int .u8 0,.int .u8 0,.int .u8 0,.int .u8 0,.int .u8 0,.int .u8 0] 45)).alloc (.cells #[.int .u8 0,.int .u8 0,.int .u8 0,.int .u8 0,.int .u8 0,.int .u8 0,.int .u8 0,.int .u8 0] 45)=w1:=⟨_,rfl⟩;have hb1:Below w.heap.size w w1:=hw1▸(ai w _).alloc (by simp) _;have hz:bU w1 w.heap.size 45 (List.replicate 8 0):=hw1▸(Bk.new w _ #[.int .u8 0,.int .u8 0,.int .u8 0,.int .u8 0,.int .u8 0,.int .u8 0,.int .u8 0,.int .u8 0]).alloc _;have hc:bU w1 (w.heap.size+1) 45 ((cT n).take 0 ++ List.replicate (8 - 0) 0):=hw1▸Bk.at_ _ _ #[.int .u8 0,.int .u8 0,.int .u8 0,.int .u8 0,.int .u8 0,.int .u8 0,.int .u8 0,.int .u8 0] (by simp) rfl;have HC:=aa hc;have HW:=aa hw1;have HB:=aa hb1;have HZ:=aa hz;clear hw1 hc hb1 hz;go_enter Tryz.func80,Tryz.ntmps80;go_wp2_with fail
 rw [HW.out];go_loopw [5] (fun i wr=>∃k:Nat,k≤8∧i=.int .i64 k∧bU wr (w.heap.size+1) 45 ((cT n).take k ++ List.replicate (8 - k) 0)∧bU wr w.heap.size 45 (List.replicate 8 0)∧Below w.heap.size w wr) (fun i _=>8 - (intOf i).toNat)
 case atStart=>exact ⟨0,by omega,rfl,HC.out,HZ.out,HB.out⟩
 case round=>
  obtain ⟨k,hk,rfl,hd,hz,hbl⟩:=hrel;have hlt0:w.heap.size+1 < wr.heap.size:=Bk.lt hd;by_cases hlt:k < 8
  ·have hk1:(k:Int) < 8:=by omega
   have h0:(0:Int)≤k:=by omega
   have hcell:wr.cell? ⟨w.heap.size+1,k,none⟩=some (.int .u8 0):=by rw [Bk.cell hd,List.getElem?_map,List.getElem?_append_right (by rw [List.length_take];omega)];simp [List.getElem?_replicate,fG];omega
   have hfr:wr.frozen? ⟨w.heap.size+1,k,none⟩=false:=Bk.frozen hd k;have HD:=aa hd;have HB:=aa hbl;have HZ:=aa hz;clear hd hbl hz;go_wp2_with fail
   have e1:=Bk.set_ HD.out k (.int .u8 (n / 256 ^ k % 256));rw [←List.map_set,sX n k hlt] at e1;rw [←lp];exact ⟨⟨k+1,by omega,by go_num,e1,Bk.far HZ.out (by simp) _,HB.setCell (Nat.le_succ _) _⟩,by simp [intOf];omega⟩
  ·have e8:(cT n).take k ++ List.replicate (8 - k) 0=cT n:=by rw [List.take_of_length_le (by rw [fG];omega),show 8 - k=0 by omega];simp
   rw [e8] at hd;have hk1:(8:Int)≤k:=by omega
   have HI:Hid ((Tryz.prog.info? 45).map (·.size)=some (dgA (cT n)).size):=by show _=_;rw [bc,fG];exact iO
   have HC2:=aa (bU.heap hd);have HZ2:=aa (bU.heap hz);have HB:=aa hbl;have HO:=aa (dk (cT n));have HA:=aa hz;have HZS:Hid ((dgA (List.replicate 8 0)).size=(dgA (cT n)).size):=by show _=_;rw [bc,bc,fG];rfl
   clear e8 hd hbl hz;obtain ⟨C,hC⟩:∃C,dgA (cT n)=C:=⟨_,rfl⟩;have HCC:=aa hC;rw [hC] at HI HC2 HO HZS;clear hC;go_wp2_with (first | (refine wpList_load_row rfl 45 _ rfl (w.heap.size+1) rfl 45 C (0,0) _ HC2.out Tryz.underlying45 rfl HI.out ?_) | (refine wpList_store_row rfl 45 _ _ rfl w.heap.size C rfl rfl 45 (dgA (List.replicate 8 0)) HZ2.out HI.out HZS.out HO.out ?_))
   refine bodyPost_ret (results_cell_row (p:=2) (ty:=45) rfl _ _ w.heap.size 45 C (0,0) _ rfl (setRow_heap _ _ _ _ _ _ HZ2.out) Tryz.underlying45 rfl HI.out) rfl ?_;rw [←HCC.out];exact ⟨rfl,below_setRow HB.out (Nat.le_refl _) _⟩
def jq (s:St):List Int:=cT (nM s.a s.c)
theorem gJ (s:St):aO (jq s):=io _
def eV (kind:Int):St:=⟨2611923443488327891,1376283091369227076,11820040416388919760,kind⟩
theorem bM (ds:List Int) (h:aO ds):Hid ((Tryz.prog.info? 45).map (·.size)=some (dgA ds).size):=by show _=_;rw [bc,h.len];exact iO
theorem fj:(#[.int .u8 0,.int .u8 0,.int .u8 0,.int .u8 0,.int .u8 0,.int .u8 0,.int .u8 0,.int .u8 0]:Array Value)=dgA (List.replicate 8 0):=rfl
set_option maxRecDepth 20000 in
theorem iQ (w:World) (g:Nat) (s:St) (h:dR w g 222 s):Calls Tryz.prog 151 #[.pointer (some ⟨g,0,none⟩)] w fun e w'=>e=.returned (.agg (dgA (jq s)))∧Below w.heap.size w w':=by
 obtain ⟨w1,hw1⟩:∃w1,w.alloc (.cells (dgA (List.replicate 8 0)) 45)=w1:=⟨_,rfl⟩;have hz:bU w1 w.heap.size 45 (List.replicate 8 0):=hw1▸cM w 45 (List.replicate 8 0);have hb:Below w.heap.size w w1:=hw1▸ai w (.cells (dgA (List.replicate 8 0)) 45);obtain ⟨c0,c1,c2,c3,cf⟩:=dR.cells (w:=w1) (Bk.later h hb);have hlt:g < w1.heap.size:=Bk.lt (Bk.later h hb);have HZ:=aa hz;have HB:=aa hb;have HW:=aa hw1;have HI:=bM _ (gJ s);have HO:=aa (dk (jq s));have HS:Hid ((dgA (List.replicate 8 0)).size=(dgA (jq s)).size):=by show _=_;rw [bc,bc,(gJ s).len];rfl
 clear h hz hb hw1;go_enter Tryz.func151,Tryz.ntmps151;go_wp2_with fail
 rw [fj,HW.out];go_still_tail 9,(by kernel_rfl);go_wp2_with fail
 refine (oY _ _).mono ?_;rintro e w2 ⟨rfl,hb2⟩;rw [show cT (bits .xor .u64 s.a s.c)=jq s from rfl];have hz2:bU w2 w.heap.size 45 (List.replicate 8 0):=Bk.later (Bk.drew HZ.out) hb2;have HZ2:=aa hz2.heap;have HB2:=aa ((HB.trans (ac _ _ 1)).trans (hb2.mono HB.size));clear hz2 hb2;obtain ⟨C,hC⟩:∃C,dgA (jq s)=C:=⟨_,rfl⟩;have HC:=aa hC;rw [hC] at HI HO HS ⊢;clear hC;go_wp2_with (refine wpList_store_row rfl 45 _ _ rfl w.heap.size C rfl rfl 45 (dgA (List.replicate 8 0)) HZ2.out HI.out HS.out HO.out ?_)
 refine bodyPost_ret (results_cell_row (p:=2) (ty:=45) rfl _ _ w.heap.size 45 C (0,0) _ rfl (setRow_heap _ _ _ _ _ _ HZ2.out) Tryz.underlying45 rfl HI.out) rfl ?_;rw [←HC.out];exact ⟨rfl,below_setRow HB2.out (Nat.le_refl _) _⟩
theorem iR (w:World) (kind:Int):Calls Tryz.prog 148 #[.int .u64 kind] w fun e w'=>e=.returned (.agg #[.int .u64 (eV kind).a,.int .u64 (eV kind).b,.int .u64 (eV kind).c,.int .u64 (eV kind).d])∧Below w.heap.size w w':=by
 go_enter Tryz.func148,Tryz.ntmps148;go_wp2_with fail
 refine bodyPost_ret (v:=.agg #[.int .u64 2611923443488327891,.int .u64 1376283091369227076,.int .u64 11820040416388919760,.int .u64 kind]) (by simp [results,Tryz.results148,go_sem]) rfl ⟨rfl,?_⟩;repeat (first | exact Below.refl _ _ | refine Below.setCell ?_ (by simp) _ | refine Below.alloc ?_ (by simp) _)
theorem bU.later {w w' : World} {g:Nat} {t:TypeId} {ds:List Int} (h:bU w g t ds) (hb:Below w.heap.size w w'):bU w' g t ds:=Bk.later h hb
theorem dR.later {w w' : World} {g:Nat} {t:TypeId} {s:St} (h:dR w g t s) (hb:Below w.heap.size w w'):dR w' g t s:=Bk.later h hb
def ip (a b:List Int):List Int:=jq (fh (fh (eV 3) (eI a)) (eI b))
theorem jK (a b:List Int):aO (ip a b):=gJ _
set_option maxRecDepth 20000 in
theorem nN (w:World) (a b:List Int) (ha:aO a) (hb:aO b):Calls Tryz.prog 158 #[.agg (dgA a),.agg (dgA b)] w fun e w'=>e=.returned (.agg (dgA (ip a b)))∧Below w.heap.size w w':=by
 obtain ⟨w1,hw1⟩:∃w1,((w.alloc (.cells (dgA a) 45)).alloc (.cells (dgA b) 45)).alloc (.cells (dgA (List.replicate 8 0)) 45)=w1:=⟨_,rfl⟩;have ka:bU w1 w.heap.size 45 a:=hw1▸Bk.alloc (Bk.alloc (cM w _ a) _) _;have kb:bU w1 (w.heap.size+1) 45 b:=hw1▸Bk.alloc (Bk.at_ _ _ _ (by simp) (dS b)) _;have kz:bU w1 (w.heap.size+1+1) 45 (List.replicate 8 0):=hw1▸Bk.at_ _ _ _ (by simp) (dS _);have hb1:Below w.heap.size w w1:=hw1▸((ai w _).alloc (by simp) _).alloc (by simp <;> omega) _;have hz1:w1.heap.size=w.heap.size+1+1+1:=by rw [←hw1];simp
 have HKA:=aa ka;have HKB:=aa kb;have HKZ:=aa kz;have HB1:=aa hb1;have HW:=aa hw1;have HZ1:=aa hz1;have HIA:=bM _ ha;have HIB:=bM _ hb;have HA:=aa ha;have HB:=aa hb;clear ka kb kz hb1 hw1 hz1 ha hb;go_enter Tryz.func158,Tryz.ntmps158;go_upto_region 1 with fail
 rw [fj,HW.out];go_wp2_with fail
 refine (iR _ _).mono ?_;rintro e w2 ⟨rfl,hb2⟩;obtain ⟨s0,hs0⟩:∃s0,eV 3=s0:=⟨_,rfl⟩;rw [hs0];have HS0:=aa hs0;clear hs0;obtain ⟨w3,hw3⟩:∃w3,w2.alloc (.cells #[.int .u64 s0.a,.int .u64 s0.b,.int .u64 s0.c,.int .u64 s0.d] 222)=w3:=⟨_,rfl⟩;obtain ⟨g,hg⟩:∃g,w2.heap.size=g:=⟨_,rfl⟩;have hs3:dR w3 g 222 s0:=hw3▸Bk.at_ _ _ #[.int .u64 s0.a,.int .u64 s0.b,.int .u64 s0.c,.int .u64 s0.d] hg rfl;have hb3:Below w1.heap.size w1 w3:=hw3▸hb2.trans ((ai _ _).mono hb2.size);have hg1:w1.heap.size≤g:=by rw [←hg];exact hb2.size
 have HW3:=aa hw3;have HS3:=aa hs3;have HB3:=aa hb3;have HG:=aa hg;clear hb2 hw3 hs3 hb3 hg;have HC3:=aa (HKA.later HB3.out).heap;go_upto_region 2 with fail
 rw [HW3.out,HG.out];go_wp2_with (refine wpList_load_row rfl 45 _ rfl w.heap.size rfl 45 (dgA a) (0,0) _ HC3.out Tryz.underlying45 rfl HIA.out ?_)
 refine (iP a HA.out _).mono ?_;rintro e w4 ⟨rfl,hb4⟩;have HB4:=aa (HB3.trans (hb4.mono HB3.size));have HS4:=aa (HS3.later hb4);clear hb4;go_wp2_with fail
 refine (fi _ _ _ HS4.out _).mono ?_;rintro e w5 ⟨rfl,hs5,hg5⟩;have HB5:=aa (ag HB4.out hg5 HB4.size hg1);have HS5:=aa hs5;clear hs5 hg5;have HC5:=aa (HKB.later HB5.out).heap;go_wp2_with (refine wpList_load_row rfl 45 _ rfl (w.heap.size+1) rfl 45 (dgA b) (0,0) _ HC5.out Tryz.underlying45 rfl HIB.out ?_)
 refine (iP b HB.out _).mono ?_;rintro e w6 ⟨rfl,hb6⟩;have HB6:=aa (HB5.trans (hb6.mono HB5.size));have HS6:=aa (HS5.later hb6);clear hb6;go_wp2_with fail
 refine (fi _ _ _ HS6.out _).mono ?_;rintro e w7 ⟨rfl,hs7,hg7⟩;have HB7:=aa (ag HB6.out hg7 HB6.size hg1);have HS7:=aa hs7;clear hs7 hg7;go_wp2_with fail
 refine (iQ _ _ _ HS7.out).mono ?_;rintro e w8 ⟨rfl,hb8⟩;rw [show jq (fh (fh s0 (eI a)) (eI b))=ip a b by rw [←HS0.out];rfl];have HB8:=aa (HB7.trans (hb8.mono HB7.size));clear hb8;have HZ8:=aa (HKZ.later HB8.out).heap;have HI:=bM (ip a b) (gJ _);have HO:=aa (dk (ip a b));have HS:Hid ((dgA (List.replicate 8 0)).size=(dgA (ip a b)).size):=by show _=_;rw [bc,bc,(jK a b).len];rfl
 obtain ⟨C,hC⟩:∃C,dgA (ip a b)=C:=⟨_,rfl⟩;have HC:=aa hC;rw [hC] at HI HO HS ⊢;clear hC;go_wp2_with (refine wpList_store_row rfl 45 _ _ rfl (w.heap.size+1+1) C rfl rfl 45 (dgA (List.replicate 8 0)) HZ8.out HI.out HS.out HO.out ?_)
 refine bodyPost_ret (results_cell_row (p:=4) (ty:=45) rfl _ _ (w.heap.size+1+1) 45 C (0,0) _ rfl (setRow_heap _ _ _ _ _ _ HZ8.out) Tryz.underlying45 rfl HI.out) rfl ?_;rw [←HC.out];exact ⟨rfl,below_setRow (HB1.trans (HB8.mono (by rw [HZ1.out];omega))) (by omega) _⟩
theorem dQ {α:Type} (l:List α) (h:l.length=8):∃a0 a1 a2 a3 a4 a5 a6 a7,l=[a0,a1,a2,a3,a4,a5,a6,a7]:=by
 match l,h with
 | [a0,a1,a2,a3,a4,a5,a6,a7],_=>exact ⟨_,_,_,_,_,_,_,_,rfl⟩
theorem jr {w:World} {g:Nat} {t:TypeId} {a0 a1 a2 a3 a4 a5 a6 a7:Int} (h:bU w g t [a0,a1,a2,a3,a4,a5,a6,a7]):w.cell? ⟨g,0,none⟩=some (.int .u8 a0)∧w.cell? ⟨g,1,none⟩=some (.int .u8 a1)∧w.cell? ⟨g,2,none⟩=some (.int .u8 a2)∧w.cell? ⟨g,3,none⟩=some (.int .u8 a3)∧w.cell? ⟨g,4,none⟩=some (.int .u8 a4)∧w.cell? ⟨g,5,none⟩=some (.int .u8 a5)∧w.cell? ⟨g,6,none⟩=some (.int .u8 a6)∧w.cell? ⟨g,7,none⟩=some (.int .u8 a7):=
 ⟨Bk.cell h 0,Bk.cell h 1,Bk.cell h 2,Bk.cell h 3,Bk.cell h 4,Bk.cell h 5,Bk.cell h 6,Bk.cell h 7⟩
theorem zq {w:World} {g:Nat} {t:TypeId} (h:bU w g t (List.replicate 8 0)):(w.cell? ⟨g,0,none⟩=some (.int .u8 0)∧w.cell? ⟨g,1,none⟩=some (.int .u8 0)∧w.cell? ⟨g,2,none⟩=some (.int .u8 0)∧w.cell? ⟨g,3,none⟩=some (.int .u8 0)∧w.cell? ⟨g,4,none⟩=some (.int .u8 0)∧w.cell? ⟨g,5,none⟩=some (.int .u8 0)∧w.cell? ⟨g,6,none⟩=some (.int .u8 0)∧w.cell? ⟨g,7,none⟩=some (.int .u8 0))∧(∀i,w.frozen? ⟨g,i,none⟩=false)∧g < w.heap.size:=
 ⟨jr h,Bk.frozen h,Bk.lt h⟩
end Go.Proofs.YtllbdpdnpaocnaaGreatDoor
