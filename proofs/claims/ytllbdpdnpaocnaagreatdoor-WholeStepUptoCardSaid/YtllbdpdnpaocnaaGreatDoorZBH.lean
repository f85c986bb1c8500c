/- Part of the proof of WholeStep. -/
import Derived.Test.YtllbdpdnpaocnaaGreatDoorZBG
import Derived.Maps.OwnSet
import Derived.Maps.OwnOps
import Derived.Maps.Views
import Derived.DeepKeys4
import Derived.Lib.EndianBits
import Derived.Laws.ResultCell
import Derived.BigQuiet
namespace Go.Proofs.YtllbdpdnpaocnaaGreatDoor
set_option linter.unusedSimpArgs false
set_option linter.unusedVariables false
set_option linter.constructorNameAsVariable false
open Go.RowKit Go.Maps
abbrev Ent:=List Int × List Int
def Ar (e:Ent):Prop:=aO e.1∧aO e.2
def Bg (e:Ent):List Value:=dl e.1 ++ dl e.2
def Bh (e:Ent):Lit:=.string (keyBytes ((e.1 ++ e.2).map (Lit.int .u8)))
def yV:List Ent→Nat→DataW Unit→DataW Unit
 | [],_,D=>D
 | e :: es,i,D=>yV es (i+1) (D.put (Bh e) (.lit (.int .i64 i)))
def As (es:List Ent):DataW Unit:=yV es 0 (.map [])
def uS (es:List Ent):Prop:=(∀e∈es,Ar e)∧es.Nodup
def Au (es:List Ent) (e:Ent):List Ent:=if e∈es then es else es ++ [e]
def Bi (i:Nat):List Int:=[(i % 256:Nat),(i / 256:Nat)]
section
variable {w w' : World} {lo g:Nat} {es:List Ent}
end
section
variable {P:Program}
end
def aJ (ls:List (List Int)):List Value:=ls.flatMap fun d=>d.map (Value.int .u8)
def cY (ls:List (List Int)):Prop:=∀d∈ls,aO d
theorem eW {ls:List (List Int)} (h:cY ls):(aJ ls).length=ls.length*8:=by
 induction ls with
 | nil=>rfl
 | cons d ls ih=>have:=ih (fun x hx=>h x (by simp [hx]));have hd:=(h d (by simp)).len;unfold aJ at this ⊢;rw [List.flatMap_cons,List.length_append,this,List.length_map,hd,List.length_cons];omega
theorem qG {ls:List (List Int)} (h:cY ls) {k:Nat} {d:List Int} (hk:ls[k]?=some d) {j:Nat} (hj:j < 8):(aJ ls)[k*8+j]?=(d.map (Value.int .u8))[j]?:=by
 induction ls generalizing k with
 | nil=>simp at hk
 | cons x ls ih=>
  have hx:=(h x (by simp)).len;unfold aJ at ih ⊢;cases k with
  | zero=>simp at hk;subst hk;rw [List.flatMap_cons,List.getElem?_append_left (by rw [List.length_map,hx];omega)];simp
  | succ k=>rw [List.flatMap_cons,List.getElem?_append_right (by rw [List.length_map,hx];omega),List.length_map,hx,show (k+1)*8+j - 8=k*8+j by omega];exact ih (fun y hy=>h y (by simp [hy])) (by simpa using hk)
theorem Sl.dgs {w:World} {B n:Nat} {A:Option Addr} {ls:List (List Int)} (h:Sl w B 8 A n (aJ ls)) (ho:cY ls):ls.length=n:=by have:=h.len;rw [eW ho] at this;omega
theorem jO {w:World} {B n b o:Nat} {ls:List (List Int)} (h:Sl w B 8 (some ⟨b,o,none⟩) n (aJ ls)) (ho:cY ls) {k:Nat} {d:List Int} (hk:ls[k]?=some d):w.rangeAt b (o+k*8) (d.map (.int .u8)):=by
 intro j v hv;have hkn:k < n:=by rw [←h.dgs ho];exact (List.getElem?_eq_some_iff.1 hk).1
 obtain ⟨ad,e,_,hc⟩:=h.mem (by omega);injection e with e;subst e
 have hj:j < 8:=by have:=(List.getElem?_eq_some_iff.1 hv).1;rw [List.length_map,(ho d (List.mem_of_getElem? hk)).len] at this;exact this
 have:=hc (k*8+j) v (by rw [qG ho hk hj];exact hv);rw [fH,←Nat.add_assoc] at this;exact this
theorem zt {w:World} {B n b o:Nat} {ls:List (List Int)} (h:Sl w B 8 (some ⟨b,o,none⟩) n (aJ ls)) (ho:cY ls) {k:Nat} {d:List Int} (hk:ls[k]?=some d):w.rangeAt b (o+k*8) (dl d):=jO h ho hk
def mX:Option (List Int)→List Int
 | some d=>fR d
 | none=>gx
theorem vc:∀o,aO (mX o)
 | some d=>gM d
 | none=>jV
def cQ (ls:List (List Int)):Nat→Nat→List Int
 | 0,k=>mX ls[k]?
 | l+1,k=>ip (cQ ls l (2*k)) (cQ ls l (2*k+1))
theorem fS (ls:List (List Int)) (k:Nat):cQ ls 0 k=mX ls[k]?:=by rw [cQ]
theorem fT (ls:List (List Int)) (l k:Nat):cQ ls (l+1) k=ip (cQ ls l (2*k)) (cQ ls l (2*k+1)):=by rw [cQ]
theorem jW (ls:List (List Int)) (l k:Nat):aO (cQ ls l k):=by
 cases l with
 | zero=>rw [fS];exact vc _
 | succ l=>rw [fT];exact jK _ _
def eJ (i:Nat) (d x:List Int):List Int:=if i % 2=0 then ip d x else ip x d
def upI:Nat→List Int→List (List Int)→List Int
 | _,d,[]=>d
 | i,d,x :: xs=>upI (i / 2) (eJ i d x) xs
def gh (i:Int) (n:Nat):Bool:=decide (n≤12∧0≤i∧i < (2 ^ n:Nat))
def ep (i:Int) (leaf:List Int) (path:List (List Int)):List Int:=if gh i path.length then kF (upI i.toNat (fR leaf) path) path.length else ap
theorem gy (i:Nat) (d x:List Int):aO (eJ i d x):=by unfold eJ;split <;> exact jK _ _
theorem pj (i:Int) (leaf:List Int) (path:List (List Int)):aO (ep i leaf path):=by unfold ep;split <;> first | exact ld _ _ | exact fQ
theorem ed {P:Program} {fn:Func} {p u:Tmp} {ty:TypeId} (h:fn.results= #[.cell p ty,.tmp u]) (tmps:Array Value) (w:World) (g:Nat) (t:TypeId) (cs:Array Value) (fr:Nat × Nat) (d:TypeDesc) (hp:tmps.getD p undef=.pointer (some ⟨g,0,none⟩)) (hg:w.heap[g]?=some (.cells cs t fr)) (hu:P.underlying ty=some d) (hd:(match d with | .struct _ | .array _ _=>true | _=>false)=true) (hi:(P.info? ty).map (·.size)=some cs.size):(results fn tmps).run P w=.ok (.tuple #[.agg cs,tmps.getD u undef]) w:=by
 have hp' : tmps[p]?.getD undef=.pointer (some ⟨g,0,none⟩):=by simpa using hp
 rw [results_cell_tmp h];simp [hp',asAddr,run_loadVar_row w g t ty cs fr d hg hu hd hi,Result.andThen]
theorem sy (n:Nat) (hn:n≤12):wrap64 (2 ^ n)=((2 ^ n:Nat):Int)∧2 ^ n≤4096:=by
 have:2 ^ n≤2 ^ 12:=Nat.pow_le_pow_right (by omega) hn;have e:(2:Int) ^ n=((2 ^ n:Nat):Int):=by norm_cast
 rw [e];obtain ⟨p,hp⟩:∃p,2 ^ n=p:=⟨_,rfl⟩;rw [hp] at this ⊢;exact ⟨IntWalk.wrap64_in _ (by omega),by omega⟩
set_option maxRecDepth 20000 in
theorem mY (w:World) (i:Int) (leaf:List Int) (hd:aO leaf) (A:Option Addr) (n c:Nat) (ls:List (List Int)) (ho:cY ls) (hs:Sl w w.heap.size 8 A n (aJ ls)):Calls Tryz.prog 89 #[.int .i64 i,.agg (dgA leaf),.slice A n c] w fun e w'=>e=.returned (.tuple #[.agg (dgA (ep i leaf ls)),.bool (gh i n)])∧Below w.heap.size w w':=by
 have hn:=hs.le;have hlen:=hs.dgs ho;obtain ⟨w1,hw1⟩:∃w1,(w.alloc (.cells (dgA leaf) 45)).alloc (.cells (dgA ap) 45)=w1:=⟨_,rfl⟩;have kd:bU w1 w.heap.size 45 leaf:=hw1▸Bk.alloc (cM w _ _) _;have kz:bU w1 (w.heap.size+1) 45 ap:=hw1▸Bk.at_ _ _ _ (by simp) (dS _);have hb1:Below w.heap.size w w1:=hw1▸(ai w _).alloc (by simp) _;have HKZ:=aa kz;have HB1:=aa hb1;have HW:=aa hw1;have HS:=aa hs;have HL:=aa hlen;have HDO:=aa ho;have HD:=aa hd;have HC1:=aa kd.heap;have HID:=bM leaf hd;clear kd kz hb1 hw1 hs hlen ho hd;have HIZ:=bM ap fQ;have HOZ:=aa (dk ap);by_cases h12:12 < n
 ·have h12' : (12:Int) < n:=by omega
  have HBF:=aa (show gh i n=false by rw [gh];simp;omega);have HWF:=aa (show ep i leaf ls=ap by rw [ep,HL.out,HBF.out];rfl);go_enter Tryz.func89,Tryz.ntmps89;go_upto_region 1 with fail
  rw [fj,show List.replicate 8 (0:Int)=ap from rfl,HW.out];go_wp2_with (refine wpList_store_row rfl 45 _ _ rfl (w.heap.size+1) (dgA ap) rfl rfl 45 (dgA ap) HKZ.heap HIZ.out rfl HOZ.out ?_)
  refine bodyPost_ret (ed (p:=6) (u:=7) (ty:=45) rfl _ _ (w.heap.size+1) 45 (dgA ap) (0,0) _ rfl (setRow_heap _ _ _ _ _ _ HKZ.heap) Tryz.underlying45 rfl HIZ.out) rfl ?_;rw [HBF.out,HWF.out];exact ⟨rfl,below_setRow HB1.out (by omega) _⟩
 have h12' : decide ((12:Int) < n)=false:=by simp;omega
 by_cases h0:i < 0
 ·skip
  have HBF:=aa (show gh i n=false by rw [gh];simp;omega);have HWF:=aa (show ep i leaf ls=ap by rw [ep,HL.out,HBF.out];rfl);go_enter Tryz.func89,Tryz.ntmps89;go_upto_region 1 with fail
  rw [fj,show List.replicate 8 (0:Int)=ap from rfl,HW.out];go_wp2_with (refine wpList_store_row rfl 45 _ _ rfl (w.heap.size+1) (dgA ap) rfl rfl 45 (dgA ap) HKZ.heap HIZ.out rfl HOZ.out ?_)
  refine bodyPost_ret (ed (p:=6) (u:=7) (ty:=45) rfl _ _ (w.heap.size+1) 45 (dgA ap) (0,0) _ rfl (setRow_heap _ _ _ _ _ _ HKZ.heap) Tryz.underlying45 rfl HIZ.out) rfl ?_;rw [HBF.out,HWF.out];exact ⟨rfl,below_setRow HB1.out (by omega) _⟩
 have h0' : decide (i < 0)=false:=by simp;omega
 obtain ⟨hsh,hpl⟩:=sy n (by omega);obtain ⟨p2,hp2⟩:∃p2,2 ^ n=p2:=⟨_,rfl⟩;by_cases h2:(p2:Int)≤i
 ·rw [hp2] at hsh;have HBF:=aa (show gh i n=false by rw [gh,hp2];simp;omega);have HWF:=aa (show ep i leaf ls=ap by rw [ep,HL.out,HBF.out];rfl);go_enter Tryz.func89,Tryz.ntmps89;go_upto_region 1 with fail
  rw [fj,show List.replicate 8 (0:Int)=ap from rfl,HW.out];go_wp2_with (refine wpList_store_row rfl 45 _ _ rfl (w.heap.size+1) (dgA ap) rfl rfl 45 (dgA ap) HKZ.heap HIZ.out rfl HOZ.out ?_)
  refine bodyPost_ret (ed (p:=6) (u:=7) (ty:=45) rfl _ _ (w.heap.size+1) 45 (dgA ap) (0,0) _ rfl (setRow_heap _ _ _ _ _ _ HKZ.heap) Tryz.underlying45 rfl HIZ.out) rfl ?_;rw [HBF.out,HWF.out];exact ⟨rfl,below_setRow HB1.out (by omega) _⟩
 have h2' : decide ((p2:Int)≤i)=false:=by simp;omega
 rw [hp2] at hsh hpl;obtain ⟨i0,rfl⟩:∃i0:Nat,i=i0:=⟨i.toNat,by omega⟩;have HBF:=aa (show gh i0 n=true by rw [gh,hp2];simp;omega);obtain ⟨R,hR⟩:∃R,upI i0 (fR leaf) ls=R:=⟨_,rfl⟩;have HWF:=aa (show ep i0 leaf ls=kF R n by rw [ep,HL.out,HBF.out,if_pos rfl,Int.toNat_natCast,hR]);have HR:=aa hR;have hi0:i0≤4096:=by omega
 clear hR hp2;go_enter Tryz.func89,Tryz.ntmps89;go_upto_region 1 with fail
 rw [fj,show List.replicate 8 (0:Int)=ap from rfl,HW.out];go_wp2_with (refine wpList_load_row rfl 45 _ rfl w.heap.size rfl 45 (dgA leaf) (0,0) _ HC1.out Tryz.underlying45 rfl HID.out ?_)
 refine (sw _ leaf HD.out).mono ?_;rintro e w2 ⟨rfl,hb2⟩;have HB2:=aa (HB1.trans (hb2.mono HB1.size));have HZ2:=aa (HKZ.later hb2);have HIL:=bM (fR leaf) (gM leaf);have HOL:=aa (dk (fR leaf));have hgl:w.heap.size+1 < w2.heap.size:=Bk.lt HZ2.out;have HSL:Hid ((dgA ap).size=(dgA (fR leaf)).size):=by show _=_;rw [bc,bc,(gM leaf).len];rfl
 clear hb2;go_wp2_with (refine wpList_store_row rfl 45 _ _ rfl w2.heap.size (dgA (fR leaf)) rfl rfl 45 (dgA ap) (cM w2 _ ap).heap HIL.out HSL.out HOL.out ?_)
 have s1:bU ((w2.alloc (.cells (dgA ap) 45)).setRow w2.heap.size (dgA (fR leaf))) w2.heap.size 45 (fR leaf):=bU.row (cM w2 _ ap) (fR leaf);have s2:bU ((w2.alloc (.cells (dgA ap) 45)).setRow w2.heap.size (dgA (fR leaf))) (w.heap.size+1) 45 ap:=Bk.rowFar (Bk.alloc HZ2.out _) (by omega) _;have s3:Below w.heap.size w ((w2.alloc (.cells (dgA ap) 45)).setRow w2.heap.size (dgA (fR leaf))):=below_setRow (HB2.alloc HB2.size _) (by omega) _;have S1:=aa s1;have S2:=aa s2;have S3:=aa s3;clear s1 s2 s3;obtain ⟨g,hg⟩:∃g,w2.heap.size=g:=⟨_,rfl⟩;rw [hg] at S1 S2 S3 hgl ⊢;clear HB2 HZ2 hg HIL HOL HSL HC1 HKZ HB1 HID;go_loopw [0,31] (fun is js wr=>∃(j k:Nat) (d:List Int),j≤n∧is=.int .i64 k∧js=.int .i64 j∧k≤4096∧Hid (aO d)∧Hid (upI k d (ls.drop j)=R)∧Hid (bU wr g 45 d)∧Hid (bU wr (w.heap.size+1) 45 ap)∧Hid (Below w.heap.size w wr)) (fun _ js _=>n - (intOf js).toNat)
 case atStart=>exact ⟨0,i0,fR leaf,by omega,rfl,rfl,hi0,gM leaf,HR.out,S1.out,S2.out,S3.out⟩
 case round=>
  obtain ⟨j,k,d,hj,rfl,rfl,hk,HDK,HUP,HG,HZ,HB⟩:=hrel;have hgw:g < wr.heap.size:=Bk.lt HG.out;clear S1 S2 S3;have HIK:=bM d HDK.out;by_cases hlt:j < n
  ·obtain ⟨b,o,rfl,hbb,_⟩:=HS.spot (by omega) (by omega);obtain ⟨x,hx⟩:∃x,ls[j]?=some x:=⟨ls[j]'(by rw [HL.out];exact hlt),List.getElem?_eq_getElem _⟩;have hxo:=HDO.out x (List.mem_of_getElem? hx);have hr:=jO (HS.below HB.out) HDO.out hx;have hup:=HUP.out;rw [dJ hx,upI] at hup;have HUP2:=aa hup;have HX:=aa hxo;have HRG:=aa hr;have HI8:Hid ((Tryz.prog.info? 45).map (·.size)=some (x.map (Value.int .u8)).length):=by
    show _=_;rw [List.length_map,hxo.len];exact iO
   have HIX:=bM x hxo;have HOX:=aa (dk x);have HSX:Hid ((dgA ap).size=(dgA x).size):=by show _=_;rw [bc,bc,hxo.len];rfl
   have s1:bU ((wr.alloc (.cells (dgA ap) 45)).setRow wr.heap.size (dgA x)) wr.heap.size 45 x:=bU.row (cM wr _ ap) x;have s2:bU ((wr.alloc (.cells (dgA ap) 45)).setRow wr.heap.size (dgA x)) (w.heap.size+1) 45 ap:=Bk.rowFar (Bk.alloc HZ.out _) (by omega) _;have s4:bU ((wr.alloc (.cells (dgA ap) 45)).setRow wr.heap.size (dgA x)) g 45 d:=Bk.rowFar (Bk.alloc HG.out _) (by omega) _;have s3:Below w.heap.size w ((wr.alloc (.cells (dgA ap) 45)).setRow wr.heap.size (dgA x)):=below_setRow (HB.alloc HB.size _) (by omega) _;obtain ⟨wx,hwx⟩:∃wx,(wr.alloc (.cells (dgA ap) 45)).setRow wr.heap.size (dgA x)=wx:=⟨_,rfl⟩;rw [hwx] at s1 s2 s3 s4;have S1:=aa s1;have S2:=aa s2;have S3:=aa s3;have S4:=aa s4;have HWX:=aa hwx;clear s1 s2 s3 s4 hwx hx hxo hr hup;have hj1:(j:Int) < n:=by omega
   have hj0:(0:Int)≤j:=by omega
   obtain ⟨q,hq⟩:∃q,k / 2=q:=⟨_,rfl⟩;have hdv:(k:Int) / 2=(q:Int):=by omega
   have hq4:q≤4096:=by omega
   rw [hq] at HUP2;clear hq;by_cases hpar:k % 2=0
   ·have hm:(k:Int) % 2=0:=by omega
    have HST:=aa (show eJ k d x=ip d x by rw [eJ,if_pos hpar]);go_wp2_with (first | (refine wpList_load_mid rfl 45 _ rfl b (o+j*8) rfl (x.map (.int .u8)) _ HRG.out Tryz.underlying45 rfl HI8.out ?_) | (refine wpList_store_row rfl 45 _ _ rfl wr.heap.size (dgA x) rfl rfl 45 (dgA ap) (cM wr _ ap).heap HIX.out HSX.out HOX.out ?_;rw [fj,show List.replicate 8 (0:Int)=ap from rfl,HWX.out]) | (refine wpList_load_row rfl 45 _ rfl g rfl 45 (dgA d) (0,0) _ S4.out.heap Tryz.underlying45 rfl HIK.out ?_) | (refine wpList_load_row rfl 45 _ rfl wr.heap.size rfl 45 (dgA x) (0,0) _ S1.out.heap Tryz.underlying45 rfl HIX.out ?_))
    refine (nN _ d x HDK.out HX.out).mono ?_;rintro e w5 ⟨rfl,hb5⟩;rw [←HST.out];have G5:=aa (S4.out.later hb5);have Z5:=aa (S2.out.later hb5);have B5:=aa (S3.out.trans (hb5.mono S3.out.size));clear hb5;have HI5:=bM (eJ k d x) (gy _ _ _);have HO5:=aa (dk (eJ k d x));have HS5:Hid ((dgA d).size=(dgA (eJ k d x)).size):=by show _=_;rw [bc,bc,(gy _ _ _).len,HDK.len]
    go_wp2_with (refine wpList_store_row rfl 45 _ _ rfl g (dgA (eJ k d x)) rfl rfl 45 (dgA d) G5.out.heap HI5.out HS5.out HO5.out ?_)
    go_roundw
    case rel=>exact ⟨j+1,q,eJ k d x,by omega,rfl,by go_num,hq4,gy _ _ _,HUP2.out,bU.row G5.out _,Bk.rowFar Z5.out (by omega) _,below_setRow B5.out (by omega) _⟩
    case measure=>simp [intOf];omega
   ·have hm:(k:Int) % 2=1:=by omega
    have HST:=aa (show eJ k d x=ip x d by rw [eJ,if_neg hpar]);go_wp2_with (first | (refine wpList_load_mid rfl 45 _ rfl b (o+j*8) rfl (x.map (.int .u8)) _ HRG.out Tryz.underlying45 rfl HI8.out ?_) | (refine wpList_store_row rfl 45 _ _ rfl wr.heap.size (dgA x) rfl rfl 45 (dgA ap) (cM wr _ ap).heap HIX.out HSX.out HOX.out ?_;rw [fj,show List.replicate 8 (0:Int)=ap from rfl,HWX.out]) | (refine wpList_load_row rfl 45 _ rfl g rfl 45 (dgA d) (0,0) _ S4.out.heap Tryz.underlying45 rfl HIK.out ?_) | (refine wpList_load_row rfl 45 _ rfl wr.heap.size rfl 45 (dgA x) (0,0) _ S1.out.heap Tryz.underlying45 rfl HIX.out ?_))
    refine (nN _ x d HX.out HDK.out).mono ?_;rintro e w5 ⟨rfl,hb5⟩;rw [←HST.out];have G5:=aa (S4.out.later hb5);have Z5:=aa (S2.out.later hb5);have B5:=aa (S3.out.trans (hb5.mono S3.out.size));clear hb5;have HI5:=bM (eJ k d x) (gy _ _ _);have HO5:=aa (dk (eJ k d x));have HS5:Hid ((dgA d).size=(dgA (eJ k d x)).size):=by show _=_;rw [bc,bc,(gy _ _ _).len,HDK.len]
    go_wp2_with (refine wpList_store_row rfl 45 _ _ rfl g (dgA (eJ k d x)) rfl rfl 45 (dgA d) G5.out.heap HI5.out HS5.out HO5.out ?_)
    go_roundw
    case rel=>exact ⟨j+1,q,eJ k d x,by omega,rfl,by go_num,hq4,gy _ _ _,HUP2.out,bU.row G5.out _,Bk.rowFar Z5.out (by omega) _,below_setRow B5.out (by omega) _⟩
    case measure=>simp [intOf];omega
  ·obtain rfl:j=n:=by omega
   have hup:=HUP.out;rw [List.drop_eq_nil_of_le (by rw [HL.out];omega),upI] at hup;subst hup;go_wp2_with (refine wpList_load_row rfl 45 _ rfl g rfl 45 (dgA d) (0,0) _ HG.heap Tryz.underlying45 rfl HIK.out ?_)
   refine (sx _ d HDK.out _ (by omega) (by omega)).mono ?_;rintro e w5 ⟨rfl,hb5⟩;rw [Int.toNat_natCast];have Z5:=aa (HZ.later hb5);have B5:=aa (HB.trans (hb5.mono HB.size));clear hb5;have HI5:=bM (kF d j) (ld _ _);have HO5:=aa (dk (kF d j));have HS5:Hid ((dgA ap).size=(dgA (kF d j)).size):=by show _=_;rw [bc,bc,(ld _ _).len];rfl
   go_wp2_with (refine wpList_store_row rfl 45 _ _ rfl (w.heap.size+1) (dgA (kF d j)) rfl rfl 45 (dgA ap) Z5.out.heap HI5.out HS5.out HO5.out ?_)
   refine bodyPost_ret (ed (p:=6) (u:=7) (ty:=45) rfl _ _ (w.heap.size+1) 45 (dgA (kF d j)) (0,0) _ rfl (setRow_heap _ _ _ _ _ _ Z5.out.heap) Tryz.underlying45 rfl HI5.out) rfl ?_;rw [HBF.out,HWF.out];exact ⟨rfl,below_setRow B5.out (by omega) _⟩
theorem vd (a0 a1 a2 a3 a4 a5 a6 a7 b0 b1 b2 b3 b4 b5 b6 b7:Int) (w:World):(Op.equalIn 10000 45 (.agg #[.int .u8 a0,.int .u8 a1,.int .u8 a2,.int .u8 a3,.int .u8 a4,.int .u8 a5,.int .u8 a6,.int .u8 a7]) (.agg #[.int .u8 b0,.int .u8 b1,.int .u8 b2,.int .u8 b3,.int .u8 b4,.int .u8 b5,.int .u8 b6,.int .u8 b7])).run Tryz.prog w=.ok (eqL [a0,a1,a2,a3,a4,a5,a6,a7] [b0,b1,b2,b3,b4,b5,b6,b7]) w:=by obtain ⟨i0,hi,hz0,hz1,hz2⟩:=info_parts Tryz.infoU8;exact gv (P:=Tryz.prog) (k:=.u8) 9998 45 5 8 Tryz.underlying45 Tryz.underlying5 hi hz1 [a0,a1,a2,a3,a4,a5,a6,a7] [b0,b1,b2,b3,b4,b5,b6,b7] rfl rfl w
theorem eX {w:World} {b q:Nat} {a0 a1 a2 a3 a4 a5 a6 a7:Int} (h:w.rangeAt b q ([a0,a1,a2,a3,a4,a5,a6,a7].map (Value.int .u8))):w.cell? ⟨b,q,none⟩=some (.int .u8 a0)∧w.cell? ⟨b,q+1,none⟩=some (.int .u8 a1)∧w.cell? ⟨b,q+2,none⟩=some (.int .u8 a2)∧w.cell? ⟨b,q+3,none⟩=some (.int .u8 a3)∧w.cell? ⟨b,q+4,none⟩=some (.int .u8 a4)∧w.cell? ⟨b,q+5,none⟩=some (.int .u8 a5)∧w.cell? ⟨b,q+6,none⟩=some (.int .u8 a6)∧w.cell? ⟨b,q+7,none⟩=some (.int .u8 a7):=
 ⟨h 0 _ rfl,h 1 _ rfl,h 2 _ rfl,h 3 _ rfl,h 4 _ rfl,h 5 _ rfl,h 6 _ rfl,h 7 _ rfl⟩
theorem ve (w:World) (i:Int) (leaf:List Int) (hd:aO leaf) (A:Option Addr) (n c:Nat) (ls:List (List Int)) (ho:cY ls) (hs:Sl w w.heap.size 8 A n (aJ ls)):Calls Tryz.prog 100 #[.int .i64 i,.agg (dgA leaf),.slice A n c] w fun e w'=>e=.returned (.agg (dgA (ep i leaf ls)))∧Below w.heap.size w w':=by
 obtain ⟨w1,hw1⟩:∃w1,(w.alloc (.cells (dgA leaf) 45)).alloc (.cells (dgA ap) 45)=w1:=⟨_,rfl⟩;have kd:bU w1 w.heap.size 45 leaf:=hw1▸Bk.alloc (cM w _ _) _;have kz:bU w1 (w.heap.size+1) 45 ap:=hw1▸Bk.at_ _ _ _ (by simp) (dS _);have hb1:Below w.heap.size w w1:=hw1▸(ai w _).alloc (by simp) _;have HKZ:=aa kz;have HB1:=aa hb1;have HW:=aa hw1;have HS:=aa hs;have HDO:=aa ho;have HD:=aa hd;have HC1:=aa kd.heap;have HID:=bM leaf hd;clear kd kz hb1 hw1 hs ho hd;go_enter Tryz.func100,Tryz.ntmps100;go_upto_region 1 with fail
 rw [fj,show List.replicate 8 (0:Int)=ap from rfl,HW.out];go_wp2_with (refine wpList_load_row rfl 45 _ rfl w.heap.size rfl 45 (dgA leaf) (0,0) _ HC1.out Tryz.underlying45 rfl HID.out ?_)
 refine (mY _ i leaf HD.out A n c ls HDO.out ((HS.below HB1.out).more HB1.size)).mono ?_;rintro e w2 ⟨rfl,hb2⟩;have HB2:=aa (HB1.trans (hb2.mono HB1.size));have HZ2:=aa (HKZ.later hb2);have hwo:=pj i leaf ls;obtain ⟨R,hR⟩:∃R,ep i leaf ls=R:=⟨_,rfl⟩;rw [hR] at hwo ⊢;have HRR:=aa hR;have HIR:=bM R hwo;have HOR:=aa (dk R);have HSR:Hid ((dgA ap).size=(dgA R).size):=by show _=_;rw [bc,bc,hwo.len];rfl
 have hg2:w.heap.size+1 < w2.heap.size:=Bk.lt HZ2.out;have s1:bU ((w2.alloc (.cells (dgA ap) 45)).setRow w2.heap.size (dgA R)) w2.heap.size 45 R:=bU.row (cM w2 _ ap) R;have s2:bU ((w2.alloc (.cells (dgA ap) 45)).setRow w2.heap.size (dgA R)) (w.heap.size+1) 45 ap:=Bk.rowFar (Bk.alloc HZ2.out _) (by omega) _;have s3:Below w.heap.size w ((w2.alloc (.cells (dgA ap) 45)).setRow w2.heap.size (dgA R)):=below_setRow (HB2.alloc HB2.size _) (by omega) _;have S1:=aa s1;have S2:=aa s2;have S3:=aa s3;clear s1 s2 s3 hb2 hwo hR;go_wp2_with (first | (refine wpList_store_row rfl 45 _ _ rfl w2.heap.size (dgA R) rfl rfl 45 (dgA ap) (cM w2 _ ap).heap HIR.out HSR.out HOR.out ?_) | (refine wpList_load_row rfl 45 _ rfl w2.heap.size rfl 45 (dgA R) (0,0) _ S1.out.heap Tryz.underlying45 rfl HIR.out ?_) | (refine wpList_store_row rfl 45 _ _ rfl (w.heap.size+1) (dgA R) rfl rfl 45 (dgA ap) S2.out.heap HIR.out HSR.out HOR.out ?_))
 refine bodyPost_ret (results_cell_row (p:=6) (ty:=45) rfl _ _ (w.heap.size+1) 45 (dgA R) (0,0) _ rfl (setRow_heap _ _ _ _ _ _ S2.out.heap) Tryz.underlying45 rfl HIR.out) rfl ?_;exact ⟨by rw [HRR.out],below_setRow S3.out (by omega) _⟩
def jv (root:List Int) (i:Int) (leaf:List Int) (path:List (List Int)):Bool:=gh i path.length && eqL (ep i leaf path) root
set_option maxRecDepth 20000 in
theorem mZ (w:World) (root:List Int) (i:Int) (leaf:List Int) (hr:aO root) (hd:aO leaf) (A:Option Addr) (n c:Nat) (ls:List (List Int)) (ho:cY ls) (hs:Sl w w.heap.size 8 A n (aJ ls)):Calls Tryz.prog 44 #[.agg (dgA root),.int .i64 i,.agg (dgA leaf),.slice A n c] w fun e w'=>e=.returned (.bool (jv root i leaf ls))∧Below w.heap.size w w':=by
 have hlen:=hs.dgs ho;obtain ⟨w1,hw1⟩:∃w1,(w.alloc (.cells (dgA root) 45)).alloc (.cells (dgA leaf) 45)=w1:=⟨_,rfl⟩;have kr:bU w1 w.heap.size 45 root:=hw1▸Bk.alloc (cM w _ _) _;have kd:bU w1 (w.heap.size+1) 45 leaf:=hw1▸Bk.at_ _ _ _ (by simp) (dS _);have hb1:Below w.heap.size w w1:=hw1▸(ai w _).alloc (by simp) _;have HKR:=aa kr;have HB1:=aa hb1;have HW:=aa hw1;have HS:=aa hs;have HDO:=aa ho;have HD:=aa hd;have HC1:=aa kd.heap;have HID:=bM leaf hd;have HCI:=aa (show jv root i leaf ls=(gh i n && eqL (ep i leaf ls) root) by rw [jv,hlen]);clear kd kr hb1 hw1 hs ho hd hlen;go_enter Tryz.func44,Tryz.ntmps44;go_upto_region 1 with fail
 rw [HW.out];go_wp2_with (refine wpList_load_row rfl 45 _ rfl (w.heap.size+1) rfl 45 (dgA leaf) (0,0) _ HC1.out Tryz.underlying45 rfl HID.out ?_)
 refine (mY _ i leaf HD.out A n c ls HDO.out ((HS.below HB1.out).more HB1.size)).mono ?_;rintro e w2 ⟨rfl,hb2⟩;have HB2:=aa (HB1.trans (hb2.mono HB1.size));have HR2:=aa (HKR.later hb2);have hwo:=pj i leaf ls;obtain ⟨R,hR⟩:∃R,ep i leaf ls=R:=⟨_,rfl⟩;obtain ⟨bb,hbb⟩:∃bb,gh i n=bb:=⟨_,rfl⟩;rw [hR,hbb] at HCI;rw [hR] at hwo;rw [hR,hbb];obtain ⟨r0,r1,r2,r3,r4,r5,r6,r7,rfl⟩:=dQ R hwo.len;obtain ⟨q0,q1,q2,q3,q4,q5,q6,q7,rfl⟩:=dQ root hr.len;have HIR:=bM [r0,r1,r2,r3,r4,r5,r6,r7] hwo;have HOR:=aa (dk [r0,r1,r2,r3,r4,r5,r6,r7]);have hg2:w.heap.size < w2.heap.size:=Bk.lt HR2.out;have HSR:Hid ((dgA ap).size=(dgA [r0,r1,r2,r3,r4,r5,r6,r7]).size):=rfl;have s1:bU ((w2.alloc (.cells (dgA ap) 45)).setRow w2.heap.size (dgA [r0,r1,r2,r3,r4,r5,r6,r7])) w2.heap.size 45 [r0,r1,r2,r3,r4,r5,r6,r7]:=bU.row (cM w2 _ ap) _;have s2:bU ((w2.alloc (.cells (dgA ap) 45)).setRow w2.heap.size (dgA [r0,r1,r2,r3,r4,r5,r6,r7])) w.heap.size 45 [q0,q1,q2,q3,q4,q5,q6,q7]:=Bk.rowFar (Bk.alloc HR2.out _) (by omega) _;have s3:Below w.heap.size w ((w2.alloc (.cells (dgA ap) 45)).setRow w2.heap.size (dgA [r0,r1,r2,r3,r4,r5,r6,r7])):=below_setRow (HB2.alloc HB2.size _) (by omega) _;obtain ⟨w3,hw3⟩:∃w3,(w2.alloc (.cells (dgA ap) 45)).setRow w2.heap.size (dgA [r0,r1,r2,r3,r4,r5,r6,r7])=w3:=⟨_,rfl⟩;rw [hw3] at s1 s2 s3;have HW3:=aa hw3;obtain ⟨c0,c1,c2,c3,c4,c5,c6,c7⟩:=jr s1;obtain ⟨e0,e1,e2,e3,e4,e5,e6,e7⟩:=jr s2;have S3:=aa s3;have heq:=fun w=>vd r0 r1 r2 r3 r4 r5 r6 r7 q0 q1 q2 q3 q4 q5 q6 q7 w;clear s1 s2 s3 hb2 hwo hR hw3 hbb hr;cases bb
 ·go_wp2_with (refine wpList_store_row rfl 45 _ _ rfl w2.heap.size (dgA [r0,r1,r2,r3,r4,r5,r6,r7]) rfl rfl 45 (dgA ap) (cM w2 _ ap).heap HIR.out HSR.out HOR.out ?_;rw [fj,show List.replicate 8 (0:Int)=ap from rfl,HW3.out])
  go_ret;exact ⟨by rw [HCI.out];rfl,S3.out⟩
 ·go_wp2_with (refine wpList_store_row rfl 45 _ _ rfl w2.heap.size (dgA [r0,r1,r2,r3,r4,r5,r6,r7]) rfl rfl 45 (dgA ap) (cM w2 _ ap).heap HIR.out HSR.out HOR.out ?_;rw [fj,show List.replicate 8 (0:Int)=ap from rfl,HW3.out])
  go_ret;exact ⟨by rw [HCI.out];rfl,S3.out⟩
theorem Tryz.infoDg:(Tryz.prog.info? 45).map (fun i=>(i.zero,i.size,i.bytes))=some (some (.agg (dgA ap)),8,8):=by kernel_rfl
def dU (ls:List (List Int)):List Int:=if 1≤ls.length∧ls.length≤4096 then kF (cQ ls (bB ls.length) 0) (bB ls.length) else ap
theorem gz (ls:List (List Int)):aO (dU ls):=by unfold dU;split <;> first | exact ld _ _ | exact fQ
def sib (k:Nat):Nat:=if k % 2=1 then k - 1 else k+1
def gi (ls:List (List Int)) (i h:Nat):List (List Int):=(List.range h).map fun l=>cQ ls l (sib (i / 2 ^ l))
theorem lA (ls:List (List Int)) (i h:Nat):gi ls i (h+1)=gi ls i h ++ [cQ ls h (sib (i / 2 ^ h))]:=by simp [gi,List.range_succ]
theorem vf (ls:List (List Int)) (i h:Nat):cY (gi ls i h):=by intro d hd;simp only [gi,List.mem_map] at hd;obtain ⟨l,_,rfl⟩:=hd;exact jW _ _ _
theorem fI (ls:List (List Int)) (i h:Nat):(gi ls i h).length=h:=by simp [gi]
theorem pm (ls:List (List Int)) (d:List Int):aJ (ls ++ [d])=aJ ls ++ d.map (Value.int .u8):=by simp [aJ]
def dD (ls:List (List Int)) (i:Int):List (List Int):=if (1≤ls.length∧ls.length≤4096)∧0≤i∧i < ls.length then gi ls i.toNat (bB ls.length) else []
def jX (n:Nat) (i:Int):Int:=if 1≤n∧n≤4096 then (if 0≤i∧i < n then 0 else 9) else 2
theorem po (ls:List (List Int)) (i:Int):cY (dD ls i):=by unfold dD;split <;> first | exact vf _ _ _ | exact fun _ h=>absurd h (by simp)
end Go.Proofs.YtllbdpdnpaocnaaGreatDoor
