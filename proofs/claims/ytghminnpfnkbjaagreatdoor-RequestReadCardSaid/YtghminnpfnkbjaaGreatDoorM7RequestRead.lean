/- What the law leans on, part 7: W07u, W08j, W04r, W08u, W08k, Shelf, ShelfS, W07v, W08l, W04s, W05, W05b, W05c, W05d, W05e, Laid, Tab, V8, P07e -/
import Derived.Test.YtghminnpfnkbjaaGreatDoorM6RequestRead
import Derived.Shelf.Strings.Builder1
import Derived.Shelf.Strings.Builder2
import Derived.Shelf.Strings.OnBuilder
import Derived.Shelf.Small.Bits
import Derived.Shelf.Small.Strs
import Derived.Shelf.Strconv.Itoa0
import Derived.Shelf.Strings.Search1
import Derived.Shelf.Strings.Search2
import Derived.Shelf.Strings.Search3
import Derived.Shelf.LaysM
import Derived.Shelf.Strings.Shaped
import Derived.Shelf.Strings.Prefix
import Derived.Shelf.Unicode.Decode
import Derived.Shelf.Unicode.DecodeSlow
import Derived.Shelf.Unicode.DecodeAny
import Derived.Ground.Names2Prog
import Derived.Shelf.Slices.Clone
import Derived.Shelf.Slices.CompactS
import Derived.Shelf.Slices.Cells
import Derived.Ground.SlgnProg
import Derived.Shelf.SlicesE.Clone
import Derived.Test.YtghminnpfnkbjaaGreatDoorProg
import Derived.Shelf.SlSortCmp.NoneTotal
import Derived.Ground.SlsfProg
import Derived.Test.YtghminnpfnkbjaaGreatDoorRows
import Derived.LaidLaws
import Derived.MakeChecks
import Derived.Lib.LaidU8T
import Derived.Shelf.Unicode.ValidAny

set_option maxRecDepth 100000
set_option maxHeartbeats 8000000
namespace Go.Proofs.YtghminnpfnkbjaaGreatDoor
set_option linter.unusedVariables false
namespace Am
open Go.RowKit
theorem en:FR 1 oA:=fun l l2 j hj=>by
 simp only [oA,YH]
 split
 ·rw [YL O]
 ·rw [YX O,Ze]
theorem Rr {ls:YD}:∀ a b,a<ls.length→b<1→aa (oA ls (0+(a * 1+b))) (aV (ls.getD a [])):=fun a b ha hb=>aa.of_eq (by rw [show 0+(a * 1+b)=a by omega];rfl)
theorem J8 {gs:List Nat} (l:YD) (hl:l.length≤1000000):AC gs Tryz.prog 202 [] [C9 l] (sV l.length 1 l.length (oA l)):=by
 refine aj 8 Tryz.func202 fun al w0 F0 St0=>?_;refine U 167516 ?_;refine pN (bw rfl) rfl rfl rfl Tryz.underlying138 rfl rfl (fun h357=>?_) ?_
 ·refine U 51690005 ?_;refine jE (mj 2 1 (oA l) rfl) ?_;refine U 30007000 ?_
  exact oE 0 (.inl rfl) (av rfl (ak rfl)) rfl O O (fun _=>by omega) (fun j hj=>by omega)
 ·refine U 68103005 ?_
  refine au (aY 0 1 eK fun p1=>?_)
  refine U 1 ?_
  refine aq (aF (l:=[]) ( en) rfl rfl rfl rfl (ZR (ZQ _)) (fun j hj=>absurd hj (by simp)) (ew rfl) rfl (fun j hj=>by (simp only [ZN];exact I)) Tryz.underlying138 jf nC eK ol rfl (by (simp;omega)) (by (simp;omega)) (fun j hj=>rfl) rfl rfl rfl (fun p2=>?_))
  refine U 700051 ?_
  exact oE 0 (.inl rfl) (av rfl (ak rfl)) rfl (by simp) (by simp) (fun _=>by simp) (fun j hj=>I)
abbrev Hj:=(Int×YD)×Option Nat
def tN:Hj:=((0,[]),none)
def sY (x:Hj):Nat→CV:=fl [.c (.int .i64 x.1.1),.os 0 x.2 0 x.1.2.length 1]
def Rt (x:Hj):Option Nat×bi:=(x.2,.blk x.1.2.length (oA x.1.2))
abbrev BT (fr:List (Int×YD)):={ z:Nat×Option Nat×Option Nat×List Hj // z.2.2.2.map Prod.fst=fr }
def FZ (s:W8) (io jd:Nat) (go gd:Option Nat):Nat→CV:=fl [.os io go 0 s.fr.length 2,.os jd gd 0 s.d.length 1,.err s.k]
def BQ (s:W8) (z:BT s.fr):List (Option Nat×bi):=[(some z.1.1,.blk 3 (FZ s 1 2 z.1.2.1 z.1.2.2.1)),(z.1.2.1,.blk (s.fr.length * 2) (fV 2 sY tN z.1.2.2.2.reverse)),(z.1.2.2.1,.blk s.d.length (bc s.d)),jW (z.1.2.2.2.map Rt)]
def ii (n:Nat) (s:W8):Option Nat×bi:=mJ n (fun z:BT s.fr=>z.1.1) (BQ s)
section
variable {P:Program} {G:Gh} {c:Code} {R:Exit→AS→Prop} {n:Nat} {s:W8} {env:List (Nat×CV)} {b0:Nat→CV} {H:List (Option Nat×bi)}
theorem gN (i:Nat) (hi:H[i]?=some (ii n s)) (h:∀ go gd (zs:List Hj),zs.map Prod.fst=s.fr→bj P G c ⟨env,b0,H.set i (some n,.blk 3 (FZ s H.length (H.length+1) go gd))++[(go,.blk (s.fr.length * 2) (fV 2 sY tN zs.reverse)),(gd,.blk s.d.length (bc s.d)),jW (zs.map Rt)]⟩ R):bj P G c ⟨env,b0,H⟩ R:=by
 have hlt:=(YJ.1 hi).1
 refine mw i hi fun z hz=>?_
 obtain ⟨⟨n',go,gd,zs⟩,hzs⟩:=z
 obtain rfl:n'=n:=hz
 refine jE (cW i 3 (FZ s H.length (H.length+1) go gd) (n:=3) (g:=some n') (f:=FZ s 1 2 go gd) ?_ (YG _) fun j hj=>?_) ?_
 ·show (H.set i _++_)[i]?=_
  rw [YL (by simpa using hlt)]
  simp [hlt]
 ·rcases j with _|_|_|j
  ·exact cO rfl
  ·exact cO rfl
  ·exact I
  ·omega
 ·have:=h go gd zs hzs
  rw [← aPx (a:=(some n',bi.blk 3 (FZ s 1 2 go gd))),← bmx _ _ (by simpa using hlt)] at this
  exact this
theorem BH (n:Nat) (s:W8) (zs:List Hj) (i jo jd jb:Nat) (hzs:zs.map Prod.fst=s.fr) {go gd:Option Nat} {No Nd:Nat} {f Fo Fd:Nat→CV} (hi:H[i]?=some (some n,.blk 3 f)) (ho:H[jo]?=some (go,.blk No Fo)) (hd:H[jd]?=some (gd,.blk Nd Fd)) (hb:H[jb]?=some (jW (zs.map Rt))) (hij:[i,jo,jd,jb].Nodup)
  (h0:aa (f 0) (.os 1 go 0 s.fr.length 2)) (h1:aa (f 1) (.os 1 gd 0 s.d.length 1)) (h2:aa (f 2) (.err s.k)) (hNo:s.fr.length * 2≤No) (hFo:∀ a,a<s.fr.length * 2→aa (Fo a) (fV 2 sY tN zs.reverse a)) (hNd:s.d.length≤Nd) (hFd:∀ a,a<s.d.length→aa (Fd a) (bc s.d a)) :
  ∀ {al:List Addr} {St:Nat→Prop} {w:World} {base:Nat} {F0:Nat→Prop},dr al St w base F0 H→dr al St w base F0 ((((H.set i (ii n s)).set jo (none,.dead)).set jd (none,.dead)).set jb (none,.dead)):=by
 intro al St w base F0 h
 simp only [aQx,Zg,Zo,or_false,not_or,not_false_iff,bUx,bYx] at hij
 obtain ⟨⟨e1,e2,e3⟩,⟨e4,e5⟩,e6⟩:=hij
 have hil:=(YJ.1 hi).1
 have hol:=(YJ.1 ho).1
 have hdl:=(YJ.1 hd).1
 have hbl:=(YJ.1 hb).1
 have k1:=h.weak (F:=FZ s 1 2 go gd) hi (YG _) fun a ha=>by
  rcases a with _|_|_|a
  ·exact h0.trans (cO rfl)
  ·exact h1.trans (cO rfl)
  ·exact h2
  ·omega
 have k2:=k1.weak (i:=jo) (F:=fV 2 sY tN zs.reverse) (by rw [YZ e1];exact ho) hNo hFo
 have k3:=k2.weak (i:=jd) (F:=bc s.d) (by rw [YZ e4,YZ e2];exact hd) hNd hFd
 have k4:=k3.closeN (gd:=fun z:BT s.fr=>z.1.1) (E:=BQ s) ⟨(n,go,gd,zs),hzs⟩ i [jo,jd,jb] (by simp [e1,e2,e3,e4,e5,e6]) (by simp [hil,hol,hdl,hbl]) (by
  have g1:∀ {x},((H.set i x).set jo (go,bi.blk (s.fr.length * 2) (fV 2 sY tN zs.reverse))).set jd (gd,bi.blk s.d.length (bc s.d))=((H.set i x).set jo (go,bi.blk (s.fr.length * 2) (fV 2 sY tN zs.reverse))).set jd (gd,bi.blk s.d.length (bc s.d)):=rfl
  simp only [im,Zc,aAx,YH]
  rw [YZ (Ne.symm e2),YZ (Ne.symm e1),YZ (Ne.symm e4),YZ e6,YZ e5,YZ e3,hb]
  simp [hil,hol,hdl,BQ])
 have e:lJ ((((H.set i (some n,bi.blk 3 (FZ s 1 2 go gd))).set jo (go,bi.blk (s.fr.length * 2) (fV 2 sY tN zs.reverse))).set jd (gd,bi.blk s.d.length (bc s.d))).set i (mJ n (fun z:BT s.fr=>z.1.1) (BQ s))) [jo,jd,jb]=(((H.set i (ii n s)).set jo (none,.dead)).set jd (none,.dead)).set jb (none,.dead):=by
  show ((((((H.set i _).set jo _).set jd _).set i _).set jo _).set jd _).set jb _=_
  rw [bFx _ _ (Ne.symm e2),bFx _ _ (Ne.symm e1),aPx,bFx _ _ (Ne.symm e4),aPx,aPx]
  rfl
 rw [← e]
 exact k4
theorem pA (n:Nat) (s:W8) (zs:List Hj) (i jo jd jb:Nat) (hzs:zs.map Prod.fst=s.fr) {go gd:Option Nat} {No Nd:Nat} {f Fo Fd:Nat→CV} (hi:H[i]?=some (some n,.blk 3 f)) (ho:H[jo]?=some (go,.blk No Fo)) (hd:H[jd]?=some (gd,.blk Nd Fd)) (hb:H[jb]?=some (jW (zs.map Rt))) (hij:[i,jo,jd,jb].Nodup)
  (h0:aa (f 0) (.os 1 go 0 s.fr.length 2)) (h1:aa (f 1) (.os 1 gd 0 s.d.length 1)) (h2:aa (f 2) (.err s.k)) (hNo:s.fr.length * 2≤No) (hFo:∀ a,a<s.fr.length * 2→aa (Fo a) (fV 2 sY tN zs.reverse a)) (hNd:s.d.length≤Nd) (hFd:∀ a,a<s.d.length→aa (Fd a) (bc s.d a)) :
  dh G ⟨env,b0,H⟩ ⟨env,b0,(((H.set i (ii n s)).set jo (none,.dead)).set jd (none,.dead)).set jb (none,.dead)⟩:=dh.hrel (BH n s zs i jo jd jb hzs hi ho hd hb hij h0 h1 h2 hNo hFo hNd hFd)
end
section
variable {gs:List Nat} [gQ gs]

theorem yP {gs:List Nat} (l:Z):cc gs Tryz.prog 184 [aV l] (.tup 2 (fl [.c (.int .i64 (cg l).1),.c (.int .i64 ((cg l).2:Nat))])):=by
 refine fC 0 rfl fun hlen=>?_
 have hid:=fun h=>GR (l:=l) h
 refine aj 58 Tryz.func184 fun al w0 F0 St0=>?_;refine U 5231675116 ?_;refine ap (fun h21=>?_) fun h21=>?_
 ·refine U 8000300070005116 ?_
  have hb:cg l=(0,2):=by unfold cg;rw [jP]
  rw [hb];exact I
 refine U 810 ?_;refine dW (α:=Unit) [2,3,10,11,12,13,14,15,16,17,18,19,20,21,22,23,24,25,26,27,28,29,30,31,32,33,34,35,36] (fun _=>[]) (fun _=>[]) (fun _=>l.length≠0∧¬ qD l=true) (fun _=>rfl) ?_ ?_
 ·refine U 12316 ?_;refine aK 13 (fun g24=>?_) fun g24=>?_
  rotate_left
  ·refine U 81030055004444444444444444444444 ?_
   refine cU (()) ?_ (h5:=?_) (h7:=?_)
   ·refine ⟨by omega,?_⟩
    by_cases h1:1<l.length
    ·rw [hid h1];omega
    ·rw [dl l O];exact Bool.noConfusion
   ·exact .nil
   ·exact .nil
  refine U 126020000001 ?_;refine aK 18 (fun g24_2=>?_) fun g24_2=>?_
  rotate_left
  ·refine U 12602000000115004444 ?_;refine aK 29 (fun g24_3=>?_) fun g24_3=>?_
   rotate_left
   ·refine U 81030051000000005005004444 ?_
    refine cU (()) ?_ (h5:=?_) (h7:=?_)
    ·refine ⟨by omega,?_⟩
     by_cases h1:1<l.length
     ·rw [hid h1];omega
     ·rw [dl l O];exact Bool.noConfusion
    ·exact .nil
    ·exact .nil
   refine U 1 ?_;refine jq (dU (i:=1)) ?_;refine U 5100000000500100000000260 ?_;refine ap (fun h24=>?_) fun h24=>?_
   ·refine U 8000300070005116 ?_
    have hb:cg l=(0,4):=by unfold cg;rw [jK,YF ((hid O).2 O)]
    rw [hb];exact I
   refine U 810 ?_
   refine cU (()) ?_ (h5:=?_) (h7:=?_)
   ·refine ⟨by omega,?_⟩
    by_cases h1:1<l.length
    ·rw [hid h1];omega
    ·rw [dl l O];exact Bool.noConfusion
   ·exact .nil
   ·exact .nil
  refine U 1 ?_;refine jq (dU (i:=1)) ?_;refine U 1100000000260 ?_;refine aK 24 (fun g24_3=>?_) fun g24_3=>?_
  ·refine U 8000300070005116900051000000001000000004444444444 ?_
   have hb:cg l=(0,4):=by unfold cg;rw [jK,YF ((hid O).2 O)]
   rw [hb];exact I
  refine U 126020000001 ?_;refine aK 29 (fun g24_4=>?_) fun g24_4=>?_
  rotate_left
  ·refine U 81030051000000005005004444 ?_
   refine cU (()) ?_ (h5:=?_) (h7:=?_)
   ·refine ⟨by omega,?_⟩
    by_cases h1:1<l.length
    ·rw [hid h1];omega
    ·rw [dl l O];exact Bool.noConfusion
   ·exact .nil
   ·exact .nil
  refine U 1 ?_;refine jq (dU (i:=1)) ?_;refine U 5100000000500100000000260 ?_;refine ap (fun h24=>?_) fun h24=>?_
  ·refine U 8000300070005116 ?_
   have hb:cg l=(0,4):=by unfold cg;rw [jK,YF ((hid O).2 O)]
   rw [hb];exact I
  refine U 810 ?_
  refine cU (()) ?_ (h5:=?_) (h7:=?_)
  ·refine ⟨by omega,?_⟩
   by_cases h1:1<l.length
   ·rw [hid h1];omega
   ·rw [dl l O];exact Bool.noConfusion
  ·exact .nil
  ·exact .nil
 ·rintro u ⟨hl0,hni⟩
  refine U 523167 ?_;refine ap (fun h27=>?_) fun h27=>?_
  ·refine U 8000300070005116 ?_
   have hb:cg l=(0,1):=by unfold cg;rw [jK,YE hni,jP]
   rw [hb];exact I
  refine U 516810 ?_;refine dW (α:=Unit) [4,40,41,42,43] (fun _=>[(4,.c (.int .u64 (vk l 0 % 18446744073709551616)))]) (fun _=>[]) (fun _=>True) (fun _=>rfl) ?_ ?_
  ·refine U 5260200000016 ?_;refine ap (fun h31=>?_) fun h31=>?_
   rotate_left
   ·refine U 810 ?_
    refine cU (()) ?_ (h5:=?_) (h7:=?_)
    ·trivial
    ·exact .cons (cI (by unfold vk;rw [YF rfl];split <;> omega)) .nil
    ·exact .nil
   refine U 851200 ?_
   refine cU (()) ?_ (h5:=?_) (h7:=?_)
   ·trivial
   ·exact .cons (cI (by unfold vk;rw [YF rfl];split <;> omega)) .nil
   ·exact .nil
  ·rintro u _
   refine U 20513167 ?_;refine ax (α:=Nat) [4,6,46,47,48,49,50,51,52,53,54,55] (fun i=>[(46,.c (.int .i64 (i:Nat))),(4,.c (.int .u64 (vk l i % 18446744073709551616)))]) (fun _=>[]) (fun i=>i≤l.length) (fun i=>l.length-i) (0) ?_ (fun _=>rfl) ?_ ?_ ?_
   ·exact YT _
   ·exact .cons I (.cons I .nil)
   ·(repeat (exact aP.nil))
   ·rintro i (hi:i≤l.length)
    refine U 7526 ?_;refine ap (fun h34=>?_) fun h34=>?_
    rotate_left
    ·refine U 84000200020006000 ?_
     have hil:i=l.length:=by omega
     have hvb:=B6 l O
     have hvk:vk l l.length=fk l:=by unfold vk;rw [jK,Za]
     have hb:cg l=(fk l,0):=by unfold cg;rw [jK,YE hni,jK]
     refine U 16 ?_;refine jq (cG rfl rfl Tryz.underlying259 Tryz.underlying3 ((fk l)) ((by rw [hil,hvk,IntKind.wrap_i64];omega))) ?_;refine U 80007000511 ?_
     rw [hb];exact I
    refine U 120051607006207810 ?_;refine jq (QF rfl rfl rfl ((IntKind.u64.wrap (vk l i % 18446744073709551616 * 256))) (rfl)) ?_;refine U 1 ?_;refine jq (cG rfl rfl Tryz.underlying5 Tryz.underlying259 ((((l.getD i 0).toNat:Nat):Int)) (cC (k:=.u64) (by have:=(l.getD i 0).toNat_lt;show _∧_;omega))) ?_;refine jq (AY rfl rfl rfl ((vk l (i+1) % 18446744073709551616)) ((by rw [PL l i O];exact KK _ _))) ?_;refine U 8519200840051 ?_
    refine aw (i+1) ?_ ?_ (h5:=?_)
    ·show i+1≤l.length;omega
    ·show l.length-(i+1)<l.length-i;omega
    ·exact .cons (cI O) (.cons I .nil)

section
variable {P:Program} {G:Gh} {c:Code} {R:Exit→AS→Prop} {n:Nat} {s:R8} {env:List (Nat×CV)} {b0:Nat→CV} {H:List (Option Nat×bi)}
end
structure Yy (s:R8):Prop where
 n:s.tags.length≤100000
 r:s.rows.length≤100000
 k:∀ x ∈ s.rows,x.length≤1000000

structure uQ (s:W8):Prop where
 n:s.fr.length≤16
 k:∀ x ∈ s.fr,x.2.length≤1000000∧cp x.2≤1000000
 d:s.d.length≤1000000
theorem Fp {zs:List Hj} {fr:List (Int×YD)} (h:zs.map Prod.fst=fr):zs.length=fr.length:=by rw [← h];simp
theorem s9 {x:Hj} {zr:List Hj} {m j:Nat} (hj:j<2) (hm:m=zr.length+1):fV 2 sY tN (x::zr).reverse (0+(m-1) * 2+j)=sY x j:=by
 rw [Nat.zero_add,iy hj,hm]
 simp
theorem AO {x:Hj} {zr:List Hj} {j:Nat} (hj:j<zr.length * 2):fV 2 sY tN (x::zr).reverse j=fV 2 sY tN zr.reverse j:=by
 simp only [fV,abx,YH]
 rw [YL (by simp;omega)]
theorem pG {x x':Hj} {zr:List Hj} {m q n j:Nat} {g:Option Nat} (hm:m=zr.length+1) (hx:x'.1.1=x.1.1) (hg:x'.2=g) (hn:x'.1.2.length=n) (hj:j<m * 2):aa (gT (fV 2 sY tN (x::zr).reverse) (0+(m-1) * 2+1) [.os q g 0 n 1] j) (fV 2 sY tN (x'::zr).reverse j):=by
 rw [dE]
 by_cases h1:j<zr.length * 2
 ·rw [YE (by simp;omega),AO h1,AO h1]
  exact I
 ·by_cases h2:j=0+(m-1) * 2+1
  ·rw [YF (by simp;omega),h2,s9 O hm,aNx]
   show aa (.os q g 0 n 1) (.os 0 x'.2 0 x'.1.2.length 1)
   rw [hg,hn]
   exact cO rfl
  ·obtain rfl:j=0+(m-1) * 2+0:=by omega
   rw [YE (by simp;omega),s9 O hm,s9 O hm]
   show aa (.c (.int .i64 x.1.1)) (.c (.int .i64 x'.1.1))
   rw [hx]
   exact I
theorem sJ {gs:List Nat} (n:Nat) (s:W8) (e:Nat):AC gs Tryz.prog 96 [ii n s] [.op 0 (some n) 0,.err e] (fun r H'=>r=.c (.tuple #[])∧H'=[ii n (bZ e s)]):=by
 refine aj 13 Tryz.func96 fun al w0 F0 St0=>?_;refine gN 0 rfl fun go gd zs hzs=>?_;refine U 55000005010004016 ?_;refine ap (fun h38=>?_) fun h38=>?_
 rotate_left
 ·refine U 10 ?_
  have hF:bZ e s=s:=by unfold bZ;rw [jK]
  rw [hF]
  exact bO (gd:=fun z:BT s.fr=>z.1.1) (E:=BQ s) (.inr rfl) _ ⟨(n,go,gd,zs),hzs⟩ [0,1,2,3] jD rfl (cM rfl) ⟨rfl,rfl⟩
 refine U 10004011200 ?_
 refine aq (bo 1 (FZ ⟨s.fr,s.d,e⟩ 1 2 go gd) ?_ ?_)
 ·exact oB
 refine U 5 ?_
 have hF:bZ e s=⟨s.fr,s.d,e⟩:=by unfold bZ;rw [jP]
 rw [hF]
 exact bO (gd:=fun z:BT s.fr=>z.1.1) (E:=BQ ⟨s.fr,s.d,e⟩) (.inr rfl) _ ⟨(n,go,gd,zs),hzs⟩ [0,1,2,3] jD rfl (cM rfl) ⟨rfl,rfl⟩
theorem He {gs:List Nat} (n:Nat) (s:W8) (b:Z) (hs:uQ s) (hb:b.length≤100000000):AC gs Tryz.prog 148 [ii n s] [.op 0 (some n) 0,aV b] (fun r H'=>r=.c (.tuple #[])∧H'=[ii n (de b s)]):=by
 have hsd:=hs.d
 have hsn:=hs.n
 refine aj 42 Tryz.func148 fun al w0 F0 St0=>?_;refine gY ?_
 (refine gN 0 rfl fun go gd zs hzs=>?_;have hzl:=Fp hzs)
 refine U 51350904016 ?_
 skip
 refine U 5216 ?_;refine ap (fun h45=>?_) fun h45=>?_
 rotate_left
 ·refine U 810 ?_
  have hf0:s.fr=[]:=Y1 O
  refine U 1501004011200 ?_
  refine aq (aR rfl rfl rfl (YG _) (fun _ _=>I) (ew rfl) rfl (fun j hj=>by simp only [ZN];exact I) Tryz.underlying23 fY ix er mx rfl O (fun j hj=>rfl) rfl rfl (fun p1=>?_))
  refine U 10040 ?_
  refine aq (bo 1 (FZ (de b s) 1 2 go p1) ?_ ?_)
  ·exact (fun j hj=>by rcases j with _|_|_|j <;> first|exact cO (by simp [de,hf0])|exact aa.err (by simp [de,hf0])|omega)
  refine U 5 ?_
  refine Bz (H':=?H2) ?hh ?hb
  case hh=>intro _ _ _ _ _ hx;exact BH n (de b s) zs 0 1 2 3 (by simp [de,hf0];rw [hf0] at hzs;simpa using hzs) rfl rfl rfl rfl jD (by exact cO rfl) (by exact cO rfl) (by exact I) (by simp [de,hf0]) (fun a ha=>by simp [de,hf0] at ha) (by simp [de,hf0]) (fun _ _=>by simp only [de,hf0];exact I) hx
  case hb=>exact bV (.inr rfl) _ [ii n (de b s)] [0] jD rfl (cM rfl) ⟨rfl,rfl⟩
 refine gY ?_
 obtain ⟨x,zr,rfl⟩:∃ x zr,zs=x::zr:=by
   cases zs with
   | nil=>simp at hzl;omega
   | cons x zr=>exact ⟨x,zr,rfl⟩
 have hfr:s.fr=x.1::zr.map Prod.fst:=by rw [← hzs];rfl
 have hxk:=hs.k x.1 (by rw [hfr];exact Y2)
 have hzl:s.fr.length=zr.length+1:=by rw [← hzl];rfl
 refine jE (bag_pop 3 rfl) ?_;refine lL (.rd 0 (.rd 1 (.rd 2 (.rd 4 (.rd 5 (.rd 6 (.rd 7 (.rd 8 (.rd 9 (.rd 10 (.rd 11 (.rd 12 (.rd 13 (.rd 14 (.rd 15 (.two 3 (.one 16 (.one 17 (.one 18 (.rd 19 (.rd 20 (.one 21 .done)))))) 16 (.two 3 (.one 17 (.one 18 (.rd 19 (.rd 20 (.one 21 .done))))) 17 (.two 3 (.one 18 (.rd 19 (.rd 20 (.one 21 .done)))) 18 (.one 3 (.rd 19 (.rd 20 (.one 21 .done)))))))))))))))))))))) ?_;refine U 400000100000009000000400000 ?_;refine iX Nu ?_;refine U 40000050000000100000009000000400000 ?_;refine iX Nu ?_;refine iX (dU (i:=(s.fr.length-1)) (hz:=by omega)) ?_;refine U 60000000 ?_;refine XA (gm (hv:=s9 O hzl)) ?_;refine iX UI ?_;refine Df ?_ ?_
 ·refine Rw gm ?_;refine BV (aS 26 (.os 4 x.2 0 x.1.2.length 1) (cO rfl)) ?_
  refine GL (ar (lz b O) ?_)
  refine GL (aY 1 1 eK fun p1=>?_)
  refine lK (aF (en) (l2:=[b]) rfl rfl rfl rfl O (fun _ _=>I) (aW rfl (.inl rfl) jD) rfl (fun j hj=>by rcases j with _|j <;> first|exact I|(exfalso;simp at hj <;> omega)) Tryz.underlying138 jf nC eK ol rfl (by (simp;omega)) (by (simp;omega)) (bC rfl rfl) rfl rfl rfl (fun p2=>?_))
  refine iX (dU (i:=(s.fr.length-1)) (hz:=by omega)) ?_;refine U 60000000 ?_
  refine lK (bo 1 (fV 2 sY tN (((x.1.1,x.1.2++[b]),p2)::zr).reverse) ?_ ?_)
  ·exact (fun j hj=>pG hzl rfl rfl (by simp) hj)
  refine U 8700000 ?_;refine jE (cW 4 (x.1.2++[b]).length (oA (x.1.2++[b])) rfl (by simp) (fun _ _=>I)) ?_;refine jE (bag_push 3 4 rfl rfl rfl) ?_;refine jE (pA n (de b s) (((x.1.1,x.1.2++[b]),p2)::zr) 0 1 2 3 (by simp [de,hfr]) rfl rfl rfl rfl jD (cO (by simp [de,hfr])) (cO (by simp [de,hfr])) (aa.err (by simp [de,hfr])) (by simp [de,hfr]) (fun _ _=>I) (by simp [de,hfr]) (fun _ _=>by simp only [de,hfr];exact I)) ?_;refine U 30007000 ?_
  exact bV (.inl rfl) _ [ii n (de b s)] [0] jD rfl (cM rfl) ⟨rfl,rfl⟩
 ·refine BV (aS 26 (.os 4 x.2 0 x.1.2.length 1) (cO rfl)) ?_
  refine GL (ar (lz b O) ?_)
  refine Df ?_ ?_
  ·refine Rw gm ?_
   refine GL (aY 1 1 eK fun p1=>?_)
   refine lK (aF (en) (l2:=[b]) rfl rfl rfl rfl O (fun _ _=>I) (aW rfl (.inl rfl) jD) rfl (fun j hj=>by rcases j with _|j <;> first|exact I|(exfalso;simp at hj <;> omega)) Tryz.underlying138 jf nC eK ol rfl (by (simp;omega)) (by (simp;omega)) (bC rfl rfl) rfl rfl rfl (fun p2=>?_))
   refine iX (dU (i:=(s.fr.length-1)) (hz:=by omega)) ?_;refine U 60000000 ?_
   refine lK (bo 1 (fV 2 sY tN (((x.1.1,x.1.2++[b]),p2)::zr).reverse) ?_ ?_)
   ·exact (fun j hj=>pG hzl rfl rfl (by simp) hj)
   refine U 8700000 ?_;refine jE (cW 4 (x.1.2++[b]).length (oA (x.1.2++[b])) rfl (by simp) (fun _ _=>I)) ?_;refine jE (bag_push 3 4 rfl rfl rfl) ?_;refine jE (pA n (de b s) (((x.1.1,x.1.2++[b]),p2)::zr) 0 1 2 3 (by simp [de,hfr]) rfl rfl rfl rfl jD (cO (by simp [de,hfr])) (cO (by simp [de,hfr])) (aa.err (by simp [de,hfr])) (by simp [de,hfr]) (fun _ _=>I) (by simp [de,hfr]) (fun _ _=>by simp only [de,hfr];exact I)) ?_;refine U 30007000 ?_
   exact bV (.inl rfl) _ [ii n (de b s)] [0] jD rfl (cM rfl) ⟨rfl,rfl⟩
  ·refine GL (aY 1 1 eK fun p1=>?_)
   refine Df ?_ ?_
   ·refine Rw gm ?_
    refine lK (aF (en) (l2:=[b]) rfl rfl rfl rfl O (fun _ _=>I) (aW rfl (.inl rfl) jD) rfl (fun j hj=>by rcases j with _|j <;> first|exact I|(exfalso;simp at hj <;> omega)) Tryz.underlying138 jf nC eK ol rfl (by (simp;omega)) (by (simp;omega)) (bC rfl rfl) rfl rfl rfl (fun p2=>?_))
    refine iX (dU (i:=(s.fr.length-1)) (hz:=by omega)) ?_;refine U 60000000 ?_
    refine lK (bo 1 (fV 2 sY tN (((x.1.1,x.1.2++[b]),p2)::zr).reverse) ?_ ?_)
    ·exact (fun j hj=>pG hzl rfl rfl (by simp) hj)
    refine U 8700000 ?_;refine jE (cW 4 (x.1.2++[b]).length (oA (x.1.2++[b])) rfl (by simp) (fun _ _=>I)) ?_;refine jE (bag_push 3 4 rfl rfl rfl) ?_;refine jE (pA n (de b s) (((x.1.1,x.1.2++[b]),p2)::zr) 0 1 2 3 (by simp [de,hfr]) rfl rfl rfl rfl jD (cO (by simp [de,hfr])) (cO (by simp [de,hfr])) (aa.err (by simp [de,hfr])) (by simp [de,hfr]) (fun _ _=>I) (by simp [de,hfr]) (fun _ _=>by simp only [de,hfr];exact I)) ?_;refine U 30007000 ?_
    exact bV (.inl rfl) _ [ii n (de b s)] [0] jD rfl (cM rfl) ⟨rfl,rfl⟩
   ·refine lK (aF (en) (l2:=[b]) rfl rfl rfl rfl O (fun _ _=>I) (aW rfl (.inl rfl) jD) rfl (fun j hj=>by rcases j with _|j <;> first|exact I|(exfalso;simp at hj <;> omega)) Tryz.underlying138 jf nC eK ol rfl (by (simp;omega)) (by (simp;omega)) (bC rfl rfl) rfl rfl rfl (fun p2=>?_))
    refine Rw gm ?_;refine iX (dU (i:=(s.fr.length-1)) (hz:=by omega)) ?_;refine U 60000000 ?_
    refine lK (bo 1 (fV 2 sY tN (((x.1.1,x.1.2++[b]),p2)::zr).reverse) ?_ ?_)
    ·exact (fun j hj=>pG hzl rfl rfl (by simp) hj)
    refine U 8700000 ?_;refine jE (cW 4 (x.1.2++[b]).length (oA (x.1.2++[b])) rfl (by simp) (fun _ _=>I)) ?_;refine jE (bag_push 3 4 rfl rfl rfl) ?_;refine jE (pA n (de b s) (((x.1.1,x.1.2++[b]),p2)::zr) 0 1 2 3 (by simp [de,hfr]) rfl rfl rfl rfl jD (cO (by simp [de,hfr])) (cO (by simp [de,hfr])) (aa.err (by simp [de,hfr])) (by simp [de,hfr]) (fun _ _=>I) (by simp [de,hfr]) (fun _ _=>by simp only [de,hfr];exact I)) ?_;refine U 30007000 ?_
    exact bV (.inl rfl) _ [ii n (de b s)] [0] jD rfl (cM rfl) ⟨rfl,rfl⟩
theorem pU (n:Nat) (s:W8) (tag:Int) (body:Z) (e:Nat) (hs:uQ s) (hb:body.length≤1000000):AC gs Tryz.prog 100 [ii n s] [.op 0 (some n) 0,.c (.int .i64 tag),aV body,.err e] (fun r H'=>r=.c (.tuple #[])∧H'=[ii n (fD tag body e s)]):=by
 have hpl:(bL tag body).length≤100000000:=by
  unfold bL
  have:=sj body.length
  simp only [List.length_cons,YI]
  omega
 refine aj 32 Tryz.func100 fun al w0 F0 St0=>?_;refine U 116 ?_
 refine aq (aQ 0 (sJ n s e) ?_)
 refine U 75 ?_;refine gN 0 rfl fun go gd zs hzs=>?_;refine U 55000005010004016 ?_;refine ap (fun h55=>?_) fun h55=>?_
 ·refine U 30007000 ?_
  have hP:fD tag body e s=bZ e s:=by unfold fD;rw [jP]
  rw [hP]
  exact bO (gd:=fun z:BT (bZ e s).fr=>z.1.1) (E:=BQ (bZ e s)) (.inl rfl) _ ⟨(n,go,gd,zs),hzs⟩ [0,1,2,3] jD rfl (cM rfl) ⟨rfl,rfl⟩
 refine U 810 ?_
 have hk0:(bZ e s).k=0:=by omega
 have hF:bZ e s=s:=by
  obtain ⟨fr,d,k⟩:=s
  unfold bZ at hk0 ⊢
  split
  ·rename_i h
   rw [YF h] at hk0
   have h:k=0:=h
   have hk0:e=0:=hk0
   rw [h,hk0]
  ·rfl
 refine jE (pA n (bZ e s) zs 0 1 2 3 hzs rfl rfl rfl rfl jD (cO rfl) (cO rfl) I (YG _) (fun _ _=>I) (YG _) (fun _ _=>I)) ?_
 rw [hF]
 have hsk:s.k=0:=by rw [← hF];exact hk0
 dsimp only [List.set_cons_zero,List.set_cons_succ,List.cons_append,List.nil_append,List.length_cons,List.length_nil,Nat.zero_add,Nat.reduceAdd]
 refine U 116 ?_;refine jq (ai (n:=2) rfl gy qK rfl rfl) ?_
 refine au (ar (PV tag body hb) ?_)
 refine U 55000001675119009001 ?_;refine ap (fun h59=>?_) fun h59=>?_
 ·refine U 116 ?_
  refine aq (aQ 0 (sJ n s (rh tag body)) ?_)
  refine U 300070005 ?_
  have hP:fD tag body e s=bZ (rh tag body) s:=by unfold fD;rw [hF,jK,jP];unfold bZ;rw [YF hsk]
  rw [hP]
  exact bV (.inl rfl) _ [_] [0] jD rfl (cM rfl) ⟨rfl,rfl⟩
 refine U 810 ?_
 have hP0:rh tag body=0:=by omega
 rw [YF hP0]
 refine U 11200 ?_
 refine aq (aQ 0 (He n s _ hs hpl) ?_)
 refine U 5 ?_
 have hP:fD tag body e s=de (bL tag body) s:=by unfold fD;rw [hF,jK,jK]
 rw [hP]
 exact bV (.inr rfl) _ [_] [0] jD rfl (cM rfl) ⟨rfl,rfl⟩
end
end Am
end Go.Proofs.YtghminnpfnkbjaaGreatDoor
namespace Go.Proofs
open Go.Shelf
open Go.RowKit in
def Tryz.lays156_ren:Go.Shelf.Ren:=⟨fun|156=>266|165=>278|166=>279|169=>280|240=>285|241=>286|276=>290|277=>291|n=>n,fun|31=>27|9=>9|3=>3|4=>4|0=>0|20=>20|72=>330|76=>181|70=>328|37=>23|75=>37|127=>333|164=>334|5=>5|80=>231|n=>n,fun|n=>n⟩
theorem Tryz.lays156:Go.Proofs.Lays.n156 Tryz.prog Tryz.lays156_ren:={
 mixed:=by kernel_rfl
 f156:=Tryz.func266.trans (Y3 some (by kernel_rfl))
 f165:=Tryz.func278.trans (Y3 some (by kernel_rfl))
 f166:=Tryz.func279.trans (Y3 some (by kernel_rfl))
 f169:=Tryz.func280.trans (Y3 some (by kernel_rfl))
 f240:=Tryz.func285.trans (Y3 some (by kernel_rfl))
 f241:=Tryz.func286.trans (Y3 some (by kernel_rfl))
 f276:=Tryz.func290.trans (Y3 some (by kernel_rfl))
 f277:=Tryz.func291.trans (Y3 some (by kernel_rfl))
 t0:=Tryz.underlying0
 a0:=Tryz.isAgg0
 z0:=Tryz.sizeOf0
 v0:=Tryz.zeroValue0
 t3:=Tryz.underlying3
 a3:=Tryz.isAgg3
 z3:=Tryz.sizeOf3
 v3:=Tryz.zeroValue3
 t4:=Tryz.underlying4
 a4:=Tryz.isAgg4
 z4:=Tryz.sizeOf4
 v4:=Tryz.zeroValue4
 t9:=Tryz.underlying9
 a9:=Tryz.isAgg9
 z9:=Tryz.sizeOf9
 v9:=Tryz.zeroValue9
 t20:=Tryz.underlying20
 a20:=Tryz.isAgg20
 z20:=Tryz.sizeOf20
 v20:=Tryz.zeroValue20
 t31:=Tryz.underlying27
 a31:=Tryz.isAgg27
 z31:=Tryz.sizeOf27
 v31:=Tryz.zeroValue27
 t37:=Tryz.underlying23
 a37:=Tryz.isAgg23
 z37:=Tryz.sizeOf23
 v37:=Tryz.zeroValue23
 t70:=Tryz.underlying328
 a70:=Tryz.isAgg328
 z70:=Tryz.sizeOf328
 v70:=Tryz.zeroValue328
 t72:=Tryz.underlying330
 a72:=Tryz.isAgg330
 z72:=Tryz.sizeOf330
 v72:=Tryz.zeroValue330
 t75:=Tryz.underlying37
 a75:=Tryz.isAgg37
 z75:=Tryz.sizeOf37
 v75:=Tryz.zeroValue37
 t76:=Tryz.underlying181
 a76:=Tryz.isAgg181
 z76:=Tryz.sizeOf181
 v76:=Tryz.zeroValue181
 t127:=Tryz.underlying333
 a127:=Tryz.isAgg333
 z127:=Tryz.sizeOf333
 v127:=Tryz.zeroValue333
 t164:=Tryz.underlying334
 a164:=Tryz.isAgg334
 z164:=Tryz.sizeOf334
 v164:=Tryz.zeroValue334 }
theorem Tryz.Builder_Extra_156:Builder.Extra Tryz.prog Tryz.lays156_ren:={
 sizeBuilder:=by kernel_rfl
 liesBuilder:=by kernel_rfl
 t5:=Tryz.underlying5
 a5:=Tryz.isAgg5
 z5:=Tryz.sizeOf5
 v5:=Tryz.zeroValue5
 infoByte:=by kernel_rfl
 cellsByte:=by kernel_rfl
 sizeByte:=by kernel_rfl
 neB5:=by decide }
open Go.RowKit in
theorem Tryz.strings_Join_none (a:Option Addr) (c:Nat) (sep:ByteArray) (w:World) :
  Calls Tryz.prog 266 #[.slice a 0 c,.string sep] w fun e w'=>e=.returned (.string ⟨#[]⟩)∧w'=w:=Any.strings_Join_none Tryz.lays156 Tryz.Builder_Extra_156 a c sep w
open Go.RowKit in
theorem Tryz.strings_Join (bk o c:Nat) (xs:List ByteArray) (sep:ByteArray) (w:World) (hcells:∀ (j:Nat) x,xs[j]?=some x→w.cell? ⟨bk,o+j,none⟩=some (.string x)) (hbk:bk<w.heap.size) (hN:xs.length≤140737488355328) (hcap:xs.length≤c) (hlen:(Lib.join (xs.map (·.data.toList)) sep.data.toList).length≤140737488355328) :
  Calls Tryz.prog 266 #[.slice (some ⟨bk,o,none⟩) xs.length c,.string sep] w fun e w'=>e=.returned (.string ⟨(Lib.join (xs.map (·.data.toList)) sep.data.toList).toArray⟩)∧Below w.heap.size w w':=Any.strings_Join Tryz.lays156 Tryz.Builder_Extra_156 bk o c xs sep w hcells hbk hN hcap hlen
def Tryz.lays137_ren:Go.Shelf.Ren:=⟨fun|137=>93|217=>154|266=>194|n=>n,fun|9=>9|5=>5|3=>3|n=>n,fun|n=>n⟩
theorem Tryz.lays137:Go.Proofs.Lays.n137 Tryz.prog Tryz.lays137_ren:={
 mixed:=by kernel_rfl
 f137:=Tryz.func93.trans (Y3 some (by kernel_rfl))
 f217:=Tryz.func154.trans (Y3 some (by kernel_rfl))
 f266:=Tryz.func194.trans (Y3 some (by kernel_rfl))
 t3:=Tryz.underlying3
 a3:=Tryz.isAgg3
 z3:=Tryz.sizeOf3
 v3:=Tryz.zeroValue3
 t5:=Tryz.underlying5
 a5:=Tryz.isAgg5
 z5:=Tryz.sizeOf5
 v5:=Tryz.zeroValue5
 t9:=Tryz.underlying9
 a9:=Tryz.isAgg9
 z9:=Tryz.sizeOf9
 v9:=Tryz.zeroValue9 }
open Go.RowKit in
theorem Tryz.strings_IndexByte (s:ByteArray) (c:Int) (w:World) :
  Calls Tryz.prog 93 #[.string s,.int .u8 c] w fun e w'=>e=.returned (.int .i64 (Lib.indexByte s.data.toList c.toNat.toUInt8))∧w'=w:=Any.strings_IndexByte Tryz.lays137 s c w
open Go.RowKit Go.Lib in
def Tryz.lays143_ren:Go.Shelf.Ren:=⟨fun|143=>271|219=>283|217=>154|225=>287|224=>288|267=>289|266=>194|314=>292|n=>n,fun|9=>9|3=>3|4=>4|5=>5|46=>35|146=>336|51=>257|n=>n,fun|1=>28|n=>n⟩
theorem Tryz.lays143:Go.Proofs.Lays.n143 Tryz.prog Tryz.lays143_ren:={
 mixed:=by kernel_rfl
 f143:=Tryz.func271.trans (Y3 some (by kernel_rfl))
 f217:=Tryz.func154.trans (Y3 some (by kernel_rfl))
 f219:=Tryz.func283.trans (Y3 some (by kernel_rfl))
 f224:=Tryz.func288.trans (Y3 some (by kernel_rfl))
 f225:=Tryz.func287.trans (Y3 some (by kernel_rfl))
 f266:=Tryz.func194.trans (Y3 some (by kernel_rfl))
 f267:=Tryz.func289.trans (Y3 some (by kernel_rfl))
 f314:=Tryz.func292.trans (Y3 some (by kernel_rfl))
 t3:=Tryz.underlying3
 a3:=Tryz.isAgg3
 z3:=Tryz.sizeOf3
 v3:=Tryz.zeroValue3
 t4:=Tryz.underlying4
 a4:=Tryz.isAgg4
 z4:=Tryz.sizeOf4
 v4:=Tryz.zeroValue4
 t5:=Tryz.underlying5
 a5:=Tryz.isAgg5
 z5:=Tryz.sizeOf5
 v5:=Tryz.zeroValue5
 t9:=Tryz.underlying9
 a9:=Tryz.isAgg9
 z9:=Tryz.sizeOf9
 v9:=Tryz.zeroValue9
 t46:=Tryz.underlying35
 a46:=Tryz.isAgg35
 z46:=Tryz.sizeOf35
 v46:=Tryz.zeroValue35
 t51:=Tryz.underlying257
 a51:=Tryz.isAgg257
 z51:=Tryz.sizeOf257
 v51:=Tryz.zeroValue257
 t146:=Tryz.underlying336
 a146:=Tryz.isAgg336
 z146:=Tryz.sizeOf336
 v146:=Tryz.zeroValue336
 g1:=by kernel_rfl }
open Go.RowKit Go.Lib in
theorem Tryz.strings_Index_one (s:ByteArray) (c:UInt8) (w:World) :
  Calls Tryz.prog 271 #[.string s,.string ⟨#[c]⟩] w fun e w'=>e=.returned (.int .i64 (Lib.indexByte s.data.toList c))∧w'=w:=Any.strings_Index_one Tryz.lays143 s c w
open Go.RowKit Go.Lib in
def Tryz.lays99_ren:Go.Shelf.Ren:=⟨fun|99=>165|206=>206|n=>n,fun|9=>9|4=>4|3=>3|n=>n,fun|n=>n⟩
theorem Tryz.lays99:Go.Proofs.Lays.n99 Tryz.prog Tryz.lays99_ren:={
 mixed:=by kernel_rfl
 f99:=Tryz.func165.trans (Y3 some (by kernel_rfl))
 f206:=Tryz.func206.trans (Y3 some (by kernel_rfl))
 t3:=Tryz.underlying3
 a3:=Tryz.isAgg3
 z3:=Tryz.sizeOf3
 v3:=Tryz.zeroValue3
 t4:=Tryz.underlying4
 a4:=Tryz.isAgg4
 z4:=Tryz.sizeOf4
 v4:=Tryz.zeroValue4
 t9:=Tryz.underlying9
 a9:=Tryz.isAgg9
 z9:=Tryz.sizeOf9
 v9:=Tryz.zeroValue9 }
open Go.RowKit Go.Lib in
theorem Tryz.strings_HasPrefix (s p:ByteArray) (w:World) :
  Calls Tryz.prog 165 #[.string s,.string p] w fun e w'=>e=.returned (.bool (Lib.hasPrefix s.data.toList p.data.toList))∧w'=w:=Any.strings_HasPrefix Tryz.lays99 s p w
open Go.RowKit Go.Lib in
def Tryz.lays100_ren:Go.Shelf.Ren:=⟨fun|100=>166|207=>207|n=>n,fun|9=>9|4=>4|3=>3|n=>n,fun|n=>n⟩
theorem Tryz.lays100:Go.Proofs.Lays.n100 Tryz.prog Tryz.lays100_ren:={
 mixed:=by kernel_rfl
 f100:=Tryz.func166.trans (Y3 some (by kernel_rfl))
 f207:=Tryz.func207.trans (Y3 some (by kernel_rfl))
 t3:=Tryz.underlying3
 a3:=Tryz.isAgg3
 z3:=Tryz.sizeOf3
 v3:=Tryz.zeroValue3
 t4:=Tryz.underlying4
 a4:=Tryz.isAgg4
 z4:=Tryz.sizeOf4
 v4:=Tryz.zeroValue4
 t9:=Tryz.underlying9
 a9:=Tryz.isAgg9
 z9:=Tryz.sizeOf9
 v9:=Tryz.zeroValue9 }
open Go.RowKit Go.Lib in
theorem Tryz.strings_HasSuffix (s p:ByteArray) (w:World) (hs:s.size≤9223372036854775807) :
  Calls Tryz.prog 166 #[.string s,.string p] w fun e w'=>e=.returned (.bool (Lib.hasSuffix s.data.toList p.data.toList))∧w'=w:=Any.strings_HasSuffix Tryz.lays100 s p w hs
end Go.Proofs
namespace Go.Proofs
open Go.Shelf
def Tryz.sortB_ren:Go.Shelf.Ren:=⟨fun|6=>203|15=>159|14=>239|28=>199|29=>200|20=>253|21=>254|22=>255|23=>256|24=>257|25=>258|26=>259|27=>260|46=>273|47=>274|48=>275|49=>276|50=>277|57=>284|n=>n,fun|22=>138|24=>23|25=>261|3=>3|39=>35|0=>0|53=>257|55=>259|4=>4|46=>306|45=>305|50=>267|5=>5|9=>9|66=>322|70=>326|76=>331|77=>188|n=>n,fun|n=>n⟩
theorem Tryz.sortB:Go.Proofs.SlLaysF.n6 Tryz.prog Tryz.sortB_ren:={
 mixed:=by kernel_rfl
 f6:=⟨Tryz.f203.name,by decide,Tryz.func203.trans (Y3 some (by kernel_rfl))⟩
 f14:=⟨Tryz.f239.name,by decide,Tryz.func239.trans (Y3 some (by kernel_rfl))⟩
 f15:=Tryz.func159.trans (Y3 some (by kernel_rfl))
 f20:=⟨Tryz.f253.name,by decide,Tryz.func253.trans (Y3 some (by kernel_rfl))⟩
 f21:=⟨Tryz.f254.name,by decide,Tryz.func254.trans (Y3 some (by kernel_rfl))⟩
 f22:=⟨Tryz.f255.name,by decide,Tryz.func255.trans (Y3 some (by kernel_rfl))⟩
 f23:=⟨Tryz.f256.name,by decide,Tryz.func256.trans (Y3 some (by kernel_rfl))⟩
 f24:=⟨Tryz.f257.name,by decide,Tryz.func257.trans (Y3 some (by kernel_rfl))⟩
 f25:=⟨Tryz.f258.name,by decide,Tryz.func258.trans (Y3 some (by kernel_rfl))⟩
 f26:=⟨Tryz.f259.name,by decide,Tryz.func259.trans (Y3 some (by kernel_rfl))⟩
 f27:=⟨Tryz.f260.name,by decide,Tryz.func260.trans (Y3 some (by kernel_rfl))⟩
 f28:=Tryz.func199.trans (Y3 some (by kernel_rfl))
 f29:=Tryz.func200.trans (Y3 some (by kernel_rfl))
 f46:=⟨Tryz.f273.name,by decide,Tryz.func273.trans (Y3 some (by kernel_rfl))⟩
 f47:=Tryz.func274.trans (Y3 some (by kernel_rfl))
 f48:=Tryz.func275.trans (Y3 some (by kernel_rfl))
 f49:=⟨Tryz.f276.name,by decide,Tryz.func276.trans (Y3 some (by kernel_rfl))⟩
 f50:=⟨Tryz.f277.name,by decide,Tryz.func277.trans (Y3 some (by kernel_rfl))⟩
 f57:=⟨Tryz.f284.name,by decide,Tryz.func284.trans (Y3 some (by kernel_rfl))⟩
 t0:=Tryz.underlying0
 a0:=Tryz.isAgg0
 z0:=Tryz.sizeOf0
 v0:=Tryz.zeroValue0
 t3:=Tryz.underlying3
 a3:=Tryz.isAgg3
 z3:=Tryz.sizeOf3
 v3:=Tryz.zeroValue3
 t4:=Tryz.underlying4
 a4:=Tryz.isAgg4
 z4:=Tryz.sizeOf4
 v4:=Tryz.zeroValue4
 t5:=Tryz.underlying5
 a5:=Tryz.isAgg5
 z5:=Tryz.sizeOf5
 v5:=Tryz.zeroValue5
 t9:=Tryz.underlying9
 a9:=Tryz.isAgg9
 z9:=Tryz.sizeOf9
 v9:=Tryz.zeroValue9
 t22:=Tryz.underlying138
 a22:=Tryz.isAgg138
 z22:=Tryz.sizeOf138
 v22:=Tryz.zeroValue138
 a24:=Tryz.isAgg23
 z24:=Tryz.sizeOf23
 t25:=Tryz.underlying261
 a25:=Tryz.isAgg261
 z25:=Tryz.sizeOf261
 v25:=Tryz.zeroValue261
 t39:=Tryz.underlying35
 a39:=Tryz.isAgg35
 z39:=Tryz.sizeOf35
 v39:=Tryz.zeroValue35
 t45:=Tryz.underlying305
 a45:=Tryz.isAgg305
 z45:=Tryz.sizeOf305
 v45:=Tryz.zeroValue305
 t46:=Tryz.underlying306
 a46:=Tryz.isAgg306
 z46:=Tryz.sizeOf306
 v46:=Tryz.zeroValue306
 t50:=Tryz.underlying267
 a50:=Tryz.isAgg267
 z50:=Tryz.sizeOf267
 v50:=Tryz.zeroValue267
 t53:=Tryz.underlying257
 a53:=Tryz.isAgg257
 z53:=Tryz.sizeOf257
 v53:=Tryz.zeroValue257
 t55:=Tryz.underlying259
 a55:=Tryz.isAgg259
 z55:=Tryz.sizeOf259
 v55:=Tryz.zeroValue259
 t66:=Tryz.underlying322
 a66:=Tryz.isAgg322
 z66:=Tryz.sizeOf322
 v66:=Tryz.zeroValue322
 t70:=Tryz.underlying326
 a70:=Tryz.isAgg326
 z70:=Tryz.sizeOf326
 v70:=Tryz.zeroValue326
 t76:=Tryz.underlying331
 a76:=Tryz.isAgg331
 z76:=Tryz.sizeOf331
 v76:=Tryz.zeroValue331
 t77:=Tryz.underlying188
 a77:=Tryz.isAgg188
 z77:=Tryz.sizeOf188
 v77:=Tryz.zeroValue188 }
end Go.Proofs
namespace Go.Proofs.YtghminnpfnkbjaaGreatDoor
set_option linter.unusedVariables false
namespace Am
open Go.RowKit
theorem Lh {gs:List Nat} (g:Option Nat) (ls:YD) (hl:ls.length≤1000000000):AC gs Tryz.prog 203 [(g,.blk ls.length (oA ls))] [.os 0 g 0 ls.length 1,.c (.func (.func 204) #[] #[])] (fun r H'=>r=.c (.tuple #[])∧H'=[(g,.blk ls.length (oA (ki ls)))]) :=
 Lg (fun p cap fv w=>AnyF.slices_SortFunc_none (P:=Tryz.prog) (ρ:=Tryz.sortB_ren) { Tryz.sortB with } p cap fv w)
  (fun m enc h1 cf hO blk cap d w hc hH hb hs=>Any.slices_SortFunc (P:=Tryz.prog) (ρ:=Tryz.sortB_ren) Tryz.sortB enc h1 cf hO 204 #[] blk 0 cap d w (fun args W=>pO (by kernel_rfl) args W) hc hH hb hs)
  (fun w v1 v2 l r h1 h2=>BG h1 h2) g ls hl
theorem HA (ls:YD):cp (ki ls)=cp ls:=((nF ls).map List.length).sum_nat
theorem TL {gs:List Nat} (ls:YD) (hl:ls.length≤1000000) (hs:cp ls≤10000000000):cc gs Tryz.prog 163 [C9 ls] (aV (ki ls).flatten):=by
 have hsl:=AE ls
 refine aj 10 Tryz.func163 fun al w0 F0 St0=>?_;refine U 16516 ?_
 refine au (Bm (J8 ls hl) (fun p1=>?_))
 refine U 1651 ?_
 refine aq (aQ 0 (Lh p1 ls O) ?_)
 refine U 5 ?_;refine jE (freeze 0 rfl) ?_;refine jE (kg 3 (fun b _=>aV ((ki ls).getD b [])) rfl rfl O (fun a b ha hb=>Rr a b O hb)) ?_;refine jE (aS 3 (C9 (ki ls)) (aa.rs hsl.symm fun i j _ _=>I)) ?_;refine U 16 ?_
 refine au (ar (oc (ki ls) (by rw [HA];exact hs) O) ?_)
 refine U 51 ?_
 refine jR (eA (hv:=I))
theorem UW (a b:Z):(!(Op.bytesLess a b || a == b))=decide (0<eV a b):=by
 rw [← qt]
 have hs:=fy a b
 rcases bDx (eV a b) 0 with h|h|h
 ·simp [h];omega
 ·have:=qr h
  subst this
  simp [h]
 ·have hne:¬ a=b:=fun e=>by subst e;rw [Ad] at h;omega
  simp [hne,show ¬ eV a b<0 by omega,h]
section
variable {gs:List Nat} [gQ gs]

theorem Wo:aa (.c (.slice none 0 0)) (.os 0 none 0 0 1):=fun al St w v h=>⟨rfl,h⟩
theorem Rs {G:Gh} {s:AS} (d:Nat) {i off n k:Nat} (hl:look s.env s.b d=.os i none off n k):∀ a w,vy G s a w→n=0:=fun a w ⟨St,hr⟩=>by
 have:=ji hr (x:=.tmp d) hl
 exact this.1
theorem J7 {gs:List Nat} (l:Z) (g:Option Nat) (hl:l.length≤100000000):AC gs Tryz.prog 105 [(g,.blk l.length (bc l))] [.os 0 g 0 l.length 1] (fun r H'=>r=aV l∧H'=[(g,.blk l.length (bc l))]):=by
 refine aj 8 Tryz.func105 fun al w0 F0 St0=>?_;refine U 167516 ?_;refine jq (Gn rfl rfl rfl Tryz.underlying23) ?_;refine U 5 ?_;refine ap (fun h357=>?_) fun h357=>?_
 ·obtain rfl:g=none:=by cases g <;> simp at h357 ⊢
  refine cL (Rs 0 rfl) fun hn=>?_;refine U 30007000516 ?_
  exact bu (.inl rfl) [0] jD rfl (av rfl (ak rfl)) (aa.nilS' hn) ⟨rfl,rfl⟩
 refine U 6810 ?_
 refine au (aY 0 1 er fun p1=>?_)
 refine U 1 ?_
 refine aq (aR (l:=[]) rfl rfl rfl (YT _) (fun j hj=>absurd hj (YW j)) (aW rfl (.inl rfl) O) rfl (fun j hj=>by rw [Nat.zero_add];exact I) Tryz.underlying23 fY ix er mx rfl (by (simp;omega)) (fun j hj=>rfl) rfl rfl (fun p2=>?_))
 refine U 51 ?_;refine jE (freeze 1 rfl) ?_;refine jE (ia 2 ([]++l) rfl rfl (by rfl) rfl) ?_;refine U 7000 ?_
 exact bu (.inl rfl) [0] jD rfl (av rfl (ak rfl)) (aa.bs (List.nil_append l)) ⟨rfl,rfl⟩
theorem Kf {gs:List Nat} (tag:Int) (ls:YD) (hl:ls.length≤1000000) (hs:cp ls≤10000000000):cc gs Tryz.prog 104 [.agg 2 (fl [.c (.int .i64 tag),C9 ls])] (aV (nr (tag,ls))):=by
 refine aj 12 Tryz.func104 fun al w0 F0 St0=>?_;refine dP ?_
 refine au (ff 2 fun p1=>?_)
 refine U 5250906751 ?_;refine ap (fun h23=>?_) fun h23=>?_
 ·refine U 501006 ?_
  refine au (ar (TL ls hl hs) ?_)
  refine U 51 ?_
  refine jR (kq (eA (hv:=aa.bs (by unfold nr;rw [YF h23]))))
 refine U 501006810 ?_
 refine au (ar (oc ls hs hl) ?_)
 refine U 51 ?_
 refine jR (eA (hv:=aa.bs (by unfold nr;rw [YE h23])))
theorem pj (n:Nat) (s:W8) (tag:Int) (hs:uQ s):AC gs Tryz.prog 40 [ii n s] [.op 0 (some n) 0,.c (.int .i64 tag)] (fun r H'=>r=.c (.tuple #[])∧H'=[ii n (di tag s)]):=by
 have hsn:=hs.n
 refine aj 40 Tryz.func40 fun al w0 F0 St0=>?_;refine U 20 ?_;refine gN 0 rfl fun go gd zs hzs=>?_
 have hzl:=Fp hzs
 refine U 515000005010004016 ?_;refine ap (fun h69=>?_) fun h69=>?_
 ·refine U 40010 ?_
  have hP:di tag s=s:=by unfold di;rw [jP]
  rw [hP]
  exact bO (gd:=fun z:BT s.fr=>z.1.1) (E:=BQ s) (.inr rfl) _ ⟨(n,go,gd,zs),hzs⟩ [0,1,2,3] jD rfl (cM rfl) ⟨rfl,rfl⟩
 refine U 16 ?_
 refine au (ar (vh tag) ?_)
 refine U 5130 ?_;refine ap (fun h70=>?_) fun h70=>?_
 ·refine U 1200 ?_;refine jq (cK 4) ?_;refine U 100040 ?_
  refine aq (bo 1 (FZ ⟨s.fr,s.d,5⟩ 1 2 go gd) ?_ ?_)
  ·exact oB
  refine U 4005 ?_
  have hP:di tag s=⟨s.fr,s.d,5⟩:=by unfold di;rw [jK,YF (by simp [bQ] at h70 ⊢;omega)]
  rw [hP]
  exact bO (gd:=fun z:BT s.fr=>z.1.1) (E:=BQ ⟨s.fr,s.d,5⟩) (.inr rfl) _ ⟨(n,go,gd,zs),hzs⟩ [0,1,2,3] jD rfl (cM rfl) ⟨rfl,rfl⟩
 refine U 512350904016 ?_;refine ap (fun h72=>?_) fun h72=>?_
 ·refine U 1200 ?_;refine jq (cK 5) ?_;refine U 100040 ?_
  refine aq (bo 1 (FZ ⟨s.fr,s.d,6⟩ 1 2 go gd) ?_ ?_)
  ·exact oB
  refine U 4005 ?_
  have hP:di tag s=⟨s.fr,s.d,6⟩:=by unfold di;rw [jK,YE (by simp [bQ] at h70 ⊢;omega),jP]
  rw [hP]
  exact bO (gd:=fun z:BT s.fr=>z.1.1) (E:=BQ ⟨s.fr,s.d,6⟩) (.inr rfl) _ ⟨(n,go,gd,zs),hzs⟩ [0,1,2,3] jD rfl (cM rfl) ⟨rfl,rfl⟩
 refine jE (gL (oA [])) ?_;refine jE (bag_push 3 4 rfl rfl rfl) ?_
 dsimp only [List.set_cons_zero,List.set_cons_succ,List.cons_append,List.nil_append,List.length_cons,List.length_nil,Nat.zero_add,Nat.reduceAdd]
 refine U 150904011200 ?_;refine jq (ai (n:=2) rfl FT Wj rfl rfl) ?_
 refine au (aY 2 2 FT fun p1=>?_)
 refine aI (cW 5 2 (fV 2 sY tN [((tag,[]),none)]) rfl (YG _) (fun j hj=>by rcases j with _|_|j <;> first|exact I|exact Wo|omega)) ?_
 refine aq (aF (fW 2 sY tN) (l:=zs.reverse) (l2:=[((tag,[]),none)]) rfl rfl (by simp [hzl]) rfl (by simp [hzl]) (fun _ _=>I) (aW rfl (.inl rfl) jD) rfl (fun j hj=>by rw [Nat.zero_add];exact I) Tryz.underlying81 Xv V2 FT WW rfl (by simp;omega) (by simp;omega) (fun j hj=>by rcases j with _|_|j <;> first|rfl|omega) rfl rfl rfl (fun p2=>?_))
 refine U 9040 ?_
 refine aq (bo 1 (FZ ⟨(tag,[])::s.fr,s.d,s.k⟩ 1 2 p2 gd) ?_ ?_)
 ·exact (fun j hj=>by rcases j with _|_|_|j <;> first|exact cO (by simp [hzl])|exact I)
 refine U 4005 ?_
 have hP:di tag s=⟨(tag,[])::s.fr,s.d,s.k⟩:=by unfold di;rw [jK,YE (by simp [bQ] at h70 ⊢;omega),jK]
 rw [hP]
 refine Bz (H':=?H2) ?hh ?hb
 case hh=>intro _ _ _ _ _ hx;exact BH n ⟨(tag,[])::s.fr,s.d,s.k⟩ (((tag,[]),none)::zs) 0 1 2 3 (by simp [hzs]) rfl rfl rfl rfl jD (by exact cO rfl) (by exact cO rfl) (by exact I) (by simp [hzl]) (fun a _=>by rw [abx];exact I) (YG _) (fun _ _=>I) hx
 case hb=>exact bV (.inr rfl) _ [_] [0] jD rfl (cM rfl) ⟨rfl,rfl⟩
theorem KV {a b:YD} (h:a.Perm b):cp a=cp b:=by
 unfold cp
 exact (h.map List.length).sum_nat
theorem Ah (x:Int×YD):(nr x).length=cp x.2:=by
 unfold nr
 split
 ·rw [sB];exact KV (nF _)
 ·rw [sB]
theorem uQ.tail {x:Int×YD} {r:List (Int×YD)} {s:W8} (h:uQ s) (hf:s.fr=x::r):uQ ⟨r,s.d,s.k⟩:=⟨by have:=h.n;rw [hf] at this;simp at this ⊢;omega,fun y hy=>h.k y (by rw [hf];exact Y7 _ hy),h.d⟩
theorem np (n:Nat) (s:W8) (hs:uQ s):AC gs Tryz.prog 48 [ii n s] [.op 0 (some n) 0] (fun r H'=>r=.c (.tuple #[])∧H'=[ii n (dN s)]):=by
 have hsn:=hs.n
 refine aj 45 Tryz.func48 fun al w0 F0 St0=>?_;refine gN 0 rfl fun go gd zs hzs=>?_
 have hzl:=Fp hzs
 refine U 51500000501000401620519350904016 ?_;refine ap (fun h83=>?_) fun h83=>?_
 ·refine U 40010 ?_
  have hP:dN s=s:=by unfold dN;rw [jP]
  rw [hP]
  exact bO (gd:=fun z:BT s.fr=>z.1.1) (E:=BQ s) (.inr rfl) _ ⟨(n,go,gd,zs),hzs⟩ [0,1,2,3] jD rfl (cM rfl) ⟨rfl,rfl⟩
 refine U 51216 ?_;refine ap (fun h84=>?_) fun h84=>?_
 ·refine U 1200 ?_;refine jq (cK 23) ?_;refine U 100040 ?_
  refine aq (bo 1 (FZ ⟨s.fr,s.d,24⟩ 1 2 go gd) ?_ ?_)
  ·exact oB
  refine U 4005 ?_
  have hf0:s.fr=[]:=Y1 O
  have hP:dN s=⟨s.fr,s.d,24⟩:=by unfold dN;rw [jK,hf0]
  rw [hP]
  exact bO (gd:=fun z:BT s.fr=>z.1.1) (E:=BQ ⟨s.fr,s.d,24⟩) (.inr rfl) _ ⟨(n,go,gd,zs),hzs⟩ [0,1,2,3] jD rfl (cM rfl) ⟨rfl,rfl⟩
 obtain ⟨x,zr,rfl⟩:∃ x zr,zs=x::zr:=by
   cases zs with
   | nil=>simp at hzl;omega
   | cons x zr=>exact ⟨x,zr,rfl⟩
 have hfr:s.fr=x.1::zr.map Prod.fst:=by rw [← hzs];rfl
 have hxk:=hs.k x.1 (by rw [hfr];exact Y2)
 have hzl:s.fr.length=zr.length+1:=by rw [← hzl];rfl
 refine jE (bag_pop 3 rfl) ?_;refine U 150904016 ?_;refine jq (dU (i:=(s.fr.length-1)) (hz:=by omega)) ?_;refine gw (bq 2) ?_;refine aI (freeze 4 rfl) ?_;refine aI (VZ 16 4 (fun a _=>aV (x.1.2.getD a [])) (.c (.int .i64 x.1.1)) rfl rfl (by show aa (fV 2 sY tN (x::zr).reverse (0+(s.fr.length-1) * 2+0)) _;rw [s9 O hzl];exact I) (by show aa (fV 2 sY tN (x::zr).reverse (0+(s.fr.length-1) * 2+1)) _;rw [s9 O hzl];exact I) (by simp) (fun a b ha hb=>by obtain rfl:b=0:=O;rw [Nat.zero_add,Ze,Zt];exact I)) ?_
 refine au (cl (n:=2) FT rfl fun p1=>?_)
 refine aq (aA 2 ?_)
 refine U 15090401165 ?_;refine jq Fe ?_;refine U 9040 ?_;refine aI (cW 1 ((s.fr.length-1) * 2) (fV 2 sY tN zr.reverse) rfl O (fun j hj=>by rw [AO O];exact I)) ?_
 refine aq (bo 1 (FZ ⟨zr.map Prod.fst,s.d,s.k⟩ 1 2 go gd) ?_ ?_)
 ·exact (fun j hj=>by rcases j with _|_|_|j <;> first|exact cO (by simp;omega)|exact I)
 refine U 5 ?_;refine jE (pA n ⟨zr.map Prod.fst,s.d,s.k⟩ zr 0 1 2 3 rfl rfl rfl rfl rfl jD (cO rfl) (cO rfl) I (by simp;omega) (fun _ _=>I) (YG _) (fun _ _=>I)) ?_
 dsimp only [List.set_cons_zero,List.set_cons_succ,List.cons_append,List.nil_append,List.length_cons,List.length_nil,Nat.zero_add,Nat.reduceAdd]
 refine jE (freeze 5 rfl) ?_;refine jE (lD 3 (m:=2) rfl rfl jD) ?_
 have hto:=hs.tail hfr
 refine lM 5 (.rd 0 (.rd 1 (.rd 2 (.rd 3 (.one 4 .done))))) ?_;refine U 7000090000070 ?_;refine aM (mn 2) ?_
 refine ir (ar (Kf x.1.1 x.1.2 hxk.1 O) ?_)
 refine xP ?_
 show cJ _ _ _ _ _ _
 refine aq (aQ 0 (pU n ⟨zr.map Prod.fst,s.d,s.k⟩ x.1.1 (nr x.1) 0 hto (by rw [Ah];exact hxk.2)) ?_)
 refine U 4005 ?_
 have hP:dN s=fD x.1.1 (nr x.1) 0 ⟨zr.map Prod.fst,s.d,s.k⟩:=by unfold dN;rw [jK,hfr]
 rw [hP]
 exact bV (.inr rfl) _ [_] [0] jD rfl (cM rfl) ⟨rfl,rfl⟩
end
section
variable {gs:List Nat} [Pk gs]

theorem PG {gs:List Nat} (N:Nat) (hN:N≤9223372036854775807):cc gs Tryz.prog 265 [.c (.int .i64 (N:Nat))] (an (mv N)):=by
 have hdl:=lf 18 N O
 refine aj 28 Tryz.func265 fun al w0 F0 St0=>?_;refine U 52167516 ?_;refine ap (fun h84=>?_) fun h84=>?_
 ·exfalso;omega
 refine U 8000009100000016810 ?_
 refine au (aY 1 1 er fun p1=>?_)
 refine U 205160000016751 ?_;refine ax (α:=Nat×Z×Option Nat) [0,3,13,14,15,16,17,18,19,20,21,22,23] (fun (m,o,g)=>[(0,.c (.int .i64 (m:Nat))),(3,.os 0 g 0 o.length 1)]) (fun (m,o,g)=>[(g,.blk o.length (bc o))]) (fun (m,o,g)=>m≤N∧mv N=(if m=0 then [] else mv m)++o.reverse) (fun (m,o,g)=>m) ((N / 10,[Bx (N % 10)],p1)) ?_ (fun _=>rfl) ?_ ?_ ?_
 ·exact ⟨bRx _ _,J3 N⟩
 ·exact .cons (cI O) (.cons I .nil)
 ·exact .blk rfl (fun j hj=>Dv (l2:=[Bx (N % 10)]) (.cons (cI (vq N).symm) .nil) j hj) .nil
 ·rintro ⟨m,o,g⟩ ⟨(hm:m≤N),hd⟩
  have ho:o.length≤19:=by have:=Y3 List.length hd;simp only [YI,aFx] at this;omega
  refine U 52167 ?_;refine ap (fun h88=>?_) fun h88=>?_
  rotate_left
  ·refine U 1684000200020006000 ?_
   refine aq (aQ 0 (mf _ o O) ?_)
   refine U 165 ?_;refine gw Ns ?_;refine U 8000700051 ?_;refine aa.strL ?_
   rw [hd,jP]
   rfl
  refine U 8000009100000011200207810 ?_
  refine au (aY 1 1 er fun p2=>?_)
  refine aq (aR (l2:=[Bx (m % 10)]) rfl rfl rfl (YG _) (fun _ _=>I) (aW rfl (.inl rfl) jD) rfl (ck (.cons (cI ((vq m).symm)) .nil)) Tryz.underlying23 fY ix er mx rfl (by (simp;omega)) (dz rfl rfl) rfl rfl (fun p3=>?_))
  refine U 8516000001200840051 ?_
  refine aw ((m / 10,o++[Bx (m % 10)],p3)) ?_ ?_ (h5:=?_)
  ·exact ⟨by omega,by rw [hd];exact OQ O o⟩
  ·show m / 10<m;omega
  ·exact .cons (cI O) (.cons I .nil)
theorem Gc {gs:List Nat} (N:Nat) (hN:N≤9223372036854775807):cc gs Tryz.prog 219 [.c (.int .i64 (N:Nat))] (an (mv N)):=by
 induction N using vw with
 | h0 N h =>
  refine aj 20 Tryz.func219 fun al w0 F0 St0=>?_;refine U 52167516 ?_;refine ap (fun h42=>?_) fun h42=>?_
  rotate_left
  ·exfalso;omega
  refine U 800000916 ?_
  refine au (aY 1 1 er fun p1=>?_)
  refine aI (freeze 0 rfl) ?_;refine aI (jC 8 ([Bx N]) rfl rfl rfl rfl (.cons (cI ((by rw [jQ _ h];omega))) .nil)) ?_;refine jq Fg ?_;refine U 80003000700051 ?_;refine aa.strL ?_
  exact (fx h).symm
 | h1 N h ih =>
  have hdl:=lf 18 N O
  have hdl2:=lf 18 (N / 10) O
  refine aj 20 Tryz.func219 fun al w0 F0 St0=>?_;refine U 52167516 ?_;refine ap (fun h42=>?_) fun h42=>?_
  ·exfalso;omega
  refine U 7810 ?_;refine dY (.rd 0 (.rd 1 (.rd 3 (.rd 4 (.rd 5 (.rd 6 (.two 2 (.one 7 (.rd 8 (.rd 9 (.rd 10 .done)))) 7 (.rd 8 (.one 2 (.rd 9 (.rd 10 .done))))))))))) ?_;refine U 70 ?_;refine aM (LQ rfl rfl rfl (by (omega)) (by (omega)) (cC (k:=.i64) (by show _∧_;(omega)))) ?_;refine U 70 ?_;refine aM (LP rfl rfl rfl (by (omega)) (by (omega))) ?_;refine aM (Nu (hS:=by show _∧_;(omega))) ?_;refine aM (vi .i64 .u8 (hS:=by show _∧_;(omega))) ?_;refine Dg ?_ ?_
  ·refine ir (ar (ih O) ?_ (ho:=rfl) (he:=(.cons (se rfl (cI O)) .nil)))
   refine ir (aY 1 1 er fun p1=>?_)
   refine hZ (freeze 0 rfl) ?_;refine hZ (jC 17 ([Bx (N % 10)]) rfl rfl rfl rfl (.cons (cI ((vq N).symm)) .nil)) ?_;refine aM Fg ?_;refine aM (Nt (hS:=by ((simp only [List.length_cons,List.length_nil];omega)))) ?_;refine U 8000700088070 ?_;refine aa.strL ?_
   exact (jm h).symm
  ·refine ir (aY 1 1 er fun p1=>?_)
   refine hZ (freeze 0 rfl) ?_;refine hZ (jC 17 ([Bx (N % 10)]) rfl rfl rfl rfl (.cons (cI ((vq N).symm)) .nil)) ?_;refine aM Fg ?_
   refine ir (ar (ih O) ?_ (ho:=rfl) (he:=(.cons (se rfl (cI O)) .nil)))
   refine aM (Nt (hS:=by ((simp only [List.length_cons,List.length_nil];omega)))) ?_;refine U 8000700088070 ?_;refine aa.strL ?_
   exact (jm h).symm

theorem Dk (c:UInt8):eB c=true↔48≤c.toNat∧c.toNat≤57:=by simp [eB]
theorem zH {c:UInt8} (h1:48≤(c.toNat:Int)) (h2:(c.toNat:Int)≤57):eB c=true:=(Dk c).2 ⟨by omega,by omega⟩
theorem ss {c:UInt8} (h:(c.toNat:Int)<48∨57<(c.toNat:Int)):eB c=false:=by
 cases e:eB c with
 | false=>rfl
 | true=>have:=(Dk c).1 e;omega
theorem yF {l:Z} {i:Nat} (hi:i<l.length) (h:(l.take i).all eB=true) (hc:eB (l.getD i 0)=true):(l.take (i+1)).all eB=true:=by
 rw [yE l i hi,aTx,h,Z6,hc]
 rfl
theorem lR {l:Z} (h:l=[]∨(18:Int)<(l.length:Nat)∨((1:Int)<(l.length:Nat)∧((l.getD 0 0).toNat:Int)=48)∨l.all eB=false):(qE l).1=0∧(qE l).2=4:=by
 unfold qE
 rw [YF (by
  rcases h with h|h|h|h
  ·exact .inl (by simp [h])
  ·exact .inr (.inl O)
  ·exact .inr (.inr (.inl ⟨by omega,by omega⟩))
  ·exact .inr (.inr (.inr h)))]
 exact ⟨rfl,rfl⟩
theorem zZ {l:Z} (h0:l≠[]) (h1:¬ (18:Int)<(l.length:Nat)) (h2:¬ ((1:Int)<(l.length:Nat)∧((l.getD 0 0).toNat:Int)=48)) (h3:l.all eB=true):(qE l).1=mH l∧(qE l).2=0:=by
 unfold qE
 rw [YE (by
  rintro (h|h|h|h)
  ·exact h0 (Y1 h)
  ·exact h1 O
  ·exact h2 ⟨by omega,by omega⟩
  ·rw [h3] at h;cases h)]
 exact ⟨rfl,rfl⟩
theorem Cd {l:Z} {i:Nat} (hi:i<l.length):mH (l.take (i+1))=10 * mH (l.take i)+((l.getD i 0).toNat-48):=by
 rw [yE l i hi,kf]
theorem PK (l:Z):cc gs Tryz.prog 234 [an l] (.tup 2 (fl [.c (.int .i64 ((qE l).1:Nat)),.err (qE l).2])):=by
 refine aj 48 Tryz.func234 fun al w0 F0 St0=>?_;refine U 1600001675116 ?_;refine aK 9 (fun g97=>?_) fun g97=>?_
 ·refine U 790005100000000444444441100000000444 ?_;refine dY (.rd 0 (.rd 1 (.rd 2 .done))) ?_;refine U 80003000700088070704000000 ?_
  have hb:=@lR l (by (simp_all;done))
  exact cT (cI (by rw [hb.1];rfl)) (aa.errN hb.2)
 refine U 15002400001 ?_;refine aK 14 (fun g97_2=>?_) fun g97_2=>?_
 ·refine U 79000510000000044444444 ?_;refine dY (.rd 0 (.rd 1 (.rd 2 .done))) ?_;refine U 80003000700088070704000000 ?_
  have hb:=@lR l (by (simp_all;done))
  exact cT (cI (by rw [hb.1];rfl)) (aa.errN hb.2)
 refine U 12400001 ?_;refine aK 18 (fun g97_3=>?_) fun g97_3=>?_
 rotate_left
 ·refine U 2051400001675168103005500500444 ?_;refine ax (α:=Nat) [2,3,4,5,6,27,28,29,30,31,32,33,34,35,36,37,38,39,40,41,42,43,44,45,46] (fun i=>[(4,.c (.int .i64 (mH (l.take i):Nat))),(27,.c (.int .i64 (i:Nat)))]) (fun _=>[]) (fun i=>i≤l.length∧(l.take i).all eB=true) (fun i=>l.length-i) (0) ?_ (fun _=>rfl) ?_ ?_ ?_
  ·exact ⟨YT _,rfl⟩
  ·(repeat (first|exact bz.nil|refine bz.cons I ?_))
  ·(repeat (exact aP.nil))
  ·rintro i ⟨(hi:i≤l.length),hf⟩
   have hl18:l.length≤18:=by omega
   refine U 7526 ?_;refine ap (fun h101=>?_) fun h101=>?_
   rotate_left
   ·refine U 800070005111684000200020006000 ?_
    have hi2:i=l.length:=by omega
    rw [hi2,Za] at hf
    have hb:=zZ (l:=l) (by (simp_all;done)) (by (simp_all;done)) (by grind) hf
    exact cT (cI (by rw [hb.1,hi2,Za])) (aa.errN hb.2)
   refine U 5116207810 ?_
   have hv:=yA hf (by rw [YS];omega)
   refine U 121675180000000116 ?_;refine aK 35 (fun g103=>?_) fun g103=>?_
   ·refine U 79000510000000044 ?_;refine dY (.rd 0 (.rd 1 (.rd 2 .done))) ?_;refine U 8000300050003000300050003000700088070704000000 ?_
    have hb:=@lR l (.inr (.inr (.inr (oq (i:=i) O (by exact ss (.inl O))))))
    exact cT (cI (by rw [hb.1];rfl)) (aa.errN hb.2)
   refine U 550021 ?_;refine ap (fun h103=>?_) fun h103=>?_
   ·refine gY ?_;refine dY (.rd 0 (.rd 1 (.rd 2 .done))) ?_;refine U 8000300050003000300050003000700088070704000000 ?_
    have hb:=@lR l (.inr (.inr (.inr (oq (i:=i) O (by exact ss (.inr O))))))
    exact cT (cI (by rw [hb.1];rfl)) (aa.errN hb.2)
   refine U 9191200810 ?_;refine jq (vi .u8 .i64) ?_;refine U 85192008400519 ?_
   refine aw (i+1) ?_ ?_ (h5:=?_)
   ·exact ⟨by omega,yF O hf (zH O O)⟩
   ·show l.length-(i+1)<l.length-i;omega
   ·exact .cons (cI (by rw [Cd O];omega)) (.cons (cI O) .nil)
 refine U 1 ?_;refine jq (Bk (i:=0)) ?_;refine U 55001000000002 ?_;refine ap (fun h97=>?_) fun h97=>?_
 ·refine gY ?_;refine dY (.rd 0 (.rd 1 (.rd 2 .done))) ?_;refine U 80003000700088070704000000 ?_
  have hb:=@lR l (by (simp_all;done))
  exact cT (cI (by rw [hb.1];rfl)) (aa.errN hb.2)
 refine U 205140000167516810 ?_;refine ax (α:=Nat) [2,3,4,5,6,27,28,29,30,31,32,33,34,35,36,37,38,39,40,41,42,43,44,45,46] (fun i=>[(4,.c (.int .i64 (mH (l.take i):Nat))),(27,.c (.int .i64 (i:Nat)))]) (fun _=>[]) (fun i=>i≤l.length∧(l.take i).all eB=true) (fun i=>l.length-i) (0) ?_ (fun _=>rfl) ?_ ?_ ?_
 ·exact ⟨YT _,rfl⟩
 ·(repeat (first|exact bz.nil|refine bz.cons I ?_))
 ·(repeat (exact aP.nil))
 ·rintro i ⟨(hi:i≤l.length),hf⟩
  have hl18:l.length≤18:=by omega
  refine U 7526 ?_;refine ap (fun h101=>?_) fun h101=>?_
  rotate_left
  ·refine U 800070005111684000200020006000 ?_
   have hi2:i=l.length:=by omega
   rw [hi2,Za] at hf
   have hb:=zZ (l:=l) (by (simp_all;done)) (by (simp_all;done)) (by (simp_all;done)) hf
   exact cT (cI (by rw [hb.1,hi2,Za])) (aa.errN hb.2)
  refine U 5116207810 ?_
  have hv:=yA hf (by rw [YS];omega)
  refine U 121675180000000116 ?_;refine aK 35 (fun g103=>?_) fun g103=>?_
  ·refine U 79000510000000044 ?_;refine dY (.rd 0 (.rd 1 (.rd 2 .done))) ?_;refine U 8000300050003000300050003000700088070704000000 ?_
   have hb:=@lR l (.inr (.inr (.inr (oq (i:=i) O (by exact ss (.inl O))))))
   exact cT (cI (by rw [hb.1];rfl)) (aa.errN hb.2)
  refine U 550021 ?_;refine ap (fun h103=>?_) fun h103=>?_
  ·refine gY ?_;refine dY (.rd 0 (.rd 1 (.rd 2 .done))) ?_;refine U 8000300050003000300050003000700088070704000000 ?_
   have hb:=@lR l (.inr (.inr (.inr (oq (i:=i) O (by exact ss (.inr O))))))
   exact cT (cI (by rw [hb.1];rfl)) (aa.errN hb.2)
  refine U 9191200810 ?_;refine jq (vi .u8 .i64) ?_;refine U 85192008400519 ?_
  refine aw (i+1) ?_ ?_ (h5:=?_)
  ·exact ⟨by omega,yF O hf (zH O O)⟩
  ·show l.length-(i+1)<l.length-i;omega
  ·exact .cons (cI (by rw [Cd O];omega)) (.cons (cI O) .nil)

theorem JC {gs:List Nat} {g:FuncId} {n:Nat} {fv:Nat→CV} (hc:bA Tryz.prog g=true) (l:List (Int)) (p:(Int)→Bool) (hp:∀ r,cc gs Tryz.prog g ((fun z:Int=>.c (.int .i64 z)) r::(List.range n).map fv) (.c (.bool (p r)))) :
  cc gs Tryz.prog 272 [Ju l,.fn g n fv] (.c (.int .i64 (dZ p l))):=by
 refine fC 0 rfl fun hlen=>?_;refine aj 19 Tryz.func272 fun al w0 F0 St0=>?_;refine U 20513167516 ?_;refine ax (α:=Nat) [4,5,8,9,10,11,12,13,14,15,16,17,18] (fun i=>[(8,.c (.int .i64 (i:Nat)))]) (fun _=>[]) (fun i=>i≤l.length∧∀ j (hj:j<l.length),j<i→p l[j]=false) (fun i=>l.length-i) (0) ?_ (fun _=>rfl) ?_ ?_ ?_
 ·exact ⟨by omega,fun j _ hj=>absurd hj (YW j)⟩
 ·(repeat (first|exact bz.nil|refine bz.cons I ?_))
 ·(repeat (exact aP.nil))
 ·rintro i ⟨hi,he⟩
  refine U 7526 ?_;refine ap (fun h108=>?_) fun h108=>?_
  rotate_left
  ·refine U 8000700051684000200020006000 ?_;refine cI ?_
   exact (mo fun j hj=>he j hj O).symm
  refine U 6070011165116207810 ?_
  refine au (ld rfl rfl (by assumption) (hp (l.getD i 0)) (nZ I _) rfl rfl ?_)
  rintro _ _ ⟨rfl,rfl⟩
  refine U 5 ?_;refine ap (fun h109=>?_) fun h109=>?_
  ·refine U 80003000500030003000500070005116 ?_;refine cI ?_
   have hlt:i<l.length:=by omega
   exact (ni i hlt (by simpa [List.getD,hlt] using h109) (fun j hj=>he j O hj)).symm
  refine U 8519200840010 ?_;refine aw (i+1) ?_ ?_
  ·exact ⟨by omega,fun j hj hj1=>by
    by_cases e:j=i
    ·subst e
     simpa [List.getD,hj] using h109
    ·exact he j hj O⟩
  ·omega
theorem JD {gs:List Nat} {g:FuncId} {n:Nat} {fv:Nat→CV} (hc:bA Tryz.prog g=true) (l:List (Int)) (p:(Int)→Bool) (hp:∀ r,cc gs Tryz.prog g ((fun z:Int=>.c (.int .i64 z)) r::(List.range n).map fv) (.c (.bool (p r)))) :
  cc gs Tryz.prog 249 [Ju l,.fn g n fv] (.c (.bool (l.any p))):=by
 refine aj 9 Tryz.func249 fun al w0 F0 St0=>?_;refine U 116516 ?_
 refine au (ar (JC hc l p hp) ?_)
 refine U 80007000512 ?_;refine cB ?_
 exact rC p l
def IS (n:Int):Bool:=decide (n<0) || decide (2147483647<n)
theorem Uq {gs:List Nat} (n:Int):cc gs Tryz.prog 250 (.c (.int .i64 n)::(List.range 0).map fun _=>.top) (.c (.bool (IS n))):=by
 refine aj 9 Tryz.func250 fun al w0 F0 St0=>?_;refine U 1216516 ?_;refine aK 5 (fun g25=>?_) fun g25=>?_
 ·refine U 800070005110000000044 ?_;refine cB ?_
  unfold IS
  (simp_all;done)
 refine U 800070005150021 ?_;refine cB ?_
 unfold IS
 (simp_all;omega)
theorem lm (l:List Int):(!l.any IS)=l.all (fun n=>decide (0≤n) && decide (n≤2147483647)):=by
 rw [← uO]
 congr 2
 funext n
 unfold IS
 by_cases h1:n<0 <;> by_cases h2:2147483647<n <;> simp [h1,h2] <;> omega
theorem zb {gs:List Nat} (l:List Int):cc gs Tryz.prog 235 [Ju l] (.c (.bool (dj l))):=by
 refine fC 0 rfl fun hlen=>?_;refine aj 34 Tryz.func235 fun al w0 F0 St0=>?_;refine U 123167516 ?_;refine aK 7 (fun g22=>?_) fun g22=>?_
 ·refine U 80003000700051690005100000000444 ?_;refine cB ?_
  unfold dj
  rw [← lm]
  (simp_all;omega)
 refine U 5500231 ?_;refine ap (fun h22=>?_) fun h22=>?_
 ·refine U 800030007000516 ?_;refine cB ?_
  unfold dj
  rw [← lm]
  (simp_all;omega)
 refine U 16810 ?_
 refine au (ar (JD (n:=0) (fv:=fun _=>.top) (by kernel_rfl) l IS Uq) ?_)
 refine U 1301651 ?_;refine aK 16 (fun g26=>?_) fun g26=>?_
 rotate_left
 ·refine U 8000700051500444444444415004444 ?_;refine cB ?_
  unfold dj
  rw [← lm]
  grind
 refine U 110000000026020000001 ?_;refine aK 22 (fun g26_2=>?_) fun g26_2=>?_
 rotate_left
 ·refine U 80007000515004444444444 ?_;refine cB ?_
  unfold dj
  rw [← lm]
  (simp_all;omega)
 refine U 126020000001 ?_;refine aK 27 (fun g26_3=>?_) fun g26_3=>?_
 ·refine U 80007000511000000001000000004444 ?_;refine cB ?_
  unfold dj
  rw [← lm]
  (simp_all;omega)
 refine U 1 ?_;refine jq (dU (i:=1)) ?_;refine U 8000700051100000000500260 ?_;refine cB ?_
 unfold dj
 rw [← lm]
 (simp_all;omega)

theorem Qc (n:Nat):(((UInt8.ofNat (n % 128)).toNat:Nat):Int)=(n:Int) % 128:=by
 rw [YY];omega
theorem Lu (n:Nat):(((UInt8.ofNat (n % 128+128)).toNat:Nat):Int)=(n:Int) % 128+128:=by
 rw [YY];omega
theorem vY {gs:List Nat} (N:Nat) (hN:N<34359738368):AC gs Tryz.prog 196 [] [.c (.int .i64 (N:Nat))] (sV (fM N).length 1 (fM N).length (bc (fM N))):=by
 have hlen:=o0 hN
 refine aj 24 Tryz.func196 fun al w0 F0 St0=>?_;refine U 800000100000016516 ?_
 refine au (aY 1 1 er fun p1=>?_)
 refine U 205160000016751 ?_;refine ax (α:=Nat×Z×Option Nat) [0,3,10,11,12,13,14,15,16,17,18,19,20] (fun (m,o,g)=>[(0,.c (.int .i64 (m:Nat))),(3,.os 0 g 0 o.length 1)]) (fun (m,o,g)=>[(g,.blk o.length (bc o))]) (fun (m,o,g)=>m≤N∧fM N=kH m++o.reverse∧0<o.length) (fun (m,o,g)=>m) ((N / 128,[UInt8.ofNat (N % 128)],p1)) ?_ (fun _=>rfl) ?_ ?_ ?_
 ·exact ⟨bRx _ _,rfl,Nat.one_pos⟩
 ·exact .cons (cI O) (.cons I .nil)
 ·exact .blk rfl (fun j hj=>Dv (l2:=[UInt8.ofNat (N % 128)]) (.cons (cI (Qc N).symm) .nil) j hj) .nil
 ·rintro ⟨m,o,g⟩ ⟨(hm:m≤N),hd,ho0⟩
  have ho:o.length≤5:=by have:=Y3 List.length hd;simp only [YI,aFx] at this;omega
  refine U 52167 ?_;refine ap (fun h60=>?_) fun h60=>?_
  rotate_left
  ·refine U 84000200020006000 ?_
   have hm0:m=0:=by omega
   rw [hm0,gE,List.nil_append] at hd
   refine U 16 ?_
   refine aq (aQ 0 (mf _ o O) ?_)
   refine U 700051165 ?_
   exact oE 0 (.inl rfl) (av rfl (ak rfl)) rfl (by rw [hd,aFx]) (by rw [hd];exact YG _) (fun _=>by rw [hd]) (fun j hj=>by rw [hd];exact I)
  refine U 8000009100000011200207810 ?_
  refine au (aY 1 1 er fun p2=>?_)
  refine aq (aR (l2:=[UInt8.ofNat (m % 128+128)]) rfl rfl rfl (YG _) (fun _ _=>I) (aW rfl (.inl rfl) jD) rfl (ck (.cons (cI ((Lu m).symm)) .nil)) Tryz.underlying23 fY ix er mx rfl (by (simp;omega)) (dz rfl rfl) rfl rfl (fun p3=>?_))
  refine U 8516000001200840051 ?_
  refine aw ((m / 128,o++[UInt8.ofNat (m % 128+128)],p3)) ?_ ?_ (h5:=?_)
  ·exact ⟨by omega,by rw [hd,iM (show m≠0 by omega),btx,Zb];rfl,by simp⟩
  ·show m / 128<m;omega
  ·exact .cons (cI O) (.cons I .nil)
theorem Li {l:Z} {i:Nat} (h:i<l.length):cX (l.take (i+1))=cX (l.take i) * 128+(l.getD i 0).toNat % 128:=by
 rw [YO h,gD]
 simp [List.getD,h]
theorem PM {l:Z} (i:Nat):cX (l.take i)≤cX l:=by
 have key:∀ (r:Z) (a:Z),cX a≤cX (a++r):=by
  intro r
  induction r with
  | nil=>simp
  | cons c r ih =>
   intro a
   have h1:=ih (a++[c])
   rw [gD] at h1
   rw [show a++c::r=a++[c]++r by simp]
   have:cX a≤cX a * 128:=by omega
   omega
 have:=key (l.drop i) (l.take i)
 rwa [Zu] at this
theorem sc {r:Z} {most:Nat} {x:Nat×Nat} (h:dM r most=x):(dM r most).1=x.1∧(dM r most).2=x.2:=by rw [h];exact ⟨rfl,rfl⟩
theorem zf {gs:List Nat} [gQ gs] (r:Z) (most:Nat) (hr:0<r.length) (hm:most≤9999999999):cc gs Tryz.prog 242 [aV r,.c (.int .i64 (most:Nat))] (.tup 2 (fl [.c (.int .i64 ((dM r most).1:Nat)),.err (dM r most).2])):=by
 refine fC 0 rfl fun hlen=>?_;refine aj 42 Tryz.func242 fun al w0 F0 St0=>?_;refine U 931162075116 ?_;refine jq (dU (i:=(r.length-1)) (hz:=by omega)) ?_;refine U 51260 ?_;refine ap (fun h99=>?_) fun h99=>?_
 ·refine gY ?_;refine dY (.rd 0 (.rd 1 (.rd 2 .done))) ?_;refine aM (cK 1) ?_;refine U 80003000500070008807070 ?_
  have hb:=sc (r:=r) (most:=most) (x:=(0,2)) (by unfold dM;rw [jP])
  exact cT (cI (by rw [hb.1];rfl)) (aa.errN hb.2)
 refine U 51260200000016 ?_;refine ap (fun h101=>?_) fun h101=>?_
 ·refine gY ?_;refine dY (.rd 0 (.rd 1 (.rd 2 .done))) ?_;refine U 800030005000700088070704000000 ?_
  have hb:=sc (r:=r) (most:=most) (x:=(0,4)) (by unfold dM;rw [jK,jP])
  exact cT (cI (by rw [hb.1];rfl)) (aa.errN hb.2)
 refine U 20513167516840010 ?_;refine ax (α:=Nat) [4,5,6,8,26,27,28,29,30,31,32,33,34,35,36,37,38,39,40] (fun i=>[(6,.c (.int .i64 (cX (r.take i):Nat))),(26,.c (.int .i64 (i:Nat)))]) (fun _=>[]) (fun i=>i≤r.length∧cX (r.take i)≤most) (fun i=>r.length-i) (0) ?_ (fun _=>rfl) ?_ ?_ ?_
 ·exact ⟨YT _,by simp [cX]⟩
 ·(repeat (first|exact bz.nil|refine bz.cons I ?_))
 ·(repeat (exact aP.nil))
 ·rintro i ⟨(hi:i≤r.length),hv⟩
  refine U 7526 ?_;refine ap (fun h105=>?_) fun h105=>?_
  rotate_left
  ·refine U 800070005111684000200020006000 ?_
   have hi2:i=r.length:=by omega
   rw [hi2,Za] at hv
   have hb:=sc (r:=r) (most:=most) (x:=(cX r,0)) (by unfold dM;rw [jK,jK,jK])
   exact cT (cI (by rw [hb.1,hi2,Za])) (aa.errN hb.2)
  refine U 1000000191651607006207810 ?_;refine jq (vi .u8 .i64) ?_;refine U 52116519 ?_;refine ap (fun h107=>?_) fun h107=>?_
  rotate_left
  ·refine U 8519200840010 ?_
   refine aw (i+1) ?_ ?_ (h5:=?_)
   ·exact ⟨by omega,by rw [Li O];omega⟩
   ·show r.length-(i+1)<r.length-i;omega
   ·exact .cons (cI (by rw [Li O];omega)) (.cons (cI O) .nil)
  refine gY ?_;refine dY (.rd 0 (.rd 1 (.rd 2 .done))) ?_;refine aM (cK 0) ?_;refine U 80003000500030003000500070008807070 ?_
  have h9:=Li (l:=r) (i:=i) O
  have h8:=PM (l:=r) (i+1)
  have hb:=sc (r:=r) (most:=most) (x:=(0,1)) (by unfold dM;rw [jK,jK,jP])
  exact cT (cI (by rw [hb.1];rfl)) (aa.errN hb.2)

theorem Jz {gs:List Nat} (a:Z) (c:UInt8):cc gs Tryz.prog 271 [an a,an [c]] (.c (.int .i64 (Lib.indexByte a c))) :=
 ot fun al w St vals hs hv hr=>by
  rw [ui hv,show vals.getD 0 undef=.string ⟨a.toArray⟩ from hr 0,show vals.getD 1 undef=.string ⟨#[c]⟩ from hr 1]
  exact (Tryz.strings_Index_one _ _ w).mono (by rintro e w' ⟨rfl,rfl⟩;exact ⟨by simp,Below.refl _ _⟩)
theorem GO (c:UInt8):∀ l:Z,(Lib.indexByte l c<0∧aU c l=[l])∨∃ p r,l=p++c::r∧Lib.indexByte l c=(p.length:Nat)∧aU c l=p::aU c r
 | []=>.inl ⟨by simp [Lib.indexByte],rfl⟩
 | x::l=>by
  by_cases hx:x=c
  ·subst hx
   refine .inr ⟨[],l,rfl,?_,?_⟩
   ·simp [Lib.indexByte]
   ·simp [aU]
  ·rcases GO c l with ⟨h1,h2⟩|⟨p,r,h1,h2,h3⟩
   ·refine .inl ⟨?_,?_⟩
    ·have:=Lib.indexByte_ge l c
     have e:Lib.indexByte l c=-1:=by omega
     simp [Lib.indexByte,hx,e]
    ·rw [aU,YE hx,h2];rfl
   ·refine .inr ⟨x::p,r,by rw [h1];rfl,?_,?_⟩
    ·have e:¬ Lib.indexByte l c=-1:=by omega
     simp [Lib.indexByte,hx,h2];try omega
    ·rw [aU,YE hx,h3];rfl
def TO (f:FuncId) (c:UInt8) (g:Option Nat):CV:=.fn f 3 (fl [.rp 1 fun _=>an [c],.op 0 g 0,.rp 1 fun _=>.c (.int .i64 0)])
theorem Lb {gs:List Nat} (s:Z) (c:UInt8):AC gs Tryz.prog 248 [] [an s,an [c],.c (.int .i64 0)] (fun r H'=>∃ g,r=TO 269 c g∧H'=[(g,.blk 1 (fun _=>an s))]):=by
 refine aj 8 Tryz.func248 fun al w0 F0 St0=>?_;refine dP ?_
 refine au (ff 1 fun p1=>?_)
 refine au (ff 1 fun p2=>?_)
 refine au (ff 1 fun p3=>?_)
 refine U 51 ?_;refine jE (freeze 1 rfl) ?_;refine jE (freeze 2 rfl) ?_;refine jE (lD (m:=1) 4 rfl rfl jD) ?_;refine jE (lD (m:=1) 5 rfl rfl jD) ?_;refine jE (eE 0 (m:=1) (F:=fun _=>an s) rfl (YG _) (fun _=>rfl) (fun j hj=>by obtain rfl:j=0:=O;exact I)) ?_;refine dP ?_;refine jq Nr ?_;refine U 700051 ?_
 exact bV (.inl rfl) (TO 269 c p1) _ [0] jD rfl ((av rfl (ak rfl)).ent (by refine aa.fn3 (aa.rp ?_) cP (aa.rp ?_) <;> (intro j hj;obtain rfl:j=0:=O;exact I))) ⟨_,rfl,rfl⟩
theorem Ce {gs:List Nat} (s:Z) (c:UInt8):AC gs Tryz.prog 233 [] [an s,an [c]] (fun r H'=>∃ g,r=TO 269 c g∧H'=[(g,.blk 1 (fun _=>an s))]):=by
 refine aj 8 Tryz.func233 fun al w0 F0 St0=>?_;refine U 116516 ?_
 refine au (ry (Lb s c) ?_)
 rintro _ _ ⟨p1,rfl,rfl⟩
 refine U 700051 ?_
 exact bV (.inl rfl) _ _ [0] jD rfl (av rfl (ak rfl)) ⟨_,rfl,rfl⟩
theorem EN {c:UInt8} {s rest:Z} {k:Nat} (h:(aU c s).drop k=aU c rest):k<(aU c s).length:=by
 have:=pK c rest
 rw [← h] at this
 apply Z4
 intro hn
 exact this (ZE O)
theorem tZ {α:Type} {l:List α} {k:Nat} {d x:α} {r:List α} (h:l.drop k=x::r):l.getD k d=x∧l.drop (k+1)=r:=by
 have h1:l[k]?=some x:=by
  have:=Y3 (fun m=>m[0]?) h
  simpa using this
 exact ⟨by simp [List.getD,h1],by rw [← ZX,h];rfl⟩
theorem Lr {gs:List Nat} (s:Z) (c:UInt8) (g:Option Nat) (hs:s.length≤100000000000):Pm gs Tryz.prog 269 [(g,.blk 1 (fun _=>an s))] ((List.range 3).map (fl [.rp 1 fun _=>an [c],.op 0 g 0,.rp 1 fun _=>.c (.int .i64 0)])) (aU c s).length (fun k=>[an ((aU c s).getD k [])]):=fun l J Jx hY=>by
 refine FP true 52 Tryz.func269 rfl rfl rfl (fun al w0 F0 St0=>?_)
 refine U 52400006067 ?_;refine ap (fun h38=>?_) fun h38=>?_
 ·exfalso;simp at h38
 refine U 207810 ?_;refine ax (α:=Nat×Z) [7,8,29,30,31,32,33,34,35,36,37,38,39,40,41,42,43,44,45,46,47,48] (fun _=>[]) (fun (k,rest)=>[(g,.blk 1 (fun _=>an rest)),(some l,.obj (J k))]) (fun (k,rest)=>(aU c s).drop k=aU c rest∧rest.length≤s.length) (fun (k,rest)=>rest.length) ((0,s)) ?_ (fun _=>rfl) ?_ ?_ ?_
 ·exact ⟨rfl,YG _⟩
 ·exact .nil
 ·exact .same (.same .nil)
 ·rintro ⟨k,rest⟩ ⟨hk,hlen⟩
  have hkl:=EN hk
  have hcut:=GO c rest
  refine U 6050620 ?_
  refine au (ar (Jz rest c) ?_)
  refine U 5216751 ?_;refine ap (fun h50=>?_) fun h50=>?_
  ·refine U 12008400020008000020006000 ?_
   have hsp:aU c rest=[rest]:=by
    rcases hcut with h|⟨q,r,_,h,_⟩
    ·exact h.2
    ·omega
   have hk2:=tZ (d:=[]) (hk.trans hsp)
   have hm:(aU c s).length=k+1:=by
    have:=Y3 List.length hk2.2
    simp at this
    omega
   refine U 50 ?_
   refine AH (bw rfl) rfl (Bc (i:=1) rfl rfl rfl (hY k hkl) (.cons (se rfl (aa.strL hk2.1.symm)) .nil) rfl rfl ?_)
   rintro _ _ (⟨rfl,rfl⟩|⟨rfl,rfl⟩)
   ·refine ⟨_,_,rfl,I,?_⟩
    refine U 5 ?_
    exact bV (.inr rfl) _ _ [1] jD rfl (cM rfl) (.inl (by rw [hm];rfl))
   ·refine ⟨_,_,rfl,I,?_⟩
    refine U 5 ?_
    exact bV (.inr rfl) _ _ [1] jD rfl (cM rfl) (.inr rfl)
  refine U 810 ?_
  obtain ⟨q,r,hr,hi,hsp⟩:∃ q r,rest=q++c::r∧Lib.indexByte rest c=(q.length:Nat)∧aU c rest=q::aU c r:=by
   rcases hcut with h|h
   ·omega
   ·exact h
  have hk2:=tZ (d:=[]) (hk.trans hsp)
  have hql:q.length<rest.length:=by rw [hr];simp
  refine U 9601506 ?_;refine jq (rf rfl rfl Tryz.underlying9 rfl (show _=((q.length:Nat):Int) by omega) (by (omega))) ?_;refine U 116751 ?_
  refine AH (bw rfl) rfl (Bc (i:=1) rfl rfl rfl (hY k hkl) (.cons (se rfl (aa.strL (by rw [hk2.1,hr];simp))) .nil) rfl rfl ?_)
  rintro _ _ (⟨rfl,rfl⟩|⟨rfl,rfl⟩)
  ·refine ⟨_,_,rfl,I,?_⟩
   refine U 200810300530 ?_;refine gw (gm (hn:=by (omega))) ?_;refine U 1 ?_;refine jq (kC (hn:=by (omega))) ?_;refine jq Wz ?_;refine jq (Nu (hS:=by show _∧_;((simp only [List.length_cons,List.length_nil];omega)))) ?_;refine jq (EH rfl rfl Tryz.underlying9 rfl (show _=(((q.length+1):Nat):Int) by (simp only [List.length_cons,List.length_nil];omega)) (by (omega))) ?_
   refine aq (aA 1 ?_ (hn:=by (omega)))
   refine U 84005 ?_
   refine aw ((k+1,rest.drop (q.length+1))) ?_ ?_ (h5:=?_) (h7:=?_)
   ·exact ⟨by rw [hk2.2,hr];simp,by rw [YN];omega⟩
   ·show (rest.drop (q.length+1)).length<rest.length;rw [YN];omega
   ·exact .nil
   ·exact .blk rfl (fun j hj=>by obtain rfl:j=0:=O;exact I) (.same .nil)
  ·refine ⟨_,_,rfl,I,?_⟩
   refine U 3000500030005000300070009000530 ?_
   exact bV (.inl rfl) _ _ [1] jD rfl (cM rfl) (.inr rfl)

theorem aa.nilO {i k:Nat}:aa (.c (.slice none 0 0)) (.os i none 0 0 k):=fun al St w v h=>⟨rfl,h⟩
theorem yK (c:UInt8):∀ l:Z,(aU c l).length≤l.length+1
 | []=>by simp [aU]
 | x::l=>by
  have ih:=yK c l
  rw [aU]
  split
  ·simp;omega
  ·have h:∀ ls:YD,ls≠[]→(nl x ls).length=ls.length:=fun ls h=>by cases ls <;> simp_all [nl]
   rw [h _ (pK c l)]
   simp;omega
theorem r8 {c:UInt8}:∀ {l p:Z},p ∈ aU c l→p.length≤l.length
 | [],p,h=>by simp [aU] at h;simp [h]
 | x::l,p,h=>by
  rw [aU] at h
  split at h
  ·rcases Zg.1 h with rfl|h
   ·simp
   ·have:=r8 h;simp;omega
  ·cases hs:aU c l with
   | nil=>exact absurd hs (pK c l)
   | cons q r =>
    rw [hs,nl] at h
    rcases Zg.1 h with rfl|h
    ·have:=r8 (c:=c) (l:=l) (p:=q) (by rw [hs];exact Y2 ..)
     simp;omega
    ·have:=r8 (c:=c) (l:=l) (p:=p) (by rw [hs];exact Y7 _ h)
     simp;omega
theorem mS {α:Type} {l:List α} {k:Nat} (d:α) (h:k<l.length):l.take (k+1)=l.take k++[l.getD k d]:=by
 rw [YO h]
 simp [List.getD,h]
theorem eO {α:Type} {l:List α} {k:Nat} (d:α) (h:k<l.length):l.getD k d ∈ l:=by
 simp [List.getD,h]
theorem IP {s:Z} (h:(aU 46 s).all Gy=false):(bH s).1=[]∧(bH s).2=4:=by
 unfold bH;rw [YF h];exact ⟨rfl,rfl⟩
theorem CN {s:Z} (h:(aU 46 s).all Gy=true) (h2:dj ((aU 46 s).map s8)=false):(bH s).1=[]∧(bH s).2=1:=by
 unfold bH;rw [YE (by simp [h]),YF h2];exact ⟨rfl,rfl⟩
theorem EP {s:Z} (h:(aU 46 s).all Gy=true) (h2:dj ((aU 46 s).map s8)=true):(bH s).1=(aU 46 s).map s8∧(bH s).2=0:=by
 unfold bH;rw [YE (by simp [h]),YE (by simp [h2])];exact ⟨rfl,rfl⟩
theorem lB {α:Type} {p:α→Bool} {l:List α} {k:Nat} (d:α) (h:k<l.length) (hp:p (l.getD k d)=false):l.all p=false:=by
 cases e:l.all p with
 | false=>rfl
 | true =>
  have:=Y8.1 e _ (eO d h)
  rw [hp] at this;cases this
theorem IU (s:Z) (hs:s.length≤1000000000):cc gs Tryz.prog 195 [an s] (.tup 2 (fl [Ju (bH s).1,.err (bH s).2])):=by
 have hpl:=yK 46 s
 refine aj 33 Tryz.func195 fun al w0 F0 St0=>?_;refine dP ?_
 refine au (cl (n:=1) Kq rfl fun p1=>?_)
 refine au (cl (n:=1) VJ rfl fun p2=>?_)
 refine U 65 ?_
 refine au (cl (n:=1) Kq rfl fun p3=>?_)
 refine U 1675 ?_
 refine au (ry (Ce s 46) ?_)
 rintro _ _ ⟨gS,rfl,rfl⟩
 refine U 205 ?_;refine jE (eE 0 (m:=1) (F:=fun _=>.c (.slice none 0 0)) rfl (YG _) (fun _=>rfl) (fun j hj=>by obtain rfl:j=0:=O;exact I)) ?_;refine jE (eE 1 (m:=1) (F:=fun _=>.c .nilIface) rfl (YG _) (fun _=>rfl) (fun j hj=>by obtain rfl:j=0:=O;exact I)) ?_;refine jE (eE 2 (m:=1) (F:=fun _=>.os 3 none 0 0 1) rfl (YG _) (fun _=>rfl) (fun j hj=>by obtain rfl:j=0:=O;exact aa.nilO)) ?_;refine jE (gL (qC [])) ?_;refine xy (π:=List Int×Option Nat) (q:=List Int×Option Nat) ((aU 46 s).length) (fun k=>[an ((aU 46 s).getD k [])]) ([(gS,.blk 1 (fun _=>an s))]) (fun (X,ga)=>[(p1,.blk 1 (fun _=>.c (.slice none 0 0))),(p2,.blk 1 (fun _=>.c .nilIface)),(p3,.blk 1 (fun _=>.os 3 ga 0 X.length 1)),(ga,.blk X.length (qC X))]) (fun k (X,ga)=>X=((aU 46 s).take k).map s8∧((aU 46 s).take k).all Gy=true) (fun (X,ga)=>[(p1,.blk 1 (fun _=>.c (.slice none 0 0))),(p2,.blk 1 (fun _=>.err 4)),(p3,.blk 1 (fun _=>.os 3 ga 0 X.length 1)),(ga,.blk X.length (qC X))]) (fun c _=>c=.ret∧(aU 46 s).all Gy=false) (([],none)) [3,0,1,2,4] rfl rfl (by kernel_rfl) (Lr s 46 gS O) (⟨rfl,rfl⟩) jD rfl (fun _ _=>rfl) rfl ?_ ?_ ?_
 ·intro k hk l al2 w2 F2 S2 R0 R1
  rintro ⟨X,ga⟩ ⟨hX,hall⟩
  have hXl:X.length≤k:=by rw [hX,Zy,YS];omega
  have hpp:=r8 (eO (l:=aU 46 s) [] hk)
  refine U 51200 ?_;refine uN ?_;refine U 1620 ?_
  refine au (ar (PK ((aU 46 s).getD k [])) ?_)
  refine U 15000001675119009001 ?_;refine aK 18 (fun g34=>?_) fun g34=>?_
  ·refine U 790005100000000444 ?_;refine lL (.rd 0 (.one 1 (.one 2 .done))) ?_;refine iX (cK 3) ?_
   refine lK (aA 1 ?_)
   refine lK (aA 1 ?_)
   refine U 5000300070008700000 ?_;refine pQ ((X,ga)) ?_ rfl ?_
   ·exact ⟨rfl,lB [] hk (by unfold Gy;(simp_all;done))⟩
   ·exact .blk rfl (fun j hj=>by obtain rfl:j=0:=O;exact I) (.blk rfl (fun j hj=>by obtain rfl:j=0:=O;exact I) (.same (.same (.same .nil))))
  refine U 55002400001 ?_;refine ap (fun h34=>?_) fun h34=>?_
  ·refine gY ?_;refine lL (.rd 0 (.one 1 (.one 2 .done))) ?_;refine iX (cK 3) ?_
   refine lK (aA 1 ?_)
   refine lK (aA 1 ?_)
   refine U 5000300070008700000 ?_;refine pQ ((X,ga)) ?_ rfl ?_
   ·exact ⟨rfl,lB [] hk (by unfold Gy;(simp_all;omega))⟩
   ·exact .blk rfl (fun j hj=>by obtain rfl:j=0:=O;exact I) (.blk rfl (fun j hj=>by obtain rfl:j=0:=O;exact I) (.same (.same (.same .nil))))
  refine U 150200810 ?_
  refine au (aY 1 1 uh fun p4=>?_)
  refine aq (aF pP (l2:=[s8 ((aU 46 s).getD k [])]) rfl rfl rfl rfl (by exact ZR (Ze _)) (fun _ _=>I) (aW rfl (.inl rfl) jD) rfl (Br (.cons (cI (rfl)) .nil)) Tryz.underlying106 sd PZ uh So rfl (by (simp;omega)) (by (simp;omega)) (bC rfl rfl) rfl rfl (Ze _) (fun p5=>?_))
  refine aq (aA 1 ?_)
  refine U 4005 ?_;refine rc ((X++[s8 ((aU 46 s).getD k [])],p5)) ?_ rfl ?_
  ·exact ⟨by rw [hX,mS [] hk,Z3];rfl,by rw [mS [] hk,aTx,hall];simp only [Z6,List.all_nil,Bool.and_true,Zr,Gy];(simp_all;omega)⟩
  ·exact .same (.same (.blk rfl (fun j hj=>by obtain rfl:j=0:=O;exact I) (.same (.same .nil))))
 ·rintro ⟨X,ga⟩ ⟨hX,hall⟩
  rw [Za] at hX hall
  refine U 50678400 ?_;refine aI (freeze 3 rfl) ?_;refine aI (oV 28 X rfl rfl rfl (ZO (YG _)) (fun j hj=>I)) ?_
  refine au (ar (zb X) ?_)
  refine U 530 ?_;refine ap (fun h39=>?_) fun h39=>?_
  ·refine gY ?_;refine lL (.rd 0 (.one 1 (.one 2 .done))) ?_;refine iX (cK 0) ?_
   refine lK (aA 1 ?_)
   refine lK (aA 1 ?_)
   refine U 8700000 ?_
   refine jR (kq (eA (hres:=bB rfl uY uY) (hv:=?_)))
   have hb:=CN hall (by rw [← hX];simpa using h39)
   exact cT (aa.nilS' (by rw [hb.1];rfl)) (aa.errN hb.2)
  refine U 506810 ?_;refine aI (oV 32 X rfl rfl rfl (ZO (YG _)) (fun j hj=>I)) ?_
  refine aq (aA 1 ?_)
  refine aq (aA 1 ?_)
  refine U 5 ?_
  refine jR (eA (hres:=bB rfl uY uY) (hv:=?_))
  have hb:=EP hall (by rw [← hX];simpa using h39)
  exact cT (show aa (Ju X) _ from aa.of_eq (by rw [hb.1,hX])) (aa.nilE hb.2)
 ·rintro _ ⟨X,ga⟩ ⟨rfl,hbad⟩
  refine .inl ⟨rfl,?_⟩
  refine Jq (kq (eA (hres:=bB rfl uY uY) (hv:=?_)))
  have hb:=IP hbad
  exact cT (aa.nilS' (by rw [hb.1];rfl)) (aa.errN hb.2)


theorem CO {s:Z} (h:(bH s).2=0):dj (bH s).1=true:=(ph (s:=s) (l:=(bH s).1) (by rw [← h])).1
theorem Ls {l:List Int} {i:Nat} (h:i<(l.drop 2).length):(((l.drop 2).take (i+1)).map fun n=>fM n.toNat).flatten=(((l.drop 2).take i).map fun n=>fM n.toNat).flatten++fM (l.getD (2+i) 0).toNat:=by
 rw [mS 0 h,Z3,ZY]
 simp [List.getD]
theorem rT {l:List Int} (h:∀ n ∈ l,0≤n∧n≤2147483647):((l.map fun n=>fM n.toNat).flatten).length≤5 * l.length:=by
 induction l with
 | nil=>simp
 | cons a l ih =>
  have h1:=o0 (n:=a.toNat) (by have:=h a (by simp);omega)
  have h2:=ih fun n hn=>h n (by simp [hn])
  simp at h2 ⊢
  omega
theorem Q3 (s:Z) (hs:s.length≤1000000000):cc gs Tryz.prog 156 [an s] (.tup 2 (fl [aV (ja s),.err (bH s).2])):=by
 refine aj 39 Tryz.func156 fun al w0 F0 St0=>?_;refine U 165116 ?_
 refine au (ar (IU s hs) ?_)
 refine U 55000001675119009001 ?_;refine ap (fun h70=>?_) fun h70=>?_
 ·refine U 51116 ?_
  refine jR (kq (eA (hv:=cT (aa.nilS' (by unfold ja;rw [jK];rfl)) I)))
 refine U 7810 ?_
 obtain ⟨hl2,hl16,hall,ha,hb⟩:=kk (CO (s:=s) O)
 obtain ⟨l,hl⟩:∃ l,(bH s).1=l:=⟨_,rfl⟩
 rw [hl] at hl2 hl16 hall ha hb ⊢
 have h0:=hall _ (eO (l:=l) (k:=0) 0 O)
 have h1:=hall _ (eO (l:=l) (k:=1) 0 O)
 refine dY (.rd 0 (.rd 1 (.rd 2 (.rd 3 (.rd 4 (.rd 5 (.rd 6 (.rd 7 (.one 8 (.rd 9 .done)))))))))) ?_;refine U 70 ?_;refine aM (dU (i:=0)) ?_;refine U 703000070000 ?_;refine aM (dU (i:=1)) ?_;refine U 3000070000 ?_
 refine ir (Bm (vY (40 * l.getD 0 0+l.getD 1 0).toNat O) (fun p1=>?_) (ho:=rfl) (he:=(.cons (se rfl (cI O)) .nil)))
 refine U 16788070 ?_;refine jq (Jl (hl:=(cw rfl (show (2:Int)=((2:Nat):Int) from rfl))) (hu:=(bG _ _))) ?_;refine U 20513 ?_;refine ax (α:=Nat×Z×Option Nat) [6,8,29,30,31,32,33,34,35,36,37] (fun (i,o,g)=>[(6,.os 0 g 0 o.length 1),(29,.c (.int .i64 (i:Nat)))]) (fun (i,o,g)=>[(g,.blk o.length (bc o))]) (fun (i,o,g)=>i≤l.length-2∧o=fM (40 * l.getD 0 0+l.getD 1 0).toNat++(((l.drop 2).take i).map fun n=>fM n.toNat).flatten) (fun (i,o,g)=>l.length-i) ((0,fM (40 * l.getD 0 0+l.getD 1 0).toNat,p1)) ?_ (fun _=>rfl) ?_ ?_ ?_
 ·exact ⟨YT _,by simp⟩
 ·exact .cons I (.cons I .nil)
 ·exact .same .nil
 ·rintro ⟨i,o,g⟩ ⟨(hi:i≤l.length-2),ho⟩
  have hol:o.length≤5+5 * i:=by
   rw [ho,YI]
   have e1:=o0 (n:=(40 * l.getD 0 0+l.getD 1 0).toNat) O
   have e2:=rT (l:=(l.drop 2).take i) (fun n hn=>hall n (bZx (bnx hn)))
   rw [YS,YN] at e2
   omega
  refine U 7526 ?_;refine ap (fun h74=>?_) fun h74=>?_
  rotate_left
  ·refine U 5111684000200020006000 ?_;refine jE (freeze 0 rfl) ?_;refine jE (ia 2 (o) rfl rfl (by rfl) rfl) ?_;refine U 80007000 ?_
   refine cT (aa.bs ?_) (aa.nilE O)
   unfold ja
   rw [jP,hl,ho,Y0 (by rw [YN];omega)]
   rfl
  refine U 51607006207810 ?_
  have h3:=hall _ (eO (l:=l) (k:=2+i) 0 O)
  have h4:=o0 (n:=(l.getD (2+i) 0).toNat) O
  refine U 11200 ?_
  refine au (Bm (vY (l.getD (2+i) 0).toNat O) (fun p2=>?_) (ho:=rfl) (he:=(.cons (se rfl (cI O)) .nil)))
  refine aq (aR rfl rfl rfl (YG _) (fun _ _=>I) (aW rfl (.inl rfl) O) rfl (fun j hj=>by rw [Nat.zero_add];exact I) Tryz.underlying23 fY ix er mx rfl O (fun j hj=>rfl) rfl rfl (fun p3=>?_))
  refine U 8519200840051 ?_
  refine aw ((i+1,o++fM (l.getD (2+i) 0).toNat,p3)) ?_ ?_ (h5:=?_) (h7:=?_)
  ·exact ⟨by omega,by rw [ho,Ls (by rw [YN];omega),Zb]⟩
  ·show l.length-(i+1)<l.length-i;omega
  ·exact .cons I (.cons (cI O) .nil)
  ·exact .same .nil
theorem A4 (s:Z):(ja s).length≤100:=by
 unfold ja
 split
 ·rename_i h
  obtain ⟨hl2,hl16,hall,ha,hb⟩:=kk (CO h)
  unfold CI
  have h0:=hall _ (eO (l:=(bH s).1) (k:=0) 0 O)
  have h1:=hall _ (eO (l:=(bH s).1) (k:=1) 0 O)
  have e1:=o0 (n:=(40 * (bH s).1.getD 0 0+(bH s).1.getD 1 0).toNat) O
  have e2:=rT (l:=(bH s).1.drop 2) (fun n hn=>hall n (bZx hn))
  rw [YN] at e2
  rw [YI]
  omega
 ·simp
end
end Am
end Go.Proofs.YtghminnpfnkbjaaGreatDoor
namespace Go.Proofs.YtghminnpfnkbjaaGreatDoor
set_option linter.unusedVariables false
open Go.RowKit Go.ChangeShapes

def oC (x:String×DataW Unit):Bool:=match x.2 with
 | .iface nm (.ptr (.agg [.lit (.string _)])) => nm == "*errors.errorString"
 | _=>false
theorem Js {x : String × DataW Unit} (h : oC x = true) : ∃ text, x.2 = .iface "*errors.errorString" (.ptr (.agg [.lit (.string text)])) := by
 obtain ⟨n,d⟩:=x
 unfold oC at h
 dsimp only at h ⊢
 split at h
 ·exact ⟨_,by rw [eq_of_beq h]⟩
 ·cases h

theorem zE {P:Program} {W:World} {nm:String} {ti tp te ts:TypeId} {ms:Array (String×TypeId)} {f:Field}
  (hi:P.underlying ti=some (.interface ms)) (hrow:∀ u,P.typeName? 3 u=some nm→u=tp)
  (hp:P.underlying tp=some (.pointer te)) (he:P.underlying te=some (.struct #[f])) (hft:f.type=ts) (hfo:f.offset=0) (hs:P.underlying ts=some .string) (hc:P.cellsOf te=1) (hcs:P.cellsOf ts=1) :
  ∀ (L:List (String×DataW Unit)) (ps:List MemPlace),DataW.LaidVars P W L ps →
   (∀ b off,MemPlace.cell b off ∈ ps→(∃ c t,W.heap[b]?=some (.cells c t (0,0)))∧∀ u v,W.cell? ⟨b,off,none⟩=some (.iface u v)→Value.okWide P W .any 0 u v)→ps.Nodup →
   (∀ x ∈ L,oC x=true→(∃ text,x.2=.iface nm (.ptr (.agg [.lit (.string text)])))∧∀ g,P.globalNamed x.1=some g→(P.globals[g]?).map (·.type)=some ti) →
   ∃ al:List Addr,al.length=(L.filter oC).length∧al.Nodup∧(∀ a ∈ al,a.spot=none∧MemPlace.cell a.block a.off ∈ ps) ∧
    ∀ (i:Nat) (x:String×DataW Unit) (a:Addr),(L.filter oC)[i]?=some x→al[i]?=some a→∃ g,P.globalNamed x.1=some g∧W.cell? ⟨g,0,none⟩=some (.iface tp (.pointer (some a)))
 | [],ps,_,_,_,_=>⟨[],rfl,bUx,by simp,by simp⟩
 |(n,d)::r,ps,hv,hrows,hnd,hL=>by
  obtain ⟨g,t,cs,fuel,p,q,hg,ht,hvar,hd,hrest,rfl⟩:=hv
  have hnq:q.Nodup:=List.Nodup.sublist (List.sublist_append_right _ _) hnd
  obtain ⟨al,h1,h2,h3,h4⟩:=zE hi hrow hp he hft hfo hs hc hcs r q hrest (fun b off hm=>hrows b off (aux _ hm)) hnq (fun x hx=>hL x (Y7 _ hx))
  by_cases hE:oC (n,d)=true
  case neg =>
   have hE:oC (n,d)=false:=by simpa using hE
   rw [List.filter_cons_of_neg (by simp [hE])]
   exact ⟨al,h1,h2,fun a ha=>⟨(h3 a ha).1,aux _ (h3 a ha).2⟩,h4⟩
  obtain ⟨⟨text,hx⟩,hty⟩:=hL (n,d) (Y2 ..) hE
  rw [List.filter_cons_of_pos hE]
  simp only at hx
  subst hx
  obtain rfl:=Y9 ((hty g hg).symm.trans ht)
  obtain ⟨l⟩:=cs
  have hcell0:∀ v,l=[v]→W.cell? ⟨g,0,none⟩=some v:=fun v e=>by
   subst e
   simpa using World.var?_cell hg hvar 0
  obtain ⟨a,s,rfl,ha,_,_,rfl⟩:=errorString_of_trod hi hrow hp he hft hfo hs hc hcs hd (fun u v e=>by
   simp only at e
   subst e
   exact (hrows g 0 (by simp [MemPlace.row])).2 u v (hcell0 _ rfl))
  have hsp:a.spot=none:=World.cell?_spot ha
  have hpl:MemPlace.cell a.block a.off ∈ MemPlace.row a 1:=by simp [MemPlace.row]
  refine ⟨a::al,by simp [h1],aQx.2 ⟨fun hm=>?_,h2⟩,?_,?_⟩
  ·have hq:=(h3 a hm).2
   have:=(List.nodup_append.1 hnd).2.2 (MemPlace.cell a.block a.off) (aux _ hpl) _ hq
   exact this rfl
  ·intro b hb
   rcases Zg.1 hb with rfl|hb
   ·exact ⟨hsp,List.mem_append_left _ (aux _ hpl)⟩
   ·exact ⟨(h3 b hb).1,aux _ (h3 b hb).2⟩
  ·intro i x b hi' hb
   match i,hi',hb with
   | 0,hi',hb =>
    simp only [ZK,Zi] at hi' hb
    subst hi'
    subst hb
    exact ⟨g,hg,hcell0 _ rfl⟩
   | i+1,hi',hb=>exact h4 i x b (by simpa using hi') (by simpa using hb)

theorem P5 (u : TypeId) (h : Tryz.prog.typeName? 3 u = some "*errors.errorString") : u = 338 := by
 have e : "*errors.errorString" = "*" ++ "errors.errorString" := by decide +kernel
 exact typeName_ptr_named (nm := "errors.errorString") (by rw [← e]; kernel_rfl) (by kernel_rfl) jD u (by rw [← e]; exact h)
theorem OW:Tryz.prog.cellsOf 360=1:=by kernel_rfl
theorem OV:Tryz.prog.cellsOf 9=1:=by kernel_rfl

theorem AI {W:World} {L:List (String×DataW Unit)} {g0:List Nat} (h:laidMetH Tryz.prog L W) (h1:(L.all fun x=>x.2.handleName?.isNone)=true)
  (h3:((L.filter oC).map fun x=>Tryz.prog.globalNamed x.1)=(nk g0).map some) (h4:((nk g0).map fun g=>(Tryz.prog.globals[g]?).map (·.type))=List.replicate (nk g0).length (some 37))
  (ht:uV ∈ pn g0→uU ∈ pn g0→Lib.Utf8Tabs uV uU W) (hAB:((pn g0).contains uV)=((pn g0).contains uU))
  (hX:∀ t ∈ oH,t.1 ∈ pn g0→∀ (i:Nat) (v:Value),t.2[i]?=some v→W.cell? ⟨t.1,i,none⟩=some v):∃ al,gc W g0 al:=by
 rw [MakeChecks.laidMetH_plain _ _ _ h1] at h
 obtain ⟨ps,hv,hnd,hrows⟩:=h
 have hlen:(L.filter oC).length=(nk g0).length:=by simpa using Y3 List.length h3
 have hgl:∀ (i:Nat) (x:String×DataW Unit),(L.filter oC)[i]?=some x→∃ g,(nk g0)[i]?=some g∧Tryz.prog.globalNamed x.1=some g:=by
  intro i x hx
  have:=Y3 (fun l=>l[i]?) h3
  simp only [ZB,hx,awx] at this
  obtain ⟨g,hg,e⟩:=YM.1 this.symm
  exact ⟨g,hg,e.symm⟩
 obtain ⟨al,l1,l2,l3,l4⟩:=zE Tryz.underlying37 P5 Tryz.underlying338 Tryz.underlying360 rfl rfl Tryz.underlying9 OW OV L ps hv hrows hnd
  (fun x hx hE=>⟨Js hE,fun g hg=>by
   obtain ⟨i,hi⟩:=aVx.1 (bsx.2 ⟨hx,hE⟩)
   obtain ⟨g',hg',e⟩:=hgl i x hi
   obtain rfl:=Y9 (e.symm.trans hg)
   have:=Y3 (fun l=>l[i]?) h4
   simp only [ZB,hg',awx] at this
   have hlt:i<(nk g0).length:=(YJ.1 hg').1
   rw [ZL,YF hlt] at this
   exact Y9 this⟩)
 have hvar:∀ i g,(nk g0)[i]?=some g→W.cell? ⟨g,0,none⟩=some (ev al (i+1)):=by
  intro i g hg
  have hlt:i<(nk g0).length:=(YJ.1 hg).1
  obtain ⟨x,hx⟩:∃ x,(L.filter oC)[i]?=some x:=⟨(L.filter oC)[i],YR O⟩
  obtain ⟨a,ha⟩:∃ a,al[i]?=some a:=⟨al[i],YR O⟩
  obtain ⟨g',hg',e⟩:=hgl i x hx
  obtain rfl:=Y9 (hg.symm.trans hg')
  obtain ⟨g2,e2,hc⟩:=l4 i x a hx ha
  obtain rfl:=Y9 (e.symm.trans e2)
  rw [hc]
  simp [ev,ha]
 refine ⟨al,by omega,fun i j g g' hi _ hj _ e=>(bzx (by have:=(YJ.1 hi).1;omega) l2).1 e,fun i g hi _=>hvar i g hi,fun a ha=>(hrows a.block a.off (l3 a ha).2).1,ht,hX,fun g hg=>?_⟩
 by_cases hTX:(oH.any fun t=>Nat.beq g t.1)=true
 ·obtain ⟨t,ht1,ht2⟩:=aIx.1 hTX
  have ht2:=Zm ht2
  subst ht2
  have hne:∀ t ∈ oH,∃ v,t.2[0]?=some v:=by
   intro t ht
   simp only [oH,Zg,Zo,or_false] at ht
   rcases ht with rfl|rfl <;> exact ⟨_,rfl⟩
  obtain ⟨v,hv⟩:=hne t ht1
  exact World.block_lt_of_cell? W _ (hX t ht1 hg 0 v hv)
 by_cases hT:(Nat.beq g uV || Nat.beq g uU)=true
 ·have hc:uV ∈ pn g0∧uU ∈ pn g0:=by
   rcases a2x.1 hT with e|e
   ·have:=Zm e
    subst this
    have h5:(pn g0).contains uV=true:=atx.2 hg
    exact ⟨hg,atx.1 (hAB ▸ h5)⟩
   ·have:=Zm e
    subst this
    have h5:(pn g0).contains uU=true:=atx.2 hg
    exact ⟨atx.1 (hAB.symm ▸ h5),hg⟩
  have hU:=ht hc.1 hc.2
  rcases a2x.1 hT with e|e
  ·have:=Zm e
   subst this
   exact World.block_lt_of_cell? W _ (hU.1 0 jD)
  ·have:=Zm e
   subst this
   exact World.block_lt_of_cell? W _ (hU.2 0 jD).1
 ·have hm:g ∈ nk g0:=bsx.2 ⟨(si.1 hg).1,by
   cases hb:NB g with
   | true =>
    unfold NB at hb
    rcases a2x.1 hb with hb|hb
    ·exact absurd hb hT
    ·exact absurd hb hTX
   | false=>rfl⟩
  obtain ⟨i,hi⟩:=aVx.1 hm
  exact World.block_lt_of_cell? W _ (hvar i g hi)
theorem FH {P:Program} {W:World} {T E:TypeId} {ao:Option Addr} {len cap:Nat} {H:Type} {enc:TypeId×Value→H} {d:DataW H} {ps:List MemPlace}
  (hT:P.underlying T=some (.slice E)) (hE:P.underlying E=some (.int .u8)) (hc:P.cellsOf E=1)
  (h:DataW.Trod enc P W 0 (fun _=>true) true T (.slice ao len cap) d ps):∃ l,Bs W (.slice ao len cap) l:=by
 obtain ⟨fuel,hf⟩:=h
 rcases open_ints hT hE hc hf with ⟨hcs,_⟩|⟨x,l,c,zs,hcs,_,hl,hm,hz,_,hcell,hwz⟩
 ·simp [Value.cells] at hcs
  obtain ⟨rfl,rfl,rfl⟩:=hcs
  exact ⟨[],Bs.nil W⟩
 ·simp [Value.cells] at hcs
  obtain ⟨rfl,rfl,rfl⟩:=hcs
  have hz':zs.length=cap:=by simpa using hz
  have hlen:((zs.take len).map fun z=>UInt8.ofNat z.toNat).length=len:=by simp;omega
  have key:∀ i,i<len→W.cell? (x.add i)=some (.int .u8 ((((zs.take len).map fun z=>UInt8.ofNat z.toNat).getD i 0).toNat:Nat)):=by
   intro i hi
   rw [hcell i O]
   have hzi:zs[i]?=some (zs.getD i 0):=by simp [List.getD,show i<zs.length by omega]
   have hwf:=hwz (zs.getD i 0) (ZF hzi)
   have hb:=bounds_u8 hwf
   have e:((zs.take len).map fun z=>UInt8.ofNat z.toNat).getD i 0=UInt8.ofNat (zs.getD i 0).toNat:=by
    simp [List.getD,hi,show i<zs.length by omega]
   rw [e,YY]
   congr 2
   omega
  obtain ⟨b,o,sp⟩:=x
  have hm':cap≤9223372036854775807:=by unfold maxLen at hm;omega
  by_cases h0:len=0
  ·subst h0
   exact ⟨[],_,cap,rfl,by simp,hm',by simp,fun y hy=>by
    cases hy
    exact ⟨fun h=>by simp at h,fun i hi=>by simp at hi⟩⟩
  ·have hsp:sp=none:=by
    have:=World.cell?_spot (key 0 O)
    simpa [Addr.add] using this
   subst hsp
   refine ⟨(zs.take len).map fun z=>UInt8.ofNat z.toNat,?_⟩
   have:=Bs.of_cells (w:=W) (b:=b) (o:=o) (cap:=cap) (l:=(zs.take len).map fun z=>UInt8.ofNat z.toNat) O hm' (fun i hi=>by
    have:=key i O
    rwa [Addr.add_lit] at this)
   rwa [hlen] at this
end Go.Proofs.YtghminnpfnkbjaaGreatDoor
namespace Go.Proofs.YtghminnpfnkbjaaGreatDoor
set_option linter.unusedVariables false
open Go.RowKit Go.ChangeShapes
def Eu:Go.Shelf.Ren:=⟨fun n=>n,fun|5=>5|119=>300|138=>302|139=>303|n=>n,fun|3=>30|4=>31|n=>n⟩
theorem KS:U8Types Tryz.prog Eu where
 t5:=Tryz.underlying5
 t119:=Tryz.underlying300
 t138:=Tryz.underlying302
 t139:=Tryz.underlying303
theorem KT:U8Extra Tryz.prog Eu where
 n3:=by kernel_rfl
 n4:=by kernel_rfl
 y3:=by kernel_rfl
 y4:=by kernel_rfl
 c5:=by kernel_rfl
 c119:=by kernel_rfl
 c138:=by kernel_rfl
theorem Ay {W : World} {L : List (String × DataW Unit)} (h : laidMetH Tryz.prog L W) (h1 : (L.all fun x => x.2.handleName?.isNone) = true) {i j : Nat} (hi : L[i]? = some ("unicode/utf8.first", Lib.firstData)) (hj : L[j]? = some ("unicode/utf8.acceptRanges", Lib.acceptData)) : Lib.Utf8Tabs uV uU W := by
 rw [MakeChecks.laidMetH_plain _ _ _ h1] at h
 obtain ⟨ps,hv,hnd,hrows⟩:=h
 exact utf8Tabs_of_readsT (ρ:=Eu) KS KT (Lib.LaidVars_reads hv _ _ (ZF hi)) (Lib.LaidVars_reads hv _ _ (ZF hj))
end Go.Proofs.YtghminnpfnkbjaaGreatDoor
namespace Go.Proofs.YtghminnpfnkbjaaGreatDoor
set_option linter.unusedVariables false
open Go.RowKit Go.ChangeShapes
def VY:Go.Shelf.Ren:=⟨fun|196=>238|259=>252|n=>n,fun|0=>0|3=>3|4=>4|5=>5|9=>9|12=>12|46=>35|53=>259|119=>300|138=>302|139=>303|n=>n,fun|3=>30|4=>31|n=>n⟩
theorem TF:Go.Proofs.Lays.n196 Tryz.prog VY:={
 mixed:=by kernel_rfl
 f196:=Tryz.func238.trans (Y3 some (by kernel_rfl))
 f259:=Tryz.func252.trans (Y3 some (by kernel_rfl))
 t0:=Tryz.underlying0
 a0:=Tryz.isAgg0
 z0:=Tryz.sizeOf0
 v0:=Tryz.zeroValue0
 t3:=Tryz.underlying3
 a3:=Tryz.isAgg3
 z3:=Tryz.sizeOf3
 v3:=Tryz.zeroValue3
 t4:=Tryz.underlying4
 a4:=Tryz.isAgg4
 z4:=Tryz.sizeOf4
 v4:=Tryz.zeroValue4
 t5:=Tryz.underlying5
 a5:=Tryz.isAgg5
 z5:=Tryz.sizeOf5
 v5:=Tryz.zeroValue5
 t9:=Tryz.underlying9
 a9:=Tryz.isAgg9
 z9:=Tryz.sizeOf9
 v9:=Tryz.zeroValue9
 t12:=Tryz.underlying12
 a12:=Tryz.isAgg12
 z12:=Tryz.sizeOf12
 v12:=Tryz.zeroValue12
 t46:=Tryz.underlying35
 a46:=Tryz.isAgg35
 z46:=Tryz.sizeOf35
 v46:=Tryz.zeroValue35
 t53:=Tryz.underlying259
 a53:=Tryz.isAgg259
 z53:=Tryz.sizeOf259
 v53:=Tryz.zeroValue259
 t119:=Tryz.underlying300
 a119:=Tryz.isAgg300
 z119:=Tryz.sizeOf300
 t138:=Tryz.underlying302
 a138:=Tryz.isAgg302
 z138:=Tryz.sizeOf302
 v138:=Tryz.zeroValue302
 t139:=Tryz.underlying303
 a139:=Tryz.isAgg303
 z139:=Tryz.sizeOf303
 v139:=Tryz.zeroValue303
 g3:=by kernel_rfl
 g4:=by kernel_rfl }
namespace Am
class qI (l:List Nat):Prop where
 a:uV ∈ pn l
 b:uU ∈ pn l
instance okTT:qI XL:=⟨by decide,by decide⟩
theorem KD {gs:List Nat} [qI gs] (l:Z) (hl:l.length≤9223372036854775807):cc gs Tryz.prog 238 [an l] (.c (.bool (Lib.validD l))) :=
 ot fun al w St vals hs hv hr=>by
  have h0:vals.getD 0 undef=.string ⟨l.toArray⟩:=hr 0
  rw [KC hv,h0]
  exact Any.utf8_ValidString TF ⟨l.toArray⟩ w hl (hs.tab qI.a qI.b)
end Am
end Go.Proofs.YtghminnpfnkbjaaGreatDoor
namespace Go.Proofs.YtghminnpfnkbjaaGreatDoor
set_option linter.unusedVariables false
namespace Am
open Go.RowKit
section
open Go.RowKit Go.Lib
def gO (b n c least:Nat):Prop :=
 (n=0∧c=b∧least=0∧b<128∧32≤b∧b≠127)∨(n=1∧c+192=b∧least=128∧b<224)∨(n=2∧c+224=b∧least=2048∧b<240)∨(n=3∧c+240=b∧least=65536∧b<248)
def cR (d:Z) (c0:Nat):Nat→Nat
 | 0=>c0
 | j+1=>cR d c0 j * 64+bt d (j+1)-128
theorem WT {d:Z} {c0 j:Nat} (hj:j≤3) (h0:c0<128) (h:∀ q,1≤q→q≤j→128≤bt d q∧bt d q≤191):cR d c0 j<33554432∧(j≤2→cR d c0 j<524288):=by
 have h1:=h 1 O
 have h2:=h 2 O
 have h3:=h 3 O
 have e0:cR d c0 0=c0:=rfl
 have e1:cR d c0 1=c0 * 64+bt d 1-128:=rfl
 have e2:cR d c0 2=(c0 * 64+bt d 1-128) * 64+bt d 2-128:=rfl
 have e3:cR d c0 3=((c0 * 64+bt d 1-128) * 64+bt d 2-128) * 64+bt d 3-128:=rfl
 have hj4:j=0∨j=1∨j=2∨j=3:=by omega
 rcases hj4 with e|e|e|e <;> rw [e] <;> omega
theorem wy {d:Z} {n c least j:Nat} (hd:d≠[]) (hR:gO (bt d 0) n c least) (hj:j<n) (hl:d.length=1+j∨bt d (j+1)<128∨191<bt d (j+1)):gi d=false:=by
 refine iz hd ?_
 unfold gO at hR
 rcases hR with hR|hR|hR|hR
 ·omega
 ·rw [G9 O O,YF ?_]
  obtain rfl:j=0:=by omega
  simp only [Nat.zero_add] at hl
  omega
 ·rw [Ab O O,YF ?_]
  have:j=0∨j=1:=by omega
  rcases this with rfl|rfl <;> simp only [Nat.zero_add,Nat.reduceAdd] at hl <;> omega
 ·rw [DU O O,YF ?_]
  have:j=0∨j=1∨j=2:=by omega
  rcases this with rfl|rfl|rfl <;> simp only [Nat.zero_add,Nat.reduceAdd] at hl <;> omega
theorem rX {d:Z} {n c least:Nat} (hd:d≠[]) (hR:gO (bt d 0) n c least) (hl:1+n≤d.length) (h:∀ q,1≤q→q≤n→128≤bt d q∧bt d q≤191) :
  gi d=if cR d c n<least∨1114111<cR d c n∨(55296≤cR d c n∧cR d c n<57344) then false else gi (d.drop (1+n)):=by
 have h1:=h 1 O
 have h2:=h 2 O
 have h3:=h 3 O
 unfold gO at hR
 rcases hR with ⟨rfl,rfl,rfl,hR⟩|⟨rfl,hc,rfl,hR⟩|⟨rfl,hc,rfl,hR⟩|⟨rfl,hc,rfl,hR⟩
 ·rw [pR hd O,jK,YE (by show ¬ (bt d 0<0∨1114111<bt d 0∨(55296≤bt d 0∧bt d 0<57344));omega)]
 ·have e:cR d c 1=(bt d 0-192) * 64+bt d 1-128:=by show c * 64+bt d 1-128=_;omega
  have hd2:=G9 (l:=d) O O
  rw [e]
  by_cases hb:(bt d 0-192) * 64+bt d 1-128<128
  ·rw [YF (.inl hb)]
   exact iz hd (by rw [hd2,jP])
  ·rw [jK]
   exact wx hd (by rw [hd2,jK]) O O
 ·have e:cR d c 2=((bt d 0-224) * 64+bt d 1-128) * 64+bt d 2-128:=by show (c * 64+bt d 1-128) * 64+bt d 2-128=_;omega
  have hd2:=Ab (l:=d) O O
  obtain ⟨C,hC⟩:∃ C,C=((bt d 0-224) * 64+bt d 1-128) * 64+bt d 2-128:=⟨_,rfl⟩
  have hlt:C≤65535:=by omega
  rw [e,← hC]
  rw [← hC] at hd2
  by_cases hb:C<2048∨(55296≤C∧C<57344)
  ·rw [jP]
   exact iz hd (by rw [hd2,jP])
  ·rw [jK]
   exact wx hd (by rw [hd2,jK]) O O
 ·have e:cR d c 3=(((bt d 0-240) * 64+bt d 1-128) * 64+bt d 2-128) * 64+bt d 3-128:=by show ((c * 64+bt d 1-128) * 64+bt d 2-128) * 64+bt d 3-128=_;omega
  have hd2:=DU (l:=d) O O
  obtain ⟨C,hC⟩:∃ C,C=(((bt d 0-240) * 64+bt d 1-128) * 64+bt d 2-128) * 64+bt d 3-128:=⟨_,rfl⟩
  rw [e,← hC]
  rw [← hC] at hd2
  by_cases hb:C<65536∨1114111<C
  ·rw [jP]
   exact iz hd (by rw [hd2,jP])
  ·rw [jK]
   exact wx hd (by rw [hd2,jK]) O O
theorem qv (l:Z) (i j:Nat):bt (l.drop i) j=bt l (i+j):=by simp [bt,List.getD]
theorem Ve (l:Z) (i:Nat):Utf8.decode ⟨l.toArray⟩ i=fH (l.drop i):=by
 unfold fH
 rw [Lib.decode_at,mC,mC,mC,mC,qv,qv,qv,qv,YN]
 rfl
theorem Sj {d:Z} (hd:d≠[]):(fH d).2≤d.length:=by
 have hp:=Zh.2 hd
 unfold fH Lib.decodeN
 repeat' split
 all_goals first|(simp only;omega)|omega
end
end Am
end Go.Proofs.YtghminnpfnkbjaaGreatDoor
