/- What the law leans on, part 8: W08l, W04s, W05, W05b, W05c, W05d, W05e, Laid, Tab, V8, P07e, W07p, P07c, W07, L07, P09n, W07l, W07q, W08m, W08n, W08v -/
import Derived.Test.YthlpfjnkieaeeaaGreatDoorM7ObjectsRead
import Derived.Test.YthlpfjnkieaeeaaGreatDoorRows
import Derived.LaidLaws
import Derived.MakeChecks
import Derived.Lib.LaidU8T
import Derived.Shelf.Unicode.ValidAny

set_option maxRecDepth 100000
namespace Go.Proofs.YthlpfjnkieaeeaaGreatDoor
set_option linter.unusedVariables false
namespace Am
open Go.RowKit
section
variable {gs:List Nat} [fZ gs]

theorem Pm:ab (.c (.slice none 0 0)) (.os 0 none 0 0 1):=fun al St w v h=>⟨rfl,h⟩
theorem LQ {G:Gh} {s:AS} (d:Nat) {i off n k:Nat} (hl:look s.env s.b d=.os i none off n k):∀ a w,wd G s a w→n=0:=fun a w ⟨St,hr⟩=>by
 have:=ka hr (x:=.tmp d) hl
 exact this.1
theorem Gp {gs:List Nat} (l:List UInt8) (g:Option Nat) (hl:l.length≤100000000):AC gs Tryz.prog 131 [(g,.blk l.length (ft l))] [.os 0 g 0 l.length 1] (fun r H'=>r=bu l∧H'=[(g,.blk l.length (ft l))]):=by
 refine ai 8 Tryz.func131 fun al w0 F0 St0=>?_;refine jU 167516 ?_;refine jq (Li rfl rfl rfl Tryz.underlying22) ?_;refine jU 5 ?_;refine aq (fun h357=>?_) fun h357=>?_
 ·obtain rfl:g=none:=by cases g <;> simp at h357 ⊢
  refine kZ (LQ 0 rfl) fun hn=>?_;refine jU 30007000516 ?_
  exact bo (.inl rfl) [0] jD rfl (aA rfl (aP rfl)) (ab.nilS' hn) ⟨rfl,rfl⟩
 refine jU 6810 ?_
 refine ak (aU 0 1 f7 fun p1=>?_)
 refine jU 1 ?_
 refine ar (bC (l:=[]) rfl rfl rfl (Nat.zero_le _) (fun j hj=>absurd hj (Nat.not_lt_zero j)) (aY rfl (.inl rfl) jO) rfl (fun j hj=>by rw [Nat.zero_add];exact cZ) Tryz.underlying22 iM qi f7 rB rfl (by (simp;omega)) (fun j hj=>rfl) rfl rfl (fun p2=>?_))
 refine jU 51 ?_;refine jE (freeze 1 rfl) ?_;refine jE (kE 2 ([]++l) rfl rfl (by rfl) rfl) ?_;refine jU 7000 ?_
 exact bo (.inl rfl) [0] jD rfl (aA rfl (aP rfl)) (ab.bs (List.nil_append l)) ⟨rfl,rfl⟩
theorem Gt {gs:List Nat} (tag:Int) (ls:List (List UInt8)) (hl:ls.length≤1000000) (hs:cm ls≤10000000000):bM gs Tryz.prog 130 [.agg 2 (fl [.c (.int .i64 tag),BN ls])] (bu (k8 (tag,ls))):=by
 refine ai 12 Tryz.func130 fun al w0 F0 St0=>?_;refine cy ?_
 refine ak (cE 2 fun p1=>?_)
 refine jU 5250906751 ?_;refine aq (fun h23=>?_) fun h23=>?_
 ·refine jU 501006 ?_
  refine ak (ap (Nu ls hl hs) ?_)
  refine jU 51 ?_
  refine jR (ii (cX (hv:=ab.bs (by unfold k8;rw [if_pos h23]))))
 refine jU 501006810 ?_
 refine ak (ap (m8 ls hs hl) ?_)
 refine jU 51 ?_
 refine jR (cX (hv:=ab.bs (by unfold k8;rw [if_neg h23])))
theorem u4 (n:Nat) (s:W8) (tag:Int) (hs:wi s):AC gs Tryz.prog 54 [iO n s] [.op 0 (some n) 0,.c (.int .i64 tag)] (fun r H'=>r=.c (.tuple #[])∧H'=[iO n (dw tag s)]):=by
 have hsn:=hs.n
 refine ai 40 Tryz.func54 fun al w0 F0 St0=>?_;refine jU 20 ?_;refine jf 0 rfl fun go gd zs hzs=>?_
 have hzl:=CY hzs
 refine jU 515000005010004016 ?_;refine aq (fun h69=>?_) fun h69=>?_
 ·refine jU 40010 ?_
  have hP:dw tag s=s:=by unfold dw;rw [jP]
  rw [hP]
  exact dE (gd:=fun z:BP s.fr=>z.1.1) (E:=BK s) (.inr rfl) _ ⟨(n,go,gd,zs),hzs⟩ [0,1,2,3] jD rfl (bN rfl) ⟨rfl,rfl⟩
 refine jU 16 ?_
 refine ak (ap (tS tag) ?_)
 refine jU 5130 ?_;refine aq (fun h70=>?_) fun h70=>?_
 ·refine jU 1200 ?_;refine jq (dy 4) ?_;refine jU 100040 ?_
  refine ar (bh 1 (Dm ⟨s.fr,s.d,5⟩ 1 2 go gd) ?_ ?_)
  ·exact (fun j hj=>by rcases j with _|_|_|j <;> exact cZ)
  refine jU 4005 ?_
  have hP:dw tag s=⟨s.fr,s.d,5⟩:=by unfold dw;rw [jK,if_pos (by simp [bG] at h70 ⊢;omega)]
  rw [hP]
  exact dE (gd:=fun z:BP s.fr=>z.1.1) (E:=BK ⟨s.fr,s.d,5⟩) (.inr rfl) _ ⟨(n,go,gd,zs),hzs⟩ [0,1,2,3] jD rfl (bN rfl) ⟨rfl,rfl⟩
 refine jU 512350904016 ?_;refine aq (fun h72=>?_) fun h72=>?_
 ·refine jU 1200 ?_;refine jq (dy 5) ?_;refine jU 100040 ?_
  refine ar (bh 1 (Dm ⟨s.fr,s.d,6⟩ 1 2 go gd) ?_ ?_)
  ·exact (fun j hj=>by rcases j with _|_|_|j <;> exact cZ)
  refine jU 4005 ?_
  have hP:dw tag s=⟨s.fr,s.d,6⟩:=by unfold dw;rw [jK,if_neg (by simp [bG] at h70 ⊢;omega),jP]
  rw [hP]
  exact dE (gd:=fun z:BP s.fr=>z.1.1) (E:=BK ⟨s.fr,s.d,6⟩) (.inr rfl) _ ⟨(n,go,gd,zs),hzs⟩ [0,1,2,3] jD rfl (bN rfl) ⟨rfl,rfl⟩
 refine jE (gv (lM [])) ?_;refine jE (bag_push 3 4 rfl rfl rfl) ?_
 dsimp only [List.set_cons_zero,List.set_cons_succ,List.cons_append,List.nil_append,List.length_cons,List.length_nil,Nat.zero_add,Nat.reduceAdd]
 refine jU 150904011200 ?_;refine jq (ae (n:=2) rfl Dk Pd rfl rfl) ?_
 refine ak (aU 2 2 Dk fun p1=>?_)
 refine bg (nl 5 2 (eK 2 rH sy [((tag,[]),none)]) rfl (Nat.le_refl _) (fun j hj=>by rcases j with _|_|j <;> first|exact cZ|exact Pm|omega)) ?_
 refine ar (av (ge 2 rH sy) (l:=zs.reverse) (l2:=[((tag,[]),none)]) rfl rfl (by simp [hzl]) rfl (by simp [hzl]) (fun _ _=>cZ) (aY rfl (.inl rfl) jD) rfl (fun j hj=>by rw [Nat.zero_add];exact cZ) Tryz.underlying93 Qk O0 Dk PO rfl (by simp;omega) (by simp;omega) (fun j hj=>by rcases j with _|_|j <;> first|rfl|omega) rfl rfl rfl (fun p2=>?_))
 refine jU 9040 ?_
 refine ar (bh 1 (Dm ⟨(tag,[])::s.fr,s.d,s.k⟩ 1 2 p2 gd) ?_ ?_)
 ·exact (fun j hj=>by rcases j with _|_|_|j <;> first|exact cO (by simp [hzl])|exact cZ)
 refine jU 4005 ?_
 have hP:dw tag s=⟨(tag,[])::s.fr,s.d,s.k⟩:=by unfold dw;rw [jK,if_neg (by simp [bG] at h70 ⊢;omega),jK]
 rw [hP]
 refine C2 (H':=?H2) ?hh ?hb
 case hh=>intro _ _ _ _ _ hx;exact zj n ⟨(tag,[])::s.fr,s.d,s.k⟩ (((tag,[]),none)::zs) 0 1 2 3 (by simp [hzs]) rfl rfl rfl rfl jD (by exact cO rfl) (by exact cO rfl) (by exact cZ) (by simp [hzl]) (fun a _=>by rw [List.reverse_cons];exact cZ) (Nat.le_refl _) (fun _ _=>cZ) hx
 case hb=>exact bQ (.inr rfl) _ [_] [0] jD rfl (bN rfl) ⟨rfl,rfl⟩
theorem zQ {a b:List (List UInt8)} (h:a.Perm b):cm a=cm b:=by
 unfold cm
 exact (h.map List.length).sum_nat
theorem x8 (x:Int×List (List UInt8)):(k8 x).length=cm x.2:=by
 unfold k8
 split
 ·rw [gt];exact zQ (iW _)
 ·rw [gt]
theorem wi.tail {x:Int×List (List UInt8)} {r:List (Int×List (List UInt8))} {s:W8} (h:wi s) (hf:s.fr=x::r):wi ⟨r,s.d,s.k⟩:=⟨by have:=h.n;rw [hf] at this;simp at this ⊢;omega,fun y hy=>h.k y (by rw [hf];exact List.mem_cons_of_mem _ hy),h.d⟩
theorem sL (n:Nat) (s:W8) (hs:wi s):AC gs Tryz.prog 57 [iO n s] [.op 0 (some n) 0] (fun r H'=>r=.c (.tuple #[])∧H'=[iO n (db s)]):=by
 have hsn:=hs.n
 refine ai 45 Tryz.func57 fun al w0 F0 St0=>?_;refine jf 0 rfl fun go gd zs hzs=>?_
 have hzl:=CY hzs
 refine jU 51500000501000401620519350904016 ?_;refine aq (fun h83=>?_) fun h83=>?_
 ·refine jU 40010 ?_
  have hP:db s=s:=by unfold db;rw [jP]
  rw [hP]
  exact dE (gd:=fun z:BP s.fr=>z.1.1) (E:=BK s) (.inr rfl) _ ⟨(n,go,gd,zs),hzs⟩ [0,1,2,3] jD rfl (bN rfl) ⟨rfl,rfl⟩
 refine jU 51216 ?_;refine aq (fun h84=>?_) fun h84=>?_
 ·refine jU 1200 ?_;refine jq (dy 23) ?_;refine jU 100040 ?_
  refine ar (bh 1 (Dm ⟨s.fr,s.d,24⟩ 1 2 go gd) ?_ ?_)
  ·exact (fun j hj=>by rcases j with _|_|_|j <;> exact cZ)
  refine jU 4005 ?_
  have hf0:s.fr=[]:=List.eq_nil_of_length_eq_zero jO
  have hP:db s=⟨s.fr,s.d,24⟩:=by unfold db;rw [jK,hf0]
  rw [hP]
  exact dE (gd:=fun z:BP s.fr=>z.1.1) (E:=BK ⟨s.fr,s.d,24⟩) (.inr rfl) _ ⟨(n,go,gd,zs),hzs⟩ [0,1,2,3] jD rfl (bN rfl) ⟨rfl,rfl⟩
 obtain ⟨x,zr,rfl⟩:∃ x zr,zs=x::zr:=by
   cases zs with
   | nil=>simp at hzl;omega
   | cons x zr=>exact ⟨x,zr,rfl⟩
 have hfr:s.fr=x.1::zr.map Prod.fst:=by rw [← hzs];rfl
 have hxk:=hs.k x.1 (by rw [hfr];exact List.mem_cons_self)
 have hzl:s.fr.length=zr.length+1:=by rw [← hzl];rfl
 refine jE (bag_pop 3 rfl) ?_;refine jU 150904016 ?_;refine jq (fb (i:=(s.fr.length-1)) (hz:=by omega)) ?_;refine eL (aV 2) ?_;refine bg (freeze 4 rfl) ?_;refine bg (OY 16 4 (fun a _=>bu (x.1.2.getD a [])) (.c (.int .i64 x.1.1)) rfl rfl (by show ab (eK 2 rH sy (x::zr).reverse (0+(s.fr.length-1) * 2+0)) _;rw [rL jO hzl];exact cZ) (by show ab (eK 2 rH sy (x::zr).reverse (0+(s.fr.length-1) * 2+1)) _;rw [rL jO hzl];exact cZ) (by simp) (fun a b ha hb=>by obtain rfl:b=0:=jO;rw [Nat.zero_add,Nat.mul_one,Nat.add_zero];exact cZ)) ?_
 refine ak (bD (n:=2) Dk rfl fun p1=>?_)
 refine ar (ax 2 ?_)
 refine jU 15090401165 ?_;refine jq Od ?_;refine jU 9040 ?_;refine bg (nl 1 ((s.fr.length-1) * 2) (eK 2 rH sy zr.reverse) rfl jO (fun j hj=>by rw [yx jO];exact cZ)) ?_
 refine ar (bh 1 (Dm ⟨zr.map Prod.fst,s.d,s.k⟩ 1 2 go gd) ?_ ?_)
 ·exact (fun j hj=>by rcases j with _|_|_|j <;> first|exact cO (by simp;omega)|exact cZ)
 refine jU 5 ?_;refine jE (qh n ⟨zr.map Prod.fst,s.d,s.k⟩ zr 0 1 2 3 rfl rfl rfl rfl rfl jD (cO rfl) (cO rfl) cZ (by simp;omega) (fun _ _=>cZ) (Nat.le_refl _) (fun _ _=>cZ)) ?_
 dsimp only [List.set_cons_zero,List.set_cons_succ,List.cons_append,List.nil_append,List.length_cons,List.length_nil,Nat.zero_add,Nat.reduceAdd]
 refine jE (freeze 5 rfl) ?_;refine jE (iP 3 (m:=2) rfl rfl jD) ?_
 have hto:=hs.tail hfr
 refine py 5 (.rd 0 (.rd 1 (.rd 2 (.rd 3 (.one 4 .done))))) ?_;refine jU 7000090000070 ?_;refine bV (gq 2) ?_
 refine kO (ap (Gt x.1.1 x.1.2 hxk.1 jO) ?_)
 refine BO ?_
 show cV _ _ _ _ _ _
 refine ar (aJ 0 (o8 n ⟨zr.map Prod.fst,s.d,s.k⟩ x.1.1 (k8 x.1) 0 hto (by rw [x8];exact hxk.2)) ?_)
 refine jU 4005 ?_
 have hP:db s=eZ x.1.1 (k8 x.1) 0 ⟨zr.map Prod.fst,s.d,s.k⟩:=by unfold db;rw [jK,hfr]
 rw [hP]
 exact bQ (.inr rfl) _ [_] [0] jD rfl (bN rfl) ⟨rfl,rfl⟩
end
section
variable {gs:List Nat} [Ke gs]

theorem Kv {gs:List Nat} (N:Nat) (hN:N≤9223372036854775807):bM gs Tryz.prog 292 [.c (.int .i64 (N:Nat))] (au (kY N)):=by
 have hdl:=kr 18 N jO
 refine ai 28 Tryz.func292 fun al w0 F0 St0=>?_;refine jU 52167516 ?_;refine aq (fun h84=>?_) fun h84=>?_
 ·exfalso;omega
 refine jU 8000009100000016810 ?_
 refine ak (aU 1 1 f7 fun p1=>?_)
 refine jU 205160000016751 ?_;refine aF (α:=Nat×List UInt8×Option Nat) [0,3,13,14,15,16,17,18,19,20,21,22,23] (fun (m,o,g)=>[(0,.c (.int .i64 (m:Nat))),(3,.os 0 g 0 o.length 1)]) (fun (m,o,g)=>[(g,.blk o.length (ft o))]) (fun (m,o,g)=>m≤N∧kY N=(if m=0 then [] else kY m)++o.reverse) (fun (m,o,g)=>m) ((N / 10,[za (N % 10)],p1)) ?_ (fun _=>rfl) ?_ ?_ ?_
 ·exact ⟨Nat.div_le_self _ _,Gl N⟩
 ·exact .cons (cI jO) (.cons cZ .nil)
 ·exact .blk rfl (fun j hj=>Je (l2:=[za (N % 10)]) (.cons (cI (t8 N).symm) .nil) j hj) .nil
 ·rintro ⟨m,o,g⟩ ⟨(hm:m≤N),hd⟩
  have ho:o.length≤19:=by have:=congrArg List.length hd;simp only [List.length_append,List.length_reverse] at this;omega
  refine jU 52167 ?_;refine aq (fun h88=>?_) fun h88=>?_
  rotate_left
  ·refine jU 1684000200020006000 ?_
   refine ar (aJ 0 (ll _ o jO) ?_)
   refine jU 165 ?_;refine eL Pw ?_;refine jU 8000700051 ?_;refine ab.strL ?_
   rw [hd,jP]
   rfl
  refine jU 8000009100000011200207810 ?_
  refine ak (aU 1 1 f7 fun p2=>?_)
  refine ar (bC (l2:=[za (m % 10)]) rfl rfl rfl (Nat.le_refl _) (fun _ _=>cZ) (aY rfl (.inl rfl) jD) rfl (dt (.cons (cI ((t8 m).symm)) .nil)) Tryz.underlying22 iM qi f7 rB rfl (by (simp;omega)) (eM rfl rfl) rfl rfl (fun p3=>?_))
  refine jU 8516000001200840051 ?_
  refine aw ((m / 10,o++[za (m % 10)],p3)) ?_ ?_ (h5:=?_)
  ·exact ⟨by omega,by rw [hd];exact JI jO o⟩
  ·show m / 10<m;omega
  ·exact .cons (cI jO) (.cons cZ .nil)
theorem yw {gs:List Nat} (N:Nat) (hN:N≤9223372036854775807):bM gs Tryz.prog 245 [.c (.int .i64 (N:Nat))] (au (kY N)):=by
 induction N using ua with
 | h0 N h =>
  refine ai 20 Tryz.func245 fun al w0 F0 St0=>?_;refine jU 52167516 ?_;refine aq (fun h42=>?_) fun h42=>?_
  rotate_left
  ·exfalso;omega
  refine jU 800000916 ?_
  refine ak (aU 1 1 f7 fun p1=>?_)
  refine bg (freeze 0 rfl) ?_;refine bg (gP 8 ([za N]) rfl rfl rfl rfl (.cons (cI ((by rw [ja _ h];omega))) .nil)) ?_;refine jq CO ?_;refine jU 80003000700051 ?_;refine ab.strL ?_
  exact (eV h).symm
 | h1 N h ih =>
  have hdl:=kr 18 N jO
  have hdl2:=kr 18 (N / 10) jO
  refine ai 20 Tryz.func245 fun al w0 F0 St0=>?_;refine jU 52167516 ?_;refine aq (fun h42=>?_) fun h42=>?_
  ·exfalso;omega
  refine jU 7810 ?_;refine ff (.rd 0 (.rd 1 (.rd 3 (.rd 4 (.rd 5 (.rd 6 (.two 2 (.one 7 (.rd 8 (.rd 9 (.rd 10 .done)))) 7 (.rd 8 (.one 2 (.rd 9 (.rd 10 .done))))))))))) ?_;refine jU 70 ?_;refine bV (Hx rfl rfl rfl (by (omega)) (by (omega)) (gx (k:=.i64) (by show _∧_;(omega)))) ?_;refine jU 70 ?_;refine bV (Hw rfl rfl rfl (by (omega)) (by (omega))) ?_;refine bV (IJ (hS:=by show _∧_;(omega))) ?_;refine bV (GA .i64 .u8 (hS:=by show _∧_;(omega))) ?_;refine DZ ?_ ?_
  ·refine kO (ap (ih jO) ?_ (ho:=rfl) (he:=(.cons (se rfl (cI jO)) .nil)))
   refine kO (aU 1 1 f7 fun p1=>?_)
   refine lh (freeze 0 rfl) ?_;refine lh (gP 17 ([za (N % 10)]) rfl rfl rfl rfl (.cons (cI ((t8 N).symm)) .nil)) ?_;refine bV CO ?_;refine bV (II (hS:=by ((simp only [List.length_cons,List.length_nil];omega)))) ?_;refine jU 8000700088070 ?_;refine ab.strL ?_
   exact (iG h).symm
  ·refine kO (aU 1 1 f7 fun p1=>?_)
   refine lh (freeze 0 rfl) ?_;refine lh (gP 17 ([za (N % 10)]) rfl rfl rfl rfl (.cons (cI ((t8 N).symm)) .nil)) ?_;refine bV CO ?_
   refine kO (ap (ih jO) ?_ (ho:=rfl) (he:=(.cons (se rfl (cI jO)) .nil)))
   refine bV (II (hS:=by ((simp only [List.length_cons,List.length_nil];omega)))) ?_;refine jU 8000700088070 ?_;refine ab.strL ?_
   exact (iG h).symm

theorem A5 (c:UInt8):dx c=true↔48≤c.toNat∧c.toNat≤57:=by simp [dx]
theorem sw {c:UInt8} (h1:48≤(c.toNat:Int)) (h2:(c.toNat:Int)≤57):dx c=true:=(A5 c).2 ⟨by omega,by omega⟩
theorem me {c:UInt8} (h:(c.toNat:Int)<48∨57<(c.toNat:Int)):dx c=false:=by
 cases e:dx c with
 | false=>rfl
 | true=>have:=(A5 c).1 e;omega
theorem rM {l:List UInt8} {i:Nat} (hi:i<l.length) (h:(l.take i).all dx=true) (hc:dx (l.getD i 0)=true):(l.take (i+1)).all dx=true:=by
 rw [wP l i hi,List.all_append,h,List.all_cons,hc]
 rfl
theorem kS {l:List UInt8} (h:l=[]∨(18:Int)<(l.length:Nat)∨((1:Int)<(l.length:Nat)∧((l.getD 0 0).toNat:Int)=48)∨l.all dx=false):(lN l).1=0∧(lN l).2=4:=by
 unfold lN
 rw [if_pos (by
  rcases h with h|h|h|h
  ·exact .inl (by simp [h])
  ·exact .inr (.inl jO)
  ·exact .inr (.inr (.inl ⟨by omega,by omega⟩))
  ·exact .inr (.inr (.inr h)))]
 exact ⟨rfl,rfl⟩
theorem xK {l:List UInt8} (h0:l≠[]) (h1:¬ (18:Int)<(l.length:Nat)) (h2:¬ ((1:Int)<(l.length:Nat)∧((l.getD 0 0).toNat:Int)=48)) (h3:l.all dx=true):(lN l).1=ik l∧(lN l).2=0:=by
 unfold lN
 rw [if_neg (by
  rintro (h|h|h|h)
  ·exact h0 (List.eq_nil_of_length_eq_zero h)
  ·exact h1 jO
  ·exact h2 ⟨by omega,by omega⟩
  ·rw [h3] at h;cases h)]
 exact ⟨rfl,rfl⟩
theorem um {l:List UInt8} {i:Nat} (hi:i<l.length):ik (l.take (i+1))=10 * ik (l.take i)+((l.getD i 0).toNat-48):=by
 rw [wP l i hi,jn]
theorem Kz (l:List UInt8):bM gs Tryz.prog 268 [au l] (.tup 2 (fl [.c (.int .i64 ((lN l).1:Nat)),.err (lN l).2])):=by
 refine ai 48 Tryz.func268 fun al w0 F0 St0=>?_;refine jU 1600001675116 ?_;refine ay 9 (fun g97=>?_) fun g97=>?_
 ·refine jU 790005100000000444444441100000000444 ?_;refine ff (.rd 0 (.rd 1 (.rd 2 .done))) ?_;refine jU 80003000700088070704000000 ?_
  have hb:=@kS l (by (simp_all;done))
  exact cT (cI (by rw [hb.1];rfl)) (ab.errN hb.2)
 refine jU 15002400001 ?_;refine ay 14 (fun g97_2=>?_) fun g97_2=>?_
 ·refine jU 79000510000000044444444 ?_;refine ff (.rd 0 (.rd 1 (.rd 2 .done))) ?_;refine jU 80003000700088070704000000 ?_
  have hb:=@kS l (by (simp_all;done))
  exact cT (cI (by rw [hb.1];rfl)) (ab.errN hb.2)
 refine jU 12400001 ?_;refine ay 18 (fun g97_3=>?_) fun g97_3=>?_
 rotate_left
 ·refine jU 2051400001675168103005500500444 ?_;refine aF (α:=Nat) [2,3,4,5,6,27,28,29,30,31,32,33,34,35,36,37,38,39,40,41,42,43,44,45,46] (fun i=>[(4,.c (.int .i64 (ik (l.take i):Nat))),(27,.c (.int .i64 (i:Nat)))]) (fun _=>[]) (fun i=>i≤l.length∧(l.take i).all dx=true) (fun i=>l.length-i) (0) ?_ (fun _=>rfl) ?_ ?_ ?_
  ·exact ⟨Nat.zero_le _,rfl⟩
  ·(repeat (first|exact bZ.nil|refine bZ.cons cZ ?_))
  ·(repeat (exact aS.nil))
  ·rintro i ⟨(hi:i≤l.length),hf⟩
   have hl18:l.length≤18:=by omega
   refine jU 7526 ?_;refine aq (fun h101=>?_) fun h101=>?_
   rotate_left
   ·refine jU 800070005111684000200020006000 ?_
    have hi2:i=l.length:=by omega
    rw [hi2,List.take_length] at hf
    have hb:=xK (l:=l) (by (simp_all;done)) (by (simp_all;done)) (by grind) hf
    exact cT (cI (by rw [hb.1,hi2,List.take_length])) (ab.errN hb.2)
   refine jU 5116207810 ?_
   have hv:=rK hf (by rw [List.length_take];omega)
   refine jU 121675180000000116 ?_;refine ay 35 (fun g103=>?_) fun g103=>?_
   ·refine jU 79000510000000044 ?_;refine ff (.rd 0 (.rd 1 (.rd 2 .done))) ?_;refine jU 8000300050003000300050003000700088070704000000 ?_
    have hb:=@kS l (.inr (.inr (.inr (jg (i:=i) jO (by exact me (.inl jO))))))
    exact cT (cI (by rw [hb.1];rfl)) (ab.errN hb.2)
   refine jU 550021 ?_;refine aq (fun h103=>?_) fun h103=>?_
   ·refine iy ?_;refine ff (.rd 0 (.rd 1 (.rd 2 .done))) ?_;refine jU 8000300050003000300050003000700088070704000000 ?_
    have hb:=@kS l (.inr (.inr (.inr (jg (i:=i) jO (by exact me (.inr jO))))))
    exact cT (cI (by rw [hb.1];rfl)) (ab.errN hb.2)
   refine jU 9191200810 ?_;refine jq (GA .u8 .i64) ?_;refine jU 85192008400519 ?_
   refine aw (i+1) ?_ ?_ (h5:=?_)
   ·exact ⟨by omega,rM jO hf (sw jO jO)⟩
   ·show l.length-(i+1)<l.length-i;omega
   ·exact .cons (cI (by rw [um jO];omega)) (.cons (cI jO) .nil)
 refine jU 1 ?_;refine jq (CM (i:=0)) ?_;refine jU 55001000000002 ?_;refine aq (fun h97=>?_) fun h97=>?_
 ·refine iy ?_;refine ff (.rd 0 (.rd 1 (.rd 2 .done))) ?_;refine jU 80003000700088070704000000 ?_
  have hb:=@kS l (by (simp_all;done))
  exact cT (cI (by rw [hb.1];rfl)) (ab.errN hb.2)
 refine jU 205140000167516810 ?_;refine aF (α:=Nat) [2,3,4,5,6,27,28,29,30,31,32,33,34,35,36,37,38,39,40,41,42,43,44,45,46] (fun i=>[(4,.c (.int .i64 (ik (l.take i):Nat))),(27,.c (.int .i64 (i:Nat)))]) (fun _=>[]) (fun i=>i≤l.length∧(l.take i).all dx=true) (fun i=>l.length-i) (0) ?_ (fun _=>rfl) ?_ ?_ ?_
 ·exact ⟨Nat.zero_le _,rfl⟩
 ·(repeat (first|exact bZ.nil|refine bZ.cons cZ ?_))
 ·(repeat (exact aS.nil))
 ·rintro i ⟨(hi:i≤l.length),hf⟩
  have hl18:l.length≤18:=by omega
  refine jU 7526 ?_;refine aq (fun h101=>?_) fun h101=>?_
  rotate_left
  ·refine jU 800070005111684000200020006000 ?_
   have hi2:i=l.length:=by omega
   rw [hi2,List.take_length] at hf
   have hb:=xK (l:=l) (by (simp_all;done)) (by (simp_all;done)) (by (simp_all;done)) hf
   exact cT (cI (by rw [hb.1,hi2,List.take_length])) (ab.errN hb.2)
  refine jU 5116207810 ?_
  have hv:=rK hf (by rw [List.length_take];omega)
  refine jU 121675180000000116 ?_;refine ay 35 (fun g103=>?_) fun g103=>?_
  ·refine jU 79000510000000044 ?_;refine ff (.rd 0 (.rd 1 (.rd 2 .done))) ?_;refine jU 8000300050003000300050003000700088070704000000 ?_
   have hb:=@kS l (.inr (.inr (.inr (jg (i:=i) jO (by exact me (.inl jO))))))
   exact cT (cI (by rw [hb.1];rfl)) (ab.errN hb.2)
  refine jU 550021 ?_;refine aq (fun h103=>?_) fun h103=>?_
  ·refine iy ?_;refine ff (.rd 0 (.rd 1 (.rd 2 .done))) ?_;refine jU 8000300050003000300050003000700088070704000000 ?_
   have hb:=@kS l (.inr (.inr (.inr (jg (i:=i) jO (by exact me (.inr jO))))))
   exact cT (cI (by rw [hb.1];rfl)) (ab.errN hb.2)
  refine jU 9191200810 ?_;refine jq (GA .u8 .i64) ?_;refine jU 85192008400519 ?_
  refine aw (i+1) ?_ ?_ (h5:=?_)
  ·exact ⟨by omega,rM jO hf (sw jO jO)⟩
  ·show l.length-(i+1)<l.length-i;omega
  ·exact .cons (cI (by rw [um jO];omega)) (.cons (cI jO) .nil)
def sC (l:List UInt8):Nat×Bool:=if (lN l).2=0 then ((lN l).1,true) else (0,false)
theorem ot {l:List UInt8} (h:(l.length:Int)<1∨(18:Int)<(l.length:Nat)∨l.all dx=false∨kY (ik l)≠l):sC l=(0,false):=by
 unfold sC
 rw [vC,if_neg (show ¬ (1≤l.length∧l.length≤18∧l.all dx=true∧kY (ik l)=l) from fun h2=>by
  rcases h with h|h|h|h
  ·omega
  ·omega
  ·rw [h] at h2;exact absurd h2.2.2.1 (by simp)
  ·exact h h2.2.2.2)]
 rfl
theorem Ga {l:List UInt8} (h0:¬ (l.length:Int)<1) (h1:¬ (18:Int)<(l.length:Nat)) (h2:l.all dx=true) (h3:kY (ik l)=l):sC l=(ik l,true):=by
 have e:lN l=(ik l,0):=by rw [vC,if_pos ⟨by omega,by omega,h2,h3⟩]
 unfold sC
 rw [e]
 rfl
theorem K0 {gs:List Nat} (l:List UInt8):bM gs Tryz.prog 249 [au l] (.tup 2 (fl [.c (.int .i64 ((sC l).1:Nat)),.c (.bool (sC l).2)])):=by
 refine ai 43 Tryz.func249 fun al w0 F0 St0=>?_;refine jU 12400001675116 ?_;refine ay 9 (fun g50=>?_) fun g50=>?_
 ·refine jU 800030007000511690005100000000444 ?_
  have hb:=@ot l jO
  rw [hb]
  exact cZ
 refine jU 55002400001 ?_;refine aq (fun h50=>?_) fun h50=>?_
 ·refine jU 8000300070005116 ?_
  have hb:=@ot l jO
  rw [hb]
  exact cZ
 refine jU 205167516810 ?_;refine aF (α:=Nat) [2,3,4,5,14,15,16,17,18,19,20,21,22,23,24,25,26,27,28,29,30,31,32,33,34,35,36,37] (fun i=>[(4,.c (.int .i64 (ik (l.take i):Nat))),(5,.c (.int .i64 (i:Nat)))]) (fun _=>[]) (fun i=>i≤l.length∧(l.take i).all dx=true) (fun i=>l.length-i) (0) ?_ (fun _=>rfl) ?_ ?_ ?_
 ·exact ⟨Nat.zero_le _,rfl⟩
 ·(repeat (first|exact bZ.nil|refine bZ.cons cZ ?_))
 ·(repeat (exact aS.nil))
 ·rintro i ⟨(hi:i≤l.length),hf⟩
  have hl18:l.length≤18:=by omega
  refine jU 52400001167 ?_;refine aq (fun h54=>?_) fun h54=>?_
  rotate_left
  ·refine jU 784000200020006000 ?_
   have hi2:i=l.length:=by omega
   rw [hi2,List.take_length] at hf
   have hv:=Ev hf jO
   refine jU 16 ?_
   refine ak (ap (yw (ik l) jO) ?_ (ho:=rfl) (he:=(.cons (se rfl (cI (by rw [hi2,List.take_length]))) .nil)))
   refine jU 5600001 ?_;refine aq (fun h60=>?_) fun h60=>?_
   ·refine jU 8000300070005116 ?_
    have hb:=@ot l (.inr (.inr (.inr (by exact h60))))
    rw [hb]
    exact cZ
   refine jU 8000700051116810 ?_
   have hb:=Ga (l:=l) jO jO hf (by (simp_all;done))
   rw [hb,hi2,List.take_length]
   exact cZ
  refine jU 7207810 ?_
  have hv:=rK hf (by rw [List.length_take];omega)
  refine jU 1280000000116 ?_;refine ay 24 (fun g55=>?_) fun g55=>?_
  ·refine jU 800030005000300030005000300070005116900051000000004444 ?_
   have hb:=@ot l (.inr (.inr (.inl (jg (i:=i) jO (by exact me (.inl jO))))))
   rw [hb]
   exact cZ
  refine jU 550028000000011 ?_;refine aq (fun h55=>?_) fun h55=>?_
  ·refine jU 800030005000300030005000300070005116 ?_
   have hb:=@ot l (.inr (.inr (.inl (jg (i:=i) jO (by exact me (.inr jO))))))
   rw [hb]
   exact cZ
  refine jU 851912008400519970000000800000001191200810 ?_
  refine aw (i+1) ?_ ?_ (h5:=?_)
  ·exact ⟨by omega,rM jO hf (sw jO jO)⟩
  ·show l.length-(i+1)<l.length-i;omega
  ·exact .cons (cI (by rw [um jO];omega)) (.cons (cI jO) .nil)
end
section
variable {gs:List Nat} [Ke gs]

theorem FY {gs:List Nat} {g:FuncId} {n:Nat} {fv:Nat→CV} (hc:br Tryz.prog g=true) (l:List (Int)) (p:(Int)→Bool) (hp:∀ r,bM gs Tryz.prog g ((fun z:Int=>.c (.int .i64 z)) r::(List.range n).map fv) (.c (.bool (p r)))) :
  bM gs Tryz.prog 303 [wl l,.fn g n fv] (.c (.int .i64 (ee p l))):=by
 refine kg 0 rfl fun hlen=>?_;refine ai 19 Tryz.func303 fun al w0 F0 St0=>?_;refine jU 20513167516 ?_;refine aF (α:=Nat) [4,5,8,9,10,11,12,13,14,15,16,17,18] (fun i=>[(8,.c (.int .i64 (i:Nat)))]) (fun _=>[]) (fun i=>i≤l.length∧∀ j (hj:j<l.length),j<i→p l[j]=false) (fun i=>l.length-i) (0) ?_ (fun _=>rfl) ?_ ?_ ?_
 ·exact ⟨by omega,fun j _ hj=>absurd hj (Nat.not_lt_zero j)⟩
 ·(repeat (first|exact bZ.nil|refine bZ.cons cZ ?_))
 ·(repeat (exact aS.nil))
 ·rintro i ⟨hi,he⟩
  refine jU 7526 ?_;refine aq (fun h108=>?_) fun h108=>?_
  rotate_left
  ·refine jU 8000700051684000200020006000 ?_;refine cI ?_
   exact (tj fun j hj=>he j hj jO).symm
  refine jU 6070011165116207810 ?_
  refine ak (iE rfl rfl (by assumption) (hp (l.getD i 0)) (rn cZ _) rfl rfl ?_)
  rintro _ _ ⟨rfl,rfl⟩
  refine jU 5 ?_;refine aq (fun h109=>?_) fun h109=>?_
  ·refine jU 80003000500030003000500070005116 ?_;refine cI ?_
   have hlt:i<l.length:=by omega
   exact (sA i hlt (by simpa [List.getD,hlt] using h109) (fun j hj=>he j jO hj)).symm
  refine jU 8519200840010 ?_;refine aw (i+1) ?_ ?_
  ·exact ⟨by omega,fun j hj hj1=>by
    by_cases e:j=i
    ·subst e
     simpa [List.getD,hj] using h109
    ·exact he j hj jO⟩
  ·omega
theorem FZ {gs:List Nat} {g:FuncId} {n:Nat} {fv:Nat→CV} (hc:br Tryz.prog g=true) (l:List (Int)) (p:(Int)→Bool) (hp:∀ r,bM gs Tryz.prog g ((fun z:Int=>.c (.int .i64 z)) r::(List.range n).map fv) (.c (.bool (p r)))) :
  bM gs Tryz.prog 286 [wl l,.fn g n fv] (.c (.bool (l.any p))):=by
 refine ai 9 Tryz.func286 fun al w0 F0 St0=>?_;refine jU 116516 ?_
 refine ak (ap (FY hc l p hp) ?_)
 refine jU 80007000512 ?_;refine cB ?_
 exact C0 p l
def Fp (n:Int):Bool:=decide (n<0) || decide (2147483647<n)
theorem NY {gs:List Nat} (n:Int):bM gs Tryz.prog 287 (.c (.int .i64 n)::(List.range 0).map fun _=>.top) (.c (.bool (Fp n))):=by
 refine ai 9 Tryz.func287 fun al w0 F0 St0=>?_;refine jU 1216516 ?_;refine ay 5 (fun g25=>?_) fun g25=>?_
 ·refine jU 800070005110000000044 ?_;refine cB ?_
  unfold Fp
  (simp_all;done)
 refine jU 800070005150021 ?_;refine cB ?_
 unfold Fp
 (simp_all;omega)
theorem kx (l:List Int):(!l.any Fp)=l.all (fun n=>decide (0≤n) && decide (n≤2147483647)):=by
 rw [← BG]
 congr 2
 funext n
 unfold Fp
 by_cases h1:n<0 <;> by_cases h2:2147483647<n <;> simp [h1,h2] <;> omega
theorem xi {gs:List Nat} (l:List Int):bM gs Tryz.prog 269 [wl l] (.c (.bool (cC l))):=by
 refine kg 0 rfl fun hlen=>?_;refine ai 34 Tryz.func269 fun al w0 F0 St0=>?_;refine jU 123167516 ?_;refine ay 7 (fun g22=>?_) fun g22=>?_
 ·refine jU 80003000700051690005100000000444 ?_;refine cB ?_
  unfold cC
  rw [← kx]
  (simp_all;omega)
 refine jU 5500231 ?_;refine aq (fun h22=>?_) fun h22=>?_
 ·refine jU 800030007000516 ?_;refine cB ?_
  unfold cC
  rw [← kx]
  (simp_all;omega)
 refine jU 16810 ?_
 refine ak (ap (FZ (n:=0) (fv:=fun _=>.top) (by kernel_rfl) l Fp NY) ?_ (ho:=rfl) (he:=(.cons (se rfl cZ) (.cons (se rfl ab.fn0) .nil))))
 refine jU 1301651 ?_;refine ay 16 (fun g26=>?_) fun g26=>?_
 rotate_left
 ·refine jU 8000700051500444444444415004444 ?_;refine cB ?_
  unfold cC
  rw [← kx]
  grind
 refine jU 110000000026020000001 ?_;refine ay 22 (fun g26_2=>?_) fun g26_2=>?_
 rotate_left
 ·refine jU 80007000515004444444444 ?_;refine cB ?_
  unfold cC
  rw [← kx]
  (simp_all;omega)
 refine jU 126020000001 ?_;refine ay 27 (fun g26_3=>?_) fun g26_3=>?_
 ·refine jU 80007000511000000001000000004444 ?_;refine cB ?_
  unfold cC
  rw [← kx]
  (simp_all;omega)
 refine jU 1 ?_;refine jq (fb (i:=1)) ?_;refine jU 8000700051100000000500260 ?_;refine cB ?_
 unfold cC
 rw [← kx]
 (simp_all;omega)
end
section
variable {gs:List Nat} [Ke gs]

theorem Dx (n:Nat):(((UInt8.ofNat (n % 128)).toNat:Nat):Int)=(n:Int) % 128:=by
 rw [UInt8.toNat_ofNat'];omega
theorem z6 (n:Nat):(((UInt8.ofNat (n % 128+128)).toNat:Nat):Int)=(n:Int) % 128+128:=by
 rw [UInt8.toNat_ofNat'];omega
theorem uv {gs:List Nat} (N:Nat) (hN:N<34359738368):AC gs Tryz.prog 254 [] [.c (.int .i64 (N:Nat))] (we (dV N).length 1 (dV N).length (ft (dV N))):=by
 have hlen:=jt hN
 refine ai 24 Tryz.func254 fun al w0 F0 St0=>?_;refine jU 800000100000016516 ?_
 refine ak (aU 1 1 f7 fun p1=>?_)
 refine jU 205160000016751 ?_;refine aF (α:=Nat×List UInt8×Option Nat) [0,3,10,11,12,13,14,15,16,17,18,19,20] (fun (m,o,g)=>[(0,.c (.int .i64 (m:Nat))),(3,.os 0 g 0 o.length 1)]) (fun (m,o,g)=>[(g,.blk o.length (ft o))]) (fun (m,o,g)=>m≤N∧dV N=gD m++o.reverse∧0<o.length) (fun (m,o,g)=>m) ((N / 128,[UInt8.ofNat (N % 128)],p1)) ?_ (fun _=>rfl) ?_ ?_ ?_
 ·exact ⟨Nat.div_le_self _ _,rfl,Nat.one_pos⟩
 ·exact .cons (cI jO) (.cons cZ .nil)
 ·exact .blk rfl (fun j hj=>Je (l2:=[UInt8.ofNat (N % 128)]) (.cons (cI (Dx N).symm) .nil) j hj) .nil
 ·rintro ⟨m,o,g⟩ ⟨(hm:m≤N),hd,ho0⟩
  have ho:o.length≤5:=by have:=congrArg List.length hd;simp only [List.length_append,List.length_reverse] at this;omega
  refine jU 52167 ?_;refine aq (fun h60=>?_) fun h60=>?_
  rotate_left
  ·refine jU 84000200020006000 ?_
   have hm0:m=0:=by omega
   rw [hm0,eD,List.nil_append] at hd
   refine jU 16 ?_
   refine ar (aJ 0 (ll _ o jO) ?_)
   refine jU 700051165 ?_
   exact vK 0 (.inl rfl) (aA rfl (aP rfl)) rfl (by rw [hd,List.length_reverse]) (by rw [hd];exact Nat.le_refl _) (fun _=>by rw [hd]) (fun j hj=>by rw [hd];exact cZ)
  refine jU 8000009100000011200207810 ?_
  refine ak (aU 1 1 f7 fun p2=>?_)
  refine ar (bC (l2:=[UInt8.ofNat (m % 128+128)]) rfl rfl rfl (Nat.le_refl _) (fun _ _=>cZ) (aY rfl (.inl rfl) jD) rfl (dt (.cons (cI ((z6 m).symm)) .nil)) Tryz.underlying22 iM qi f7 rB rfl (by (simp;omega)) (eM rfl rfl) rfl rfl (fun p3=>?_))
  refine jU 8516000001200840051 ?_
  refine aw ((m / 128,o++[UInt8.ofNat (m % 128+128)],p3)) ?_ ?_ (h5:=?_)
  ·exact ⟨by omega,by rw [hd,fK (show m≠0 by omega),List.reverse_append,List.append_assoc];rfl,by simp⟩
  ·show m / 128<m;omega
  ·exact .cons (cI jO) (.cons cZ .nil)
theorem G6 {l:List UInt8} {i:Nat} (h:i<l.length):cA (l.take (i+1))=cA (l.take i) * 128+(l.getD i 0).toNat % 128:=by
 rw [List.take_succ_eq_append_getElem h,gc]
 simp [List.getD,h]
theorem KB {l:List UInt8} (i:Nat):cA (l.take i)≤cA l:=by
 have key:∀ (r:List UInt8) (a:List UInt8),cA a≤cA (a++r):=by
  intro r
  induction r with
  | nil=>simp
  | cons c r ih =>
   intro a
   have h1:=ih (a++[c])
   rw [gc] at h1
   rw [show a++c::r=a++[c]++r by simp]
   have:cA a≤cA a * 128:=by omega
   omega
 have:=key (l.drop i) (l.take i)
 rwa [List.take_append_drop] at this
theorem qL {r:List UInt8} {most:Nat} {x:Nat×Nat} (h:dC r most=x):(dC r most).1=x.1∧(dC r most).2=x.2:=by rw [h];exact ⟨rfl,rfl⟩
theorem xm {gs:List Nat} [fZ gs] (r:List UInt8) (most:Nat) (hr:0<r.length) (hm:most≤9999999999):bM gs Tryz.prog 272 [bu r,.c (.int .i64 (most:Nat))] (.tup 2 (fl [.c (.int .i64 ((dC r most).1:Nat)),.err (dC r most).2])):=by
 refine kg 0 rfl fun hlen=>?_;refine ai 42 Tryz.func272 fun al w0 F0 St0=>?_;refine jU 931162075116 ?_;refine jq (fb (i:=(r.length-1)) (hz:=by omega)) ?_;refine jU 51260 ?_;refine aq (fun h99=>?_) fun h99=>?_
 ·refine iy ?_;refine ff (.rd 0 (.rd 1 (.rd 2 .done))) ?_;refine bV (dy 1) ?_;refine jU 80003000500070008807070 ?_
  have hb:=qL (r:=r) (most:=most) (x:=(0,2)) (by unfold dC;rw [jP])
  exact cT (cI (by rw [hb.1];rfl)) (ab.errN hb.2)
 refine jU 51260200000016 ?_;refine aq (fun h101=>?_) fun h101=>?_
 ·refine iy ?_;refine ff (.rd 0 (.rd 1 (.rd 2 .done))) ?_;refine jU 800030005000700088070704000000 ?_
  have hb:=qL (r:=r) (most:=most) (x:=(0,4)) (by unfold dC;rw [jK,jP])
  exact cT (cI (by rw [hb.1];rfl)) (ab.errN hb.2)
 refine jU 20513167516840010 ?_;refine aF (α:=Nat) [4,5,6,8,26,27,28,29,30,31,32,33,34,35,36,37,38,39,40] (fun i=>[(6,.c (.int .i64 (cA (r.take i):Nat))),(26,.c (.int .i64 (i:Nat)))]) (fun _=>[]) (fun i=>i≤r.length∧cA (r.take i)≤most) (fun i=>r.length-i) (0) ?_ (fun _=>rfl) ?_ ?_ ?_
 ·exact ⟨Nat.zero_le _,by simp [cA]⟩
 ·(repeat (first|exact bZ.nil|refine bZ.cons cZ ?_))
 ·(repeat (exact aS.nil))
 ·rintro i ⟨(hi:i≤r.length),hv⟩
  refine jU 7526 ?_;refine aq (fun h105=>?_) fun h105=>?_
  rotate_left
  ·refine jU 800070005111684000200020006000 ?_
   have hi2:i=r.length:=by omega
   rw [hi2,List.take_length] at hv
   have hb:=qL (r:=r) (most:=most) (x:=(cA r,0)) (by unfold dC;rw [jK,jK,jK])
   exact cT (cI (by rw [hb.1,hi2,List.take_length])) (ab.errN hb.2)
  refine jU 1000000191651607006207810 ?_;refine jq (GA .u8 .i64) ?_;refine jU 52116519 ?_;refine aq (fun h107=>?_) fun h107=>?_
  rotate_left
  ·refine jU 8519200840010 ?_
   refine aw (i+1) ?_ ?_ (h5:=?_)
   ·exact ⟨by omega,by rw [G6 jO];omega⟩
   ·show r.length-(i+1)<r.length-i;omega
   ·exact .cons (cI (by rw [G6 jO];omega)) (.cons (cI jO) .nil)
  refine iy ?_;refine ff (.rd 0 (.rd 1 (.rd 2 .done))) ?_;refine bV (dy 0) ?_;refine jU 80003000500030003000500070008807070 ?_
  have h9:=G6 (l:=r) (i:=i) jO
  have h8:=KB (l:=r) (i+1)
  have hb:=qL (r:=r) (most:=most) (x:=(0,1)) (by unfold dC;rw [jK,jK,jP])
  exact cT (cI (by rw [hb.1];rfl)) (ab.errN hb.2)

theorem FW {gs:List Nat} (a:List UInt8) (c:UInt8):bM gs Tryz.prog 302 [au a,au [c]] (.c (.int .i64 (Lib.indexByte a c))) :=
 oC fun al w St vals hs hv hr=>by
  rw [ui hv,show vals.getD 0 undef=.string ⟨a.toArray⟩ from hr 0,show vals.getD 1 undef=.string ⟨#[c]⟩ from hr 1]
  exact (Tryz.strings_Index_one _ _ w).mono (by rintro e w' ⟨rfl,rfl⟩;exact ⟨by simp,Below.refl _ _⟩)
theorem D7 (c:UInt8):∀ l:List UInt8,(Lib.indexByte l c<0∧aB c l=[l])∨∃ p r,l=p++c::r∧Lib.indexByte l c=(p.length:Nat)∧aB c l=p::aB c r
 | []=>.inl ⟨by simp [Lib.indexByte],rfl⟩
 | x::l=>by
  by_cases hx:x=c
  ·subst hx
   refine .inr ⟨[],l,rfl,?_,?_⟩
   ·simp [Lib.indexByte]
   ·simp [aB]
  ·rcases D7 c l with ⟨h1,h2⟩|⟨p,r,h1,h2,h3⟩
   ·refine .inl ⟨?_,?_⟩
    ·have:=Lib.indexByte_ge l c
     have e:Lib.indexByte l c=-1:=by omega
     simp [Lib.indexByte,hx,e]
    ·rw [aB,if_neg hx,h2];rfl
   ·refine .inr ⟨x::p,r,by rw [h1];rfl,?_,?_⟩
    ·have e:¬ Lib.indexByte l c=-1:=by omega
     simp [Lib.indexByte,hx,h2];try omega
    ·rw [aB,if_neg hx,h3];rfl
def Ny (f:FuncId) (c:UInt8) (g:Option Nat):CV:=.fn f 3 (fl [.rp 1 fun _=>au [c],.op 0 g 0,.rp 1 fun _=>.c (.int .i64 0)])
theorem G2 {gs:List Nat} (s:List UInt8) (c:UInt8):AC gs Tryz.prog 285 [] [au s,au [c],.c (.int .i64 0)] (fun r H'=>∃ g,r=Ny 300 c g∧H'=[(g,.blk 1 (fun _=>au s))]):=by
 refine ai 8 Tryz.func285 fun al w0 F0 St0=>?_;refine cy ?_
 refine ak (cE 1 fun p1=>?_)
 refine ak (cE 1 fun p2=>?_)
 refine ak (cE 1 fun p3=>?_)
 refine jU 51 ?_;refine jE (freeze 1 rfl) ?_;refine jE (freeze 2 rfl) ?_;refine jE (iP (m:=1) 4 rfl rfl jD) ?_;refine jE (iP (m:=1) 5 rfl rfl jD) ?_;refine jE (gB 0 (m:=1) (F:=fun _=>au s) rfl (Nat.le_refl _) (fun _=>rfl) (fun j hj=>by obtain rfl:j=0:=jO;exact cZ)) ?_;refine cy ?_;refine jq FN ?_;refine jU 700051 ?_
 exact bQ (.inl rfl) (Ny 300 c p1) _ [0] jD rfl ((aA rfl (aP rfl)).ent (by refine ab.fn3 (ab.rp ?_) cP (ab.rp ?_) <;> (intro j hj;obtain rfl:j=0:=jO;exact cZ))) ⟨_,rfl,rfl⟩
theorem zU {gs:List Nat} (s:List UInt8) (c:UInt8):AC gs Tryz.prog 267 [] [au s,au [c]] (fun r H'=>∃ g,r=Ny 300 c g∧H'=[(g,.blk 1 (fun _=>au s))]):=by
 refine ai 8 Tryz.func267 fun al w0 F0 St0=>?_;refine jU 116516 ?_
 refine ak (su (G2 s c) ?_)
 rintro _ _ ⟨p1,rfl,rfl⟩
 refine jU 700051 ?_
 exact bQ (.inl rfl) _ _ [0] jD rfl (aA rfl (aP rfl)) ⟨_,rfl,rfl⟩
theorem Cq {c:UInt8} {s rest:List UInt8} {k:Nat} (h:(aB c s).drop k=aB c rest):k<(aB c s).length:=by
 have:=oO c rest
 rw [← h] at this
 apply Classical.byContradiction
 intro hn
 exact this (List.drop_eq_nil_of_le jO)
theorem sE {α:Type} {l:List α} {k:Nat} {d x:α} {r:List α} (h:l.drop k=x::r):l.getD k d=x∧l.drop (k+1)=r:=by
 have h1:l[k]?=some x:=by
  have:=congrArg (fun m=>m[0]?) h
  simpa using this
 exact ⟨by simp [List.getD,h1],by rw [← List.drop_drop,h];rfl⟩
theorem Ha {gs:List Nat} (s:List UInt8) (c:UInt8) (g:Option Nat) (hs:s.length≤100000000000):Kf gs Tryz.prog 300 [(g,.blk 1 (fun _=>au s))] ((List.range 3).map (fl [.rp 1 fun _=>au [c],.op 0 g 0,.rp 1 fun _=>.c (.int .i64 0)])) (aB c s).length (fun k=>[au ((aB c s).getD k [])]):=fun l J Jx hY=>by
 refine Dh true 52 Tryz.func300 rfl rfl rfl (fun al w0 F0 St0=>?_)
 refine jU 52400006067 ?_;refine aq (fun h38=>?_) fun h38=>?_
 ·exfalso;simp at h38
 refine jU 207810 ?_;refine aF (α:=Nat×List UInt8) [7,8,29,30,31,32,33,34,35,36,37,38,39,40,41,42,43,44,45,46,47,48] (fun _=>[]) (fun (k,rest)=>[(g,.blk 1 (fun _=>au rest)),(some l,.obj (J k))]) (fun (k,rest)=>(aB c s).drop k=aB c rest∧rest.length≤s.length) (fun (k,rest)=>rest.length) ((0,s)) ?_ (fun _=>rfl) ?_ ?_ ?_
 ·exact ⟨rfl,Nat.le_refl _⟩
 ·exact .nil
 ·exact .same (.same .nil)
 ·rintro ⟨k,rest⟩ ⟨hk,hlen⟩
  have hkl:=Cq hk
  have hcut:=D7 c rest
  refine jU 6050620 ?_
  refine ak (ap (FW rest c) ?_)
  refine jU 5216751 ?_;refine aq (fun h50=>?_) fun h50=>?_
  ·refine jU 12008400020008000020006000 ?_
   have hsp:aB c rest=[rest]:=by
    rcases hcut with h|⟨q,r,_,h,_⟩
    ·exact h.2
    ·omega
   have hk2:=sE (d:=[]) (hk.trans hsp)
   have hm:(aB c s).length=k+1:=by
    have:=congrArg List.length hk2.2
    simp at this
    omega
   refine jU 50 ?_
   refine ym (bq rfl) rfl (yN (i:=1) rfl rfl rfl (hY k hkl) (.cons (se rfl (ab.strL hk2.1.symm)) .nil) rfl rfl ?_)
   rintro _ _ (⟨rfl,rfl⟩|⟨rfl,rfl⟩)
   ·refine ⟨_,_,rfl,cZ,?_⟩
    refine jU 5 ?_
    exact bQ (.inr rfl) _ _ [1] jD rfl (bN rfl) (.inl (by rw [hm];rfl))
   ·refine ⟨_,_,rfl,cZ,?_⟩
    refine jU 5 ?_
    exact bQ (.inr rfl) _ _ [1] jD rfl (bN rfl) (.inr rfl)
  refine jU 810 ?_
  obtain ⟨q,r,hr,hi,hsp⟩:∃ q r,rest=q++c::r∧Lib.indexByte rest c=(q.length:Nat)∧aB c rest=q::aB c r:=by
   rcases hcut with h|h
   ·omega
   ·exact h
  have hk2:=sE (d:=[]) (hk.trans hsp)
  have hql:q.length<rest.length:=by rw [hr];simp
  refine jU 9601506 ?_;refine jq (Ch rfl rfl Tryz.underlying9 rfl (show _=((q.length:Nat):Int) by omega) (by (omega))) ?_;refine jU 116751 ?_
  refine ym (bq rfl) rfl (yN (i:=1) rfl rfl rfl (hY k hkl) (.cons (se rfl (ab.strL (by rw [hk2.1,hr];simp))) .nil) rfl rfl ?_)
  rintro _ _ (⟨rfl,rfl⟩|⟨rfl,rfl⟩)
  ·refine ⟨_,_,rfl,cZ,?_⟩
   refine jU 200810300530 ?_;refine eL (mS (hn:=by (omega))) ?_;refine jU 1 ?_;refine jq (vl (hn:=by (omega))) ?_;refine jq Pv ?_;refine jq (IJ (hS:=by show _∧_;((simp only [List.length_cons,List.length_nil];omega)))) ?_;refine jq (uS rfl rfl Tryz.underlying9 rfl (show _=(((q.length+1):Nat):Int) by (simp only [List.length_cons,List.length_nil];omega)) (by (omega))) ?_
   refine ar (ax 1 ?_ (hn:=by (omega)))
   refine jU 84005 ?_
   refine aw ((k+1,rest.drop (q.length+1))) ?_ ?_ (h5:=?_) (h7:=?_)
   ·exact ⟨by rw [hk2.2,hr];simp,by rw [List.length_drop];omega⟩
   ·show (rest.drop (q.length+1)).length<rest.length;rw [List.length_drop];omega
   ·exact .nil
   ·exact .blk rfl (fun j hj=>by obtain rfl:j=0:=jO;exact cZ) (.same .nil)
  ·refine ⟨_,_,rfl,cZ,?_⟩
   refine jU 3000500030005000300070009000530 ?_
   exact bQ (.inl rfl) _ _ [1] jD rfl (bN rfl) (.inr rfl)
end
section
variable {gs:List Nat} [Ke gs]

theorem ab.nilO {i k:Nat}:ab (.c (.slice none 0 0)) (.os i none 0 0 k):=fun al St w v h=>⟨rfl,h⟩
theorem oN (c:UInt8):∀ l:List UInt8,(aB c l).length≤l.length+1
 | []=>by simp [aB]
 | x::l=>by
  have ih:=oN c l
  rw [aB]
  split
  ·simp;omega
  ·have h:∀ ls:List (List UInt8),ls≠[]→(mj x ls).length=ls.length:=fun ls h=>by cases ls <;> simp_all [mj]
   rw [h _ (oO c l)]
   simp;omega
theorem qI {c:UInt8}:∀ {l p:List UInt8},p ∈ aB c l→p.length≤l.length
 | [],p,h=>by simp [aB] at h;simp [h]
 | x::l,p,h=>by
  rw [aB] at h
  split at h
  ·rcases List.mem_cons.1 h with rfl|h
   ·simp
   ·have:=qI h;simp;omega
  ·cases hs:aB c l with
   | nil=>exact absurd hs (oO c l)
   | cons q r =>
    rw [hs,mj] at h
    rcases List.mem_cons.1 h with rfl|h
    ·have:=qI (c:=c) (l:=l) (p:=q) (by rw [hs];exact List.mem_cons_self ..)
     simp;omega
    ·have:=qI (c:=c) (l:=l) (p:=p) (by rw [hs];exact List.mem_cons_of_mem _ h)
     simp;omega
theorem jp {α:Type} {l:List α} {k:Nat} (d:α) (h:k<l.length):l.take (k+1)=l.take k++[l.getD k d]:=by
 rw [List.take_succ_eq_append_getElem h]
 simp [List.getD,h]
theorem de {α:Type} {l:List α} {k:Nat} (d:α) (h:k<l.length):l.getD k d ∈ l:=by
 simp [List.getD,h]
theorem r8 {s:List UInt8} (h:(aB 46 s).all xk=false):(bB s).1=[]∧(bB s).2=4:=by
 unfold bB;rw [if_pos h];exact ⟨rfl,rfl⟩
theorem sY {s:List UInt8} (h:(aB 46 s).all xk=true) (h2:cC ((aB 46 s).map nL)=false):(bB s).1=[]∧(bB s).2=1:=by
 unfold bB;rw [if_neg (by simp [h]),if_pos h2];exact ⟨rfl,rfl⟩
theorem u0 {s:List UInt8} (h:(aB 46 s).all xk=true) (h2:cC ((aB 46 s).map nL)=true):(bB s).1=(aB 46 s).map nL∧(bB s).2=0:=by
 unfold bB;rw [if_neg (by simp [h]),if_neg (by simp [h2])];exact ⟨rfl,rfl⟩
theorem ic {α:Type} {p:α→Bool} {l:List α} {k:Nat} (d:α) (h:k<l.length) (hp:p (l.getD k d)=false):l.all p=false:=by
 cases e:l.all p with
 | false=>rfl
 | true =>
  have:=List.all_eq_true.1 e _ (de d h)
  rw [hp] at this;cases this
set_option maxHeartbeats 1000000 in
theorem Fq (s:List UInt8) (hs:s.length≤1000000000):bM gs Tryz.prog 253 [au s] (.tup 2 (fl [wl (bB s).1,.err (bB s).2])):=by
 have hpl:=oN 46 s
 refine ai 33 Tryz.func253 fun al w0 F0 St0=>?_;refine cy ?_
 refine ak (bD (n:=1) GC rfl fun p1=>?_)
 refine ak (bD (n:=1) OI rfl fun p2=>?_)
 refine jU 65 ?_
 refine ak (bD (n:=1) GC rfl fun p3=>?_)
 refine jU 1675 ?_
 refine ak (su (zU s 46) ?_)
 rintro _ _ ⟨gS,rfl,rfl⟩
 refine jU 205 ?_;refine jE (gB 0 (m:=1) (F:=fun _=>.c (.slice none 0 0)) rfl (Nat.le_refl _) (fun _=>rfl) (fun j hj=>by obtain rfl:j=0:=jO;exact cZ)) ?_;refine jE (gB 1 (m:=1) (F:=fun _=>.c .nilIface) rfl (Nat.le_refl _) (fun _=>rfl) (fun j hj=>by obtain rfl:j=0:=jO;exact cZ)) ?_;refine jE (gB 2 (m:=1) (F:=fun _=>.os 3 none 0 0 1) rfl (Nat.le_refl _) (fun _=>rfl) (fun j hj=>by obtain rfl:j=0:=jO;exact ab.nilO)) ?_;refine jE (gv (kQ [])) ?_;refine vU (π:=List Int×Option Nat) (q:=List Int×Option Nat) ((aB 46 s).length) (fun k=>[au ((aB 46 s).getD k [])]) ([(gS,.blk 1 (fun _=>au s))]) (fun (X,ga)=>[(p1,.blk 1 (fun _=>.c (.slice none 0 0))),(p2,.blk 1 (fun _=>.c .nilIface)),(p3,.blk 1 (fun _=>.os 3 ga 0 X.length 1)),(ga,.blk X.length (kQ X))]) (fun k (X,ga)=>X=((aB 46 s).take k).map nL∧((aB 46 s).take k).all xk=true) (fun (X,ga)=>[(p1,.blk 1 (fun _=>.c (.slice none 0 0))),(p2,.blk 1 (fun _=>.err 4)),(p3,.blk 1 (fun _=>.os 3 ga 0 X.length 1)),(ga,.blk X.length (kQ X))]) (fun c _=>c=.ret∧(aB 46 s).all xk=false) (([],none)) [3,0,1,2,4] rfl rfl (by kernel_rfl) (Ha s 46 gS jO) (⟨rfl,rfl⟩) jD rfl (fun _ _=>rfl) rfl ?_ ?_ ?_
 ·intro k hk l al2 w2 F2 S2 R0 R1
  rintro ⟨X,ga⟩ ⟨hX,hall⟩
  have hXl:X.length≤k:=by rw [hX,List.length_map,List.length_take];omega
  have hpp:=qI (de (l:=aB 46 s) [] hk)
  refine jU 51200 ?_;refine tB ?_;refine jU 1620 ?_
  refine ak (ap (Kz ((aB 46 s).getD k [])) ?_)
  refine jU 15000001675119009001 ?_;refine ay 18 (fun g34=>?_) fun g34=>?_
  ·refine jU 790005100000000444 ?_;refine jI (.rd 0 (.one 1 (.one 2 .done))) ?_;refine ig (dy 3) ?_
   refine iL (ax 1 ?_)
   refine iL (ax 1 ?_)
   refine jU 5000300070008700000 ?_;refine oU ((X,ga)) ?_ rfl ?_
   ·exact ⟨rfl,ic [] hk (by unfold xk;(simp_all;done))⟩
   ·exact .blk rfl (fun j hj=>by obtain rfl:j=0:=jO;exact cZ) (.blk rfl (fun j hj=>by obtain rfl:j=0:=jO;exact cZ) (.same (.same (.same .nil))))
  refine jU 55002400001 ?_;refine aq (fun h34=>?_) fun h34=>?_
  ·refine iy ?_;refine jI (.rd 0 (.one 1 (.one 2 .done))) ?_;refine ig (dy 3) ?_
   refine iL (ax 1 ?_)
   refine iL (ax 1 ?_)
   refine jU 5000300070008700000 ?_;refine oU ((X,ga)) ?_ rfl ?_
   ·exact ⟨rfl,ic [] hk (by unfold xk;(simp_all;omega))⟩
   ·exact .blk rfl (fun j hj=>by obtain rfl:j=0:=jO;exact cZ) (.blk rfl (fun j hj=>by obtain rfl:j=0:=jO;exact cZ) (.same (.same (.same .nil))))
  refine jU 150200810 ?_
  refine ak (aU 1 1 nj fun p4=>?_)
  refine ar (av fS (l2:=[nL ((aB 46 s).getD k [])]) rfl rfl rfl rfl (by exact Nat.le_of_eq (Nat.mul_one _)) (fun _ _=>cZ) (aY rfl (.inl rfl) jD) rfl (lz (.cons (cI (rfl)) .nil)) Tryz.underlying137 lw uq nj Eh rfl (by (simp;omega)) (by (simp;omega)) (bi rfl rfl) rfl rfl (Nat.mul_one _) (fun p5=>?_))
  refine ar (ax 1 ?_)
  refine jU 4005 ?_;refine pR ((X++[nL ((aB 46 s).getD k [])],p5)) ?_ rfl ?_
  ·exact ⟨by rw [hX,jp [] hk,List.map_append];rfl,by rw [jp [] hk,List.all_append,hall];simp only [List.all_cons,List.all_nil,Bool.and_true,Bool.true_and,xk];(simp_all;omega)⟩
  ·exact .same (.same (.blk rfl (fun j hj=>by obtain rfl:j=0:=jO;exact cZ) (.same (.same .nil))))
 ·rintro ⟨X,ga⟩ ⟨hX,hall⟩
  rw [List.take_length] at hX hall
  refine jU 50678400 ?_;refine bg (freeze 3 rfl) ?_;refine bg (mr 28 X rfl rfl rfl (Nat.ble_eq_true_of_le (Nat.le_refl _)) (fun j hj=>cZ)) ?_
  refine ak (ap (xi X) ?_)
  refine jU 530 ?_;refine aq (fun h39=>?_) fun h39=>?_
  ·refine iy ?_;refine jI (.rd 0 (.one 1 (.one 2 .done))) ?_;refine ig (dy 0) ?_
   refine iL (ax 1 ?_)
   refine iL (ax 1 ?_)
   refine jU 8700000 ?_
   refine jR (ii (cX (hres:=bH rfl tI tI) (hv:=?_)))
   have hb:=sY hall (by rw [← hX];simpa using h39)
   exact cT (ab.nilS' (by rw [hb.1];rfl)) (ab.errN hb.2)
  refine jU 506810 ?_;refine bg (mr 32 X rfl rfl rfl (Nat.ble_eq_true_of_le (Nat.le_refl _)) (fun j hj=>cZ)) ?_
  refine ar (ax 1 ?_)
  refine ar (ax 1 ?_)
  refine jU 5 ?_
  refine jR (cX (hres:=bH rfl tI tI) (hv:=?_))
  have hb:=u0 hall (by rw [← hX];simpa using h39)
  exact cT (show ab (wl X) _ from ab.of_eq (by rw [hb.1,hX])) (ab.nilE hb.2)
 ·rintro _ ⟨X,ga⟩ ⟨rfl,hbad⟩
  refine .inl ⟨rfl,?_⟩
  refine yY (ii (cX (hres:=bH rfl tI tI) (hv:=?_)))
  have hb:=r8 hbad
  exact cT (ab.nilS' (by rw [hb.1];rfl)) (ab.errN hb.2)
end
section
variable {gs:List Nat} [Ke gs]

end
section
variable {gs:List Nat} [Ke gs]

theorem uZ {s:List UInt8} (h:(bB s).2=0):cC (bB s).1=true:=(ob (s:=s) (l:=(bB s).1) (by rw [← h])).1
theorem zZ {l:List Int} {i:Nat} (h:i<(l.drop 2).length):(((l.drop 2).take (i+1)).map fun n=>dV n.toNat).flatten=(((l.drop 2).take i).map fun n=>dV n.toNat).flatten++dV (l.getD (2+i) 0).toNat:=by
 rw [jp 0 h,List.map_append,List.flatten_append]
 simp [List.getD]
theorem mx {l:List Int} (h:∀ n ∈ l,0≤n∧n≤2147483647):((l.map fun n=>dV n.toNat).flatten).length≤5 * l.length:=by
 induction l with
 | nil=>simp
 | cons a l ih =>
  have h1:=jt (n:=a.toNat) (by have:=h a (by simp);omega)
  have h2:=ih fun n hn=>h n (by simp [hn])
  simp at h2 ⊢
  omega
set_option maxHeartbeats 1000000 in
theorem Lu (s:List UInt8) (hs:s.length≤1000000000):bM gs Tryz.prog 220 [au s] (.tup 2 (fl [bu (gT s),.err (bB s).2])):=by
 refine ai 39 Tryz.func220 fun al w0 F0 St0=>?_;refine jU 165116 ?_
 refine ak (ap (Fq s hs) ?_)
 refine jU 55000001675119009001 ?_;refine aq (fun h70=>?_) fun h70=>?_
 ·refine jU 51116 ?_
  refine jR (ii (cX (hv:=cT (ab.nilS' (by unfold gT;rw [jK];rfl)) cZ)))
 refine jU 7810 ?_
 obtain ⟨hl2,hl16,hall,ha,hb⟩:=ip (uZ (s:=s) jO)
 obtain ⟨l,hl⟩:∃ l,(bB s).1=l:=⟨_,rfl⟩
 rw [hl] at hl2 hl16 hall ha hb ⊢
 have h0:=hall _ (de (l:=l) (k:=0) 0 jO)
 have h1:=hall _ (de (l:=l) (k:=1) 0 jO)
 refine ff (.rd 0 (.rd 1 (.rd 2 (.rd 3 (.rd 4 (.rd 5 (.rd 6 (.rd 7 (.one 8 (.rd 9 .done)))))))))) ?_;refine jU 70 ?_;refine bV (fb (i:=0)) ?_;refine jU 703000070000 ?_;refine bV (fb (i:=1)) ?_;refine jU 3000070000 ?_
 refine kO (FP (uv (40 * l.getD 0 0+l.getD 1 0).toNat jO) (fun p1=>?_) (ho:=rfl) (he:=(.cons (se rfl (cI jO)) .nil)))
 refine jU 16788070 ?_;refine jq (ss (hl:=(bY rfl (show (2:Int)=((2:Nat):Int) from rfl))) (hu:=(dc _ _))) ?_;refine jU 20513 ?_;refine aF (α:=Nat×List UInt8×Option Nat) [6,8,29,30,31,32,33,34,35,36,37] (fun (i,o,g)=>[(6,.os 0 g 0 o.length 1),(29,.c (.int .i64 (i:Nat)))]) (fun (i,o,g)=>[(g,.blk o.length (ft o))]) (fun (i,o,g)=>i≤l.length-2∧o=dV (40 * l.getD 0 0+l.getD 1 0).toNat++(((l.drop 2).take i).map fun n=>dV n.toNat).flatten) (fun (i,o,g)=>l.length-i) ((0,dV (40 * l.getD 0 0+l.getD 1 0).toNat,p1)) ?_ (fun _=>rfl) ?_ ?_ ?_
 ·exact ⟨Nat.zero_le _,by simp⟩
 ·exact .cons cZ (.cons cZ .nil)
 ·exact .same .nil
 ·rintro ⟨i,o,g⟩ ⟨(hi:i≤l.length-2),ho⟩
  have hol:o.length≤5+5 * i:=by
   rw [ho,List.length_append]
   have e1:=jt (n:=(40 * l.getD 0 0+l.getD 1 0).toNat) jO
   have e2:=mx (l:=(l.drop 2).take i) (fun n hn=>hall n (List.mem_of_mem_drop (List.mem_of_mem_take hn)))
   rw [List.length_take,List.length_drop] at e2
   omega
  refine jU 7526 ?_;refine aq (fun h74=>?_) fun h74=>?_
  rotate_left
  ·refine jU 5111684000200020006000 ?_;refine jE (freeze 0 rfl) ?_;refine jE (kE 2 (o) rfl rfl (by rfl) rfl) ?_;refine jU 80007000 ?_
   refine cT (ab.bs ?_) (ab.nilE jO)
   unfold gT
   rw [jP,hl,ho,List.take_of_length_le (by rw [List.length_drop];omega)]
   rfl
  refine jU 51607006207810 ?_
  have h3:=hall _ (de (l:=l) (k:=2+i) 0 jO)
  have h4:=jt (n:=(l.getD (2+i) 0).toNat) jO
  refine jU 11200 ?_
  refine ak (FP (uv (l.getD (2+i) 0).toNat jO) (fun p2=>?_) (ho:=rfl) (he:=(.cons (se rfl (cI jO)) .nil)))
  refine ar (bC rfl rfl rfl (Nat.le_refl _) (fun _ _=>cZ) (aY rfl (.inl rfl) jO) rfl (fun j hj=>by rw [Nat.zero_add];exact cZ) Tryz.underlying22 iM qi f7 rB rfl jO (fun j hj=>rfl) rfl rfl (fun p3=>?_))
  refine jU 8519200840051 ?_
  refine aw ((i+1,o++dV (l.getD (2+i) 0).toNat,p3)) ?_ ?_ (h5:=?_) (h7:=?_)
  ·exact ⟨by omega,by rw [ho,zZ (by rw [List.length_drop];omega),List.append_assoc]⟩
  ·show l.length-(i+1)<l.length-i;omega
  ·exact .cons cZ (.cons (cI jO) .nil)
  ·exact .same .nil
theorem tP (s:List UInt8):(gT s).length≤100:=by
 unfold gT
 split
 ·rename_i h
  obtain ⟨hl2,hl16,hall,ha,hb⟩:=ip (uZ h)
  unfold yI
  have h0:=hall _ (de (l:=(bB s).1) (k:=0) 0 jO)
  have h1:=hall _ (de (l:=(bB s).1) (k:=1) 0 jO)
  have e1:=jt (n:=(40 * (bB s).1.getD 0 0+(bB s).1.getD 1 0).toNat) jO
  have e2:=mx (l:=(bB s).1.drop 2) (fun n hn=>hall n (List.mem_of_mem_drop hn))
  rw [List.length_drop] at e2
  rw [List.length_append]
  omega
 ·simp
end
end Am
end Go.Proofs.YthlpfjnkieaeeaaGreatDoor
namespace Go.Proofs.YthlpfjnkieaeeaaGreatDoor
set_option linter.unusedVariables false
open Go.RowKit Go.ChangeShapes

def nt (x:String×DataW Unit):Bool:=match x.2 with
 | .iface nm (.ptr (.agg [.lit (.string _)])) => nm == "*errors.errorString"
 | _=>false
theorem FS {x : String × DataW Unit} (h : nt x = true) : ∃ text, x.2 = .iface "*errors.errorString" (.ptr (.agg [.lit (.string text)])) := by
 obtain ⟨n,d⟩:=x
 unfold nt at h
 dsimp only at h ⊢
 split at h
 ·exact ⟨_,by rw [eq_of_beq h]⟩
 ·cases h

theorem xz {P:Program} {W:World} {nm:String} {ti tp te ts:TypeId} {ms:Array (String×TypeId)} {f:Field}
  (hi:P.underlying ti=some (.interface ms)) (hrow:∀ u,P.typeName? 3 u=some nm→u=tp)
  (hp:P.underlying tp=some (.pointer te)) (he:P.underlying te=some (.struct #[f])) (hft:f.type=ts) (hfo:f.offset=0) (hs:P.underlying ts=some .string) (hc:P.cellsOf te=1) (hcs:P.cellsOf ts=1) :
  ∀ (L:List (String×DataW Unit)) (ps:List MemPlace),DataW.LaidVars P W L ps →
   (∀ b off,MemPlace.cell b off ∈ ps→(∃ c t,W.heap[b]?=some (.cells c t (0,0)))∧∀ u v,W.cell? ⟨b,off,none⟩=some (.iface u v)→Value.okWide P W .any 0 u v)→ps.Nodup →
   (∀ x ∈ L,nt x=true→(∃ text,x.2=.iface nm (.ptr (.agg [.lit (.string text)])))∧∀ g,P.globalNamed x.1=some g→(P.globals[g]?).map (·.type)=some ti) →
   ∃ al:List Addr,al.length=(L.filter nt).length∧al.Nodup∧(∀ a ∈ al,a.spot=none∧MemPlace.cell a.block a.off ∈ ps) ∧
    ∀ (i:Nat) (x:String×DataW Unit) (a:Addr),(L.filter nt)[i]?=some x→al[i]?=some a→∃ g,P.globalNamed x.1=some g∧W.cell? ⟨g,0,none⟩=some (.iface tp (.pointer (some a)))
 | [],ps,_,_,_,_=>⟨[],rfl,List.nodup_nil,by simp,by simp⟩
 |(n,d)::r,ps,hv,hrows,hnd,hL=>by
  obtain ⟨g,t,cs,fuel,p,q,hg,ht,hvar,hd,hrest,rfl⟩:=hv
  have hnq:q.Nodup:=List.Nodup.sublist (List.sublist_append_right _ _) hnd
  obtain ⟨al,h1,h2,h3,h4⟩:=xz hi hrow hp he hft hfo hs hc hcs r q hrest (fun b off hm=>hrows b off (List.mem_append_right _ hm)) hnq (fun x hx=>hL x (List.mem_cons_of_mem _ hx))
  by_cases hE:nt (n,d)=true
  case neg =>
   have hE:nt (n,d)=false:=by simpa using hE
   rw [List.filter_cons_of_neg (by simp [hE])]
   exact ⟨al,h1,h2,fun a ha=>⟨(h3 a ha).1,List.mem_append_right _ (h3 a ha).2⟩,h4⟩
  obtain ⟨⟨text,hx⟩,hty⟩:=hL (n,d) (List.mem_cons_self ..) hE
  rw [List.filter_cons_of_pos hE]
  simp only at hx
  subst hx
  obtain rfl:=Option.some.inj ((hty g hg).symm.trans ht)
  obtain ⟨l⟩:=cs
  have hcell0:∀ v,l=[v]→W.cell? ⟨g,0,none⟩=some v:=fun v e=>by
   subst e
   simpa using World.var?_cell hg hvar 0
  obtain ⟨a,s,rfl,ha,_,_,rfl⟩:=errorString_of_trod hi hrow hp he hft hfo hs hc hcs hd (fun u v e=>by
   simp only at e
   subst e
   exact (hrows g 0 (by simp [MemPlace.row])).2 u v (hcell0 _ rfl))
  have hsp:a.spot=none:=World.cell?_spot ha
  have hpl:MemPlace.cell a.block a.off ∈ MemPlace.row a 1:=by simp [MemPlace.row]
  refine ⟨a::al,by simp [h1],List.nodup_cons.2 ⟨fun hm=>?_,h2⟩,?_,?_⟩
  ·have hq:=(h3 a hm).2
   have:=(List.nodup_append.1 hnd).2.2 (MemPlace.cell a.block a.off) (List.mem_append_right _ hpl) _ hq
   exact this rfl
  ·intro b hb
   rcases List.mem_cons.1 hb with rfl|hb
   ·exact ⟨hsp,List.mem_append_left _ (List.mem_append_right _ hpl)⟩
   ·exact ⟨(h3 b hb).1,List.mem_append_right _ (h3 b hb).2⟩
  ·intro i x b hi' hb
   match i,hi',hb with
   | 0,hi',hb =>
    simp only [List.getElem?_cons_zero,Option.some.injEq] at hi' hb
    subst hi'
    subst hb
    exact ⟨g,hg,hcell0 _ rfl⟩
   | i+1,hi',hb=>exact h4 i x b (by simpa using hi') (by simpa using hb)

theorem KJ (u : TypeId) (h : Tryz.prog.typeName? 3 u = some "*errors.errorString") : u = 356 := by
 have e : "*errors.errorString" = "*" ++ "errors.errorString" := by decide +kernel
 exact typeName_ptr_named (nm := "errors.errorString") (by rw [← e]; kernel_rfl) (by kernel_rfl) jD u (by rw [← e]; exact h)
theorem JO:Tryz.prog.cellsOf 378=1:=by kernel_rfl
theorem JN:Tryz.prog.cellsOf 9=1:=by kernel_rfl

theorem yp {W:World} {L:List (String×DataW Unit)} {g0:List Nat} (h:laidMetH Tryz.prog L W) (h1:(L.all fun x=>x.2.handleName?.isNone)=true)
  (h3:((L.filter nt).map fun x=>Tryz.prog.globalNamed x.1)=(mg g0).map some) (h4:((mg g0).map fun g=>(Tryz.prog.globals[g]?).map (·.type))=List.replicate (mg g0).length (some 25))
  (ht:rP ∈ rG g0→rO ∈ rG g0→Lib.Utf8Tabs rP rO W) (hAB:((rG g0).contains rP)=((rG g0).contains rO)):∃ al,fY W g0 al:=by
 rw [MakeChecks.laidMetH_plain _ _ _ h1] at h
 obtain ⟨ps,hv,hnd,hrows⟩:=h
 have hlen:(L.filter nt).length=(mg g0).length:=by simpa using congrArg List.length h3
 have hgl:∀ (i:Nat) (x:String×DataW Unit),(L.filter nt)[i]?=some x→∃ g,(mg g0)[i]?=some g∧Tryz.prog.globalNamed x.1=some g:=by
  intro i x hx
  have:=congrArg (fun l=>l[i]?) h3
  simp only [List.getElem?_map,hx,Option.map_some] at this
  obtain ⟨g,hg,e⟩:=Option.map_eq_some_iff.1 this.symm
  exact ⟨g,hg,e.symm⟩
 obtain ⟨al,l1,l2,l3,l4⟩:=xz Tryz.underlying25 KJ Tryz.underlying356 Tryz.underlying378 rfl rfl Tryz.underlying9 JO JN L ps hv hrows hnd
  (fun x hx hE=>⟨FS hE,fun g hg=>by
   obtain ⟨i,hi⟩:=List.mem_iff_getElem?.1 (List.mem_filter.2 ⟨hx,hE⟩)
   obtain ⟨g',hg',e⟩:=hgl i x hi
   obtain rfl:=Option.some.inj (e.symm.trans hg)
   have:=congrArg (fun l=>l[i]?) h4
   simp only [List.getElem?_map,hg',Option.map_some] at this
   have hlt:i<(mg g0).length:=(List.getElem?_eq_some_iff.1 hg').1
   rw [List.getElem?_replicate,if_pos hlt] at this
   exact Option.some.inj this⟩)
 have hvar:∀ i g,(mg g0)[i]?=some g→W.cell? ⟨g,0,none⟩=some (ev al (i+1)):=by
  intro i g hg
  have hlt:i<(mg g0).length:=(List.getElem?_eq_some_iff.1 hg).1
  obtain ⟨x,hx⟩:∃ x,(L.filter nt)[i]?=some x:=⟨(L.filter nt)[i],List.getElem?_eq_getElem jO⟩
  obtain ⟨a,ha⟩:∃ a,al[i]?=some a:=⟨al[i],List.getElem?_eq_getElem jO⟩
  obtain ⟨g',hg',e⟩:=hgl i x hx
  obtain rfl:=Option.some.inj (hg.symm.trans hg')
  obtain ⟨g2,e2,hc⟩:=l4 i x a hx ha
  obtain rfl:=Option.some.inj (e.symm.trans e2)
  rw [hc]
  simp [ev,ha]
 refine ⟨al,by omega,fun i j g g' hi _ hj _ e=>(List.getElem?_inj (by have:=(List.getElem?_eq_some_iff.1 hi).1;omega) l2).1 e,fun i g hi _=>hvar i g hi,fun a ha=>(hrows a.block a.off (l3 a ha).2).1,ht,fun g hg=>?_⟩
 by_cases hT:(Nat.beq g rP || Nat.beq g rO)=true
 ·have hc:rP ∈ rG g0∧rO ∈ rG g0:=by
   rcases Bool.or_eq_true_iff.1 hT with e|e
   ·have:=Nat.eq_of_beq_eq_true e
    subst this
    have h5:(rG g0).contains rP=true:=List.contains_iff_mem.2 hg
    exact ⟨hg,List.contains_iff_mem.1 (hAB ▸ h5)⟩
   ·have:=Nat.eq_of_beq_eq_true e
    subst this
    have h5:(rG g0).contains rO=true:=List.contains_iff_mem.2 hg
    exact ⟨List.contains_iff_mem.1 (hAB.symm ▸ h5),hg⟩
  have hU:=ht hc.1 hc.2
  rcases Bool.or_eq_true_iff.1 hT with e|e
  ·have:=Nat.eq_of_beq_eq_true e
   subst this
   exact World.block_lt_of_cell? W _ (hU.1 0 jD)
  ·have:=Nat.eq_of_beq_eq_true e
   subst this
   exact World.block_lt_of_cell? W _ (hU.2 0 jD).1
 ·have hm:g ∈ mg g0:=List.mem_filter.2 ⟨(qQ.1 hg).1,by
   cases hb:(Nat.beq g rP || Nat.beq g rO) with
   | true=>exact absurd hb hT
   | false=>rfl⟩
  obtain ⟨i,hi⟩:=List.mem_iff_getElem?.1 hm
  exact World.block_lt_of_cell? W _ (hvar i g hi)
theorem Db {P:Program} {W:World} {T E:TypeId} {ao:Option Addr} {len cap:Nat} {H:Type} {enc:TypeId×Value→H} {d:DataW H} {ps:List MemPlace}
  (hT:P.underlying T=some (.slice E)) (hE:P.underlying E=some (.int .u8)) (hc:P.cellsOf E=1)
  (h:DataW.Trod enc P W 0 (fun _=>true) true T (.slice ao len cap) d ps):∃ l,Bs W (.slice ao len cap) l:=by
 obtain ⟨fuel,hf⟩:=h
 rcases open_ints hT hE hc hf with ⟨hcs,_⟩|⟨x,l,c,zs,hcs,_,hl,hm,hz,_,hcell,hwz⟩
 ·simp [Value.cells] at hcs
  obtain ⟨rfl,rfl,rfl⟩:=hcs
  exact ⟨[],Bs.nil W⟩
 ·simp [Value.cells] at hcs
  obtain ⟨rfl,rfl,rfl⟩:=hcs
  have hz':zs.length=cap:=by simpa using hz
  have hlen:((zs.take len).map fun z=>UInt8.ofNat z.toNat).length=len:=by simp;omega
  have key:∀ i,i<len→W.cell? (x.add i)=some (.int .u8 ((((zs.take len).map fun z=>UInt8.ofNat z.toNat).getD i 0).toNat:Nat)):=by
   intro i hi
   rw [hcell i jO]
   have hzi:zs[i]?=some (zs.getD i 0):=by simp [List.getD,show i<zs.length by omega]
   have hwf:=hwz (zs.getD i 0) (List.mem_of_getElem? hzi)
   have hb:=bounds_u8 hwf
   have e:((zs.take len).map fun z=>UInt8.ofNat z.toNat).getD i 0=UInt8.ofNat (zs.getD i 0).toNat:=by
    simp [List.getD,hi,show i<zs.length by omega]
   rw [e,UInt8.toNat_ofNat']
   congr 2
   omega
  obtain ⟨b,o,sp⟩:=x
  have hm':cap≤9223372036854775807:=by unfold maxLen at hm;omega
  by_cases h0:len=0
  ·subst h0
   exact ⟨[],_,cap,rfl,by simp,hm',by simp,fun y hy=>by
    cases hy
    exact ⟨fun h=>by simp at h,fun i hi=>by simp at hi⟩⟩
  ·have hsp:sp=none:=by
    have:=World.cell?_spot (key 0 jO)
    simpa [Addr.add] using this
   subst hsp
   refine ⟨(zs.take len).map fun z=>UInt8.ofNat z.toNat,?_⟩
   have:=Bs.of_cells (w:=W) (b:=b) (o:=o) (cap:=cap) (l:=(zs.take len).map fun z=>UInt8.ofNat z.toNat) jO hm' (fun i hi=>by
    have:=key i jO
    rwa [Addr.add_lit] at this)
   rwa [hlen] at this
end Go.Proofs.YthlpfjnkieaeeaaGreatDoor
namespace Go.Proofs.YthlpfjnkieaeeaaGreatDoor
set_option linter.unusedVariables false
open Go.RowKit Go.ChangeShapes
def BW:Go.Shelf.Ren:=⟨fun n=>n,fun|5=>5|119=>330|138=>332|139=>333|n=>n,fun|3=>29|4=>30|n=>n⟩
theorem GY:U8Types Tryz.prog BW where
 t5:=Tryz.underlying5
 t119:=Tryz.underlying330
 t138:=Tryz.underlying332
 t139:=Tryz.underlying333
theorem GZ:U8Extra Tryz.prog BW where
 n3:=by kernel_rfl
 n4:=by kernel_rfl
 y3:=by kernel_rfl
 y4:=by kernel_rfl
 c5:=by kernel_rfl
 c119:=by kernel_rfl
 c138:=by kernel_rfl
theorem yj {W : World} {L : List (String × DataW Unit)} (h : laidMetH Tryz.prog L W) (h1 : (L.all fun x => x.2.handleName?.isNone) = true) {i j : Nat} (hi : L[i]? = some ("unicode/utf8.first", Lib.firstData)) (hj : L[j]? = some ("unicode/utf8.acceptRanges", Lib.acceptData)) : Lib.Utf8Tabs rP rO W := by
 rw [MakeChecks.laidMetH_plain _ _ _ h1] at h
 obtain ⟨ps,hv,hnd,hrows⟩:=h
 exact utf8Tabs_of_readsT (ρ:=BW) GY GZ (Lib.LaidVars_reads hv _ _ (List.mem_of_getElem? hi)) (Lib.LaidVars_reads hv _ _ (List.mem_of_getElem? hj))
end Go.Proofs.YthlpfjnkieaeeaaGreatDoor
namespace Go.Proofs.YthlpfjnkieaeeaaGreatDoor
set_option linter.unusedVariables false
open Go.RowKit Go.ChangeShapes
def OX:Go.Shelf.Ren:=⟨fun|196=>270|259=>288|n=>n,fun|0=>0|3=>3|4=>4|5=>5|9=>9|12=>12|46=>267|53=>291|119=>330|138=>332|139=>333|n=>n,fun|3=>29|4=>30|n=>n⟩
theorem Nn:Go.Proofs.Lays.n196 Tryz.prog OX:={
 mixed:=by kernel_rfl
 f196:=Tryz.func270.trans (congrArg some (by kernel_rfl))
 f259:=Tryz.func288.trans (congrArg some (by kernel_rfl))
 t0:=Tryz.underlying0
 a0:=Tryz.isAgg0
 z0:=Tryz.sizeOf0
 v0:=Tryz.zeroValue0
 t3:=Tryz.underlying3
 a3:=Tryz.isAgg3
 z3:=Tryz.sizeOf3
 v3:=Tryz.zeroValue3
 t4:=Tryz.underlying4
 a4:=Tryz.isAgg4
 z4:=Tryz.sizeOf4
 v4:=Tryz.zeroValue4
 t5:=Tryz.underlying5
 a5:=Tryz.isAgg5
 z5:=Tryz.sizeOf5
 v5:=Tryz.zeroValue5
 t9:=Tryz.underlying9
 a9:=Tryz.isAgg9
 z9:=Tryz.sizeOf9
 v9:=Tryz.zeroValue9
 t12:=Tryz.underlying12
 a12:=Tryz.isAgg12
 z12:=Tryz.sizeOf12
 v12:=Tryz.zeroValue12
 t46:=Tryz.underlying267
 a46:=Tryz.isAgg267
 z46:=Tryz.sizeOf267
 v46:=Tryz.zeroValue267
 t53:=Tryz.underlying291
 a53:=Tryz.isAgg291
 z53:=Tryz.sizeOf291
 v53:=Tryz.zeroValue291
 t119:=Tryz.underlying330
 a119:=Tryz.isAgg330
 z119:=Tryz.sizeOf330
 t138:=Tryz.underlying332
 a138:=Tryz.isAgg332
 z138:=Tryz.sizeOf332
 v138:=Tryz.zeroValue332
 t139:=Tryz.underlying333
 a139:=Tryz.isAgg333
 z139:=Tryz.sizeOf333
 v139:=Tryz.zeroValue333
 g3:=by kernel_rfl
 g4:=by kernel_rfl }
namespace Am
class mm (l:List Nat):Prop where
 a:rP ∈ rG l
 b:rO ∈ rG l
instance okTT:mm Qx:=⟨by decide,by decide⟩
theorem GL {gs:List Nat} [mm gs] (l:List UInt8) (hl:l.length≤9223372036854775807):bM gs Tryz.prog 270 [au l] (.c (.bool (Lib.validD l))) :=
 oC fun al w St vals hs hv hr=>by
  have h0:vals.getD 0 undef=.string ⟨l.toArray⟩:=hr 0
  rw [GK hv,h0]
  exact Any.utf8_ValidString Nn ⟨l.toArray⟩ w hl (hs.tab mm.a mm.b)
end Am
end Go.Proofs.YthlpfjnkieaeeaaGreatDoor
namespace Go.Proofs.YthlpfjnkieaeeaaGreatDoor
set_option linter.unusedVariables false
namespace Am
open Go.RowKit
section
open Go.RowKit Go.Lib
def gw (b n c least:Nat):Prop :=
 (n=0∧c=b∧least=0∧b<128∧32≤b∧b≠127)∨(n=1∧c+192=b∧least=128∧b<224)∨(n=2∧c+224=b∧least=2048∧b<240)∨(n=3∧c+240=b∧least=65536∧b<248)
def cR (d:List UInt8) (c0:Nat):Nat→Nat
 | 0=>c0
 | j+1=>cR d c0 j * 64+bt d (j+1)-128
theorem PN {d:List UInt8} {c0 j:Nat} (hj:j≤3) (h0:c0<128) (h:∀ q,1≤q→q≤j→128≤bt d q∧bt d q≤191):cR d c0 j<33554432∧(j≤2→cR d c0 j<524288):=by
 have h1:=h 1 jO
 have h2:=h 2 jO
 have h3:=h 3 jO
 have e0:cR d c0 0=c0:=rfl
 have e1:cR d c0 1=c0 * 64+bt d 1-128:=rfl
 have e2:cR d c0 2=(c0 * 64+bt d 1-128) * 64+bt d 2-128:=rfl
 have e3:cR d c0 3=((c0 * 64+bt d 1-128) * 64+bt d 2-128) * 64+bt d 3-128:=rfl
 have hj4:j=0∨j=1∨j=2∨j=3:=by omega
 rcases hj4 with e|e|e|e <;> rw [e] <;> omega
theorem uM {d:List UInt8} {n c least j:Nat} (hd:d≠[]) (hR:gw (bt d 0) n c least) (hj:j<n) (hl:d.length=1+j∨bt d (j+1)<128∨191<bt d (j+1)):fO d=false:=by
 refine gM hd ?_
 unfold gw at hR
 rcases hR with hR|hR|hR|hR
 ·omega
 ·rw [Eg jO jO,if_pos ?_]
  obtain rfl:j=0:=by omega
  simp only [Nat.zero_add] at hl
  omega
 ·rw [xV jO jO,if_pos ?_]
  have:j=0∨j=1:=by omega
  rcases this with rfl|rfl <;> simp only [Nat.zero_add,Nat.reduceAdd] at hl <;> omega
 ·rw [Bt jO jO,if_pos ?_]
  have:j=0∨j=1∨j=2:=by omega
  rcases this with rfl|rfl|rfl <;> simp only [Nat.zero_add,Nat.reduceAdd] at hl <;> omega
theorem qF {d:List UInt8} {n c least:Nat} (hd:d≠[]) (hR:gw (bt d 0) n c least) (hl:1+n≤d.length) (h:∀ q,1≤q→q≤n→128≤bt d q∧bt d q≤191) :
  fO d=if cR d c n<least∨1114111<cR d c n∨(55296≤cR d c n∧cR d c n<57344) then false else fO (d.drop (1+n)):=by
 have h1:=h 1 jO
 have h2:=h 2 jO
 have h3:=h 3 jO
 unfold gw at hR
 rcases hR with ⟨rfl,rfl,rfl,hR⟩|⟨rfl,hc,rfl,hR⟩|⟨rfl,hc,rfl,hR⟩|⟨rfl,hc,rfl,hR⟩
 ·rw [oV hd jO,jK,if_neg (by show ¬ (bt d 0<0∨1114111<bt d 0∨(55296≤bt d 0∧bt d 0<57344));omega)]
 ·have e:cR d c 1=(bt d 0-192) * 64+bt d 1-128:=by show c * 64+bt d 1-128=_;omega
  have hd2:=Eg (l:=d) jO jO
  rw [e]
  by_cases hb:(bt d 0-192) * 64+bt d 1-128<128
  ·rw [if_pos (.inl hb)]
   exact gM hd (by rw [hd2,jP])
  ·rw [jK]
   exact uL hd (by rw [hd2,jK]) jO jO
 ·have e:cR d c 2=((bt d 0-224) * 64+bt d 1-128) * 64+bt d 2-128:=by show (c * 64+bt d 1-128) * 64+bt d 2-128=_;omega
  have hd2:=xV (l:=d) jO jO
  obtain ⟨C,hC⟩:∃ C,C=((bt d 0-224) * 64+bt d 1-128) * 64+bt d 2-128:=⟨_,rfl⟩
  have hlt:C≤65535:=by omega
  rw [e,← hC]
  rw [← hC] at hd2
  by_cases hb:C<2048∨(55296≤C∧C<57344)
  ·rw [jP]
   exact gM hd (by rw [hd2,jP])
  ·rw [jK]
   exact uL hd (by rw [hd2,jK]) jO jO
 ·have e:cR d c 3=(((bt d 0-240) * 64+bt d 1-128) * 64+bt d 2-128) * 64+bt d 3-128:=by show ((c * 64+bt d 1-128) * 64+bt d 2-128) * 64+bt d 3-128=_;omega
  have hd2:=Bt (l:=d) jO jO
  obtain ⟨C,hC⟩:∃ C,C=(((bt d 0-240) * 64+bt d 1-128) * 64+bt d 2-128) * 64+bt d 3-128:=⟨_,rfl⟩
  rw [e,← hC]
  rw [← hC] at hd2
  by_cases hb:C<65536∨1114111<C
  ·rw [jP]
   exact gM hd (by rw [hd2,jP])
  ·rw [jK]
   exact uL hd (by rw [hd2,jK]) jO jO
theorem pr (l:List UInt8) (i j:Nat):bt (l.drop i) j=bt l (i+j):=by simp [bt,List.getD]
theorem Ov (l:List UInt8) (i:Nat):Utf8.decode ⟨l.toArray⟩ i=fj (l.drop i):=by
 unfold fj
 rw [Lib.decode_at,lD,lD,lD,lD,pr,pr,pr,pr,List.length_drop]
 rfl
theorem Mt {d:List UInt8} (hd:d≠[]):(fj d).2≤d.length:=by
 have hp:=List.length_pos_iff.2 hd
 unfold fj Lib.decodeN
 repeat' split
 all_goals first|(simp only;omega)|omega
end
section
theorem Co {gs:List Nat} [mm gs] (l:List UInt8) (hl:l.length≤1000000000):bM gs Tryz.prog 258 [au l] (.c (.bool (fO l))):=by
 refine ai 18 Tryz.func258 fun al w0 F0 St0=>?_;refine jU 167516 ?_
 refine ak (Mk rfl rfl Tryz.underlying9 rfl rfl (fun p1=>?_))
 refine jU 205 ?_;refine aF (α:=Nat) [2,4,7,8,9,10,11,12,13,14,15] (fun i=>[]) (fun i=>[(some p1,.obj (qa ⟨l.toArray⟩ i))]) (fun i=>i≤l.length∧sd (l.drop i)=sd l) (fun i=>l.length-i) (0) ?_ (fun _=>rfl) ?_ ?_ ?_
 ·exact ⟨Nat.zero_le _,rfl⟩
 ·exact .nil
 ·exact .same .nil
 ·rintro i ⟨hi,he⟩
  refine cy ?_
  refine G9 (bq rfl) (N8 rfl rfl rfl rfl rfl (fun n23=>?_) (fun n23=>?_))
  ·refine jU 51900620810900075900 ?_
   have hd:=Ov l i
   have hlt:i<l.length:=n23
   have hne:l.drop i≠[]:=by intro e;have:=congrArg List.length e;simp at this;omega
   have hw:=kX (l.drop i)
   have hwl:=Mt hne
   simp only [List.length_drop] at hwl
   rw [← hd] at hw hwl
   refine jU 1216 ?_;refine ay 12 (fun g24=>?_) fun g24=>?_
   ·refine jU 8000300050003000500070005169000510000000044 ?_;refine cB ?_
    rw [pU,← he,oc hne,← hd,if_pos ?_]
    ·rfl
    ·unfold tJ;simp only [Bool.or_eq_true,decide_eq_true_eq];omega
   refine jU 550021 ?_;refine aq (fun h24=>?_) fun h24=>?_
   ·refine jU 800030005000300050007000516 ?_;refine cB ?_
    rw [pU,← he,oc hne,← hd,if_pos ?_]
    ·rfl
    ·unfold tJ;simp only [Bool.or_eq_true,decide_eq_true_eq];omega
   refine jU 840010 ?_
   refine aw (i+(Utf8.decode ⟨l.toArray⟩ i).2) ?_ ?_ (h5:=?_) (h7:=?_)
   ·refine ⟨by omega,?_⟩
    have hb:¬ tJ (Utf8.decode ⟨l.toArray⟩ i).1=true:=by unfold tJ;simp only [Bool.or_eq_true,decide_eq_true_eq];omega
    rw [← he,oc hne,← hd,if_neg hb,List.drop_drop]
   ·show l.length-(i+(Utf8.decode ⟨l.toArray⟩ i).2)<l.length-i;omega
   ·exact .nil
   ·exact .same .nil
  ·refine jU 168400020002000600030075900 ?_
   refine ak (ap (GL l jO) ?_)
   refine jU 8000700051 ?_;refine cB ?_
   have e:l.drop i=[]:=List.drop_eq_nil_of_le (Nat.le_of_not_lt n23)
   rw [pU,← he,e]
   rfl


set_option maxHeartbeats 4000000 in
theorem EU {gs:List Nat} (l:List UInt8) (hl:l.length≤1000000000):bM gs Tryz.prog 243 [au l] (.c (.bool (fO l))):=by
 refine ai 94 Tryz.func243 fun al w0 F0 St0=>?_;refine jU 207516516 ?_;refine aF (α:=Nat) [2,3,4,5,6,7,8,9,10,11,12,13,14,15,16,17,18,19,20,21,22,23,24,25,26,27,28,29,30,31,32,33,34,35,36,37,38,39,40,41,42,43,44,45,46,47,48,49,50,51,52,53,54,55,56,57,58,59,60,61,62,63,64,65,66,67,68,69,70,71,72,73,74,75,76,77,78,79,80,81,82,83,84,85,86,87,88,89,90,91,92,93] (fun i=>[(3,.c (.int .i64 (i:Nat)))]) (fun _=>[]) (fun i=>i≤l.length∧fO (l.drop i)=fO l) (fun i=>l.length-i) (0) ?_ (fun _=>rfl) ?_ ?_ ?_
 ·exact ⟨Nat.zero_le _,rfl⟩
 ·exact .cons cZ .nil
 ·(repeat (exact aS.nil))
 ·rintro i ⟨hi,he⟩
  refine jU 52400001167 ?_;refine aq (fun h9=>?_) fun h9=>?_
  rotate_left
  ·refine jU 8000700051684000200020006000 ?_;refine cB ?_
   rw [← he,List.drop_eq_nil_of_le jO]
   rfl
  refine jU 5111700000008000000011620810 ?_
  have hlt:i<l.length:=by omega
  have hne:l.drop i≠[]:=by intro e;have:=congrArg List.length e;simp at this;omega
  obtain ⟨b,hb⟩:∃ b,b=bt (l.drop i) 0:=⟨_,rfl⟩
  have hbl:b<256:=by rw [hb];exact tz _ _
  refine eW (α:=Nat×Nat×Nat) [2,4,5,6,15,16,17,18,19,20,21,22,23,24,25,26,27,28,29,30,31,32,33,34,35,36,37,38,39,40,41,42,43,44,45,46] (fun (n,c,z)=>[(4,.c (.int .i64 (c:Nat))),(5,.c (.int .i64 (n:Nat))),(6,.c (.int .i64 (z:Nat)))]) (fun _=>[]) (fun (n,c,z)=>gw (bt (l.drop i) 0) n c z) (fun _=>rfl) ?_ ?_
  ·refine jE (bF 4 (.c (.int .i64 (b:Nat))) (cI (by rw [hb,pr];rfl))) ?_;refine jU 5216 ?_;refine aq (fun h11=>?_) fun h11=>?_
   ·refine jU 1216 ?_;refine ay 19 (fun g12=>?_) fun g12=>?_
    ·refine jU 80003000500030005000300070005169000510000000044 ?_;refine cB ?_
     rw [← he,oV hne (by rw [← hb];omega),if_pos (by rw [← hb];omega)]
    refine jU 550021 ?_;refine aq (fun h12=>?_) fun h12=>?_
    rotate_left
    ·refine jU 810 ?_
     refine dh ((0,b,0)) ?_ (h5:=?_)
     ·show gw (bt (l.drop i) 0) _ _ _
      rw [← hb];unfold gw;omega
     ·exact .cons (cI jO) (.cons (cI jO) (.cons (cI jO) .nil))
    refine jU 8000300050003000500030007000516 ?_;refine cB ?_
    rw [← he,oV hne (by rw [← hb];omega),if_pos (by rw [← hb];omega)]
   refine jU 1216 ?_;refine ay 25 (fun g15=>?_) fun g15=>?_
   rotate_left
   ·refine jU 1216300550044 ?_;refine ay 33 (fun g17=>?_) fun g17=>?_
    rotate_left
    ·refine jU 1216300550044 ?_;refine ay 41 (fun g19=>?_) fun g19=>?_
     rotate_left
     ·refine jU 8000300050003000500030007000516300550044 ?_;refine cB ?_
      rw [← he,gM hne (eA (by rw [← hb];omega) (by rw [← hb];omega))]
     refine jU 510000000021 ?_;refine aq (fun h19=>?_) fun h19=>?_
     rotate_left
     ·refine jU 8000300050003000500030007000516 ?_;refine cB ?_
      rw [← he,gM hne (eA (by rw [← hb];omega) (by rw [← hb];omega))]
     refine jU 8511191200 ?_
     refine dh ((3,b-240,65536)) ?_ (h5:=?_)
     ·show gw (bt (l.drop i) 0) _ _ _
      rw [← hb];unfold gw;omega
     ·exact .cons (cI jO) (.cons (cI jO) (.cons (cI jO) .nil))
    refine jU 510000000021 ?_;refine aq (fun h17=>?_) fun h17=>?_
    ·refine jU 8511191200 ?_
     refine dh ((3,b-240,65536)) ?_ (h5:=?_)
     ·show gw (bt (l.drop i) 0) _ _ _
      rw [← hb];unfold gw;omega
     ·exact .cons (cI jO) (.cons (cI jO) (.cons (cI jO) .nil))
    refine jU 1216 ?_;refine ay 41 (fun g19=>?_) fun g19=>?_
    rotate_left
    ·refine jU 8000300050003000500030007000516300550044 ?_;refine cB ?_
     rw [← he,gM hne (eA (by rw [← hb];omega) (by rw [← hb];omega))]
    refine jU 510000000021 ?_;refine aq (fun h19=>?_) fun h19=>?_
    rotate_left
    ·refine jU 8000300050003000500030007000516 ?_;refine cB ?_
     rw [← he,gM hne (eA (by rw [← hb];omega) (by rw [← hb];omega))]
    refine jU 8511191200 ?_
    refine dh ((3,b-240,65536)) ?_ (h5:=?_)
    ·show gw (bt (l.drop i) 0) _ _ _
     rw [← hb];unfold gw;omega
    ·exact .cons (cI jO) (.cons (cI jO) (.cons (cI jO) .nil))
   refine jU 510000000021 ?_;refine aq (fun h15=>?_) fun h15=>?_
   ·refine jU 8511191200 ?_
    refine dh ((1,b-192,128)) ?_ (h5:=?_)
    ·show gw (bt (l.drop i) 0) _ _ _
     rw [← hb];unfold gw;omega
    ·exact .cons (cI jO) (.cons (cI jO) (.cons (cI jO) .nil))
   refine jU 1216 ?_;refine ay 33 (fun g17=>?_) fun g17=>?_
   rotate_left
   ·refine jU 1216300550044 ?_;refine ay 41 (fun g19=>?_) fun g19=>?_
    rotate_left
    ·refine jU 8000300050003000500030007000516300550044 ?_;refine cB ?_
     rw [← he,gM hne (eA (by rw [← hb];omega) (by rw [← hb];omega))]
    refine jU 510000000021 ?_;refine aq (fun h19=>?_) fun h19=>?_
    rotate_left
    ·refine jU 8000300050003000500030007000516 ?_;refine cB ?_
     rw [← he,gM hne (eA (by rw [← hb];omega) (by rw [← hb];omega))]
    refine jU 8511191200 ?_
    refine dh ((3,b-240,65536)) ?_ (h5:=?_)
    ·show gw (bt (l.drop i) 0) _ _ _
     rw [← hb];unfold gw;omega
    ·exact .cons (cI jO) (.cons (cI jO) (.cons (cI jO) .nil))
   refine jU 510000000021 ?_;refine aq (fun h17=>?_) fun h17=>?_
   ·refine jU 8511191200 ?_
    refine dh ((2,b-224,2048)) ?_ (h5:=?_)
    ·show gw (bt (l.drop i) 0) _ _ _
     rw [← hb];unfold gw;omega
    ·exact .cons (cI jO) (.cons (cI jO) (.cons (cI jO) .nil))
   refine jU 1216 ?_;refine ay 41 (fun g19=>?_) fun g19=>?_
   rotate_left
   ·refine jU 8000300050003000500030007000516300550044 ?_;refine cB ?_
    rw [← he,gM hne (eA (by rw [← hb];omega) (by rw [← hb];omega))]
   refine jU 510000000021 ?_;refine aq (fun h19=>?_) fun h19=>?_
   rotate_left
   ·refine jU 8000300050003000500030007000516 ?_;refine cB ?_
    rw [← he,gM hne (eA (by rw [← hb];omega) (by rw [← hb];omega))]
   refine jU 8511191200 ?_
   refine dh ((3,b-240,65536)) ?_ (h5:=?_)
   ·show gw (bt (l.drop i) 0) _ _ _
    rw [← hb];unfold gw;omega
   ·exact .cons (cI jO) (.cons (cI jO) (.cons (cI jO) .nil))
  ·rintro ⟨n0,c0,least⟩ hR0
   have hR:gw (bt (l.drop i) 0) n0 c0 least:=hR0
   clear hR0
   have hRb:=hR
   rw [← hb] at hRb
   unfold gw at hRb
   have hn3:n0≤3:=by omega
   have hc128:c0<128:=by omega
   have hl6:least≤65536:=by omega
   clear hRb
   refine jU 20751916 ?_;refine aF (α:=Nat) [2,3,4,5,49,50,51,52,53,54,55,56,57,58,59,60,61,62,63,64,65,66,67,68,69,70,71,72,73,74,75,76,77,78] (fun j=>[(3,.c (.int .i64 (((i+1+j:Nat):Int)))),(4,.c (.int .i64 (cR (l.drop i) c0 j:Nat))),(5,.c (.int .i64 ((n0-j:Nat):Int)))]) (fun _=>[]) (fun j=>j≤n0∧i+1+j≤l.length∧∀ q,1≤q→q≤j→128≤bt (l.drop i) q∧bt (l.drop i) q≤191) (fun j=>n0-j) (0) ?_ (fun _=>rfl) ?_ ?_ ?_
   ·exact ⟨Nat.zero_le _,by omega,fun q h1 h2=>by omega⟩
   ·exact .cons (cI jO) (.cons cZ (.cons cZ .nil))
   ·(repeat (exact aS.nil))
   ·rintro j ⟨hj,hil,hq⟩
    have hcb:=PN (d:=l.drop i) (c0:=c0) (j:=j) jO hc128 hq
    refine jU 52167 ?_;refine aq (fun h25=>?_) fun h25=>?_
    rotate_left
    ·refine jU 84000200020006000 ?_
     have hjn:j=n0:=by omega
     subst hjn
     obtain ⟨C,hjn⟩:∃ C,C=cR (l.drop i) c0 j:=⟨_,rfl⟩
     rw [← hjn] at hcb
     refine jE (bF 4 (.c (.int .i64 (C:Nat))) (cI (by rw [hjn]))) ?_;refine jU 12116 ?_;refine ay 82 (fun g32=>?_) fun g32=>?_
     ·refine jU 80003000500030005000700051690005100000000444444110000000044 ?_;refine cB ?_
      rw [← he,qF hne hR (by rw [List.length_drop];omega) hq,if_pos (by rw [← hjn];omega)]
     refine jU 150021 ?_;refine ay 86 (fun g32_2=>?_) fun g32_2=>?_
     ·refine jU 80003000500030005000700051690005100000000444444 ?_;refine cB ?_
      rw [← he,qF hne hR (by rw [List.length_drop];omega) hq,if_pos (by rw [← hjn];omega)]
     refine jU 121 ?_;refine ay 89 (fun g32_3=>?_) fun g32_3=>?_
     rotate_left
     ·refine jU 840010300550050044 ?_
      refine aw (i+(1+j)) ?_ ?_ (h5:=?_)
      ·refine ⟨by omega,?_⟩
       rw [← he,qF hne hR (by rw [List.length_drop];omega) hq,if_neg (by rw [← hjn];omega),List.drop_drop]
      ·show l.length-(i+(1+j))<l.length-i;omega
      ·exact .cons (cI jO) .nil
     refine jU 550010000000021 ?_;refine aq (fun h32=>?_) fun h32=>?_
     ·refine jU 800030005000300050007000516 ?_;refine cB ?_
      rw [← he,qF hne hR (by rw [List.length_drop];omega) hq,if_pos (by rw [← hjn];omega)]
     refine jU 840010 ?_
     refine aw (i+(1+j)) ?_ ?_ (h5:=?_)
     ·refine ⟨by omega,?_⟩
      rw [← he,qF hne hR (by rw [List.length_drop];omega) hq,if_neg (by rw [← hjn];omega),List.drop_drop]
     ·show l.length-(i+(1+j))<l.length-i;omega
     ·exact .cons (cI jO) .nil
    refine jU 7207810 ?_
    obtain ⟨x,hx⟩:∃ x,x=bt (l.drop i) (j+1):=⟨_,rfl⟩
    have hx2:(l.getD (i+1+j) 0).toNat=x:=by rw [hx,pr,show i+(j+1)=i+1+j by omega];rfl
    have hxl:x<256:=by rw [hx];exact tz _ _
    refine jU 1240000116 ?_;refine ay 57 (fun g26=>?_) fun g26=>?_
    ·refine jU 80003000500030005000300050003000300050003000700051690005100000000444411000000004444 ?_;refine cB ?_
     rw [← he,uM hne hR (show j<n0 by omega) (by rw [← hx,List.length_drop];omega)]
    refine jU 150028000000011 ?_;refine ay 63 (fun g26_2=>?_) fun g26_2=>?_
    ·refine jU 800030005000300050003000500030003000500030007000516900051000000004444 ?_;refine cB ?_
     rw [← he,uM hne hR (show j<n0 by omega) (by rw [← hx,List.length_drop];omega)]
    refine jU 550028000000011 ?_;refine aq (fun h26=>?_) fun h26=>?_
    ·refine jU 800030005000300050003000500030003000500030007000516 ?_;refine cB ?_
     rw [← he,uM hne hR (show j<n0 by omega) (by rw [← hx,List.length_drop];omega)]
    refine jU 85191200840051912005199700000008000000011916810 ?_
    refine aw (j+1) ?_ ?_ (h5:=?_)
    ·refine ⟨by omega,by omega,fun q h1 h2=>?_⟩
     by_cases e:q=j+1
     ·rw [e,← hx];omega
     ·exact hq q h1 jO
    ·show n0-(j+1)<n0-j;omega
    ·exact .cons (cI jO) (.cons (cI (by show _=((cR (l.drop i) c0 j * 64+bt (l.drop i) (j+1)-128:Nat):Int);rw [← hx];omega)) (.cons (cI jO) .nil))
end
section
end
section
variable {gs:List Nat} [fZ gs]


end
section
variable {gs:List Nat} [eN gs]
set_option linter.unusedVariables false
end
section
def tV (c:UInt8):Bool:=(decide (97≤c.toNat) && decide (c.toNat≤122)) || (decide (48≤c.toNat) && decide (c.toNat≤57)) || decide (c.toNat=45)
def lc (l:List UInt8):Bool:=decide (l≠[]) && decide (l.length≤24) && decide (l.getD 0 0≠45) && decide (l.getD (l.length-1) 0≠45) && l.all tV
theorem AT {l:List UInt8} (h:lc l=true):(58:UInt8) ∉ l∧(47:UInt8) ∉ l∧l≠[]:=by
 simp only [lc,Bool.and_eq_true,decide_eq_true_eq,List.all_eq_true] at h
 obtain ⟨⟨⟨⟨h1,_⟩,_⟩,_⟩,h2⟩:=h
 exact ⟨fun hm=>by have:=h2 _ hm;revert this;decide,fun hm=>by have:=h2 _ hm;revert this;decide,h1⟩
abbrev S3:=Int×List UInt8×List UInt8
def nk:List (List UInt8):=[[110,111,100,101],[119,111,114,107,108,111,97,100],[111,112,101,114,97,116,111,114],[98,111,111,116],[99,97]]
def fk (k:Int):List UInt8:=if k<1 then [] else nk.getD (k-1).toNat []
def bx (s:S3):Bool:=decide (1≤s.1) && decide (s.1≤5) && lc s.2.2 && (if s.1=2 then lc s.2.1 else decide (s.2.1=[]))
theorem ky (s:S3):bx s=true↔1≤s.1∧s.1≤5∧lc s.2.2=true∧(s.1=2→lc s.2.1=true)∧(s.1≠2→s.2.1=[]):=by
 simp only [bx,Bool.and_eq_true,decide_eq_true_eq]
 by_cases h:s.1=2
 ·rw [if_pos h]
  exact ⟨fun ⟨⟨⟨a,b⟩,c⟩,d⟩=>⟨a,b,c,fun _=>d,fun e=>absurd h e⟩,fun ⟨a,b,c,d,_⟩=>⟨⟨⟨a,b⟩,c⟩,d h⟩⟩
 ·rw [if_neg h,decide_eq_true_eq]
  exact ⟨fun ⟨⟨⟨a,b⟩,c⟩,d⟩=>⟨a,b,c,fun e=>absurd e h,fun _=>d⟩,fun ⟨a,b,c,_,d⟩=>⟨⟨⟨a,b⟩,c⟩,d h⟩⟩
theorem kinds {k:Int} (h1:1≤k) (h5:k≤5):k=1∨k=2∨k=3∨k=4∨k=5:=by omega
theorem wI (k:Int):fk k=[]↔¬ (1≤k∧k≤5):=by
 constructor
 ·intro h hk
  rcases kinds hk.1 hk.2 with rfl|rfl|rfl|rfl|rfl <;> exact absurd h jD
 ·intro h
  unfold fk
  by_cases h1:k<1
  ·rw [if_pos h1]
  ·rw [if_neg h1,List.getD_eq_getElem?_getD,List.getElem?_eq_none (by show 5≤_;omega)];rfl
theorem GG {k:Int} (h1:1≤k) (h5:k≤5):((nk.idxOf (fk k):Nat):Int)+1=k∧fk k ∈ nk:=by
 rcases kinds h1 h5 with rfl|rfl|rfl|rfl|rfl <;> decide
def sx (w:List UInt8):Int:=if w ∈ nk then (nk.idxOf w:Nat)+1 else 0
theorem L3 (w:List UInt8):0≤sx w∧sx w≤5:=by
 unfold sx
 split
 ·rename_i h
  have:=List.idxOf_lt_length_iff.2 h
  have e:nk.length=5:=rfl
  omega
 ·omega
def bA:S3:=(0,[],[])
def N0:List UInt8:=[49,46,51,46,57,57,57,57,46,49,46]
def mM:List UInt8:=N0++[49]
def pV:List UInt8:=N0++[50]
def mL:List UInt8:=N0++[51]
abbrev P2:=List UInt8×List UInt8
def aX (s:S3):List P2:=if s.2.1=[] then [(mM,fk s.1),(mL,s.2.2)] else [(mM,fk s.1),(pV,s.2.1),(mL,s.2.2)]
def sT (s:S3) (p:P2):S3:=if p.1=mM then (sx p.2,s.2.1,s.2.2) else if p.1=pV then (s.1,p.2,s.2.2) else if p.1=mL then (s.1,s.2.1,p.2) else s
def eH (l:List P2):S3:=l.foldl sT bA
theorem A7 {s:S3} (h:bx s=true):eH (aX s)=s:=by
 obtain ⟨h1,h5,hn,h2,hs⟩:=(ky s).1 h
 obtain ⟨k,sp,nm⟩:=s
 have hk:sx (fk k)=k:=by
  have hi:=GG h1 h5
  unfold sx;rw [if_pos hi.2];exact hi.1
 have ks:pV≠mM:=by decide
 have kn:mL≠mM:=by decide
 have sn:mL≠pV:=by decide
 unfold aX
 by_cases he:sp=[]
 ·subst he
  simp [eH,sT,hk,kn,sn,bA]
 ·simp [eH,sT,hk,ks,kn,sn,bA,he]
def kJ (l:List P2):S3×Nat:=if bx (eH l)=true∧aX (eH l)=l then (eH l,0) else (bA,9)
theorem DP (l:List P2) (s:S3):kJ l=(s,0)↔bx s=true∧aX s=l:=by
 constructor
 ·intro h
  unfold kJ at h
  split at h
  ·rename_i h1
   obtain ⟨rfl,_⟩:=Prod.mk.inj h
   exact h1
  ·simp at h
 ·rintro ⟨h,rfl⟩
  unfold kJ
  rw [A7 h,if_pos ⟨h,rfl⟩]
theorem N1 {l:List P2} (h:∀ s,bx s=true→aX s≠l):kJ l=(bA,9):=by
 unfold kJ
 rw [if_neg (fun h1=>h _ h1.1 h1.2)]
def eB (l:List P2) (k:Int):S3:=(k,(if k=2∧1<l.length then (l.getD 1 ([],[])).2 else []),(if 0<l.length then (l.getD (l.length-1) ([],[])).2 else []))
def pj (l:List P2) (k:Int):Prop:=bx (eB l k)=true∧aX (eB l k)=l
theorem y5 {s:S3} (h:bx s=true):eB (aX s) s.1=s:=by
 obtain ⟨h1,h5,hn,h2,hs⟩:=(ky s).1 h
 obtain ⟨k,sp,nm⟩:=s
 unfold aX eB
 by_cases hk2:k=2
 ·have hl:=AT (h2 hk2)
  simp only at hl
  subst hk2
  simp [hl.2.2]
 ·have:=hs hk2
  simp only at this
  subst this
  simp [hk2]
theorem vi {l:List P2} {k:Int} (h:pj l k):kJ l=(eB l k,0):=(DP _ _).2 h
theorem Im {l:List P2} (h:∀ k,1≤k→k≤5→¬ pj l k):kJ l=(bA,9):=N1 fun s hs e=>by
 obtain ⟨h1,h5,_⟩:=(ky s).1 hs
 refine h s.1 h1 h5 ?_
 rw [← e]
 unfold pj
 rw [y5 hs]
 exact ⟨hs,rfl⟩
theorem xf {s:S3} (h:bx s=true):aX s=if s.1=2 then [(mM,fk s.1),(pV,s.2.1),(mL,s.2.2)] else [(mM,fk s.1),(mL,s.2.2)]:=by
 obtain ⟨h1,h5,hn,h2,hs⟩:=(ky s).1 h
 unfold aX
 by_cases hk2:s.1=2
 ·rw [if_pos hk2,if_neg (AT (h2 hk2)).2.2]
 ·rw [if_neg hk2,if_pos (hs hk2)]
end
section
theorem F4 {gs:List Nat} (a b:List UInt8):bM gs Tryz.prog 177 [au a,au b] (.c (.bool (Lib.hasPrefix a b))) :=
 oC fun al w St vals hs hv hr=>by
  rw [ui hv,show vals.getD 0 undef=.string ⟨a.toArray⟩ from hr 0,show vals.getD 1 undef=.string ⟨b.toArray⟩ from hr 1]
  exact (Tryz.strings_HasPrefix _ _ w).mono (by rintro e w' ⟨rfl,rfl⟩;exact ⟨rfl,Below.refl _ _⟩)
theorem F3 {gs:List Nat} (a b:List UInt8) (h:a.length≤9223372036854775807):bM gs Tryz.prog 178 [au a,au b] (.c (.bool (Lib.hasSuffix a b))) :=
 oC fun al w St vals hs hv hr=>by
  rw [ui hv,show vals.getD 0 undef=.string ⟨a.toArray⟩ from hr 0,show vals.getD 1 undef=.string ⟨b.toArray⟩ from hr 1]
  exact (Tryz.strings_HasSuffix ⟨a.toArray⟩ _ w h).mono (by rintro e w' ⟨rfl,rfl⟩;exact ⟨rfl,Below.refl _ _⟩)
theorem L5 {gs:List Nat} (a:List UInt8) (c:UInt8):bM gs Tryz.prog 179 [au a,.c (.int .u8 (c.toNat:Nat))] (.c (.int .i64 (Lib.indexByte a c))) :=
 oC fun al w St vals hs hv hr=>by
  rw [ui hv,show vals.getD 0 undef=.string ⟨a.toArray⟩ from hr 0,show vals.getD 1 undef=.int .u8 (c.toNat:Nat) from hr 1]
  exact (Tryz.strings_IndexByte _ _ w).mono (by rintro e w' ⟨rfl,rfl⟩;exact ⟨by simp,Below.refl _ _⟩)
def Oa:List UInt8:=[97,98,99,100,101,102,103,104,105,106,107,108,109,110,111,112,113,114,115,116,117,118,119,120,121,122,48,49,50,51,52,53,54,55,56,57]
theorem yU (c:UInt8):(decide (c.toNat=45) || !decide (Lib.indexByte Oa c<0))=tV c:=by
 have key:∀ n:Fin 256,(decide ((UInt8.ofNat n.val).toNat=45) || !decide (Lib.indexByte Oa (UInt8.ofNat n.val)<0))=tV (UInt8.ofNat n.val):=by decide +kernel
 have:=key ⟨c.toNat,c.toNat_lt⟩
 simpa using this
theorem Ls (l:List UInt8):Lib.hasPrefix l [45]=decide (l≠[]∧l.getD 0 0=45):=by
 cases l with
 | nil=>decide
 | cons a l =>
  by_cases h:a=45
  ·subst h;simp [Lib.hasPrefix]
  ·have:¬ (45:UInt8)=a:=fun e=>h e.symm
   simp [Lib.hasPrefix,List.isPrefixOf,h,this]
theorem KH (l:List UInt8):Lib.hasSuffix l [45]=decide (l≠[]∧l.getD (l.length-1) 0=45):=by
 by_cases h0:l=[]
 ·subst h0;decide
 ·obtain ⟨q,c,rfl⟩:∃ q c,l=q++[c]:=⟨l.dropLast,l.getLast h0,(List.dropLast_concat_getLast h0).symm⟩
  have e:(q++[c]).getD ((q++[c]).length-1) 0=c:=by simp [List.getD]
  rw [e]
  unfold Lib.hasSuffix
  rw [Bool.eq_iff_iff,List.isSuffixOf_iff_suffix]
  simp only [decide_eq_true_eq]
  constructor
  ·rintro ⟨t,ht⟩
   exact ⟨h0,(by have:=congrArg List.getLast? ht;simp at this;exact this.symm)⟩
  ·rintro ⟨_,rfl⟩;exact ⟨q,rfl⟩
theorem il {l:List UInt8} {i:Nat} (hi:i<l.length) (p:UInt8→Bool):(l.take (i+1)).all p=((l.take i).all p && p (l.getD i 0)):=by
 rw [List.take_succ_eq_append_getElem hi,List.all_append]
 simp [List.getD,hi]
theorem wb {l:List UInt8} {i:Nat} (hi:i<l.length) (p:UInt8→Bool) (h:p (l.getD i 0)=false):l.all p=false:=by
 rw [List.all_eq_false]
 refine ⟨l[i],List.getElem_mem hi,?_⟩
 have:l.getD i 0=l[i]:=by simp [List.getD,hi]
 rw [← this,h];exact Bool.noConfusion
theorem sm (l:List UInt8):lc l=(decide (l≠[]) && decide (l.length≤24) && !Lib.hasPrefix l [45] && !Lib.hasSuffix l [45] && l.all tV):=by
 unfold lc
 rw [Ls,KH]
 by_cases h:l=[]
 ·simp [h]
 ·simp [h]
theorem mc {l:List UInt8}:lc l=true↔1≤l.length∧l.length≤24∧(l.getD 0 0).toNat≠45∧(l.getD (l.length-1) 0).toNat≠45∧l.all tV=true:=by
 have e:∀ c:UInt8,c≠45↔c.toNat≠45:=fun c=>not_congr (by rw [← UInt8.toNat_inj];rfl)
 simp only [lc,Bool.and_eq_true,decide_eq_true_eq,e,and_assoc]
 have:l≠[]↔1≤l.length:=List.length_pos_iff.symm
 rw [this]
theorem vh {gs:List Nat} (l:List UInt8):bM gs Tryz.prog 106 [au l] (.c (.bool (lc l))):=by
 refine ai 37 Tryz.func106 fun al w0 F0 St0=>?_;refine jU 160000167516 ?_;refine ay 6 (fun g33=>?_) fun g33=>?_
 ·refine jU 80003000700051690005100000000441100000000441100000000444 ?_;refine cB ?_
  rw [sm]
  (simp_all;done)
 refine jU 15002400001 ?_;refine ay 11 (fun g33_2=>?_) fun g33_2=>?_
 ·refine jU 8000300070005169000510000000044110000000044 ?_;refine cB ?_
  rw [sm]
  (simp_all;omega)
 refine jU 1 ?_
 refine ak (ap (F4 l [45]) ?_)
 refine jU 1500 ?_;refine ay 15 (fun g33_3=>?_) fun g33_3=>?_
 ·refine jU 8000300070005169000510000000044 ?_;refine cB ?_
  rw [sm]
  (simp_all;done)
 refine jU 1 ?_
 refine ak (ap (F3 l [45] jO) ?_)
 refine jU 5500 ?_;refine aq (fun h33=>?_) fun h33=>?_
 ·refine jU 800030007000516 ?_;refine cB ?_
  rw [sm]
  (simp_all;done)
 refine jU 205140000167810 ?_;refine aF (α:=Nat) [2,3,21,22,23,24,25,26,27,28,29,30,31,32,33,34,35,36] (fun i=>[(21,.c (.int .i64 (i:Nat)))]) (fun _=>[]) (fun i=>i≤l.length∧(l.take i).all tV=true) (fun i=>l.length-i) (0) ?_ (fun _=>rfl) ?_ ?_ ?_
 ·exact ⟨Nat.zero_le _,by simp⟩
 ·exact .cons cZ .nil
 ·(repeat (exact aS.nil))
 ·rintro i ⟨hi,he⟩
  refine jU 7526 ?_;refine aq (fun h36=>?_) fun h36=>?_
  rotate_left
  ·refine jU 8000700051684000200020006000 ?_;refine cB ?_
   have e:l.take i=l:=List.take_of_length_le jO
   rw [e] at he
   rw [sm,he]
   simp_all
   try omega
  refine jU 75116207810 ?_;refine ff (.rd 0 (.rd 1 (.rd 2 (.rd 3 (.rd 4 (.rd 5 (.rd 6 (.rd 7 (.rd 8 (.one 9 (.rd 10 (.rd 11 .done)))))))))))) ?_;refine jU 7070 ?_;refine bV CM ?_;refine bV (CM (i:=0)) ?_;refine jU 70800 ?_;refine gG 29 (fun g37=>?_) fun g37=>?_
  rotate_left
  ·refine jU 600600600 ?_;refine pY ?_;refine jU 8519200840010300880300000600 ?_
   refine aw (i+1) ?_ ?_ (h5:=?_)
   ·refine ⟨by omega,?_⟩
    rw [il jO,he,Bool.true_and,← yU]
    simp_all
    try omega
   ·show l.length-(i+1)<l.length-i;omega
   ·exact .cons (cI jO) .nil
  refine jU 7070 ?_;refine bV CM ?_
  refine kO (ap (L5 Oa (l.getD i 0)) ?_)
  refine jU 8803000000800 ?_;refine aq (fun h37=>?_) fun h37=>?_
  ·refine jU 8000300050003000300050007000516 ?_;refine cB ?_
   rw [sm,wb (p:=tV) (show i<l.length by omega) (by rw [← yU];simp_all;try omega),Bool.and_false]
  refine jU 8519200840010 ?_
  refine aw (i+1) ?_ ?_ (h5:=?_)
  ·refine ⟨by omega,?_⟩
   rw [il jO,he,Bool.true_and,← yU]
   simp_all
   try omega
  ·show l.length-(i+1)<l.length-i;omega
  ·exact .cons (cI jO) .nil
theorem rU {gs:List Nat} (l:List UInt8):bM gs Tryz.prog 146 [au l] (.c (.bool (lc l))):=by
 refine ai 53 Tryz.func146 fun al w0 F0 St0=>?_;refine jU 1240000167516 ?_;refine ay 8 (fun g41=>?_) fun g41=>?_
 ·refine jU 8000300070005169000510000000044444411000000004441100000000444 ?_;refine cB ?_
  refine (Bool.eq_false_iff.2 fun h=>?_).symm
  obtain ⟨k1,k2,k3,k4,_⟩:=mc.1 h
  omega
 refine jU 15002400001 ?_;refine ay 13 (fun g41_2=>?_) fun g41_2=>?_
 ·refine jU 800030007000516900051000000004444441100000000444 ?_;refine cB ?_
  refine (Bool.eq_false_iff.2 fun h=>?_).symm
  obtain ⟨k1,k2,k3,k4,_⟩:=mc.1 h
  omega
 refine jU 1 ?_;refine jq (CM (i:=0)) ?_;refine jU 15002 ?_;refine ay 18 (fun g41_3=>?_) fun g41_3=>?_
 ·refine jU 80003000700051690005100000000444444 ?_;refine cB ?_
  refine (Bool.eq_false_iff.2 fun h=>?_).symm
  obtain ⟨k1,k2,k3,k4,_⟩:=mc.1 h
  omega
 refine jU 94000011 ?_;refine jq (CM (i:=(l.length-1)) (hz:=by omega)) ?_;refine jU 55002 ?_;refine aq (fun h41=>?_) fun h41=>?_
 ·refine jU 800030007000516 ?_;refine cB ?_
  refine (Bool.eq_false_iff.2 fun h=>?_).symm
  obtain ⟨k1,k2,k3,k4,_⟩:=mc.1 h
  omega
 refine jU 205167810 ?_;refine aF (α:=Nat) [2,3,4,26,27,28,29,30,31,32,33,34,35,36,37,38,39,40,41,42,43,44,45,46,47,48,49,50,51,52] (fun i=>[(3,.c (.int .i64 (i:Nat)))]) (fun _=>[]) (fun i=>i≤l.length∧(l.take i).all tV=true) (fun i=>l.length-i) (0) ?_ (fun _=>rfl) ?_ ?_ ?_
 ·exact ⟨Nat.zero_le _,by simp⟩
 ·exact .cons cZ .nil
 ·(repeat (exact aS.nil))
 ·rintro i ⟨hi,he⟩
  refine jU 52400001167 ?_;refine aq (fun h44=>?_) fun h44=>?_
  rotate_left
  ·refine jU 8000700051684000200020006000 ?_;refine cB ?_
   have e:l.take i=l:=List.take_of_length_le jO
   rw [e] at he
   exact (mc.2 ⟨by omega,by omega,by omega,by omega,he⟩).symm
  refine jU 5180000000116207810 ?_
  obtain ⟨x,hx⟩:∃ x,x=(l.getD i 0).toNat:=⟨_,rfl⟩
  refine jE (bF 4 (.c (.int .u8 (x:Nat))) (cI (by rw [hx]))) ?_;refine jU 1216 ?_;refine ay 37 (fun g46=>?_) fun g46=>?_
  ·refine jU 121110000000044 ?_;refine ay 44 (fun g46_2=>?_) fun g46_2=>?_
   ·refine jU 510000000021110000000010000000044 ?_;refine aq (fun h46=>?_) fun h46=>?_
    ·refine jU 8000300050003000300050007000516 ?_;refine cB ?_
     unfold lc
     rw [wb (p:=tV) (show i<l.length by omega) (by unfold tV;rw [← hx];simp;omega),Bool.and_false]
    refine jU 85191200840010 ?_
    refine aw (i+1) ?_ ?_ (h5:=?_)
    ·refine ⟨by omega,?_⟩
     rw [il jO,he,Bool.true_and]
     unfold tV
     rw [← hx]
     simp
     omega
    ·show l.length-(i+1)<l.length-i;omega
    ·exact .cons (cI jO) .nil
   refine jU 110000000050021 ?_;refine ay 49 (fun g46_3=>?_) fun g46_3=>?_
   rotate_left
   ·refine jU 85191200840010300550044 ?_
    refine aw (i+1) ?_ ?_ (h5:=?_)
    ·refine ⟨by omega,?_⟩
     rw [il jO,he,Bool.true_and]
     unfold tV
     rw [← hx]
     simp
     omega
    ·show l.length-(i+1)<l.length-i;omega
    ·exact .cons (cI jO) .nil
   refine jU 510000000021 ?_;refine aq (fun h46=>?_) fun h46=>?_
   ·refine jU 8000300050003000300050007000516 ?_;refine cB ?_
    unfold lc
    rw [wb (p:=tV) (show i<l.length by omega) (by unfold tV;rw [← hx];simp;omega),Bool.and_false]
   refine jU 85191200840010 ?_
   refine aw (i+1) ?_ ?_ (h5:=?_)
   ·refine ⟨by omega,?_⟩
    rw [il jO,he,Bool.true_and]
    unfold tV
    rw [← hx]
    simp
    omega
   ·show l.length-(i+1)<l.length-i;omega
   ·exact .cons (cI jO) .nil
  refine jU 150021 ?_;refine ay 41 (fun g46_2=>?_) fun g46_2=>?_
  rotate_left
  ·refine jU 851912008400103005500441500444444 ?_
   refine aw (i+1) ?_ ?_ (h5:=?_)
   ·refine ⟨by omega,?_⟩
    rw [il jO,he,Bool.true_and]
    unfold tV
    rw [← hx]
    simp
    omega
   ·show l.length-(i+1)<l.length-i;omega
   ·exact .cons (cI jO) .nil
  refine jU 121 ?_;refine ay 44 (fun g46_3=>?_) fun g46_3=>?_
  ·refine jU 510000000021110000000010000000044 ?_;refine aq (fun h46=>?_) fun h46=>?_
   ·refine jU 8000300050003000300050007000516 ?_;refine cB ?_
    unfold lc
    rw [wb (p:=tV) (show i<l.length by omega) (by unfold tV;rw [← hx];simp;omega),Bool.and_false]
   refine jU 85191200840010 ?_
   refine aw (i+1) ?_ ?_ (h5:=?_)
   ·refine ⟨by omega,?_⟩
    rw [il jO,he,Bool.true_and]
    unfold tV
    rw [← hx]
    simp
    omega
   ·show l.length-(i+1)<l.length-i;omega
   ·exact .cons (cI jO) .nil
  refine jU 110000000050021 ?_;refine ay 49 (fun g46_4=>?_) fun g46_4=>?_
  rotate_left
  ·refine jU 85191200840010300550044 ?_
   refine aw (i+1) ?_ ?_ (h5:=?_)
   ·refine ⟨by omega,?_⟩
    rw [il jO,he,Bool.true_and]
    unfold tV
    rw [← hx]
    simp
    omega
   ·show l.length-(i+1)<l.length-i;omega
   ·exact .cons (cI jO) .nil
  refine jU 510000000021 ?_;refine aq (fun h46=>?_) fun h46=>?_
  ·refine jU 8000300050003000300050007000516 ?_;refine cB ?_
   unfold lc
   rw [wb (p:=tV) (show i<l.length by omega) (by unfold tV;rw [← hx];simp;omega),Bool.and_false]
  refine jU 85191200840010 ?_
  refine aw (i+1) ?_ ?_ (h5:=?_)
  ·refine ⟨by omega,?_⟩
   rw [il jO,he,Bool.true_and]
   unfold tV
   rw [← hx]
   simp
   omega
  ·show l.length-(i+1)<l.length-i;omega
  ·exact .cons (cI jO) .nil
end
section
variable {gs:List Nat} [fZ gs]

theorem BF [mm gs] (l:List UInt8) (most:Int) (hl:l.length≤1000000000):bM gs Tryz.prog 225 [au l,.c (.int .i64 most)] (.err (aN l most)):=by
 refine ai 20 Tryz.func225 fun al w0 F0 St0=>?_;refine jU 516000016207516 ?_;refine aq (fun h47=>?_) fun h47=>?_
 ·refine cy ?_;refine jq (dy 1) ?_;refine jU 51 ?_
  refine jR (yY (ii (cX (hv:=ab.errN (by unfold aN;rw [if_pos (by simpa using h47)])))))
 refine jU 51214000016 ?_;refine aq (fun h49=>?_) fun h49=>?_
 ·refine cy ?_;refine jq (dy 2) ?_;refine jU 51 ?_
  refine jR (yY (ii (cX (hv:=ab.errN (by unfold aN;rw [if_neg (by simpa using h47),if_pos h49])))))
 refine jU 16 ?_
 refine ak (ap (Co l hl) ?_)
 refine jU 5130 ?_;refine aq (fun h51=>?_) fun h51=>?_
 ·refine cy ?_;refine jq (dy 7) ?_;refine jU 51 ?_
  refine jR (yY (ii (cX (hv:=ab.errN (by unfold aN;rw [if_neg (by simpa using h47),if_neg h49,if_pos (by simpa using h51)])))))
 refine jU 516840010 ?_
 refine jR (cX (hv:=ab.nilE (by unfold aN;rw [if_neg (by simpa using h47),if_neg h49,if_neg (by simpa using h51)])))
theorem J6 (l:List UInt8) (most:Int):aN l most≤8:=by
 unfold aN
 repeat' split
 all_goals omega
theorem Kr [mm gs] (l:List UInt8) (most:Int) (hl:l.length≤1000000000):bM gs Tryz.prog 176 [au l,.c (.int .i64 most)] (.tup 2 (fl [bu (if aN l most=0 then l else []),.err (aN l most)])):=by
 refine ai 15 Tryz.func176 fun al w0 F0 St0=>?_;refine jU 11675116 ?_
 refine ak (ap (BF l most hl) ?_)
 refine jU 55000001651 ?_;refine aq (fun h59=>?_) fun h59=>?_
 ·refine jU 51116 ?_
  refine jR (ii (cX (hv:=cT (ab.nilS' (by rw [if_neg h59];rfl)) cZ)))
 refine jU 16810 ?_
 refine ak (IK ?_)
 refine jU 80007000511 ?_
 have h:aN l most=0:=by omega
 exact cT (ab.bs (by rw [if_pos h])) (ab.nilE h)
theorem Ks [mm gs] (l:List UInt8) (most:Int) (hl:l.length≤1000000000):bM gs Tryz.prog 196 [bu l,.c (.int .i64 most)] (.tup 2 (fl [au (if aN l most=0 then l else []),.err (aN l most)])):=by
 refine ai 17 Tryz.func196 fun al w0 F0 St0=>?_;refine jU 165116 ?_
 first|refine jq CO ?_|refine eL Pw ?_|refine jq Qr ?_
 refine jU 116751 ?_
 refine ak (ap (BF l most hl) ?_)
 refine jU 55000001651 ?_;refine aq (fun h68=>?_) fun h68=>?_
 ·refine jU 51116 ?_
  refine jR (ii (cX (hv:=cT (ab.strL (by rw [if_neg h68])) cZ)))
 refine jU 8000700051116810 ?_
 have h:aN l most=0:=by omega
 exact cT (ab.strL (by rw [if_pos h])) (ab.nilE h)
theorem kz {gs:List Nat} (l:List UInt8) (most:Int) (hl:l.length≤1000000000):bM gs Tryz.prog 206 [au l,.c (.int .i64 most)] (.c (.int .i64 (aN l most:Nat))):=by
 refine ai 15 Tryz.func206 fun al w0 F0 St0=>?_;refine jU 5240000167516 ?_;refine aq (fun h55=>?_) fun h55=>?_
 ·refine jU 516 ?_
  refine jR (ii (cX (hv:=cI (by unfold aN;rw [jP];rfl))))
 refine jU 52140000167810 ?_;refine aq (fun h58=>?_) fun h58=>?_
 ·refine jU 516 ?_
  refine jR (ii (cX (hv:=cI (by unfold aN;rw [jK,if_pos h58];rfl))))
 refine jU 167810 ?_
 refine ak (ap (EU l hl) ?_)
 refine jU 530 ?_;refine aq (fun h61=>?_) fun h61=>?_
 ·refine jU 516 ?_
  refine jR (ii (cX (hv:=cI (by unfold aN;rw [jK,if_neg h58,if_pos (by simpa using h61)];rfl))))
 refine jU 516810 ?_
 refine jR (cX (hv:=cI (by unfold aN;rw [jK,if_neg h58,if_neg (by simpa using h61)];rfl)))
end
section
variable {gs:List Nat} [fZ gs]
open Go.RowKit Cal

theorem Jy (n:Nat) (s:W8) (hs:wi s):AC gs Tryz.prog 58 [iO n s] [.op 0 (some n) 0] (fun r H'=>r=.tup 2 (fl [bu (pH s),.err (iF s)])∧H'=[iO n s]):=by
 have hsd:=hs.d
 have bad:∀ {e},iF s=e→e≠0→pH s=[]:=fun h h0=>by unfold pH;rw [h,if_neg h0]
 refine ai 35 Tryz.func58 fun al w0 F0 St0=>?_;refine jU 2075116 ?_;refine jf 0 rfl fun go gd zs hzs=>?_;refine jU 515000005010004016 ?_;refine aq (fun h140=>?_) fun h140=>?_
 ·refine iy ?_;refine ff (.rd 0 (.rd 1 (.rd 2 (.rd 3 (.rd 4 (.rd 5 .done)))))) ?_;refine jU 5000070 ?_;refine bV (da 2 1 false) ?_;refine jU 300050007000880707010000 ?_
  have e:iF s=s.k:=by unfold iF;rw [jP]
  exact ib (gd:=fun z:BP s.fr=>z.1.1) (E:=BK s) (.inl rfl) ⟨(n,go,gd,zs),hzs⟩ [0,1,2,3] jD rfl (bH rfl aG aG) (cT (by rw [bad e jO];exact cN) (ab.err e.symm))
 refine jU 512350904016 ?_;refine aq (fun h142=>?_) fun h142=>?_
 ·refine iy ?_;refine ff (.rd 0 (.rd 1 (.rd 2 .done))) ?_;refine bV (dy 23) ?_;refine jU 3000500070008807070 ?_
  have e:iF s=24:=by unfold iF;rw [jK,if_pos (by intro h;rw [h] at h142;simp at h142)]
  exact ib (gd:=fun z:BP s.fr=>z.1.1) (E:=BK s) (.inl rfl) ⟨(n,go,gd,zs),hzs⟩ [0,1,2,3] jD rfl (bH rfl aG aG) (cT (by rw [bad e jO];exact cN) (ab.err e.symm))
 refine jU 5123501004016 ?_;refine aq (fun h144=>?_) fun h144=>?_
 ·refine iy ?_;refine ff (.rd 0 (.rd 1 (.rd 2 .done))) ?_;refine bV (dy 2) ?_;refine jU 3000500070008807070 ?_
  have hf0:s.fr=[]:=List.eq_nil_of_length_eq_zero jO
  have e:iF s=3:=by unfold iF;rw [jK,if_neg (by simp [hf0]),jP]
  exact ib (gd:=fun z:BP s.fr=>z.1.1) (E:=BK s) (.inl rfl) ⟨(n,go,gd,zs),hzs⟩ [0,1,2,3] jD rfl (bH rfl aG aG) (cT (by rw [bad e jO];exact cN) (ab.err e.symm))
 refine jU 501004016840010 ?_
 refine ar (aJ 2 (Gp s.d gd jO) ?_)
 refine jU 7000511 ?_
 have hf0:s.fr=[]:=List.eq_nil_of_length_eq_zero jO
 have e:iF s=0:=by unfold iF;rw [jK,if_neg (by simp [hf0]),jK]
 exact ib (gd:=fun z:BP s.fr=>z.1.1) (E:=BK s) (.inl rfl) ⟨(n,go,gd,zs),hzs⟩ [0,1,2,3] jD rfl (bH rfl aG aG) (cT (ab.bs (by unfold pH;rw [if_pos e])) (ab.nilE e))
theorem Bj (n:Nat) (s:W8) (z:Int) (hz:-9223372036854775808≤z∧z≤9223372036854775807) (hs:wi s):AC gs Tryz.prog 143 [iO n s] [.op 0 (some n) 0,.c (.int .i64 z)] (fun r H'=>r=.c (.tuple #[])∧H'=[iO n (eZ 10 (fa z) 0 s)]):=by
 have hl:=(n8 z hz.1 hz.2).2
 refine ai 8 Tryz.func143 fun al w0 F0 St0=>?_;refine jU 11200 ?_
 refine ak (ap (Kw z hz.1 hz.2) ?_)
 refine ar (aJ 0 (o8 n s 10 (fa z) 0 hs jO) ?_)
 refine jU 5 ?_
 exact bQ (.inr rfl) _ [_] [0] jD rfl (bN rfl) ⟨rfl,rfl⟩
theorem Cw (n:Nat) (s:W8) (b:List UInt8) (hb:b.length≤1000000) (hs:wi s):AC gs Tryz.prog 56 [iO n s] [.op 0 (some n) 0,bu b] (fun r H'=>r=.c (.tuple #[])∧H'=[iO n (eZ 4 b 0 s)]):=by
 refine ai 7 Tryz.func56 fun al w0 F0 St0=>?_;refine jU 11200 ?_
 refine ar (aJ 0 (o8 n s 4 b 0 hs hb) ?_)
 refine jU 5 ?_
 exact bQ (.inr rfl) _ [_] [0] jD rfl (bN rfl) ⟨rfl,rfl⟩
theorem GU [mm gs] (n:Nat) (s:W8) (t:List UInt8) (most:Int) (ht:t.length≤1000000) (hs:wi s):AC gs Tryz.prog 105 [iO n s] [.op 0 (some n) 0,au t,.c (.int .i64 most)] (fun r H'=>r=.c (.tuple #[])∧H'=[iO n (eZ 12 (if aN t most=0 then t else []) (aN t most) s)]):=by
 have hl:(if aN t most=0 then t else []).length≤1000000:=by split <;> first|omega|simp
 refine ai 18 Tryz.func105 fun al w0 F0 St0=>?_;refine jU 116 ?_
 refine ak (ap (Kr t most jO) ?_)
 refine jU 1112005119009001 ?_
 refine ar (aJ 0 (o8 n s 12 (if aN t most=0 then t else []) (aN t most) hs hl) ?_)
 refine jU 5 ?_
 exact bQ (.inr rfl) _ [_] [0] jD rfl (bN rfl) ⟨rfl,rfl⟩
theorem CE (n:Nat) (s:W8) (z:Int) (hs:wi s):AC gs Tryz.prog 101 [iO n s] [.op 0 (some n) 0,.c (.int .i64 z)] (fun r H'=>r=.c (.tuple #[])∧H'=[iO n (eZ 24 (if ol z then cW (kA z) else []) (Az z) s)]):=by
 have hbl:(if ol z then cW (kA z) else []).length≤1000000:=by
  split
  ·exact Nat.le_trans (Nat.le_of_eq (show (cW (kA z)).length=15 from rfl)) jD
  ·simp
 refine ai 15 Tryz.func101 fun al w0 F0 St0=>?_;refine jU 16 ?_
 refine ak (ap (NU z) ?_)
 refine jU 1112005119009001 ?_
 refine ar (aJ 0 (o8 n s 24 (if ol z then cW (kA z) else []) (Az z) hs hbl) ?_)
 refine jU 5 ?_
 exact bQ (.inr rfl) _ [_] [0] jD rfl (bN rfl) ⟨rfl,rfl⟩
theorem Lv (n:Nat) (s:W8) (t:List UInt8) (ht:t.length≤1000000) (hs:wi s):AC gs Tryz.prog 173 [iO n s] [.op 0 (some n) 0,au t] (fun r H'=>r=.c (.tuple #[])∧H'=[iO n (eZ 6 (gT t) (bB t).2 s)]):=by
 have hl:(gT t).length≤1000000:=Nat.le_trans (tP t) jD
 refine ai 15 Tryz.func173 fun al w0 F0 St0=>?_;refine jU 16 ?_
 refine ak (ap (Lu t jO) ?_)
 refine jU 1112005119009001 ?_
 refine ar (aJ 0 (o8 n s 6 (gT t) (bB t).2 hs hl) ?_)
 refine jU 5 ?_
 exact bQ (.inr rfl) _ [_] [0] jD rfl (bN rfl) ⟨rfl,rfl⟩
end
section
variable {gs:List Nat} [fZ gs]
open Go.RowKit Cal

def PZ:W8:=⟨[],[],0⟩
theorem kl {α:Type} (l:List α) (n i:Nat) (x:α) (h:n≤i):(l.set i x).take n=l.take n:=by
 rw [List.take_set,List.set_eq_of_length_le]
 rw [List.length_take];omega
theorem Qm {G:Gh} {env:List (Nat×CV)} {b0:Nat→CV} {H:List (Option Nat×bp)} (n i:Nat) {f:Nat→CV} (hi:H[i]?=some (some n,.blk 3 f)) (h0:ab (f 0) (.c (.slice none 0 0))) (h1:ab (f 1) (.c (.slice none 0 0))) (h2:ab (f 2) (.err 0)):cU G ⟨env,b0,H⟩ ⟨env,b0,H.set i (iO n PZ)⟩:=by
 have hil:=(List.getElem?_eq_some_iff.1 hi).1
 have os0:∀ {j k:Nat},ab (.c (.slice none 0 0)) (.os j none 0 0 k):=fun al St w v h=>⟨rfl,h⟩
 intro St a w hr
 obtain ⟨S1,s1,r1⟩:=gv (G:=G) (s:=⟨env,b0,H⟩) (eK 2 rH sy []) St a w hr
 obtain ⟨S2,s2,r2⟩:=gv (G:=G) (s:=⟨env,b0,H++[(none,.blk 0 (eK 2 rH sy []))]⟩) (ft []) S1 a w r1
 obtain ⟨S3,s3,r3⟩:=bag_new (G:=G) (env:=env) (b0:=b0) (H:=H++[(none,.blk 0 (eK 2 rH sy []))]++[(none,.blk 0 (ft []))]) S2 a w r2
 obtain ⟨S4,s4,r4⟩:=qh (G:=G) (env:=env) (b0:=b0) (H:=H++[(none,.blk 0 (eK 2 rH sy []))]++[(none,.blk 0 (ft []))]++[nG []]) n PZ [] i H.length (H.length+1) (H.length+2) rfl (go:=none) (gd:=none) (No:=0) (Nd:=0) (f:=f) (Fo:=eK 2 rH sy []) (Fd:=ft [])
  (by rw [List.append_assoc,List.append_assoc,List.getElem?_append_left hil];exact hi) (by simp) (by simp []) (by simp []) (by simp;omega) (h0.trans os0) (h1.trans os0) h2 (Nat.le_refl _) (fun a h=>absurd h (Nat.not_lt_zero a)) (Nat.le_refl _) (fun a h=>absurd h (Nat.not_lt_zero a)) S3 a w r3
 obtain ⟨S5,s5,r5⟩:=dB (G:=G) (H':=H.set i (iO n PZ)) (List.range H.length) (gj _) (by
  rw [gm _ _ (by simp)]
  simp only [List.append_assoc]
  rw [kl _ _ _ _ jO,kl _ _ _ _ jO,kl _ _ _ _ jO,List.take_set,List.take_left]) S4 a w r4
 exact ⟨S5,fun b hb=>s5 b (s4 b (s3 b (s2 b (s1 b hb)))),r5⟩
theorem NZ:wi PZ:=⟨by decide,fun _ h=>(by cases h),by decide⟩
def jY (v:VV):CV:=.agg 5 (fl [.c (.int .i64 v.kind),.c (.int .i64 v.n),.c (.bool v.is),bu v.b,au v.t])
structure OC (v:VV):Prop where
 n:-9223372036854775808≤v.n∧v.n≤9223372036854775807
 b:v.b.length≤1000000
 t:v.t.length≤1000000
end
section
variable {gs:List Nat} [fZ gs]
open Go.RowKit Cal

theorem rT {gs:List Nat} (n:Nat) (s:R8) (tag:Int) (b:List UInt8) (hs:PU s) (ht:0≤tag∧tag<256) (hb:b.length≤1000000):AC gs Tryz.prog 155 [tD n s] [.op 0 (some n) 0,.c (.int .i64 tag),bu b] (fun r H'=>r=.c (.tuple #[])∧H'=[tD n (lk tag b s)]):=by
 refine ai 17 Tryz.func155 fun al w0 F0 St0=>?_;refine jU 523167 ?_;refine aq (fun h64=>?_) fun h64=>?_
 rotate_left
 ·refine jU 111200810 ?_
  refine ak (ap (KU tag b ht jO) ?_)
  refine ar (aJ 0 (xa n s (dl tag b) hs) ?_)
  refine jU 5 ?_
  have hP:lk tag b s=ki (dl tag b) s:=by unfold lk;rw [jK]
  rw [hP]
  exact bQ (.inr rfl) _ [_] [0] jD rfl (bN rfl) ⟨rfl,rfl⟩
 refine jM 0 rfl fun gr=>?_;refine jU 10004016 ?_
 refine ar (bh 1 (nP ⟨s.tags,s.rows,3⟩ 1 gr) ?_ ?_)
 ·exact (fun j hj=>by rcases j with _|_|_|j <;> exact cZ)
 refine jU 300070005 ?_
 have hP:lk tag b s=⟨s.tags,s.rows,3⟩:=by unfold lk;rw [jP]
 rw [hP]
 exact bI (.inl rfl) n ⟨s.tags,s.rows,3⟩ 1 (bN rfl) cZ rfl rfl rfl (by exact cZ) (by exact cO rfl) (by exact cZ) (Nat.le_refl _) (fun _ _=>by exact cZ)
def En (v:VV):CV→List (Option Nat×bp)→Prop:=fun r H'=>(∃ b,r=.tup 3 (fl [.c (.int .i64 (aH v).1),bu b,.c (.int .i64 ((aH v).2.2:Nat))])∧((aH v).2.2=0→b=(aH v).2.1))∧H'=[]
theorem ny {v:VV} {t:Int} {b b':List UInt8} {e:Nat} (h:aH v=(t,b,e)) (hb:e=0→b'=b):En v (.tup 3 (fl [.c (.int .i64 t),bu b',.c (.int .i64 (e:Nat))])) []:=by
 refine ⟨⟨b',by rw [h],fun h0=>by rw [h] at h0 ⊢;exact hb h0⟩,rfl⟩
end
end Am
end Go.Proofs.YthlpfjnkieaeeaaGreatDoor
