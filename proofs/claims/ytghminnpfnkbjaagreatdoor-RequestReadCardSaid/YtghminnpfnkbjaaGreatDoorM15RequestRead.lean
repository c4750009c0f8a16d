/- What the law leans on, part 15: AmU, AmX, P10, W10a, W10r, W10b, W10s, W12y, ErrI, W12z, W12A, W12B, P12c, P12k, W12C, W12D, W12E, W12F, P12n, L12r, TabS -/
import Derived.Test.YtghminnpfnkbjaaGreatDoorM14RequestRead
import Derived.Lib.LaidTab

set_option maxRecDepth 100000
set_option maxHeartbeats 8000000
namespace Go.Proofs.YtghminnpfnkbjaaGreatDoor
set_option linter.unusedVariables false
namespace Am
open Go.RowKit
section
variable {κ β:Type} {kv:κ→Value} {P:Program} {G:Gh} {o:Oper} {s:AS} {K:AS→Prop} {t kt et:TypeId} {x y z:Operand} {vC:β→CV} {l:List (κ×β)} {k:κ} {i g:Nat}
theorem DG [DecidableEq κ] {al:List Addr} {St:Nat→Prop} {w:World} (u:β) {xv:Value} (hx:ba al St w (vC u) xv):∀ {es:List MapEntry} {l:List (κ×β)} (i:Nat),iI al St w kv vC es l →
  (∃ j y,jM k (l.map (·.1)) es i=some (i+j,y)∧(∃ e,es[j]?=some e∧e.key=kv k)∧iI al St w kv vC (es.modify j fun e=>{ e with key:=kv k,val:=xv }) (oL l k u)) ∨
  (jM k (l.map (·.1)) es i=none∧∀ b,iI al St w kv vC (es++[⟨kv k,xv,b⟩]) (oL l k u))
 | [],[],i,_=>.inr ⟨rfl,fun b=>⟨rfl,hx,trivial⟩⟩
 | e::es,q::l,i,h=>by
  rw [Zc]
  unfold jM oL
  by_cases hk:q.1=k
  ·rw [YF hk,YF hk]
   exact .inl ⟨0,e.val,rfl,⟨e,rfl,by rw [h.1,hk]⟩,rfl,hx,h.2.2⟩
  ·rw [YE hk,YE hk]
   rcases DG u hx (es:=es) (l:=l) (i+1) h.2.2 with ⟨j,y,h1,⟨e',h2,h3⟩,h4⟩|⟨h1,h2⟩
   ·exact .inl ⟨j+1,y,by rw [h1,show i+1+j=i+(j+1) by omega],⟨e',by simpa using h2,h3⟩,h.1,h.2.1,h4⟩
   ·exact .inr ⟨h1,fun b=>⟨h.1,h.2.1,h2 b⟩⟩
 | [],_::_,_,h=>h.elim
 | _::_,[],_,h=>h.elim
theorem Rm [DecidableEq κ] {u:β} {c:CV} (ho:o.op=.mapUpdate t x y z∨o.op=.insert t x y z) (hx:s.eval x=.c (.map (some g))) (hH:s.H[i]?=some (some g,.obj (oM kv vC l))) (hy:Km (s.eval y) (kv k)) (hz:s.eval z=c) (hc:aa c (vC u)) (h1:P.underlying t=some (.map kt et)) (h2:Ee P kt kv)
  (hd:cq G o=true) (hK:K (s.with o.dst (.c undef) (s.H.set i (some g,.obj (oM kv vC (oL l k u)))))):ug P G o s K:=fun St a w hr Q=>by
 obtain ⟨hlt,es,clock,hb,he⟩:=MW hr hH
 have hkv:a.eval y=kv k:=hy _ _ _ _ (hr.eval y)
 have hff:=h2.find w k es.toList _ he.keys
 have hzv:ba G.al St w (vC u) (a.eval z):=hc _ _ _ _ (ji hr hz)
 have put:∀ {w':World} {H:List (Option Nat×bi)},az G St ⟨s.env,s.b,H⟩ a w'→az G St (s.with o.dst (.c undef) H) (a.put o.dst undef) w':=fun {w' H} h1=>by
  have:=h1.put (dst:=o.dst) (v:=.c undef) (x:=undef) (eC hd) rfl
  cases ho:o.dst with
  | none=>rw [ho] at this;exact this
  | some d=>rw [ho] at this;exact this
 rcases DG (k:=k) u hzv 0 he with ⟨j,yv,hf,⟨e,h3,h4⟩,h5⟩|⟨hf,h5⟩
 ·rw [hf,Nat.zero_add] at hff
  have hrun:(execOp a.eval o).run P w=.ok .skip { w with heap:=w.heap.setIfInBounds g (.map (es.modify j fun e=>{ e with key:=kv k,val:=a.eval z }) clock) }:=by
   have h3':es[j]?=some e:=by simpa using h3
   rcases ho with ho|ho <;> (simp only [execOp,ho,kM hr hx,hkv];simp [Instr.mapUpdate,underlying,h1,Go.MapKept.run_getObj_map hb,h2.check,hff,h3',h4,h2.stays,Go.MapKept.run_setObj_map _ hb])
  have hm:=az.setMap hr hH (l':=oL l k u) (clock':=clock) hb (es':=es.modify j fun e=>{ e with key:=kv k,val:=a.eval z }) (by simpa using h5)
  unfold Oper.wp
  rw [hrun]
  exact ⟨hm.2,St,fun _ h=>h,_,hK,put hm.1⟩
 ·rw [hf] at hff
  have hrun:(execOp a.eval o).run P w=.ok .skip { w with heap:=w.heap.setIfInBounds g (.map (es.push ⟨kv k,a.eval z,clock⟩) (clock+1)) }:=by
   rcases ho with ho|ho <;> (simp only [execOp,ho,kM hr hx,hkv];simp [Instr.mapUpdate,underlying,h1,Go.MapKept.run_getObj_map hb,h2.check,hff,Go.MapKept.run_setObj_map _ hb])
  have hm:=az.setMap hr hH (l':=oL l k u) (clock':=clock+1) hb (es':=es.push ⟨kv k,a.eval z,clock⟩) (by simpa using h5 clock)
  unfold Oper.wp
  rw [hrun]
  exact ⟨hm.2,St,fun _ h=>h,_,hK,put hm.1⟩
theorem Fv (kv:κ→Value) (vC:β→CV) (ho:o.op=.makeMap t none) (hd:cq G o=true) (hK:∀ g:Nat,K (s.with o.dst (.c (.map (some g))) (s.H++[(some g,.obj (oM kv vC []))]))):kQ P G o s K:=fun St a w hr Q=>by
 have hrun:(execOp a.eval o).run P w=.ok (.value (.map (some w.heap.size))) (w.alloc (.map #[] 0)):=by
  simp only [execOp,ho]
  refine lY ?_
  simp [Instr.makeMap]
 have hn:=heap_alloc_new w (.map #[] 0)
 unfold Oper.wp
 rw [hrun]
 refine ⟨eu w _,St,fun _ h=>h,_,hK w.heap.size,?_⟩
 have:=(hr.freshObj (eu w (.map #[] 0)) (YG _) (p:=oM kv vC ([]:List (κ×β))) (Y4.1 hn).1 ⟨fun b=>Iff.rfl,#[],0,hn,trivial⟩).put (dst:=o.dst) (v:=.c (.map (some w.heap.size))) (x:=.map (some w.heap.size)) (eC hd) rfl
 cases ho:o.dst with
 | none=>rw [ho] at this;exact this
 | some d=>rw [ho] at this;exact this
end
section
variable {κ β:Type} [DecidableEq κ] {kv:κ→Value} {P:Program} {G:Gh} {o:Oper} {K:AS→Prop} {t kt et:TypeId} {x y z:Operand} {vC:β→CV} {l:List (κ×β)} {k:κ} {g:Nat} {env:List (Nat×CV)} {b0:Nat→CV} {H:List (Option Nat×bi)}
theorem WD {cy cz:CV} (i:Nat) (u:β) (h1:P.underlying t=some (.map kt et)) (h2:Ee P kt kv) (hy:Km cy (kv k)) (hc:aa cz (vC u)) (hK:K ⟨env,b0,H.set i (some g,.obj (oM kv vC (oL l k u)))⟩) (ho:o.op=.mapUpdate t x y z:=by exact rfl) (hx:(⟨env,b0,H⟩:AS).eval x=.c (.map (some g)):=by exact rfl) (hy':(⟨env,b0,H⟩:AS).eval y=cy:=by exact rfl) (hz:(⟨env,b0,H⟩:AS).eval z=cz:=by exact rfl) (hH:H[i]?=some (some g,.obj (oM kv vC l)):=by exact rfl) (hd:o.dst=none:=by exact rfl):ug P G o ⟨env,b0,H⟩ K :=
 Rm (.inl ho) hx hH (by rw [hy'];exact hy) hz hc h1 h2 (To hd) (by rw [yx hd];exact hK)
end
section
variable {κ β:Type} {P:Program} {G:Gh} {o:Oper} {K:AS→Prop} {t:TypeId} {env:List (Nat×CV)} {b0:Nat→CV} {H:List (Option Nat×bi)}
theorem WH (kv:κ→Value) (vC:β→CV) {d:Nat} (hK:∀ g:Nat,K ⟨(d,.c (.map (some g)))::env,b0,H++[(some g,.obj (oM kv vC []))]⟩) (ho:o.op=.makeMap t none:=by exact rfl) (hd:o.dst=some d:=by exact rfl) (hN:Nat.blt d G.N=true:=by exact rfl):kQ P G o ⟨env,b0,H⟩ K :=
 Fv kv vC ho (kN hd hN) (fun g=>by rw [dG hd];exact hK g)
end
theorem TW {P:Program} {G:Gh} {o:Oper} {s:AS} {t e:TypeId} {x:Operand} {m n:Nat} {f:Nat→Nat→CV} (ho:o.op=.sliceToArrayPointer t x) (hx:s.eval x=.rs 1 m f) (h1:P.underlying t=some (.array n e)) (hn:n≤m) (h0:0<n):ci P G o s (.rp n fun j=>f j 0):=fun St a w h=>by
 obtain ⟨ao,cap,hv,h2,h3,h4,h5⟩:=ji h hx
 cases ao with
 | none=>have:=h4 rfl;omega
 | some ad =>
  obtain ⟨h6,h7,h8⟩:=h5 ad rfl O
  obtain ⟨b,q,sp⟩:=ad
  simp only at h6
  subst h6
  refine ⟨.pointer (some ⟨b,q,none⟩),fun W _=>?_,b,q,rfl,h7,fun j hj=>?_⟩
  ·simp only [execOp,ho,hv]
   refine lY ?_
   simp [Instr.arrayAt,underlying,h1,show ¬ m<n by omega]
  ·obtain ⟨v,hc,hr⟩:=h8 j 0 O O
   rw [show q+(j * 1+0)=q+j by omega] at hc
   exact ⟨v,hc,hr⟩
abbrev cH:=Z×Z×Z
abbrev gf:=List (Z×Z)
def eT (l:cH):Z×Z:=(l.1,bP l.2.1 [l.2.2])
def kP (B:List cH):List ((Z×Z)×Bool):=B.map fun l=>(eT l,true)
def qH (B:List cH) (l:cH):List cH:=if l ∈ B then B else B++[l]
def lW (B:List cH):Prop:=∀ l ∈ B,bU l.2.1 [l.2.2]=0
def pC (K:gf):Prop:=∀ x ∈ K,x.2.length=32
def iY (K:gf) (id d m:Z):Nat:=if (eS K id).isSome=true then bU d [m] else 10
def xW (K:gf) (id d m:Z):Z:=lG ((eS K id).getD []) (bP d [m])
theorem lW.add {B:List cH} {l:cH} (h:lW B) (hl:bU l.2.1 [l.2.2]=0):lW (qH B l):=by
 unfold qH
 split
 ·exact h
 ·intro x hx
  rcases akx.1 hx with hx|hx
  ·exact h x hx
  ·rw [Zs.1 hx];exact hl
theorem zu {l k:cH} (hl:bU l.2.1 [l.2.2]=0) (hk:bU k.2.1 [k.2.2]=0) (h:eT l=eT k):l=k:=by
 obtain ⟨a,b,c⟩:=l
 obtain ⟨x,y,z⟩:=k
 simp only [eT,b3x] at h
 obtain ⟨h1,h2⟩:=h
 obtain ⟨h3,h4⟩:=JL hl hk h2
 simp only at h3 h4
 rw [h1,h3,h4]
theorem D3:∀ {B:List cH} {l:cH},lW B→bU l.2.1 [l.2.2]=0→(eS (kP B) (eT l)).getD false=decide (l ∈ B)
 | [],l,_,_=>by
  rw [Zl (Zo)]
  rfl
 | b::B,l,h,hl=>by
  show (if eT b=eT l then some true else eS (kP B) (eT l)).getD false=_
  by_cases e:eT b=eT l
  ·have:=zu (h b Y2) hl e
   rw [YF e,Zj (by rw [← this];exact Y2)]
   rfl
  ·have hne:l≠b:=fun e2=>e (by rw [e2])
   rw [YE e,D3 (fun x hx=>h x (Y7 _ hx)) hl]
   exact decide_eq_decide.2 (by simp [hne])
theorem zk:∀ {B:List cH} {l:cH},lW B→bU l.2.1 [l.2.2]=0→l ∈ B→oL (kP B) (eT l) true=kP B
 | [],l,_,_,hm=>absurd hm Zo
 | b::B,l,h,hl,hm=>by
  show (if eT b=eT l then (eT l,true)::kP B else (eT b,true)::oL (kP B) (eT l) true)=_
  by_cases e:eT b=eT l
  ·rw [YF e,← e];rfl
  ·have hne:l≠b:=fun e2=>e (by rw [e2])
   have hm2:l ∈ B:=by rcases Zg.1 hm with h|h;exact absurd h hne;exact h
   rw [YE e,zk (fun x hx=>h x (Y7 _ hx)) hl hm2]
   rfl
theorem C0:∀ {B:List cH} {l:cH},lW B→bU l.2.1 [l.2.2]=0→l ∉ B→oL (kP B) (eT l) true=kP (B++[l])
 | [],l,_,_,_=>rfl
 | b::B,l,h,hl,hm=>by
  show (if eT b=eT l then (eT l,true)::kP B else (eT b,true)::oL (kP B) (eT l) true)=_
  have e:¬ eT b=eT l:=fun e=>hm (by rw [← zu (h b Y2) hl e];exact Y2)
  rw [YE e,C0 (fun x hx=>h x (Y7 _ hx)) hl (fun h=>hm (Y7 _ h))]
  rfl
theorem O0 {B:List cH} {l:cH} (h:lW B) (hl:bU l.2.1 [l.2.2]=0):oL (kP B) (eT l) true=kP (qH B l):=by
 unfold qH
 split
 ·rename_i hm;exact zk h hl hm
 ·rename_i hm;exact C0 h hl hm
theorem C1 {κ β:Type} [DecidableEq κ]:∀ {l:List (κ×β)} {k:κ} {v:β},eS l k=none→oL l k v=l++[(k,v)]
 | [],_,_,_=>rfl
 | x::r,k,v,h=>by
  unfold eS at h
  by_cases e:x.1=k
  ·rw [YF e] at h;cases h
  ·rw [YE e] at h
   unfold oL
   rw [YE e,C1 h]
   rfl
theorem C3 {κ β:Type} [DecidableEq κ]:∀ {l:List (κ×β)} {k:κ} {v:β},eS l k=some v→(k,v) ∈ l
 | [],_,_,h=>by cases h
 | x::r,k,v,h=>by
  unfold eS at h
  by_cases e:x.1=k
  ·rw [YF e] at h
   cases h
   rw [← e]
   exact Y2
  ·rw [YE e] at h
   exact Y7 _ (C3 h)
def tC (k:Z):CV:=.agg 32 (bc k)
def xC (b:Bool):CV:=.c (.bool b)
def Cx (K:gf) (B:List cH) (x:Nat×Nat×Nat):List (Option Nat×bi):=[(some x.1,.blk 2 (fl [.c (.map (some x.2.1)),.c (.map (some x.2.2))])),(some x.2.1,.obj (oM fE tC K)),(some x.2.2,.obj (oM iT xC (kP B)))]
def dx (n:Nat) (K:gf) (B:List cH):Option Nat×bi:=mJ n (fun x:Nat×Nat×Nat=>x.1) (Cx K B)
theorem Nl:Ee Tryz.prog 9 fE:=Nk Tryz.underlying9
theorem MM {gs:List Nat}:AC gs Tryz.prog 26 [] [] (fun r H'=>∃ n,r=.op 0 (some n) 0∧H'=[dx n [] []]):=by
 refine aj 5 Tryz.func26 fun al w0 F0 St0=>?_;refine U 6516 ?_
 refine au (WH fE tC (fun g1=>?_))
 refine au (WH iT xC (fun g2=>?_))
 refine jq (ai (n:=2) rfl VM Wl rfl rfl) ?_
 refine au (ff 2 fun p1=>?_)
 refine U 51 ?_;refine cL (gW 0 rfl) fun ⟨n,hn⟩=>?_
 subst hn
 refine jE (cW 2 2 (fl [.c (.map (some g1)),.c (.map (some g2))]) rfl (YG _) oB) ?_;refine jE (Mn (gd:=fun x:Nat×Nat×Nat=>x.1) (E:=Cx [] []) (n,g1,g2) [2,0,1] jD rfl) ?_;refine U 7000 ?_
 exact bu (.inl rfl) [0] jD rfl (av rfl (ak rfl)) (cP (j:=0)) ⟨n,rfl,rfl⟩
theorem oe {P:Program} {G:Gh} {c:Code} {env:List (Nat×CV)} {b0:Nat→CV} {H:List (Option Nat×bi)} {R:Exit→AS→Prop} {n:Nat} {K:gf} {B:List cH} (i:Nat) (hH:H[i]?=some (dx n K B)) (h:∀ g1 g2:Nat,bj P G c ⟨env,b0,H.set i (some n,.blk 2 (fl [.c (.map (some g1)),.c (.map (some g2))]))++[(some g1,.obj (oM fE tC K)),(some g2,.obj (oM iT xC (kP B)))]⟩ R):bj P G c ⟨env,b0,H⟩ R :=
 mw (e0:=fun x:Nat×Nat×Nat=>(some x.1,.blk 2 (fl [.c (.map (some x.2.1)),.c (.map (some x.2.2))]))) (tl:=fun x=>[(some x.2.1,.obj (oM fE tC K)),(some x.2.2,.obj (oM iT xC (kP B)))]) i hH (fun ⟨a,g1,g2⟩ hx=>by
  subst hx
  exact h g1 g2)
theorem ll {G:Gh} {env:List (Nat×CV)} {b0:Nat→CV} {H:List (Option Nat×bi)} (n g1 g2:Nat) (K:gf) (B:List cH) (i j k:Nat) (hnd:(i::[j,k]).Nodup) (hlt:∀ q ∈ i::[j,k],q<H.length) (hE:im H [i,j,k]=Cx K B (n,g1,g2)):dh G ⟨env,b0,H⟩ ⟨env,b0,lJ (H.set i (dx n K B)) [j,k]⟩ :=
 closeN (gd:=fun x:Nat×Nat×Nat=>x.1) (E:=Cx K B) (n,g1,g2) i [j,k] hnd hlt hE
theorem Pi {gs:List Nat} [dK gs] [sZ gs] (n:Nat) (K:gf) (B:List cH) (k:Z) (hk:k.length≤1000000):AC gs Tryz.prog 27 [dx n K B] [.op 0 (some n) 0,aV k] (fun r H'=>r=.tup 2 (fl [an (if k.length=32 then uC k else []),.err (if k.length=32 then 0 else 4)])∧H'=[dx n (if k.length=32 then oL K (uC k) k else K) B]):=by
 refine aj 22 Tryz.func27 fun al w0 F0 St0=>?_;refine U 5231675116 ?_;refine ap (fun h51=>?_) fun h51=>?_
 ·refine gY ?_;refine dY (.rd 0 (.rd 1 (.rd 2 .done))) ?_;refine U 3000700088070704000000 ?_
  have e:¬ k.length=32:=by omega
  simp only [YE e]
  exact aJ (.inl rfl) rfl (bB rfl (ak rfl) (ak rfl)) (cT I (aa.errN rfl))
 refine U 16810 ?_
 refine au (ar (RO k hk) ?_)
 refine U 751 ?_
 have h32:k.length=32:=by omega
 refine oe 0 rfl fun g1 g2=>?_;refine lM 8 (.rd 0 (.rd 1 (.rd 2 (.rd 3 (.rd 4 (.rd 5 (.rd 6 (.rd 7 .done)))))))) ?_;refine U 7070100009000005000070 ?_;refine aM (TW rfl rfl Tryz.underlying129 O jD) ?_;refine aM (mn 32) ?_;refine xP ?_
 show cJ _ _ _ _ _ _
 refine aq (WD (vC:=tC) 1 k Tryz.underlying125 Nl (De (k:=uC k) rfl) (cz:=.agg 32 fun j=>bc k j) I ?_)
 refine U 85 ?_;refine jE (ll n g1 g2 (oL K (uC k) k) B 0 1 2 jD (by simp) rfl) ?_;refine U 700051116 ?_
 simp only [YF h32]
 exact aJ (.inl rfl) rfl (bB rfl (ak rfl) (ak rfl)) (cT I (aa.nilE rfl))
theorem VP:aa (.c (.agg #[.int .u8 0,.int .u8 0,.int .u8 0,.int .u8 0,.int .u8 0,.int .u8 0,.int .u8 0,.int .u8 0,.int .u8 0,.int .u8 0,.int .u8 0,.int .u8 0,.int .u8 0,.int .u8 0,.int .u8 0,.int .u8 0,.int .u8 0,.int .u8 0,.int .u8 0,.int .u8 0,.int .u8 0,.int .u8 0,.int .u8 0,.int .u8 0,.int .u8 0,.int .u8 0,.int .u8 0,.int .u8 0,.int .u8 0,.int .u8 0,.int .u8 0,.int .u8 0])) (.agg 32 (bc [])):=fun al St w x hx=>⟨_,hx,rfl,fun i hi=>CD 32 i hi (.int .u8 0) undef⟩
def R6 (e:Nat) (id d m:Z):CV:=.agg 2 (fl [an (if e=0 then id else []),an (if e=0 then bP d [m] else [])])
def V9 (K:gf) (id d m:Z):CV:=.tup 3 (fl [aV (if iY K id d m=0 then xW K id d m else []),R6 (iY K id d m) id d m,.err (iY K id d m)])
theorem z8 {e:Nat} (he:e≠0) (id d m:Z) {f:Nat→CV} (h:∀ j,j<2→aa (f j) (an [])):aa (.agg 2 f) (R6 e id d m):=by
 unfold R6
 rw [YE he,YE he]
 exact aa.agg rfl fun j hj=>by
  rcases j with _|_|j
  ·exact h 0 O
  ·exact h 1 O
  ·omega
theorem yS {gs:List Nat} [dK gs] [sZ gs] (n:Nat) (K:gf) (B:List cH) (id d m:Z) (hK:pC K) (hd:d.length≤1000000) (hm:m.length≤1000000):AC gs Tryz.prog 146 [dx n K B] [.op 0 (some n) 0,an id,an d,aV m] (fun r H'=>r=V9 K id d m∧H'=[dx n K B]):=by
 refine aj 49 Tryz.func146 fun al w0 F0 St0=>?_;refine U 16 ?_
 refine au (cl (n:=2) yo rfl fun p1=>?_)
 refine U 51 ?_;refine oe 0 rfl fun g1 g2=>?_;refine U 150904016 ?_;refine gw (Iv (i:=2) (k:=id) (vC:=tC) (l:=K) (v:=.agg 32 (bc ((eS K id).getD []))) rfl rfl rfl (De rfl) Tryz.underlying125 Nl iJ (fun u hu=>by rw [hu];exact I) (fun h=>by rw [h];exact VP)) ?_;refine U 9009001 ?_
 refine au (cl (n:=32) iJ rfl fun p2=>?_)
 refine aq (bo 32 (bc ((eS K id).getD [])) ?_ ?_)
 ·exact (fun j hj=>gM ((eS K id).getD []) _ j hj)
 refine U 751 ?_;refine jE (ll n g1 g2 K B 0 2 3 jD (by simp) rfl) ?_;refine jE (cn (H':=[dx n K B,(p1,.blk 2 _),(p2,.blk 32 (bc ((eS K id).getD [])))]) [0,1,4] jD rfl) ?_;refine jE (aS 11 (.op 2 p2 0) cP) ?_;refine U 53016 ?_;refine ap (fun h68=>?_) fun h68=>?_
 ·refine gY ?_;refine lL (.rd 0 (.rd 1 (.rd 2 (.one 3 (.rd 4 .done))))) ?_;refine iX (ai (n:=2) rfl yo Mh rfl rfl) ?_;refine iX (cK 9) ?_;refine iX UI ?_
  refine lK (aA 2 ?_)
  refine U 300070008700000400000 ?_
  have e:iY K id d m=10:=by unfold iY;rw [YE (by simpa using h68)]
  exact aJ (.inl rfl) rfl (il rfl (ak rfl) (bD 2) (ak rfl)) (aa.tup3 (aa.nilS' (by rw [e];rfl)) (z8 (by rw [e];decide) _ _ _ oB) (aa.errN e))
 refine U 810 ?_
 obtain ⟨key,hkey⟩:=bGx.1 (show (eS K id).isSome=true by simpa using h68)
 have h32:key.length=32:=hK _ (C3 hkey)
 have hae:iY K id d m=bU d [m]:=by unfold iY;rw [hkey];rfl
 have hfl:[bP d [m]].flatten=bP d [m]:=by simp
 have hsg:xW K id d m=lG key (bP d [m]):=by unfold xW;rw [hkey];rfl
 simp only [hkey,Zw]
 refine U 116 ?_
 refine au (aY 1 1 eK fun p3=>?_)
 refine aI (freeze 3 rfl) ?_;refine aI (qY 32 [m] rfl rfl rfl jD (.cons I .nil)) ?_
 refine au (ar (Du d [m] hd (by show 1≤1000000;decide)) ?_)
 refine U 55000001675119009001 ?_;refine ap (fun h72=>?_) fun h72=>?_
 ·refine dP ?_;refine jq (ai (n:=2) rfl yo Mh rfl rfl) ?_;refine U 11 ?_
  refine aq (aA 2 ?_)
  refine U 3000700051 ?_
  exact aJ (.inl rfl) rfl (il rfl (ak rfl) (bD 2) (ak rfl)) (aa.tup3 (aa.nilS' (by rw [hae,jK];rfl)) (z8 (by rw [hae];omega) _ _ _ oB) (aa.errN hae))
 refine U 810 ?_
 have he0:bU d [m]=0:=by omega
 have hlm:=tL he0
 simp only [he0,if_true]
 refine dP ?_;refine jq (iN rfl rfl (.inl rfl) jD Tryz.underlying129 ix (bG _ _) (bG _ _) (by (omega)) (by (omega)) (by (omega)) rfl) ?_;refine aI (freeze 2 rfl) ?_;refine aI (ia 40 key rfl rfl h32.symm (by rw [h32])) ?_;refine U 1 ?_
 refine au (aY 1 1 eK fun p4=>?_)
 refine aI (freeze 4 rfl) ?_;refine aI (qY 42 [bP d [m]] rfl rfl rfl jD (.cons I .nil)) ?_
 refine au (ar (MX key [bP d [m]] O (by show 1≤1000000;decide) (by rw [hfl];omega)) ?_)
 refine au (cl (n:=32) iJ rfl fun p5=>?_)
 refine aq (bo 32 (bc (lG key (bP d [m]))) ?_ ?_)
 ·exact (fun j hj=>by rw [hfl];exact gM (lG key (bP d [m])) _ j hj)
 refine U 75 ?_;refine lM 6 (.rd 0 (.rd 1 (.rd 2 (.rd 3 (.rd 4 (.rd 5 .done)))))) ?_;refine aM (iN rfl rfl (.inl rfl) jD Tryz.underlying129 ix (bG _ _) (bG _ _) (by (omega)) (by (omega)) (by (omega)) rfl) ?_;refine U 300000007070 ?_;refine aM (ai (n:=2) rfl yo Mh rfl rfl) ?_;refine hZ (freeze 5 rfl) ?_;refine hZ (ia 44 (lG key (bP d [m])) rfl rfl (m8 _ _).symm (by rw [m8])) ?_;refine U 8070 ?_
 show cJ _ _ _ _ _ _
 refine aq (aA 2 ?_)
 refine U 7000851 ?_
 exact aJ (.inl rfl) rfl (il rfl (ak rfl) (bD 2) (ak rfl)) (aa.tup3 (aa.bs (by rw [hae,he0,YF rfl,hsg])) (by unfold R6;rw [hae,he0,YF rfl,YF rfl];exact aa.agg rfl fun j hj=>by rcases j with _|_|j <;> first|exact I|omega) (aa.nilE (by rw [hae,he0])))
def Wr (x:Z×Z):Nat→CV:=fl [an x.1,aV x.2]
def Yf (x:cH):Nat→CV:=fl [an x.1,an x.2.1,an x.2.2]
def Pp:Z×Z:=([],[])
def Yg:cH:=([],[],[])
def GJ (K:gf):CV:=.rs 2 K.length fun i=>Wr (K.getD i Pp)
def Be (B:List cH):CV:=.rs 3 B.length fun i=>Yf (B.getD i Yg)
def mU (n:Nat) (K:gf) (B:List cH):Option Nat×bi:=(some n,.blk 2 (fl [GJ K,Be B]))
theorem Rq (x:Z×Z) {j:Nat} (h:j<2):iS (Wr x j)=true:=by
 rcases j with _|_|j
 ·rfl
 ·rfl
 ·omega
theorem Jb {K:gf} {id:Z} {i:Nat} (hi:i<K.length) (h:(K.getD i Pp).1≠id):eS (K.drop (i+1)) id=eS (K.drop i) id:=by
 rw [show K.drop i=K.getD i Pp::K.drop (i+1) by rw [Y5 hi];simp [List.getD,hi]]
 conv=>rhs;unfold eS
 rw [YE h]
theorem MR {K:gf} {id:Z} {i:Nat} (hi:i<K.length) (h:(K.getD i Pp).1=id):eS (K.drop i) id=some (K.getD i Pp).2:=by
 rw [show K.drop i=K.getD i Pp::K.drop (i+1) by rw [Y5 hi];simp [List.getD,hi]]
 unfold eS
 rw [YF h]
theorem JQ {gs:List Nat} (n:Nat) (K:gf) (B:List cH) (id:Z) (hKl:K.length≤1000000):AC gs Tryz.prog 81 [mU n K B] [.op 0 (some n) 0,an id] (fun r H'=>r=.tup 2 (fl [aV ((eS K id).getD []),.c (.bool (eS K id).isSome)])∧H'=[mU n K B]):=by
 refine aj 24 Tryz.func81 fun al w0 F0 St0=>?_;refine U 205135090401675116 ?_;refine ax (α:=Nat) [4,5,7,13,14,15,16,17,18,19,20,21,22,23] (fun i=>[(13,.c (.int .i64 (i:Nat)))]) (fun i=>[mU n K B]) (fun i=>i≤K.length∧eS (K.drop i) id=eS K id) (fun i=>K.length-i) (0) ?_ (fun _=>rfl) ?_ ?_ ?_
 ·exact ⟨YT _,rfl⟩
 ·(repeat (first|exact bz.nil|refine bz.cons I ?_))
 ·exact aP.refl _
 ·rintro i ⟨(hi:i≤K.length),he⟩
  refine U 7526 ?_;refine ap (fun h47=>?_) fun h47=>?_
  rotate_left
  ·refine U 7000511684000200020006000 ?_
   obtain rfl:i=K.length:=by omega
   rw [apx] at he
   exact aJ (.inl rfl) rfl (bB rfl (ak rfl) (ak rfl)) (by rw [← he];exact cT (aa.nilS' rfl) I)
  refine U 7006207810 ?_;refine jq (mn 2) ?_
  refine au (cl (n:=2) yp rfl fun p1=>?_)
  refine aq (aA 2 ?_)
  refine U 5600001509065 ?_;refine ap (fun h48=>?_) fun h48=>?_
  ·refine U 300050003000300050007000511501006 ?_
   have hm:eS K id=some (K.getD i Pp).2:=by rw [← he];exact MR O (by simpa using h48)
   exact aJ (.inl rfl) rfl (bB rfl (ak rfl) (ak rfl)) (by rw [hm];exact cT I I)
  refine U 8519200840010 ?_
  refine aw (i+1) ?_ ?_ (h7:=?_)
  ·exact ⟨by omega,by rw [Jb O (by simpa using h48)];exact he⟩
  ·show K.length-(i+1)<K.length-i;omega
  ·exact .same .nil
theorem Nm:Ee Tryz.prog 204 iT:=Nj Tryz.underlying204 (by kernel_rfl) Tryz.underlying9 Tryz.underlying9 rfl rfl jD jD
def uT (K:gf) (B:List cH) (id d m s:Z):Nat:=if iY K id d m=0 then (if xW K id d m=s∧(id,d,m) ∈ B then 0 else 12) else iY K id d m
theorem HR {gs:List Nat} [dK gs] [sZ gs] (n:Nat) (K:gf) (B:List cH) (id d m:Z) (hK:pC K) (hB:lW B) (hd:d.length≤1000000) (hm:m.length≤1000000):AC gs Tryz.prog 82 [dx n K B] [.op 0 (some n) 0,an id,an d,aV m] (fun r H'=>r=.tup 2 (fl [aV (if iY K id d m=0 then xW K id d m else []),.err (iY K id d m)])∧H'=[dx n K (if iY K id d m=0 then qH B (id,d,m) else B)]):=by
 have hfe:iY K id d m=0→bU d [m]=0:=fun h=>by
  unfold iY at h
  split at h
  ·exact h
  ·cases h
 refine aj 31 Tryz.func82 fun al w0 F0 St0=>?_;refine U 111165116 ?_
 refine aq (aQ 0 (yS n K B id d m hK hd hm) ?_)
 refine U 9009009001 ?_
 refine au (cl (n:=2) yo rfl fun p2=>?_)
 refine U 1 ?_
 refine aq (aA 2 ?_)
 refine U 550000016751 ?_;refine ap (fun h82=>?_) fun h82=>?_
 ·refine U 3000700051116 ?_
  simp only [YE (show ¬ iY K id d m=0 by omega)]
  exact aJ (.inl rfl) rfl (bB rfl (ak rfl) (ak rfl)) (cT (aa.nilS' rfl) I)
 refine U 7810 ?_
 have he0:iY K id d m=0:=by omega
 have hbs:=O0 (l:=(id,d,m)) hB (hfe he0)
 simp only [he0,if_true]
 refine oe 0 rfl fun g1 g2=>?_;refine lM 5 (.rd 0 (.rd 1 (.rd 2 (.rd 3 (.rd 4 .done))))) ?_;refine U 1000080000005000070 ?_;refine w8 (bq 2) ?_;refine xP ?_
 show cJ _ _ _ _ _ _
 refine aI (aS 29 (.agg 2 (fl [an id,an (bP d [m])])) iD) ?_
 refine aq (WD (vC:=xC) (k:=(id,bP d [m])) 3 true Tryz.underlying126 Nm (cy:=.agg 2 (fl [an id,an (bP d [m])])) (Dd rfl rfl rfl) (cz:=.c (.bool true)) I ?_)
 refine U 85 ?_;refine jE (ll n g1 g2 K (qH B (id,d,m)) 0 2 3 jD (by simp) (by unfold Cx;rw [← hbs];rfl)) ?_;refine U 700051116 ?_
 exact aJ (.inl rfl) rfl (bB rfl (ak rfl) (ak rfl)) (cT I (aa.nilE rfl))
theorem B5 {gs:List Nat} [dK gs] [sZ gs] (n:Nat) (K:gf) (B:List cH) (id d m s:Z) (hK:pC K) (hB:lW B) (hd:d.length≤1000000) (hm:m.length≤1000000):AC gs Tryz.prog 92 [dx n K B] [.op 0 (some n) 0,an id,an d,aV m,aV s] (fun r H'=>r=.err (uT K B id d m s)∧H'=[dx n K B]):=by
 have hfe:iY K id d m=0→bU d [m]=0:=fun h=>by
  unfold iY at h
  split at h
  ·exact h
  ·cases h
 refine aj 42 Tryz.func92 fun al w0 F0 St0=>?_;refine U 11116516 ?_
 refine aq (aQ 0 (yS n K B id d m hK hd hm) ?_)
 refine U 9009009001 ?_
 refine au (cl (n:=2) yo rfl fun p2=>?_)
 refine U 1 ?_
 refine aq (aA 2 ?_)
 refine U 515000001620751 ?_;refine ap (fun h93=>?_) fun h93=>?_
 ·refine U 3000500070005116 ?_
  exact aJ (.inl rfl) rfl (av rfl (ak rfl)) (aa.errN (by unfold uT;rw [jK]))
 refine gY ?_
 have he0:iY K id d m=0:=by omega
 have hbg:=D3 (l:=(id,d,m)) hB (hfe he0)
 have hv:uT K B id d m s=if xW K id d m=s∧(id,d,m) ∈ B then 0 else 12:=by unfold uT;rw [YF he0]
 simp only [he0,if_true]
 refine oe 0 rfl fun g1 g2=>?_;refine dY (.rd 0 (.rd 1 (.one 2 (.rd 3 (.rd 4 (.rd 5 (.rd 6 (.rd 7 (.rd 8 (.rd 9 (.rd 10 (.rd 11 (.rd 12 (.rd 13 .done)))))))))))))) ?_;refine U 7070 ?_
 refine ir (ar (H4 (xW K id d m) s) ?_)
 refine U 70100000 ?_;refine Jk 32 (fun g95=>?_) fun g95=>?_
 ·refine U 9000880703000000600600600600600600600 ?_;refine jE (ll n g1 g2 K B 0 2 3 jD (by simp) rfl) ?_;refine dP ?_;refine jq (cK 11) ?_;refine U 30005000700051 ?_
  exact aJ (.inl rfl) rfl (av rfl (ak rfl)) (aa.errN (by rw [hv,YE (by rintro ⟨k1,k2⟩;simp_all)]))
 refine U 1000080000005000070 ?_;refine w8 (bq 2) ?_;refine w8 (QI (i:=3) (k:=(id,bP d [m])) (vC:=xC) (l:=kP B) (v:=xC (decide ((id,d,m) ∈ B))) rfl rfl rfl (Dd rfl rfl rfl) Tryz.underlying126 Nm X8 (fun u hu=>by rw [← hbg];unfold eT;simp only [hu];exact I) (fun h=>by rw [← hbg];unfold eT;simp only [h];exact I)) ?_;refine U 88070300000100000 ?_;refine ap (fun h95=>?_) fun h95=>?_
 ·refine jE (ll n g1 g2 K B 0 2 3 jD (by simp) rfl) ?_;refine dP ?_;refine jq (cK 11) ?_;refine U 30005000700051 ?_
  exact aJ (.inl rfl) rfl (av rfl (ak rfl)) (aa.errN (by rw [hv,YE (by rintro ⟨k1,k2⟩;simp_all)]))
 refine U 840010 ?_;refine jE (ll n g1 g2 K B 0 2 3 jD (by simp) rfl) ?_;refine U 7000516 ?_
 exact aJ (.inl rfl) rfl (av rfl (ak rfl)) (aa.nilE (by rw [hv,YF (by simp_all)]))
def BO (K:gf) (k:Z):gf:=if (eS K (uC k)).isSome=true then K else K++[(uC k,k)]
theorem IN {gs:List Nat} (n:Nat) (K:gf) (B:List cH) (k:Z) (hKl:K.length≤1000000) (hk:k.length≤1000000):AC gs Tryz.prog 28 [mU n K B] [.op 0 (some n) 0,aV k] (fun r H'=>r=an (uC k)∧H'=[mU n (BO K k) B]):=by
 refine aj 35 Tryz.func28 fun al w0 F0 St0=>?_;refine U 16516 ?_
 refine au (ar (LH k hk) ?_)
 refine U 116751 ?_
 refine aq (aQ 0 (JQ n K B (uC k) hKl) ?_)
 refine U 530165119009001 ?_;refine ap (fun h40=>?_) fun h40=>?_
 rotate_left
 ·refine U 810 ?_
  have e:BO K k=if (eS K (uC k)).isSome=true then K else []++K++[(uC k,k)]:=rfl
  refine jE (cW 0 2 (fl [GJ (BO K k),Be B]) rfl (YG _) (fun j hj=>by
   rcases j with _|_|j
   ·first
     |(rw [e,YF (by simpa using h40)];exact I)
     |(rw [e,YE (by simpa using h40)];exact I)
   ·exact I
   ·omega)) ?_
  refine U 70005116 ?_
  exact aJ (x:=mU n (BO K k) B) (.inl rfl) rfl (av rfl (ak rfl)) I
 refine U 1200 ?_
 refine au (aY 0 2 yp fun p2=>?_)
 refine U 5090401 ?_
 refine aq (aF (l:=[]) ( fW 2 Wr Pp) rfl rfl rfl rfl (ZR (ZQ _)) (fun j hj=>absurd hj (by simp)) (ew rfl) rfl (fun j hj=>by exact I) Tryz.underlying57 Wm SO yp Tp rfl (by (simp;omega)) (by (simp;omega)) (fun j hj=>Rq _ (Z0 _ jD)) rfl rfl rfl (fun p3=>?_))
 refine U 1 ?_
 refine au (aY 0 1 er fun p4=>?_)
 refine U 1 ?_
 refine aq (aR (l:=[]) rfl rfl rfl (YT _) (fun j hj=>absurd hj (YW j)) (ew rfl) rfl (fun j hj=>by simp only [ZN];exact I) Tryz.underlying23 fY ix er mx rfl (by (simp;omega)) (fun j hj=>rfl) rfl rfl (fun p5=>?_))
 refine aI (freeze 2 rfl) ?_;refine aI (ia 28 k rfl rfl rfl rfl) ?_;refine jq (ai (n:=2) rfl yp Wk rfl rfl) ?_
 refine au (aY 2 2 yp fun p6=>?_)
 refine aq (aF (fW 2 Wr Pp) (l2:=[(uC k,k)]) rfl rfl rfl rfl (by exact YG _) (fun _ _=>I) (aW rfl (.inl rfl) jD) rfl (fun j hj=>by rcases j with _|_|j <;> first|exact I|(exfalso;simp at hj <;> omega)) Tryz.underlying57 Wm SO yp Tp rfl (by (simp;omega)) (by (simp;omega)) (bC rfl rfl) rfl rfl rfl (fun p7=>?_))
 refine U 9040 ?_;refine aI (freeze 1 rfl) ?_;refine aI (kg 31 (fun i=>Wr (([]++K++[(uC k,k)]).getD i Pp)) rfl rfl (by simp) (fun a b ha hb=>aa.of_eq (by rw [Nat.zero_add,iy hb]))) ?_
 refine aq (aA 1 ?_)
 refine U 85 ?_
 have e:BO K k=if (eS K (uC k)).isSome=true then K else []++K++[(uC k,k)]:=rfl
 refine jE (cW 0 2 (fl [GJ (BO K k),Be B]) rfl (YG _) (fun j hj=>by
  rcases j with _|_|j
  ·first
    |(rw [e,YF (by simpa using h40)];exact I)
    |(rw [e,YE (by simpa using h40)];exact I)
  ·exact I
  ·omega)) ?_
 refine U 70005116 ?_
 exact aJ (x:=mU n (BO K k) B) (.inl rfl) rfl (av rfl (ak rfl)) I
theorem Vp {K:gf} {id d m:Z} (h:iY K id d m=0):bU d [m]=0∧∃ key,eS K id=some key:=by
 unfold iY at h
 by_cases e:(eS K id).isSome=true
 ·rw [YF e] at h
  exact ⟨h,bGx.1 e⟩
 ·rw [YE e] at h;cases h
section
open Go.RowKit Cal
def qG:Z:=[114,101,113,117,101,115,116]
def Lw (d:Z) (q:Q5):Nat→CV:=fl [an d,.c (.int .i64 q.1.1),an q.1.2.1,an q.1.2.2,an q.2.1,.c (.int .i64 q.2.2.1),.c (.int .i64 q.2.2.2.1),sX q.2.2.2.2]
section
variable {gs:List Nat} [dK gs] [qI gs] [sZ gs]
theorem HY {gs:List Nat} [dK gs] [sZ gs] {f:FuncId} (hc:bA Tryz.prog f=true) (n:Nat) (K:gf) (B:List cH) (id d m:Z) (q:Q5) (hf:cc gs Tryz.prog f [kx q] (.tup 2 (fl [aV m,.err 0]))) (hK:pC K) (hB:lW B) (hd:d.length≤1000000) (hm:m.length≤1000000):AC gs Tryz.prog 29 [dx n K B] [.op 0 (some n) 0,an id,.agg 8 (Lw d q),.fn f 0 fun _=>.top] (fun r H'=>r=.tup 2 (fl [aV (if iY K id d m=0 then xW K id d m else []),.err (iY K id d m)])∧H'=[dx n K (if iY K id d m=0 then qH B (id,d,m) else B)]):=by
 refine aj 30 Tryz.func29 fun al w0 F0 St0=>?_;refine dP ?_
 refine au (ff 8 fun p1=>?_)
 refine U 16511 ?_;refine jq (fF 1 7 true) ?_;refine gw (bq 7) ?_
 refine au (ld rfl rfl (by assumption) (hf) (.cons iD .nil) rfl rfl ?_)
 rintro _ _ ⟨rfl,rfl⟩
 refine U 55000001675119009001 ?_;refine ap (fun h110=>?_) fun h110=>?_
 ·exfalso;exact absurd h110 jD
 refine U 15090116810 ?_
 refine aq (aQ 0 (HR n K B id d m hK hB hd hm) ?_)
 refine U 7000511900900 ?_
 exact aJ (x:=dx n K (if iY K id d m=0 then qH B (id,d,m) else B)) (.inl rfl) rfl (bB rfl (ak rfl) (ak rfl)) (cT I I)
theorem IT {gs:List Nat} [dK gs] [sZ gs] {f:FuncId} (hc:bA Tryz.prog f=true) (n:Nat) (K:gf) (B:List cH) (id d m s:Z) (q:Q5) (hf:cc gs Tryz.prog f [kx q] (.tup 2 (fl [aV m,.err 0]))) (hK:pC K) (hB:lW B) (hd:d.length≤1000000) (hm:m.length≤1000000):AC gs Tryz.prog 35 [dx n K B] [.op 0 (some n) 0,an id,.agg 8 (Lw d q),aV s,.fn f 0 fun _=>.top] (fun r H'=>r=.err (uT K B id d m s)∧H'=[dx n K B]):=by
 refine aj 30 Tryz.func35 fun al w0 F0 St0=>?_;refine dP ?_
 refine au (ff 8 fun p1=>?_)
 refine U 1651 ?_;refine jq (fF 1 7 true) ?_;refine gw (bq 7) ?_
 refine au (ld rfl rfl (by assumption) (hf) (.cons iD .nil) rfl rfl ?_)
 rintro _ _ ⟨rfl,rfl⟩
 refine U 55000001675119009001 ?_;refine ap (fun h119=>?_) fun h119=>?_
 ·exfalso;exact absurd h119 jD
 refine U 115090116810 ?_
 refine aq (aQ 0 (B5 n K B id d m s hK hB hd hm) ?_)
 refine U 700051 ?_
 exact aJ (x:=dx n K B) (.inl rfl) rfl (av rfl (ak rfl)) I
def SA (K:gf) (q:Q5):Nat:=iY K q.2.1 qG (dL q)
def vX (K:gf) (q:Q5):Z:=xW K q.2.1 qG (dL q)
def wU (q:Q5):cH:=(q.2.1,qG,dL q)
theorem rS (K:gf) (q:Q5):(vX K q).length=32:=m8 _ _
end
end
end Am
end Go.Proofs.YtghminnpfnkbjaaGreatDoor
namespace Go.Proofs.YtghminnpfnkbjaaGreatDoor
set_option linter.unusedVariables false
open Go.RowKit Go.Extern.Stop Go.Stop Go.Extern
set_option maxRecDepth 100000 in
theorem UM (v:Value) (a:Addr) (hv:v=.iface 338 (.pointer (some a))) (w:World) :
  Calls Tryz.prog 33 #[.nilIface,v] w fun e w'=>e=.returned (.bool false)∧w=w':=by
 subst hv
 have hn:=run_eql_iface_nil_left (P:=Tryz.prog) w 338 (.pointer (some a)) Tryz.underlying37
 go_enter Tryz.func33,Tryz.ntmps33
 go_wp2
 go_ret
 exact ⟨rfl,rfl⟩
namespace Am
variable {gs:List Nat} [dK gs]
theorem Ou (m k:Nat) (hm:m≤28) (hk:k<28):cc gs Tryz.prog 33 [.err m,.err (k+1)] (.c (.bool (decide (m=k+1)))) :=
 ot fun al w St vals hs hv hr=>by
  have h0:vals.getD 0 undef=ev al m:=hr 0
  have h1:vals.getD 1 undef=ev al (k+1):=hr 1
  rw [ui hv,h0,h1]
  have hst:=hs.std
  by_cases hz:m=0
  ·subst hz
   have hl:al.length=28:=hst.len.trans (by rw [dK.eq];rfl)
   obtain ⟨b,hb⟩:∃ b,al[k]?=some b:=⟨al[k],YR O⟩
   have e2:ev al (k+1)=.iface 338 (.pointer (some b)):=by simp [ev,hb]
   rw [Zl O]
   exact (UM _ b e2 w).mono fun e w' ⟨h1,h2⟩=>⟨h1,by rw [h2];exact Below.refl _ _⟩
  ·exact (NA hst m k hz hm hk).mono fun e w' ⟨h1,h2⟩=>⟨h1,by rw [h2];exact Below.refl _ _⟩
end Am
end Go.Proofs.YtghminnpfnkbjaaGreatDoor
namespace Go.Proofs.YtghminnpfnkbjaaGreatDoor
set_option linter.unusedVariables false
namespace Am
open Go.RowKit
section
open Go.RowKit Cal
def rD (E0 E1:Nat) (q:Q5):Q5×Nat:=if E0=0 then (q,E1) else (ut,E0)
def sC (E0 E1 V:Nat) (q:Q5):Q5×Nat:=if E0=0 then (if E1=0 then (if V=0 then (q,0) else (ut,if V=12 then 11 else V)) else (ut,E1)) else (ut,E0)
theorem th {f:Nat→CV} (h:∀ j,j<7→aa (f j) (LJ ut j)):aa (.agg 7 f) (kx ut):=aa.agg rfl h
section
variable {gs:List Nat} [dK gs] [qI gs] [sZ gs]
theorem IQ {gs:List Nat} [dK gs] (b body sig:Z) (E0 E1:Nat) (q:Q5) (hS:cc gs Tryz.prog 34 [aV b] (.tup 3 (fl [aV body,aV sig,.err E0]))) (hR:cc gs Tryz.prog 19 [aV body] (.tup 2 (fl [kx q,.err E1]))) :
  cc gs Tryz.prog 23 [aV b] (.tup 2 (fl [kx (rD E0 E1 q).1,.err (rD E0 E1 q).2])):=by
 refine aj 21 Tryz.func23 fun al w0 F0 St0=>?_;refine dP ?_
 refine au (cl (n:=7) kR rfl fun p1=>?_)
 refine U 1651 ?_
 refine au (ar hS ?_)
 refine U 550000016751119009009001 ?_;refine ap (fun h89=>?_) fun h89=>?_
 ·refine dP ?_;refine jq (ai (n:=7) rfl kR rZ rfl rfl) ?_;refine U 1 ?_
  refine aq (aA 7 ?_)
  refine U 51 ?_
  refine jR (kq (eA (hres:=bB rfl (bD 7) bJ) (hv:=?_)))
  rw [show rD E0 E1 q=(ut,E0) by unfold rD;rw [jK]]
  exact cT (th fun j hj=>by rcases j with _|_|_|_|_|_|_|j <;> first|exact I|exact aa.nilS' rfl|omega) I
 refine U 16810 ?_
 refine au (ar hR ?_)
 refine U 900900 ?_
 refine aq (aA 7 ?_)
 refine U 51 ?_
 refine jR (eA (hres:=bB rfl (bD 7) bJ) (hv:=?_))
 rw [show rD E0 E1 q=(q,E1) by unfold rD;rw [jP]]
 exact cT iD I
theorem EE {gs:List Nat} (b body sig:Z) (E0 E1:Nat) (q:Q5) (hS:cc gs Tryz.prog 37 [aV b] (.tup 3 (fl [aV body,aV sig,.c (.int .i64 (E0:Nat))]))) (hR:cc gs Tryz.prog 22 [aV body] (.tup 2 (fl [kx q,.c (.int .i64 (E1:Nat))]))) :
  cc gs Tryz.prog 24 [aV b] (.tup 2 (fl [kx (rD E0 E1 q).1,.c (.int .i64 ((rD E0 E1 q).2:Nat))])):=by
 refine aj 21 Tryz.func24 fun al w0 F0 St0=>?_;refine dP ?_
 refine au (cl (n:=7) kR rfl fun p1=>?_)
 refine U 1651 ?_
 refine au (ar hS ?_)
 refine U 5216751119009009001 ?_;refine ap (fun h71=>?_) fun h71=>?_
 ·refine dP ?_;refine jq (ai (n:=7) rfl kR rZ rfl rfl) ?_;refine U 1 ?_
  refine aq (aA 7 ?_)
  refine U 51 ?_
  refine jR (kq (eA (hres:=bB rfl (bD 7) bJ) (hv:=?_)))
  rw [show rD E0 E1 q=(ut,E0) by unfold rD;rw [jK]]
  exact cT (th fun j hj=>by rcases j with _|_|_|_|_|_|_|j <;> first|exact I|exact aa.nilS' rfl|omega) I
 refine U 16810 ?_
 refine au (ar hR ?_)
 refine U 900900 ?_
 refine aq (aA 7 ?_)
 refine U 51 ?_
 refine jR (eA (hres:=bB rfl (bD 7) bJ) (hv:=?_))
 rw [show rD E0 E1 q=(q,E1) by unfold rD;rw [jP]]
 exact cT iD I
theorem Kd {gs:List Nat} [dK gs] [sZ gs] (n:Nat) (K:gf) (B:List cH) (b body sig:Z) (E0 E1 V:Nat) (q:Q5) (hV:V≤28) (hS:cc gs Tryz.prog 34 [aV b] (.tup 3 (fl [aV body,aV sig,.err E0]))) (hR:cc gs Tryz.prog 19 [aV body] (.tup 2 (fl [kx q,.err E1])))
  (hO:E1=0→AC gs Tryz.prog 35 [dx n K B] [.op 0 (some n) 0,an q.2.1,.agg 8 (Lw qG q),aV sig,.fn 15 0 fun _=>.top] (fun r H'=>r=.err V∧H'=[dx n K B])) :
  AC gs Tryz.prog 12 [dx n K B] [.op 0 (some n) 0,aV b] (fun r H'=>r=.tup 2 (fl [kx (sC E0 E1 V q).1,.err (sC E0 E1 V q).2])∧H'=[dx n K B]):=by
 have hIs:=Ou (gs:=gs) V 11 hV jD
 refine aj 48 Tryz.func12 fun al w0 F0 St0=>?_;refine dP ?_
 refine au (cl (n:=7) kR rfl fun p1=>?_)
 refine U 1651 ?_
 refine au (ar hS ?_)
 refine U 550000016751119009009001 ?_;refine ap (fun h98=>?_) fun h98=>?_
 ·refine dP ?_;refine jq (ai (n:=7) rfl kR rZ rfl rfl) ?_;refine U 1 ?_
  refine aq (aA 7 ?_)
  refine U 3000700051 ?_
  rw [show sC E0 E1 V q=(ut,E0) by unfold sC;rw [jK]]
  exact aJ (x:=dx n K B) (.inl rfl) rfl (bB rfl (bD 7) (ak rfl)) (cT (th fun j hj=>by rcases j with _|_|_|_|_|_|_|j <;> first|exact I|exact aa.nilS' rfl|omega) I)
 refine U 16810 ?_
 refine au (ar hR ?_)
 refine U 9009001 ?_
 refine au (cl (n:=7) kR rfl fun p2=>?_)
 refine aq (aA 7 ?_)
 refine U 550000016751 ?_;refine ap (fun h102=>?_) fun h102=>?_
 ·refine dP ?_;refine jq (ai (n:=7) rfl kR rZ rfl rfl) ?_;refine U 1 ?_
  refine aq (aA 7 ?_)
  refine U 3000700051 ?_
  rw [show sC E0 E1 V q=(ut,E1) by unfold sC;rw [jP,jK]]
  exact aJ (x:=dx n K B) (.inl rfl) rfl (bB rfl (bD 7) (ak rfl)) (cT (th fun j hj=>by rcases j with _|_|_|_|_|_|_|j <;> first|exact I|exact aa.nilS' rfl|omega) I)
 refine U 50500000016810 ?_;refine gw (bq 7) ?_;refine jq (ai (n:=8) rfl VI Wg rfl rfl) ?_;refine U 1 ?_
 refine aq (aQ 0 (hO O) ?_)
 refine U 1620751 ?_;refine jq (cK 11) ?_
 refine au (ar hIs ?_)
 refine U 51 ?_;refine ap (fun h107=>?_) fun h107=>?_
 ·refine gY ?_;refine lL (.rd 0 (.rd 1 (.one 2 (.rd 3 .done)))) ?_;refine iX (ai (n:=7) rfl kR rZ rfl rfl) ?_;refine iX (cK 10) ?_
  refine lK (aA 7 ?_)
  refine U 3000500070008700000400000 ?_
  rw [show sC E0 E1 V q=(ut,11) by unfold sC;rw [jP,jP,YE (by simp_all),YF (by simp_all)]]
  exact aJ (x:=dx n K B) (.inl rfl) rfl (bB rfl (bD 7) (ak rfl)) (cT (th fun j hj=>by rcases j with _|_|_|_|_|_|_|j <;> first|exact I|exact aa.nilS' rfl|omega) (aa.errN rfl))
 refine U 5150000016 ?_;refine ap (fun h109=>?_) fun h109=>?_
 ·refine dP ?_;refine jq (ai (n:=7) rfl kR rZ rfl rfl) ?_;refine U 1 ?_
  refine aq (aA 7 ?_)
  refine U 30005000700051 ?_
  rw [show sC E0 E1 V q=(ut,V) by unfold sC;rw [jP,jP,YE (by simp_all),YE (by simp_all)]]
  exact aJ (x:=dx n K B) (.inl rfl) rfl (bB rfl (bD 7) (ak rfl)) (cT (th fun j hj=>by rcases j with _|_|_|_|_|_|_|j <;> first|exact I|exact aa.nilS' rfl|omega) I)
 refine U 6840010 ?_;refine gw (bq 7) ?_
 refine aq (aA 7 ?_)
 refine U 700051 ?_
 rw [show sC E0 E1 V q=(q,0) by unfold sC;rw [jP,jP,YF (by simp_all)]]
 exact aJ (x:=dx n K B) (.inl rfl) rfl (bB rfl (bD 7) (ak rfl)) (cT iD (aa.nilE rfl))
end
end
section
open Go.RowKit Cal
section
variable {gs:List Nat}
end
end
section
open Go.RowKit Cal
def uw (b:Z):Q5×Nat:=rD (bS b).2.2 (dS (bS b).1).2 (dS (bS b).1).1
def KB (K:gf) (B:List cH) (b:Z):Nat:=uT K B (dS (bS b).1).1.2.1 qG (bS b).1 (bS b).2.1
def Kc (K:gf) (B:List cH) (b:Z):Q5×Nat:=sC (bS b).2.2 (dS (bS b).1).2 (KB K B b) (dS (bS b).1).1
theorem Uh (l:YD) (k:Nat):(ab 0 l k).raw.length≤(aB l).length:=by
 unfold ab
 repeat' split
 all_goals first
  |(simp only [List.length_nil];omega)
  |(show (List.take _ (aB l)).length≤_;rw [YS];omega)
theorem My {l:YD} {k:Nat} {a z:Int} (h:(aB l).length≤100000):(ac ⟨6,0,a,z⟩ l k).v.b.length≤100000:=by
 have hbd:=ek (aB l)
 have hbb:(ab 4 l k).body.length≤100000:=by
  unfold ab
  repeat' split
  all_goals (simp only [List.length_nil];omega)
 unfold ac
 rw [YE (by show ¬ (6:Int)=1;decide),YE (by show ¬ (6:Int)=2;decide),YE (by show ¬ (6:Int)=11;decide)]
 unfold eH
 split
 ·show (saidM ⟨6,0,a,z⟩ (ab 4 l k).body).1.b.length≤_
  show (iW a z (ab 4 l k).body).1.length≤_
  unfold iW
  repeat' split
  all_goals (simp only [List.length_nil];omega)
 ·simp [VV.none]
theorem vU {b:Z} (hb:b.length≤60000):(bS b).1.length≤80000∧(bS b).2.1.length≤100000:=by
 have B:=Vl (b:=b) O
 have n2:=dC B.m2
 have m0:dT [b] (aN b).2≤60001:=by
  have:cp [b]=b.length:=by simp [cp]
  unfold dT
  split <;> omega
 have he:=f7 (t:=48) (l:=[b]) (k:=(aN b).2) (by simp)
 have m1:dT (lZ b) (oN b)≤60001:=Zd he.2.1 m0
 have n1:=dC m1
 have h2:(kS b).v.b.length≤80000:=by
  have e:kS b=⟨(ab 0 (lZ b) (oN b)).l,(ab 0 (lZ b) (oN b)).k,vB (ab 0 (lZ b) (oN b)).raw⟩:=by unfold kS ac;rw [YE jD,YE jD,YF jD]
  rw [e]
  show (ab 0 (lZ b) (oN b)).raw.length≤_
  exact Zd (Uh _ _) O
 have h3:(jy b).2.b.length≤100000:=by
  have e:(jy b).2.b=(ac ⟨6,0,32,32⟩ (kS b).l (kS b).k).v.b:=by unfold jy cQ;rw [YE jD];rfl
  rw [e]
  exact My n2
 unfold bS oO
 split
 ·exact ⟨h2,h3⟩
 ·exact ⟨by simp,by simp⟩
theorem TD (K:gf) (B:List cH) (id d m s:Z):uT K B id d m s≤28:=by
 unfold uT iY bU
 repeat' split
 all_goals omega
section
variable {gs:List Nat}
theorem EQ [dK gs] [qI gs] (b:Z) (hb:b.length≤60000):cc gs Tryz.prog 23 [aV b] (.tup 2 (fl [kx (uw b).1,.err (uw b).2])) :=
 IQ b (bS b).1 (bS b).2.1 (bS b).2.2 (dS (bS b).1).2 (dS (bS b).1).1 (vS b O) (tj (bS b).1 (by have:=(vU hb).1;omega))
theorem Cs (b:Z) (hb:b.length≤60000):cc gs Tryz.prog 24 [aV b] (.tup 2 (fl [kx (uw b).1,.c (.int .i64 ((uw b).2:Nat))])) :=
 EE b (bS b).1 (bS b).2.1 (bS b).2.2 (dS (bS b).1).2 (dS (bS b).1).1 (Cr b O) (wd (bS b).1 (by have:=(vU hb).1;omega))
theorem FF [dK gs] [qI gs] [sZ gs] (n:Nat) (K:gf) (B:List cH) (b:Z) (hb:b.length≤60000) (hK:pC K) (hB:lW B):AC gs Tryz.prog 12 [dx n K B] [.op 0 (some n) 0,aV b] (fun r H'=>r=.tup 2 (fl [kx (Kc K B b).1,.err (Kc K B b).2])∧H'=[dx n K B]):=by
 have hl:=vU hb
 refine Kd n K B b (bS b).1 (bS b).2.1 (bS b).2.2 (dS (bS b).1).2 (KB K B b) (dS (bS b).1).1 (TD _ _ _ _ _ _) (vS b O) (tj (bS b).1 O) (fun h0=>?_)
 have hr:=LM h0
 have hw:=EG O h0
 unfold KB
 generalize (bS b).1=body at *
 generalize (bS b).2.1=sig at *
 generalize (dS body).1=q at *
 have hg:=pr hr
 have hbd:=Ai (gs:=gs) q (by have:=hg.n8;omega)
 rw [YF hr,YF hr,hw] at hbd
 exact IT (by kernel_rfl) n K B q.2.1 qG body sig q hbd hK hB (by simp [qG]) O
end
end
section
open Go.RowKit Cal
section
variable {q:Q5} {s:Z}
theorem Qv (h:iV q):FS 5 (48,xZ q):=by
 obtain ⟨l1,l3⟩:=k8 h
 have hflat:([Kn lS (B7 q.1),Kn xo (xO (fQ q.2.1)),(3,dD q.2.2.1.toNat),Kn uF (xS q.2.2.2.1),(48,FM q.2.2.2.2)].map ny).flatten=xZ q:=by
  unfold xZ Mc QV SW SU Pq
  simp only [Zc,aAx,Zv,aKx]
  rfl
 rw [← hflat]
 refine m9 (d:=4) jD jD jD (fun x hx=>?_) (by rw [hflat];omega)
 simp only [Zg,Zo,or_false] at hx
 rcases hx with rfl|rfl|rfl|rfl|rfl
 ·exact ((lc nM h.who).2.2).mono jD
 ·exact ((lc sb h.ky).2.2).mono jD
 ·exact (Og h.us).mono jD
 ·exact ((lc qO h.du).2.2).mono jD
 ·exact (KM h.n8 h.al).mono jD
theorem Bl {x:Z} (hx:FS 5 (48,x)) (hl:(bL 48 x).length≤60000) (hs:s.length=32):(aN (cS (bL 48 x) s)).2=0:=by
 have hp:=ez 4 s
 have hj:=tF hl hs
 have e:([((48:Int),x),(4,s)].map ny).flatten=bL 48 x++bL 4 s:=by
  simp only [Zc,aAx,Zv,aKx,ZH]
  rfl
 have hL:FS 6 (48,bL 48 x++bL 4 s):=by
  rw [← e]
  refine m9 (d:=5) jD jD jD (fun y hy=>?_) (by rw [e];omega)
  simp only [Zg,Zo,or_false] at hy
  rcases hy with rfl|rfl
  ·exact hx
  ·exact (lu (t:=4) (b:=s) jD jD O).mono jD
 exact zw hL jD (by show (cS (bL 48 x) s).length≤_;omega)
theorem Fh (h:iV q) (hs:s.length=32):(aN (cS (dL q) s)).2=0:=Bl (Qv h) (by have:=(k8 h).2;unfold dL at this;omega) hs
theorem um (h:iV q) (hs:s.length=32):bS (cS (dL q) s)=(dL q,s,0):=by
 have hl:=(k8 h).2
 have hj:=tF (b:=dL q) O hs
 have hd:=tf h
 have hdj:=Fh h hs
 obtain ⟨e1,e2,_⟩:=qp [] (t:=48) (b:=dL q++bL 4 s) [] jD O
 rw [ZH] at e1 e2
 generalize dL q=b at *
 have s1:lZ (cS b s)=[[]]++[b++bL 4 s]:=by unfold lZ;rw [hdj];exact e1
 have k1:oN (cS b s)=0:=by unfold oN;rw [hdj];exact e2
 obtain ⟨n1,n2,n3⟩:=ML hd [[]] (bL 4 s)
 have s2:kS (cS b s)=⟨[[]]++[bL 4 s],0,vB b⟩:=by
  unfold kS
  rw [s1,k1]
  unfold ac
  rw [YE jD,YE jD,YF jD,n1,n2,n3]
 have hg:gg VB (xO s):=.inr (.inr (.inl ⟨rfl,rfl,by show (32:Int)≤(s.length:Nat);omega,by show (s.length:Nat)≤(32:Int);omega⟩))
 have s3:jy (cS b s)=(([[]]++[[]],0),xO s):=by
  unfold jy
  rw [s2]
  have:=qk SZ hg [[]] []
  rw [ZH] at this
  exact this
 have lv:=qf (ls:=[[]]) jD
 generalize cS b s=J at *
 have s4:Po J=0:=by
  unfold Po
  rw [s3]
  dsimp only
  rw [lv.1,lv.2]
  rfl
 unfold bS oO
 rw [YF s4,s2,s3]
 rfl
theorem Hs (K:gf) (B:List cH) (hr:cA q=true) (hs:s.length=32):KB K B (cS (dL q) s)=uT K B q.2.1 qG (dL q) s:=by
 unfold KB
 rw [um (pr hr) hs]
 dsimp only
 rw [yT hr]
theorem Kb (K:gf) (B:List cH) (hr:cA q=true) (hs:s.length=32):Kc K B (cS (dL q) s)=sC 0 0 (uT K B q.2.1 qG (dL q) s) q:=by
 unfold Kc
 rw [Hs K B hr hs,um (pr hr) hs]
 dsimp only
 rw [yT hr]
attribute [local irreducible] bS dS dL in
end
end
section
open Go.RowKit Cal
def kB (i:Nat):Z:=UInt8.ofNat i::List.replicate 31 0
def kI (i:Nat):Z:=uC (kB (i+1))
def K3 (n:Nat):gf:=(List.range n).map fun i=>(kI i,kB (i+1))
def GQ (n:Nat):YD:=(List.range n).map kI
theorem w7 (i:Nat):(kB i).length=32:=rfl
theorem Wv:kI 0≠kI 1∧kI 0≠kI 2∧kI 1≠kI 2:=by decide +kernel
theorem Vx (n:Nat):(K3 n).length=n:=by simp [K3]
theorem GP (n:Nat):(GQ n).length=n:=by simp [GQ]
theorem Dm (n:Nat):GQ (n+1)=GQ n++[kI n]:=by simp [GQ,aSx]
theorem Hg (n:Nat):K3 (n+1)=K3 n++[(kI n,kB (n+1))]:=by simp [K3,aSx]
attribute [local irreducible] kI in
theorem Pl {n:Nat} (h:n<3):eS (K3 n) (kI n)=none:=by
 obtain ⟨h1,h2,h3⟩:=Wv
 rcases n with _|_|_|n
 ·rfl
 ·rw [show K3 (0+1)=[(kI 0,kB 1)] from rfl]
  simp only [eS]
  rw [YE h1]
 ·rw [show K3 (0+1+1)=[(kI 0,kB 1),(kI 1,kB 2)] from rfl]
  simp only [eS]
  rw [YE h2,YE h3]
 ·omega
theorem Vw {n:Nat} (h:n<3):oL (K3 n) (kI n) (kB (n+1))=K3 (n+1):=by rw [C1 (Pl h),Hg]
theorem Vy {n:Nat} (h:n<3):BO (K3 n) (kB (n+1))=K3 (n+1):=by
 unfold BO
 rw [show uC (kB (n+1))=kI n from rfl,Pl h,YE (by simp),Hg]
theorem Hh (n:Nat):pC (K3 n):=fun x hx=>by
 obtain ⟨i,_,rfl⟩:=aBx.1 hx
 rfl
def rG:Q5:=((1,[],[97]),kI 0,1,5,[])
theorem tV:cA rG=true:=by decide +kernel
theorem FN {K:gf} {q:Q5} (hr:cA q=true) (hk:(eS K q.2.1).isSome=true):SA K q=0:=by
 have hl:=(k8 (pr hr)).2
 unfold SA iY
 rw [YF hk,xk,YF jD,jK]
attribute [local irreducible] kI in
theorem By:(eS (K3 3) rG.2.1).isSome=true:=by
 rw [show K3 3=[(kI 0,kB 1),(kI 1,kB 2),(kI 2,kB 3)] from rfl,show rG.2.1=kI 0 from rfl]
 simp only [eS]
 rw [YF True.intro]
 rfl
section
variable {b s:Z}
def Q0 (b:Z):Z:=48::(ie (b.length+34)++b++[4,32])
theorem tD (hs:s.length=32):cS b s=Q0 b++s:=by
 have e:bL 4 s=[4,32]++s:=by
  unfold bL
  rw [hs]
  rfl
 unfold cS
 rw [e]
 unfold bL Q0
 have:(b++([4,32]++s)).length=b.length+34:=by simp [hs]
 rw [this]
 simp
def qQ (s:Z):Z:=s.set 31 (s.getD 31 0 ^^^ 1)
theorem zT:(qQ s).length=s.length:=by simp [qQ]
theorem Oc (hs:s.length=32):s≠qQ s:=fun h=>by
 have h31:=Y3 (fun l=>l.getD 31 0) h
 simp only [qQ] at h31
 rw [YH (l:=s.set 31 _),List.getElem?_set_self O] at h31
 simp only [Zw] at h31
 generalize s.getD 31 0=x at h31
 have h2:x ^^^ x=x ^^^ (x ^^^ 1):=Y3 (x ^^^ ·) h31
 rw [← UInt8.xor_assoc,UInt8.xor_self,UInt8.zero_xor] at h2
 exact absurd h2 jD
theorem Fi (hs:s.length=32):(cS b s).set ((cS b s).length-1) ((cS b s).getD ((cS b s).length-1) 0 ^^^ 1)=cS b (qQ s):=by
 have e1:=tD (b:=b) hs
 have e2:=tD (b:=b) (s:=qQ s) (by rw [zT];exact hs)
 have hl:(cS b s).length-1=(Q0 b).length+31:=by rw [e1,YI,hs];omega
 rw [hl,e1,e2,List.set_append,jK,Z2]
 unfold qQ
 rw [YH,YX O,Z2,← YH]
end
theorem Ob {K:gf} {B:List cH} {q:Q5} (hr:cA q=true) (hk:SA K q=0):Kc K B (cS (dL q) (qQ (vX K q)))=(ut,11):=by
 have hs:=rS K q
 rw [Kb K B hr (by rw [zT];exact hs)]
 have hv:uT K B q.2.1 qG (dL q) (qQ (vX K q))=12:=by
  unfold uT
  rw [YF (show iY K q.2.1 qG (dL q)=0 from hk),YE (fun h=>Oc hs h.1)]
 rw [hv]
 rfl
theorem Ri {G:Gh} {env:List (Nat×CV)} {b0:Nat→CV} {H:List (Option Nat×bi)} (n i:Nat) {f:Nat→CV} (hi:H[i]?=some (some n,.blk 2 f)) (h0:aa (f 0) (.c (.slice none 0 0))) (h1:aa (f 1) (.c (.slice none 0 0))):dh G ⟨env,b0,H⟩ ⟨env,b0,H.set i (mU n [] [])⟩ :=
 cW i 2 (fl [GJ [],Be []]) hi (YG _) (fun j hj=>by
  rcases j with _|_|j
  ·exact h0.trans (aa.nilS' rfl)
  ·exact h1.trans (aa.nilS' rfl)
  ·omega)
theorem Rv (i:Nat) (hi:i<256) (j:Nat) (hj:j<32):aa (gT (fun _=>.c (.int .u8 0)) 0 [.c (.int .u8 ((i:Nat):Int))] j) (bc (kB i) j):=by
 refine aa.of_eq ?_
 rw [dE]
 unfold bc kB
 rcases j with _|j
 ·rw [YF (by simp)]
  show CV.c (.int .u8 ((i:Nat):Int))=.c (.int .u8 (((UInt8.ofNat i).toNat:Nat):Int))
  rw [YY,Z8 O]
 ·rw [YE (by simp)]
  rw [anx,YH,ZL]
  split <;> rfl
section
variable {gs:List Nat} [dK gs] [qI gs] [sZ gs]
theorem SC {gs:List Nat} [dK gs] [sZ gs] (n i:Nat) (hi:i<3):AC gs Tryz.prog 27 [dx n (K3 i) []] [.op 0 (some n) 0,aV (kB (i+1))] (fun r H'=>r=.tup 2 (fl [an (kI i),.err 0])∧H'=[dx n (K3 (i+1)) []]):=by
 have h:=Pi (gs:=gs) n (K3 i) [] (kB (i+1)) (by rw [w7];decide)
 rw [YF (w7 _),YF (w7 _),YF (w7 _),show uC (kB (i+1))=kI i from rfl,Vw hi] at h
 exact h
theorem Mb {gs:List Nat} (n i:Nat) (hi:i<3):AC gs Tryz.prog 28 [mU n (K3 i) []] [.op 0 (some n) 0,aV (kB (i+1))] (fun r H'=>r=an (kI i)∧H'=[mU n (K3 (i+1)) []]):=by
 have h:=IN (gs:=gs) n (K3 i) [] (kB (i+1)) (by rw [Vx];omega) (by rw [w7];decide)
 rw [show uC (kB (i+1))=kI i from rfl,Vy hi] at h
 exact h
theorem Il {gs:List Nat} [dK gs] [sZ gs]:AC gs Tryz.prog 7 [] [] (fun r H'=>∃ n m,r=.tup 3 (fl [.op 0 (some n) 0,.op 1 (some m) 0,sX (GQ 3)])∧H'=[dx n (K3 3) [],mU m (K3 3) []]):=by
 refine aj 42 Tryz.func7 fun al w0 F0 St0=>?_;refine U 651116 ?_
 refine au (ry MM ?_)
 rintro _ _ ⟨n,rfl,rfl⟩
 refine jq (ai (n:=2) rfl Xd Xt rfl rfl) ?_
 refine au (ff 2 fun p1=>?_)
 refine U 511 ?_;refine cL (gW 4 rfl) fun hn=>?_
 obtain ⟨m,rfl⟩:=hn
 refine jE (Ri m 1 rfl I I) ?_
 dsimp only [List.set_cons_zero,List.set_cons_succ,List.cons_append,List.nil_append,List.length_cons,List.length_nil,Nat.zero_add,Nat.reduceAdd]
 refine dP ?_
 refine au (aY 0 1 Eg fun p2=>?_)
 refine U 20516751 ?_;refine ax (α:=Nat×Option Nat) [0,1,2,5,6,7,8,9,14,15,16,17,18,19,20,21,22,23,24,25,26,27,28,29,30,31,32,33,34,35,36,37,38] (fun (i,g)=>[(5,.os 2 g 0 (GQ i).length 1),(6,.c (.int .i64 ((i+1:Nat))))]) (fun (i,g)=>[dx n (K3 i) [],mU m (K3 i) [],(g,.blk ((GQ i).length * 1) (BR (GQ i)))]) (fun p=>p.1≤3) (fun p=>3-p.1) ((0,p2)) ?_ (fun _=>rfl) ?_ ?_ ?_
 ·exact YT _
 ·exact .cons (cO rfl) (.cons I .nil)
 ·exact .same (.same (.blk rfl (fun j hj=>absurd hj (YW j)) .nil))
 ·rintro ⟨i,g⟩ (hi:i≤3)
  have hil:=GP i
  refine U 52167 ?_;refine ap (fun h17=>?_) fun h17=>?_
  rotate_left
  ·refine U 84000200020006000 ?_
   have h3:i=3:=by omega
   subst h3
   refine jE (freeze 2 rfl) ?_;refine jE (kg 5 (fun a b=>an ((GQ 3).getD a [])) rfl rfl O (fun a b ha hb=>aa.of_eq (by unfold BR;rw [show 0+(a * 1+b)=a by omega]))) ?_;refine U 700051111116 ?_
   exact bu (.inl rfl) [0,1] jD rfl (il rfl (ak rfl) (ak rfl) (ak rfl)) (m:=.tup 3 (fl [.op 0 (some n) 0,.op 1 (some m) 0,sX (GQ 3)])) (aa.tup3 (cP) (cP) I) ⟨n,m,rfl,rfl⟩
  refine U 6207810 ?_
  refine au (BA (F:=(fun _=>.c (.int .u8 0))) rfl rfl rfl (show (32:Int)=((32:Nat):Int) from rfl) (show (32:Int)=((32:Nat):Int) from rfl) (by (omega)) Tryz.underlying23 ix er mx (by (omega)) (by (omega)) (fun j hj=>by show aa (.c ((#[Value.int .u8 0])[j % 1]!)) _;rw [bpx];exact I) rfl rfl (fun p3=>?_))
  refine U 200000080000011651 ?_
  refine aq (bo 1 (bc (kB (i+1))) ?_ ?_)
  ·exact (fun j hj=>Rv (i+1) O j hj)
  refine U 75 ?_;refine jE (freeze 3 rfl) ?_;refine jE (ia 7 (kB (i+1)) rfl rfl rfl rfl) ?_;refine U 16 ?_;refine jq (LZ rfl rfl rfl Tryz.underlying25) ?_;refine U 5 ?_;refine ap (fun h20=>?_) fun h20=>?_
  ·exfalso;exact absurd h20 jD
  refine U 1167810 ?_
  refine aq (aQ 0 (SC n i O) ?_)
  refine U 5500000165119009001 ?_;refine ap (fun h23=>?_) fun h23=>?_
  ·exfalso;exact absurd h23 jD
  refine U 111200810 ?_
  refine aq (aQ 1 (Mb m i O) ?_)
  refine au (aY 1 1 Eg fun p6=>?_)
  refine aq (aF (AQ) (l2:=[kI i]) rfl rfl rfl rfl (by exact YG _) (fun _ _=>I) (aW rfl (.inl rfl) jD) rfl (fun j hj=>by rcases j with _|j <;> first|exact I|(exfalso;simp at hj <;> omega)) Tryz.underlying27 MG PY Eg WV rfl (by (simp;omega)) (by (simp;omega)) (bC rfl rfl) rfl rfl rfl (fun p7=>?_))
  refine U 85191200840051 ?_
  refine aw ((i+1,p7)) ?_ ?_ (h5:=?_) (h7:=?_)
  ·show i+1≤3;omega
  ·show 3-(i+1)<3-i;omega
  ·exact .cons (cO (by rw [Dm])) (.cons I .nil)
  ·show aP _ [dx n (K3 (i+1)) [],mU m (K3 (i+1)) [],(p7,.blk ((GQ (i+1)).length * 1) (BR (GQ (i+1))))]
   rw [Dm]
   exact aP.refl _
end
end
section
variable {gs:List Nat} [dK gs]
open Go.RowKit Cal
def ownB (g:Option Nat) (l:Z):Option Nat×bi:=(g,.blk l.length (bc l))
theorem OG {gs:List Nat} (n:Nat) (s:W8) (hs:uQ s) (hz:jl s=0):AC gs Tryz.prog 49 [ii n s] [.op 0 (some n) 0] (fun r H'=>∃ g,r=.tup 2 (fl [.os 1 g 0 s.d.length 1,.err 0])∧H'=[jW [ii n s,ownB g s.d]]):=by
 have hsd:=hs.d
 have hz1:s.k=0∧s.fr=[]∧s.d.length≤65536:=by
  unfold jl at hz
  by_cases h1:s.k≠0
  ·rw [YF h1] at hz;exact absurd hz h1
  ·rw [YE h1] at hz
   by_cases h2:s.fr≠[]
   ·rw [YF h2] at hz;cases hz
   ·rw [YE h2] at hz
    by_cases h3:65536<s.d.length
    ·rw [YF h3] at hz;cases hz
    ·exact ⟨Z5.1 h1,Z5.1 h2,by omega⟩
 obtain ⟨k0,f0,l0⟩:=hz1
 have fl0:s.fr.length=0:=by rw [f0];rfl
 refine aj 35 Tryz.func49 fun al w0 F0 St0=>?_;refine U 2075116 ?_;refine gN 0 rfl fun go gd zs hzs=>?_;refine U 515000005010004016 ?_;refine ap (fun h140=>?_) fun h140=>?_
 ·exfalso;omega
 refine U 512350904016 ?_;refine ap (fun h142=>?_) fun h142=>?_
 ·exfalso;omega
 refine U 5123501004016 ?_;refine ap (fun h144=>?_) fun h144=>?_
 ·exfalso;omega
 refine U 501004016840010 ?_;refine aI (cW 2 (0+s.d.length) (dv 0 (bc s.d)) rfl (by simp) (fun j hj=>by unfold dv;rw [jK,ZP];exact I)) ?_
 refine aq (Jn 2 (J9 s.d gd 0 O) ?_)
 rintro _ _ ⟨g2,rfl,rfl⟩;refine ⟨_,_,rfl,cO (j:=5) rfl,?_⟩
 refine U 511 ?_;refine jE (bag_pop 2 rfl) ?_;refine jE (bag_pop 2 rfl) ?_;refine jE (cW 4 s.d.length (bc s.d) rfl (by simp) (fun j hj=>by unfold dv;rw [jK,ZP];exact I)) ?_;refine jE (cW 5 s.d.length (bc s.d) rfl (by simp) (fun j hj=>by unfold dv;rw [jK,ZP];exact I)) ?_;refine jE (closeN (gd:=fun z:BT s.fr=>z.1.1) (E:=BQ s) ⟨(n,go,gd,zs),hzs⟩ 0 [1,4,3] jD (by simp) rfl) ?_;refine U 7000 ?_
 exact bO (gd:=fun _:Unit=>0) (E:=fun _=>[ii n s,ownB g2 s.d]) (.inl rfl) (.tup 2 (fl [.os 1 g2 0 s.d.length 1,.err 0])) () [0,5] jD rfl ((bB rfl (ak (c:=.os 5 g2 0 s.d.length 1) rfl) (ak (c:=.c .nilIface) rfl)).ent (cT (show aa (.os 5 g2 0 s.d.length 1) (.os 1 g2 0 s.d.length 1) from cO rfl) aa.nil)) ⟨g2,rfl,rfl⟩
end
section
open Go.RowKit Cal
section
variable {gs:List Nat} [dK gs] [qI gs] [sZ gs]
theorem Nv {gs:List Nat} [dK gs] (b s:Z) (hb:b.length≤60000) (h32:s.length=32) (hd:(aN b).2=0):AC gs Tryz.prog 30 [] [aV b,aV s] (fun r H'=>∃ g,r=.tup 2 (fl [.os 0 g 0 (cS b s).length 1,.err 0])∧H'=[ownB g (cS b s)]):=by
 have hD:=fun n=>OG (gs:=gs) n ⟨[],cS b s,0⟩ ⟨by simp,by simp,by have:=(tF hb h32).2;show (cS b s).length≤_;omega⟩ (Ry hb h32).1
 have hD:∀ n,AC gs Tryz.prog 49 [ii n ⟨[],cS b s,0⟩] [.op 0 (some n) 0] (fun r H'=>∃ g,r=.tup 2 (fl [.os 1 g 0 (cS b s).length 1,.err 0])∧H'=[jW [ii n ⟨[],cS b s,0⟩,ownB g (cS b s)]]):=hD
 refine aj 33 Tryz.func30 fun al w0 F0 St0=>?_;refine U 1675116 ?_
 refine au (ar (xA b O) ?_)
 refine U 55000001651 ?_;refine ap (fun h104=>?_) fun h104=>?_
 ·exfalso;omega
 refine U 523167810 ?_;refine ap (fun h107=>?_) fun h107=>?_
 ·exfalso;omega
 refine U 6810 ?_;refine jq (ai (n:=3) rfl VH Wf rfl rfl) ?_
 refine au (ff 3 fun p1=>?_)
 refine U 51 ?_;refine cL (gW 7 rfl) fun hn=>?_
 obtain ⟨n,rfl⟩:=hn
 refine jE (Wp n 0 rfl I I aa.nil) ?_
 dsimp only [List.set_cons_zero,List.set_cons_succ,List.cons_append,List.nil_append,List.length_cons,List.length_nil,Nat.zero_add,Nat.reduceAdd]
 refine U 16 ?_
 refine aq (aQ 0 (XE n) ?_)
 refine U 1165 ?_
 refine aq (aQ 0 (XD hb hd n) ?_)
 refine U 1165 ?_
 refine aq (aQ 0 (XC hb h32 n) ?_)
 refine U 165 ?_
 refine aq (aQ 0 (XB hb h32 n) ?_)
 refine U 165 ?_
 refine aq (Jn 0 (hD n) ?_)
 rintro _ _ ⟨g2,rfl,rfl⟩;refine ⟨_,_,rfl,cT (cO (j:=2) rfl) I,?_⟩
 refine U 511900900 ?_;refine jE (bag_pop 0 rfl) ?_;refine jE (bag_pop 0 rfl) ?_;refine U 7000 ?_
 exact bu (H':=[ownB g2 (cS b s)]) (.inl rfl) [2] jD rfl (bB rfl (ak (c:=.os 2 g2 0 (cS b s).length 1) rfl) (ak (c:=.err 0) rfl)) (cT (show aa (.os 2 g2 0 (cS b s).length 1) (.os 0 g2 0 (cS b s).length 1) from cO rfl) I) ⟨g2,rfl,rfl⟩
theorem Lk (n:Nat) (K:gf) (B:List cH) (q:Q5) (hK:pC K) (hB:lW B) (hr:cA q=true) (ha:SA K q=0):AC gs Tryz.prog 9 [dx n K B] [.op 0 (some n) 0,kx q] (fun r H'=>∃ g,r=.tup 2 (fl [.os 1 g 0 (cS (dL q) (vX K q)).length 1,.err 0])∧H'=[jW [dx n K (qH B (wU q)),ownB g (cS (dL q) (vX K q))]]):=by
 have hg:=pr hr
 have hbd:=Ai (gs:=gs) q (by have:=hg.n8;omega)
 have hl:=(k8 hg).2
 have hde:=tf hg
 have hsl:=rS K q
 rw [YF hr,YF hr] at hbd
 have hse:=HY (gs:=gs) (f:=15) (by kernel_rfl) n K B q.2.1 qG (dL q) q hbd hK hB (by simp [qG]) O
 have hj:=Nv (gs:=gs) (dL q) (vX K q) O hsl hde
 have e1:iY K q.2.1 qG (dL q)=0:=ha
 have e2:xW K q.2.1 qG (dL q)=vX K q:=rfl
 have e3:qH B (q.2.1,qG,dL q)=qH B (wU q):=rfl
 rw [e1,YF rfl,YF rfl,e2,e3] at hse
 generalize qH B (wU q)=B' at *
 generalize cS (dL q) (vX K q)=J at *
 refine aj 34 Tryz.func9 fun al w0 F0 St0=>?_;refine dP ?_
 refine au (ff 7 fun p1=>?_)
 refine U 6511 ?_;refine gw (bq 7) ?_
 refine au (ar hbd ?_)
 refine U 55000001675119009001 ?_;refine ap (fun h76=>?_) fun h76=>?_
 ·exfalso;exact absurd h76 jD
 refine U 50500000016810 ?_;refine gw (bq 7) ?_;refine jq (ai (n:=8) rfl VI Wg rfl rfl) ?_
 refine aq (aQ 0 hse ?_)
 refine U 55000001675119009001 ?_;refine ap (fun h80=>?_) fun h80=>?_
 ·exfalso;exact absurd h80 jD
 refine U 116810 ?_
 refine au (ry hj ?_)
 rintro _ _ ⟨g,rfl,rfl⟩
 refine U 7000511900900 ?_
 exact bO (gd:=fun _:Unit=>0) (E:=fun _=>[dx n K B',ownB g J]) (.inl rfl) (.tup 2 (fl [.os 1 g 0 J.length 1,.err 0])) () [0,2] jD rfl ((bB rfl (ak (c:=.os 0 g 0 J.length 1) rfl) (ak (c:=.err 0) rfl)).ent (cT (show aa (.os 0 g 0 J.length 1) (.os 1 g 0 J.length 1) from cO rfl) I)) ⟨g,rfl,rfl⟩
end
end
section
open Go.RowKit Cal
def Ej:Z:=cS (dL rG) (vX (K3 3) rG)
def VC:Z:=cS (dL rG) (qQ (vX (K3 3) rG))
theorem G1:40≤Ej.length∧Ej.length≤60000:=by
 have h:=(k8 (pr tV)).2
 have hs:=rS (K3 3) rG
 have hj:=(tF (b:=dL rG) (s:=vX (K3 3) rG) O hs).2
 have hb:5≤(dL rG).length:=by
  have:=sj (xZ rG).length
  have h0:4≤(xZ rG).length:=by
   have:=ez 48 (FM rG.2.2.2.2)
   have e:(xZ rG).length=(fR lS (B7 rG.1)).length+(Mc rG).length:=by unfold xZ;rw [YI]
   have e2:(Mc rG).length=(fR xo (xO (fQ rG.2.1))).length+(QV rG).length:=by unfold Mc;rw [YI]
   have e3:(fR xo (xO (fQ rG.2.1))).length≥16:=by
    show (bL 4 (fQ (kI 0))).length≥16
    unfold bL
    have:=lP (kI 0)
    have:=RN (kB 1)
    have e:(kI 0).length=32:=this
    simp only [List.length_cons,YI]
    omega
   omega
  unfold dL bL
  simp only [List.length_cons,YI]
  omega
 have e:=tD (b:=dL rG) hs
 unfold Ej
 rw [e]
 have:=sj ((dL rG).length+34)
 simp only [Q0,YI,List.length_cons,List.length_nil]
 omega
theorem DB:Ej.set (Ej.length-1) (Ej.getD (Ej.length-1) 0 ^^^ 1)=VC:=Fi (rS (K3 3) rG)
theorem RZ:VC.length=Ej.length:=by rw [← DB];simp
theorem R2 (B:List cH):Kc (K3 3) B VC=(ut,11):=Ob tV (FN tV By)
theorem zP:lW []:=fun x hx=>absurd hx Zo
theorem N1:lW (qH [] (wU rG)):=zP.add (by
 have:=FN tV By
 exact (Vp this).1)
theorem RY (j:Nat) (hj:j<Ej.length):aa (gT (bc Ej) (Ej.length-1) [.c (.int .u8 (((Ej.getD (Ej.length-1) 0).toNat ^^^ 1:Nat):Int))] j) (bc VC j):=by
 have h:=G1
 rw [← DB]
 exact yB (BW _ 1) O j
section
variable {gs:List Nat} [dK gs] [qI gs] [sZ gs]
theorem FO:cc gs Tryz.prog 6 [] (.c (.bool true)):=by
 have hl:=G1
 have hfl:=RZ
 have hS:=fun n=>Lk (gs:=gs) n (K3 3) [] rG (Hh 3) zP tV (FN tV By)
 have hS:∀ n,AC gs Tryz.prog 9 [dx n (K3 3) []] [.op 0 (some n) 0,kx rG] (fun r H'=>∃ g,r=.tup 2 (fl [.os 1 g 0 Ej.length 1,.err 0])∧H'=[jW [dx n (K3 3) (qH [] (wU rG)),ownB g Ej]]):=hS
 have hC:=fun n=>FF (gs:=gs) n (K3 3) (qH [] (wU rG)) VC O (Hh 3) N1
 rw [R2] at hC
 have hcell:=RY
 have hq:kx rG=.agg 7 (fl [.c (.int .i64 1),an [],an [97],an (kI 0),.c (.int .i64 1),.c (.int .i64 5),sX []]):=rfl
 generalize Ej=J at *
 generalize VC=F at *
 generalize qH [] (wU rG)=B1 at *
 rw [hq] at hS
 have hi:(GQ 3).getD 0 []=kI 0:=rfl
 have hil:=GP 3
 refine aj 47 Tryz.func6 fun al w0 F0 St0=>?_;refine U 6516 ?_
 refine au (ry Il ?_)
 rintro _ _ ⟨n,m,rfl,rfl⟩
 refine U 16751119009009001 ?_;refine jq (LZ rfl rfl rfl Tryz.underlying25) ?_;refine U 5 ?_;refine ap (fun h34=>?_) fun h34=>?_
 ·exfalso;exact absurd h34 jD
 refine U 16810 ?_;refine jq (ai (n:=3) rfl oR CJ rfl rfl) ?_;refine U 6020000001 ?_;refine jq (ai (n:=7) rfl kR rZ rfl rfl) ?_
 refine aq (Jn 0 (hS n) ?_ (ho:=rfl) (he:=(.cons (se rfl cP) (.cons (se rfl (aa.agg rfl (fun j hj=>by rcases j with _|_|_|_|_|_|_|j <;> first|exact I|exact aa.nilS' rfl))) .nil))))
 rintro _ _ ⟨g,rfl,rfl⟩;refine ⟨_,_,rfl,cT (cO (j:=3) rfl) I,?_⟩
 refine U 75119009001 ?_;refine jE (bag_pop 0 rfl) ?_;refine jE (bag_pop 0 rfl) ?_;refine jE (aS 1 (.op 2 (some n) 0) cP) ?_;refine jE (cW 3 J.length (bc J) rfl (YG _) (fun _ _=>I)) ?_;refine U 150000016 ?_;refine aK 25 (fun g38=>?_) fun g38=>?_
 ·refine U 51690005100000000444 ?_
  refine jR (kq (eA (hv:=absurd g38 jD)))
 refine U 5500231 ?_;refine ap (fun h38=>?_) fun h38=>?_
 ·exfalso;(simp only [ne_eq,not_true_eq_false] at *;omega)
 refine U 93116810 ?_;refine jq (dU (i:=J.length-1) (hz:=by omega)) ?_;refine U 50 ?_;refine jq (dt (b:=1) rfl rfl rfl (dI.2 (Zk _)) (dI.2 jD)) ?_;refine jq (dU (i:=J.length-1) (hz:=by omega)) ?_
 refine aq (bo 1 (bc F) ?_ ?_)
 ·exact hcell
 refine U 5 ?_;refine jE (freeze 3 rfl) ?_;refine jE (ia 4 F rfl rfl hfl.symm (by rw [hfl])) ?_;refine U 116 ?_
 refine aq (aQ 2 (hC n) ?_)
 refine U 16519009001 ?_
 refine au (ar (EV 11 jD) ?_)
 refine U 512 ?_
 refine jR eA
end
end
section
open Go.RowKit Cal
theorem sI (f:Fd) {l:YD} {k:Nat} (h:k≤28):(cQ f l k).1.2≤28:=by
 unfold cQ
 split
 ·exact UZ h
 ·exact i6 _ h
theorem DH (l:YD) {k:Nat} (h:k≤28):(ae 48 l k).k≤28:=by
 have e:=(gG aL rfl l k).2
 have:=i6 aL (l:=l) h
 rw [e] at this
 exact this
theorem C7 (l:YD) {k:Nat} (h:k≤28):aC l k≤28:=by
 have e:=(gF aE rfl l k).2
 have:=i6 aE (l:=l) h
 rw [e] at this
 exact this
theorem Tm (b:Z):oN b≤28:=DH _ (Zd (J2 b).2 jD)
theorem U5 {k:Nat} {q:Q5} (h:k≤28):(gq k q).2≤28:=by
 unfold gq
 repeat' split
 all_goals (dsimp only;omega)
attribute [local irreducible] g2 g3 g4 g5 g6 lZ oN gK ac cQ jk aC bb co ah ae in
theorem Gj (b:Z):(dS b).2≤28:=by
 have k2:(g2 b).1.2≤28:=by unfold g2;exact sI lS (Tm b)
 have k3:(g3 b).1.2≤28:=by unfold g3;exact sI xo k2
 have k4:(g4 b).k≤28:=by unfold g4;exact i6 FQ k3
 have k5:(g5 b).1.2≤28:=by unfold g5;exact sI uF k4
 have k6:(g6 b).2≤28:=by unfold g6 kW;exact OC (sp:=ce) (fun l k h=>by unfold ce;exact i6 _ h) (DH _ k5)
 have k7:gK b≤28:=by unfold gK;exact G3 (C7 _ k6)
 unfold dS
 exact U5 k7
theorem Lc (b:Z):(bS b).2.2≤28:=by
 have k2:(kS b).k≤28:=i6 Ts (Tm b)
 have k3:(jy b).1.2≤28:=sI VB k2
 have k7:Po b≤28:=G3 (C7 _ k3)
 unfold bS oO
 split
 ·exact YT _
 ·exact k7
theorem U6 {a e:Nat} {q:Q5} (h1:a≤28) (h2:e≤28):(rD a e q).2≤28:=by
 unfold rD
 split
 ·exact h2
 ·exact h1
theorem Q1 (b:Z):(uw b).2≤28:=by
 unfold uw
 exact U6 (Lc b) (Gj _)
theorem wv {gs:List Nat} [dK gs] [qI gs] [sZ gs] (b:Z):cc gs Tryz.prog 5 [aV b] (.c (.bool true)):=by
 have hR:=fun h=>tj (gs:=gs) b h
 have hr:=fun h=>wd (gs:=gs) b h
 have hP:=fun h=>EQ (gs:=gs) b h
 have hp:=fun h=>Cs (gs:=gs) b h
 have k1:=Gj b
 have k2:=Q1 b
 generalize (dS b).2=e1 at *
 generalize (dS b).1=q1 at *
 generalize (uw b).2=e2 at *
 generalize (uw b).1=q2 at *
 refine aj 59 Tryz.func5 fun al w0 F0 St0=>?_;refine U 67516 ?_
 refine au (ar FO ?_)
 refine U 530 ?_;refine ap (fun h80=>?_) fun h80=>?_
 ·exfalso;exact absurd h80 jD
 refine U 523167810 ?_;refine ap (fun h83=>?_) fun h83=>?_
 ·refine U 516 ?_
  refine jR (kq (eA (hv:=I)))
 refine U 16810 ?_
 refine au (ar (Wq b O) ?_)
 refine U 1651 ?_
 refine au (ar (hR O) ?_ (ho:=rfl) (he:=(.cons (se rfl aa.mark) .nil)))
 refine U 9009001 ?_
 refine au (cl (n:=7) kR rfl fun p1=>?_)
 refine aq (aA 7 ?_)
 refine U 1651 ?_
 refine au (ar (hr O) ?_)
 refine U 9009001 ?_
 refine au (cl (n:=7) kR rfl fun p2=>?_)
 refine aq (aA 7 ?_)
 refine U 16751 ?_
 refine au (ar (EV e1 k1) ?_)
 refine U 121 ?_;refine aK 29 (fun g89=>?_) fun g89=>?_
 ·refine U 800030007000516900051000000004444 ?_
  exfalso
  (simp_all;done)
 refine gw (bq 7) ?_;refine gw (bq 7) ?_
 refine au (ar (wc q1 q1) ?_)
 refine U 550030 ?_;refine ap (fun h89=>?_) fun h89=>?_
 ·refine U 800030007000516 ?_
  exfalso
  (simp_all;done)
 refine U 16810 ?_
 refine au (ar (hP O) ?_ (ho:=rfl) (he:=(.cons (se rfl aa.mark) .nil)))
 refine U 9009001 ?_
 refine aq (aA 7 ?_)
 refine U 1651 ?_
 refine au (ar (hp O) ?_)
 refine U 9009001 ?_
 refine aq (aA 7 ?_)
 refine U 1651 ?_
 refine au (ar (EV e2 k2) ?_)
 refine U 121 ?_;refine aK 49 (fun g94=>?_) fun g94=>?_
 rotate_left
 ·refine U 80007000515004441500444 ?_;refine cB ?_
  (simp_all;done)
 refine gw (bq 7) ?_;refine gw (bq 7) ?_
 refine au (ar (wc q2 q2) ?_)
 refine U 1100000000 ?_;refine aK 54 (fun g94_2=>?_) fun g94_2=>?_
 ·refine U 11 ?_
  refine au (ar (Ru b) ?_)
  refine U 8000700051100000000 ?_;refine cB ?_
  rfl
 refine U 8000700051500444 ?_;refine cB ?_
 (simp_all;done)
end
end Am
end Go.Proofs.YtghminnpfnkbjaaGreatDoor
namespace Go.Proofs.YtghminnpfnkbjaaGreatDoor
set_option linter.unusedVariables false
open Go.RowKit Go.ChangeShapes Go.Lib Go.Shelf
theorem rN {P:Program} {w:World} {nm:String} {g:Nat} {t e:TypeId} {n:Nat} {k:IntKind} {zs:List Int} (hn:P.globalNamed nm=some g) (hy:(P.globals[g]?).map (·.type)=some t) (ht:P.underlying t=some (.array n e)) (he:P.underlying e=some (.int k)) (hce:P.cellsOf e=1) (hct:P.cellsOf t=n) (h:VarReads P w nm (tabData k zs)) (i:Nat) (v:Value) (hv:(zs.map fun z=>Value.int k z)[i]?=some v):w.cell? ⟨g,i,none⟩=some v:=by
 obtain ⟨g',t',cs,fuel,p,hg,hty,hvar,hd⟩:=h
 obtain rfl:=Y9 (hn.symm.trans hg)
 obtain rfl:=Y9 (hy.symm.trans hty)
 have hcs:=cells_of_tab ht he hce hct hd
 rw [World.var?_cell hg hvar i,← bdx,hcs]
 exact hv
theorem Az {W : World} {L : List (String × DataW Unit)} (h : laidMetH Tryz.prog L W) (h1 : (L.all fun x => x.2.handleName?.isNone) = true) {i j : Nat} (hi : L[i]? = some ("bulla/sha.first", tabData .u32 (Am.firstL.map fun n => ((n : Nat) : Int)))) (hj : L[j]? = some ("bulla/sha.constants", tabData .u32 (Am.kL.map fun n => ((n : Nat) : Int)))) : ∀ t ∈ oH, t.1 ∈ pn WL → ∀ (i : Nat) (v : Value), t.2[i]? = some v → W.cell? ⟨t.1, i, none⟩ = some v := by
 rw [MakeChecks.laidMetH_plain _ _ _ h1] at h
 obtain ⟨ps,hv,hnd,hrows⟩:=h
 intro t ht _ a v hav
 simp only [oH,Zg,Zo,or_false] at ht
 rcases ht with rfl|rfl
 ·exact rN (g:=29) (t:=293) (e:=257) (by kernel_rfl) (by kernel_rfl) Tryz.underlying293 Tryz.underlying257 (by kernel_rfl) (by kernel_rfl) (Lib.LaidVars_reads hv _ _ (ZF hi)) a v (by rw [Z9];exact hav)
 ·exact rN (g:=32) (t:=315) (e:=257) (by kernel_rfl) (by kernel_rfl) Tryz.underlying315 Tryz.underlying257 (by kernel_rfl) (by kernel_rfl) (Lib.LaidVars_reads hv _ _ (ZF hj)) a v (by rw [Z9];exact hav)
instance okSS:sZ WL:=⟨by decide⟩
end Go.Proofs.YtghminnpfnkbjaaGreatDoor
