/-
  Part 12 of the proof: see the last text.
-/
import Derived.Test.YtjngkimolkhdmaaGreatP11
import Derived.KernelRfl
set_option linter.unusedVariables false
set_option linter.unusedSimpArgs false
set_option linter.unusedSectionVars false
section
namespace Go.Abs
open Go
def runP (a:Qa):Int→Nat→List Int→Int×Int
 | s,n,[]=>(s,n)
 | s,n,e::w=>if 0≤Qec a s e then runP a (Qec a s e) (n+1) w else (s,n)
section
variable {a:Qa} (h:Right a)
include h
theorem Qbfy {s:Int} {w:List Int} (h0 : -1000000<s) (h1:s<1000000) (hw:w.length<big):Qi4 a s w=some (runP a s 0 w):=by
 have hs:=h.small.1;have hst:=h.st;have hb:w.length<1000000000000:=hw;unfold Qi4 Qd4;obtain ⟨fuel,hfu,hge⟩ : ∃ f,Qbb=f∧1099511627776≤f:=⟨_,rfl,Nat.le_refl _⟩;rw [hfu];refine (Qez (len:=w.length) (fun n (s:Int)=>(s,(n:Int))) (fun n s=>-1000000<s∧s<1000000) (fun n s=>some (runP a s n (w.drop n))) ?_ ?_ fuel 0 s (Nat.zero_le _) (by omega) ⟨h0,h1⟩).trans (by simp)
 ·intro k n s hn ⟨k1,k2⟩ ih;dsimp only;rw [if_pos (by omega),Qbf hn];simp only [Option.bind_some];rw [Qbkb h hs (by omega) (by omega)];simp only [Option.bind_some];rw [List.drop_eq_getElem_cons hn,runP];rcases Q35 h s w[n] with hr|hr
  ·rw [if_pos (by omega),if_neg (by omega)]
  ·rw [if_neg (by omega),if_pos hr.1,Qy (by omega)];exact ih _ ⟨by omega,by omega⟩
 ·intro k s _;dsimp only;rw [if_neg (by omega)];simp [runP]
omit h in
theorem Q38 {w:List Int} {p:Int→Bool} {f:Int→Option Bool} (hf:∀ x,f x=some (p x)) (hw:w.length<big):Qca w f=some (w.any p):=by
 have hb:w.length<1000000000000:=hw;unfold Qca Qu Qgt Qce;obtain ⟨fuel,hfu,hge⟩ : ∃ f,Qbb=f∧1099511627776≤f:=⟨_,rfl,Nat.le_refl _⟩;rw [hfu];have:=Qil (F:=fun (k10:Int→Option Int) (x9:Int)=>(if (x9<(w.length:Int)) then ((getO w x9).bind fun x12=>((f x12).bind fun x15=>(if x15 then some x9 else k10 (IntKind.wrap .i64 (x9+1))))) else some (-1))) (len:=w.length) (fuel:=fuel)
  (fun n=>some (if (w.drop n).any p then ((n+(w.drop n).findIdx p:Nat):Int) else -1)) (by omega) (by
   intro k n hn ih;rw [if_pos (by omega),Qbf hn,Qy (by omega),ih];simp only [Option.bind_some,hf];rw [List.drop_eq_getElem_cons hn];cases hp:p w[n] with
   | true=>simp only [List.any_cons,hp,Bool.true_or,if_true,List.findIdx_cons,cond_true,Nat.add_zero]
   | false =>
    simp only [List.any_cons,hp,Bool.false_or,List.findIdx_cons,cond_false,Bool.false_eq_true,if_false];rw [show n+1+(w.drop (n+1)).findIdx p=n+((w.drop (n+1)).findIdx p+1) from by omega]) (by intro k;simp)
 rw [this];simp only [Option.bind_some,List.drop_zero,Nat.zero_add];cases w.any p<;>simp
def genP (a:Qa) (w:List Int):Bool:=decide (0<a.zH)&&(runP a 0 0 w).2==(w.length:Int)
theorem Q1u {w:List Int} (hw:w.length<big):Qhf a w=some (genP a w,0):=by
 have hst:=h.st;unfold Qhf Qc5 Qk8 Qdm;rw [Qyn h,Qbfy h (by omega) (by omega) hw];unfold genP;by_cases h0:a.zH=0
 ·simp [h0]
 ·have:0<a.zH:=by omega
  simp [h0,this]
end
end Go.Abs
end
section
namespace Go.Abs
open Go
theorem Q8y {P:Int→Prop}:∀ (ts o:List Int),(∀ s∈o,P s)→(∀ t∈ts,P t)→∀ s∈ts.foldl ins o,P s
 | [],o,h,_=>h
 | t::ts,o,h,ht=>Q8y ts (ins o t) (fun s hs=>by
   rcases Q36.1 hs with hs|rfl
   ·exact h s hs
   ·exact ht _ (by simp)) fun u hu=>ht u (by simp [hu])
theorem Q8z {a:Qa} {P:Int→Prop} (hP:∀ s,P s→∀ t∈Qsk a s,P t):∀ (fuel i:Nat) (o:List Int),(∀ s∈o,P s)→∀ s∈bfs a fuel i o,P s
 | 0,i,o,h=>h
 | fuel+1,i,o,h=>by
  unfold bfs;cases hg:o[i]? with
  | none=>exact h
  | some s=>exact Q8z hP fuel (i+1) _ (Q8y _ _ h (hP s (h s (List.mem_of_getElem? hg))))
structure Like (a b:Qa) (φ:Int→Int):Prop where
 al:b.zD=a.zD
 st:0<b.zH↔0<a.zH
 zero:0<a.zH→φ 0=0
 inj:∀ s∈Qnr a,∀ t∈Qnr a,φ s=φ t→s=t
 out:∀ s∈Qnr a,outP b (φ s)=(outP a s).map fun x=>⟨φ s,x.Event,φ x.To⟩
 ma:∀ s∈Qnr a,(φ s∈b.zF↔s∈a.zF)
section
variable {F:List Int} {φ:Int→Int} (inj:∀ s∈F,∀ t∈F,φ s=φ t→s=t)
include inj
end
section
variable {a b:Qa} {φ:Int→Int} (ha:Right a) (hb:Right b) (h:Like a b φ)
include ha h
include hb
end
section
variable {a b:Qa} {φ:Int→Int} (ha:Right a) (hb:Right b) (h:Like a b φ)
include ha h
end
end Go.Abs
end
section
namespace Go.Abs
open Go
theorem Qfj {α β:Type} {o:Option α} {x:α} {K:α→Option β} {r:Option β} (h:o=some x) (h2:K x=r):o.bind K=r:=by rw [h];exact h2
theorem Q5x {X S R α:Type} {F:(X→Option R)→X→Option R} {l:List α} {fuel:Nat} (mk:Nat→S→X) (f:S→α→S) (fin:S→Option R) (I:Nat→S→Prop)
  (step:∀ (k:X→Option R) (n:Nat) (h:n<l.length) (s:S),I n s→I (n+1) (f s l[n])∧F k (mk n s)=k (mk (n+1) (f s l[n]))) (last:∀ (k:X→Option R) (s:S),I l.length s→F k (mk l.length s)=fin s)
  (hf:l.length<fuel) (s0:S) (h0:I 0 s0):Qb5 F fuel (mk 0 s0)=fin (l.foldl f s0):=by
 have:=Qez (F:=F) (len:=l.length) mk I (fun n s=>fin ((l.drop n).foldl f s)) (fun k n s hn hi ih=>by
  obtain ⟨h1,h2⟩:=step k n hn s hi;rw [h2,ih _ h1,List.drop_eq_getElem_cons hn,List.foldl_cons]) (fun k s hi=>by rw [last k s hi];simp) fuel 0 s0 (Nat.zero_le _) (by omega) h0
 simpa using this
theorem Qbke {l m:List Int} (hl:l.Pairwise (· < ·)) (hm:m.Pairwise (· < ·)) (h:∀ x,x∈l↔x∈m):l=m:=by
 refine List.Perm.eq_of_pairwise (le:=(· < ·)) (fun a b _ _ h1 h2=>by omega) hl hm ?_;rw [List.perm_ext_iff_of_nodup (hl.imp fun h=>by omega) (hm.imp fun h=>by omega)];exact h
theorem swoI:Go.Sort.SWO Qgd:=⟨fun x=>by simp [Qgd],fun x y z h1 h2=>by simp [Qgd] at *;omega,fun x y z h1 h2=>by simp [Qgd] at *;omega⟩
theorem Q80 {l:List Int} (h:l.Nodup):(Qof Qgd l).Pairwise (· < ·)∧∀ x,x∈Qof Qgd l↔x∈l:=by
 have hp:=Qpy Qgd l;refine ⟨?_,fun x=>hp.mem_iff⟩;have hs:=Qow swoI l;have hn:=(hp.nodup_iff).2 h;exact (hs.and hn).imp fun ⟨h1,h2⟩=>by simp [Qgd] at h1;omega
inductive Rch (a:Qa) (ev fr:List Int):Int→Prop where
 | base {s:Int}:s∈fr→Rch a ev fr s
 | step {x:Qe}:Rch a ev fr x.From→x∈a.zG→x.Event∈ev→Rch a ev fr x.To
def upto (n:Int):List Int:=(List.range n.toNat).map fun (i:Nat)=>(i:Int)
theorem Qbbu {n x:Int}:x∈upto n↔0≤x∧x<n:=by
 simp only [upto,List.mem_map,List.mem_range];constructor
 ·rintro ⟨i,hi,rfl⟩;omega
 ·rintro ⟨h1,h2⟩;exact ⟨x.toNat,by omega,by omega⟩
theorem Q81 (n:Int):(upto n).Pairwise (· < ·):=by
 unfold upto;rw [List.pairwise_map];exact List.pairwise_lt_range.imp fun h=>by omega
theorem Q2f (n:Int):(upto n).length=n.toNat:=by simp [upto]
theorem Qbhw {n:Int} {i:Nat} (h:i<n.toNat):(upto n)[i]'(by rw [Q2f];exact h)=(i:Int):=by simp [upto]
open Classical in
noncomputable def Qqv (a:Qa) (fr ev:List Int):List Int:=(upto a.zH).filter fun s=>decide (Rch a ev fr s)
theorem Q39 (a:Qa) (fr ev:List Int):(Qqv a fr ev).Pairwise (· < ·):=(Q81 _).filter _
theorem Q08 {a:Qa} {fr ev:List Int} {s:Int}:s∈Qqv a fr ev↔(0≤s∧s<a.zH)∧Rch a ev fr s:=by
 classical
 simp only [Qqv,List.mem_filter,Qbbu,decide_eq_true_eq]
theorem Rch.range {a:Qa} (h:Right a) {ev fr:List Int} (hf:∀ s∈fr,0≤s∧s<a.zH) {s:Int} (hr:Rch a ev fr s):0≤s∧s<a.zH:=by
 induction hr with
 | base hs=>exact hf _ hs
 | step _ hx _ _=>have:=h.ed0 _ hx;exact ⟨this.2.2.1,this.2.2.2.1⟩
theorem Q4a {a:Qa} (h:Right a) {fr ev:List Int} (hf:∀ s∈fr,0≤s∧s<a.zH) {s:Int}:s∈Qqv a fr ev↔Rch a ev fr s:=by
 rw [Q08];exact ⟨fun h=>h.2,fun hr=>⟨hr.range h hf,hr⟩⟩
theorem Rch.mono {a:Qa} {ev fr fr' : List Int} (hf:∀ s∈fr,Rch a ev fr' s) {s:Int} (hr:Rch a ev fr s):Rch a ev fr' s:=by
 induction hr with
 | base hs=>exact hf _ hs
 | step _ hx he ih=>exact .step ih hx he
theorem Qbfz {a:Qa} (h:Right a) {fr ev l:List Int} (hf:∀ s∈fr,0≤s∧s<a.zH) (hl:l.Pairwise (· < ·)) (h1:∀ s∈l,Rch a ev fr s) (h2:∀ s∈fr,s∈l)
  (h3:∀ x∈a.zG,x.From∈l→x.Event∈ev→x.To∈l):l=Qqv a fr ev:=by
 refine Qbke hl (Q39 _ _ _) fun x=>?_;rw [Q4a h hf];refine ⟨h1 x,fun hr=>?_⟩
 induction hr with
 | base hs=>exact h2 _ hs
 | step _ hx he ih=>exact h3 _ hx ih he
def Qox (a:Qa) (ev:List Int):Qa:={ a with zG:=a.zG.filter fun x=>decide (x.Event∈ev) }
theorem Q4b {a:Qa} (h:Right a) (ev:List Int):Right (Qox a ev) :=
 ⟨h.al0,h.al,h.st,h.ma0,h.ma,fun x hx=>h.ed0 x (List.mem_filter.1 hx).1,h.ed.filter _⟩
theorem Qbc4 (a:Qa) (ev:List Int) (s:Int):Qsk (Qox a ev) s=((outP a s).filter fun x=>decide (x.Event∈ev)).map (·.To):=by
 simp only [Qsk,outP,Qox,List.filter_filter];congr 1;exact List.filter_congr fun x _=>Bool.and_comm _ _
theorem Qbbv {a:Qa} {s t:Int}:t∈Qsk a s↔∃ x∈a.zG,x.From=s∧x.To=t:=by
 simp only [Qsk,outP,List.mem_map,List.mem_filter,beq_iff_eq];constructor
 ·rintro ⟨x,⟨h1,h2⟩,h3⟩;exact ⟨x,h1,h2,h3⟩
 ·rintro ⟨x,h1,h2,h3⟩;exact ⟨x,⟨h1,h2⟩,h3⟩
theorem Q82 {a:Qa} (h:Right a) {ev fr o:List Int} (hf:∀ s∈fr,0≤s∧s<a.zH) (ho:∀ s,s∈o↔s∈fr) (hn:o.Nodup) :
  Fnd (Qox a ev) (bfs (Qox a ev) (a.zH.toNat+1) 0 o)∧Qof Qgd (bfs (Qox a ev) (a.zH.toNat+1) 0 o)=Qqv a fr ev:=by
 have hr:=Q4b h ev;have hfo:Fnd (Qox a ev) o:=⟨hn,fun s hs=>hf s ((ho s).1 hs)⟩;obtain ⟨q1,q2,q3⟩:=Q6z hr (a.zH.toNat+1) 0 o hfo (Nat.zero_le _) (by show a.zH.toNat+1≤_;omega) (fun j s hj=>by omega);obtain ⟨r1,r2⟩:=Q80 q1.nd;refine ⟨q1,Qbfz h hf r1 (fun s hs=>?_) (fun s hs=>?_) (fun x hx hfx hex=>?_)⟩
 ·have hs:=(r2 s).1 hs;refine Q8z (a:=Qox a ev) (P:=Rch a ev fr) (fun s hs t ht=>?_) _ 0 o (fun s hs=>.base ((ho s).1 hs)) s hs;obtain ⟨x,hx,rfl,rfl⟩:=Qbbv.1 ht;obtain ⟨hx,he⟩:=List.mem_filter.1 hx;exact .step hs hx (by simpa using he)
 ·exact (r2 s).2 (q2.subset ((ho s).2 hs))
 ·exact (r2 _).2 (q3 _ ((r2 _).1 hfx) _ (Qbbv.2 ⟨x,List.mem_filter.2 ⟨hx,by simpa using hex⟩,rfl,rfl⟩))
theorem Qz1:∀ (ts o:List Int) (x:Int),x∈ts.foldl ins o↔x∈o∨x∈ts
 | [],o,x=>by simp
 | t::ts,o,x=>by
  simp only [List.foldl_cons,Qz1 ts,Q36,List.mem_cons];constructor
  ·rintro ((h|h)|h)
   ·exact .inl h
   ·exact .inr (.inl h)
   ·exact .inr (.inr h)
  ·rintro (h|h|h)
   ·exact .inl (.inl h)
   ·exact .inl (.inr h)
   ·exact .inr h
end Go.Abs
end
section
namespace Go.Abs
open Go
def Qqe (a:Qa) (onto:List Int):List Int:=a.zD.filter fun x=>decide (x∈onto)
def Qif (a:Qa) (onto:List Int):List Int:=a.zD.filter fun x=>!decide (x∈onto)
def Q14 (a:Qa):List (List Qe):=(upto a.zH).map (outP a)
def obsP (a:Qa) (onto:List Int):Qo:=⟨Q14 a,Qqe a onto,Qif a onto,a.zF⟩
theorem Qvx (a:Qa):(Q14 a).length=a.zH.toNat:=by simp [Q14,Q2f]
theorem Q4c (a:Qa) {s:Nat} (h:s<a.zH.toNat):(Q14 a)[s]? = some (outP a (s:Int)):=by
 simp only [Q14,upto,List.getElem?_map,List.getElem?_range h,Option.map_some]
theorem Q2g {a:Qa} {s:Int} (h:0≤s∧s<a.zH):getO (Q14 a) s=some (outP a s):=by
 rw [Qey];refine ⟨h.1,?_⟩;rw [Q4c a (by omega)];congr 2;omega
theorem Q09 (onto:List Int):∀ (l k e:List Int),l.foldl (fun (s:List Int×List Int) x=>if x∈onto then (s.1++[x],s.2) else (s.1,s.2++[x])) (k,e)=(k++l.filter (fun x=>decide (x∈onto)),e++l.filter fun x=>!decide (x∈onto))
 | [],k,e=>by simp
 | x::l,k,e=>by
  rw [List.foldl_cons];by_cases hx:x∈onto
  ·rw [if_pos hx,Q09 onto l];simp [hx]
  ·rw [if_neg hx,Q09 onto l];simp [hx]
theorem Q5y {a:Qa} (h:Right a) {onto:List Int} (ho:onto.length<big):Qe4 a onto=some (obsP a onto):=by
 have hs:=h.small;have hst:=h.st;unfold Qe4 Q6;refine Qfj (x:=List.replicate a.zH.toNat []) (by unfold mkO;rw [if_pos ⟨hst.1,by unfold lim;omega⟩]) ?_;refine Qfj (x:=Q14 a) ?_ ?_
 ·refine (Qez (len:=a.zG.length) (fun n (c:List (List Qe))=>((n:Int),c)) (fun n c=>c.length=a.zH.toNat∧∀ s:Nat,s<a.zH.toNat→c[s]? = some ((a.zG.take n).filter fun x=>x.From==(s:Int))) (fun n c=>some (Q14 a)) ?_ ?_ Qbb 0 _ (Nat.zero_le _) (by unfold Qbb;omega) ⟨by simp,fun s hs=>by simp [hs]⟩)
  ·intro k n c hn ⟨i1,i2⟩ ih;have he:=h.ed0 _ (List.getElem_mem hn);dsimp only;rw [if_pos (by omega),Qbf hn];simp only [Option.bind_some];have hin:inO (Int.toNat a.zH) a.zG[n].From=some ():=by unfold inO;rw [if_pos ⟨he.1,by omega⟩]
   have hto:((a.zG[n].From.toNat:Nat):Int)=a.zG[n].From:=by omega
   have hg:getO c a.zG[n].From=some ((a.zG.take n).filter fun x=>x.From==a.zG[n].From):=by
    rw [Qey];refine ⟨he.1,?_⟩;rw [i2 _ (by omega),hto]
   have hfl:((a.zG.take n).filter fun x=>x.From==a.zG[n].From).length≤a.zG.length:=Nat.le_trans (List.length_filter_le _ _) (by rw [List.length_take];omega);rw [hin,hg];simp only [Option.bind_some];rw [Qby (by simp only [List.length_cons,List.length_nil];unfold lim;omega)];simp only [Option.bind_some];unfold setO;rw [if_pos ⟨he.1,by omega⟩,Qy (by omega)];simp only [Option.bind_some];refine ih _ ⟨by simp [i1],fun s hs=>?_⟩;rw [List.getElem?_set,List.take_succ_eq_append_getElem hn,List.filter_append];split
   ·rename_i hss;subst hss;rw [if_pos (by omega),hto];simp
   ·rename_i hss;have:¬ a.zG[n].From=(s:Int):=by omega
    rw [i2 s hs];simp [this]
  ·intro k c ⟨i1,i2⟩;dsimp only;rw [if_neg (by omega)];congr 1;refine List.ext_getElem? fun s=>?_;by_cases hs:s<a.zH.toNat
   ·rw [i2 s hs,Q4c a hs,List.take_length];rfl
   ·rw [List.getElem?_eq_none (by omega),List.getElem?_eq_none (by rw [Qvx];omega)]
 ·refine Qfj (x:=([],[],[],[],Qqe a onto,Qif a onto)) ?_ ?_
  ·refine (Q5x (l:=a.zD) (fun n (s:List Int×List Int)=>((n:Int),[],[],[],[],s.1,s.2)) (fun (s:List Int×List Int) x=>if x∈onto then (s.1++[x],s.2) else (s.1,s.2++[x])) (fun s=>some ([],[],[],[],s.1,s.2)) (fun n s=>s.1.length≤n∧s.2.length≤n) ?_ ?_ (by unfold Qbb;omega) ([],[]) ⟨by simp,by simp⟩).trans ?_
   ·intro k n hn s ⟨i1,i2⟩;by_cases hx:a.zD[n]∈onto
    ·rw [if_pos hx];refine ⟨⟨by simp;omega,by simp;omega⟩,?_⟩;dsimp only;rw [if_pos (by omega),Qbf hn];simp only [Option.bind_some];rw [Qjy ho];simp only [Option.bind_some,hx,decide_true,if_true];rw [Qby (by simp only [List.length_cons,List.length_nil];unfold lim;omega),Qy (by omega)]
     rfl
    ·rw [if_neg hx];refine ⟨⟨by simp;omega,by simp;omega⟩,?_⟩;dsimp only;rw [if_pos (by omega),Qbf hn];simp only [Option.bind_some];rw [Qjy ho];simp only [Option.bind_some,hx,decide_false,Bool.false_eq_true,if_false];rw [Qby (by simp only [List.length_cons,List.length_nil];unfold lim;omega),Qy (by omega)]
     rfl
   ·intro k s _;dsimp only;rw [if_neg (by omega)]
   ·rw [Q09];rfl
  ·dsimp only;unfold lenO;rw [if_pos (by rw [Qvx])]
   rfl
structure Seen (n:Nat) (l:List Int) (c:List Bool):Prop where
 len:c.length=n
 at1:∀ s:Nat,s<n→c[s]? = some (decide ((s:Int)∈l))
theorem Seen.start (n:Nat):Seen n [] (List.replicate n false):=⟨by simp,fun s hs=>by simp [hs]⟩
theorem Qbi1 {n:Nat} {l:List Int} {c:List Bool} (h:Seen n l c) {x:Int} (hx:0≤x∧x<n) (hl:l.length<big):∃ c',Qbi x c l=some (c',ins l x)∧Seen n (ins l x) c':=by
 have hg:getO c x=some (decide (x∈l)):=by
  rw [Qey];refine ⟨hx.1,?_⟩;rw [h.at1 _ (by omega)];congr 2;rw [show ((x.toNat:Nat):Int)=x from by omega]
 unfold Qbi Qbo;have hin:inO c.length x=some ():=by unfold inO;rw [if_pos ⟨hx.1,by rw [h.len];omega⟩]
 rw [hin,hg];simp only [Option.bind_some];by_cases hm:x∈l
 ·rw [if_pos (by simp [hm])];exact ⟨c,by simp [ins,hm],by simpa [ins,hm] using h⟩
 ·rw [if_neg (by simp [hm])];unfold setO;rw [if_pos ⟨hx.1,by rw [h.len];omega⟩];simp only [Option.bind_some];rw [Qby (by simp only [List.length_cons,List.length_nil];unfold big at hl;unfold lim;omega)];refine ⟨c.set x.toNat true,by simp [ins,hm],?_⟩;simp only [ins,hm,if_false];refine ⟨by simp [h.len],fun s hs=>?_⟩;rw [List.getElem?_set];split
  ·rename_i e;subst e;rw [if_pos (by rw [h.len];exact hs)];simp;omega
  ·rename_i e;rw [h.at1 s hs];have:¬ (s:Int)=x:=by omega
   simp [this]
theorem Qbbw {a:Qa} (h:Right a) {onto fr ev:List Int} (hf:∀ s∈fr,0≤s∧s<a.zH) (hfl:fr.length<big) (hev:ev.length<big) :
  Qdo (obsP a onto) fr ev=some (Qqv a fr ev):=by
 have hst:=h.st;have hsm:=h.small;have hr:=Q4b h ev;have hlen:((obsP a onto).out_.length:Int)=a.zH:=by show ((Q14 a).length:Int)=_;rw [Qvx];omega
 unfold Qdo Q3;rw [hlen];refine Qfj (x:=List.replicate a.zH.toNat false) (by unfold mkO;rw [if_pos ⟨hst.1,by unfold lim;omega⟩]) ?_;have hF0:Fnd (Qox a ev) (fr.foldl ins []):=(Qvu (a:=Qox a ev) ⟨by simp,by simp⟩ hf).1;have hlo:∀ {o:List Int},Fnd (Qox a ev) o→o.length≤a.zH.toNat:=fun h=>h.len;obtain ⟨c1,hc1,h1⟩ : ∃ c1,Seen a.zH.toNat (fr.foldl ins []) c1∧Qb5 (fun (k9:Int×List Int×List Bool→Option (List Int×List Bool)) ((x6,l7,c8):Int×(List Int)×(List Bool))=>(if (x6<(fr.length:Int)) then ((getO fr x6).bind fun x11=>((lenO c8 (Int.toNat a.zH)).bind fun _=>((Qbi x11 c8 l7).bind fun (c14,c15)=>k9 ((IntKind.wrap .i64 (x6+1)),c15,c14)))) else some (l7,c8))) Qbb (0,[],List.replicate a.zH.toNat false)=some (fr.foldl ins [],c1):=by
  have:=Qc6 (F:=fun (k9:Int×List Int×List Bool→Option (List Int×List Bool)) ((x6,l7,c8):Int×(List Int)×(List Bool))=>(if (x6<(fr.length:Int)) then ((getO fr x6).bind fun x11=>((lenO c8 (Int.toNat a.zH)).bind fun _=>((Qbi x11 c8 l7).bind fun (c14,c15)=>k9 ((IntKind.wrap .i64 (x6+1)),c15,c14)))) else some (l7,c8)))
   (fun x=>∃ n:Nat,x.1=(n:Int)∧n≤fr.length∧Fnd (Qox a ev) x.2.1∧Seen a.zH.toNat x.2.1 x.2.2∧(fr.drop n).foldl ins x.2.1=fr.foldl ins []) (fun x=>fr.length-x.1.toNat)
   (fun x r=>∃ c1,Seen a.zH.toNat (fr.foldl ins []) c1∧r=some (fr.foldl ins [],c1)) (by
    rintro k ⟨_,l,c⟩ ⟨n,rfl,hn,hF,hS,he⟩ ih;replace hF:Fnd (Qox a ev) l:=hF;replace hS:Seen a.zH.toNat l c:=hS;have hll:=hlo hF;dsimp only at he ⊢;by_cases hlt:n<fr.length
    ·rw [if_pos (by omega),Qbf hlt];simp only [Option.bind_some];have hx:=hf _ (List.getElem_mem hlt);obtain ⟨c',hadd,hS'⟩:=Qbi1 hS (x:=fr[n]) ⟨hx.1,by omega⟩ (by unfold big;omega);unfold lenO;rw [if_pos hS.len];simp only [Option.bind_some];rw [hadd];simp only [Option.bind_some];rw [Qy (by unfold big at hfl;omega)];rw [List.drop_eq_getElem_cons hlt,List.foldl_cons] at he;exact ih _ ⟨n+1,rfl,by omega,hF.ins hx,hS',he⟩ (by simp only;omega)
    ·rw [if_neg (by omega)];have:fr.drop n=[]:=List.drop_eq_nil_of_le (by omega);rw [this] at he;exact ⟨c,by rw [← he];exact hS,by rw [← he];rfl⟩) Qbb (0,[],List.replicate a.zH.toNat false) ⟨0,rfl,by omega,⟨by simp,by simp⟩,Seen.start _,rfl⟩ (by simp only [Int.toNat_zero];unfold Qbb;unfold big at hfl;omega)
  exact this
 refine Qfj h1 ?_;dsimp only;obtain ⟨c2,h2⟩ : ∃ c2,Qb5 (fun (k22:Int×List Int×List Bool→Option (List Int×List Bool)) ((i19,l20,c21):Int×(List Int)×(List Bool))=>(if (i19<(l20.length:Int)) then ((((getO l20 i19).bind fun x24=>((getO (obsP a onto).out_ x24).bind fun x26=>Qb5 (fun (k31:Int×List Int×List Bool→Option (List Int×List Bool)) ((x28,l29,c30):Int×(List Int)×(List Bool))=>(if (x28<(x26.length:Int)) then ((((getO x26 x28).bind fun x33=>((Q5 ev x33.Event).bind fun x36=>(if x36 then ((lenO c30 (Int.toNat a.zH)).bind fun _=>((Qbi x33.To c30 l29).bind fun (c39,c40)=>some (c40,c39,x33.From,x33.Event,x33.To))) else some (l29,c30,x33.From,x33.Event,x33.To))))).bind fun ((l42,c43,c44,c45,c46):(List Int)×(List Bool)×Int×Int×Int)=>k31 ((IntKind.wrap .i64 (x28+1)),l42,c43)) else some (l29,c30))) Qbb (0,l20,c21)))).bind fun ((l47,c48):(List Int)×(List Bool))=>k22 ((IntKind.wrap .i64 (i19+1)),l47,c48)) else some (l20,c21))) Qbb (0,fr.foldl ins [],c1)=some (bfs (Qox a ev) (a.zH.toNat+1) 0 (fr.foldl ins []),c2):=by
  have:=Qc6 (F:=fun (k22:Int×List Int×List Bool→Option (List Int×List Bool)) ((i19,l20,c21):Int×(List Int)×(List Bool))=>(if (i19<(l20.length:Int)) then ((((getO l20 i19).bind fun x24=>((getO (obsP a onto).out_ x24).bind fun x26=>Qb5 (fun (k31:Int×List Int×List Bool→Option (List Int×List Bool)) ((x28,l29,c30):Int×(List Int)×(List Bool))=>(if (x28<(x26.length:Int)) then ((((getO x26 x28).bind fun x33=>((Q5 ev x33.Event).bind fun x36=>(if x36 then ((lenO c30 (Int.toNat a.zH)).bind fun _=>((Qbi x33.To c30 l29).bind fun (c39,c40)=>some (c40,c39,x33.From,x33.Event,x33.To))) else some (l29,c30,x33.From,x33.Event,x33.To))))).bind fun ((l42,c43,c44,c45,c46):(List Int)×(List Bool)×Int×Int×Int)=>k31 ((IntKind.wrap .i64 (x28+1)),l42,c43)) else some (l29,c30))) Qbb (0,l20,c21)))).bind fun ((l47,c48):(List Int)×(List Bool))=>k22 ((IntKind.wrap .i64 (i19+1)),l47,c48)) else some (l20,c21)))
   (fun x=>∃ i:Nat,x.1=(i:Int)∧i≤x.2.1.length∧Fnd (Qox a ev) x.2.1∧Seen a.zH.toNat x.2.1 x.2.2) (fun x=>a.zH.toNat+1-x.1.toNat)
   (fun x r=>∃ c2,r=some (bfs (Qox a ev) (a.zH.toNat+1-x.1.toNat) x.1.toNat x.2.1,c2)) (by
    rintro k ⟨_,l,c⟩ ⟨i,rfl,hi,hF,hS⟩ ih;replace hi:i≤l.length:=hi;replace hF:Fnd (Qox a ev) l:=hF;replace hS:Seen a.zH.toNat l c:=hS;have hll:=hlo hF;dsimp only;by_cases hlt:i<l.length
    ·rw [if_pos (by omega),Qbf hlt];have hx:=hF.rg _ (List.getElem_mem hlt);have hx:0≤l[i]∧l[i]<a.zH:=hx;simp only [Option.bind_some];rw [show getO (obsP a onto).out_ l[i]=_ from Q2g hx];simp only [Option.bind_some];have hlo2:(outP a l[i]).length≤a.zG.length:=List.length_filter_le _ _;obtain ⟨c',hF',hS',hin⟩ : ∃ c',Fnd (Qox a ev) ((Qsk (Qox a ev) l[i]).foldl ins l)∧Seen a.zH.toNat ((Qsk (Qox a ev) l[i]).foldl ins l) c'∧Qb5 (fun (k31:Int×List Int×List Bool→Option (List Int×List Bool)) ((x28,l29,c30):Int×(List Int)×(List Bool))=>(if (x28<((outP a l[i]).length:Int)) then ((((getO (outP a l[i]) x28).bind fun x33=>((Q5 ev x33.Event).bind fun x36=>(if x36 then ((lenO c30 (Int.toNat a.zH)).bind fun _=>((Qbi x33.To c30 l29).bind fun (c39,c40)=>some (c40,c39,x33.From,x33.Event,x33.To))) else some (l29,c30,x33.From,x33.Event,x33.To))))).bind fun ((l42,c43,c44,c45,c46):(List Int)×(List Bool)×Int×Int×Int)=>k31 ((IntKind.wrap .i64 (x28+1)),l42,c43)) else some (l29,c30))) Qbb (0,l,c)=some ((Qsk (Qox a ev) l[i]).foldl ins l,c'):=by
      rw [Qbc4];have:=Qc6 (F:=fun (k31:Int×List Int×List Bool→Option (List Int×List Bool)) ((x28,l29,c30):Int×(List Int)×(List Bool))=>(if (x28<((outP a l[i]).length:Int)) then ((((getO (outP a l[i]) x28).bind fun x33=>((Q5 ev x33.Event).bind fun x36=>(if x36 then ((lenO c30 (Int.toNat a.zH)).bind fun _=>((Qbi x33.To c30 l29).bind fun (c39,c40)=>some (c40,c39,x33.From,x33.Event,x33.To))) else some (l29,c30,x33.From,x33.Event,x33.To))))).bind fun ((l42,c43,c44,c45,c46):(List Int)×(List Bool)×Int×Int×Int)=>k31 ((IntKind.wrap .i64 (x28+1)),l42,c43)) else some (l29,c30)))
       (fun x=>∃ n:Nat,x.1=(n:Int)∧n≤(outP a l[i]).length∧Fnd (Qox a ev) x.2.1∧Seen a.zH.toNat x.2.1 x.2.2∧((((outP a l[i]).drop n).filter fun x=>decide (x.Event∈ev)).map (·.To)).foldl ins x.2.1=(((outP a l[i]).filter fun x=>decide (x.Event∈ev)).map (·.To)).foldl ins l) (fun x=>(outP a l[i]).length-x.1.toNat)
       (fun x r=>∃ c1,Fnd (Qox a ev) ((((outP a l[i]).filter fun x=>decide (x.Event∈ev)).map (·.To)).foldl ins l)∧Seen a.zH.toNat ((((outP a l[i]).filter fun x=>decide (x.Event∈ev)).map (·.To)).foldl ins l) c1∧r=some ((((outP a l[i]).filter fun x=>decide (x.Event∈ev)).map (·.To)).foldl ins l,c1)) (by
        rintro k ⟨_,l2,c2⟩ ⟨n,rfl,hn,hF,hS,he⟩ ih;replace hF:Fnd (Qox a ev) l2:=hF;replace hS:Seen a.zH.toNat l2 c2:=hS;have hll:=hlo hF;dsimp only at he ⊢;by_cases hlt2:n<(outP a l[i]).length
        ·rw [if_pos (by omega),Qbf hlt2];simp only [Option.bind_some];rw [Qjy hev];rw [List.drop_eq_getElem_cons hlt2,List.filter_cons] at he;have hed:(outP a l[i])[n]∈a.zG:=(List.mem_filter.1 (List.getElem_mem hlt2)).1;have hto:=(h.ed0 _ hed).2.2;by_cases hx:(outP a l[i])[n].Event∈ev
         ·simp only [Option.bind_some,hx,decide_true,if_true] at he ⊢;obtain ⟨c',hadd,hS'⟩:=Qbi1 hS (x:=(outP a l[i])[n].To) ⟨hto.1,by omega⟩ (by unfold big;omega);unfold lenO;rw [if_pos hS.len];simp only [Option.bind_some];rw [hadd];simp only [Option.bind_some];rw [Qy (by omega)];exact ih _ ⟨n+1,rfl,by omega,hF.ins ⟨hto.1,hto.2.1⟩,hS',he⟩ (by simp only;omega)
         ·simp only [Option.bind_some,hx,decide_false,Bool.false_eq_true,if_false] at he ⊢;rw [Qy (by omega)];exact ih _ ⟨n+1,rfl,by omega,hF,hS,he⟩ (by simp only;omega)
        ·rw [if_neg (by omega)];have:(outP a l[i]).drop n=[]:=List.drop_eq_nil_of_le (by omega);rw [this] at he;simp only [List.filter_nil,List.map_nil,List.foldl_nil] at he;exact ⟨c2,by rw [← he];exact hF,by rw [← he];exact hS,by rw [← he]⟩) Qbb (0,l,c) ⟨0,rfl,Nat.zero_le _,hF,hS,rfl⟩ (by simp only [Int.toNat_zero];unfold Qbb;omega)
      exact this
     rw [hin];simp only [Option.bind_some];rw [Qy (by omega)];have hpre:=(Qvu hF (Qyo hr l[i])).2.1;obtain ⟨c3,hc3⟩:=ih ((i+1:Nat),_,c') ⟨i+1,rfl,by have:=hpre.length_le;simp only;omega,hF',hS'⟩ (by simp only;omega);refine ⟨c3,hc3.trans ?_⟩;simp only [Int.toNat_natCast];rw [show a.zH.toNat+1-i=(a.zH.toNat+1-(i+1))+1 from by omega,Qbbt hlt]
    ·rw [if_neg (by omega)];obtain rfl:i=l.length:=by omega
     exact ⟨c,by simp only [Int.toNat_natCast,Qbfv]⟩) Qbb (0,fr.foldl ins [],c1) ⟨0,rfl,Nat.zero_le _,hF0,hc1⟩ (by simp only [Int.toNat_zero];unfold Qbb;omega)
  simpa using this
 refine Qfj h2 ?_;dsimp only;obtain ⟨q1,q2⟩:=Q82 h (ev:=ev) hf (o:=fr.foldl ins []) (fun s=>by rw [Qz1];simp) hF0.nd;have hql:=hlo q1;unfold Qbj2;rw [if_pos (by unfold lim;omega),q2]
 rfl
end Go.Abs
end
section
namespace Go.Abs
open Go
structure Evs (l:List Int):Prop where
 rg:∀ x∈l,0≤x∧x<5
 so:l.Pairwise (· < ·)
theorem Evs.len {l:List Int} (h:Evs l):l.length≤5:=by have:=Qgk h.so h.rg;simpa using this
def Qbhx:List Int→Bool
 | []=>true
 | x::xs=>xs.all (fun y=>decide (x<y))&&Qbhx xs
theorem Q83:∀ {l:List Int},Qbhx l=true→l.Pairwise (· < ·)
 | [],_=>.nil
 | x::xs,h=>by
  simp only [Qbhx,Bool.and_eq_true,List.all_eq_true,decide_eq_true_eq] at h;exact List.pairwise_cons.2 ⟨h.1,Q83 h.2⟩
def evB (s:Nat):Bool:=match Qfb (s:Int) with
 | some l=>Qbhx l&&l.all fun x=>decide (0≤x)&&decide (x<5)
 | none=>false
theorem Qbkf:(List.range 256).all evB=true:=by kernel_rfl
theorem Qbf0 {s:Int} (h0:0≤s) (h1:s<256):∃ l,Qfb s=some l∧Evs l:=by
 have:=List.all_eq_true.1 Qbkf s.toNat (List.mem_range.2 (by omega));unfold evB at this;rw [show ((s.toNat:Nat):Int)=s from by omega] at this;split at this
 ·rename_i l hl;simp only [Bool.and_eq_true,List.all_eq_true,decide_eq_true_eq] at this;exact ⟨l,hl,fun x hx=>this.2 x hx,Q83 this.1⟩
 ·cases this
structure Mks (n:Nat) (ms:List Int):Prop where
 rg:∀ x∈ms,0≤x∧x<n
 so:ms.Pairwise (· < ·)
structure Eds (al:List Int) (N:Int) (i k:Nat) (es:List Qe):Prop where
 rg:∀ x∈es,0≤x.From∧0≤x.To∧x.To<N∧x.Event∈al∧(x.From<i∨x.From=i∧∃ j:Nat,j<k∧al[j]? = some x.Event)
 so:es.Pairwise Qlc
 ln:es.length≤5*i+k
theorem Mks.up {n:Nat} {ms:List Int} (h:Mks n ms):Mks (n+1) ms:=⟨fun x hx=>by have:=h.rg x hx;omega,h.so⟩
theorem Mks.add {n:Nat} {ms:List Int} (h:Mks n ms):Mks (n+1) (ms++[(n:Int)]):=by
 refine ⟨fun x hx=>?_,?_⟩
 ·rcases List.mem_append.1 hx with hx|hx
  ·have:=h.rg x hx;omega
  ·simp at hx;omega
 ·rw [List.pairwise_append];exact ⟨h.so,by simp,fun x hx y hy=>by simp at hy;have:=h.rg x hx;omega⟩
theorem Mks.len {n:Nat} {ms:List Int} (h:Mks n ms):ms.length≤n:=by have:=Qgk h.so h.rg;simpa using this
section
variable {al:List Int} (hal:Evs al) {N:Int} {i k:Nat} {es:List Qe}
theorem Eds.up (h:Eds al N i k es):Eds al N i (k+1) es:=⟨fun x hx=>by
 obtain ⟨h1,h2,h3,h4,h5⟩:=h.rg x hx;refine ⟨h1,h2,h3,h4,?_⟩;rcases h5 with h5|⟨h5,j,h6,h7⟩
 ·exact .inl h5
 ·exact .inr ⟨h5,j,by omega,h7⟩,h.so,by have:=h.ln;omega⟩
theorem Eds.next (h:Eds al N i k es) (hk:k≤5):Eds al N (i+1) 0 es:=⟨fun x hx=>by
 obtain ⟨h1,h2,h3,h4,h5⟩:=h.rg x hx;exact ⟨h1,h2,h3,h4,.inl (by rcases h5 with h5|⟨h5,_⟩<;>omega)⟩,h.so,by have:=h.ln;omega⟩
include hal in
theorem Eds.add (h:Eds al N i k es) (hk:k<al.length) {t:Int} (ht:0≤t∧t<N):Eds al N i (k+1) (es++[⟨(i:Int),al[k],t⟩]):=by
 refine ⟨fun x hx=>?_,?_,by have:=h.ln;simp only [List.length_append,List.length_cons,List.length_nil];omega⟩
 ·rcases List.mem_append.1 hx with hx|hx
  ·exact h.up.rg x hx
  ·simp at hx;subst hx;exact ⟨by simp only;omega,ht.1,ht.2,List.getElem_mem hk,.inr ⟨rfl,k,by omega,List.getElem?_eq_getElem hk⟩⟩
 ·rw [List.pairwise_append];refine ⟨h.so,by simp,fun x hx y hy=>?_⟩;simp at hy;subst hy;obtain ⟨_,_,_,_,h5⟩:=h.rg x hx;rcases h5 with h5|⟨h5,j,h6,h7⟩
  ·exact .inl h5
  ·refine .inr ⟨h5,?_⟩;obtain ⟨h8,h9⟩:=List.getElem?_eq_some_iff.1 h7;rw [← h9];exact List.pairwise_iff_getElem.1 hal.so j k h8 hk h6
end
structure Qbi2 (g:Qcp):Prop where
 st:0≤g.zH∧g.zH<256
 tos:∀ x∈[g.To.1.1,g.To.1.2.1,g.To.1.2.2.1,g.To.1.2.2.2.1,g.To.1.2.2.2.2,g.To.2.1.1,g.To.2.1.2.1,g.To.2.1.2.2.1,g.To.2.1.2.2.2.1,g.To.2.1.2.2.2.2,g.To.2.2.1.1,g.To.2.2.1.2.1,g.To.2.2.1.2.2.1,g.To.2.2.1.2.2.2.1,g.To.2.2.1.2.2.2.2,g.To.2.2.2.1.1,g.To.2.2.2.1.2.1,g.To.2.2.2.1.2.2.1,g.To.2.2.2.1.2.2.2.1,g.To.2.2.2.1.2.2.2.2,g.To.2.2.2.2.1,g.To.2.2.2.2.2.1,g.To.2.2.2.2.2.2.1,g.To.2.2.2.2.2.2.2.1,g.To.2.2.2.2.2.2.2.2],0≤x∧x<256
theorem Qbbx {al:List Int} (hal:Evs al) (fuel:Nat) (hfu:1099511627776≤fuel) {L:List Int} (hL:L.length=25) (hL2:∀ x∈L,0≤x∧x<256) {N:Int} (hN:1≤N∧N≤5) {i:Nat} (hi:(i:Int)<N) {ms:List Int} {es:List Qe} (hes:Eds al N i 0 es) :
  ∃ es',Eds al N (i+1) 0 es'∧Qb5 (fun (k25:Int×List Qe→Option (List Int×List Qe)) ((k23,a24):Int×(List Qe))=>(((if (k23<(al.length:Int)) then some (decide (k23<5)) else some false)).bind fun (x27:Bool)=>(if x27 then ((((inO 5 (i:Int)).bind fun _=>((inO 5 k23).bind fun _=>((rowO L (Int.toNat (i:Int)*5+Int.toNat k23*1)).bind fun x31=>((remO .i64 (IntKind.wrap .i64 x31) (IntKind.wrap .i64 (N+2))).bind fun s33=>(if (s33<N) then ((getO al k23).bind fun x36=>((appO a24 [(Qe.mk (i:Int) x36 s33)]).bind fun x38=>some x38)) else some a24)))))).bind fun (a40:List Qe)=>k25 ((IntKind.wrap .i64 (k23+1)),a40)) else some (ms,a24)))) fuel (0,es)=some (ms,es'):=by
 have hl:=hal.len;have:=Qc6 (F:=fun (k25:Int×List Qe→Option (List Int×List Qe)) ((k23,a24):Int×(List Qe))=>(((if (k23<(al.length:Int)) then some (decide (k23<5)) else some false)).bind fun (x27:Bool)=>(if x27 then ((((inO 5 (i:Int)).bind fun _=>((inO 5 k23).bind fun _=>((rowO L (Int.toNat (i:Int)*5+Int.toNat k23*1)).bind fun x31=>((remO .i64 (IntKind.wrap .i64 x31) (IntKind.wrap .i64 (N+2))).bind fun s33=>(if (s33<N) then ((getO al k23).bind fun x36=>((appO a24 [(Qe.mk (i:Int) x36 s33)]).bind fun x38=>some x38)) else some a24)))))).bind fun (a40:List Qe)=>k25 ((IntKind.wrap .i64 (k23+1)),a40)) else some (ms,a24))))
  (fun x=>∃ k:Nat,x.1=(k:Int)∧k≤al.length∧Eds al N i k x.2) (fun x=>al.length-x.1.toNat) (fun _ r=>∃ es',r=some (ms,es')∧Eds al N (i+1) 0 es') (by
   rintro kk ⟨k,es⟩ ⟨k,rfl,hk,he⟩ ih;replace he:Eds al N i k es:=he;replace hk:k≤al.length:=hk;dsimp only;by_cases hlt:k<al.length
   ·rw [if_pos (by omega)];simp only [Option.bind_some,show decide ((k:Int)<5)=true from by simp;omega,if_true];rw [show inO 5 (i:Int)=some () from by unfold inO;rw [if_pos (by omega)],show inO 5 (k:Int)=some () from by unfold inO;rw [if_pos (by omega)]];simp only [Option.bind_some,Int.toNat_natCast];have hidx:i*5+k*1<L.length:=by omega
    have hx:=hL2 _ (List.getElem_mem hidx);rw [show rowO L (i*5+k*1)=some L[i*5+k*1] from by unfold rowO;exact List.getElem?_eq_getElem hidx];simp only [Option.bind_some];rw [Qlb (x:=L[i*5+k*1]) (by omega) (by omega),Qlb (x:=N+2) (by omega) (by omega),show remO .i64 L[i*5+k*1] (N+2)=some (L[i*5+k*1].tmod (N+2)) from by unfold remO;rw [if_neg (by omega)]];simp only [Option.bind_some];have hmod:0≤L[i*5+k*1].tmod (N+2):=Int.tmod_nonneg _ hx.1;have hln:=he.ln;by_cases hm:L[i*5+k*1].tmod (N+2)<N
    ·rw [if_pos hm,Qbf hlt];simp only [Option.bind_some];rw [Qby (by simp only [List.length_cons,List.length_nil];unfold lim;omega)];simp only [Option.bind_some];rw [Qy (by omega)];exact ih _ ⟨k+1,rfl,hlt,he.add hal hlt ⟨hmod,hm⟩⟩ (by simp only;omega)
    ·rw [if_neg hm];simp only [Option.bind_some];rw [Qy (by omega)];exact ih _ ⟨k+1,rfl,hlt,he.up⟩ (by simp only;omega)
   ·rw [if_neg (by omega)];exact ⟨es,rfl,he.next (by omega)⟩) fuel (0,es) ⟨0,rfl,Nat.zero_le _,hes⟩ (by simp only;omega)
 obtain ⟨es',h1,h2⟩:=this;exact ⟨es',h2,h1⟩
theorem Qbac {al:List Int} (hal:Evs al):Right ⟨al,0,[],[]⟩ :=
 ⟨fun x hx=>by have:=hal.rg x hx;omega,hal.so,⟨by simp,by simp⟩,by simp,.nil,by simp,.nil⟩
theorem Qbkg {al:List Int} (hal:Evs al) {g:Qcp} (hg:Qbi2 g):∃ m,Right m∧m.zD=al∧Qhq al g=some (Qvv m)∧m.zH≤5:=by
 have hl:=hal.len;obtain ⟨hst,hto⟩:=hg;unfold Qhq Qc9;obtain ⟨fuel,hfu,hge⟩ : ∃ f,Qbb=f∧1099511627776≤f:=⟨_,rfl,Nat.le_refl _⟩;rw [hfu,Qbbs (by unfold lim;omega)];simp only [Option.bind_some];by_cases h250:g.zH≥250
 ·rw [if_pos h250];exact ⟨⟨al,0,[],[]⟩,Qbac hal,rfl,rfl,by simp⟩
 rw [if_neg h250];have hL:[g.To.1.1,g.To.1.2.1,g.To.1.2.2.1,g.To.1.2.2.2.1,g.To.1.2.2.2.2,g.To.2.1.1,g.To.2.1.2.1,g.To.2.1.2.2.1,g.To.2.1.2.2.2.1,g.To.2.1.2.2.2.2,g.To.2.2.1.1,g.To.2.2.1.2.1,g.To.2.2.1.2.2.1,g.To.2.2.1.2.2.2.1,g.To.2.2.1.2.2.2.2,g.To.2.2.2.1.1,g.To.2.2.2.1.2.1,g.To.2.2.2.1.2.2.1,g.To.2.2.2.1.2.2.2.1,g.To.2.2.2.1.2.2.2.2,g.To.2.2.2.2.1,g.To.2.2.2.2.2.1,g.To.2.2.2.2.2.2.1,g.To.2.2.2.2.2.2.2.1,g.To.2.2.2.2.2.2.2.2].length=25:=rfl;generalize [g.To.1.1,g.To.1.2.1,g.To.1.2.2.1,g.To.1.2.2.2.1,g.To.1.2.2.2.2,g.To.2.1.1,g.To.2.1.2.1,g.To.2.1.2.2.1,g.To.2.1.2.2.2.1,g.To.2.1.2.2.2.2,g.To.2.2.1.1,g.To.2.2.1.2.1,g.To.2.2.1.2.2.1,g.To.2.2.1.2.2.2.1,g.To.2.2.1.2.2.2.2,g.To.2.2.2.1.1,g.To.2.2.2.1.2.1,g.To.2.2.2.1.2.2.1,g.To.2.2.2.1.2.2.2.1,g.To.2.2.2.1.2.2.2.2,g.To.2.2.2.2.1,g.To.2.2.2.2.2.1,g.To.2.2.2.2.2.2.1,g.To.2.2.2.2.2.2.2.1,g.To.2.2.2.2.2.2.2.2]=L at hto hL ⊢;have hmod:0≤g.zH.tmod 5∧g.zH.tmod 5<5:=⟨Int.tmod_nonneg _ hst.1,Int.tmod_lt_of_pos _ (by omega)⟩;have hN:1≤IntKind.wrap .i64 (1+(IntKind.wrap .i64 (Int.tmod g.zH 5)))∧IntKind.wrap .i64 (1+(IntKind.wrap .i64 (Int.tmod g.zH 5)))≤5:=by
  rw [Qlb (x:=g.zH.tmod 5) (by omega) (by omega),Qlb (by omega) (by omega)];omega
 generalize IntKind.wrap .i64 (1+(IntKind.wrap .i64 (Int.tmod g.zH 5)))=N at hN ⊢;have hloop:=Qc6 (F:=(fun (k15:Int×List Int×List Int×List Qe×Int×List Int×List Qe→Option (List Int×List Int×List Qe×Int×List Int×List Qe)) ((i8,c9,c10,c11,a12,a13,a14):Int×(List Int)×(List Int)×(List Qe)×Int×(List Int)×(List Qe))=>(if (i8<a12) then ((((((shrO .u8 g.Marks i8).bind fun s17=>(if ((andI .u8 s17 1)==1) then ((appO a13 [i8]).bind fun x20=>some x20) else some a13))).bind fun (a22:List Int)=>Qb5 (fun k25 ((k23,a24):Int×(List Qe))=>(((if (k23<(al.length:Int)) then some (decide (k23<5)) else some false)).bind fun (x27:Bool)=>(if x27 then ((((inO 5 i8).bind fun _=>((inO 5 k23).bind fun _=>((rowO L (Int.toNat i8*5+Int.toNat k23*1)).bind fun x31=>((remO .i64 (IntKind.wrap .i64 x31) (IntKind.wrap .i64 (a12+2))).bind fun s33=>(if (s33<a12) then ((getO al k23).bind fun x36=>((appO a24 [(Qe.mk i8 x36 s33)]).bind fun x38=>some x38)) else some a24)))))).bind fun (a40:List Qe)=>k25 ((IntKind.wrap .i64 (k23+1)),a40)) else some (a22,a24)))) fuel (0,a14))).bind fun ((a41,a42):(List Int)×(List Qe))=>k15 ((IntKind.wrap .i64 (i8+1)),c9,c10,c11,a12,a41,a42)) else some (c9,c10,c11,a12,a13,a14))))
  (fun x=>∃ (i:Nat) (ms:List Int) (es:List Qe),x=((i:Int),[],[],[],N,ms,es)∧(i:Int)≤N∧Mks i ms∧Eds al N i 0 es) (fun x=>(N-x.1).toNat)
  (fun _ r=>∃ (i:Nat) (ms:List Int) (es:List Qe),r=some ([],[],[],N,ms,es)∧(i:Int)=N∧Mks i ms∧Eds al N i 0 es) (by
   rintro k _ ⟨i,ms,es,rfl,hi,hm,he⟩ ih;dsimp only;by_cases hlt:(i:Int)<N
   ·rw [if_pos hlt,show shrO .u8 g.Marks (i:Int)=some (g.Marks.fdiv (2 ^ (min (Int.toNat (i:Int)) (IntKind.bits .u8)))) from by unfold shrO;rw [if_neg (by omega)]];simp only [Option.bind_some];have hml:=hm.len;by_cases hb:(andI .u8 (g.Marks.fdiv (2 ^ (min (Int.toNat (i:Int)) (IntKind.bits .u8)))) 1==1)=true
    ·rw [if_pos hb,Qby (by simp only [List.length_cons,List.length_nil];unfold lim;omega)];simp only [Option.bind_some];obtain ⟨es',h1,h2⟩:=Qbbx hal fuel hge hL hto hN hlt (ms:=ms++[(i:Int)]) he;rw [h2];simp only [Option.bind_some];rw [Qy (by omega)];exact ih _ ⟨i+1,_,_,rfl,by omega,hm.add,h1⟩ (by simp only;omega)
    ·rw [if_neg hb];simp only [Option.bind_some];obtain ⟨es',h1,h2⟩:=Qbbx hal fuel hge hL hto hN hlt (ms:=ms) he;rw [h2];simp only [Option.bind_some];rw [Qy (by omega)];exact ih _ ⟨i+1,_,_,rfl,by omega,hm.up,h1⟩ (by simp only;omega)
   ·rw [if_neg hlt];exact ⟨i,ms,es,rfl,by omega,hm,he⟩) fuel (0,[],[],[],N,[],[]) ⟨0,[],[],rfl,by omega,⟨by simp,.nil⟩,⟨by simp,.nil,by simp⟩⟩ (by simp only;omega)
 obtain ⟨i,ms,es,h1,h2,h3,h4⟩:=hloop;rw [h1];simp only [Option.bind_some];have hr:Right ⟨al,N,ms,es⟩:=⟨fun x hx=>by have:=hal.rg x hx;omega,hal.so,⟨by simp only;omega,by simp only;omega⟩,fun x hx=>by have:=h3.rg x hx;simp only;omega,h3.so,fun x hx=>by
  obtain ⟨k1,k2,k3,k4,k5⟩:=h4.rg x hx;refine ⟨k1,?_,k2,k3,k4⟩;rcases k5 with k5|⟨_,j,k6,_⟩
  ·simp only;omega
  ·omega,h4.so⟩
 rw [Q37 hr];exact ⟨_,hr,rfl,rfl,by simp only;omega⟩
end Go.Abs
end
section
namespace Go.Abs
open Go
def Qp5 (a:Qa) (est:List Int) (e:Int):List Int:=est.flatMap fun s=>((outP a s).filter fun x=>x.Event==e).map (·.To)
noncomputable def Q1a (a:Qa) (onto est:List Int) (e:Int):List Int:=Qqv a (Qp5 a est e) (Qif a onto)
noncomputable def Qvy (a:Qa) (onto:List Int):List Int:=if a.zH=0 then [] else Qqv a [0] (Qif a onto)
noncomputable def estP (a:Qa) (onto obs:List Int):List Int:=obs.foldl (Q1a a onto) (Qvy a onto)
structure Sts (a:Qa) (l:List Int):Prop where
 rg:∀ s∈l,0≤s∧s<a.zH
 so:l.Pairwise (· < ·)
theorem Sts.len {a:Qa} {l:List Int} (h:Sts a l):l.length≤a.zH.toNat:=by
 have:=Qgk (a:=0) (b:=a.zH) h.so h.rg;omega
theorem Q5z (a:Qa) (fr ev:List Int):Sts a (Qqv a fr ev):=⟨fun s hs=>(Q08.1 hs).1,Q39 _ _ _⟩
theorem Q4d (a:Qa) (onto est:List Int) (e:Int):Sts a (Q1a a onto est e):=Q5z _ _ _
theorem Q1b (a:Qa) (onto:List Int):Sts a (Qvy a onto):=by
 unfold Qvy;split
 ·exact ⟨by simp,by simp⟩
 ·exact Q5z _ _ _
theorem Q4e {a:Qa} {est:List Int} {e t:Int}:t∈Qp5 a est e↔∃ x∈a.zG,x.From∈est∧x.Event=e∧x.To=t:=by
 simp only [Qp5,outP,List.mem_flatMap,List.mem_map,List.mem_filter,beq_iff_eq];constructor
 ·rintro ⟨s,hs,x,⟨⟨h1,h2⟩,h3⟩,h4⟩;exact ⟨x,h1,by rw [h2];exact hs,h3,h4⟩
 ·rintro ⟨x,h1,h2,h3,h4⟩;exact ⟨x.From,h2,x,⟨⟨h1,rfl⟩,h3⟩,h4⟩
theorem Q4f {a:Qa} (h:Right a) {est:List Int} {e:Int}:∀ s∈Qp5 a est e,0≤s∧s<a.zH:=by
 intro s hs;obtain ⟨x,hx,_,_,rfl⟩:=Q4e.1 hs;exact ⟨(h.ed0 x hx).2.2.1,(h.ed0 x hx).2.2.2.1⟩
theorem Qbby {α β:Type} {f:α→List β} {m:Nat}:∀ {l:List α},(∀ x∈l,(f x).length≤m)→(l.flatMap f).length≤m*l.length
 | [],_=>by simp
 | x::l,h=>by
  have h1:=h x (by simp);have h2:=Qbby (l:=l) fun y hy=>h y (by simp [hy]);simp only [List.flatMap_cons,List.length_append,List.length_cons,Nat.mul_succ];omega
theorem Qbkh (a:Qa) (s e:Int):((outP a s).filter fun x=>x.Event==e).length≤a.zG.length:=Nat.le_trans (List.length_filter_le _ _) (List.length_filter_le _ _)
theorem Q84 {a:Qa} (h:Right a) {est:List Int} (hl:est.length≤5000) (e:Int):(Qp5 a est e).length≤131072*5000:=by
 have:=Qbby (f:=fun s=>((outP a s).filter fun x=>x.Event==e).map (·.To)) (m:=131072) (l:=est) fun s _=>by
  have:=Qbkh a s e;have:=h.small.2.2.2;rw [List.length_map];omega
 exact Nat.le_trans this (Nat.mul_le_mul_left _ hl)
theorem Q50 {a:Qa} (h:Right a) (onto:List Int):(Qif a onto).length<big:=by
 have:=h.small.2.1;have:(Qif a onto).length≤a.zD.length:=List.length_filter_le _ _;unfold big;omega
theorem Qbbz {a:Qa} (h:Right a) (onto:List Int):(Qqe a onto).length≤32:=by
 have:=h.small.2.1;have:(Qqe a onto).length≤a.zD.length:=List.length_filter_le _ _;omega
theorem Qbc5 {a:Qa} (h:Right a) {onto est:List Int} (he:∀ s∈est,0≤s∧s<a.zH) (hl:est.length≤5000) (e:Int) :
  Qdw (obsP a onto) est e=some (Q1a a onto est e):=by
 have hsm:=h.small;have hmax:=Q84 h hl e;unfold Qdw Q7;refine Qfj (x:=Qp5 a est e) ?_ ?_
 ·refine (Qez (len:=est.length) (fun n (l:List Int)=>(l,(n:Int))) (fun n l=>l=Qp5 a (est.take n) e) (fun n l=>some (Qp5 a est e)) ?_ ?_ Qbb 0 [] (Nat.zero_le _) (by unfold Qbb;omega) (by simp [Qp5]))
  ·rintro k n l hn rfl ih;have hx:=he _ (List.getElem_mem hn);dsimp only;rw [if_pos (by omega),Qbf hn];simp only [Option.bind_some];rw [show getO (obsP a onto).out_ est[n]=_ from Q2g hx];simp only [Option.bind_some];have hol:(outP a est[n]).length≤131072:=Nat.le_trans (List.length_filter_le _ _) hsm.2.2.2;have hml:(Qp5 a (est.take n) e).length≤131072*5000:=Q84 h (by rw [List.length_take];omega) e;refine Qfj (x:=Qp5 a (est.take n) e++((outP a est[n]).filter fun x=>x.Event==e).map (·.To)) ?_ ?_
   ·refine (Qez (len:=(outP a est[n]).length) (fun m (l:List Int)=>(l,(m:Int))) (fun m l=>l=Qp5 a (est.take n) e++(((outP a est[n]).take m).filter fun x=>x.Event==e).map (·.To)) (fun m l=>some (Qp5 a (est.take n) e++((outP a est[n]).filter fun x=>x.Event==e).map (·.To))) ?_ ?_ Qbb 0 _ (Nat.zero_le _) (by unfold Qbb;omega) (by simp))
    ·rintro k m l hm rfl ih;dsimp only;rw [if_pos (by omega),Qbf hm];simp only [Option.bind_some];have hfl:((((outP a est[n]).take m).filter fun x=>x.Event==e).map (·.To)).length≤131072:=by
      rw [List.length_map];exact Nat.le_trans (List.length_filter_le _ _) (by rw [List.length_take];omega)
     by_cases hx:(outP a est[n])[m].Event=e
     ·rw [if_pos (by simp [hx]),Qby (by rw [List.length_append];simp only [List.length_cons,List.length_nil];unfold lim;omega)];simp only [Option.bind_some];rw [Qy (by omega)];refine ih _ ?_;rw [List.take_succ_eq_append_getElem hm,List.filter_append,List.map_append,List.append_assoc];simp [hx]
     ·rw [if_neg (by simp [hx])];simp only [Option.bind_some];rw [Qy (by omega)];refine ih _ ?_;rw [List.take_succ_eq_append_getElem hm,List.filter_append,List.map_append];simp [hx]
    ·rintro k l rfl;dsimp only;rw [if_neg (by omega),List.take_length]
   ·rw [Qy (by omega)];refine ih _ ?_;rw [List.take_succ_eq_append_getElem hn];simp only [Qp5,List.flatMap_append,List.flatMap_cons,List.flatMap_nil,List.append_nil]
  ·rintro k l rfl;dsimp only;rw [if_neg (by omega),List.take_length]
 ·rw [show (obsP a onto).erased_=Qif a onto from rfl,Qbbw h (Q4f h) (by unfold big;omega) (Q50 h onto)]
  rfl
theorem Qbhy {a:Qa} (h:Right a) (onto:List Int):Qdp (obsP a onto)=some (Qvy a onto):=by
 have hst:=h.st;unfold Qdp Q4;have hlen:((obsP a onto).out_.length:Int)=a.zH:=by show ((Q14 a).length:Int)=_;rw [Qvx];omega
 rw [hlen];unfold Qvy;by_cases h0:a.zH=0
 ·rw [if_pos (by simp [h0]),if_pos h0]
 ·rw [if_neg (by simp [h0]),if_neg h0,show (obsP a onto).erased_=Qif a onto from rfl,Qbbw h (fun s hs=>by simp at hs;subst hs;omega) (by unfold big;simp) (Q50 h onto)]
  rfl
theorem Q4g {a:Qa} (h:Right a) {onto obs:List Int} (hl:obs.length<big):Qdn (obsP a onto) obs=some (obs.all fun x=>decide (x∈Qqe a onto)):=by
 have hk:=Qbbz h onto;unfold Qdn Q2;rw [Q38 (p:=fun x=>!decide (x∈Qqe a onto)) (fun x=>by
  unfold Qf4 Qbv;rw [show (obsP a onto).kept_=Qqe a onto from rfl,Qjy (by unfold big;omega)];rfl) hl]
 simp only [Option.bind_some];congr 1;rw [List.not_any_eq_all_not];simp
theorem Q85 {l:List Int} {n:Int} (hl:l.length<big):Qjs l n=some (Qgq n none l):=Qym hl
theorem Qbf1 {a:Qa} (h:small a) {ev:List Int} (hl:ev.length<big):Qew a ev=some (if Qtn a=0 then Qgq 32 none ev else Qtn a):=by
 unfold Qew Qbj;rw [Qbbr h];simp only [Option.bind_some];by_cases h0:Qtn a=0
 ·rw [if_neg (by simp [h0]),if_pos h0,Q85 hl];rfl
 ·rw [if_pos (by simp [h0]),if_neg h0]
theorem Q1v {a:Qa} (h:Right a) {ev:List Int} (hl:ev.length<big):Qew a ev=some (Qgq 32 none ev):=by
 rw [Qbf1 h.small.1 hl,if_pos (Q8v.2 h)]
structure EvSet (l:List Int):Prop where
 rg:∀ x∈l,0≤x∧x<32
 so:l.Pairwise (· < ·)
theorem EvSet.err {l:List Int} (h:EvSet l):Qgq 32 none l=0:=Qjz.2 ⟨h.rg,h.so,fun y hy=>by cases hy⟩
theorem EvSet.len {l:List Int} (h:EvSet l):l.length≤32:=by have:=Qgk (a:=0) (b:=32) h.so h.rg;omega
theorem Evs.set {l:List Int} (h:Evs l):EvSet l:=⟨fun x hx=>by have:=h.rg x hx;omega,h.so⟩
theorem Q86 {l:List Int} {N:Nat} (hn:l.Nodup) (hr:∀ x∈l,0≤x∧x<N):l.length≤N:=by
 obtain ⟨h1,h2⟩:=Q80 hn;have:=Qgk (a:=0) (b:=N) h1 fun x hx=>hr x ((h2 x).1 hx);rw [Qov] at this;omega
end Go.Abs
end
section
namespace Go.Abs
open Go
theorem Qyq {X R S:Type} {F:(X→Option R)→X→Option R} (I:S→X→Prop) (m:S→Nat) (Q:S→Option R→Prop)
  (step:∀ (k:X→Option R) (s:S) (x:X),I s x→(∀ s' y,I s' y→m s'<m s→Q s' (k y))→Q s (F k x)):∀ (fuel:Nat) (s:S) (x:X),I s x→m s<fuel→Q s (Qb5 F fuel x)
 | 0,_,_,_,h=>absurd h (Nat.not_lt_zero _)
 | fuel+1,s,x,hi,h=>step _ s x hi fun s' y hy hm=>Qyq I m Q step fuel s' y hy (by omega)
theorem Qvz {κ β:Type} [DecidableEq κ] {v:β} {k k' : κ}:∀ {m:List (κ×β)},hasM (setM m k v) k'=(decide (k'=k)||hasM m k')
 | []=>by simp only [setM,hasM,List.any_cons,List.any_nil];rw [Bool.eq_iff_iff];simp
 | (q,w)::m=>by
  have ih:=Qvz (v:=v) (k:=k) (k':=k') (m:=m);simp only [setM];by_cases h:k=q
  ·subst h;simp only [beq_self_eq_true,if_true,Qrm];rw [Bool.eq_iff_iff];simp
  ·have:(k==q)=false:=by simp [h]
   simp only [this,Bool.false_eq_true,if_false,Qrm];rw [ih];cases (k'==q)<;>cases decide (k'=k)<;>rfl
theorem Qv0 {κ β:Type} [DecidableEq κ] {z v:β} {k k' : κ}:∀ {m:List (κ×β)},getM (setM m k v) k' z=if k'=k then v else getM m k' z
 | []=>by
  simp only [setM,getM];by_cases h:k'=k
  ·subst h;simp
  ·have:(k'==k)=false:=by simp [h]
   simp [this,h]
 | (q,w)::m=>by
  have ih:=Qv0 (z:=z) (v:=v) (k:=k) (k':=k') (m:=m);simp only [setM];by_cases h:k=q
  ·subst h;simp only [beq_self_eq_true,if_true,getM];by_cases h2:k'=k
   ·subst h2;simp
   ·have:(k'==k)=false:=by simp [h2]
    simp [this,h2]
  ·have e:(k==q)=false:=by simp [h]
   simp only [e,Bool.false_eq_true,if_false,getM];by_cases h2:k'=q
   ·subst h2;have:¬ k'=k:=fun e=>h e.symm;simp [this]
   ·have:(k'==q)=false:=by simp [h2]
    simp only [this,Bool.false_eq_true,if_false,ih]
structure Qm where
 state_:Int
 done_:Int
 word_:List Int
 deriving DecidableEq
def Qe0 (z:Qm):Qk:=⟨z.state_,z.done_⟩
def Qyr (onto obs:List Int) (done e:Int):Option Int:=if e∈onto then (if done=obs.length∨getO obs done≠some e then none else some (done+1)) else some done
def addN (onto obs:List Int) (x:Qm) (L:List Qm) (y:Qe):List Qm :=
 match Qyr onto obs x.done_ y.Event with
 | none=>L
 | some d=>if (L.any fun z=>decide (Qe0 z=⟨y.To,d⟩)) then L else L++[⟨y.To,d,x.word_++[y.Event]⟩]
def Q4h (a:Qa) (obs:List Int) (marked:Bool) (x:Qm):Bool:=decide (x.done_=obs.length)&&(!marked||decide (x.state_∈a.zF))
def Qn2 (a:Qa) (onto obs:List Int) (marked:Bool):Nat→Nat→List Qm→List Int×Bool
 | 0,_,_=>([],false)
 | f+1,i,L=>match L[i]? with
  | none=>([],false)
  | some x=>if Q4h a obs marked x then (x.word_,true) else Qn2 a onto obs marked f (i+1) ((outP a x.state_).foldl (addN onto obs x) L)
structure Nodes (a:Qa) (n:Nat) (L:List Qm):Prop where
 rg:∀ z∈L,(0≤z.state_∧z.state_<a.zH)∧0≤z.done_∧z.done_≤n
 nd:(L.map Qe0).Nodup
 wl:∀ (j:Nat) z,L[j]? = some z→z.word_.length≤j
theorem Nodes.len {a:Qa} {n:Nat} {L:List Qm} (h:Nodes a n L):L.length≤a.zH.toNat*(n+1):=by
 have h1:((L.map Qe0).map fun p=>p.state_*((n:Int)+1)+p.done_).Nodup:=by
  refine List.Pairwise.map _ (S:=fun a b=>a≠b) (fun p q h=>h) ?_;refine List.Pairwise.imp_of_mem (fun {p q} hp hq hne=>?_) h.nd;obtain ⟨z,hz,rfl⟩:=List.mem_map.1 hp;obtain ⟨y,hy,rfl⟩:=List.mem_map.1 hq;have hz:=h.rg z hz;have hy:=h.rg y hy;intro e;refine hne ?_;simp only [Qe0] at e ⊢;have e1:z.state_=y.state_:=by
   rcases Int.lt_trichotomy z.state_ y.state_ with hlt|heq|hgt
   ·exfalso;have:(z.state_+1)*((n:Int)+1)≤y.state_*((n:Int)+1):=Int.mul_le_mul_of_nonneg_right (by omega) (by omega);rw [Int.add_mul] at this;omega
   ·exact heq
   ·exfalso;have:(y.state_+1)*((n:Int)+1)≤z.state_*((n:Int)+1):=Int.mul_le_mul_of_nonneg_right (by omega) (by omega);rw [Int.add_mul] at this;omega
  rw [e1] at e ⊢;have:z.done_=y.done_:=by omega
  rw [this]
 have:=Q86 (N:=a.zH.toNat*(n+1)) h1 fun x hx=>by
  obtain ⟨p,hp,rfl⟩:=List.mem_map.1 hx;obtain ⟨z,hz,rfl⟩:=List.mem_map.1 hp;have hz:=h.rg z hz;simp only [Qe0];have h0:0≤z.state_*((n:Int)+1):=Int.mul_nonneg hz.1.1 (by omega);have h2:(z.state_+1)*((n:Int)+1)≤a.zH*((n:Int)+1):=Int.mul_le_mul_of_nonneg_right (by omega) (by omega);rw [Int.add_mul] at h2;have e:((a.zH.toNat*(n+1):Nat):Int)=a.zH*((n:Int)+1):=by
   rw [Int.natCast_mul,Int.natCast_add,Int.natCast_one,Int.toNat_of_nonneg (by omega)]
  rw [e];omega
 simpa using this
structure KW (L:List Qm) (c:List (Qk×List Int)):Prop where
 has:∀ p,hasM c p=L.any fun z=>decide (Qe0 z=p)
 get:∀ z∈L,getM c (Qe0 z) []=z.word_
theorem KW.add {a:Qa} {n:Nat} {L:List Qm} {c:List (Qk×List Int)} (h:KW L c) (z:Qm) (hz:(L.any fun y=>decide (Qe0 y=Qe0 z))=false):KW (L++[z]) (setM c (Qe0 z) z.word_):=by
 refine ⟨fun p=>?_,fun y hy=>?_⟩
 ·rw [Qvz,h.has,List.any_append];simp only [List.any_cons,List.any_nil,Bool.or_false];rw [Bool.or_comm];congr 1;exact decide_eq_decide.2 ⟨fun e=>e.symm,fun e=>e.symm⟩
 ·rw [Qv0];rw [List.mem_append,List.mem_singleton] at hy;rcases hy with hy|rfl
  ·have:¬ Qe0 y=Qe0 z:=fun e=>by
    have:=List.any_eq_false.1 hz y hy;simp [e] at this
   rw [if_neg this,h.get y hy]
  ·rw [if_pos rfl]
theorem Nodes.add {a:Qa} {n:Nat} {L:List Qm} (h:Nodes a n L) {onto obs:List Int} (ho:obs.length=n) {x:Qm} {i:Nat} (hx:L[i]? = some x) {y:Qe} (hy:0≤y.To∧y.To<a.zH):Nodes a n (addN onto obs x L y)∧L <+: addN onto obs x L y:=by
 unfold addN;cases hd:Qyr onto obs x.done_ y.Event with
 | none=>exact ⟨h,List.prefix_refl L⟩
 | some d =>
  dsimp only;split
  ·exact ⟨h,List.prefix_refl L⟩
  ·rename_i hn;have hn:(L.any fun z=>decide (Qe0 z=⟨y.To,d⟩))=false:=by simpa using hn
   have hxm:=h.rg x (List.mem_of_getElem? hx);have hdr:0≤d∧d≤n:=by
    unfold Qyr at hd;split at hd
    ·split at hd
     ·cases hd
     ·rename_i hc;cases hd;have:¬ x.done_=obs.length:=fun e=>hc (.inl e);omega
    ·cases hd;exact hxm.2
   refine ⟨⟨fun z hz=>?_,?_,fun j z hz=>?_⟩,List.prefix_append L _⟩
   ·rcases List.mem_append.1 hz with hz|hz
    ·exact h.rg z hz
    ·simp at hz;subst hz;exact ⟨hy,hdr⟩
   ·rw [List.map_append,List.nodup_append];refine ⟨h.nd,by simp,fun p hp q hq e=>?_⟩;simp at hq;subst hq;subst e;obtain ⟨z,hz,hpz⟩:=List.mem_map.1 hp;have:=List.any_eq_false.1 hn z hz;rw [hpz] at this;simp [Qe0] at this
   ·rw [List.getElem?_append] at hz;split at hz
    ·exact h.wl j z hz
    ·rename_i hlt;have hi:=(List.getElem?_eq_some_iff.1 hx).1;have hwl:=h.wl i x hx;have:j-L.length=0:=by
      have:=(List.getElem?_eq_some_iff.1 hz).1;simp at this;omega
     rw [this] at hz;simp at hz;subst hz;simp only [List.length_append,List.length_cons,List.length_nil];omega
theorem Nodes.fold {a:Qa} {n:Nat} {onto obs:List Int} (ho:obs.length=n) {x:Qm} {i:Nat}:∀ {l:List Qe} {L:List Qm},Nodes a n L→L[i]? = some x→(∀ y∈l,0≤y.To∧y.To<a.zH)→Nodes a n (l.foldl (addN onto obs x) L)∧L <+: l.foldl (addN onto obs x) L
 | [],L,h,_,_=>⟨h,List.prefix_refl L⟩
 | y::l,L,h,hx,hl=>by
  obtain ⟨h1,h2⟩:=h.add (onto:=onto) ho hx (hl y (by simp));obtain ⟨k1,k2⟩:=Nodes.fold (onto:=onto) (l:=l) ho h1 (Qo1 h2 hx) fun z hz=>hl z (by simp [hz]);exact ⟨k1,h2.trans k2⟩
theorem Qbf2 {l:List Int} (hl:l.length≤lim):Qcb l=some l:=by
 unfold Qcb Qbe;cases l with
 | nil=>rfl
 | cons x l =>
  simp only [nilO,Bool.false_eq_true,if_false];rw [Qby (by simpa using hl)]
  rfl
end Go.Abs
end
section
namespace Go.Abs
open Go
theorem Qbc6 {a:Qa} {onto:List Int} {e:Int} (he:e∈a.zD):decide (e∈Qqe a onto)=decide (e∈onto):=by
 apply decide_eq_decide.2;unfold Qqe;rw [List.mem_filter];simp [he]
def Qhh (a:Qa) (obs:List Int):Nat:=a.zH.toNat*(obs.length+1)
theorem Q87 {a:Qa} (h:Right a) {obs:List Int} (ho:obs.length≤1000):Qhh a obs≤4100096:=by
 unfold Qhh;have:=h.st
 calc a.zH.toNat*(obs.length+1)≤4096*1001:=Nat.mul_le_mul (by omega) (by omega)
  _≤4100096:=by omega
theorem Qbhz {α:Type} {l:List α} {i:Int} (h:0≤i∧i<l.length):∃ x,getO l i=some x:=by
 refine ⟨l[i.toNat]'(by omega),?_⟩;rw [Qey];exact ⟨h.1,List.getElem?_eq_getElem (by omega)⟩
theorem Qbc7 {obs:List Int} {d e:Int} (hd:0≤d∧d≤obs.length):(if (d==(obs.length:Int)) then some true else ((getO obs d).bind fun x41=>some (x41 != e)))=some (decide (d=obs.length∨getO obs d≠some e)):=by
 by_cases h:d=obs.length
 ·simp [h]
 ·obtain ⟨x,hx⟩:=Qbhz (l:=obs) (i:=d) ⟨hd.1,by omega⟩;rw [if_neg (by simpa using h),hx];simp only [Option.bind_some];congr 1;rw [Bool.eq_iff_iff];simp [h]
theorem Qbki {a:Qa} (h:Right a) {onto obs:List Int} (hon:EvSet onto) (ho:obs.length≤1000) (marked:Bool) (h0:0<a.zH) (hk:(obs.all fun x=>decide (x∈Qqe a onto))=true) :
  Qj6 a onto obs marked=some ((Qn2 a onto obs marked (Qhh a obs+1) 0 [⟨0,0,[]⟩]).1,(Qn2 a onto obs marked (Qhh a obs+1) 0 [⟨0,0,[]⟩]).2,0):=by
 have hsm:=h.small;have hNl:=Q87 h ho;have hkl:=Qbbz h onto;have hob:onto.length<big:=by have:=hon.len;unfold big;omega
 have hmb:a.zF.length<big:=by unfold big;omega
 unfold Qj6 Qeh;rw [Q1v h hob,hon.err];simp only [Option.bind_some];rw [if_neg (by decide),Q5y h hob];simp only [Option.bind_some];rw [Q4g h (by unfold big;omega),hk];simp only [Option.bind_some,if_true];rw [if_neg (by simp;omega)];refine Qyq (S:=Nat×List Qm) (fun s x=>Nodes a obs.length s.2∧s.1≤s.2.length∧x.1=(s.2.drop s.1).map Qe0∧KW s.2 x.2) (fun s=>Qhh a obs+1-s.1)
  (fun s r=>r=some ((Qn2 a onto obs marked (Qhh a obs+1-s.1) s.1 s.2).1,(Qn2 a onto obs marked (Qhh a obs+1-s.1) s.1 s.2).2,0)) ?_ Qbb (0,[⟨0,0,[]⟩]) _ ?_ ?_
 ·rintro k ⟨i,L⟩ ⟨q,c⟩ ⟨hN,hi,rfl,hK⟩ ih;have hNlen:L.length≤Qhh a obs:=hN.len;dsimp only at hi hK ⊢;by_cases hlt:i<L.length
  ·have hd:L.drop i=L[i]::L.drop (i+1):=List.drop_eq_getElem_cons hlt;have hxg:L[i]? = some L[i]:=List.getElem?_eq_getElem hlt;generalize L[i]=x at hd hxg;have hxm:=hN.rg x (List.mem_of_getElem? hxg);have hwl:=hN.wl i x hxg;have hq:((L.drop i).map Qe0).length=L.length-i:=by rw [List.length_map,List.length_drop]
   rw [if_pos (by rw [hq];omega)];have hg0:getO ((L.drop i).map Qe0) 0=some (Qe0 x):=by rw [hd];rfl
   rw [hg0];simp only [Option.bind_some];rw [show Qhh a obs+1-i=(Qhh a obs-i)+1 from by omega];simp only [Qn2,hxg];have hgoal:(if ((Qe0 x).done_==(obs.length:Int)) then (if marked then ((Q5 a.zF (Qe0 x).state_).bind fun x23=>some x23) else some true) else some false)=some (Q4h a obs marked x):=by
    simp only [Qe0,Q4h];rw [Qjy hmb];by_cases e1:x.done_=(obs.length:Int)<;>cases marked<;>simp [e1]
   rw [hgoal];simp only [Option.bind_some];by_cases hgp:Q4h a obs marked x=true
   ·rw [if_pos hgp,if_pos hgp,hK.get x (List.mem_of_getElem? hxg)]
   ·rw [if_neg hgp,if_neg hgp,show getO (obsP a onto).out_ (Qe0 x).state_=some (outP a x.state_) from Q2g hxm.1];simp only [Option.bind_some];have hto:∀ y∈outP a x.state_,(0≤y.To∧y.To<a.zH)∧y.Event∈a.zD:=fun y hy=>by
     have:=h.ed0 y (List.mem_filter.1 hy).1;exact ⟨this.2.2.1 |> fun h=>⟨h,this.2.2.2.1⟩,this.2.2.2.2⟩
    have hol:(outP a x.state_).length≤131072:=Nat.le_trans (List.length_filter_le _ _) hsm.2.2.2;refine Qyq (S:=Nat×List Qm) (fun s y=>Nodes a obs.length s.2∧L <+: s.2∧s.1≤(outP a x.state_).length∧KW s.2 y.2.2∧y.1=(s.2.drop i).map Qe0∧y.2.1=(s.1:Int)∧((outP a x.state_).drop s.1).foldl (addN onto obs x) s.2=(outP a x.state_).foldl (addN onto obs x) L) (fun s=>(outP a x.state_).length-s.1)
     (fun s r=>r=some ((Qn2 a onto obs marked (Qhh a obs-i) (i+1) ((outP a x.state_).foldl (addN onto obs x) L)).1,(Qn2 a onto obs marked (Qhh a obs-i) (i+1) ((outP a x.state_).foldl (addN onto obs x) L)).2,0)) ?_ Qbb (0,L) _ ⟨hN,List.prefix_refl L,Nat.zero_le _,hK,rfl,rfl,rfl⟩ (by simp only;unfold Qbb;omega)
    ·rintro k2 ⟨n,M⟩ ⟨q,_,c⟩ ⟨hM,hLM,hn,hKM,rfl,rfl,hfold⟩ ih2;have hMlen:M.length≤Qhh a obs:=hM.len;have hxM:=Qo1 hLM hxg;have hiM:i<M.length:=(List.getElem?_eq_some_iff.1 hxM).1;dsimp only at hn hKM hfold ⊢;by_cases hln:n<(outP a x.state_).length
     ·rw [if_pos (by omega),Qbf hln];simp only [Option.bind_some];rw [List.drop_eq_getElem_cons hln,List.foldl_cons] at hfold;have hy:=hto _ (List.getElem_mem hln);generalize (outP a x.state_)[n]=y at hy hfold ⊢;rw [Qjy (by unfold big;rw [show (obsP a onto).kept_=Qqe a onto from rfl];omega),show (obsP a onto).kept_=Qqe a onto from rfl,Qbc6 hy.2];simp only [Option.bind_some];rw [Qy (by omega)];have hJ:∀ d,Qyr onto obs x.done_ y.Event=some d →
        ((if (hasM c (Qk.mk y.To d)) then some ((M.drop i).map Qe0,c,y.From,y.Event,y.To,y.To,d) else ((Qcb (getM c (Qe0 x) [])).bind fun x46=>((appO x46 [y.Event]).bind fun x47=>((appO ((M.drop i).map Qe0) [(Qk.mk y.To d)]).bind fun x49=>some (x49,(setM c (Qk.mk y.To d) x47),y.From,y.Event,y.To,y.To,d))))).bind fun ((l52,c53,c54,c55,c56,q57,q58):(List Qk)×(List (Qk×(List Int)))×Int×Int×Int×Int×Int)=>k2 (l52,((n+1:Nat):Int),c53)) =
        some ((Qn2 a onto obs marked (Qhh a obs-i) (i+1) ((outP a x.state_).foldl (addN onto obs x) L)).1,(Qn2 a onto obs marked (Qhh a obs-i) (i+1) ((outP a x.state_).foldl (addN onto obs x) L)).2,0):=by
       intro d hdd;obtain ⟨hA1,hA2⟩:=hM.add (onto:=onto) rfl hxM hy.1;have hadd:addN onto obs x M y=if (M.any fun z=>decide (Qe0 z=⟨y.To,d⟩)) then M else M++[⟨y.To,d,x.word_++[y.Event]⟩]:=by
        unfold addN;rw [hdd]
       rw [hKM.has];by_cases hany:(M.any fun z=>decide (Qe0 z=⟨y.To,d⟩))=true
       ·rw [if_pos hany] at hadd;rw [if_pos hany];simp only [Option.bind_some];rw [hadd] at hfold;exact ih2 (n+1,M) _ ⟨hM,hLM,by simp only;omega,hKM,rfl,rfl,hfold⟩ (by simp only;omega)
       ·rw [if_neg hany] at hadd;rw [if_neg hany,hKM.get x (List.mem_of_getElem? hxM),Qbf2 (by unfold lim;omega)];simp only [Option.bind_some];rw [Qby (by simp only [List.length_cons,List.length_nil];unfold lim;omega)];simp only [Option.bind_some];rw [Qby (by rw [List.length_map,List.length_drop];simp only [List.length_cons,List.length_nil];unfold lim;omega)];simp only [Option.bind_some];rw [hadd] at hA1 hA2 hfold;have hKA:=hKM.add (a:=a) (n:=obs.length) ⟨y.To,d,x.word_++[y.Event]⟩ (by simpa [Qe0] using hany);refine ih2 (n+1,M++[⟨y.To,d,x.word_++[y.Event]⟩]) _ ⟨hA1,hLM.trans hA2,by simp only;omega,hKA,?_,rfl,hfold⟩ (by simp only;omega);simp only [List.drop_append_of_le_length (Nat.le_of_lt hiM),List.map_append,List.map_cons,List.map_nil]
        rfl
      unfold letJ;by_cases hev:y.Event∈onto
      ·simp only [hev,decide_true,if_true];have htest:=Qbc7 (obs:=obs) (d:=x.done_) (e:=y.Event) ⟨hxm.2.1,hxm.2.2⟩;rw [show (Qe0 x).done_=x.done_ from rfl,htest];simp only [Option.bind_some];by_cases hc:x.done_=obs.length∨getO obs x.done_≠some y.Event
       ·rw [if_pos (by simpa using hc)];simp only [Option.bind_some];have hadd:addN onto obs x M y=M:=by
         unfold addN Qyr;rw [if_pos hev,if_pos hc]
        rw [hadd] at hfold;exact ih2 (n+1,M) _ ⟨hM,hLM,by simp only;omega,hKM,rfl,rfl,hfold⟩ (by simp only;omega)
       ·rw [if_neg (by simpa using hc),Qlb (by omega) (by omega)];exact hJ (x.done_+1) (by unfold Qyr;rw [if_pos hev,if_neg hc])
      ·simp only [hev,decide_false,Bool.false_eq_true,if_false];exact hJ x.done_ (by unfold Qyr;rw [if_neg hev])
     ·rw [if_neg (by omega)];have hdn:(outP a x.state_).drop n=[]:=List.drop_eq_nil_of_le (by omega);rw [hdn] at hfold;have hfold:M=(outP a x.state_).foldl (addN onto obs x) L:=hfold;subst hfold;have hdd:((((outP a x.state_).foldl (addN onto obs x) L).drop i).map Qe0)=Qe0 x::(((outP a x.state_).foldl (addN onto obs x) L).drop (i+1)).map Qe0:=by
       rw [List.drop_eq_getElem_cons hiM];have:((outP a x.state_).foldl (addN onto obs x) L)[i]=x:=by
        rw [List.getElem?_eq_getElem hiM] at hxM;exact Option.some.inj hxM
       rw [List.map_cons,this]
      rw [hdd];unfold slcO;rw [if_pos ⟨by decide,by simp only [List.length_cons];omega,Int.le_refl _⟩];simp only [Option.bind_some];rw [show Qhh a obs-i=Qhh a obs+1-(i+1) from by omega];refine ih (i+1,_) _ ⟨hM,by simp only;omega,?_,hKM⟩ (by simp only;omega);simp only [Int.toNat_natCast,List.take_length]
      rfl
  ·rw [if_neg (by rw [List.length_map,List.length_drop];omega)];have:i=L.length:=by omega
   rw [show Qhh a obs+1-i=(Qhh a obs-i)+1 from by omega];simp only [Qn2];rw [List.getElem?_eq_none (by omega)]
 ·refine ⟨⟨fun z hz=>?_,by simp,fun j z hz=>?_⟩,Nat.zero_le _,rfl,?_⟩
  ·simp at hz;subst hz;simp only;omega
  ·have hj:=(List.getElem?_eq_some_iff.1 hz).1;simp at hj;subst hj;simp at hz;subst hz;simp
  ·refine ⟨fun p=>?_,fun z hz=>?_⟩
   ·rw [Qvz];have e:hasM ([]:List (Qk×List Int)) p=false:=rfl;rw [e,Bool.or_false];simp only [List.any_cons,List.any_nil,Bool.or_false];exact decide_eq_decide.2 ⟨fun e=>e.symm,fun e=>e.symm⟩
   ·simp at hz;subst hz;rw [Qv0];simp [Qe0]
 ·simp only;unfold Qbb;omega
end Go.Abs
end
section
namespace Go.Abs
open Go
theorem bytes_beq (a b:ByteArray):(a==b)=decide (a=b):=by
 cases a;cases b;rw [Bool.eq_iff_iff];simp only [decide_eq_true_eq,ByteArray.mk.injEq];exact beq_iff_eq (α:=Array UInt8)
theorem Qtv {x y:Int} (hx:0≤x∧x<256) (hy:0≤y∧y<256) (h:x.toNat.toUInt8=y.toNat.toUInt8):x=y:=by
 have:=congrArg UInt8.toNat h;simp only [Nat.toUInt8,UInt8.toNat_ofNat'] at this;omega
theorem Q1w {r:Int} (h0:1≤r) (h1:r≤50000) :
  (r≤127∧Lib.encodeRuneZ r=[r])∨(128≤r∧r≤2047∧Lib.encodeRuneZ r=[192+r / 64,128+r % 64])∨(2048≤r∧Lib.encodeRuneZ r=[224+r / 4096,128+r / 64 % 64,128+r % 64]):=by
 by_cases h2:r≤127
 ·exact .inl ⟨h2,Lib.encodeRuneZ_one (by omega) h2⟩
 ·by_cases h3:r≤2047
  ·exact .inr (.inl ⟨by omega,h3,Lib.encodeRuneZ_two (by omega) h3⟩)
  ·exact .inr (.inr ⟨by omega,Lib.encodeRuneZ_three (.inl ⟨by omega,by omega⟩)⟩)
theorem Qbc8 {r q:Int} (hr:1≤r∧r≤50000) (hq:1≤q∧q≤50000) {s t:List UInt8} (h:Lib.encodeRune r++s=Lib.encodeRune q++t):r=q∧s=t:=by
 unfold Lib.encodeRune at h;rcases Q1w hr.1 hr.2 with ⟨a1,a2⟩|⟨a0,a1,a2⟩|⟨a1,a2⟩<;>rcases Q1w hq.1 hq.2 with ⟨b1,b2⟩|⟨b0,b1,b2⟩|⟨b1,b2⟩<;>rw [a2,b2] at h <;>
  simp only [List.map_cons,List.map_nil,List.cons_append,List.nil_append,List.cons.injEq] at h
 ·exact ⟨Qtv (by omega) (by omega) h.1,h.2⟩
 ·have:=Qtv (by omega) (by omega) h.1;omega
 ·have:=Qtv (by omega) (by omega) h.1;omega
 ·have:=Qtv (by omega) (by omega) h.1;omega
 ·have e1:=Qtv (by omega) (by omega) h.1;have e2:=Qtv (by omega) (by omega) h.2.1;exact ⟨by omega,h.2.2⟩
 ·have:=Qtv (by omega) (by omega) h.1;omega
 ·have:=Qtv (by omega) (by omega) h.1;omega
 ·have:=Qtv (by omega) (by omega) h.1;omega
 ·have e1:=Qtv (by omega) (by omega) h.1;have e2:=Qtv (by omega) (by omega) h.2.1;have e3:=Qtv (by omega) (by omega) h.2.2.1;exact ⟨by omega,h.2.2.2⟩
theorem Q88 (r:Int):Lib.encodeRune r≠[]:=by
 unfold Lib.encodeRune Lib.encodeRuneZ;split
 ·simp
 ·split
  ·simp
  ·split
   ·simp
   ·split<;>simp
theorem Qbb0:∀ {l m:List Int},(∀ x∈l,0≤x∧x<50000)→(∀ x∈m,0≤x∧x<50000)→(l.flatMap fun x=>Lib.encodeRune (x+1))=(m.flatMap fun x=>Lib.encodeRune (x+1))→l=m
 | [],[],_,_,_=>rfl
 | [],y::m,_,_,h=>by
  simp only [List.flatMap_nil,List.flatMap_cons] at h;exact absurd (List.append_eq_nil_iff.1 h.symm).1 (Q88 _)
 | x::l,[],_,_,h=>by
  simp only [List.flatMap_nil,List.flatMap_cons] at h;exact absurd (List.append_eq_nil_iff.1 h).1 (Q88 _)
 | x::l,y::m,hl,hm,h=>by
  simp only [List.flatMap_cons] at h;have hx:=hl x (by simp);have hy:=hm y (by simp);obtain ⟨h1,h2⟩:=Qbc8 ⟨by omega,by omega⟩ ⟨by omega,by omega⟩ h;rw [Qbb0 (fun z hz=>hl z (by simp [hz])) (fun z hz=>hm z (by simp [hz])) h2,show x=y from by omega]
theorem Q61 {l m:List Int} (hl:∀ x∈l,0≤x∧x<50000) (hm:∀ x∈m,0≤x∧x<50000) (h:keyB l=keyB m):l=m:=by
 unfold keyB at h;have h:=congrArg (fun b:ByteArray=>b.data.toList) h;simp only [List.toList_toArray] at h;exact Qbb0 hl hm h
structure KM (S:List (List Int)) (c:List (ByteArray×Int)):Prop where
 has:∀ n,(∀ x∈n,0≤x∧x<50000)→hasM c (keyB n)=decide (n∈S)
 get:∀ n∈S,getM c (keyB n) 0=(S.idxOf n:Int)
 rg:∀ n∈S,∀ x∈n,0≤x∧x<50000
theorem Q4i {β:Type} {v:β} {k k' : ByteArray}:∀ {m:List (ByteArray×β)},hasM (setM m k v) k'=(decide (k'=k)||hasM m k')
 | []=>by simp [setM,hasM,bytes_beq]
 | (q,w)::m=>by
  have ih:=Q4i (v:=v) (k:=k) (k':=k') (m:=m);simp only [setM];by_cases h:k=q
  ·subst h;simp only [bytes_beq,decide_true,if_true,Qrm];by_cases h2:k'=k<;>simp [h2,bytes_beq]
  ·simp only [bytes_beq,h,decide_false,Bool.false_eq_true,if_false,Qrm];rw [ih];cases decide (k'=q)<;>cases decide (k'=k)<;>rfl
theorem Qz2 {β:Type} {z v:β} {k k' : ByteArray}:∀ {m:List (ByteArray×β)},getM (setM m k v) k' z=if k'=k then v else getM m k' z
 | []=>by simp [setM,getM,bytes_beq]
 | (q,w)::m=>by
  have ih:=Qz2 (z:=z) (v:=v) (k:=k) (k':=k') (m:=m);simp only [setM];by_cases h:k=q
  ·subst h;simp only [bytes_beq,decide_true,if_true,getM];by_cases h2:k'=k
   ·subst h2;simp
   ·simp [h2]
  ·simp only [bytes_beq,h,decide_false,Bool.false_eq_true,if_false,getM];by_cases h2:k'=q
   ·subst h2;have:¬ k'=k:=fun e=>h e.symm;simp [this]
   ·simp only [h2,decide_false,Bool.false_eq_true,if_false,ih]
theorem KM.first {n:List Int} (hn:∀ x∈n,0≤x∧x<50000):KM [n] (setM ([]:List (ByteArray×Int)) (keyB n) 0):=by
 refine ⟨fun m hm=>?_,fun m hm=>?_,fun m hm=>?_⟩
 ·rw [Q4i];have:hasM ([]:List (ByteArray×Int)) (keyB m)=false:=rfl;rw [this,Bool.or_false];apply decide_eq_decide.2;rw [List.mem_singleton];exact ⟨fun h=>Q61 hm hn h,fun h=>by rw [h]⟩
 ·rw [List.mem_singleton] at hm;subst hm;rw [Qz2,if_pos rfl];simp
 ·rw [List.mem_singleton] at hm;subst hm;exact hn
theorem KM.add {S:List (List Int)} {c:List (ByteArray×Int)} (h:KM S c) {n:List Int} (hn:∀ x∈n,0≤x∧x<50000) (hm:n∉S):KM (S++[n]) (setM c (keyB n) (S.length:Int)):=by
 refine ⟨fun m hm'=>?_,fun m hm'=>?_,fun m hm'=>?_⟩
 ·rw [Q4i,h.has m hm',← Bool.decide_or];apply decide_eq_decide.2;rw [List.mem_append,List.mem_singleton];constructor
  ·rintro (e|e)
   ·exact .inr (Q61 hm' hn e)
   ·exact .inl e
  ·rintro (e|e)
   ·exact .inr e
   ·exact .inl (by rw [e])
 ·rw [Qz2];rw [List.mem_append,List.mem_singleton] at hm';rcases hm' with hm'|rfl
  ·rw [if_neg (fun e=>hm (by rw [← Q61 (h.rg m hm') hn e];exact hm')),h.get m hm',List.idxOf_append,if_pos hm']
  ·rw [if_pos rfl,List.idxOf_append,if_neg hm];simp
 ·rw [List.mem_append,List.mem_singleton] at hm';rcases hm' with hm'|rfl
  ·exact h.rg m hm'
  ·exact hn
end Go.Abs
end
section
namespace Go.Abs
open Go
def insL (o:List (List Int)) (t:List Int):List (List Int):=if t∈o then o else o++[t]
noncomputable def Qbkj (a:Qa) (onto est:List Int) (l:List Int):List (Int×List Int):=l.filterMap fun x=>if Q1a a onto est x=[] then none else some (x,Q1a a onto est x)
def Qbf3 (S:List (List Int)) (row:List (Int×List Int)):List (List Int):=row.foldl (fun o p=>insL o p.2) S
theorem Qbh0 {o:List (List Int)} {t x:List Int}:x∈insL o t↔x∈o∨x=t:=by
 unfold insL;split
 ·rename_i h;exact ⟨.inl,fun e=>e.elim id fun e=>by rw [e];exact h⟩
 ·simp
theorem Qbc9 {o:List (List Int)} (h:o.Nodup) (t:List Int):(insL o t).Nodup:=by
 unfold insL;split
 ·exact h
 ·rename_i hn;rw [List.nodup_append];exact ⟨h,by simp,fun x hx y hy e=>by simp at hy;subst hy;subst e;exact hn hx⟩
theorem Q4j:∀ (row:List (Int×List Int)) {S:List (List Int)},S.Nodup→(Qbf3 S row).Nodup
 | [],S,h=>h
 | p::row,S,h=>Q4j row (Qbc9 h p.2)
theorem Q89:∀ (row:List (Int×List Int)) (S:List (List Int)) (x:List Int),x∈Qbf3 S row↔x∈S∨∃ p∈row,p.2=x
 | [],S,x=>by simp [Qbf3]
 | p::row,S,x=>by
  show x∈Qbf3 (insL S p.2) row↔_;rw [Q89 row,Qbh0];simp only [List.mem_cons,exists_eq_or_imp];constructor
  ·rintro ((h|h)|h)
   ·exact .inl h
   ·exact .inr (.inl h.symm)
   ·exact .inr (.inr h)
  ·rintro (h|h|h)
   ·exact .inl (.inl h)
   ·exact .inl (.inr h.symm)
   ·exact .inr h
theorem Qbf4 {a:Qa} {onto est l:List Int} {p:Int×List Int}:p∈Qbkj a onto est l↔p.1∈l∧p.2=Q1a a onto est p.1∧p.2≠[]:=by
 obtain ⟨x,n⟩:=p;simp only [Qbkj,List.mem_filterMap];constructor
 ·rintro ⟨y,hy,h⟩;split at h
  ·cases h
  ·rename_i hne;cases h;exact ⟨hy,rfl,hne⟩
 ·rintro ⟨h1,h2,h3⟩;refine ⟨x,h1,?_⟩;subst h2;rw [if_neg h3]
structure Ests (a:Qa) (S:List (List Int)):Prop where
 nd:S.Nodup
 ok:∀ s∈S,Sts a s∧s≠[]
theorem Ests.grow {a:Qa} {S:List (List Int)} (h:Ests a S) (onto est l:List Int):Ests a (Qbf3 S (Qbkj a onto est l)):=by
 refine ⟨Q4j _ h.nd,fun s hs=>?_⟩;rcases (Q89 _ _ _).1 hs with hs|⟨p,hp,rfl⟩
 ·exact h.ok s hs
 ·obtain ⟨_,h2,h3⟩:=Qbf4.1 hp;exact ⟨by rw [h2];exact Q4d _ _ _ _,h3⟩
theorem Qbh1 {a:Qa} (h:0<a.zH) (onto:List Int):Qvy a onto≠[]:=by
 unfold Qvy;rw [if_neg (by omega)];intro e;have:(0:Int)∈Qqv a [0] (Qif a onto):=Q08.2 ⟨by omega,.base (by simp)⟩;rw [e] at this;simp at this
theorem Ests.first {a:Qa} (h:0<a.zH) (onto:List Int):Ests a [Qvy a onto] :=
 ⟨by simp,fun s hs=>by simp at hs;subst hs;exact ⟨Q1b _ _,Qbh1 h onto⟩⟩
theorem Sts.lt {a:Qa} (h:Right a) {l:List Int} (hl:Sts a l):∀ x∈l,0≤x∧x<50000:=fun x hx=>by
 have:=hl.rg x hx;have:=h.st;omega
end Go.Abs
end
section
namespace Go.Abs
open Go
end Go.Abs
end
section
namespace Go.Abs
open Go
section
variable {a b:Qa} {φ:Int→Int} (ha:Right a) (hb:Right b) (h:Like a b φ)
include ha hb h
end
end Go.Abs
end
section
namespace Go.Abs
open Go
def Qblk (b:Qa) (onto:List Int):Prop:=∀ x∈b.zG,x.Event∉onto→x.To=x.From
section
variable {b:Qa} (hb:Right b) {onto:List Int} (hs:Qblk b onto)
include hb hs
end
end Go.Abs
end
section
namespace Go.Abs
open Go
section
variable {b:Qa} (hb:Right b) {onto:List Int} (hs:Qblk b onto)
include hb hs
end
end Go.Abs
end
section
namespace Go.Abs
open Go
end Go.Abs
end
section
namespace Go.Abs
open Go
theorem Q9a {a:Qa} {onto obs:List Int} {marked:Bool}:∀ (f i:Nat) (L:List Qm) (N:Nat),(∀ z∈L,0≤z.state_∧z.state_<a.zH)→Right a→Nodes a obs.length L→i≤L.length→(Qn2 a onto obs marked f i L).1.length≤Qhh a obs
 | 0,_,_,_,_,_,_,_=>Nat.zero_le _
 | f+1,i,L,N,hr,h,hN,hi=>by
  unfold Qn2;cases hg:L[i]? with
  | none=>exact Nat.zero_le _
  | some x =>
   dsimp only;have hlt:=(List.getElem?_eq_some_iff.1 hg).1;have hl:L.length≤Qhh a obs:=hN.len;split
   ·have:=hN.wl i x hg;simp only;omega
   ·obtain ⟨h1,h2⟩:=Nodes.fold (onto:=onto) (l:=outP a x.state_) rfl hN hg fun y hy=>by
     have:=h.ed0 y (List.mem_filter.1 hy).1;exact ⟨this.2.2.1,this.2.2.2.1⟩
    exact Q9a f (i+1) _ N (fun z hz=>(h1.rg z hz).1) h h1 (by have:=h2.length_le;omega)
theorem Qbad {a:Qa} (h0:0<a.zH) (n:Nat):Nodes a n [⟨0,0,[]⟩]:=by
 refine ⟨fun z hz=>?_,by simp,fun j z hz=>?_⟩
 ·simp at hz;subst hz;simp only;omega
 ·have hj:=(List.getElem?_eq_some_iff.1 hz).1;simp at hj;subst hj;simp at hz;subst hz;simp
end Go.Abs
end
section
namespace Go.Abs
open Go
set_option maxRecDepth 100000
set_option maxHeartbeats 4000000
theorem Qbda:Qjt=some true:=by kernel_rfl
end Go.Abs
end
section
namespace Go.Abs
open Go
theorem Q62 {l:List Int} {v:Int} (hs:l.Pairwise (· < ·)) (hl:l.length<big):Qfh l v=some (decide (v∈l)):=by
 unfold Qfh Qbd;obtain ⟨n,h⟩:=Qbfx (v:=v) hs hl;rw [h];rfl
abbrev Lab:=Qb
def bitE (ev:List Qc) (e:Int):Int:=match getO ev e with
 | some x=>if 0<x.Fault then 2 ^ (x.Fault-1).toNat else 0
 | none=>0
def toL (ev:List Qc) (x:Lab) (y:Qe):Lab:=⟨y.To,orI .i64 x.Classes (bitE ev y.Event)⟩
def Qv1 (o:List Lab) (t:Lab):List Lab:=if t∈o then o else o++[t]
def Qrb (ev:List Qc) (i:Nat) (x:Lab) (c:List Lab×List Qe) (y:Qe):List Lab×List Qe :=
 (Qv1 c.1 (toL ev x y),c.2++[⟨(i:Int),y.Event,((Qv1 c.1 (toL ev x y)).idxOf (toL ev x y):Int)⟩])
def labs (ev:List Qc) (a:Qa):Nat→List Lab×List Int×List Qe
 | 0=>([⟨0,0⟩],[],[])
 | n+1=>match (labs ev a n).1[n]? with
  | some x=>(((outP a x.State).foldl (Qrb ev n x) ((labs ev a n).1,(labs ev a n).2.2)).1,if x.State∈a.zF then (labs ev a n).2.1++[(n:Int)] else (labs ev a n).2.1,((outP a x.State).foldl (Qrb ev n x) ((labs ev a n).1,(labs ev a n).2.2)).2)
  | none=>labs ev a n
structure Plt (ev:List Qc) (a:Qa):Prop where
 r:Right a
 st:a.zH≤200
 al:∀ x∈a.zD,x<ev.length
 flt:∀ x∈ev,0≤x.Fault∧x.Fault≤4
 chk:Qf3 ev=some 0
 len:ev.length≤32
theorem Qbll:((List.range 16).all fun c=>(List.range 16).all fun b=>decide (0≤orI .i64 (c:Int) (b:Int)∧orI .i64 (c:Int) (b:Int)<16)&&decide (orI .i64 (c:Int) 0=(c:Int)))=true:=by kernel_rfl
theorem Qbkk {c b:Int} (hc:0≤c∧c<16) (hb:0≤b∧b<16):(0≤orI .i64 c b∧orI .i64 c b<16)∧orI .i64 c 0=c:=by
 have h:=List.all_eq_true.1 (List.all_eq_true.1 Qbll c.toNat (by simp;omega)) b.toNat (by simp;omega);rw [show ((c.toNat:Nat):Int)=c from by omega,show ((b.toNat:Nat):Int)=b from by omega] at h;simpa using h
theorem Qbf5 {ev:List Qc} {a:Qa} (h:Plt ev a) (e:Int):0≤bitE ev e∧bitE ev e<16:=by
 unfold bitE;cases hx:getO ev e with
 | none=>simp
 | some x =>
  have hm:=h.flt x (List.mem_of_getElem? (Qey.1 hx).2);dsimp only;split
  ·obtain ⟨h1,h2⟩:=hm;have:x.Fault=1∨x.Fault=2∨x.Fault=3∨x.Fault=4:=by omega
   rcases this with e|e|e|e<;>rw [e]<;>decide
  ·simp
theorem Qz3 {o:List Lab} {t x:Lab}:x∈Qv1 o t↔x∈o∨x=t:=by
 unfold Qv1;split
 ·rename_i h;exact ⟨.inl,fun e=>e.elim id fun e=>by rw [e];exact h⟩
 ·simp
theorem Qbf6 (o:List Lab) (t:Lab):o <+: Qv1 o t:=by
 unfold Qv1;split
 ·exact List.prefix_refl o
 ·exact List.prefix_append o _
theorem Qbf7 {o F:List Lab} (h:o <+: F) {t:Lab} (ht:t∈o):F.idxOf t=o.idxOf t:=by
 obtain ⟨r,rfl⟩:=h;rw [List.idxOf_append,if_pos ht]
structure LbI (a:Qa) (S:List Lab):Prop where
 nd:S.Nodup
 ok:∀ x∈S,(0≤x.State∧x.State<a.zH)∧0≤x.Classes∧x.Classes<16
theorem LbI.len {a:Qa} {S:List Lab} (h:LbI a S):S.length≤16*a.zH.toNat:=by
 have hn:(S.map fun x=>x.State*16+x.Classes).Nodup:=by
  refine List.pairwise_map.2 ((List.Pairwise.and_mem.1 h.nd).imp fun {x y} ⟨hx,hy,hne⟩ e=>hne ?_);obtain ⟨p1,p2⟩:=h.ok x hx;obtain ⟨q1,q2⟩:=h.ok y hy;obtain ⟨s,c⟩:=x;obtain ⟨s',c'⟩:=y;simp only [Qb.mk.injEq];dsimp only at *
  omega
 have:=Q86 (N:=16*a.zH.toNat) hn (fun x hx=>by
  obtain ⟨y,hy,rfl⟩:=List.mem_map.1 hx;obtain ⟨p1,p2⟩:=h.ok y hy;omega)
 simpa using this
theorem LbI.add {a:Qa} {S:List Lab} (h:LbI a S) {t:Lab} (ht:(0≤t.State∧t.State<a.zH)∧0≤t.Classes∧t.Classes<16):LbI a (Qv1 S t):=by
 refine ⟨?_,fun x hx=>(Qz3.1 hx).elim (h.ok x) (fun e=>by rw [e];exact ht)⟩;unfold Qv1;split
 ·exact h.nd
 ·rename_i hn;rw [List.nodup_append];exact ⟨h.nd,by simp,fun x hx y hy e=>by simp at hy;subst hy;subst e;exact hn hx⟩
theorem LbI.to {ev:List Qc} {a:Qa} (hp:Plt ev a) {S:List Lab} (h:LbI a S) {x:Lab} (hx:x∈S) {y:Qe} (hy:y∈a.zG):(0≤(toL ev x y).State∧(toL ev x y).State<a.zH)∧0≤(toL ev x y).Classes∧(toL ev x y).Classes<16:=by
 have he:=hp.r.ed0 y hy;exact ⟨⟨he.2.2.1,he.2.2.2.1⟩,(Qbkk (h.ok x hx).2 (Qbf5 hp y.Event)).1⟩
theorem Q2h {ev:List Qc} {i:Nat} {x:Lab}:∀ (ys:List Qe) (c:List Lab×List Qe),c.1 <+: (ys.foldl (Qrb ev i x) c).1
 | [],c=>List.prefix_refl _
 | y::ys,c=>(Qbf6 c.1 (toL ev x y)).trans (Q2h ys (Qrb ev i x c y))
theorem Q63 {ev:List Qc} {i:Nat} {x:Lab}:∀ (ys:List Qe) (c:List Lab×List Qe),∀ y∈ys,toL ev x y∈(ys.foldl (Qrb ev i x) c).1
 | [],c,y,hy=>by cases hy
 | z::ys,c,y,hy=>by
  rcases List.mem_cons.1 hy with rfl|hy
  ·exact (Q2h ys (Qrb ev i x c y)).subset (Qz3.2 (.inr rfl))
  ·exact Q63 ys _ y hy
theorem Q64 {ev:List Qc} {i:Nat} {x:Lab}:∀ (ys:List Qe) (c:List Lab×List Qe),
  (ys.foldl (Qrb ev i x) c).2=c.2++ys.map fun y=>⟨(i:Int),y.Event,((ys.foldl (Qrb ev i x) c).1.idxOf (toL ev x y):Int)⟩
 | [],c=>by simp
 | y::ys,c=>by
  rw [List.foldl_cons,Q64 ys,List.map_cons];have h1:((ys.foldl (Qrb ev i x) (Qrb ev i x c y)).1.idxOf (toL ev x y))=(Qv1 c.1 (toL ev x y)).idxOf (toL ev x y):=Qbf7 (Q2h ys (Qrb ev i x c y)) (Qz3.2 (.inr rfl));rw [h1];simp [Qrb]
theorem Qbb1 {ev:List Qc} {a:Qa} (hp:Plt ev a) {i:Nat} {x:Lab}:∀ (ys:List Qe) (c:List Lab×List Qe),LbI a c.1→x∈c.1→(∀ y∈ys,y∈a.zG)→LbI a (ys.foldl (Qrb ev i x) c).1
 | [],c,h,_,_=>h
 | y::ys,c,h,hx,hy=>Qbb1 hp ys _ (h.add (h.to hp hx (hy y (by simp)))) (Qz3.2 (.inl hx)) (fun z hz=>hy z (by simp [hz]))
section
variable {ev:List Qc} {a:Qa}
theorem Qz4 (n:Nat):(labs ev a n).1 <+: (labs ev a (n+1)).1:=by
 show _ <+: (match (labs ev a n).1[n]? with|some x=>_|none=>_:List Lab×List Int×List Qe).1;split
 ·dsimp only;exact Q2h (outP a _) ((labs ev a n).1,(labs ev a n).2.2)
 ·exact List.prefix_refl _
theorem Qbh2 {n m:Nat} (h:n≤m):(labs ev a n).1 <+: (labs ev a m).1:=by
 induction h with
 | refl=>exact List.prefix_refl _
 | step _ ih=>exact ih.trans (Qz4 _)
theorem Qz5 (hp:Plt ev a) (h0:0<a.zH):∀ n,LbI a (labs ev a n).1
 | 0=>⟨by simp [labs],fun x hx=>by simp [labs] at hx;subst hx;simp;omega⟩
 | n+1=>by
  have ih:=Qz5 hp h0 n;show LbI a (match (labs ev a n).1[n]? with|some x=>_|none=>_:List Lab×List Int×List Qe).1;split
  ·rename_i x hx;exact Qbb1 hp _ _ ih (List.mem_of_getElem? hx) (fun y hy=>(List.mem_filter.1 hy).1)
  ·exact ih
theorem Qz6 (hp:Plt ev a) (h0:0<a.zH) (n:Nat):(labs ev a n).1.length≤3200:=by
 have:=(Qz5 hp h0 n).len;have:=hp.st;omega
def LabN (ev:List Qc) (a:Qa) (N:Nat):Prop:=(labs ev a N).1.length=N∧∀ n<N,n<(labs ev a n).1.length
theorem Qbf8 (hp:Plt ev a) (h0:0<a.zH):∃ N,LabN ev a N:=by
 have key:∀ m,(labs ev a m).1.length≤m→∃ N,LabN ev a N:=by
  intro m
  induction m using Nat.strongRecOn with
  | ind m ih =>
   intro h1;by_cases hex:∃ n,n<m∧(labs ev a n).1.length≤n
   ·obtain ⟨n,hn,h⟩:=hex;exact ih n hn h
   ·have hlt:∀ n<m,n<(labs ev a n).1.length:=fun n hn=>by
     rcases Nat.lt_or_ge n (labs ev a n).1.length with h|h
     ·exact h
     ·exact absurd ⟨n,hn,h⟩ hex
    refine ⟨m,?_,hlt⟩;cases m with
    | zero=>simp [labs] at h1
    | succ k =>
     have:=hlt k (by omega);have:=(Qz4 (ev:=ev) (a:=a) k).length_le;omega
 exact key 3200 (Qz6 hp h0 _)
theorem LabN.le (hp:Plt ev a) (h0:0<a.zH) {N:Nat} (h:LabN ev a N):N≤3200:=by have:=Qz6 hp h0 N;have:=h.1;omega
def labA (ev:List Qc) (a:Qa) (N:Nat):Qa:=⟨a.zD,(N:Int),(labs ev a N).2.1,(labs ev a N).2.2⟩
theorem Q2i {n:Nat} (h:n<(labs ev a n).1.length):∃ x,(labs ev a n).1[n]? = some x∧labs ev a (n+1)=(((outP a x.State).foldl (Qrb ev n x) ((labs ev a n).1,(labs ev a n).2.2)).1,if x.State∈a.zF then (labs ev a n).2.1++[(n:Int)] else (labs ev a n).2.1,((outP a x.State).foldl (Qrb ev n x) ((labs ev a n).1,(labs ev a n).2.2)).2):=by
 refine ⟨_,List.getElem?_eq_getElem h,?_⟩;show (match (labs ev a n).1[n]? with|some x=>_|none=>_:List Lab×List Int×List Qe)=_;rw [List.getElem?_eq_getElem h]
theorem Qbb2 (h:Right a) (s:Int):(outP a s).Pairwise fun x y=>x.Event<y.Event:=by
 have h1:(outP a s).Pairwise Qlc:=h.ed.filter _;refine (List.Pairwise.and_mem.1 h1).imp fun {x y} ⟨hx,hy,hk⟩=>?_;have e1:x.From=s:=by simpa using (List.mem_filter.1 hx).2
 have e2:y.From=s:=by simpa using (List.mem_filter.1 hy).2
 unfold Qlc at hk;omega
structure LabI (ev:List Qc) (a:Qa) (n:Nat):Prop where
 mr:∀ x∈(labs ev a n).2.1,0≤x∧x<n
 ms:(labs ev a n).2.1.Pairwise (· < ·)
 er:∀ x∈(labs ev a n).2.2,0≤x.From∧x.From<n∧0≤x.To∧x.To<((labs ev a n).1.length:Nat)∧x.Event∈a.zD
 es:(labs ev a n).2.2.Pairwise Qlc
 el:(labs ev a n).2.2.length≤32*n
theorem Qbae (h:Right a) (s:Int):(outP a s).length≤32:=by
 have h1:=Qbb2 h s;have h2:((outP a s).map (·.Event)).Pairwise (· < ·):=List.pairwise_map.2 h1;have:=Qgk (a:=0) (b:=32) h2 fun x hx=>by
  obtain ⟨y,hy,rfl⟩:=List.mem_map.1 hx;exact h.al0 _ (h.ed0 y ((List.mem_filter.1 hy).1)).2.2.2.2
 simpa using this
theorem labI (hp:Plt ev a):∀ n,n≤(labs ev a n).1.length→(∀ m<n,m<(labs ev a m).1.length)→LabI ev a n
 | 0,_,_=>⟨by simp [labs],by simp [labs],by simp [labs],by simp [labs],by simp [labs]⟩
 | n+1,_,hlt=>by
  have hn:=hlt n (by omega);have ih:=labI hp n (by omega) (fun m hm=>hlt m (by omega));obtain ⟨x,hx,e⟩:=Q2i hn;have hpre:=Qz4 (ev:=ev) (a:=a) n;have hle:=hpre.length_le;have hE:(labs ev a (n+1)).2.2=(labs ev a n).2.2++(outP a x.State).map fun y=>⟨(n:Int),y.Event,((labs ev a (n+1)).1.idxOf (toL ev x y):Int)⟩:=by
   rw [e];exact Q64 _ _
  have hM:(labs ev a (n+1)).2.1=if x.State∈a.zF then (labs ev a n).2.1++[(n:Int)] else (labs ev a n).2.1:=by rw [e]
  have hmem:∀ y∈outP a x.State,toL ev x y∈(labs ev a (n+1)).1:=by rw [e];exact Q63 _ _
  refine ⟨?_,?_,?_,?_,?_⟩
  ·intro z hz;rw [hM] at hz;have:z∈(labs ev a n).2.1∨z=(n:Int):=by split at hz<;>simp_all
   rcases this with h|h
   ·have:=ih.mr z h;omega
   ·omega
  ·rw [hM];split
   ·rw [List.pairwise_append];refine ⟨ih.ms,by simp,fun p hp q hq=>?_⟩;have:=ih.mr p hp;simp at hq;omega
   ·exact ih.ms
  ·intro z hz;rw [hE] at hz;rcases List.mem_append.1 hz with h|h
   ·have:=ih.er z h;exact ⟨this.1,by omega,this.2.2.1,by omega,this.2.2.2.2⟩
   ·obtain ⟨y,hy,rfl⟩:=List.mem_map.1 h;have hi:=List.idxOf_lt_length_iff.2 (hmem y hy);exact ⟨by simp,by simp;omega,by simp,by simp;exact hi,(hp.r.ed0 y ((List.mem_filter.1 hy).1)).2.2.2.2⟩
  ·rw [hE,List.pairwise_append];refine ⟨ih.es,List.pairwise_map.2 ((Qbb2 hp.r _).imp fun h=>.inr ⟨rfl,h⟩),fun p hp' q hq=>?_⟩;obtain ⟨y,hy,rfl⟩:=List.mem_map.1 hq;have:=ih.er p hp';exact .inl this.2.1
  ·rw [hE,List.length_append,List.length_map];have:=ih.el;have:=Qbae hp.r x.State;omega
theorem LabN.labI (hp:Plt ev a) {N:Nat} (h:LabN ev a N):LabI ev a N:=Go.Abs.labI hp N (by have:=h.1;omega) h.2
theorem Qbdb (hp:Plt ev a) (h0:0<a.zH) {N:Nat} (h:LabN ev a N):Right (labA ev a N):=by
 have hi:=h.labI hp;have hl:=h.le hp h0;have he:=hi.er;rw [h.1] at he;exact ⟨hp.r.al0,hp.r.al,⟨by simp [labA],by simp [labA];omega⟩,hi.mr,hi.ms,he,hi.es⟩
end
end Go.Abs
end
section
namespace Go.Abs
open Go
variable {ev:List Qc} {a:Qa}
theorem Qz7 (hp:Plt ev a):Qgi ev a=some 0:=by
 unfold Qgi Qbn;rw [hp.chk];simp only [Option.bind_some,show ((0:Int) != 0)=false from rfl,Bool.false_eq_true,if_false];rw [Qyn hp.r];simp only [Option.bind_some,show ((0:Int) != 0)=false from rfl,Bool.false_eq_true,if_false];have hl:=hp.r.small.2.1;by_cases h0:a.zD.length=0
 ·rw [if_neg (by omega)];rfl
 ·rw [if_pos (by omega),Q34 (by omega) (by omega),Qbf (by omega)];have:=hp.al (a.zD[a.zD.length-1]'(by omega)) (List.getElem_mem _);simp only [Option.bind_some];rw [decide_eq_false (by omega)]
  rfl
structure KB2 (S:List Lab) (c:List (Lab×Int)):Prop where
 has:∀ t,hasM c t=decide (t∈S)
 get:∀ t∈S,getM c t 0=(S.idxOf t:Int)
theorem KB2.first (t:Lab):KB2 [t] (setM ([]:List (Lab×Int)) t 0):=by
 refine ⟨fun m=>?_,fun m hm=>?_⟩
 ·rw [Qvz];have:hasM ([]:List (Lab×Int)) m=false:=rfl;rw [this,Bool.or_false];simp
 ·rw [List.mem_singleton] at hm;subst hm;rw [Qv0,if_pos rfl];simp
theorem KB2.add {S:List Lab} {c:List (Lab×Int)} (h:KB2 S c) {t:Lab} (hm:t∉S):KB2 (S++[t]) (setM c t (S.length:Int)):=by
 refine ⟨fun m=>?_,fun m hm'=>?_⟩
 ·rw [Qvz,h.has m,← Bool.decide_or];apply decide_eq_decide.2;rw [List.mem_append,List.mem_singleton];exact or_comm
 ·rw [Qv0];rw [List.mem_append,List.mem_singleton] at hm';rcases hm' with hm'|rfl
  ·rw [if_neg (fun e=>hm (by rw [← e];exact hm')),h.get m hm',List.idxOf_append,if_pos hm']
  ·rw [if_pos rfl,List.idxOf_append,if_neg hm];simp
theorem Qbf9 (hp:Plt ev a) {y:Qe} (hy:y∈a.zG):Qjr ev y.Event=some (bitE ev y.Event):=by
 have he:=(hp.r.ed0 y hy).2.2.2.2;have h1:=hp.al _ he;have h2:=hp.r.al0 _ he;unfold Qjr Qer bitE;cases hx:getO ev y.Event with
 | none =>
  exfalso;have:getO ev ((y.Event.toNat:Nat):Int)=some ev[y.Event.toNat]:=Qbf (by omega);rw [show ((y.Event.toNat:Nat):Int)=y.Event from by omega,hx] at this;cases this
 | some x =>
  have hm:=hp.flt x (List.mem_of_getElem? (Qey.1 hx).2);simp only [Option.bind_some];by_cases hf:x.Fault>0
  ·rw [if_pos hf,if_pos (by omega)];have:x.Fault=1∨x.Fault=2∨x.Fault=3∨x.Fault=4:=by omega
   rcases this with e|e|e|e<;>rw [e]<;>rfl
  ·rw [if_neg hf,if_neg (by omega)]
theorem Q51 (h:Right a) {fuel:Nat} (hfu:1099511627776≤fuel):(Qb5 (fun k12 ((x10,c11):Int×(List (List Qe)))=>(if (x10<(a.zG.length:Int)) then ((getO a.zG x10).bind fun x14=>((inO (Int.toNat a.zH) x14.From).bind fun u16=>((getO c11 x14.From).bind fun x18=>((appO x18 [x14]).bind fun x20=>((inO (Int.toNat a.zH) x14.From).bind fun u22=>((setO c11 x14.From x20).bind fun x24=>k12 ((IntKind.wrap .i64 (x10+1)),x24))))))) else some c11)) fuel (0,List.replicate a.zH.toNat []))=some (Q14 a):=by
 have hs:=h.small;have hst:=h.st;refine (Qez (len:=a.zG.length) (fun n (c:List (List Qe))=>((n:Int),c)) (fun n c=>c.length=a.zH.toNat∧∀ s:Nat,s<a.zH.toNat→c[s]? = some ((a.zG.take n).filter fun x=>x.From==(s:Int))) (fun n c=>some (Q14 a)) ?_ ?_ fuel 0 _ (Nat.zero_le _) (by omega) ⟨by simp,fun s hs=>by simp [hs]⟩)
 ·intro k n c hn ⟨i1,i2⟩ ih;have he:=h.ed0 _ (List.getElem_mem hn);dsimp only;rw [if_pos (by omega),Qbf hn];simp only [Option.bind_some];have hin:inO (Int.toNat a.zH) a.zG[n].From=some ():=by unfold inO;rw [if_pos ⟨he.1,by omega⟩]
  have hto:((a.zG[n].From.toNat:Nat):Int)=a.zG[n].From:=by omega
  have hg:getO c a.zG[n].From=some ((a.zG.take n).filter fun x=>x.From==a.zG[n].From):=by
   rw [Qey];refine ⟨he.1,?_⟩;rw [i2 _ (by omega),hto]
  have hfl:((a.zG.take n).filter fun x=>x.From==a.zG[n].From).length≤a.zG.length:=Nat.le_trans (List.length_filter_le _ _) (by rw [List.length_take];omega);rw [hin,hg];simp only [Option.bind_some];rw [Qby (by simp only [List.length_cons,List.length_nil];unfold lim;omega)];simp only [Option.bind_some];unfold setO;rw [if_pos ⟨he.1,by omega⟩,Qy (by omega)];simp only [Option.bind_some];refine ih _ ⟨by simp [i1],fun s hs=>?_⟩;rw [List.getElem?_set,List.take_succ_eq_append_getElem hn,List.filter_append];split
  ·rename_i hss;subst hss;rw [if_pos (by omega),hto];simp
  ·rename_i hss;have:¬ a.zG[n].From=(s:Int):=by omega
   rw [i2 s hs];simp [this]
 ·intro k c ⟨i1,i2⟩;dsimp only;rw [if_neg (by omega)];congr 1;refine List.ext_getElem? fun s=>?_;by_cases hs:s<a.zH.toNat
  ·rw [i2 s hs,Q4c a hs,List.take_length];rfl
  ·rw [List.getElem?_eq_none (by omega),List.getElem?_eq_none (by rw [Qvx];omega)]
theorem getB {S:List Lab} {n:Nat} {x:Lab} (h:S[n]? = some x):getO S (n:Int)=some x:=by rw [Qey];exact ⟨by omega,by simpa using h⟩
theorem Qbb3 (hp:Plt ev a) (h0:0<a.zH) {N:Nat} (hN:LabN ev a N):Qdt ev a=some (labA ev a N,(labs ev a N).1,0):=by
 have hs:=hp.r.small;have hst:=hp.r.st;have hNl:=hN.le hp h0;unfold Qdt Qbk;obtain ⟨fuel,hfu,hge⟩ : ∃ f,Qbb=f∧1099511627776≤f:=⟨_,rfl,Nat.le_refl _⟩;rw [hfu,Qz7 hp];simp only [Option.bind_some,show ((0:Int) != 0)=false from rfl,Bool.false_eq_true,if_false];rw [Q60 (by unfold lim;omega)];refine Qfj rfl ?_;refine Qfj (x:=List.replicate a.zH.toNat []) (by unfold mkO;rw [if_pos ⟨hst.1,by unfold lim;omega⟩]) ?_;refine Qfj (Q51 hp.r hge) ?_;rw [if_pos (by omega),Qby (by simp [lim])];simp only [Option.bind_some,List.nil_append];refine Qc6 (fun x=>∃ (n:Nat) (c:List (Lab×Int)),n≤N∧KB2 (labs ev a n).1 c∧x=((labs ev a n).1,(n:Int),[],[],[],(labs ev a n).2.1,(labs ev a n).2.2,c)) (fun x=>N-x.2.1.toNat) (fun x r=>r=some (labA ev a N,(labs ev a N).1,0)) ?_ fuel _ ⟨0,_,Nat.zero_le _,.first _,rfl⟩ (by simp only [Int.toNat_zero];omega);rintro k _ ⟨n,c,hn,hK,rfl⟩ ih;dsimp only;by_cases hlt:n<N
 ·have hnl:=hN.2 n hlt;have hI:=labI hp n (by omega) (fun m hm=>hN.2 m (by omega));have hB:=Qz5 hp h0 n;obtain ⟨x,hx,e⟩:=Q2i hnl;have hxm:=List.mem_of_getElem? hx;have hxs:=(hB.ok x hxm).1;have hll:=Qz6 hp h0 n;have hll':=Qz6 hp h0 (n+1);have hml:(labs ev a n).2.1.length≤n:=by have:=Qgk hI.ms hI.mr;simpa using this
  have hel:=hI.el;rw [if_pos (by omega),getB hx];simp only [Option.bind_some];rw [Q62 hp.r.ma hs.1.2.1];simp only [Option.bind_some];refine Qfj (x:=(labs ev a (n+1)).2.1) ?_ ?_
  ·rw [e];by_cases hm:x.State∈a.zF
   ·rw [decide_eq_true hm,if_pos rfl,if_pos hm,Qby (by simp only [List.length_cons,List.length_nil];unfold lim;omega)]
    rfl
   ·rw [decide_eq_false hm,if_neg (by simp),if_neg hm]
  have hin:inO (Int.toNat a.zH) x.State=some ():=by unfold inO;rw [if_pos ⟨hxs.1,by omega⟩]
  rw [hin,Q2g hxs];simp only [Option.bind_some];have hof:=Qbae hp.r x.State;have hoe:∀ y∈outP a x.State,y∈a.zG:=fun y hy=>(List.mem_filter.1 hy).1;generalize hO:outP a x.State=O at e hof hoe ⊢;refine Qc6 (fun z=>∃ (m:Nat) (S:List Lab) (r:List Qe) (c:List (Lab×Int)),z=(S,(m:Int),r,c)∧m≤O.length∧S[n]? = some x∧LbI a S∧r.length≤32*n+m∧KB2 S c ∧
   (O.drop m).foldl (Qrb ev n x) (S,r)=((labs ev a (n+1)).1,(labs ev a (n+1)).2.2)) (fun z=>O.length-z.2.1.toNat) (fun z r=>r=some (labA ev a N,(labs ev a N).1,0)) ?_ fuel _ ⟨0,_,_,c,rfl,Nat.zero_le _,hx,hB,by omega,hK,by rw [e];rfl⟩ (by simp only [Int.toNat_zero];omega)
  rintro k' _ ⟨m,S,r,c,rfl,hm,hgs,hBS,hrl,hKS,hf⟩ ih';dsimp only;by_cases hlm:m<O.length
  ·have hye:=hoe _ (List.getElem_mem hlm);rw [if_pos (by omega),Qbf hlm,getB hgs];rw [List.drop_eq_getElem_cons hlm] at hf;generalize O[m]=y at hye hf ⊢;simp only [Option.bind_some];rw [Qbf9 hp hye];simp only [Option.bind_some];simp only [letJ];have ht:(Qb.mk y.To (orI .i64 x.Classes (bitE ev y.Event)))=toL ev x y:=rfl;rw [ht,hKS.has];have hSl:=hBS.len;have hst2:=hp.st;have htl:=hBS.to hp (List.mem_of_getElem? hgs) hye;by_cases hin:toL ev x y∈S
   ·have hi:Qv1 S (toL ev x y)=S:=by unfold Qv1;rw [if_pos hin]
    rw [decide_eq_true hin,if_pos rfl];rw [hKS.get _ hin,Qby (by simp only [List.length_cons,List.length_nil];unfold lim;omega)];simp only [Option.bind_some];rw [Qy (by omega)];refine ih' _ ⟨m+1,S,_,c,rfl,by omega,hgs,hBS,by rw [List.length_append];simp only [List.length_cons,List.length_nil];omega,hKS,?_⟩ (by simp only;omega);rw [List.foldl_cons] at hf;rw [← hf];unfold Qrb;rw [hi]
   ·have hi:Qv1 S (toL ev x y)=S++[toL ev x y]:=by unfold Qv1;rw [if_neg hin]
    rw [decide_eq_false hin,if_neg (by simp),if_neg (by simp;omega),Qby (by simp only [List.length_cons,List.length_nil];unfold lim;omega)];simp only [Option.bind_some];have hK2:=hKS.add hin;rw [hK2.get _ (by simp),Qby (by simp only [List.length_cons,List.length_nil];unfold lim;omega)];simp only [Option.bind_some];rw [Qy (by omega)];have hBi:=hBS.add htl;rw [hi] at hBi;refine ih' _ ⟨m+1,S++[toL ev x y],_,_,rfl,by omega,by rw [List.getElem?_append_left (List.getElem?_eq_some_iff.1 hgs).1];exact hgs,hBi,by rw [List.length_append];simp only [List.length_cons,List.length_nil];omega,hK2,?_⟩ (by simp only;omega);rw [List.foldl_cons] at hf;rw [← hf];unfold Qrb;rw [hi]
  ·rw [if_neg (by omega)];have hd:O.drop m=[]:=List.drop_eq_nil_of_le (by omega);rw [hd,List.foldl_nil,Prod.mk.injEq] at hf;obtain ⟨rfl,rfl⟩:=hf;rw [Qy (by omega)];exact ih _ ⟨n+1,c,by omega,hKS,rfl⟩ (by simp only;omega)
 ·obtain rfl:n=N:=by omega
  rw [if_neg (by have:=hN.1;omega),hN.1]
  rfl
theorem Qbdc (hp:Plt ev a) (h0:a.zH=0):Qdt ev a=some (⟨a.zD,0,[],[]⟩,[],0):=by
 have hs:=hp.r.small;unfold Qdt Qbk;obtain ⟨fuel,hfu,hge⟩ : ∃ f,Qbb=f∧1099511627776≤f:=⟨_,rfl,Nat.le_refl _⟩;rw [hfu,Qz7 hp];simp only [Option.bind_some,show ((0:Int) != 0)=false from rfl,Bool.false_eq_true,if_false];rw [Q60 (by unfold lim;omega)];refine Qfj rfl ?_;refine Qfj (x:=List.replicate a.zH.toNat []) (by unfold mkO;rw [if_pos ⟨by omega,by unfold lim;omega⟩]) ?_;refine Qfj (Q51 hp.r hge) ?_;rw [if_neg (by omega)];obtain ⟨f,rfl⟩ : ∃ f,fuel=f+1:=⟨fuel-1,by omega⟩
 rfl
end Go.Abs
end
section
namespace Go.Abs
open Go
structure Proj (a:Qa) (onto:List Int) (S:List (List Int)):Prop where
 es:Ests a S
 first:S[0]? = some (Qvy a onto)
 cl:∀ s∈S,∀ e∈Qqe a onto,Q1a a onto s e≠[]→Q1a a onto s e∈S
 form:∀ s∈S,∃ fr,(∀ t∈fr,0≤t∧t<a.zH)∧s=Qqv a fr (Qif a onto)
section
variable {a:Qa} {onto:List Int} {S:List (List Int)}
variable (h:Right a) (hP:Proj a onto S)
include h hP
end
end Go.Abs
end
section
namespace Go.Abs
open Go
theorem Qbga {s:ByteArray} (hs:s.size<big):∃ b,Qgh s=some b:=by
 have hb:s.size<1000000000000:=hs;unfold Qgh Qee;refine Qc6 (fun x=>∃ n:Nat,x=(n:Int)∧n≤s.size) (fun x=>s.size-x.toNat) (fun x r=>∃ b,r=some b) ?_ Qbb _ ⟨0,rfl,Nat.zero_le _⟩ (by unfold Qbb;omega);rintro k _ ⟨n,rfl,hn⟩ ih;by_cases hlt:n<s.size
 ·rw [if_pos (by omega)];have hc:∃ c,chrO s (n:Int)=some c:=by unfold chrO;rw [dif_pos ⟨by omega,by omega⟩];exact ⟨_,rfl⟩
  obtain ⟨c,hc⟩:=hc;rw [hc];simp only [Option.bind_some];have key:∀ (o:Option Bool) (K:Bool→Option Bool),(∃ x,o=some x)→(∀ x,∃ y,K x=some y)→∃ y,o.bind K=some y:=fun o K ⟨x,h⟩ h2=>by rw [h];exact h2 x
  refine key _ _ ?_ fun letter=>key _ _ ?_ fun z=>?_
  ·repeat' split
   all_goals exact ⟨_,rfl⟩
  ·repeat' split
   all_goals exact ⟨_,rfl⟩
  ·split
   ·exact ⟨_,rfl⟩
   ·rw [Qy (by omega)];exact ih _ ⟨n+1,rfl,by omega⟩ (by simp only [Int.toNat_natCast];omega)
 ·rw [if_neg (by omega)];split<;>exact ⟨_,rfl⟩
def Q4t (s:ByteArray):Bool:=decide (Qgh s=some true)
theorem Qbgb {s:ByteArray} (hs:s.size<big):Qgh s=some (Q4t s):=by
 obtain ⟨b,h⟩:=Qbga hs;unfold Q4t;rw [h];cases b<;>simp
def Q4u (k:ByteArray) (seen:List ByteArray):Bool:=seen.any fun z=>decide (k=z)
def Qv2:List ByteArray→List Qc→Int
 | _,[]=>0
 | seen,x::l=>if Q4t x.Name=false then 7 else if Q4u x.Name seen=true then 8 else if x.Fault<0∨x.Fault>4 then 2 else if x.Fault≠0∧(x.Controllable=true∨x.Observable=true) then 13 else Qv2 (x.Name::seen) l
def Qbdd (ev:List Qc):Int:=if 32<ev.length then 3 else Qv2 [] ev
theorem Qbde {ev:List Qc} (hl:ev.length<big) (hn:∀ x∈ev,x.Name.size<big):Qf3 ev=some (Qbdd ev):=by
 have hb:ev.length<1000000000000:=hl;unfold Qf3 Qcj Qbdd;by_cases h32:32<ev.length
 ·rw [if_pos (by omega),if_pos h32]
 rw [if_neg (by omega),if_neg h32];refine Qc6 (fun x=>∃ (n:Nat) (c:List (ByteArray×Bool)) (seen:List ByteArray),x=((n:Int),c)∧n≤ev.length∧(∀ k,getM c k false=Q4u k seen)∧Qv2 seen (ev.drop n)=Qv2 [] ev) (fun x=>ev.length-x.1.toNat) (fun x r=>r=some (Qv2 [] ev)) ?_ Qbb _ ⟨0,[],[],rfl,Nat.zero_le _,fun k=>rfl,by simp⟩ (by simp only [Int.toNat_zero];unfold Qbb;omega);rintro k _ ⟨n,c,seen,rfl,hle,hc,he⟩ ih;dsimp only;by_cases hlt:n<ev.length
 ·rw [if_pos (by omega),Qbf hlt];have hx:=hn _ (List.getElem_mem hlt);rw [List.drop_eq_getElem_cons hlt] at he;generalize ev[n]=x at hx he ⊢;simp only [Option.bind_some];rw [Qbgb hx];simp only [Option.bind_some];simp only [Qv2] at he;by_cases h1:Q4t x.Name=false
  ·rw [if_pos h1] at he;rw [h1,if_neg (by simp),he]
  ·rw [if_neg h1] at he;rw [Bool.not_eq_false] at h1;rw [h1,if_pos rfl,hc];by_cases h2:Q4u x.Name seen=true
   ·rw [if_pos h2] at he;rw [if_pos h2,he]
   ·rw [if_neg h2] at he;rw [if_neg h2];have e3:(if x.Fault<0 then some true else some (decide (x.Fault>4)))=some (decide (x.Fault<0∨x.Fault>4)):=by
     by_cases h:x.Fault<0<;>simp [h]
    rw [e3];simp only [Option.bind_some];by_cases h3:x.Fault<0∨x.Fault>4
    ·rw [if_pos h3] at he;rw [decide_eq_true h3,if_pos rfl,he]
    ·rw [if_neg h3] at he;rw [decide_eq_false h3,if_neg (by simp)];have e4:(if x.Fault != 0 then (if x.Controllable then some true else some x.Observable) else some false)=some (decide (x.Fault≠0∧(x.Controllable=true∨x.Observable=true))):=by
      by_cases h:x.Fault=0<;>cases x.Controllable<;>cases x.Observable<;>simp [h]
     rw [e4];simp only [Option.bind_some];by_cases h4:x.Fault≠0∧(x.Controllable=true∨x.Observable=true)
     ·rw [if_pos h4] at he;rw [decide_eq_true h4,if_pos rfl,he]
     ·rw [if_neg h4] at he;rw [decide_eq_false h4,if_neg (by simp),Qy (by omega)];exact ih _ ⟨n+1,_,_,rfl,by omega,fun k=>by rw [Qz2,hc];by_cases h:k=x.Name<;>simp [h,Q4u],he⟩ (by simp only [Int.toNat_natCast];omega)
 ·rw [if_neg (by omega)];have:ev.drop n=[]:=List.drop_eq_nil_of_le (by omega);rw [this] at he;rw [← he];rfl
theorem Q52:∀ {l:List Qc} {seen:List ByteArray},Qv2 seen l=0→∀ x∈l,0≤x.Fault∧x.Fault≤4
 | [],_,_,x,hx=>by cases hx
 | y::l,seen,h,x,hx=>by
  simp only [Qv2] at h;split at h
  ·omega
  split at h
  ·omega
  split at h
  ·omega
  rename_i h3;split at h
  ·omega
  rcases List.mem_cons.1 hx with rfl|hx
  ·omega
  ·exact Q52 h x hx
theorem Qblm {ev:List Qc} {a:Qa} (hl:ev.length<big) (hn:∀ x∈ev,x.Name.size<big) (he:Qbdd ev=0) (hr:Right a) (hst:a.zH≤200) (hal:∀ x∈a.zD,x<ev.length):Plt ev a:=by
 have h:=he;unfold Qbdd at h;split at h
 ·omega
 exact ⟨hr,hst,hal,Q52 h,by rw [Qbde hl hn,he],by omega⟩
def obsE (ev:List Qc):List Int:=(upto ev.length).filter fun i=>match getO ev i with|some x=>x.Observable|none=>false
theorem Qwk {ev:List Qc} (h:ev.length≤32):EvSet (obsE ev):=by
 refine ⟨fun x hx=>?_,(Q81 _).filter _⟩;have:=Qbbu.1 (List.mem_filter.1 hx).1;omega
def selF (p:Qc→Bool) (ev:List Qc) (n:Nat):List Int:=((upto ev.length).drop n).filter fun i=>match getO ev i with|some x=>p x|none=>false
theorem Qbgc {p:Qc→Bool} {ev:List Qc} {n:Nat} (h:n<ev.length):selF p ev n=(if p ev[n] then [(n:Int)] else [])++selF p ev (n+1):=by
 unfold selF;rw [List.drop_eq_getElem_cons (by rw [Q2f];simpa using h),Qbhw (n:=(ev.length:Int)) (by simpa using h),List.filter_cons,Qbf h];dsimp only;by_cases h:p ev[n]=true<;>simp [h]
theorem Qbb4 {p:Qc→Bool} {ev:List Qc} (hl:ev.length<big) {fuel:Nat} (hf:ev.length<fuel) {F:(List Int×Int→Option (List Int))→List Int×Int→Option (List Int)}
  (hF:∀ (k:List Int×Int→Option (List Int)) (acc:List Int) (n:Nat) (h:n<ev.length),acc.length≤n→F k (acc,(n:Int))=k (if p ev[n] then acc++[(n:Int)] else acc,IntKind.wrap .i64 ((n:Int)+1)))
  (hlast:∀ (k:List Int×Int→Option (List Int)) (acc:List Int),F k (acc,(ev.length:Int))=some acc):Qb5 F fuel ([],0)=some (selF p ev 0):=by
 have hb:ev.length<1000000000000:=hl;refine (Qez (len:=ev.length) (fun n (acc:List Int)=>(acc,(n:Int))) (fun n acc=>acc.length≤n) (fun n acc=>some (acc++selF p ev n)) ?_ ?_ fuel 0 [] (Nat.zero_le _) (by omega) (Nat.le_refl _)).trans (by simp)
 ·intro k n acc hn hi ih;rw [hF k acc n hn hi,Qy (by omega),ih _ (by by_cases h:p ev[n]=true<;>simp [h]<;>omega),Qbgc hn];by_cases h:p ev[n]=true<;>simp [h]
 ·intro k acc _;have:selF p ev ev.length=[]:=by unfold selF;rw [List.drop_eq_nil_of_le (by rw [Q2f];simp)];rfl
  rw [hlast,this];simp
theorem Qbgd {p:Qc→Bool} {ev:List Qc} (hl:ev.length<big) {f:Qc→Option Bool} (hf:∀ x,f x=some (p x)):Qj4 ev f=some (selF p ev 0):=by
 have hb:ev.length<1000000000000:=hl;unfold Qj4 Qef;refine Qfj (Qbb4 (p:=p) hl (by unfold Qbb;omega) ?_ ?_) rfl
 ·intro k acc n hn hacc;dsimp only;rw [if_pos (by omega),Qbf hn];simp only [Option.bind_some,hf];cases p ev[n]
  ·rfl
  ·rw [if_pos rfl,Qby (by simp only [List.length_cons,List.length_nil];unfold lim;omega)];rfl
 ·intro k acc;dsimp only;rw [if_neg (by omega)]
theorem Qxq {ev:List Qc} (hl:ev.length<big) (hc:Qf3 ev=some 0):Qd6 ev=some (obsE ev):=by
 unfold Qd6 Qv Qjq Qc0;rw [hc];simp only [Option.bind_some,show ((0:Int) != 0)=false from rfl,Bool.false_eq_true,if_false];rw [Qbgd (f:=Qk7) (p:=fun x=>x.Observable) hl (fun x=>rfl)]
 rfl
theorem Qxr {ev:List Qc} (hl:ev.length<big):Qdx ev=some (obsE ev):=by
 have hb:ev.length<1000000000000:=hl;unfold Qdx Q8;refine Qfj (Qbb4 (p:=fun x=>x.Observable) hl (by unfold Qbb;omega) ?_ ?_) rfl
 ·intro k acc n hn hacc;dsimp only;rw [if_pos (by omega),Qbf hn];simp only [Option.bind_some];cases ev[n].Observable
  ·rfl
  ·rw [if_pos rfl,Qby (by simp only [List.length_cons,List.length_nil];unfold lim;omega)];rfl
 ·intro k acc;dsimp only;rw [if_neg (by omega)]
theorem Qbkl {l:List Int} {v:Int} (hl:l.length<big):Qgo l v=some (decide (v∈l)):=by
 unfold Qgo Qbr;refine (Qil (len:=l.length) (fun k=>some (decide (v∈l.drop k))) (by unfold Qbb;unfold big at hl;omega) ?_ ?_).trans (by simp)
 ·intro k i hi ih;have hb:i<1000000000000:=by unfold big at hl;omega
  try dsimp only
  rw [if_pos (by omega),Qbf hi,Qy (by omega),ih,List.drop_eq_getElem_cons hi];simp only [Option.bind_some,List.mem_cons];by_cases h:l[i]=v
  ·simp [h]
  ·have:¬ v=l[i]:=fun e=>h e.symm;simp [h,this]
 ·intro k;simp
theorem Qbln (x y:Lab):((x.State==y.State)&&((x.Classes==y.Classes)&&true))=decide (x=y):=by
 obtain ⟨s,c⟩:=x;obtain ⟨s',c'⟩:=y;rw [Bool.eq_iff_iff];simp
theorem Qblo {l:List Lab} {v:Lab} (hl:l.length<big):Qht l v=some (if v∈l then (l.idxOf v:Int) else -1):=by
 unfold Qht Qdc;refine (Qil (len:=l.length) (fun k=>some (if v∈l.drop k then ((k+(l.drop k).idxOf v:Nat):Int) else -1)) (by unfold Qbb;unfold big at hl;omega) ?_ ?_).trans (by simp)
 ·intro k i hi ih;have hb:i<1000000000000:=by unfold big at hl;omega
  try dsimp only
  rw [if_pos (by omega),Qbf hi,Qy (by omega),ih,List.drop_eq_getElem_cons hi];simp only [Option.bind_some,List.mem_cons,List.idxOf_cons,Qbln];by_cases h:v=l[i]
  ·simp [← h]
  ·have:¬ l[i]=v:=fun e=>h e.symm;have hbq:(l[i]==v)=false:=by simp [this]
   by_cases h2:v∈l.drop (i+1)<;>simp [h,h2,hbq,this];omega
 ·intro k;simp
def Qi9 (l:List Lab) (set:List Int):List Lab:=set.map fun i=>(getO l i).getD ⟨0,0⟩
theorem Qbh3 {l:List Lab} {set:List Int} (hs:set.length<big) (hr:∀ x∈set,0≤x∧x<l.length):Qhc l set=some (Qi9 l set):=by
 have hb:set.length<1000000000000:=hs;unfold Qhc Qb6;refine Qfj (Qbc2 (f:=fun i=>(getO l i).getD ⟨0,0⟩) hs (by unfold Qbb;omega) ?_ ?_) rfl
 ·intro k acc n hn;dsimp only;rw [if_pos (by omega),Qbf hn];have h:=hr _ (List.getElem_mem hn);have hg:getO l set[n]=some (l[set[n].toNat]'(by omega)):=by rw [Qey];exact ⟨h.1,List.getElem?_eq_getElem (by omega)⟩
  simp only [Option.bind_some,hg,Option.getD_some]
 ·intro k acc;dsimp only;rw [if_neg (by omega)]
end Go.Abs
end
section
namespace Go.Abs
open Go
variable {ev:List Qc} {a:Qa}
theorem Qblp (hp:Plt ev a) {S:List Lab} (hB:LbI a S) {x:Lab} (hx:x∈S) {y:Qe} (hy:y∈a.zG):Qhs ev x y=some (toL ev x y):=by
 have hb:=Qbf9 hp hy;have hc:=(Qbkk (hB.ok x hx).2 (Qbf5 hp y.Event)).2;unfold Qjr Qer at hb;unfold Qhs Qdb toL;cases hg:getO ev y.Event with
 | none=>rw [hg] at hb;cases hb
 | some z =>
  rw [hg] at hb;simp only [Option.bind_some] at hb ⊢;by_cases hf:z.Fault>0
  ·rw [if_pos hf] at hb ⊢;cases hs:shlO .i64 1 (IntKind.wrap .i64 (z.Fault-1)) with
   | none=>rw [hs] at hb;cases hb
   | some s =>
    rw [hs] at hb;simp only [Option.bind_some,Option.some.injEq] at hb ⊢;rw [hb]
  ·rw [if_neg hf] at hb ⊢;simp only [Option.some.injEq] at hb;rw [← hb,hc]
theorem Qbge (hp:Plt ev a) (h0:0<a.zH) {N:Nat} (hN:LabN ev a N):Qem ev a=some (labA ev a N,(labs ev a N).1):=by
 have hs:=hp.r.small;have hst:=hp.r.st;have hNl:=hN.le hp h0;unfold Qem Qha;obtain ⟨fuel,hfu,hge⟩ : ∃ f,Qbb=f∧1099511627776≤f:=⟨_,rfl,Nat.le_refl _⟩;rw [hfu,if_neg (by simp;omega)];refine Qfj (x:=((labs ev a N).1,[],[],[],(labs ev a N).2.1,(labs ev a N).2.2)) ?_ (by dsimp only;rw [hN.1];rfl);refine Qc6 (fun x=>∃ (n:Nat),n≤N∧x=((labs ev a n).1,(n:Int),[],[],[],(labs ev a n).2.1,(labs ev a n).2.2)) (fun x=>N-x.2.1.toNat) (fun x r=>r=some ((labs ev a N).1,[],[],[],(labs ev a N).2.1,(labs ev a N).2.2)) ?_ fuel _ ⟨0,Nat.zero_le _,rfl⟩ (by simp only [Int.toNat_zero];omega);rintro k _ ⟨n,hn,rfl⟩ ih;dsimp only;by_cases hlt:n<N
 ·have hnl:=hN.2 n hlt;have hI:=labI hp n (by omega) (fun m hm=>hN.2 m (by omega));have hB:=Qz5 hp h0 n;obtain ⟨x,hx,e⟩:=Q2i hnl;have hxm:=List.mem_of_getElem? hx;have hll:=Qz6 hp h0 n;have hml:(labs ev a n).2.1.length≤n:=by have:=Qgk hI.ms hI.mr;simpa using this
  have hel:=hI.el;rw [if_pos (by omega),getB hx];simp only [Option.bind_some];rw [Qbkl hs.1.2.1];simp only [Option.bind_some];refine Qfj (x:=((labs ev a (n+1)).1,(labs ev a (n+1)).2.1,(labs ev a (n+1)).2.2)) ?_ (by dsimp only;rw [Qy (by omega)];exact ih _ ⟨n+1,by omega,rfl⟩ (by simp only;omega));refine Qfj (x:=(labs ev a (n+1)).2.1) ?_ ?_
  ·rw [e];by_cases hm:x.State∈a.zF
   ·rw [decide_eq_true hm,if_pos rfl,if_pos hm,Qby (by simp only [List.length_cons,List.length_nil];unfold lim;omega)]
    rfl
   ·rw [decide_eq_false hm,if_neg (by simp),if_neg hm]
  have hof:(outP a x.State)=a.zG.filter fun y=>y.From==x.State:=rfl;have hof2:=Qbae hp.r x.State;refine Qc6 (fun z=>∃ (m:Nat) (S:List Lab) (r:List Qe),z=(S,(m:Int),r)∧m≤a.zG.length∧S[n]? = some x∧LbI a S∧r.length≤32*n+m ∧
   ((a.zG.drop m).filter fun y=>y.From==x.State).foldl (Qrb ev n x) (S,r)=((labs ev a (n+1)).1,(labs ev a (n+1)).2.2)) (fun z=>a.zG.length-z.2.1.toNat) (fun z r=>r=some ((labs ev a (n+1)).1,(labs ev a (n+1)).2.1,(labs ev a (n+1)).2.2)) ?_ fuel _ ⟨0,_,_,rfl,Nat.zero_le _,hx,hB,by omega,by rw [e,List.drop_zero,← hof]⟩ (by simp only [Int.toNat_zero];omega)
  rintro k' _ ⟨m,S,r,rfl,hm,hgs,hBS,hrl,hf⟩ ih';dsimp only;by_cases hlm:m<a.zG.length
  ·have hye:=List.getElem_mem hlm;rw [if_pos (by omega),Qbf hlm,getB hgs];rw [List.drop_eq_getElem_cons hlm] at hf;generalize a.zG[m]=y at hye hf ⊢;simp only [Option.bind_some];rw [List.filter_cons] at hf;have hSl:=hBS.len;have hst2:=hp.st;by_cases hfr:y.From=x.State
   ·rw [if_pos (by simp [hfr])] at hf;rw [if_neg (by simp [hfr]),Qblp hp hBS (List.mem_of_getElem? hgs) hye];simp only [Option.bind_some];rw [Qblo (by unfold big;omega)];simp only [Option.bind_some];have htl:=hBS.to hp (List.mem_of_getElem? hgs) hye;rw [List.foldl_cons] at hf;by_cases hin:toL ev x y∈S
    ·have hi:Qv1 S (toL ev x y)=S:=by unfold Qv1;rw [if_pos hin]
     rw [if_pos hin,if_neg (by omega)];simp only [Option.bind_some];rw [Qby (by simp only [List.length_cons,List.length_nil];unfold lim;omega)];simp only [Option.bind_some];rw [Qy (by omega)];refine ih' _ ⟨m+1,S,_,rfl,by omega,hgs,hBS,by rw [List.length_append];simp only [List.length_cons,List.length_nil];omega,?_⟩ (by simp only;omega);rw [← hf];unfold Qrb;rw [hi]
    ·have hi:Qv1 S (toL ev x y)=S++[toL ev x y]:=by unfold Qv1;rw [if_neg hin]
     rw [if_neg hin,if_pos (by omega),Qby (by simp only [List.length_cons,List.length_nil];unfold lim;omega)];simp only [Option.bind_some];rw [Qby (by simp only [List.length_cons,List.length_nil];unfold lim;omega)];simp only [Option.bind_some];rw [Qy (by omega)];have hBi:=hBS.add htl;rw [hi] at hBi;refine ih' _ ⟨m+1,S++[toL ev x y],_,rfl,by omega,by rw [List.getElem?_append_left (List.getElem?_eq_some_iff.1 hgs).1];exact hgs,hBi,by rw [List.length_append];simp only [List.length_cons,List.length_nil];omega,?_⟩ (by simp only;omega);rw [← hf];unfold Qrb;rw [hi,List.idxOf_append,if_neg hin];simp
   ·rw [if_neg (by simp [hfr])] at hf;rw [if_pos (by simp [hfr])];simp only [Option.bind_some];rw [Qy (by omega)];exact ih' _ ⟨m+1,S,r,rfl,by omega,hgs,hBS,by omega,hf⟩ (by simp only;omega)
  ·rw [if_neg (by omega)];have hd:a.zG.drop m=[]:=List.drop_eq_nil_of_le (by omega);rw [hd,List.filter_nil,List.foldl_nil,Prod.mk.injEq] at hf;obtain ⟨rfl,rfl⟩:=hf
   rfl
 ·obtain rfl:n=N:=by omega
  rw [if_neg (by have:=hN.1;omega)]
theorem Qbaf (h0:a.zH=0):Qem ev a=some (⟨a.zD,0,[],[]⟩,[]):=by
 unfold Qem Qha;rw [if_pos (by simp [h0])]
structure Lbd (ev:List Qc) (a b:Qa) (l:List Lab):Prop where
 p:Qdt ev a=some (b,l,0)
 w:Qem ev a=some (b,l)
 r:Right b
 n:b.zH=l.length
 z:a.zH=0↔b.zH=0
 al:b.zD=a.zD
 few:l.length≤3200
theorem Qblq (hp:Plt ev a):∃ b l,Lbd ev a b l:=by
 by_cases h0:a.zH=0
 ·exact ⟨_,_,Qbdc hp h0,Qbaf h0,⟨hp.r.al0,hp.r.al,⟨Int.le_refl _,by simp⟩,fun x hx=>by simp at hx,List.Pairwise.nil,fun x hx=>by simp at hx,List.Pairwise.nil⟩,rfl,by simp [h0],rfl,by simp⟩
 ·have hpos:0<a.zH:=by have:=hp.r.st;omega
  obtain ⟨N,hN⟩:=Qbf8 hp hpos;have h1:1≤N:=by
   rcases Nat.eq_zero_or_pos N with h|h
   ·subst h;have:=hN.1;simp [labs] at this
   ·exact h
  have:=hN.le hp hpos;exact ⟨_,_,Qbb3 hp hpos hN,Qbge hp hpos hN,Qbdb hp hpos hN,by rw [hN.1];rfl,by simp [labA];omega,rfl,by rw [hN.1];exact this⟩
end Go.Abs
end
section
namespace Go.Abs
open Go
def nmE (n:Nat):ByteArray:=strB [IntKind.wrap .u8 (97+IntKind.wrap .u8 (n:Int))]
def mkEv (n:Nat) (x:Int):Qc:=if 48≤x∧x<52 then ⟨nmE n,false,false,false,x-47⟩ else ⟨nmE n,andI .u8 x 1==1,andI .u8 x 2==2,andI .u8 x 4==4,0⟩
def evL:Nat→List Int→List Qc
 | _,[]=>[]
 | n,x::t=>mkEv n x::evL (n+1) t
theorem Q9b (n:Nat) (x:Int):(mkEv n x).Name=nmE n:=by unfold mkEv;split<;>rfl
theorem Qbkm {n:Nat} {x:Int} (hx:0≤x∧x<256):(0≤(mkEv n x).Fault∧(mkEv n x).Fault≤4)∧((mkEv n x).Fault≠0→(mkEv n x).Controllable=false∧(mkEv n x).Observable=false):=by
 unfold mkEv;split
 ·exact ⟨⟨by dsimp only;omega,by dsimp only;omega⟩,fun _=>⟨rfl,rfl⟩⟩
 ·exact ⟨⟨by simp,by simp⟩,fun h=>absurd rfl h⟩
theorem Qblr {F:Int×Int×Int×Int×Int} {n:Nat} {x:Int} (h:[F.1,F.2.1,F.2.2.1,F.2.2.2.1,F.2.2.2.2][n]? = some x):rowO [F.1,F.2.1,F.2.2.1,F.2.2.2.1,F.2.2.2.2] (Int.toNat (n:Int)*1)=some x:=by
 unfold rowO;rw [Int.toNat_natCast,Nat.mul_one];exact h
theorem Qbdf {F:Int×Int×Int×Int×Int} (hF:∀ x∈[F.1,F.2.1,F.2.2.1,F.2.2.2.1,F.2.2.2.2],0≤x∧x<256):Qgu F=some (evL 0 [F.1,F.2.1,F.2.2.1,F.2.2.2.1,F.2.2.2.2]):=by
 unfold Qgu Qct;obtain ⟨fuel,hfu,hge⟩ : ∃ f,Qbb=f∧1099511627776≤f:=⟨_,rfl,Nat.le_refl _⟩;rw [hfu];have hL:[F.1,F.2.1,F.2.2.1,F.2.2.2.1,F.2.2.2.2].length=5:=rfl;have hat:=fun n x=>Qblr (F:=F) (n:=n) (x:=x);generalize [F.1,F.2.1,F.2.2.1,F.2.2.2.1,F.2.2.2.2]=L at hF hL hat ⊢;refine Qfj (x:=evL 0 L) ?_ rfl;refine (Qez (len:=5) (fun n (acc:List Qc)=>(acc,(n:Int))) (fun n acc=>acc.length=n) (fun n acc=>some (acc++evL n (L.drop n))) ?_ ?_ fuel 0 [] (by omega) (by omega) rfl).trans (by simp)
 ·intro k n acc hn hi ih;have hlt:n<L.length:=by omega
  have hx:=hF _ (List.getElem_mem hlt);have hr:=hat n _ (List.getElem?_eq_getElem hlt);have hin:inO 5 (n:Int)=some ():=by unfold inO;rw [if_pos ⟨by omega,by omega⟩]
  rw [List.drop_eq_getElem_cons hlt];generalize L[n]=x at hx hr ⊢;dsimp only;rw [if_pos (by omega),hin];simp only [Option.bind_some,hr];have hfin:(appO acc [mkEv n x]).bind (fun x33=>k (x33,IntKind.wrap .i64 ((n:Int)+1)))=some (acc++evL n (x::L.drop (n+1))):=by
   rw [Qby (by simp only [List.length_cons,List.length_nil];unfold lim;omega),Option.bind_some,Qy (by omega),ih _ (by simp [hi])];simp [evL]
  by_cases h1:x≥48
  ·rw [if_pos h1];simp only [Option.bind_some];by_cases h2:x<52
   ·rw [decide_eq_true h2,if_pos rfl];simp only [Option.bind_some];rw [show IntKind.wrap .i64 ((IntKind.wrap .i64 x)-47)=x-47 from by rw [Qlb (x:=x) (by omega) (by omega),Qlb (by omega) (by omega)]];have:mkEv n x=⟨nmE n,false,false,false,x-47⟩:=by unfold mkEv;rw [if_pos ⟨h1,h2⟩]
    rw [this] at hfin;exact hfin
   ·rw [decide_eq_false h2,if_neg (by simp)];simp only [Option.bind_some];have:mkEv n x=⟨nmE n,andI .u8 x 1==1,andI .u8 x 2==2,andI .u8 x 4==4,0⟩:=by unfold mkEv;rw [if_neg (by omega)]
    rw [this] at hfin;exact hfin
  ·rw [if_neg h1];simp only [Option.bind_some];rw [if_neg (by simp)];simp only [Option.bind_some];have:mkEv n x=⟨nmE n,andI .u8 x 1==1,andI .u8 x 2==2,andI .u8 x 4==4,0⟩:=by unfold mkEv;rw [if_neg (by omega)]
   rw [this] at hfin;exact hfin
 ·intro k acc hi;dsimp only;rw [if_neg (by omega),List.drop_eq_nil_of_le (by omega)];simp [evL]
theorem Qv3 {seen:List ByteArray} {n:Nat} {x:Int} {l:List Qc} (hx:0≤x∧x<256) (h1:Q4t (nmE n)=true) (h2:Q4u (nmE n) seen=false):Qv2 seen (mkEv n x::l)=Qv2 (nmE n::seen) l:=by
 obtain ⟨h3,h4⟩:=Qbkm (n:=n) hx;simp only [Qv2,Q9b];rw [if_neg (by simp [h1]),if_neg (by simp [h2]),if_neg (by omega),if_neg];rintro ⟨h5,h6⟩;obtain ⟨h7,h8⟩:=h4 h5;rw [h7,h8] at h6;simp at h6
theorem Qbh4:(Q4t (nmE 0)&&Q4t (nmE 1)&&Q4t (nmE 2)&&Q4t (nmE 3)&&Q4t (nmE 4) && !Q4u (nmE 0) [] && !Q4u (nmE 1) [nmE 0] && !Q4u (nmE 2) [nmE 1,nmE 0] && !Q4u (nmE 3) [nmE 2,nmE 1,nmE 0] && !Q4u (nmE 4) [nmE 3,nmE 2,nmE 1,nmE 0])=true:=by kernel_rfl
theorem Qbh5:(decide ((nmE 0).size=1)&&decide ((nmE 1).size=1)&&decide ((nmE 2).size=1)&&decide ((nmE 3).size=1)&&decide ((nmE 4).size=1))=true:=by kernel_rfl
structure Evf (ev:List Qc):Prop where
 len:ev.length=5
 err:Qbdd ev=0
 nm:∀ x∈ev,x.Name.size<big
theorem Qbls {F:Int×Int×Int×Int×Int} (hF:∀ x∈[F.1,F.2.1,F.2.2.1,F.2.2.2.1,F.2.2.2.2],0≤x∧x<256):Evf (evL 0 [F.1,F.2.1,F.2.2.1,F.2.2.2.1,F.2.2.2.2]):=by
 obtain ⟨a,b,c,d,e⟩:=F;have hn:=Qbh4;have hz:=Qbh5;simp only [Bool.and_eq_true,Bool.not_eq_true',decide_eq_true_eq] at hn hz;simp only [List.mem_cons,List.not_mem_nil,or_false,forall_eq_or_imp,forall_eq] at hF;refine ⟨rfl,?_,?_⟩
 ·unfold Qbdd;rw [if_neg (by simp [evL])];simp only [evL];rw [Qv3 hF.1 (by simp [hn]) (by simp [hn]),Qv3 hF.2.1 (by simp [hn]) (by simp [hn]),Qv3 hF.2.2.1 (by simp [hn]) (by simp [hn]),Qv3 hF.2.2.2.1 (by simp [hn]) (by simp [hn]),Qv3 hF.2.2.2.2 (by simp [hn]) (by simp [hn])]
  rfl
 ·intro x hx;simp only [evL,List.mem_cons,List.not_mem_nil,or_false] at hx;rcases hx with rfl|rfl|rfl|rfl|rfl<;>rw [Q9b]<;>(try simp only [Nat.zero_add,Nat.reduceAdd])<;>unfold big<;>omega
structure Qbgf (p:Qbq):Prop where
 ev:0≤p.Events∧p.Events<256
 gr:Qbi2 p.Graph
 fl:∀ x∈[p.Flags.1,p.Flags.2.1,p.Flags.2.2.1,p.Flags.2.2.2.1,p.Flags.2.2.2.2],0≤x∧x<256
theorem Qbh6 {p:Qbq} (hp:Qbgf p):∃ ev a,Qhr p=some (ev,a)∧Plt ev a∧Evf ev∧a.zH≤5∧Evs a.zD∧a.zD.length≤5:=by
 obtain ⟨al,hal,hE⟩:=Qbf0 hp.ev.1 hp.ev.2;obtain ⟨m,hm,rfl,hmk,hst⟩:=Qbkg hE hp.gr;have hev:=Qbls hp.fl;refine ⟨_,Qvv m,?_,?_,hev,?_,hE,hE.len⟩
 ·unfold Qhr Qda;rw [Qbdf hp.fl];simp only [Option.bind_some];rw [hal];simp only [Option.bind_some];rw [hmk];rfl
 ·refine Qblm (by rw [hev.len];decide) hev.nm hev.err (Q8x hm) ?_ (fun x hx=>by rw [hev.len];have:=hE.rg x hx;omega);have h1:=(Qwj hm).1.len;simp only [Qvv];omega
 ·have h1:=(Qwj hm).1.len;simp only [Qvv];omega
end Go.Abs
end
section
namespace Go.Proofs
open Go Go.Abs
theorem Qbh7 {x:Int} (h:wfI .u8 x):0≤x∧x<256:=by
 unfold wfI at h;simp [Lit.wf,IntKind.min,IntKind.max,IntKind.bits,IntKind.signed] at h;omega
theorem Qbly {p:Qbq} (h:W_29 p):Qbgf p:=by
 unfold W_29 W_22 W_26 W_24 W_23 W_27 W_5 at h;obtain ⟨h0,⟨h1,h2,⟨a1,a2,a3,a4,a5⟩,⟨b1,b2,b3,b4,b5⟩,⟨c1,c2,c3,c4,c5⟩,⟨d1,d2,d3,d4,d5⟩,⟨e1,e2,e3,e4,e5⟩⟩,f1,f2,f3,f4,f5⟩:=h;refine ⟨Qbh7 h0,⟨Qbh7 h1,fun x hx=>?_⟩,fun x hx=>?_⟩
 ·simp only [List.mem_cons,List.not_mem_nil,or_false] at hx;rcases hx with rfl|rfl|rfl|rfl|rfl|rfl|rfl|rfl|rfl|rfl|rfl|rfl|rfl|rfl|rfl|rfl|rfl|rfl|rfl|rfl|rfl|rfl|rfl|rfl|rfl<;>exact Qbh7 (by assumption)
 ·simp only [List.mem_cons,List.not_mem_nil,or_false] at hx;rcases hx with rfl|rfl|rfl|rfl|rfl<;>exact Qbh7 (by assumption)
end Go.Proofs
end
section
namespace Go.Abs
open Go
structure Mrg (kp:Bool→Bool→Bool) (l m a b out:List Int):Prop where
 sa:a.Pairwise (· < ·)
 sb:b.Pairwise (· < ·)
 so:out.Pairwise (· < ·)
 oa:∀ o∈out,∀ x∈a,o<x
 ob:∀ o∈out,∀ x∈b,o<x
 ln:out.length+a.length+b.length<big
 eq:∀ x,(x∈out∨kp (decide (x∈a)) (decide (x∈b))=true)↔kp (decide (x∈l)) (decide (x∈m))=true
theorem Mrg.step {kp:Bool→Bool→Bool} (h0:kp false false=false) {l m a b out a' b' : List Int} {z:Int} {p q:Bool} (h:Mrg kp l m a b out) (ha:a=if p then z::a' else a') (hb:b=if q then z::b' else b') (hpq:p=true∨q=true)
  (hza:∀ x∈a',z<x) (hzb:∀ x∈b',z<x):Mrg kp l m a' b' (if kp p q then out++[z] else out):=by
 have ma:∀ x,x∈a↔(p=true∧x=z)∨x∈a':=fun x=>by rw [ha];cases p<;>simp
 have mb:∀ x,x∈b↔(q=true∧x=z)∨x∈b':=fun x=>by rw [hb];cases q<;>simp
 have hoz:∀ o∈out,o<z:=fun o ho=>by
  rcases hpq with rfl|rfl
  ·exact h.oa o ho z ((ma z).2 (.inl ⟨rfl,rfl⟩))
  ·exact h.ob o ho z ((mb z).2 (.inl ⟨rfl,rfl⟩))
 have hm:∀ o,o∈(if kp p q then out++[z] else out)↔o∈out∨(kp p q=true∧o=z):=fun o=>by cases kp p q<;>simp
 have hza' : z∉a':=fun hx=>by have:=hza z hx;omega
 have hzb' : z∉b':=fun hx=>by have:=hzb z hx;omega
 refine ⟨?_,?_,?_,?_,?_,?_,fun x=>?_⟩
 ·have:=h.sa;rw [ha] at this;cases p
  ·exact this
  ·exact (List.pairwise_cons.1 this).2
 ·have:=h.sb;rw [hb] at this;cases q
  ·exact this
  ·exact (List.pairwise_cons.1 this).2
 ·cases kp p q
  ·exact h.so
  ·simp only [if_true];rw [List.pairwise_append];exact ⟨h.so,by simp,fun o ho y hy=>by simp at hy;subst hy;exact hoz o ho⟩
 ·intro o ho x hx;rcases (hm o).1 ho with ho|⟨_,rfl⟩
  ·exact h.oa o ho x ((ma x).2 (.inr hx))
  ·exact hza x hx
 ·intro o ho x hx;rcases (hm o).1 ho with ho|⟨_,rfl⟩
  ·exact h.ob o ho x ((mb x).2 (.inr hx))
  ·exact hzb x hx
 ·have h1:=h.ln;have h2:a.length=a'.length+if p then 1 else 0:=by rw [ha];cases p<;>simp
  have h3:b.length=b'.length+if q then 1 else 0:=by rw [hb];cases q<;>simp
  have h4:(if kp p q then out++[z] else out).length≤out.length+1:=by split<;>simp
  rcases hpq with rfl|rfl<;>simp at h2 h3<;>omega
 ·rw [← h.eq x,hm];by_cases hx:x=z
  ·subst hx;have e1:decide (x∈a)=p:=by rw [Bool.eq_iff_iff,decide_eq_true_eq,ma];simp [hza']
   have e2:decide (x∈b)=q:=by rw [Bool.eq_iff_iff,decide_eq_true_eq,mb];simp [hzb']
   rw [e1,e2,decide_eq_false hza',decide_eq_false hzb',h0];simp
  ·have e1:decide (x∈a)=decide (x∈a'):=decide_eq_decide.2 (by rw [ma];simp [hx]);have e2:decide (x∈b)=decide (x∈b'):=decide_eq_decide.2 (by rw [mb];simp [hx]);rw [e1,e2];simp [hx]
theorem Qbh8 {kp:Bool→Bool→Bool} {keep:Bool→Bool→Option Bool} (hk:∀ p q,keep p q=some (kp p q)) (h0:kp false false=false) {l m:List Int} (hl:l.Pairwise (· < ·)) (hm:m.Pairwise (· < ·)) (hlm:l.length+m.length<big) :
  ∃ R,Qky l m keep=some R∧R.Pairwise (· < ·)∧∀ x,x∈R↔kp (decide (x∈l)) (decide (x∈m))=true:=by
 unfold Qky Qe6;obtain ⟨fuel,hfu,hge⟩ : ∃ f,Qbb=f∧1099511627776≤f:=⟨_,rfl,Nat.le_refl _⟩;rw [hfu];have hg:∀ (x:Int) (l:List Int),getO (x::l) 0=some x:=fun x l=>Qbf (l:=x::l) (n:=0) (by simp);have hd:∀ (x:Int) (l:List Int),slcO (x::l) 1 ((x::l).length:Int)=some l:=fun x l=>by
  have:=Qbbq (l:=x::l) (i:=1) (j:=(x::l).length) (by simp) (by simp);rw [List.take_length] at this;exact this
 have key:=Qc6 (F:=fun (k14:List Int×List Int×List Int→Option (List Int)) ((a11,b12,out13):(List Int)×(List Int)×(List Int))=>(((if ((a11.length:Int)>0) then some true else some (decide ((b12.length:Int)>0)))).bind fun (x16:Bool)=>(if x16 then (((if ((a11.length:Int)>0) then (if ((b12.length:Int)==0) then some true else ((getO a11 0).bind fun x20=>((getO b12 0).bind fun x22=>some (decide (x20≤x22))))) else some false)).bind fun (inA24:Bool)=>(((if ((b12.length:Int)>0) then (if ((a11.length:Int)==0) then some true else ((getO b12 0).bind fun x27=>((getO a11 0).bind fun x29=>some (decide (x27≤x29))))) else some false)).bind fun (inB31:Bool)=>(((if inA24 then ((getO a11 0).bind fun x33=>((slcO a11 1 (a11.length:Int)).bind fun x35=>some (x35,x33))) else some (a11,0))).bind fun ((a37,x38):(List Int)×Int)=>(((if inB31 then ((getO b12 0).bind fun x40=>((slcO b12 1 (b12.length:Int)).bind fun x42=>some (x42,x40))) else some (b12,x38))).bind fun ((b44,x45):(List Int)×Int)=>((keep inA24 inB31).bind fun x47=>(if x47 then ((appO out13 [x45]).bind fun x49=>k14 (a37,b44,x49)) else k14 (a37,b44,out13))))))) else some out13)))
  (fun x:List Int×List Int×List Int=>Mrg kp l m x.1 x.2.1 x.2.2) (fun x=>x.1.length+x.2.1.length) (fun _ r=>∃ R,r=some R∧R.Pairwise (· < ·)∧∀ x,x∈R↔kp (decide (x∈l)) (decide (x∈m))=true) ?_ fuel (l,m,[]) ⟨hl,hm,by simp,by simp,by simp,by simpa using hlm,by simp⟩ (by unfold big at hlm;dsimp only;omega)
 ·obtain ⟨R,h1,h2,h3⟩:=key;exact ⟨R,by rw [h1];rfl,h2,h3⟩
 rintro k ⟨a,b,out⟩ h ih;dsimp only at h ih ⊢;have hln:=h.ln;have happ:∀ z:Int,out.length+1≤big→appO out [z]=some (out++[z]):=fun z hz=>Qby (by simp only [List.length_cons,List.length_nil];unfold lim;unfold big at hz;omega);have fin:∀ (a' b' : List Int) (z:Int) (p q:Bool),out.length+1≤big→Mrg kp l m a' b' (if kp p q then out++[z] else out)→a'.length+b'.length<a.length+b.length →
   ∃ R,((keep p q).bind fun x47=>if x47 then ((appO out [z]).bind fun x49=>k (a',b',x49)) else k (a',b',out))=some R∧R.Pairwise (· < ·)∧∀ x,x∈R↔kp (decide (x∈l)) (decide (x∈m))=true:=by
  intro a' b' z p q hz hM hlt;rw [hk,happ z hz];simp only [Option.bind_some];have:=ih (a',b',if kp p q then out++[z] else out) hM hlt;cases hkp:kp p q<;>simp only [hkp,Bool.false_eq_true,if_false,if_true] at this ⊢ <;> exact this
 match a,b,h,fin,hln with
 | [],[],h,fin,hln =>
  refine ⟨out,by simp,h.so,fun x=>?_⟩;rw [← h.eq x];simp [h0]
 | [],y::ys,h,fin,hln =>
  rw [show ((([]:List Int).length:Nat):Int)=0 from rfl];have hp:(((y::ys).length:Nat):Int)>0:=by simp only [List.length_cons];omega
  rw [if_neg (by omega),Option.bind_some,if_pos (by simp)];rw [if_neg (by omega),Option.bind_some,if_pos hp,if_pos (by rfl),Option.bind_some,if_neg (by simp),Option.bind_some,if_pos rfl,hg,hd];simp only [Option.bind_some];exact fin [] ys y false true (by simp only [List.length_cons] at hln;omega) (h.step h0 (z:=y) (p:=false) (q:=true) rfl rfl (.inr rfl) (by simp) (List.pairwise_cons.1 h.sb).1) (by simp)
 | x::xs,[],h,fin,hln =>
  rw [show ((([]:List Int).length:Nat):Int)=0 from rfl];have hp:(((x::xs).length:Nat):Int)>0:=by simp only [List.length_cons];omega
  rw [if_pos hp,Option.bind_some,if_pos rfl,if_pos hp,if_pos (by rfl),Option.bind_some,if_neg (by omega),Option.bind_some,if_pos rfl,hg,hd];simp only [Option.bind_some,Bool.false_eq_true,if_false];exact fin xs [] x true false (by simp only [List.length_cons] at hln;omega) (h.step h0 (z:=x) (p:=true) (q:=false) rfl rfl (.inl rfl) (List.pairwise_cons.1 h.sa).1 (by simp)) (by simp)
 | x::xs,y::ys,h,fin,hln =>
  obtain ⟨ha1,ha2⟩:=List.pairwise_cons.1 h.sa;obtain ⟨hb1,hb2⟩:=List.pairwise_cons.1 h.sb;have hp:(((x::xs).length:Nat):Int)>0:=by simp only [List.length_cons];omega
  have hq:(((y::ys).length:Nat):Int)>0:=by simp only [List.length_cons];omega
  have hp0:((((x::xs).length:Nat):Int)==0)=false:=by simp only [beq_eq_false_iff_ne];omega
  have hq0:((((y::ys).length:Nat):Int)==0)=false:=by simp only [beq_eq_false_iff_ne];omega
  rw [if_pos hp,Option.bind_some,if_pos rfl,if_pos hp,if_neg (by rw [hq0];simp),hg,hg,Option.bind_some,Option.bind_some,Option.bind_some,if_pos hq,if_neg (by rw [hp0];simp),Option.bind_some,Option.bind_some,Option.bind_some,hd,hd];simp only [List.length_cons] at hln;rcases Int.lt_trichotomy x y with hxy|rfl|hxy
  ·have e1:decide (x≤y)=true:=decide_eq_true (by omega);have e2:decide (y≤x)=false:=decide_eq_false (by omega);simp only [e1,e2,Option.bind_some,if_true,Bool.false_eq_true,if_false];exact fin xs (y::ys) x true false (by omega) (h.step h0 (z:=x) (p:=true) (q:=false) rfl rfl (.inl rfl) ha1 (fun z hz=>by
    rcases List.mem_cons.1 hz with rfl|hz
    ·exact hxy
    ·have:=hb1 z hz;omega)) (by simp)
  ·have e1:decide (x≤x)=true:=decide_eq_true (by omega);simp only [e1,Option.bind_some,if_true];exact fin xs ys x true true (by omega) (h.step h0 (z:=x) (p:=true) (q:=true) rfl rfl (.inl rfl) ha1 hb1) (by simp;omega)
  ·have e1:decide (x≤y)=false:=decide_eq_false (by omega);have e2:decide (y≤x)=true:=decide_eq_true (by omega);simp only [e1,e2,Option.bind_some,if_true,Bool.false_eq_true,if_false];exact fin (x::xs) ys y false true (by omega) (h.step h0 (z:=y) (p:=false) (q:=true) rfl rfl (.inr rfl) (fun z hz=>by
    rcases List.mem_cons.1 hz with rfl|hz
    ·exact hxy
    ·have:=ha1 z hz;omega) hb1) (by simp)
end Go.Abs
end
section
namespace Go.Abs
open Go
theorem Q9c {l m:List Int} (hl:l.Pairwise (· < ·)) (hm:m.Pairwise (· < ·)) (hlm:l.length+m.length<big) :
  ∃ R,Qhp l m=some R∧R.Pairwise (· < ·)∧∀ x,x∈R↔x∈l∧x∈m:=by
 unfold Qhp Qc7;obtain ⟨R,h1,h2,h3⟩:=Qbh8 (kp:=fun p q=>p&&q) (keep:=Qiv) (fun p q=>by cases p<;>cases q<;>rfl) rfl hl hm hlm;exact ⟨R,by rw [h1];rfl,h2,fun x=>by rw [h3];simp⟩
end Go.Abs
end
