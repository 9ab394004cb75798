/-
  Part 12 of the proof: see the last text.
-/
import Derived.Test.YtjngkimolkhdmaaGreatP11
import Derived.KernelRfl
set_option linter.unusedVariables false
set_option linter.unusedSimpArgs false
set_option linter.unusedSectionVars false
section
namespace Go.Abs
open Go
def nmE (n:Nat):ByteArray:=strB [IntKind.wrap .u8 (97+IntKind.wrap .u8 (n:Int))]
def mkEv (n:Nat) (x:Int):Qd:=if 48≤x∧x<52 then ⟨nmE n,false,false,false,x-47⟩ else ⟨nmE n,andI .u8 x 1==1,andI .u8 x 2==2,andI .u8 x 4==4,0⟩
def evL:Nat→List Int→List Qd
 | _,[]=>[]
 | n,x::t=>mkEv n x::evL (n+1) t
theorem Q5t (n:Nat) (x:Int):(mkEv n x).Name=nmE n:=by unfold mkEv;split<;>rfl
theorem Qbf5 {n:Nat} {x:Int} (hx:0≤x∧x<256):(0≤(mkEv n x).Fault∧(mkEv n x).Fault≤4)∧((mkEv n x).Fault≠0→(mkEv n x).Controllable=false∧(mkEv n x).Observable=false):=by
 unfold mkEv;split
 ·exact ⟨⟨by dsimp only;omega,by dsimp only;omega⟩,fun _=>⟨rfl,rfl⟩⟩
 ·exact ⟨⟨by simp,by simp⟩,fun h=>absurd rfl h⟩
theorem Qbhc {F:Int×Int×Int×Int×Int} {n:Nat} {x:Int} (h:[F.1,F.2.1,F.2.2.1,F.2.2.2.1,F.2.2.2.2][n]? = some x):rowO [F.1,F.2.1,F.2.2.1,F.2.2.2.1,F.2.2.2.2] (Int.toNat (n:Int)*1)=some x:=by
 unfold rowO;rw [Int.toNat_natCast,Nat.mul_one];exact h
theorem Q9o {F:Int×Int×Int×Int×Int} (hF:∀ x∈[F.1,F.2.1,F.2.2.1,F.2.2.2.1,F.2.2.2.2],0≤x∧x<256):Qga F=some (evL 0 [F.1,F.2.1,F.2.2.1,F.2.2.2.1,F.2.2.2.2]):=by
 unfold Qga Qco;obtain ⟨fuel,hfu,hge⟩ : ∃ f,Qbd=f∧1099511627776≤f:=⟨_,rfl,Nat.le_refl _⟩;rw [hfu];have hL:[F.1,F.2.1,F.2.2.1,F.2.2.2.1,F.2.2.2.2].length=5:=rfl;have hat:=fun n x=>Qbhc (F:=F) (n:=n) (x:=x);generalize [F.1,F.2.1,F.2.2.1,F.2.2.2.1,F.2.2.2.2]=L at hF hL hat ⊢;refine Qem (x:=evL 0 L) ?_ rfl;refine (Qfr (len:=5) (fun n (acc:List Qd)=>(acc,(n:Int))) (fun n acc=>acc.length=n) (fun n acc=>some (acc++evL n (L.drop n))) ?_ ?_ fuel 0 [] (by omega) (by omega) rfl).trans (by simp)
 ·intro k n acc hn hi ih;have hlt:n<L.length:=by omega
  have hx:=hF _ (List.getElem_mem hlt);have hr:=hat n _ (List.getElem?_eq_getElem hlt);have hin:inO 5 (n:Int)=some ():=by unfold inO;rw [if_pos ⟨by omega,by omega⟩]
  rw [List.drop_eq_getElem_cons hlt];generalize L[n]=x at hx hr ⊢;dsimp only;rw [if_pos (by omega),hin];simp only [Option.bind_some,hr];have hfin:(appO acc [mkEv n x]).bind (fun x33=>k (x33,IntKind.wrap .i64 ((n:Int)+1)))=some (acc++evL n (x::L.drop (n+1))):=by
   rw [Qb1 (by simp only [List.length_cons,List.length_nil];unfold lim;omega),Option.bind_some,Q9 (by omega),ih _ (by simp [hi])];simp [evL]
  by_cases h1:x≥48
  ·rw [if_pos h1];simp only [Option.bind_some];by_cases h2:x<52
   ·rw [decide_eq_true h2,if_pos rfl];simp only [Option.bind_some];rw [show IntKind.wrap .i64 ((IntKind.wrap .i64 x)-47)=x-47 from by rw [Qkv (x:=x) (by omega) (by omega),Qkv (by omega) (by omega)]];have:mkEv n x=⟨nmE n,false,false,false,x-47⟩:=by unfold mkEv;rw [if_pos ⟨h1,h2⟩]
    rw [this] at hfin;exact hfin
   ·rw [decide_eq_false h2,if_neg (by simp)];simp only [Option.bind_some];have:mkEv n x=⟨nmE n,andI .u8 x 1==1,andI .u8 x 2==2,andI .u8 x 4==4,0⟩:=by unfold mkEv;rw [if_neg (by omega)]
    rw [this] at hfin;exact hfin
  ·rw [if_neg h1];simp only [Option.bind_some];rw [if_neg (by simp)];simp only [Option.bind_some];have:mkEv n x=⟨nmE n,andI .u8 x 1==1,andI .u8 x 2==2,andI .u8 x 4==4,0⟩:=by unfold mkEv;rw [if_neg (by omega)]
   rw [this] at hfin;exact hfin
 ·intro k acc hi;dsimp only;rw [if_neg (by omega),List.drop_eq_nil_of_le (by omega)];simp [evL]
theorem Qt2 {seen:List ByteArray} {n:Nat} {x:Int} {l:List Qd} (hx:0≤x∧x<256) (h1:Q1f (nmE n)=true) (h2:Q1g (nmE n) seen=false):Qt1 seen (mkEv n x::l)=Qt1 (nmE n::seen) l:=by
 obtain ⟨h3,h4⟩:=Qbf5 (n:=n) hx;simp only [Qt1,Q5t];rw [if_neg (by simp [h1]),if_neg (by simp [h2]),if_neg (by omega),if_neg];rintro ⟨h5,h6⟩;obtain ⟨h7,h8⟩:=h4 h5;rw [h7,h8] at h6;simp at h6
theorem Qbdu:(Q1f (nmE 0)&&Q1f (nmE 1)&&Q1f (nmE 2)&&Q1f (nmE 3)&&Q1f (nmE 4) && !Q1g (nmE 0) [] && !Q1g (nmE 1) [nmE 0] && !Q1g (nmE 2) [nmE 1,nmE 0] && !Q1g (nmE 3) [nmE 2,nmE 1,nmE 0] && !Q1g (nmE 4) [nmE 3,nmE 2,nmE 1,nmE 0])=true:=by kernel_rfl
theorem Qbdv:(decide ((nmE 0).size=1)&&decide ((nmE 1).size=1)&&decide ((nmE 2).size=1)&&decide ((nmE 3).size=1)&&decide ((nmE 4).size=1))=true:=by kernel_rfl
structure Evf (ev:List Qd):Prop where
 len:ev.length=5
 err:Q9m ev=0
 nm:∀ x∈ev,x.Name.size<big
theorem Qbhd {F:Int×Int×Int×Int×Int} (hF:∀ x∈[F.1,F.2.1,F.2.2.1,F.2.2.2.1,F.2.2.2.2],0≤x∧x<256):Evf (evL 0 [F.1,F.2.1,F.2.2.1,F.2.2.2.1,F.2.2.2.2]):=by
 obtain ⟨a,b,c,d,e⟩:=F;have hn:=Qbdu;have hz:=Qbdv;simp only [Bool.and_eq_true,Bool.not_eq_true',decide_eq_true_eq] at hn hz;simp only [List.mem_cons,List.not_mem_nil,or_false,forall_eq_or_imp,forall_eq] at hF;refine ⟨rfl,?_,?_⟩
 ·unfold Q9m;rw [if_neg (by simp [evL])];simp only [evL];rw [Qt2 hF.1 (by simp [hn]) (by simp [hn]),Qt2 hF.2.1 (by simp [hn]) (by simp [hn]),Qt2 hF.2.2.1 (by simp [hn]) (by simp [hn]),Qt2 hF.2.2.2.1 (by simp [hn]) (by simp [hn]),Qt2 hF.2.2.2.2 (by simp [hn]) (by simp [hn])]
  rfl
 ·intro x hx;simp only [evL,List.mem_cons,List.not_mem_nil,or_false] at hx;rcases hx with rfl|rfl|rfl|rfl|rfl<;>rw [Q5t]<;>(try simp only [Nat.zero_add,Nat.reduceAdd])<;>unfold big<;>omega
structure Qbcd (p:Qbl):Prop where
 ev:0≤p.Events∧p.Events<256
 gr:Qbej p.Graph
 fl:∀ x∈[p.Flags.1,p.Flags.2.1,p.Flags.2.2.1,p.Flags.2.2.2.1,p.Flags.2.2.2.2],0≤x∧x<256
theorem Qbdw {p:Qbl} (hp:Qbcd p):∃ ev a,Qg3 p=some (ev,a)∧Plt ev a∧Evf ev∧a.zH≤5∧Evs a.zD∧a.zD.length≤5:=by
 obtain ⟨al,hal,hE⟩:=Qbb1 hp.ev.1 hp.ev.2;obtain ⟨m,hm,rfl,hmk,hst⟩:=Qbfy hE hp.gr;have hev:=Qbhd hp.fl;refine ⟨_,Qtw m,?_,?_,hev,?_,hE,hE.len⟩
 ·unfold Qg3 Qc5;rw [Q9o hp.fl];simp only [Option.bind_some];rw [hal];simp only [Option.bind_some];rw [hmk];rfl
 ·refine Qbg7 (by rw [hev.len];decide) hev.nm hev.err (Q5f hm) ?_ (fun x hx=>by rw [hev.len];have:=hE.rg x hx;omega);have h1:=(Qug hm).1.len;simp only [Qtw];omega
 ·have h1:=(Qug hm).1.len;simp only [Qtw];omega
end Go.Abs
end
section
namespace Go.Proofs
open Go Go.Abs
theorem Qbdx {x:Int} (h:wfI .u8 x):0≤x∧x<256:=by
 unfold wfI at h;simp [Lit.wf,IntKind.min,IntKind.max,IntKind.bits,IntKind.signed] at h;omega
theorem Qbhf {p:Qbl} (h:W_29 p):Qbcd p:=by
 unfold W_29 W_22 W_26 W_24 W_23 W_27 W_5 at h;obtain ⟨h0,⟨h1,h2,⟨a1,a2,a3,a4,a5⟩,⟨b1,b2,b3,b4,b5⟩,⟨c1,c2,c3,c4,c5⟩,⟨d1,d2,d3,d4,d5⟩,⟨e1,e2,e3,e4,e5⟩⟩,f1,f2,f3,f4,f5⟩:=h;refine ⟨Qbdx h0,⟨Qbdx h1,fun x hx=>?_⟩,fun x hx=>?_⟩
 ·simp only [List.mem_cons,List.not_mem_nil,or_false] at hx;rcases hx with rfl|rfl|rfl|rfl|rfl|rfl|rfl|rfl|rfl|rfl|rfl|rfl|rfl|rfl|rfl|rfl|rfl|rfl|rfl|rfl|rfl|rfl|rfl|rfl|rfl<;>exact Qbdx (by assumption)
 ·simp only [List.mem_cons,List.not_mem_nil,or_false] at hx;rcases hx with rfl|rfl|rfl|rfl|rfl<;>exact Qbdx (by assumption)
end Go.Proofs
end
section
namespace Go.Abs
open Go
structure Mrg (kp:Bool→Bool→Bool) (l m a b out:List Int):Prop where
 sa:a.Pairwise (· < ·)
 sb:b.Pairwise (· < ·)
 so:out.Pairwise (· < ·)
 oa:∀ o∈out,∀ x∈a,o<x
 ob:∀ o∈out,∀ x∈b,o<x
 ln:out.length+a.length+b.length<big
 eq:∀ x,(x∈out∨kp (decide (x∈a)) (decide (x∈b))=true)↔kp (decide (x∈l)) (decide (x∈m))=true
theorem Mrg.step {kp:Bool→Bool→Bool} (h0:kp false false=false) {l m a b out a' b' : List Int} {z:Int} {p q:Bool} (h:Mrg kp l m a b out) (ha:a=if p then z::a' else a') (hb:b=if q then z::b' else b') (hpq:p=true∨q=true)
  (hza:∀ x∈a',z<x) (hzb:∀ x∈b',z<x):Mrg kp l m a' b' (if kp p q then out++[z] else out):=by
 have ma:∀ x,x∈a↔(p=true∧x=z)∨x∈a':=fun x=>by rw [ha];cases p<;>simp
 have mb:∀ x,x∈b↔(q=true∧x=z)∨x∈b':=fun x=>by rw [hb];cases q<;>simp
 have hoz:∀ o∈out,o<z:=fun o ho=>by
  rcases hpq with rfl|rfl
  ·exact h.oa o ho z ((ma z).2 (.inl ⟨rfl,rfl⟩))
  ·exact h.ob o ho z ((mb z).2 (.inl ⟨rfl,rfl⟩))
 have hm:∀ o,o∈(if kp p q then out++[z] else out)↔o∈out∨(kp p q=true∧o=z):=fun o=>by cases kp p q<;>simp
 have hza' : z∉a':=fun hx=>by have:=hza z hx;omega
 have hzb' : z∉b':=fun hx=>by have:=hzb z hx;omega
 refine ⟨?_,?_,?_,?_,?_,?_,fun x=>?_⟩
 ·have:=h.sa;rw [ha] at this;cases p
  ·exact this
  ·exact (List.pairwise_cons.1 this).2
 ·have:=h.sb;rw [hb] at this;cases q
  ·exact this
  ·exact (List.pairwise_cons.1 this).2
 ·cases kp p q
  ·exact h.so
  ·simp only [if_true];rw [List.pairwise_append];exact ⟨h.so,by simp,fun o ho y hy=>by simp at hy;subst hy;exact hoz o ho⟩
 ·intro o ho x hx;rcases (hm o).1 ho with ho|⟨_,rfl⟩
  ·exact h.oa o ho x ((ma x).2 (.inr hx))
  ·exact hza x hx
 ·intro o ho x hx;rcases (hm o).1 ho with ho|⟨_,rfl⟩
  ·exact h.ob o ho x ((mb x).2 (.inr hx))
  ·exact hzb x hx
 ·have h1:=h.ln;have h2:a.length=a'.length+if p then 1 else 0:=by rw [ha];cases p<;>simp
  have h3:b.length=b'.length+if q then 1 else 0:=by rw [hb];cases q<;>simp
  have h4:(if kp p q then out++[z] else out).length≤out.length+1:=by split<;>simp
  rcases hpq with rfl|rfl<;>simp at h2 h3<;>omega
 ·rw [← h.eq x,hm];by_cases hx:x=z
  ·subst hx;have e1:decide (x∈a)=p:=by rw [Bool.eq_iff_iff,decide_eq_true_eq,ma];simp [hza']
   have e2:decide (x∈b)=q:=by rw [Bool.eq_iff_iff,decide_eq_true_eq,mb];simp [hzb']
   rw [e1,e2,decide_eq_false hza',decide_eq_false hzb',h0];simp
  ·have e1:decide (x∈a)=decide (x∈a'):=decide_eq_decide.2 (by rw [ma];simp [hx]);have e2:decide (x∈b)=decide (x∈b'):=decide_eq_decide.2 (by rw [mb];simp [hx]);rw [e1,e2];simp [hx]
theorem Qbdy {kp:Bool→Bool→Bool} {keep:Bool→Bool→Option Bool} (hk:∀ p q,keep p q=some (kp p q)) (h0:kp false false=false) {l m:List Int} (hl:l.Pairwise (· < ·)) (hm:m.Pairwise (· < ·)) (hlm:l.length+m.length<big) :
  ∃ R,Qjz l m keep=some R∧R.Pairwise (· < ·)∧∀ x,x∈R↔kp (decide (x∈l)) (decide (x∈m))=true:=by
 unfold Qjz Qet;obtain ⟨fuel,hfu,hge⟩ : ∃ f,Qbd=f∧1099511627776≤f:=⟨_,rfl,Nat.le_refl _⟩;rw [hfu];have hg:∀ (x:Int) (l:List Int),getO (x::l) 0=some x:=fun x l=>Qbp (l:=x::l) (n:=0) (by simp);have hd:∀ (x:Int) (l:List Int),slcO (x::l) 1 ((x::l).length:Int)=some l:=fun x l=>by
  have:=Qbdh (l:=x::l) (i:=1) (j:=(x::l).length) (by simp) (by simp);rw [List.take_length] at this;exact this
 have key:=Qd0 (F:=fun (k14:List Int×List Int×List Int→Option (List Int)) ((a11,b12,out13):(List Int)×(List Int)×(List Int))=>(((if ((a11.length:Int)>0) then some true else some (decide ((b12.length:Int)>0)))).bind fun (x16:Bool)=>(if x16 then (((if ((a11.length:Int)>0) then (if ((b12.length:Int)==0) then some true else ((getO a11 0).bind fun x20=>((getO b12 0).bind fun x22=>some (decide (x20≤x22))))) else some false)).bind fun (inA24:Bool)=>(((if ((b12.length:Int)>0) then (if ((a11.length:Int)==0) then some true else ((getO b12 0).bind fun x27=>((getO a11 0).bind fun x29=>some (decide (x27≤x29))))) else some false)).bind fun (inB31:Bool)=>(((if inA24 then ((getO a11 0).bind fun x33=>((slcO a11 1 (a11.length:Int)).bind fun x35=>some (x35,x33))) else some (a11,0))).bind fun ((a37,x38):(List Int)×Int)=>(((if inB31 then ((getO b12 0).bind fun x40=>((slcO b12 1 (b12.length:Int)).bind fun x42=>some (x42,x40))) else some (b12,x38))).bind fun ((b44,x45):(List Int)×Int)=>((keep inA24 inB31).bind fun x47=>(if x47 then ((appO out13 [x45]).bind fun x49=>k14 (a37,b44,x49)) else k14 (a37,b44,out13))))))) else some out13)))
  (fun x:List Int×List Int×List Int=>Mrg kp l m x.1 x.2.1 x.2.2) (fun x=>x.1.length+x.2.1.length) (fun _ r=>∃ R,r=some R∧R.Pairwise (· < ·)∧∀ x,x∈R↔kp (decide (x∈l)) (decide (x∈m))=true) ?_ fuel (l,m,[]) ⟨hl,hm,by simp,by simp,by simp,by simpa using hlm,by simp⟩ (by unfold big at hlm;dsimp only;omega)
 ·obtain ⟨R,h1,h2,h3⟩:=key;exact ⟨R,by rw [h1];rfl,h2,h3⟩
 rintro k ⟨a,b,out⟩ h ih;dsimp only at h ih ⊢;have hln:=h.ln;have happ:∀ z:Int,out.length+1≤big→appO out [z]=some (out++[z]):=fun z hz=>Qb1 (by simp only [List.length_cons,List.length_nil];unfold lim;unfold big at hz;omega);have fin:∀ (a' b' : List Int) (z:Int) (p q:Bool),out.length+1≤big→Mrg kp l m a' b' (if kp p q then out++[z] else out)→a'.length+b'.length<a.length+b.length →
   ∃ R,((keep p q).bind fun x47=>if x47 then ((appO out [z]).bind fun x49=>k (a',b',x49)) else k (a',b',out))=some R∧R.Pairwise (· < ·)∧∀ x,x∈R↔kp (decide (x∈l)) (decide (x∈m))=true:=by
  intro a' b' z p q hz hM hlt;rw [hk,happ z hz];simp only [Option.bind_some];have:=ih (a',b',if kp p q then out++[z] else out) hM hlt;cases hkp:kp p q<;>simp only [hkp,Bool.false_eq_true,if_false,if_true] at this ⊢ <;> exact this
 match a,b,h,fin,hln with
 | [],[],h,fin,hln =>
  refine ⟨out,by simp,h.so,fun x=>?_⟩;rw [← h.eq x];simp [h0]
 | [],y::ys,h,fin,hln =>
  rw [show ((([]:List Int).length:Nat):Int)=0 from rfl];have hp:(((y::ys).length:Nat):Int)>0:=by simp only [List.length_cons];omega
  rw [if_neg (by omega),Option.bind_some,if_pos (by simp)];rw [if_neg (by omega),Option.bind_some,if_pos hp,if_pos (by rfl),Option.bind_some,if_neg (by simp),Option.bind_some,if_pos rfl,hg,hd];simp only [Option.bind_some];exact fin [] ys y false true (by simp only [List.length_cons] at hln;omega) (h.step h0 (z:=y) (p:=false) (q:=true) rfl rfl (.inr rfl) (by simp) (List.pairwise_cons.1 h.sb).1) (by simp)
 | x::xs,[],h,fin,hln =>
  rw [show ((([]:List Int).length:Nat):Int)=0 from rfl];have hp:(((x::xs).length:Nat):Int)>0:=by simp only [List.length_cons];omega
  rw [if_pos hp,Option.bind_some,if_pos rfl,if_pos hp,if_pos (by rfl),Option.bind_some,if_neg (by omega),Option.bind_some,if_pos rfl,hg,hd];simp only [Option.bind_some,Bool.false_eq_true,if_false];exact fin xs [] x true false (by simp only [List.length_cons] at hln;omega) (h.step h0 (z:=x) (p:=true) (q:=false) rfl rfl (.inl rfl) (List.pairwise_cons.1 h.sa).1 (by simp)) (by simp)
 | x::xs,y::ys,h,fin,hln =>
  obtain ⟨ha1,ha2⟩:=List.pairwise_cons.1 h.sa;obtain ⟨hb1,hb2⟩:=List.pairwise_cons.1 h.sb;have hp:(((x::xs).length:Nat):Int)>0:=by simp only [List.length_cons];omega
  have hq:(((y::ys).length:Nat):Int)>0:=by simp only [List.length_cons];omega
  have hp0:((((x::xs).length:Nat):Int)==0)=false:=by simp only [beq_eq_false_iff_ne];omega
  have hq0:((((y::ys).length:Nat):Int)==0)=false:=by simp only [beq_eq_false_iff_ne];omega
  rw [if_pos hp,Option.bind_some,if_pos rfl,if_pos hp,if_neg (by rw [hq0];simp),hg,hg,Option.bind_some,Option.bind_some,Option.bind_some,if_pos hq,if_neg (by rw [hp0];simp),Option.bind_some,Option.bind_some,Option.bind_some,hd,hd];simp only [List.length_cons] at hln;rcases Int.lt_trichotomy x y with hxy|rfl|hxy
  ·have e1:decide (x≤y)=true:=decide_eq_true (by omega);have e2:decide (y≤x)=false:=decide_eq_false (by omega);simp only [e1,e2,Option.bind_some,if_true,Bool.false_eq_true,if_false];exact fin xs (y::ys) x true false (by omega) (h.step h0 (z:=x) (p:=true) (q:=false) rfl rfl (.inl rfl) ha1 (fun z hz=>by
    rcases List.mem_cons.1 hz with rfl|hz
    ·exact hxy
    ·have:=hb1 z hz;omega)) (by simp)
  ·have e1:decide (x≤x)=true:=decide_eq_true (by omega);simp only [e1,Option.bind_some,if_true];exact fin xs ys x true true (by omega) (h.step h0 (z:=x) (p:=true) (q:=true) rfl rfl (.inl rfl) ha1 hb1) (by simp;omega)
  ·have e1:decide (x≤y)=false:=decide_eq_false (by omega);have e2:decide (y≤x)=true:=decide_eq_true (by omega);simp only [e1,e2,Option.bind_some,if_true,Bool.false_eq_true,if_false];exact fin (x::xs) ys y false true (by omega) (h.step h0 (z:=y) (p:=false) (q:=true) rfl rfl (.inr rfl) (fun z hz=>by
    rcases List.mem_cons.1 hz with rfl|hz
    ·exact hxy
    ·have:=ha1 z hz;omega) hb1) (by simp)
end Go.Abs
end
section
namespace Go.Abs
open Go
theorem Q5u {l m:List Int} (hl:l.Pairwise (· < ·)) (hm:m.Pairwise (· < ·)) (hlm:l.length+m.length<big) :
  ∃ R,Qg1 l m=some R∧R.Pairwise (· < ·)∧∀ x,x∈R↔x∈l∧x∈m:=by
 unfold Qg1 Qc2;obtain ⟨R,h1,h2,h3⟩:=Qbdy (kp:=fun p q=>p&&q) (keep:=Qh5) (fun p q=>by cases p<;>cases q<;>rfl) rfl hl hm hlm;exact ⟨R,by rw [h1];rfl,h2,fun x=>by rw [h3];simp⟩
end Go.Abs
end
section
namespace Go.Abs
open Go
theorem Sts.err {a:Qa} {l:List Int} (h:Sts a l):Qf6 a.zH none l=0:=Qi4.2 ⟨h.rg,h.so,fun y hy=>by cases hy⟩
theorem Sts.big {a:Qa} (ha:Right a) {l:List Int} (h:Sts a l):l.length<Abs.big:=by have:=h.len;have:=ha.st;unfold Abs.big;omega
theorem EvSet.big {l:List Int} (h:EvSet l):l.length<Abs.big:=by have:=h.len;unfold Abs.big;omega
theorem Q09 {a:Qa} (h:Right a) {onto obs:List Int} (ho:EvSet onto) (hl:obs.length<big):Qea a onto obs=some (if (obs.all fun x=>decide (x∈Qty a onto))=true then (estP a onto obs,0) else ([],9)):=by
 have hst:=h.st;unfold Qea Qbj;rw [Q5o h ho.big,ho.err];simp only [Option.bind_some,show ((0:Int) != 0)=false from rfl,Bool.false_eq_true,if_false];rw [Q9f h ho.big];simp only [Option.bind_some];rw [Q6x h hl];simp only [Option.bind_some];by_cases hk:(obs.all fun x=>decide (x∈Qty a onto))=true
 ·rw [if_pos hk,if_pos hk,Qbdo h onto];simp only [Option.bind_some];refine Qem (x:=estP a onto obs) ?_ rfl;refine (Q2m (l:=obs) (fun n (s:List Int)=>(s,(n:Int))) (Qy2 a onto) (fun s=>some s) (fun n s=>Sts a s) ?_ ?_ (by unfold Qbd;unfold Abs.big at hl;omega) _ (Qye a onto)).trans rfl
  ·intro k n hn s hs;refine ⟨Q05 _ _ _ _,?_⟩;have:=hs.len;dsimp only;rw [if_pos (by omega),Qbp hn];simp only [Option.bind_some];rw [Q9g h hs.rg (by omega)];simp only [Option.bind_some];rw [Q9 (by unfold Abs.big at hl;omega)]
  ·intro k s _;dsimp only;rw [if_neg (by omega)]
 ·rw [if_neg hk,if_neg hk]
theorem Q3q {a:Qa} {onto:List Int}:∀ (obs:List Int),Sts a (estP a onto obs):=by
 intro obs;unfold estP;rcases List.eq_nil_or_concat obs with rfl|⟨l,x,rfl⟩
 ·exact Qye _ _
 ·rw [List.concat_eq_append,List.foldl_append];exact Q05 _ _ _ _
theorem Qbce {a:Qa} {o o' : List Int} (h:∀ x∈a.zD,x∈o↔x∈o'):Qty a o=Qty a o'∧Qli a o=Qli a o':=by
 unfold Qty Qli;exact ⟨List.filter_congr fun x hx=>decide_eq_decide.2 (h x hx),List.filter_congr fun x hx=>by rw [decide_eq_decide.2 (h x hx)]⟩
theorem Qbcf {a:Qa} {o o' : List Int} (h:∀ x∈a.zD,x∈o↔x∈o') (w:List Int):estP a o w=estP a o' w:=by
 have e:=(Qbce h).2;have h1:Qy2 a o=Qy2 a o':=by funext s x;unfold Qy2;rw [e]
 unfold estP Qvi;rw [h1,e]
def okW (ev:List Qd) (a:Qa) (w:List Int):Bool:=w.all fun x=>decide (x∈obsE ev)&&decide (x∈a.zD)
theorem Q60 {ev:List Qd} {a:Qa} {w:List Int} (he:ev.length≤32) (ha:a.zD.length<big) (hw:w.length<big):Qfi ev a w=some (if okW ev a w then 0 else 9):=by
 have hb:w.length<1000000000000:=hw;unfold Qfi Qcb okW;refine (Qju (len:=w.length) (fun k=>some (if (w.drop k).all (fun x=>decide (x∈obsE ev)&&decide (x∈a.zD)) then 0 else 9)) (by unfold Qbd;omega) ?_ ?_).trans (by simp)
 ·intro k i hi ih
  try dsimp only
  rw [if_pos (by omega),Qvj (by unfold big;omega)];simp only [Option.bind_some];rw [Qbp hi];simp only [Option.bind_some];rw [Qbf4 (Qxl he).big];simp only [Option.bind_some];rw [Q9 (by omega),ih,List.drop_eq_getElem_cons hi,List.all_cons];by_cases h1:w[i]∈obsE ev
  ·rw [decide_eq_true h1,if_pos rfl,Qbf4 ha];simp only [Option.bind_some];by_cases h2:w[i]∈a.zD<;>simp [h2]
  ·rw [decide_eq_false h1,if_neg (by simp)];simp
 ·intro k;simp
theorem Q5v {w:List Int} {f:Int→Option Bool} {p:Int→Bool} (hf:∀ x,f x=some (p x)) (hw:w.length<big):Qb5 w f=some (w.any p):=by
 have hb:w.length<1000000000000:=hw;unfold Qb5 Qr Qf9 Qca;obtain ⟨fuel,hfu,hge⟩ : ∃ f,Qbd=f∧1099511627776≤f:=⟨_,rfl,Nat.le_refl _⟩;rw [hfu];have hloop:∀ (F:(Int→Option Int)→Int→Option Int),(∀ k (i:Nat) (hi:i<w.length),F k (i:Int)=if p w[i] then some (i:Int) else k (IntKind.wrap .i64 ((i:Int)+1)))→(∀ k,F k (w.length:Int)=some (-1))→∃ z,Qcd F fuel 0=some z∧(decide (z≥0))=w.any p:=by
  intro F h1 h2;refine Qd0 (fun x=>∃ n:Nat,x=(n:Int)∧n≤w.length∧(w.drop n).any p=w.any p) (fun x=>w.length-x.toNat) (fun x r=>∃ z,r=some z∧(decide (z≥0))=w.any p) ?_ fuel _ ⟨0,rfl,Nat.zero_le _,by simp⟩ (by omega);rintro k _ ⟨n,rfl,hn,he⟩ ih;by_cases hlt:n<w.length
  ·rw [h1 k n hlt];rw [List.drop_eq_getElem_cons hlt,List.any_cons] at he;by_cases hp:p w[n]=true
   ·rw [if_pos hp];rw [hp,Bool.true_or] at he;exact ⟨_,rfl,by rw [← he];simp⟩
   ·rw [if_neg hp,Q9 (by omega)];rw [Bool.not_eq_true] at hp;rw [hp,Bool.false_or] at he;exact ih _ ⟨n+1,rfl,by omega,he⟩ (by simp only [Int.toNat_natCast];omega)
  ·obtain rfl:n=w.length:=by omega
   rw [h2];rw [List.drop_eq_nil_of_le (Nat.le_refl _)] at he;exact ⟨-1,rfl,by rw [← he];rfl⟩
 have key' : ∀ (F:(Int→Option Int)→Int→Option Int),(∀ k (i:Nat) (hi:i<w.length),F k (i:Int)=if p w[i] then some (i:Int) else k (IntKind.wrap .i64 ((i:Int)+1)))→(∀ k,F k (w.length:Int)=some (-1))→((Qcd F fuel 0).bind fun x13=>some (decide (x13≥0)))=some (w.any p):=fun F h1 h2=>by
  obtain ⟨z,h3,h4⟩:=hloop F h1 h2;rw [h3,← h4];rfl
 refine key' _ ?_ ?_
 ·intro k i hi;rw [if_pos (by omega),Qbp hi];simp only [Option.bind_some,hf]
 ·intro k;rw [if_neg (by omega)]
section
variable {ev:List Qd} {a b:Qa} {l:List Lab}
theorem Q5w (hp:Plt ev a) (hb:Lbd ev a b l) {w:List Int} (hw:w.length<big):Qer ev a w=some (if okW ev a w then (Qyv l (estP b (obsE ev) w),0) else ([],9)):=by
 have hs:=hp.r.small;have hol:=(Qxl hp.len).len;unfold Qer Qx;rw [Q08 hp];simp only [Option.bind_some,show ((0:Int) != 0)=false from rfl,Bool.false_eq_true,if_false];rw [Q1h (by have:=hp.len;unfold big;omega) hp.chk];simp only [Option.bind_some];obtain ⟨R,h1,h2,h3⟩:=Q5u (Qxl hp.len).so hp.r.al (by unfold big;omega);rw [h1];simp only [Option.bind_some];have hR:EvSet R:=⟨fun x hx=>(Qxl hp.len).rg x ((h3 x).1 hx).1,h2⟩;rw [Q5v (p:=fun x=>!decide (x∈R)) (fun x=>by unfold Qh6 Qcn;rw [Q8i h2 hR.big];rfl) hw];have hany:(w.any fun x=>!decide (x∈R)) = !okW ev a w:=by
  unfold okW;rw [List.not_all_eq_any_not];congr 1;funext x;congr 1;rw [← Bool.decide_and,decide_eq_decide];exact h3 x
 simp only [Option.bind_some];rw [hany];by_cases hk:okW ev a w=true
 ·rw [if_neg (by simp [hk]),if_pos hk,hb.p];simp only [Option.bind_some,show ((0:Int) != 0)=false from rfl,Bool.false_eq_true,if_false];have hall:(w.all fun x=>decide (x∈Qty b R))=true:=by
   rw [List.all_eq_true];intro x hx;have:=List.all_eq_true.1 hk x hx;rw [decide_eq_true_eq,Qty,List.mem_filter,hb.al];simp only [Bool.and_eq_true,decide_eq_true_eq] at this ⊢;exact ⟨this.2,(h3 x).2 this⟩
  rw [Q09 hb.r hR hw,if_pos hall];simp only [Option.bind_some];have hsm:∀ x∈b.zD,x∈R↔x∈obsE ev:=fun x hx=>⟨fun h=>((h3 x).1 h).1,fun h=>(h3 x).2 ⟨h,by rw [← hb.al];exact hx⟩⟩;rw [Qbcf hsm];have hS:=Q3q (a:=b) (onto:=obsE ev) w;rw [Qbds (hS.big hb.r) (fun x hx=>by have:=hS.rg x hx;have:=hb.n;omega)]
  rfl
 ·rw [Bool.not_eq_true] at hk;rw [hk]
  rfl
theorem Q5x (hp:Plt ev a) (hb:Lbd ev a b l) {w:List Int} (hw:w.length<big) (hk:okW ev a w=true):Qea b (obsE ev) w=some (estP b (obsE ev) w,0)∧Qeb l (estP b (obsE ev) w)=some (Qyv l (estP b (obsE ev) w)):=by
 have hall:(w.all fun x=>decide (x∈Qty b (obsE ev)))=true:=by
  rw [List.all_eq_true];intro x hx;have:=List.all_eq_true.1 hk x hx;rw [decide_eq_true_eq,Qty,List.mem_filter,hb.al];simp only [Bool.and_eq_true,decide_eq_true_eq] at this ⊢;exact ⟨this.2,this.1⟩
 have hS:=Q3q (a:=b) (onto:=obsE ev) w;exact ⟨by rw [Q09 hb.r (Qxl hp.len) hw,if_pos hall],Qbdt (hS.big hb.r) (fun x hx=>by have:=hS.rg x hx;have:=hb.n;omega)⟩
end
theorem Q61 (l:List Lab) (s:List Int):(Qyv l s).length=s.length:=by simp [Qyv]
def bitC (c:Int) (x:Lab):Int:=andI .i64 (x.Classes.fdiv (2 ^ (min (IntKind.wrap .i64 (c-1)).toNat IntKind.i64.bits))) 1
theorem Qbcg (s:Int):0≤andI .i64 s 1∧andI .i64 s 1≤1:=by
 unfold andI;have h:((BitVec.ofInt IntKind.i64.bits s) &&& (BitVec.ofInt IntKind.i64.bits 1)).toNat≤1:=by
  rw [BitVec.toNat_and];have:(BitVec.ofInt IntKind.i64.bits 1).toNat=1:=by decide
  rw [this,Nat.and_one_is_mod];omega
 generalize ((BitVec.ofInt IntKind.i64.bits s) &&& (BitVec.ofInt IntKind.i64.bits 1)).toNat=n at h;rw [Qkv (by omega) (by omega)];omega
def cntC (c:Int) (l:List Lab):Int:=(l.map (bitC c)).sum
theorem Qbch (c:Int):∀ l:List Lab,0≤cntC c l∧cntC c l≤l.length
 | []=>by simp [cntC]
 | x::l=>by
  have:=Qbch c l;have:=Qbcg (x.Classes.fdiv (2 ^ (min (IntKind.wrap .i64 (c-1)).toNat IntKind.i64.bits)));have e:cntC c (x::l)=bitC c x+cntC c l:=by simp [cntC]
  rw [e];unfold bitC;simp only [List.length_cons];omega
theorem Q8o {c:Int} (hc:0≤IntKind.wrap .i64 (c-1)) {l:List Lab} (hl:l.length<big) {fuel:Nat} (hf:l.length<fuel) {F:(Int×Int→Option Int)→Int×Int→Option Int}
  (hF:∀ (k:Int×Int→Option Int) (n:Int) (i:Nat) (h:i<l.length),F k (n,(i:Int))=((shrO .i64 l[i].Classes (IntKind.wrap .i64 (c-1))).bind fun s=>k (IntKind.wrap .i64 (n+andI .i64 s 1),IntKind.wrap .i64 ((i:Int)+1))))
  (hlast:∀ (k:Int×Int→Option Int) (n:Int),F k (n,(l.length:Int))=some n):Qcd F fuel (0,0)=some (cntC c l):=by
 have hb:l.length<1000000000000:=hl;refine (Qfr (len:=l.length) (fun i (n:Int)=>(n,(i:Int))) (fun i n=>0≤n∧n≤i) (fun i n=>some (n+cntC c (l.drop i))) ?_ ?_ fuel 0 0 (Nat.zero_le _) (by omega) (by omega)).trans (by simp)
 ·intro k i n hi hn ih;rw [hF k n i hi];have h1:=Qbcg (l[i].Classes.fdiv (2 ^ (min (IntKind.wrap .i64 (c-1)).toNat IntKind.i64.bits)));have h2:shrO .i64 l[i].Classes (IntKind.wrap .i64 (c-1))=some (l[i].Classes.fdiv (2 ^ (min (IntKind.wrap .i64 (c-1)).toNat IntKind.i64.bits))):=by unfold shrO;rw [if_neg (by omega)]
  rw [h2];simp only [Option.bind_some];rw [Q9 (by omega),Qkv (by omega) (by omega),ih _ (by omega),List.drop_eq_getElem_cons hi];have e:cntC c (l[i]::l.drop (i+1))=bitC c l[i]+cntC c (l.drop (i+1)):=by unfold cntC;rw [List.map_cons,List.sum_cons]
  rw [e];unfold bitC;congr 1;omega
 ·intro k n _;rw [hlast];simp [cntC]
theorem Q8p {c:Int} (h:1≤c∧c≤4):0≤IntKind.wrap .i64 (c-1):=by rw [Qkv (by omega) (by omega)];omega
theorem Q8q {c:Int} (h:1≤c∧c≤4) {l:List Lab} (hl:l.length<big):Qhg l c=some (cntC c l):=by
 have hb:l.length<1000000000000:=hl;unfold Qhg Qb7;refine Qem (Q8o (Q8p h) hl (by unfold Qbd;omega) ?_ ?_) rfl
 ·intro k n i hi;dsimp only;rw [if_pos (by omega),Qbp hi]
  rfl
 ·intro k n;dsimp only;rw [if_neg (by omega)]
def Qjv (c:Int) (l:List Lab):Int:=if cntC c l=0 then 1 else if cntC c l=l.length then 2 else 3
theorem Q62 {c:Int} (h:1≤c∧c≤4) {l:List Lab} (hl:l.length<big):Qft l c=some (Qjv c l):=by
 have hb:l.length<1000000000000:=hl;unfold Qft Qcj;refine Qem (Q8o (Q8p h) hl (by unfold Qbd;omega) ?_ ?_) ?_
 ·intro k n i hi;dsimp only;rw [if_pos (by omega),Qbp hi]
  rfl
 ·intro k n;dsimp only;rw [if_neg (by omega)]
 ·unfold Qjv;by_cases h1:cntC c l=0
  ·rw [if_pos (by simp [h1]),if_pos h1]
  ·rw [if_neg (by simp [h1]),if_neg h1];by_cases h2:cntC c l=l.length
   ·rw [if_pos (by simp [h2]),if_pos h2]
   ·rw [if_neg (by simpa using h2),if_neg h2]
theorem Q63 {c:Int} {l:List Lab} (hl:l.length<big):Qe5 l c=some (if c<1∨4<c then (0,2) else if l=[] then (0,12) else (Qjv c l,0)):=by
 unfold Qe5 Q6 Qhf Qbg;have e:(if c<1 then some true else some (decide (c>4)))=some (decide (c<1∨4<c)):=by by_cases h:c<1<;>simp [h]
 rw [e];simp only [Option.bind_some];by_cases h:c<1∨4<c
 ·rw [decide_eq_true h,if_pos rfl,if_pos h]
 ·rw [decide_eq_false h,if_neg (by simp),if_neg h];cases l with
  | nil=>rfl
  | cons x l =>
   rw [if_neg (by simp;omega),if_neg (by simp),Q8q (by omega) hl];simp only [Option.bind_some];unfold Qjv;by_cases h1:cntC c (x::l)=0
   ·rw [if_pos (by simp [h1]),if_pos h1]
   ·rw [if_neg (by simp [h1]),if_neg h1];by_cases h2:cntC c (x::l)=(x::l).length
    ·rw [if_pos (by simp [h2]),if_pos h2]
    ·rw [if_neg (by simpa using h2),if_neg h2]
def clsP (p:Int→Bool) (n:Nat):List Int:=(([1,2,3,4]:List Int).drop n).filter p
theorem Qxm {p:Int→Bool} {n:Nat} (h:n<4):clsP p n=(if p ((n:Int)+1) then [(n:Int)+1] else [])++clsP p (n+1):=by
 have:n=0∨n=1∨n=2∨n=3:=by omega
 rcases this with rfl|rfl|rfl|rfl<;>simp only [clsP,List.drop_zero,List.drop_succ_cons,List.filter_cons,List.drop_nil,List.filter_nil]<;>(split<;>rename_i h1)<;>simp_all
theorem Q64:Qd6 []=some ([],[]):=by
 unfold Qd6 Qc0;obtain ⟨fuel,hfu,hge⟩ : ∃ f,Qbd=f+1∧1099511627775≤f:=⟨1099511627775,rfl,Nat.le_refl _⟩;rw [hfu]
 rfl
theorem Q9p {l:List Lab} (hl:l.length<big) (h0:l≠[]):Qd6 l=some (clsP (fun c=>decide (Qjv c l=2)) 0,clsP (fun c=>decide (Qjv c l≠1)) 0):=by
 have hpos:0<l.length:=List.length_pos_iff.2 h0;unfold Qd6 Qc0;obtain ⟨fuel,hfu,hge⟩ : ∃ f,Qbd=f∧1099511627776≤f:=⟨_,rfl,Nat.le_refl _⟩;rw [hfu];refine Qem (x:=(clsP (fun c=>decide (Qjv c l=2)) 0,clsP (fun c=>decide (Qjv c l≠1)) 0)) ?_ rfl;refine (Qfr (len:=4) (fun n (s:List Int×List Int)=>(s.1,s.2,(n:Int)+1)) (fun n s=>s.1.length≤n∧s.2.length≤n) (fun n s=>some (s.1++clsP (fun c=>decide (Qjv c l=2)) n,s.2++clsP (fun c=>decide (Qjv c l≠1)) n)) ?_ ?_ fuel 0 ([],[]) (by omega) (by omega) (by simp)).trans (by simp)
 ·intro k n s hn hi ih;dsimp only;rw [if_pos (by omega)];simp only [Option.bind_some];rw [decide_eq_true (by omega),if_pos rfl,Q8q (by omega) hl];simp only [Option.bind_some];have hw:IntKind.wrap .i64 ((n:Int)+1+1)=((n+1:Nat):Int)+1:=by rw [Qkv (by omega) (by omega)];omega
  rw [hw];have hc:=Qbch ((n:Int)+1) l;have hv2:(Qjv ((n:Int)+1) l=2)↔cntC ((n:Int)+1) l=l.length:=by
   unfold Qjv;split
   ·rename_i h;omega
   ·split<;>omega
  have hv1:(Qjv ((n:Int)+1) l≠1)↔cntC ((n:Int)+1) l>0:=by
   unfold Qjv;split
   ·rename_i h;omega
   ·split<;>omega
  refine Qem (x:=((if cntC ((n:Int)+1) l=l.length then s.1++[(n:Int)+1] else s.1),(if cntC ((n:Int)+1) l>0 then s.2++[(n:Int)+1] else s.2))) ?_ ?_
  ·refine Qem (x:=if cntC ((n:Int)+1) l=l.length then s.1++[(n:Int)+1] else s.1) ?_ ?_
   ·by_cases h:cntC ((n:Int)+1) l=l.length
    ·rw [if_pos (by simpa using h),if_pos h,Qb1 (by simp only [List.length_cons,List.length_nil];unfold lim;omega)];rfl
    ·rw [if_neg (by simpa using h),if_neg h]
   ·by_cases h:cntC ((n:Int)+1) l>0
    ·rw [if_pos h,if_pos h,Qb1 (by simp only [List.length_cons,List.length_nil];unfold lim;omega)];rfl
    ·rw [if_neg h,if_neg h]
  ·dsimp only;rw [ih (_,_) (by constructor<;>(dsimp only;split<;>(try simp only [List.length_append,List.length_cons,List.length_nil])<;>omega)),Qxm hn,Qxm hn];simp only [decide_eq_true_eq,hv2,hv1];generalize cntC ((n:Int)+1) l=q;have e1:(if q=l.length then s.1++[(n:Int)+1] else s.1)=s.1++(if q=l.length then [(n:Int)+1] else []):=by split<;>simp
   have e2:(if q>0 then s.2++[(n:Int)+1] else s.2)=s.2++(if q>0 then [(n:Int)+1] else []):=by split<;>simp
   rw [e1,e2,List.append_assoc,List.append_assoc]
 ·intro k s hi;dsimp only;rw [if_neg (by omega)];simp [clsP]
theorem Q8r {s t:List Int} (h:s.length<1000000000000):Qma s t=some (decide (s=t)):=by
 unfold Qma Qc3;rw [Qbbv h];rfl
end Go.Abs
end
section
namespace Go.Abs
open Go
theorem Q65 (c:Int) (l:List Lab):Qjv c l=1∨Qjv c l=2∨Qjv c l=3:=by
 unfold Qjv;split
 ·exact .inl rfl
 ·split
  ·exact .inr (.inl rfl)
  ·exact .inr (.inr rfl)
theorem Q5y {l:List Lab} (hl:l.length<big) {fuel:Nat} (hfu:1099511627776≤fuel) {R:Option Bool} {F:(List Int×List Int×Int→Option Bool)→List Int×List Int×Int→Option Bool}
  (hF:∀ k yes maybe (n:Nat),n<4→yes.length≤n→maybe.length≤n→F k (yes,maybe,(n:Int)+1)=if l=[] then k (yes,maybe,((n+1:Nat):Int)+1) else k (yes++(if Qjv ((n:Int)+1) l=2 then [(n:Int)+1] else []),maybe++(if Qjv ((n:Int)+1) l≠1 then [(n:Int)+1] else []),((n+1:Nat):Int)+1))
  (hlast:∀ k,F k ((if l=[] then [] else clsP (fun c=>decide (Qjv c l=2)) 0),(if l=[] then [] else clsP (fun c=>decide (Qjv c l≠1)) 0),((4:Nat):Int)+1)=R):Qcd F fuel ([],[],1)=R:=by
 by_cases h0:l=[]
 ·refine Qfr (len:=4) (fun n (s:Unit)=>(([],[],(n:Int)+1):List Int×List Int×Int)) (fun _ _=>True) (fun _ _=>R) ?_ ?_ fuel 0 () (by omega) (by omega) trivial
  ·intro k n s hn _ ih;rw [hF k [] [] n hn (by simp) (by simp),if_pos h0];exact ih () trivial
  ·intro k s _;have:=hlast k;rw [if_pos h0,if_pos h0] at this;exact this
 ·refine Qfr (len:=4) (fun n (s:List Int×List Int)=>(s.1,s.2,(n:Int)+1)) (fun n s=>s.1.length≤n∧s.2.length≤n∧s.1++clsP (fun c=>decide (Qjv c l=2)) n=clsP (fun c=>decide (Qjv c l=2)) 0∧s.2++clsP (fun c=>decide (Qjv c l≠1)) n=clsP (fun c=>decide (Qjv c l≠1)) 0) (fun _ _=>R) ?_ ?_ fuel 0 ([],[]) (by omega) (by omega) (by simp)
  ·rintro k n ⟨yes,maybe⟩ hn ⟨i1,i2,i3,i4⟩ ih;dsimp only at i1 i2 i3 i4 ⊢;rw [hF k yes maybe n hn i1 i2,if_neg h0];refine ih (_,_) ⟨?_,?_,?_,?_⟩
   ·dsimp only;split<;>simp<;>omega
   ·dsimp only;split<;>simp<;>omega
   ·rw [← i3,Qxm hn];simp only [List.append_assoc,decide_eq_true_eq]
   ·rw [← i4,Qxm hn];simp only [List.append_assoc,decide_eq_true_eq]
  ·rintro k ⟨yes,maybe⟩ ⟨i1,i2,i3,i4⟩;dsimp only at i3 i4 ⊢;have e:∀ p,clsP p 4=[]:=fun p=>rfl;rw [e,List.append_nil] at i3 i4;have:=hlast k;rw [if_neg h0,if_neg h0,← i3,← i4] at this;exact this
theorem Q5z {p:Qbl} (hw:Qbcd p) (w:List Int):Qee p w=some true:=by
 unfold Qee Qed;obtain ⟨fuel,hfu,hge⟩ : ∃ f,Qbd=f∧1099511627776≤f:=⟨_,rfl,Nat.le_refl _⟩;rw [hfu,Q9j];simp only [Option.bind_some,if_true];by_cases h8:8<w.length
 ·rw [decide_eq_true (by omega),if_pos rfl]
 rw [decide_eq_false (by omega),if_neg (by simp)];have hwb:w.length<big:=by unfold big;omega
 obtain ⟨ev,a,hM,hp,hev,hst,-,-⟩:=Qbdw hw;obtain ⟨b,l,hb⟩:=Qbhb hp;have hevl:ev.length<big:=by rw [hev.len];decide
 have hs:=hp.r.small;rw [hM];simp only [Option.bind_some];rw [Q5w hp hb hwb];simp only [Option.bind_some];rw [Q60 hp.len hs.1.1 hwb];simp only [Option.bind_some];by_cases hk:okW ev a w=true
 ·rw [if_pos hk,if_pos hk];obtain ⟨h1,h2⟩:=Q5x hp hb hwb hk;rw [if_neg (by simp),hb.w];simp only [Option.bind_some];rw [Qvj hevl];simp only [Option.bind_some];rw [h1];simp only [Option.bind_some];rw [h2];have hL:(Qyv l (estP b (obsE ev) w)).length<1000000000000:=by
   rw [Q61];exact (Q3q w).big hb.r
  generalize Qyv l (estP b (obsE ev) w)=L at hL;simp only [Option.bind_some];have e1:(if ((0:Int) != 0)=true then some true else if ((0:Int) != 0)=true then some true else ((Qes L L).bind fun x33=>some (!x33)))=some false:=by
   rw [if_neg (by simp),if_neg (by simp),Qbg9 hL];simp
  rw [e1];simp only [Option.bind_some,Bool.false_eq_true,if_false];have hC:Qd6 L=some ((if L=[] then [] else clsP (fun c=>decide (Qjv c L=2)) 0),(if L=[] then [] else clsP (fun c=>decide (Qjv c L≠1)) 0)):=by
   by_cases h0:L=[]
   ·rw [if_pos h0,if_pos h0,h0];exact Q64
   ·rw [if_neg h0,if_neg h0];exact Q9p hL h0
  rw [hC];simp only [Option.bind_some];have hcl:∀ q,(clsP q 0).length≤4:=fun q=>List.length_filter_le _ _;refine Q5y hL hge ?_ ?_
  ·intro k yes maybe n hn hy hm;dsimp only;rw [if_pos (by omega)];simp only [letJ];rw [Q63 hL,if_neg (by omega)];have hw2:IntKind.wrap .i64 ((n:Int)+1+1)=((n+1:Nat):Int)+1:=by rw [Qkv (by omega) (by omega)];omega
   rw [hw2];by_cases h0:L=[]
   ·rw [if_pos h0,if_pos h0,h0];simp
   ·rw [if_neg h0,if_neg h0];simp only [Option.bind_some];rw [if_neg (by simpa using h0),Q62 (by omega) hL];simp only [Option.bind_some];rw [if_neg (by simp)];simp only [Option.bind_some];rw [if_neg (by simp)];rcases Q65 ((n:Int)+1) L with h|h|h
    ·rw [h];simp
    ·rw [h,if_pos (by rfl),Qb1 (by simp only [List.length_cons,List.length_nil];unfold lim;omega)];simp only [Option.bind_some];rw [if_pos (by rfl),Qb1 (by simp only [List.length_cons,List.length_nil];unfold lim;omega)];simp
    ·rw [h,if_neg (by simp)];simp only [Option.bind_some];rw [if_pos (by rfl),Qb1 (by simp only [List.length_cons,List.length_nil];unfold lim;omega)];simp
  ·intro k;dsimp only;rw [if_neg (by omega)];have hl1:(if L=[] then [] else clsP (fun c=>decide (Qjv c L=2)) 0).length<1000000000000:=by
    split
    ·simp
    ·have:=hcl (fun c=>decide (Qjv c L=2));omega
   have hl2:(if L=[] then [] else clsP (fun c=>decide (Qjv c L≠1)) 0).length<1000000000000:=by
    split
    ·simp
    ·have:=hcl (fun c=>decide (Qjv c L≠1));omega
   rw [Q8r hl1];simp only [Option.bind_some,decide_true,if_true];rw [Q8r hl2];simp
 ·rw [if_neg hk,if_neg hk];simp
end Go.Abs
end
