/-
  Part 6 of the proof: see the last text.
-/
import Derived.Test.YtdckcingoapofaaGreatDoorP5
import Derived.Test.YtdckcingoapofaaGreatDoorProg
import Derived.KernelRfl
import Derived.ChangeSame
import Derived.ChangeVars
import Derived.JoinedOf
import Derived.LaidLaws
import Derived.LaidHandle
import Derived.LaidMore
import Derived.SevenTiedAt
set_option linter.unusedVariables false
set_option linter.unusedSimpArgs false
set_option linter.unusedSectionVars false
section
namespace Go.Proofs
open Go Go.Abs
set_option maxRecDepth 100000
def W_22 (x:Int):Prop:=wfI .u8 x
theorem R_22:Qy1 Tryz.prog 22 (eI .u8) W_22:=Q5r Tryz.underlying22
def W_23 (x:Int×Int×Int×Int×Int):Prop:=W_22 x.1∧W_22 x.2.1∧W_22 x.2.2.1∧W_22 x.2.2.2.1∧W_22 x.2.2.2.2
theorem R_23:Qy1 Tryz.prog 23 (fun p:Int×Int×Int×Int×Int=>[.int .u8 p.1,.int .u8 p.2.1,.int .u8 p.2.2.1,.int .u8 p.2.2.2.1,.int .u8 p.2.2.2.2]) W_23:=by
  intro H enc w base spare held fuel cs x h;obtain ⟨hl,n,hf⟩:=Qbdv (sz:=1) Tryz.underlying23 (by kernel_rfl) h;obtain ⟨y0,h0⟩:=hf 0 (by decide);obtain ⟨a0,w0,r0⟩:=Qeh (off:=0*1) (sz:=1) R_22 (by kernel_rfl) (fun _=>rfl) h0;obtain ⟨y1,h1⟩:=hf 1 (by decide);obtain ⟨a1,w1,r1⟩:=Qeh (off:=1*1) (sz:=1) R_22 (by kernel_rfl) (fun _=>rfl) h1;obtain ⟨y2,h2⟩:=hf 2 (by decide);obtain ⟨a2,w2,r2⟩:=Qeh (off:=2*1) (sz:=1) R_22 (by kernel_rfl) (fun _=>rfl) h2;obtain ⟨y3,h3⟩:=hf 3 (by decide);obtain ⟨a3,w3,r3⟩:=Qeh (off:=3*1) (sz:=1) R_22 (by kernel_rfl) (fun _=>rfl) h3;obtain ⟨y4,h4⟩:=hf 4 (by decide);obtain ⟨a4,w4,r4⟩:=Qeh (off:=4*1) (sz:=1) R_22 (by kernel_rfl) (fun _=>rfl) h4;exact ⟨(a0,a1,a2,a3,a4),⟨w0,w1,w2,w3,w4⟩,RDat.all (xs:=(fun p:Int×Int×Int×Int×Int=>[.int .u8 p.1,.int .u8 p.2.1,.int .u8 p.2.2.1,.int .u8 p.2.2.2.1,.int .u8 p.2.2.2.2]) (a0,a1,a2,a3,a4)) (RDat.app r0 rfl (RDat.app r1 rfl (RDat.app r2 rfl (RDat.app r3 rfl r4)))) (hl.trans (by kernel_rfl))⟩
def W_5 (x:Int):Prop:=wfI .u8 x
theorem R_5:Qy1 Tryz.prog 5 (eI .u8) W_5:=Q5r Tryz.underlying5
def W_24 (x:Int×Int×Int×Int×Int):Prop:=W_5 x.1∧W_5 x.2.1∧W_5 x.2.2.1∧W_5 x.2.2.2.1∧W_5 x.2.2.2.2
theorem R_24:Qy1 Tryz.prog 24 (fun p:Int×Int×Int×Int×Int=>[.int .u8 p.1,.int .u8 p.2.1,.int .u8 p.2.2.1,.int .u8 p.2.2.2.1,.int .u8 p.2.2.2.2]) W_24:=by
  intro H enc w base spare held fuel cs x h;obtain ⟨hl,n,hf⟩:=Qbdv (sz:=1) Tryz.underlying24 (by kernel_rfl) h;obtain ⟨y0,h0⟩:=hf 0 (by decide);obtain ⟨a0,w0,r0⟩:=Qeh (off:=0*1) (sz:=1) R_5 (by kernel_rfl) (fun _=>rfl) h0;obtain ⟨y1,h1⟩:=hf 1 (by decide);obtain ⟨a1,w1,r1⟩:=Qeh (off:=1*1) (sz:=1) R_5 (by kernel_rfl) (fun _=>rfl) h1;obtain ⟨y2,h2⟩:=hf 2 (by decide);obtain ⟨a2,w2,r2⟩:=Qeh (off:=2*1) (sz:=1) R_5 (by kernel_rfl) (fun _=>rfl) h2;obtain ⟨y3,h3⟩:=hf 3 (by decide);obtain ⟨a3,w3,r3⟩:=Qeh (off:=3*1) (sz:=1) R_5 (by kernel_rfl) (fun _=>rfl) h3;obtain ⟨y4,h4⟩:=hf 4 (by decide);obtain ⟨a4,w4,r4⟩:=Qeh (off:=4*1) (sz:=1) R_5 (by kernel_rfl) (fun _=>rfl) h4;exact ⟨(a0,a1,a2,a3,a4),⟨w0,w1,w2,w3,w4⟩,RDat.all (xs:=(fun p:Int×Int×Int×Int×Int=>[.int .u8 p.1,.int .u8 p.2.1,.int .u8 p.2.2.1,.int .u8 p.2.2.2.1,.int .u8 p.2.2.2.2]) (a0,a1,a2,a3,a4)) (RDat.app r0 rfl (RDat.app r1 rfl (RDat.app r2 rfl (RDat.app r3 rfl r4)))) (hl.trans (by kernel_rfl))⟩
def W_25 (x:(Int×Int×Int×Int×Int)×(Int×Int×Int×Int×Int)×(Int×Int×Int×Int×Int)×(Int×Int×Int×Int×Int)×(Int×Int×Int×Int×Int)):Prop:=W_24 x.1∧W_24 x.2.1∧W_24 x.2.2.1∧W_24 x.2.2.2.1∧W_24 x.2.2.2.2
theorem R_25:Qy1 Tryz.prog 25 (fun p:(Int×Int×Int×Int×Int)×(Int×Int×Int×Int×Int)×(Int×Int×Int×Int×Int)×(Int×Int×Int×Int×Int)×(Int×Int×Int×Int×Int)=>[.int .u8 p.1.1,.int .u8 p.1.2.1,.int .u8 p.1.2.2.1,.int .u8 p.1.2.2.2.1,.int .u8 p.1.2.2.2.2,.int .u8 p.2.1.1,.int .u8 p.2.1.2.1,.int .u8 p.2.1.2.2.1,.int .u8 p.2.1.2.2.2.1,.int .u8 p.2.1.2.2.2.2,.int .u8 p.2.2.1.1,.int .u8 p.2.2.1.2.1,.int .u8 p.2.2.1.2.2.1,.int .u8 p.2.2.1.2.2.2.1,.int .u8 p.2.2.1.2.2.2.2,.int .u8 p.2.2.2.1.1,.int .u8 p.2.2.2.1.2.1,.int .u8 p.2.2.2.1.2.2.1,.int .u8 p.2.2.2.1.2.2.2.1,.int .u8 p.2.2.2.1.2.2.2.2,.int .u8 p.2.2.2.2.1,.int .u8 p.2.2.2.2.2.1,.int .u8 p.2.2.2.2.2.2.1,.int .u8 p.2.2.2.2.2.2.2.1,.int .u8 p.2.2.2.2.2.2.2.2]) W_25:=by
  intro H enc w base spare held fuel cs x h;obtain ⟨hl,n,hf⟩:=Qbdv (sz:=5) Tryz.underlying25 (by kernel_rfl) h;obtain ⟨y0,h0⟩:=hf 0 (by decide);obtain ⟨a0,w0,r0⟩:=Qeh (off:=0*5) (sz:=5) R_24 (by kernel_rfl) (fun _=>rfl) h0;obtain ⟨y1,h1⟩:=hf 1 (by decide);obtain ⟨a1,w1,r1⟩:=Qeh (off:=1*5) (sz:=5) R_24 (by kernel_rfl) (fun _=>rfl) h1;obtain ⟨y2,h2⟩:=hf 2 (by decide);obtain ⟨a2,w2,r2⟩:=Qeh (off:=2*5) (sz:=5) R_24 (by kernel_rfl) (fun _=>rfl) h2;obtain ⟨y3,h3⟩:=hf 3 (by decide);obtain ⟨a3,w3,r3⟩:=Qeh (off:=3*5) (sz:=5) R_24 (by kernel_rfl) (fun _=>rfl) h3;obtain ⟨y4,h4⟩:=hf 4 (by decide);obtain ⟨a4,w4,r4⟩:=Qeh (off:=4*5) (sz:=5) R_24 (by kernel_rfl) (fun _=>rfl) h4;exact ⟨(a0,a1,a2,a3,a4),⟨w0,w1,w2,w3,w4⟩,RDat.all (xs:=(fun p:(Int×Int×Int×Int×Int)×(Int×Int×Int×Int×Int)×(Int×Int×Int×Int×Int)×(Int×Int×Int×Int×Int)×(Int×Int×Int×Int×Int)=>[.int .u8 p.1.1,.int .u8 p.1.2.1,.int .u8 p.1.2.2.1,.int .u8 p.1.2.2.2.1,.int .u8 p.1.2.2.2.2,.int .u8 p.2.1.1,.int .u8 p.2.1.2.1,.int .u8 p.2.1.2.2.1,.int .u8 p.2.1.2.2.2.1,.int .u8 p.2.1.2.2.2.2,.int .u8 p.2.2.1.1,.int .u8 p.2.2.1.2.1,.int .u8 p.2.2.1.2.2.1,.int .u8 p.2.2.1.2.2.2.1,.int .u8 p.2.2.1.2.2.2.2,.int .u8 p.2.2.2.1.1,.int .u8 p.2.2.2.1.2.1,.int .u8 p.2.2.2.1.2.2.1,.int .u8 p.2.2.2.1.2.2.2.1,.int .u8 p.2.2.2.1.2.2.2.2,.int .u8 p.2.2.2.2.1,.int .u8 p.2.2.2.2.2.1,.int .u8 p.2.2.2.2.2.2.1,.int .u8 p.2.2.2.2.2.2.2.1,.int .u8 p.2.2.2.2.2.2.2.2]) (a0,a1,a2,a3,a4)) (RDat.app r0 rfl (RDat.app r1 rfl (RDat.app r2 rfl (RDat.app r3 rfl r4)))) (hl.trans (by kernel_rfl))⟩
def W_27 (x:Qs):Prop:=W_5 x.zF∧W_5 x.Marks∧W_25 x.To
theorem R_27:Qy1 Tryz.prog 27 Qn8 W_27:=by
  intro H enc w base spare held fuel cs x h;obtain ⟨hl,n,hf⟩:=Q5s Tryz.underlying27 h;obtain ⟨y0,h0⟩:=hf 0 _ rfl;obtain ⟨a0,w0,r0⟩:=Qeh (off:=0) (sz:=1) R_5 (by kernel_rfl) (fun _=>rfl) h0;obtain ⟨y1,h1⟩:=hf 1 _ rfl;obtain ⟨a1,w1,r1⟩:=Qeh (off:=1) (sz:=1) R_5 (by kernel_rfl) (fun _=>rfl) h1;obtain ⟨y2,h2⟩:=hf 2 _ rfl;obtain ⟨a2,w2,r2⟩:=Qeh (off:=2) (sz:=25) R_25 (by kernel_rfl) (fun _=>rfl) h2;exact ⟨⟨a0,a1,a2⟩,⟨w0,w1,w2⟩,RDat.all (xs:=Qn8 ⟨a0,a1,a2⟩) (RDat.app r0 rfl (RDat.app r1 rfl r2)) (hl.trans (by kernel_rfl))⟩
def W_28 (x:Qs×Qs×Qs):Prop:=W_27 x.1∧W_27 x.2.1∧W_27 x.2.2
theorem R_28:Qy1 Tryz.prog 28 (fun p:Qs×Qs×Qs=>[.int .u8 p.1.zF,.int .u8 p.1.Marks,.int .u8 p.1.To.1.1,.int .u8 p.1.To.1.2.1,.int .u8 p.1.To.1.2.2.1,.int .u8 p.1.To.1.2.2.2.1,.int .u8 p.1.To.1.2.2.2.2,.int .u8 p.1.To.2.1.1,.int .u8 p.1.To.2.1.2.1,.int .u8 p.1.To.2.1.2.2.1,.int .u8 p.1.To.2.1.2.2.2.1,.int .u8 p.1.To.2.1.2.2.2.2,.int .u8 p.1.To.2.2.1.1,.int .u8 p.1.To.2.2.1.2.1,.int .u8 p.1.To.2.2.1.2.2.1,.int .u8 p.1.To.2.2.1.2.2.2.1,.int .u8 p.1.To.2.2.1.2.2.2.2,.int .u8 p.1.To.2.2.2.1.1,.int .u8 p.1.To.2.2.2.1.2.1,.int .u8 p.1.To.2.2.2.1.2.2.1,.int .u8 p.1.To.2.2.2.1.2.2.2.1,.int .u8 p.1.To.2.2.2.1.2.2.2.2,.int .u8 p.1.To.2.2.2.2.1,.int .u8 p.1.To.2.2.2.2.2.1,.int .u8 p.1.To.2.2.2.2.2.2.1,.int .u8 p.1.To.2.2.2.2.2.2.2.1,.int .u8 p.1.To.2.2.2.2.2.2.2.2,.int .u8 p.2.1.zF,.int .u8 p.2.1.Marks,.int .u8 p.2.1.To.1.1,.int .u8 p.2.1.To.1.2.1,.int .u8 p.2.1.To.1.2.2.1,.int .u8 p.2.1.To.1.2.2.2.1,.int .u8 p.2.1.To.1.2.2.2.2,.int .u8 p.2.1.To.2.1.1,.int .u8 p.2.1.To.2.1.2.1,.int .u8 p.2.1.To.2.1.2.2.1,.int .u8 p.2.1.To.2.1.2.2.2.1,.int .u8 p.2.1.To.2.1.2.2.2.2,.int .u8 p.2.1.To.2.2.1.1,.int .u8 p.2.1.To.2.2.1.2.1,.int .u8 p.2.1.To.2.2.1.2.2.1,.int .u8 p.2.1.To.2.2.1.2.2.2.1,.int .u8 p.2.1.To.2.2.1.2.2.2.2,.int .u8 p.2.1.To.2.2.2.1.1,.int .u8 p.2.1.To.2.2.2.1.2.1,.int .u8 p.2.1.To.2.2.2.1.2.2.1,.int .u8 p.2.1.To.2.2.2.1.2.2.2.1,.int .u8 p.2.1.To.2.2.2.1.2.2.2.2,.int .u8 p.2.1.To.2.2.2.2.1,.int .u8 p.2.1.To.2.2.2.2.2.1,.int .u8 p.2.1.To.2.2.2.2.2.2.1,.int .u8 p.2.1.To.2.2.2.2.2.2.2.1,.int .u8 p.2.1.To.2.2.2.2.2.2.2.2,.int .u8 p.2.2.zF,.int .u8 p.2.2.Marks,.int .u8 p.2.2.To.1.1,.int .u8 p.2.2.To.1.2.1,.int .u8 p.2.2.To.1.2.2.1,.int .u8 p.2.2.To.1.2.2.2.1,.int .u8 p.2.2.To.1.2.2.2.2,.int .u8 p.2.2.To.2.1.1,.int .u8 p.2.2.To.2.1.2.1,.int .u8 p.2.2.To.2.1.2.2.1,.int .u8 p.2.2.To.2.1.2.2.2.1,.int .u8 p.2.2.To.2.1.2.2.2.2,.int .u8 p.2.2.To.2.2.1.1,.int .u8 p.2.2.To.2.2.1.2.1,.int .u8 p.2.2.To.2.2.1.2.2.1,.int .u8 p.2.2.To.2.2.1.2.2.2.1,.int .u8 p.2.2.To.2.2.1.2.2.2.2,.int .u8 p.2.2.To.2.2.2.1.1,.int .u8 p.2.2.To.2.2.2.1.2.1,.int .u8 p.2.2.To.2.2.2.1.2.2.1,.int .u8 p.2.2.To.2.2.2.1.2.2.2.1,.int .u8 p.2.2.To.2.2.2.1.2.2.2.2,.int .u8 p.2.2.To.2.2.2.2.1,.int .u8 p.2.2.To.2.2.2.2.2.1,.int .u8 p.2.2.To.2.2.2.2.2.2.1,.int .u8 p.2.2.To.2.2.2.2.2.2.2.1,.int .u8 p.2.2.To.2.2.2.2.2.2.2.2]) W_28:=by
  intro H enc w base spare held fuel cs x h;obtain ⟨hl,n,hf⟩:=Qbdv (sz:=27) Tryz.underlying28 (by kernel_rfl) h;obtain ⟨y0,h0⟩:=hf 0 (by decide);obtain ⟨a0,w0,r0⟩:=Qeh (off:=0*27) (sz:=27) R_27 (by kernel_rfl) (fun _=>rfl) h0;obtain ⟨y1,h1⟩:=hf 1 (by decide);obtain ⟨a1,w1,r1⟩:=Qeh (off:=1*27) (sz:=27) R_27 (by kernel_rfl) (fun _=>rfl) h1;obtain ⟨y2,h2⟩:=hf 2 (by decide);obtain ⟨a2,w2,r2⟩:=Qeh (off:=2*27) (sz:=27) R_27 (by kernel_rfl) (fun _=>rfl) h2;exact ⟨(a0,a1,a2),⟨w0,w1,w2⟩,RDat.all (xs:=(fun p:Qs×Qs×Qs=>[.int .u8 p.1.zF,.int .u8 p.1.Marks,.int .u8 p.1.To.1.1,.int .u8 p.1.To.1.2.1,.int .u8 p.1.To.1.2.2.1,.int .u8 p.1.To.1.2.2.2.1,.int .u8 p.1.To.1.2.2.2.2,.int .u8 p.1.To.2.1.1,.int .u8 p.1.To.2.1.2.1,.int .u8 p.1.To.2.1.2.2.1,.int .u8 p.1.To.2.1.2.2.2.1,.int .u8 p.1.To.2.1.2.2.2.2,.int .u8 p.1.To.2.2.1.1,.int .u8 p.1.To.2.2.1.2.1,.int .u8 p.1.To.2.2.1.2.2.1,.int .u8 p.1.To.2.2.1.2.2.2.1,.int .u8 p.1.To.2.2.1.2.2.2.2,.int .u8 p.1.To.2.2.2.1.1,.int .u8 p.1.To.2.2.2.1.2.1,.int .u8 p.1.To.2.2.2.1.2.2.1,.int .u8 p.1.To.2.2.2.1.2.2.2.1,.int .u8 p.1.To.2.2.2.1.2.2.2.2,.int .u8 p.1.To.2.2.2.2.1,.int .u8 p.1.To.2.2.2.2.2.1,.int .u8 p.1.To.2.2.2.2.2.2.1,.int .u8 p.1.To.2.2.2.2.2.2.2.1,.int .u8 p.1.To.2.2.2.2.2.2.2.2,.int .u8 p.2.1.zF,.int .u8 p.2.1.Marks,.int .u8 p.2.1.To.1.1,.int .u8 p.2.1.To.1.2.1,.int .u8 p.2.1.To.1.2.2.1,.int .u8 p.2.1.To.1.2.2.2.1,.int .u8 p.2.1.To.1.2.2.2.2,.int .u8 p.2.1.To.2.1.1,.int .u8 p.2.1.To.2.1.2.1,.int .u8 p.2.1.To.2.1.2.2.1,.int .u8 p.2.1.To.2.1.2.2.2.1,.int .u8 p.2.1.To.2.1.2.2.2.2,.int .u8 p.2.1.To.2.2.1.1,.int .u8 p.2.1.To.2.2.1.2.1,.int .u8 p.2.1.To.2.2.1.2.2.1,.int .u8 p.2.1.To.2.2.1.2.2.2.1,.int .u8 p.2.1.To.2.2.1.2.2.2.2,.int .u8 p.2.1.To.2.2.2.1.1,.int .u8 p.2.1.To.2.2.2.1.2.1,.int .u8 p.2.1.To.2.2.2.1.2.2.1,.int .u8 p.2.1.To.2.2.2.1.2.2.2.1,.int .u8 p.2.1.To.2.2.2.1.2.2.2.2,.int .u8 p.2.1.To.2.2.2.2.1,.int .u8 p.2.1.To.2.2.2.2.2.1,.int .u8 p.2.1.To.2.2.2.2.2.2.1,.int .u8 p.2.1.To.2.2.2.2.2.2.2.1,.int .u8 p.2.1.To.2.2.2.2.2.2.2.2,.int .u8 p.2.2.zF,.int .u8 p.2.2.Marks,.int .u8 p.2.2.To.1.1,.int .u8 p.2.2.To.1.2.1,.int .u8 p.2.2.To.1.2.2.1,.int .u8 p.2.2.To.1.2.2.2.1,.int .u8 p.2.2.To.1.2.2.2.2,.int .u8 p.2.2.To.2.1.1,.int .u8 p.2.2.To.2.1.2.1,.int .u8 p.2.2.To.2.1.2.2.1,.int .u8 p.2.2.To.2.1.2.2.2.1,.int .u8 p.2.2.To.2.1.2.2.2.2,.int .u8 p.2.2.To.2.2.1.1,.int .u8 p.2.2.To.2.2.1.2.1,.int .u8 p.2.2.To.2.2.1.2.2.1,.int .u8 p.2.2.To.2.2.1.2.2.2.1,.int .u8 p.2.2.To.2.2.1.2.2.2.2,.int .u8 p.2.2.To.2.2.2.1.1,.int .u8 p.2.2.To.2.2.2.1.2.1,.int .u8 p.2.2.To.2.2.2.1.2.2.1,.int .u8 p.2.2.To.2.2.2.1.2.2.2.1,.int .u8 p.2.2.To.2.2.2.1.2.2.2.2,.int .u8 p.2.2.To.2.2.2.2.1,.int .u8 p.2.2.To.2.2.2.2.2.1,.int .u8 p.2.2.To.2.2.2.2.2.2.1,.int .u8 p.2.2.To.2.2.2.2.2.2.2.1,.int .u8 p.2.2.To.2.2.2.2.2.2.2.2]) (a0,a1,a2)) (RDat.app r0 rfl (RDat.app r1 rfl r2)) (hl.trans (by kernel_rfl))⟩
def W_30 (x:Qbv):Prop:=W_23 x.Sets∧W_28 x.Graphs
theorem R_30:Qy1 Tryz.prog 30 Qn9 W_30:=by
  intro H enc w base spare held fuel cs x h;obtain ⟨hl,n,hf⟩:=Q5s Tryz.underlying30 h;obtain ⟨y0,h0⟩:=hf 0 _ rfl;obtain ⟨a0,w0,r0⟩:=Qeh (off:=0) (sz:=5) R_23 (by kernel_rfl) (fun _=>rfl) h0;obtain ⟨y1,h1⟩:=hf 1 _ rfl;obtain ⟨a1,w1,r1⟩:=Qeh (off:=5) (sz:=81) R_28 (by kernel_rfl) (fun _=>rfl) h1;exact ⟨⟨a0,a1⟩,⟨w0,w1⟩,RDat.all (xs:=Qn9 ⟨a0,a1⟩) (RDat.app r0 rfl r1) (hl.trans (by kernel_rfl))⟩
theorem A_30:Q1l Tryz.prog 30 (fun (a:Qbv)=>.agg [.d (.int .u8 a.Sets.1),.d (.int .u8 a.Sets.2.1),.d (.int .u8 a.Sets.2.2.1),.d (.int .u8 a.Sets.2.2.2.1),.d (.int .u8 a.Sets.2.2.2.2),.d (.int .u8 a.Graphs.1.zF),.d (.int .u8 a.Graphs.1.Marks),.d (.int .u8 a.Graphs.1.To.1.1),.d (.int .u8 a.Graphs.1.To.1.2.1),.d (.int .u8 a.Graphs.1.To.1.2.2.1),.d (.int .u8 a.Graphs.1.To.1.2.2.2.1),.d (.int .u8 a.Graphs.1.To.1.2.2.2.2),.d (.int .u8 a.Graphs.1.To.2.1.1),.d (.int .u8 a.Graphs.1.To.2.1.2.1),.d (.int .u8 a.Graphs.1.To.2.1.2.2.1),.d (.int .u8 a.Graphs.1.To.2.1.2.2.2.1),.d (.int .u8 a.Graphs.1.To.2.1.2.2.2.2),.d (.int .u8 a.Graphs.1.To.2.2.1.1),.d (.int .u8 a.Graphs.1.To.2.2.1.2.1),.d (.int .u8 a.Graphs.1.To.2.2.1.2.2.1),.d (.int .u8 a.Graphs.1.To.2.2.1.2.2.2.1),.d (.int .u8 a.Graphs.1.To.2.2.1.2.2.2.2),.d (.int .u8 a.Graphs.1.To.2.2.2.1.1),.d (.int .u8 a.Graphs.1.To.2.2.2.1.2.1),.d (.int .u8 a.Graphs.1.To.2.2.2.1.2.2.1),.d (.int .u8 a.Graphs.1.To.2.2.2.1.2.2.2.1),.d (.int .u8 a.Graphs.1.To.2.2.2.1.2.2.2.2),.d (.int .u8 a.Graphs.1.To.2.2.2.2.1),.d (.int .u8 a.Graphs.1.To.2.2.2.2.2.1),.d (.int .u8 a.Graphs.1.To.2.2.2.2.2.2.1),.d (.int .u8 a.Graphs.1.To.2.2.2.2.2.2.2.1),.d (.int .u8 a.Graphs.1.To.2.2.2.2.2.2.2.2),.d (.int .u8 a.Graphs.2.1.zF),.d (.int .u8 a.Graphs.2.1.Marks),.d (.int .u8 a.Graphs.2.1.To.1.1),.d (.int .u8 a.Graphs.2.1.To.1.2.1),.d (.int .u8 a.Graphs.2.1.To.1.2.2.1),.d (.int .u8 a.Graphs.2.1.To.1.2.2.2.1),.d (.int .u8 a.Graphs.2.1.To.1.2.2.2.2),.d (.int .u8 a.Graphs.2.1.To.2.1.1),.d (.int .u8 a.Graphs.2.1.To.2.1.2.1),.d (.int .u8 a.Graphs.2.1.To.2.1.2.2.1),.d (.int .u8 a.Graphs.2.1.To.2.1.2.2.2.1),.d (.int .u8 a.Graphs.2.1.To.2.1.2.2.2.2),.d (.int .u8 a.Graphs.2.1.To.2.2.1.1),.d (.int .u8 a.Graphs.2.1.To.2.2.1.2.1),.d (.int .u8 a.Graphs.2.1.To.2.2.1.2.2.1),.d (.int .u8 a.Graphs.2.1.To.2.2.1.2.2.2.1),.d (.int .u8 a.Graphs.2.1.To.2.2.1.2.2.2.2),.d (.int .u8 a.Graphs.2.1.To.2.2.2.1.1),.d (.int .u8 a.Graphs.2.1.To.2.2.2.1.2.1),.d (.int .u8 a.Graphs.2.1.To.2.2.2.1.2.2.1),.d (.int .u8 a.Graphs.2.1.To.2.2.2.1.2.2.2.1),.d (.int .u8 a.Graphs.2.1.To.2.2.2.1.2.2.2.2),.d (.int .u8 a.Graphs.2.1.To.2.2.2.2.1),.d (.int .u8 a.Graphs.2.1.To.2.2.2.2.2.1),.d (.int .u8 a.Graphs.2.1.To.2.2.2.2.2.2.1),.d (.int .u8 a.Graphs.2.1.To.2.2.2.2.2.2.2.1),.d (.int .u8 a.Graphs.2.1.To.2.2.2.2.2.2.2.2),.d (.int .u8 a.Graphs.2.2.zF),.d (.int .u8 a.Graphs.2.2.Marks),.d (.int .u8 a.Graphs.2.2.To.1.1),.d (.int .u8 a.Graphs.2.2.To.1.2.1),.d (.int .u8 a.Graphs.2.2.To.1.2.2.1),.d (.int .u8 a.Graphs.2.2.To.1.2.2.2.1),.d (.int .u8 a.Graphs.2.2.To.1.2.2.2.2),.d (.int .u8 a.Graphs.2.2.To.2.1.1),.d (.int .u8 a.Graphs.2.2.To.2.1.2.1),.d (.int .u8 a.Graphs.2.2.To.2.1.2.2.1),.d (.int .u8 a.Graphs.2.2.To.2.1.2.2.2.1),.d (.int .u8 a.Graphs.2.2.To.2.1.2.2.2.2),.d (.int .u8 a.Graphs.2.2.To.2.2.1.1),.d (.int .u8 a.Graphs.2.2.To.2.2.1.2.1),.d (.int .u8 a.Graphs.2.2.To.2.2.1.2.2.1),.d (.int .u8 a.Graphs.2.2.To.2.2.1.2.2.2.1),.d (.int .u8 a.Graphs.2.2.To.2.2.1.2.2.2.2),.d (.int .u8 a.Graphs.2.2.To.2.2.2.1.1),.d (.int .u8 a.Graphs.2.2.To.2.2.2.1.2.1),.d (.int .u8 a.Graphs.2.2.To.2.2.2.1.2.2.1),.d (.int .u8 a.Graphs.2.2.To.2.2.2.1.2.2.2.1),.d (.int .u8 a.Graphs.2.2.To.2.2.2.1.2.2.2.2),.d (.int .u8 a.Graphs.2.2.To.2.2.2.2.1),.d (.int .u8 a.Graphs.2.2.To.2.2.2.2.2.1),.d (.int .u8 a.Graphs.2.2.To.2.2.2.2.2.2.1),.d (.int .u8 a.Graphs.2.2.To.2.2.2.2.2.2.2.1),.d (.int .u8 a.Graphs.2.2.To.2.2.2.2.2.2.2.2)]) W_30:=Qbhh R_30 (.inl ⟨_,Tryz.underlying30⟩)
def W_3 (x:Int):Prop:=wfI .i64 x
theorem R_3:Qy1 Tryz.prog 3 (eI .i64) W_3:=Q5r Tryz.underlying3
def W_32 (x:List Int):Prop:=wfL W_3 x
theorem R_32:Qy1 Tryz.prog 32 (eL 1 (eI .i64)) W_32:=Qbb7 Tryz.underlying32 R_3 (by kernel_rfl) (by decide) (fun _=>rfl)
def W_55 (x:Qx):Prop:=W_32 x.Word∧W_32 x.Other∧W_3 x.Event
theorem R_55:Qy1 Tryz.prog 55 Qrt W_55:=by
  intro H enc w base spare held fuel cs x h;obtain ⟨hl,n,hf⟩:=Q5s Tryz.underlying55 h;obtain ⟨y0,h0⟩:=hf 0 _ rfl;obtain ⟨a0,w0,r0⟩:=Qeh (off:=0) (sz:=1) R_32 (by kernel_rfl) (fun _=>rfl) h0;obtain ⟨y1,h1⟩:=hf 1 _ rfl;obtain ⟨a1,w1,r1⟩:=Qeh (off:=1) (sz:=1) R_32 (by kernel_rfl) (fun _=>rfl) h1;obtain ⟨y2,h2⟩:=hf 2 _ rfl;obtain ⟨a2,w2,r2⟩:=Qeh (off:=2) (sz:=1) R_3 (by kernel_rfl) (fun _=>rfl) h2;exact ⟨⟨a0,a1,a2⟩,⟨w0,w1,w2⟩,RDat.all (xs:=Qrt ⟨a0,a1,a2⟩) (RDat.app r0 rfl (RDat.app r1 rfl r2)) (hl.trans (by kernel_rfl))⟩
theorem A_55:Q1l Tryz.prog 55 (fun (a:Qx)=>.agg [.d (.lst 1 (List.map (eI .i64) a.Word)),.d (.lst 1 (List.map (eI .i64) a.Other)),.d (.int .i64 a.Event)]) W_55:=Qbhh R_55 (.inl ⟨_,Tryz.underlying55⟩)
end Go.Proofs
end
section
namespace Go.Abs
set_option maxRecDepth 100000
theorem Qbew:Qjs=some true:=by kernel_rfl
end Go.Abs
end
section
namespace Go.Abs
open Go
theorem Qc7 {X R:Type} {F:(X→Option R)→X→Option R} (I:X→Prop) (m:X→Nat) (Q:X→Option R→Prop)
  (step:∀ (k:X→Option R) (x:X),I x→(∀ y,I y→m y<m x→Q y (k y))→Q x (F k x)):∀ (fuel:Nat) (x:X),I x→m x<fuel→Q x (Qbx F fuel x)
 | 0,x,_,h=>absurd h (Nat.not_lt_zero _)
 | fuel+1,x,hi,h=>step _ x hi fun y hy hm=>Qc7 I m Q step fuel y hy (by omega)
theorem Q3z {X R:Type} {F:(X→Option R)→X→Option R} {fuel:Nat} {x:X} (I:X→Prop) (m:X→Nat) (q:Option R) (hi:I x) (hm:m x<fuel)
  (step:∀ (k:X→Option R) (x:X),I x→(∀ y,I y→m y<m x→k y=q)→F k x=q):Qbx F fuel x=q :=
 Qc7 I m (fun _ r=>r=q) step fuel x hi hm
theorem Qu4 {x:Int} (h1 : -9223372036854775808≤x) (h2:x≤9223372036854775807):IntKind.wrap .i64 x=x:=by
 simp [IntKind.wrap,IntKind.bits,IntKind.signed];omega
theorem Qbhi {x:Int} (h1:0≤x) (h2:x<256):IntKind.wrap .u8 x=x:=by
 simp [IntKind.wrap,IntKind.bits,IntKind.signed];omega
theorem Qbb {n:Nat} (h:n<9223372036854775807):IntKind.wrap .i64 ((n:Int)+1)=((n+1:Nat):Int):=by
 grind [Qu4]
theorem Q1 {α:Type} {l:List α} {n:Nat} (h:n<l.length):getO l (n:Int)=some l[n]:=by
 simp [getO,h]
theorem Q5v {α:Type} {l:List α} {i:Int} {x:α}:getO l i=some x↔0≤i∧l[i.toNat]? = some x:=by
 simp_all [getO,reduceCtorEq,false_iff,not_and,absurd]
theorem Qb5 {α:Type} {l m:List α} (h:l.length+m.length≤lim):appO l m=some (l++m):=by
 unfold appO;rw [if_pos h]
theorem Qbam {α:Type} {s t:List α} {k:Nat} (hs:k<s.length) (ht:k<t.length) (h:s.take k=t.take k) (he:s[k]=t[k]):s.take (k+1)=t.take (k+1):=by
 grind [List.take_add_one,List.getElem?_eq_getElem]
theorem Qk2 {R:Type} {F:(Int→Option R)→Int→Option R} {len fuel:Nat} (G:Nat→Option R) (hf:len<fuel)
  (step:∀ (k:Int→Option R) (n:Nat),n<len→k ((n+1:Nat):Int)=G (n+1)→F k (n:Int)=G n) (last:∀ k:Int→Option R,F k (len:Int)=G len):Qbx F fuel 0=G 0:=by
 have:=Qc7 (F:=F) (fun x=>∃ n:Nat,x=(n:Int)∧n≤len) (fun x=>len-x.toNat) (fun x r=>∀ n:Nat,x=(n:Int)→r=G n) (fun k x hx ih=>by
  obtain ⟨n,rfl,hn⟩:=hx;intro m hm;obtain rfl:n=m:=by omega
  by_cases h:n<len
  ·exact step k n h (ih _ ⟨n+1,rfl,by omega⟩ (by omega) (n+1) rfl)
  grind) fuel 0 ⟨0,rfl,by omega⟩ (by simpa using hf)
 exact this 0 rfl
theorem Q1n {n:Nat} (h0:0<n) (h:n<9223372036854775807):IntKind.wrap .i64 ((n:Int)-1)=((n-1:Nat):Int):=by
 grind [Qu4]
theorem Qbjb {X S R:Type} {F:(X→Option R)→X→Option R} {len:Nat} (mk:Nat→S→X) (G:Nat→S→Option R)
  (step:∀ (k:X→Option R) (n:Nat) (s:S),n<len→(∀ s',k (mk (n+1) s')=G (n+1) s')→F k (mk n s)=G n s) (last:∀ (k:X→Option R) (s:S),F k (mk len s)=G len s) :
  ∀ (fuel n:Nat) (s:S),n≤len→len-n<fuel→Qbx F fuel (mk n s)=G n s
 | 0,n,s,_,h=>by omega
 | fuel+1,n,s,hn,h=>by
  show F (Qbx F fuel) (mk n s)=_;by_cases hlt:n<len
  ·exact step _ n s hlt fun s'=>Qbjb mk G step last fuel (n+1) s' (by omega) (by omega)
  grind
theorem Qbkb {i j:Nat} (hi:i<1000000000000) (hj:j<1000000000000):IntKind.wrap .i64 (Int.fdiv (IntKind.wrap .u64 (IntKind.wrap .i64 ((i:Int)+j))) (2 ^ (min (Int.toNat 1) (IntKind.bits .u64))))=(((i+j) / 2:Nat):Int):=by
 grind [Go.IntKind.wrap,Qu4,Go.IntKind.bits,Go.IntKind.signed,Min.min,Int.toNat,Int.fdiv_eq_ediv_of_nonneg]
theorem Q30 {α:Type} {l:List α} {i j:Nat} (h:i≤j) (hj:j≤l.length):slcO l (i:Int) (j:Int)=some ((l.take j).drop i):=by
 simp [slcO,h,hj]
theorem Qbex:∀ {l m:List Int},l.Pairwise (· < ·)→m.Pairwise (· < ·)→(∀ x,x∈l↔x∈m)→l=m
 | l,m,h1,h2,h=>by
  have n1:l.Nodup:=h1.imp fun h=>by omega
  have n2:m.Nodup:=h2.imp fun h=>by omega
  grind [List.perm_ext_iff_of_nodup,List.Perm.eq_of_pairwise]
section
variable {α:Type} {p:α→Bool}
theorem Q2t:∀ {l:List α},l.Pairwise (fun a b=>p b=true→p a=true)→∀ (n:Nat) (h:n<l.length),p l[n]=true↔n<(l.filter p).length
 | [],_,n,h=>by simp at h
 | x::xs,hs,n,h=>by
  obtain ⟨h1,h2⟩:=List.pairwise_cons.1 hs;cases n with
  | zero =>
   cases hx:p x with
   | true=>simp [hx]
   | false =>
    have:xs.filter p=[]:=List.filter_eq_nil_iff.2 fun y hy hp=>by have:=h1 y hy hp;rw [hx] at this;cases this
    simp [hx,this]
  | succ n =>
   have ih:=Q2t h2 n (by simpa using h);cases hx:p x with
   | true=>simp [hx,ih]
   | false =>
    have:xs.filter p=[]:=List.filter_eq_nil_iff.2 fun y hy hp=>by have:=h1 y hy hp;rw [hx] at this;cases this
    rw [this] at ih;simp [hx,this] at ih ⊢;exact ih
end
theorem Qiu {X S R:Type} {F:(X→Option R)→X→Option R} {len:Nat} (mk:Nat→S→X) (I:Nat→S→Prop) (G:Nat→S→Option R)
  (step:∀ (k:X→Option R) (n:Nat) (s:S),n<len→I n s→(∀ s',I (n+1) s'→k (mk (n+1) s')=G (n+1) s')→F k (mk n s)=G n s) (last:∀ (k:X→Option R) (s:S),I len s→F k (mk len s)=G len s) :
  ∀ (fuel n:Nat) (s:S),n≤len→len-n<fuel→I n s→Qbx F fuel (mk n s)=G n s
 | 0,n,s,_,h,_=>by omega
 | fuel+1,n,s,hn,h,hi=>by
  show F (Qbx F fuel) (mk n s)=_;by_cases hlt:n<len
  ·exact step _ n s hlt hi fun s' hi'=>Qiu mk I G step last fuel (n+1) s' (by omega) (by omega) hi'
  grind
theorem Qj1:∀ {l:List Int} {a b:Int},l.Pairwise (· < ·)→(∀ x∈l,a≤x∧x<b)→l.length≤(b-a).toNat
 | [],_,_,_,_=>by simp
 | x::xs,a,b,h,hr=>by
  obtain ⟨h1,h2⟩:=List.pairwise_cons.1 h;have:=Qj1 (a:=x+1) (b:=b) h2 fun y hy=>⟨by have:=h1 y hy;omega,(hr y (by simp [hy])).2⟩;have:=hr x (by simp)
  grind
end Go.Abs
end
section
namespace Go.Abs
abbrev big : Nat := 1000000000000
def small (a : Qa) : Prop := a.zB.length < big ∧ a.zC.length < big ∧ a.zD.length < big
end Go.Abs
end
section
namespace Go.Abs
open Go
def Qe3 (n:Int):Option Int→List Int→Int
 | _,[]=>0
 | p,x::xs=>if x<0∨x≥n then 2 else if ∃ y,p=some y∧x≤y then 5 else Qe3 n (some x) xs
def Qk8 (al:List Int) (st:Int):Option Qb→List Qb→Int
 | _,[]=>0
 | p,x::xs=>if x.From<0∨x.From≥st∨x.To<0∨x.To≥st then 2 else if x.Event∉al then 9 else if ∃ y,p=some y∧(x.From<y.From∨x.From=y.From∧x.Event≤y.Event) then 5 else Qk8 al st (some x) xs
def Qhy (a:Qa):Int :=
 if Qe3 32 none a.zB≠0 then Qe3 32 none a.zB else if a.zF<0 then 2 else if a.zF>4096 then 3 else
 if Qe3 a.zF none a.zC≠0 then Qe3 a.zF none a.zC else Qk8 a.zB a.zF none a.zD
def ahead {α:Type} (l:List α) (n:Nat):Option α:=if n=0 then none else l[n-1]?
theorem Ql0 {α:Type} (l:List α):ahead l 0=none:=rfl
theorem Q7l {α:Type} (l:List α) {n:Nat} (h:n<l.length):ahead l (n+1)=some l[n]:=by simp [ahead,h]
theorem Q1o {α:Type} (l:List α) {n:Nat} (h0:0<n) (h:n≤l.length):ahead l n=some (l[n-1]'(by omega)):=by
 simp [ahead,show n≠0 from by omega,show n-1<l.length from by omega]
theorem Qxs {n:Int} {l:List Int} {k:Nat} (h:k<l.length):Qe3 n (ahead l k) (l.drop k)=if l[k]<0∨l[k]≥n then 2 else if ∃ y,ahead l k=some y∧l[k]≤y then 5 else Qe3 n (ahead l (k+1)) (l.drop (k+1)):=by
 rw [List.drop_eq_getElem_cons h,Qe3,Q7l l h]
theorem Q8v {al:List Int} {n:Int} {l:List Qb} {k:Nat} (h:k<l.length):Qk8 al n (ahead l k) (l.drop k)=if l[k].From<0∨l[k].From≥n∨l[k].To<0∨l[k].To≥n then 2 else if l[k].Event∉al then 9 else if ∃ y,ahead l k=some y∧(l[k].From<y.From∨l[k].From=y.From∧l[k].Event≤y.Event) then 5 else Qk8 al n (ahead l (k+1)) (l.drop (k+1)):=by
 rw [List.drop_eq_getElem_cons h,Qk8,Q7l l h]
theorem Q5w {l:List Int} {n:Int} (hl:l.length<big):Qhu l n=some (Qe3 n none l):=by
 unfold Qhu Qc2;refine (Qk2 (len:=l.length) (fun k=>some (Qe3 n (ahead l k) (l.drop k))) (by unfold Q3;unfold big at hl;omega) ?_ ?_).trans (by simp [Ql0])
 ·intro k i hi ih;have hb:i<1000000000000:=by unfold big at hl;omega
  rw [Qxs hi]
  try dsimp only
  rw [if_pos (by omega),Q1 hi,Qbb (by omega),ih];simp only [Option.bind_some];by_cases h1:l[i]<0
  ·simp [h1]
  ·by_cases h2:l[i]≥n
   ·simp [h1,h2]
   ·by_cases h0:0<i
    ·rw [Q1n h0 (by omega),Q1 (by omega:i-1<l.length),Q1o l h0 (by omega)];by_cases h3:l[i]≤l[i-1]<;>simp [h1,h2,h3,h0]
    ·obtain rfl:i=0:=by omega
     simp [h1,h2,Ql0]
 ·intro k;simp [Qe3]
theorem Qbjc {l:List Int} {v:Int} (hl:l.length<big):Qja l v=some (if v∈l then (l.idxOf v:Int) else -1):=by
 unfold Qja Qee;refine (Qk2 (len:=l.length) (fun k=>some (if v∈l.drop k then ((k+(l.drop k).idxOf v:Nat):Int) else -1)) (by unfold Q3;unfold big at hl;omega) ?_ ?_).trans (by simp)
 ·intro k i hi ih;have hb:i<1000000000000:=by unfold big at hl;omega
  try dsimp only
  rw [if_pos (by omega),Q1 hi,Qbb (by omega),ih,List.drop_eq_getElem_cons hi];simp only [Option.bind_some,List.mem_cons,List.idxOf_cons];by_cases h:v=l[i]
  ·simp [← h]
  ·have:¬ l[i]=v:=fun e=>h e.symm;have hbq:(l[i]==v)=false:=by simp [this]
   by_cases h2:v∈l.drop (i+1)<;>simp [h,h2,hbq];omega
 ·intro k;simp
theorem Q5x {l:List Int} {v:Int} (hl:l.length<big):Qcc l v=some (decide (v∈l)):=by
 unfold Qcc Qk;rw [Qbjc hl];simp only [Option.bind_some,Option.some.injEq];by_cases h:v∈l<;>simp [h]
theorem Qbdw {l:List Int} {v:Int} (hl:l.length<big):Qd4 l v=some (decide (v∈l)):=by
 unfold Qd4 Qb1;refine (Qk2 (len:=l.length) (fun k=>some (decide (v∈l.drop k))) (by unfold Q3;unfold big at hl;omega) ?_ ?_).trans (by simp)
 ·intro k i hi ih;have hb:i<1000000000000:=by unfold big at hl;omega
  try dsimp only
  rw [if_pos (by omega),Q1 hi,Qbb (by omega),ih,List.drop_eq_getElem_cons hi];simp only [Option.bind_some,List.mem_cons];by_cases h:l[i]=v
  ·simp [h]
  ·have:¬ v=l[i]:=fun e=>h e.symm;simp [h,this]
 ·intro k;simp
theorem Q8w {a:Qa} (h:small a):Qg1 a=some (Qk8 a.zB a.zF none a.zD):=by
 obtain ⟨hal,_,hl⟩:=h;unfold Qg1 Qcy;refine (Qk2 (len:=a.zD.length) (fun k=>some (Qk8 a.zB a.zF (ahead a.zD k) (a.zD.drop k))) (by unfold Q3;unfold big at hl;omega) ?_ ?_).trans (by simp [Ql0])
 ·intro k i hi ih;have hb:i<1000000000000:=by unfold big at hl;omega
  rw [Q8v hi];unfold letJ
  try dsimp only
  rw [if_pos (by omega),Q1 hi,Qbb (by omega),ih];simp only [Option.bind_some,Q5x hal];generalize a.zD[i]=x;by_cases h1:x.From<0
  ·simp [h1]
  by_cases h2:x.From≥a.zF
  ·simp [h1,h2]
  by_cases h3:x.To<0
  ·simp [h1,h2,h3]
  by_cases h4:x.To≥a.zF
  ·simp [h1,h2,h3,h4]
  by_cases h5:x.Event∈a.zB
  ·by_cases h0:0<i
   ·rw [Q1n h0 (by omega),Q1 (by omega:i-1<a.zD.length),Q1o a.zD h0 (by omega)];generalize a.zD[i-1]=y;have hi0:i≠0:=by omega
    by_cases h6:x.From<y.From
    ·simp [h1,h2,h3,h4,h5,h6,hi0]
    by_cases h7:y.From=x.From
    ·by_cases h8:x.Event≤y.Event<;>simp [h1,h2,h3,h4,h5,h6,h7,h8,hi0]
    ·have h7' : ¬ x.From=y.From:=fun e=>h7 e.symm;simp [h1,h2,h3,h4,h5,h6,h7,hi0,h7']
   ·obtain rfl:i=0:=by omega
    simp [h1,h2,h3,h4,h5,Ql0]
  ·simp [h1,h2,h3,h4,h5]
 ·intro k;unfold letJ;simp [Qk8]
theorem Q31 {a:Qa} (h:small a):Qe2 a=some (Qhy a):=by
 unfold Qe2 Qz Qhy;rw [Q5w h.1,Q5w h.2.1,Q8w h];simp only [Option.bind_some];by_cases h1:Qe3 32 none a.zB=0
 ·by_cases h2:a.zF<0
  ·simp [h1,h2]
  by_cases h3:a.zF>4096
  ·simp [h1,h2,h3]
  by_cases h4:Qe3 a.zF none a.zC=0<;>simp [h1,h2,h3,h4]
 ·simp [h1]
end Go.Abs
end
section
namespace Go.Abs
open Go
def Qiv (x y:Qb):Prop:=x.From<y.From∨x.From=y.From∧x.Event<y.Event
instance (x y:Qb):Decidable (Qiv x y):=by unfold Qiv;infer_instance
structure Right (a:Qa):Prop where
 al0:∀ x∈a.zB,0≤x∧x<32
 al:a.zB.Pairwise (· < ·)
 st:0≤a.zF∧a.zF≤4096
 ma0:∀ x∈a.zC,0≤x∧x<a.zF
 ma:a.zC.Pairwise (· < ·)
 ed0:∀ x∈a.zD,0≤x.From∧x.From<a.zF∧0≤x.To∧x.To<a.zF∧x.Event∈a.zB
 ed:a.zD.Pairwise Qiv
theorem Ql1 {n:Int}:∀ {l:List Int} {p:Option Int},Qe3 n p l=0↔(∀ x∈l,0≤x∧x<n)∧l.Pairwise (· < ·)∧∀ y,p=some y→∀ x∈l,y<x
 | [],p=>by simp [Qe3]
 | x::xs,p=>by
  rw [Qe3];split
  ·rename_i h;refine ⟨fun h=>by omega,fun hh=>?_⟩;have:=hh.1 x (by simp);omega
  ·rename_i h;split
   ·rename_i h2;obtain ⟨y,hy,hxy⟩:=h2;refine ⟨fun h=>by omega,fun hh=>?_⟩;have:=hh.2.2 y hy x (by simp);omega
   ·rename_i h2;rw [Ql1];constructor
    ·rintro ⟨k1,k2,k3⟩;refine ⟨fun z hz=>?_,List.pairwise_cons.2 ⟨fun z hz=>k3 x rfl z hz,k2⟩,fun y hy z hz=>?_⟩
     ·rcases List.mem_cons.1 hz with rfl|hz
      ·omega
      ·exact k1 z hz
     ·have hyx:y<x:=by
       rcases Int.lt_or_le y x with h|h
       ·exact h
       ·exact absurd ⟨y,hy,h⟩ h2
      rcases List.mem_cons.1 hz with rfl|hz
      ·exact hyx
      ·have:=k3 x rfl z hz;omega
    ·rintro ⟨k1,k2,k3⟩;obtain ⟨k4,k5⟩:=List.pairwise_cons.1 k2;exact ⟨fun z hz=>k1 z (by simp [hz]),k5,fun y hy z hz=>by cases hy;exact k4 z hz⟩
theorem Qu5 {al:List Int} {n:Int}:∀ {l:List Qb} {p:Option Qb},Qk8 al n p l=0↔(∀ x∈l,0≤x.From∧x.From<n∧0≤x.To∧x.To<n∧x.Event∈al)∧l.Pairwise Qiv∧∀ y,p=some y→∀ x∈l,Qiv y x
 | [],p=>by simp [Qk8]
 | x::xs,p=>by
  have tr:∀ a b c:Qb,Qiv a b→Qiv b c→Qiv a c:=fun a b c h k=>by unfold Qiv at *;omega
  rw [Qk8];split
  ·rename_i h;refine ⟨fun h=>by omega,fun hh=>?_⟩;have:=hh.1 x (by simp);omega
  ·rename_i h;split
   ·rename_i h2;refine ⟨fun h=>by omega,fun hh=>?_⟩;exact absurd (hh.1 x (by simp)).2.2.2.2 h2
   ·rename_i hal;split
    ·rename_i h2;obtain ⟨y,hy,hxy⟩:=h2;refine ⟨fun h=>by omega,fun hh=>?_⟩;have:=hh.2.2 y hy x (by simp);unfold Qiv at this;omega
    ·rename_i h2;rw [Qu5];constructor
     ·rintro ⟨k1,k2,k3⟩;refine ⟨fun z hz=>?_,List.pairwise_cons.2 ⟨fun z hz=>k3 x rfl z hz,k2⟩,fun y hy z hz=>?_⟩
      ·rcases List.mem_cons.1 hz with rfl|hz
       ·exact ⟨by omega,by omega,by omega,by omega,Decidable.not_not.1 hal⟩
       ·exact k1 z hz
      ·have hyx:Qiv y x:=by
        apply Decidable.byContradiction;intro h;exact h2 ⟨y,hy,by unfold Qiv at h;omega⟩
       rcases List.mem_cons.1 hz with rfl|hz
       ·exact hyx
       ·exact tr _ _ _ hyx (k3 x rfl z hz)
     ·rintro ⟨k1,k2,k3⟩;obtain ⟨k4,k5⟩:=List.pairwise_cons.1 k2;exact ⟨fun z hz=>k1 z (by simp [hz]),k5,fun y hy z hz=>by cases hy;exact k4 z hz⟩
theorem Qq7 {a:Qa}:Qhy a=0↔Right a:=by
 unfold Qhy;constructor
 ·intro h;split at h
  ·rename_i h1;exact absurd h h1
  rename_i h1;split at h
  ·omega
  split at h
  ·omega
  split at h
  ·rename_i h4;exact absurd h h4
  rename_i h4;have q1:=Ql1.1 (Decidable.not_not.1 h1);have q2:=Ql1.1 (Decidable.not_not.1 h4);have q3:=Qu5.1 h;exact ⟨q1.1,q1.2.1,⟨by omega,by omega⟩,q2.1,q2.2.1,q3.1,q3.2.1⟩
 ·intro h;have q1:Qe3 32 none a.zB=0:=Ql1.2 ⟨h.al0,h.al,fun y hy=>by cases hy⟩;have q2:Qe3 a.zF none a.zC=0:=Ql1.2 ⟨h.ma0,h.ma,fun y hy=>by cases hy⟩;have q3:Qk8 a.zB a.zF none a.zD=0:=Qu5.2 ⟨h.ed0,h.ed,fun y hy=>by cases hy⟩;have:=h.st;rw [if_neg (by simp [q1]),if_neg (by omega),if_neg (by omega),if_neg (by simp [q2]),q3]
def outP (a:Qa) (s:Int):List Qb:=a.zD.filter fun x=>x.From==s
def Qcq (a:Qa) (s e:Int):Int:=match a.zD.find? fun x=>x.From==s&&x.Event==e with
 | some x=>x.To
 | none=>-1
theorem Qbhj {l:List Qb} (h:l.Pairwise Qiv) (s:Int):l.Pairwise fun a b=>decide (b.From<s)=true→decide (a.From<s)=true :=
 h.imp fun h=>by unfold Qiv at h;simp;omega
theorem Qbkc {l:List Qb} {s:Int} {cmp:Qb→Int→Option Int} (hcmp:∀ x∈l,cmp x s=some (x.From-s)) (hs:l.Pairwise Qiv) (hl:l.length<big) :
  ∃ b,Qeo l s cmp=some (((l.filter fun x=>decide (x.From<s)).length:Int),b):=by
 have hc:=fun n h=>Q2t (p:=fun x:Qb=>decide (x.From<s)) (Qbhj hs s) n h;have hcl:(l.filter fun x=>decide (x.From<s)).length≤l.length:=List.length_filter_le _ _;generalize (l.filter fun x=>decide (x.From<s)).length=c at hc hcl;have hb:l.length<1000000000000:=hl;unfold Qeo Qbn;have hloop:=Qc7 (F:=fun (k13:Int×Int→Option Int) ((i11,j12):Int×Int)=>(if (i11<j12) then ((getO l (IntKind.wrap .i64 (Int.fdiv (IntKind.wrap .u64 (IntKind.wrap .i64 (i11+j12))) (2 ^ (min (Int.toNat 1) (IntKind.bits .u64)))))).bind fun x15=>((cmp x15 s).bind fun x18=>(if (x18<0) then k13 ((IntKind.wrap .i64 ((IntKind.wrap .i64 (Int.fdiv (IntKind.wrap .u64 (IntKind.wrap .i64 (i11+j12))) (2 ^ (min (Int.toNat 1) (IntKind.bits .u64)))))+1)),j12) else k13 (i11,(IntKind.wrap .i64 (Int.fdiv (IntKind.wrap .u64 (IntKind.wrap .i64 (i11+j12))) (2 ^ (min (Int.toNat 1) (IntKind.bits .u64))))))))) else some i11))
  (fun x=>∃ i j:Nat,x=((i:Int),(j:Int))∧i≤c∧c≤j∧j≤l.length) (fun x=>(x.2-x.1).toNat) (fun _ r=>r=some (c:Int)) (by
   rintro k _ ⟨i,j,rfl,h1,h2,h3⟩ ih;dsimp only;by_cases hij:i<j
   ·rw [if_pos (by omega),Qbkb (by omega) (by omega)];have hm:(i+j) / 2<l.length:=by omega
    rw [Q1 hm];simp only [Option.bind_some];rw [hcmp _ (List.getElem_mem hm)];simp only [Option.bind_some];have hcm:=hc ((i+j) / 2) hm;by_cases hlt:l[(i+j) / 2].From<s
    ·rw [if_pos (by omega),Qbb (by omega)];have:(i+j) / 2<c:=hcm.1 (by simpa using hlt);exact ih _ ⟨_,_,rfl,by omega,h2,h3⟩ (by simp only;omega)
    ·rw [if_neg (by omega)];have:¬ (i+j) / 2<c:=fun h=>hlt (by simpa using hcm.2 h);exact ih _ ⟨_,_,rfl,h1,by omega,by omega⟩ (by simp only;omega)
   ·rw [if_neg (by omega)];have:i=c:=by omega
    rw [this]) Q3 (0,(l.length:Int)) ⟨0,l.length,rfl,by omega,hcl,Nat.le_refl _⟩ (by unfold Q3;simp only;omega)
 rw [hloop];simp only [Option.bind_some];by_cases hlt:c<l.length
 ·rw [if_pos (by omega),Q1 hlt];simp only [Option.bind_some];rw [hcmp _ (List.getElem_mem hlt)];exact ⟨_,rfl⟩
 ·rw [if_neg (by omega)];exact ⟨_,rfl⟩
theorem Qban:∀ {l:List Qb} (s:Int),l.Pairwise Qiv→(l.take (l.filter fun x=>decide (x.From<s+1)).length).drop (l.filter fun x=>decide (x.From<s)).length=l.filter fun x=>x.From==s
 | [],s,_=>by simp
 | x::xs,s,h=>by
  obtain ⟨h1,h2⟩:=List.pairwise_cons.1 h;have ih:=Qban s h2;have hge:∀ y∈xs,x.From≤y.From:=fun y hy=>by have:=h1 y hy;unfold Qiv at this;omega
  by_cases hx:x.From<s
  ·have e1:decide (x.From<s)=true:=by simpa using hx
   have e2:decide (x.From<s+1)=true:=by simp;omega
   have e3:(x.From==s)=false:=by simp;omega
   simp only [List.filter_cons,e1,e2,e3,if_true,List.length_cons,List.take_succ_cons,List.drop_succ_cons,Bool.false_eq_true,if_false];exact ih
  ·have hz:xs.filter (fun x=>decide (x.From<s))=[]:=List.filter_eq_nil_iff.2 fun y hy=>by have:=hge y hy;simp;omega
   have e1:decide (x.From<s)=false:=by simpa using hx
   by_cases hq:x.From=s
   ·have e2:decide (x.From<s+1)=true:=by simp;omega
    have e3:(x.From==s)=true:=by simp [hq]
    simp only [List.filter_cons,e1,e2,e3,if_true,List.length_cons,List.take_succ_cons,Bool.false_eq_true,if_false,hz,List.length_nil,List.drop_zero];rw [hz,List.length_nil,List.drop_zero] at ih;rw [ih]
   ·have e2:decide (x.From<s+1)=false:=by simp;omega
    have e3:(x.From==s)=false:=by simp [hq]
    have hz1:xs.filter (fun x=>decide (x.From<s+1))=[]:=List.filter_eq_nil_iff.2 fun y hy=>by have:=hge y hy;simp;omega
    have hz2:xs.filter (fun x=>x.From==s)=[]:=List.filter_eq_nil_iff.2 fun y hy=>by have:=hge y hy;simp;omega
    simp only [List.filter_cons,e1,e2,e3,Bool.false_eq_true,if_false,hz,hz1,hz2,List.length_nil,List.take_zero,List.drop_zero]
section
variable {a:Qa} (h:Right a) (hs:small a)
include h hs
theorem Qbmq {s:Int} (h0 : -1000000000000<s) (h1:s<1000000000000):Qia a s=some (outP a s):=by
 unfold Qia Qf3;have hst:=h.st;have hw:∀ t:Int,-1000000000002<t→t<1000000000002→∀ x∈a.zD,IntKind.wrap .i64 (x.From-t)=x.From-t:=fun t k1 k2 x hx=>by
  have:=h.ed0 x hx;exact Qu4 (by omega) (by omega)
 have e1:IntKind.wrap .i64 (s+1)=s+1:=Qu4 (by omega) (by omega);obtain ⟨b1,k1⟩:=Qbkc (s:=s) (cmp:=Qjx) (fun x hx=>by unfold Qjx Qey;rw [hw s (by omega) (by omega) x hx]) h.ed hs.2.2;obtain ⟨b2,k2⟩:=Qbkc (s:=s+1) (cmp:=Qjy) (fun x hx=>by unfold Qjy Qez;rw [hw (s+1) (by omega) (by omega) x hx]) h.ed hs.2.2;rw [k1,e1];simp only [Option.bind_some];rw [k2];simp only [Option.bind_some];have hle:(a.zD.filter fun x=>decide (x.From<s)).length≤(a.zD.filter fun x=>decide (x.From<s+1)).length :=
  by rw [← List.countP_eq_length_filter,← List.countP_eq_length_filter];exact List.countP_mono_left fun x _ hx=>by simp at hx ⊢;omega
 rw [Q30 hle (List.length_filter_le _ _),Qban s h.ed]
 rfl
omit h in
theorem Q2u {s e:Int}:Qcm a s e=some (Qcq a s e):=by
 have hb:a.zD.length<1000000000000:=hs.2.2;unfold Qcm Q2;refine (Qk2 (len:=a.zD.length) (fun k=>some (match (a.zD.drop k).find? (fun x=>x.From==s&&x.Event==e) with|some x=>x.To|none=>-1)) (by unfold Q3;omega) ?_ ?_).trans (by simp [Qcq])
 ·intro k i hi ih;rw [if_pos (by omega),Q1 hi,Qbb (by omega),ih,List.drop_eq_getElem_cons hi];simp only [Option.bind_some,List.find?_cons];cases h1:a.zD[i].From==s<;>cases h2:a.zD[i].Event==e<;>simp [h1,h2]
 ·intro k;simp
end
theorem Qfs {a:Qa} (h:Right a) (s e:Int):Qcq a s e = -1∨0≤Qcq a s e∧Qcq a s e<a.zF∧0≤s∧s<a.zF∧e∈a.zB:=by
 unfold Qcq;split
 ·rename_i x hx;have hm:=List.mem_of_find?_eq_some hx;have hp:=List.find?_some hx;obtain ⟨k1,k2,k3,k4,k5⟩:=h.ed0 x hm;simp at hp;exact .inr ⟨k3,k4,by omega,by omega,hp.2 ▸ k5⟩
 ·exact .inl rfl
theorem Qol {a:Qa} (h:Right a) {s e:Int}:0≤Qcq a s e↔∃ x∈outP a s,x.Event=e:=by
 unfold Qcq outP;split
 ·rename_i x hx;have hm:=List.mem_of_find?_eq_some hx;have hp:=List.find?_some hx;simp at hp;refine ⟨fun _=>⟨x,by simp [hm,hp.1],hp.2⟩,fun _=>(h.ed0 x hm).2.2.1⟩
 ·rename_i hx;have:=List.find?_eq_none.1 hx;refine ⟨fun h=>by omega,?_⟩;rintro ⟨x,h1,h2⟩;simp at h1;exact absurd (by simp [h1.2,h2]) (this x h1.1)
theorem Qq8 {a:Qa} (h:Right a) (s:Int):(outP a s).map (·.Event)=a.zB.filter fun e=>decide (0≤Qcq a s e):=by
 refine Qbex ?_ (h.al.filter _) fun e=>?_
 ·rw [List.pairwise_map];have h1:(outP a s).Pairwise Qiv:=h.ed.filter _;have h2:∀ x∈outP a s,x.From=s:=fun x hx=>by unfold outP at hx;simp at hx;exact hx.2
  exact List.Pairwise.imp_of_mem (fun {x y} hx hy hk=>by have:=h2 x hx;have:=h2 y hy;unfold Qiv at hk;omega) h1
 ·simp only [List.mem_map,List.mem_filter,decide_eq_true_eq,Qol h];constructor
  ·rintro ⟨x,hx,rfl⟩;refine ⟨?_,x,hx,rfl⟩;unfold outP at hx;simp at hx;exact (h.ed0 x hx.1).2.2.2.2
  ·rintro ⟨_,x,hx,rfl⟩;exact ⟨x,hx,rfl⟩
theorem Qxt {a:Qa} (h:Right a) {s:Int} {x:Qb} (hx:x∈outP a s):Qcq a s x.Event=x.To:=by
 unfold outP at hx;simp at hx;unfold Qcq;split
 ·rename_i y hy;have hm:=List.mem_of_find?_eq_some hy;have hp:=List.find?_some hy;simp at hp;have:x=y:=by
   rcases Classical.em (x=y) with e|hne
   ·exact e
   ·exfalso;have hk:Qiv x y∨Qiv y x:=by
     have:=List.pairwise_iff_getElem.1 h.ed;obtain ⟨i,hi,rfl⟩:=List.getElem_of_mem hx.1;obtain ⟨j,hj,rfl⟩:=List.getElem_of_mem hm;rcases Nat.lt_trichotomy i j with hij|hij|hij
     ·exact .inl (this i j hi hj hij)
     ·subst hij;exact absurd rfl hne
     ·exact .inr (this j i hj hi hij)
    unfold Qiv at hk;omega
  rw [this]
 ·rename_i hn;exact absurd (by simp [hx.2]) (List.find?_eq_none.1 hn x hx.1)
end Go.Abs
end
section
namespace Go.Abs
open Go
theorem Q3a {l:List Int} {n:Int} (hl:l.length<big):Qfo l n=some (Qe3 n none l):=by
 unfold Qfo Qdj;refine (Qk2 (len:=l.length) (fun k=>some (Qe3 n (ahead l k) (l.drop k))) (by unfold Q3;unfold big at hl;omega) ?_ ?_).trans (by simp [Ql0])
 ·intro k i hi ih;have hb:i<1000000000000:=by unfold big at hl;omega
  rw [Qxs hi]
  try dsimp only
  rw [if_pos (by omega),Q1 hi,Qbb (by omega),ih];simp only [Option.bind_some];by_cases h1:l[i]<0
  ·simp [h1]
  ·by_cases h2:l[i]≥n
   ·simp [h1,h2]
   ·by_cases h0:0<i
    ·rw [Q1n h0 (by omega),Q1 (by omega:i-1<l.length),Q1o l h0 (by omega)];by_cases h3:l[i]≤l[i-1]<;>simp [h1,h2,h3,h0]
    ·obtain rfl:i=0:=by omega
     simp [h1,h2,Ql0]
 ·intro k;simp [Qe3]
theorem Qbjd {l m:List Int} (hl:l.Pairwise (· < ·)) (hm:m.Pairwise (· < ·)) (h1:l.length<big) (h2:m.length<1000000):Qk5 l m=some (l.filter fun x=>decide (x∉m)):=by
 unfold Qk5 Qfe Qhe Qce;obtain ⟨fuel,hfu,hge⟩ : ∃ f,Q3=f∧1099511627776≤f:=⟨_,rfl,Nat.le_refl _⟩;rw [hfu];have hg:∀ (x:Int) (l:List Int),getO (x::l) 0=some x:=fun x l=>Q1 (l:=x::l) (n:=0) (by simp);have hd:∀ (x:Int) (l:List Int),slcO (x::l) 1 ((x::l).length:Int)=some l:=fun x l=>by
  grind [Q30,List.take_length]
 have hk:∀ p q,Qmr p q=some (p && !q):=fun p q=>by cases p<;>cases q<;>rfl
 rw [Q3z (fun x:List Int×List Int×List Int=>x.1.Pairwise (· < ·)∧x.2.1.Pairwise (· < ·)∧x.2.2.length+x.1.length<big∧x.2.2++x.1.filter (fun z=>decide (z∉x.2.1))=l.filter fun z=>decide (z∉m)) (fun x=>x.1.length+x.2.1.length) (some (l.filter fun z=>decide (z∉m))) ⟨hl,hm,by simpa using h1,by simp⟩ (by grind) ?_]
 ·rfl
 rintro k ⟨a,b,out⟩ ⟨ha,hb,ho,he⟩ ih;dsimp only at ha hb ho he ih ⊢
 match a,b with
 | [],[]=>simpa using he
 | [],y::ys =>
  simp_all
 | x::xs,[] =>
  rw [show ((([]:List Int).length:Nat):Int)=0 from rfl];have hp:(((x::xs).length:Nat):Int)>0:=by grind
  rw [if_pos hp,Option.bind_some,if_pos rfl,if_pos hp,if_pos (by rfl),Option.bind_some,if_neg (by omega),Option.bind_some,if_pos rfl,hg,hd];simp only [Option.bind_some,hk,Bool.true_and,Bool.not_false,Bool.false_eq_true,if_false,if_true];simp only [List.length_cons] at ho;rw [Qb5 (by simp only [List.length_cons,List.length_nil];unfold lim;unfold big at ho;omega),Option.bind_some]
  grind
 | x::xs,y::ys =>
  obtain ⟨ha1,ha2⟩:=List.pairwise_cons.1 ha;obtain ⟨hb1,hb2⟩:=List.pairwise_cons.1 hb;have hp:(((x::xs).length:Nat):Int)>0:=by grind
  have hq:(((y::ys).length:Nat):Int)>0:=by grind
  have hp0:((((x::xs).length:Nat):Int)==0)=false:=by grind
  have hq0:((((y::ys).length:Nat):Int)==0)=false:=by grind
  rw [if_pos hp,Option.bind_some,if_pos rfl,if_pos hp,if_neg (by rw [hq0];simp),hg,hg,Option.bind_some,Option.bind_some,Option.bind_some,if_pos hq,if_neg (by rw [hp0];simp),Option.bind_some,Option.bind_some,Option.bind_some,hd,hd];simp only [List.length_cons] at ho;rcases Int.lt_trichotomy x y with hxy|rfl|hxy
  ·have e1:decide (x≤y)=true:=decide_eq_true (by omega);have e2:decide (y≤x)=false:=decide_eq_false (by omega);simp only [e1,e2,Option.bind_some,hk,Bool.not_false,Bool.true_and,if_true,Bool.false_eq_true,if_false];rw [Qb5 (by simp only [List.length_cons,List.length_nil];unfold lim;unfold big at ho;omega),Option.bind_some]
   grind
  ·have e1:decide (x≤x)=true:=decide_eq_true (by omega);simp only [e1,Option.bind_some,hk,Bool.not_true,Bool.and_false,if_true,Bool.false_eq_true,if_false]
   grind [List.filter_cons_of_neg,List.filter_congr]
  ·have e1:decide (x≤y)=false:=decide_eq_false (by omega);have e2:decide (y≤x)=true:=decide_eq_true (by omega);simp only [e1,e2,Option.bind_some,hk,Bool.false_and,if_true,Bool.false_eq_true,if_false];refine ih (x::xs,ys,out) ⟨ha,hb2,by grind,?_⟩ (by simp);rw [← he];congr 1;refine List.filter_congr fun z hz=>?_
   grind
theorem Qbao {l m:List Int} (hl:l.Pairwise (· < ·)) (hm:m.Pairwise (· < ·)) (h1:l.length<big) (h2:m.length<1000000):Qgr l m=some (decide (∀ x∈l,x∈m)):=by
 unfold Qgr Qex;rw [Qbjd hl hm h1 h2,Option.bind_some];congr 1;rw [Bool.eq_iff_iff]
 simp_all
def inAl (l m:List Int):Bool:=decide (∀ x∈l,x∈m)
def Qbap (p:Qj):Int :=
 if Qhy p.Plant≠0 then Qhy p.Plant else if Qhy p.Ambient≠0 then Qhy p.Ambient else if Qhy p.Requirement≠0 then Qhy p.Requirement else
 if inAl p.Ambient.zB p.Plant.zB=false then 9 else if inAl p.Requirement.zB p.Plant.zB=false then 9 else
 if Qe3 32 none p.Observable≠0 then Qe3 32 none p.Observable else Qe3 32 none p.Controllable
structure Qbhk (p:Qj):Prop where
 hp:small p.Plant
 ha:small p.Ambient
 hr:small p.Requirement
 ho:p.Observable.length<big
 hc:p.Controllable.length<big
theorem Qbb9 {p:Qj} (h:Qbhk p):Qk6 p=some (Qbap p):=by
 unfold Qk6 Qff Qbap;obtain ⟨f,hf⟩ : ∃ f,Q3=f+4:=⟨1099511627772,rfl⟩;rw [hf];have g0:getO [p.Plant,p.Ambient,p.Requirement] 0=some p.Plant:=rfl;have g1:getO [p.Plant,p.Ambient,p.Requirement] 1=some p.Ambient:=rfl;have g2:getO [p.Plant,p.Ambient,p.Requirement] 2=some p.Requirement:=rfl;have a0:getO [p.Ambient,p.Requirement] 0=some p.Ambient:=rfl;have a1:getO [p.Ambient,p.Requirement] 1=some p.Requirement:=rfl;have o0:getO [p.Observable,p.Controllable] 0=some p.Observable:=rfl;have o1:getO [p.Observable,p.Controllable] 1=some p.Controllable:=rfl;have w1:IntKind.wrap .i64 (0+1)=1:=by decide
 have w2:IntKind.wrap .i64 (1+1)=2:=by decide
 have w3:IntKind.wrap .i64 (2+1)=3:=by decide
 simp only [Qbx,g0,g1,g2,a0,a1,o0,o1,w1,w2,w3,Option.bind_some,Q31 h.hp,Q31 h.ha,Q31 h.hr,Q3a h.ho,Q3a h.hc];by_cases e0:Qhy p.Plant=0
 ·by_cases e1:Qhy p.Ambient=0
  ·by_cases e2:Qhy p.Requirement=0
   ·have r0:=Qq7.1 e0;have r1:=Qq7.1 e1;have r2:=Qq7.1 e2;have hm:p.Plant.zB.length<1000000:=by have:=Qj1 r0.al r0.al0;omega
    rw [show Qgr p.Ambient.zB p.Plant.zB=some (inAl p.Ambient.zB p.Plant.zB) from Qbao r1.al r0.al h.ha.1 hm,show Qgr p.Requirement.zB p.Plant.zB=some (inAl p.Requirement.zB p.Plant.zB) from Qbao r2.al r0.al h.hr.1 hm];cases s1:inAl p.Ambient.zB p.Plant.zB with
    | true =>
     cases s2:inAl p.Requirement.zB p.Plant.zB with
     | true =>
      by_cases l1:Qe3 32 none p.Observable=0
      ·by_cases l2:Qe3 32 none p.Controllable=0<;>simp [e0,e1,e2,s1,s2,l1,l2]
      ·simp [e0,e1,e2,s1,s2,l1]
     | false=>simp [e0,e1,e2,s1,s2]
    | false=>simp [e0,e1,e2,s1]
   ·simp [e0,e1,e2]
  ·simp [e0,e1]
 ·simp [e0]
section
variable {p:Qj} (h:Qbhk p) (hc:Qbap p≠0)
include h hc
end
theorem Qbje {l:List Int} {v:Int} (hl:l.length<big):Qll l v=some (decide (v∈l)):=Qbdw hl
end Go.Abs
end
section
namespace Go.Abs
open Go
theorem Right.small {a:Qa} (h:Right a):small a∧a.zB.length≤32∧a.zC.length≤4096∧a.zD.length≤131072:=by
 have h1:=Qj1 h.al h.al0;have h2:=Qj1 h.ma h.ma0;have h3:(a.zD.map fun x=>x.From*32+x.Event).Pairwise (· < ·):=by
  rw [List.pairwise_map];refine List.Pairwise.imp_of_mem (fun {x y} hx hy hk=>?_) h.ed;have:=h.al0 _ (h.ed0 x hx).2.2.2.2;have:=h.al0 _ (h.ed0 y hy).2.2.2.2;unfold Qiv at hk;omega
 have h4:=Qj1 (a:=0) (b:=131072) h3 (by
  intro z hz;obtain ⟨x,hx,rfl⟩:=List.mem_map.1 hz;have:=h.al0 _ (h.ed0 x hx).2.2.2.2;have:=h.ed0 x hx;have:=h.st;omega)
 rw [List.length_map] at h4;have:=h.st;refine ⟨⟨?_,?_,?_⟩,?_,?_,?_⟩<;>(try unfold big)<;>omega
theorem Q0d {a:Qa} (h:Right a):Qe2 a=some 0:=by rw [Q31 h.small.1,Qq7.2 h]
end Go.Abs
end
section
namespace Go.Abs
open Go
def ins (o:List Int) (t:Int):List Int:=if t∈o then o else o++[t]
def Ql7 (a:Qa) (s:Int):List Int:=(outP a s).map (·.To)
def bfs (a:Qa):Nat→Nat→List Int→List Int
 | 0,_,o=>o
 | fuel+1,i,o=>match o[i]? with
  | some s=>bfs a fuel (i+1) ((Ql7 a s).foldl ins o)
  | none=>o
def Qem (a:Qa):List Int:=bfs a (a.zF.toNat+1) 0 (if 0<a.zF then [0] else [])
structure Fnd (a:Qa) (o:List Int):Prop where
 nd:o.Nodup
 rg:∀ s∈o,0≤s∧s<a.zF
theorem Fnd.len {a:Qa} {o:List Int} (h:Fnd a o):o.length≤a.zF.toNat:=by
 have hO:Go.Sort.SWO Qkt:=⟨fun x=>by simp [Qkt],fun x y z h1 h2=>by simp [Qkt] at *;omega,fun x y z h1 h2=>by simp [Qkt] at *;omega⟩;have hp:=Qnt Qkt o;have hs:=Qpp hO o;have hn:(Qmq Qkt o).Nodup:=(hp.nodup_iff).2 h.nd;have hlt:(Qmq Qkt o).Pairwise (· < ·):=by
  have:(Qmq Qkt o).Pairwise fun x y=>Qkt y x=false∧x≠y:=hs.and hn;exact this.imp fun ⟨h1,h2⟩=>by simp [Qkt] at h1;omega
 have:=Qj1 hlt (a:=0) (b:=a.zF) fun x hx=>h.rg x (hp.mem_iff.1 hx);rw [Qpo] at this;simpa using this
theorem Q5y {o:List Int} {t x:Int}:x∈ins o t↔x∈o∨x=t:=by
 unfold ins;split
 ·rename_i h;constructor
  ·exact .inl
  ·rintro (h'|rfl)
   ·exact h'
   ·exact h
 ·simp
theorem Qblf (o:List Int) (t:Int):o <+: ins o t:=by
 unfold ins;split
 ·exact List.prefix_refl o
 ·exact List.prefix_append o [t]
theorem Fnd.ins {a:Qa} {o:List Int} (h:Fnd a o) {t:Int} (ht:0≤t∧t<a.zF):Fnd a (ins o t):=by
 refine ⟨?_,fun s hs=>?_⟩
 ·unfold Go.Abs.ins;split
  ·exact h.nd
  ·rename_i hn;rw [List.nodup_append];exact ⟨h.nd,by simp,fun x hx y hy=>by simp at hy;subst hy;exact fun e=>hn (e ▸ hx)⟩
 ·rcases Q5y.1 hs with hs|rfl
  ·exact h.rg s hs
  ·exact ht
theorem Qxu {a:Qa}:∀ {ts o:List Int},Fnd a o→(∀ t∈ts,0≤t∧t<a.zF)→Fnd a (ts.foldl ins o)∧o <+: ts.foldl ins o∧(∀ t∈ts,t∈ts.foldl ins o)∧∀ x∈ts.foldl ins o,x∈o∨x∈ts
 | [],o,h,_=>⟨h,List.prefix_refl o,by simp,fun x hx=>.inl hx⟩
 | t::ts,o,h,ht=>by
  obtain ⟨h1,h2,h3,h4⟩:=Qxu (ts:=ts) (h.ins (ht t (by simp))) fun t ht'=>ht t (by simp [ht']);refine ⟨h1,(Qblf o t).trans h2,fun x hx=>?_,fun x hx=>?_⟩
  ·rcases List.mem_cons.1 hx with rfl|hx
   ·exact h2.subset (Q5y.2 (.inr rfl))
   ·exact h3 x hx
  ·rcases h4 x hx with h5|h5
   ·rcases Q5y.1 h5 with h6|rfl
    ·exact .inl h6
    ·exact .inr (by simp)
   ·exact .inr (by simp [h5])
theorem Q0e {a:Qa} (h:Right a) (s:Int):∀ t∈Ql7 a s,0≤t∧t<a.zF:=by
 intro t ht;unfold Ql7 outP at ht;obtain ⟨x,hx,rfl⟩:=List.mem_map.1 ht;have:=h.ed0 x ((List.mem_filter.1 hx).1);omega
theorem Ql2 {α:Type} {l m:List α} (h:l <+: m) {i:Nat} {x:α} (hx:l[i]? = some x):m[i]? = some x:=by
 obtain ⟨t,rfl⟩:=h;have:=(List.getElem?_eq_some_iff.1 hx).1;rw [List.getElem?_append_left this];exact hx
theorem Q8x {a:Qa} (h:Right a):∀ (fuel i:Nat) (o:List Int),Fnd a o→i≤o.length→a.zF.toNat+1≤fuel+i→(∀ j s,j<i→o[j]? = some s→∀ t∈Ql7 a s,t∈o) →
  Fnd a (bfs a fuel i o)∧o <+: bfs a fuel i o∧∀ s∈bfs a fuel i o,∀ t∈Ql7 a s,t∈bfs a fuel i o
 | 0,i,o,hf,hi,hfu,_=>by have:=hf.len;omega
 | fuel+1,i,o,hf,hi,hfu,hc=>by
  unfold bfs;cases hg:o[i]? with
  | none =>
   dsimp only;refine ⟨hf,List.prefix_refl o,fun s hs t ht=>?_⟩;obtain ⟨j,hj⟩:=List.getElem?_of_mem hs;have hlt:=(List.getElem?_eq_some_iff.1 hj).1;exact hc j s (by have:=List.getElem?_eq_none_iff.1 hg;omega) hj t ht
  | some s =>
   dsimp only;obtain ⟨h1,h2,h3,_⟩:=Qxu hf (Q0e h s);have hlen:i<o.length:=(List.getElem?_eq_some_iff.1 hg).1;have hle:=h2.length_le;obtain ⟨k1,k2,k3⟩:=Q8x h fuel (i+1) ((Ql7 a s).foldl ins o) h1 (by omega) (by omega) (fun j s' hj hs' t ht=>by
    by_cases hji:j<i
    ·have hjl:j<o.length:=by omega
     have:o[j]? = some s':=by
      have:=Ql2 h2 (List.getElem?_eq_getElem hjl);rw [hs'] at this;rw [List.getElem?_eq_getElem hjl];exact this.symm
     exact h2.subset (hc j s' hji this t ht)
    ·obtain rfl:j=i:=by omega
     have:=Ql2 h2 hg;rw [hs'] at this;cases this;exact h3 t ht)
   exact ⟨k1,h2.trans k2,k3⟩
theorem Ql3 {a:Qa} (h:Right a):Fnd a (Qem a)∧(if 0<a.zF then [0] else []) <+: Qem a∧∀ s∈Qem a,∀ t∈Ql7 a s,t∈Qem a :=
 Q8x h _ 0 _ ⟨by split<;>simp,fun s hs=>by split at hs<;>simp at hs;subst hs;omega⟩ (Nat.zero_le _) (by omega) fun j s hj=>by omega
def Qmy (m:List Int):Nat→List Int→List Int
 | _,[]=>[]
 | i,s::t=>(if s∈m then [(i:Int)] else [])++Qmy m (i+1) t
def rowP (a:Qa) (F:List Int) (i:Nat) (s:Int):List Qb:=(outP a s).map fun x=>⟨(i:Int),x.Event,(F.idxOf x.To:Int)⟩
def Qnf (a:Qa) (F:List Int):Nat→List Int→List Qb
 | _,[]=>[]
 | i,s::t=>rowP a F i s++Qnf a F (i+1) t
def Qho (a:Qa):Qa:=⟨a.zB,((Qem a).length:Int),Qmy a.zC 0 (Qem a),Qnf a (Qem a) 0 (Qem a)⟩
theorem Qxv {m:List Int}:∀ {l:List Int} {i:Nat},∀ x∈Qmy m i l,(i:Int)≤x∧x<(i+l.length:Nat)
 | [],i,x,hx=>by simp [Qmy] at hx
 | s::t,i,x,hx=>by
  simp only [Qmy,List.mem_append] at hx;rcases hx with hx|hx
  ·split at hx<;>simp at hx;subst hx;simp only [List.length_cons];omega
  ·have:=Qxv x hx;simp only [List.length_cons];omega
theorem Q1p {m:List Int}:∀ {l:List Int} {i:Nat},(Qmy m i l).Pairwise (· < ·)
 | [],i=>.nil
 | s::t,i=>by
  simp only [Qmy];rw [List.pairwise_append];refine ⟨by split<;>simp,Q1p,fun x hx y hy=>?_⟩;have:=Qxv y hy;split at hx<;>simp at hx;omega
theorem Qu6 {a:Qa} {F:List Int}:∀ {l:List Int} {i:Nat},∀ x∈Qnf a F i l,(i:Int)≤x.From∧x.From<(i+l.length:Nat)∧∃ s∈l,∃ y∈outP a s,x.Event=y.Event∧x.To=(F.idxOf y.To:Int)
 | [],i,x,hx=>by simp [Qnf] at hx
 | s::t,i,x,hx=>by
  simp only [Qnf,List.mem_append] at hx;rcases hx with hx|hx
  ·obtain ⟨y,hy,rfl⟩:=List.mem_map.1 hx;simp only [List.length_cons];exact ⟨by omega,by omega,s,by simp,y,hy,rfl,rfl⟩
  ·obtain ⟨h1,h2,s',h3,h4⟩:=Qu6 x hx;simp only [List.length_cons];exact ⟨by omega,by omega,s',by simp [h3],h4⟩
theorem Q1q {a:Qa} (h:Right a) {F:List Int}:∀ {l:List Int} {i:Nat},(Qnf a F i l).Pairwise Qiv
 | [],i=>.nil
 | s::t,i=>by
  simp only [Qnf];rw [List.pairwise_append];refine ⟨?_,Q1q h,fun x hx y hy=>?_⟩
  ·unfold rowP;rw [List.pairwise_map];have h1:(outP a s).Pairwise Qiv:=h.ed.filter _;have h2:∀ x∈outP a s,x.From=s:=fun x hx=>by unfold outP at hx;simp at hx;exact hx.2
   exact List.Pairwise.imp_of_mem (fun {x y} hx hy hk=>by have:=h2 x hx;have:=h2 y hy;unfold Qiv at hk;exact .inr ⟨rfl,by show x.Event<y.Event;omega⟩) h1
  ·obtain ⟨z,_,rfl⟩:=List.mem_map.1 hx;have:=(Qu6 y hy).1;unfold Qiv;simp only;omega
theorem Qig {a:Qa} (h:Right a):Right (Qho a):=by
 obtain ⟨h1,h2,h3⟩:=Ql3 h;have hl:=h1.len;have hst:=h.st;refine ⟨h.al0,h.al,⟨by simp only [Qho];omega,by simp only [Qho];omega⟩,fun x hx=>?_,Q1p,fun x hx=>?_,Q1q h⟩
 ·have:=Qxv x hx;simp only [Qho];omega
 ·obtain ⟨k1,k2,s,hs,y,hy,k3,k4⟩:=Qu6 x hx;have hy' : y.To∈Qem a:=h3 s hs y.To (List.mem_map.2 ⟨y,hy,rfl⟩);have:=List.idxOf_lt_length_iff.2 hy';simp only [Qho];refine ⟨by omega,by omega,by omega,by omega,?_⟩;rw [k3];unfold outP at hy;exact (h.ed0 y ((List.mem_filter.1 hy).1)).2.2.2.2
end Go.Abs
end
section
namespace Go.Abs
open Go
theorem Qbdx {l:List Int} (hl:l.length≤lim):Qf5 l=some ⟨l,0,[],[]⟩:=by
 unfold Qf5 Qbl;rw [Qb5 (by simpa using hl)];rfl
theorem Qbca {l:List Int} {v:Int} (hl:l.length<big):Qf6 l v=some (if v∈l then (l.idxOf v:Int) else -1):=by
 have hb:l.length<1000000000000:=hl;unfold Qf6 Qdf;refine (Qk2 (len:=l.length) (fun k=>some (if v∈l.drop k then ((k+(l.drop k).idxOf v:Nat):Int) else -1)) (by unfold Q3;omega) ?_ ?_).trans (by simp)
 ·intro k i hi ih;rw [if_pos (by omega),Q1 hi,Qbb (by omega),ih,List.drop_eq_getElem_cons hi];simp only [Option.bind_some,List.mem_cons,List.idxOf_cons];by_cases h:v=l[i]
  ·simp [← h]
  ·have h' : ¬ l[i]=v:=fun e=>h e.symm;have hbq:(l[i]==v)=false:=by simp [h']
   by_cases h2:v∈l.drop (i+1)<;>simp [h,h2,hbq];omega
 ·intro k;simp
theorem Q3b {a:Qa} (h:Right a) (s:Int):Ql7 a s=(a.zB.filter fun e=>decide (0≤Qcq a s e)).map (Qcq a s):=by
 rw [← Qq8 h,List.map_map];unfold Ql7;exact List.map_congr_left fun x hx=>(Qxt h hx).symm
theorem Q7m {a:Qa} (s:Int):∀ (al o:List Int),al.foldl (fun o e=>if 0≤Qcq a s e then ins o (Qcq a s e) else o) o=((al.filter fun e=>decide (0≤Qcq a s e)).map (Qcq a s)).foldl ins o
 | [],o=>rfl
 | e::al,o=>by
  by_cases hx:0≤Qcq a s e<;>simp [List.filter_cons,hx,Q7m s al]
theorem Qbdy {a:Qa} {fuel i:Nat} {o:List Int} (hi:i<o.length):bfs a (fuel+1) i o=bfs a fuel (i+1) ((Ql7 a o[i]).foldl ins o):=by
 conv=>lhs;unfold bfs
 rw [List.getElem?_eq_getElem hi]
theorem Qbhl {a:Qa} {fuel:Nat} {o:List Int}:bfs a fuel o.length o=o:=by
 cases fuel with
 | zero=>rfl
 | succ n=>unfold bfs;simp
section
variable {a:Qa} (h:Right a)
include h
theorem Qbey (fuel:Nat) (hfu:1099511627776≤fuel) {s:Int} {o:List Int} {i:Nat} (hf:Fnd a o) (hi:o[i]? = some s) :
  Qbx (fun k12 ((out10,k11):(List Int)×Int)=>(if (k11<(a.zB.length:Int)) then ((((getO out10 (i:Int)).bind fun x14=>((getO a.zB k11).bind fun x16=>((Qcm a x14 x16).bind fun x19=>(((if (x19≥0) then ((Qd4 out10 x19).bind fun x22=>some (!x22)) else some false)).bind fun (x23:Bool)=>(if x23 then ((appO out10 [x19]).bind fun x25=>some x25) else some out10)))))).bind fun (out27:List Int)=>k12 (out27,(IntKind.wrap .i64 (k11+1)))) else some out10)) fuel (o,0)=some ((Ql7 a s).foldl ins o):=by
 have hs:=h.small.1;have hst:=h.st;have hb:a.zB.length<1000000000000:=hs.1;rw [Q3b h,← Q7m];refine (Qiu (len:=a.zB.length) (fun n (acc:List Int)=>(acc,(n:Int))) (fun n acc=>Fnd a acc∧acc[i]? = some s) (fun n acc=>some ((a.zB.drop n).foldl (fun o e=>if 0≤Qcq a s e then ins o (Qcq a s e) else o) acc)) ?_ ?_ fuel 0 o (Nat.zero_le _) (by omega) ⟨hf,hi⟩).trans (by simp)
 ·intro k n acc hn ⟨k1,k2⟩ ih;have hlen:=k1.len;have hg:getO acc (i:Int)=some s:=by rw [Q5v];exact ⟨by omega,by simpa using k2⟩
  dsimp only;rw [if_pos (by omega),hg,Q1 hn];simp only [Option.bind_some];rw [Q2u hs,Qbb (by omega)];simp only [Option.bind_some];rw [Qbdw (by unfold big;omega),List.drop_eq_getElem_cons hn,List.foldl_cons];rcases Qfs h s a.zB[n] with hr|hr
  ·rw [hr];simp only [show ¬ ((-1:Int)≥0) from by omega,show ¬ ((0:Int) ≤ -1) from by omega,if_false,Option.bind_some,Bool.false_eq_true];exact ih _ ⟨k1,k2⟩
  ·have hge:Qcq a s a.zB[n]≥0:=hr.1;by_cases hm:Qcq a s a.zB[n]∈acc
   ·simp only [hge,hm,decide_true,Bool.not_true,if_true,Option.bind_some,Bool.false_eq_true,if_false,hr.1,ins];exact ih _ ⟨k1,k2⟩
   ·simp only [hge,hm,decide_false,Bool.not_false,if_true,Option.bind_some,hr.1,ins,if_false];rw [Qb5 (by simp only [List.length_cons,List.length_nil];unfold lim;omega)];simp only [Option.bind_some];have hi':=k1.ins (t:=Qcq a s a.zB[n]) ⟨hr.1,hr.2.1⟩;unfold ins at hi';rw [if_neg hm] at hi';exact ih _ ⟨hi',Ql2 (List.prefix_append acc _) k2⟩
 ·intro k acc _;dsimp only;rw [if_neg (by omega)];simp
theorem Qbcb:Qhn a=some (Qem a):=by
 have hs:=h.small.1;have hst:=h.st;unfold Qhn Qde;obtain ⟨fuel,hfu,hge⟩ : ∃ f,Q3=f∧1099511627776≤f:=⟨_,rfl,Nat.le_refl _⟩;rw [hfu];have hloop:∀ o:List Int,Fnd a o→Qbx (fun (k8:List Int×Int→Option (List Int)) ((out6,i7):(List Int)×Int)=>(if (i7<(out6.length:Int)) then ((Qbx (fun k12 ((out10,k11):(List Int)×Int)=>(if (k11<(a.zB.length:Int)) then ((((getO out10 i7).bind fun x14=>((getO a.zB k11).bind fun x16=>((Qcm a x14 x16).bind fun x19=>(((if (x19≥0) then ((Qd4 out10 x19).bind fun x22=>some (!x22)) else some false)).bind fun (x23:Bool)=>(if x23 then ((appO out10 [x19]).bind fun x25=>some x25) else some out10)))))).bind fun (out27:List Int)=>k12 (out27,(IntKind.wrap .i64 (k11+1)))) else some out10)) fuel (out6,0)).bind fun (out28:List Int)=>k8 (out28,(IntKind.wrap .i64 (i7+1)))) else some out6)) fuel (o,0)=some (bfs a (a.zF.toNat+1) 0 o):=by
  intro o ho;have:=Qc7 (F:=fun (k8:List Int×Int→Option (List Int)) ((out6,i7):(List Int)×Int)=>(if (i7<(out6.length:Int)) then ((Qbx (fun k12 ((out10,k11):(List Int)×Int)=>(if (k11<(a.zB.length:Int)) then ((((getO out10 i7).bind fun x14=>((getO a.zB k11).bind fun x16=>((Qcm a x14 x16).bind fun x19=>(((if (x19≥0) then ((Qd4 out10 x19).bind fun x22=>some (!x22)) else some false)).bind fun (x23:Bool)=>(if x23 then ((appO out10 [x19]).bind fun x25=>some x25) else some out10)))))).bind fun (out27:List Int)=>k12 (out27,(IntKind.wrap .i64 (k11+1)))) else some out10)) fuel (out6,0)).bind fun (out28:List Int)=>k8 (out28,(IntKind.wrap .i64 (i7+1)))) else some out6))
   (fun x=>∃ i:Nat,x.2=(i:Int)∧i≤x.1.length∧Fnd a x.1) (fun x=>a.zF.toNat+1-x.2.toNat) (fun x r=>r=some (bfs a (a.zF.toNat+1-x.2.toNat) x.2.toNat x.1)) (by
    rintro k ⟨o,i⟩ ⟨i,rfl,hi,hf⟩ ih;replace hi:i≤o.length:=hi;replace hf:Fnd a o:=hf;have hl:=hf.len;dsimp only;by_cases hlt:i<o.length
    ·rw [if_pos (by omega),Qbey h fuel hge hf (List.getElem?_eq_getElem hlt),Option.bind_some,Qbb (by omega)];obtain ⟨q1,q2,_,_⟩:=Qxu hf (Q0e h o[i]);have hle:=q2.length_le;rw [ih _ ⟨i+1,rfl,by simp only;omega,q1⟩ (by simp only;omega)];simp only [Int.toNat_natCast];rw [show a.zF.toNat+1-i=(a.zF.toNat+1-(i+1))+1 from by omega,Qbdy hlt]
    ·rw [if_neg (by omega)];obtain rfl:i=o.length:=by omega
     simp only [Int.toNat_natCast,Qbhl]) fuel (o,0) ⟨0,rfl,Nat.zero_le _,ho⟩ (by simp only;omega)
  simpa using this
 by_cases h0:0<a.zF
 ·rw [if_pos (by omega),Qb5 (by simp only [List.length_cons,List.length_nil];unfold lim;omega)];simp only [Option.bind_some];rw [show ([]++[0]:List Int)=[0] from rfl,hloop [0] ⟨by simp,fun s hs=>by simp at hs;subst hs;omega⟩];simp only [Option.bind_some,Qem,if_pos h0]
 ·rw [if_neg (by omega)];simp only [Option.bind_some];rw [hloop [] ⟨by simp,fun s hs=>by simp at hs⟩];simp only [Option.bind_some,Qem,if_neg h0]
theorem Q7n (fuel:Nat) (hfu:1099511627776≤fuel) {F:List Int} (hF:Fnd a F) (hcl:∀ s∈F,∀ t∈Ql7 a s,t∈F) {s:Int} {i:Nat} (hi:F[i]? = some s) (ms:List Int) (es:List Qb) (hes:es.length≤200000) :
  Qbx (fun (k24:Int×List Qb→Option (List Int×List Qb)) ((k22,out23):Int×(List Qb))=>(if (k22<(a.zB.length:Int)) then ((((getO F (i:Int)).bind fun x26=>((getO a.zB k22).bind fun x28=>((Qcm a x26 x28).bind fun x31=>(if (x31≥0) then ((getO a.zB k22).bind fun x33=>((Qf6 F x31).bind fun x36=>((appO out23 [(Qb.mk (i:Int) x33 x36)]).bind fun x37=>some x37))) else some out23))))).bind fun (out39:List Qb)=>k24 ((IntKind.wrap .i64 (k22+1)),out39)) else some (ms,out23))) fuel (0,es)=some (ms,es++rowP a F i s):=by
 have hs:=h.small.1;have hst:=h.st;have hal:=h.small.2.1;have hb:a.zB.length<1000000000000:=hs.1;have hFl:=hF.len;have hrow:rowP a F i s=(a.zB.filter fun e=>decide (0≤Qcq a s e)).map fun e=>⟨(i:Int),e,(F.idxOf (Qcq a s e):Int)⟩:=by
  rw [← Qq8 h,List.map_map];unfold rowP;exact List.map_congr_left fun x hx=>by simp only [Function.comp];rw [Qxt h hx]
 rw [hrow];refine (Qiu (len:=a.zB.length) (fun n (acc:List Qb)=>((n:Int),acc)) (fun n acc=>acc.length≤200000+n) (fun n acc=>some (ms,acc++((a.zB.drop n).filter fun e=>decide (0≤Qcq a s e)).map fun e=>⟨(i:Int),e,(F.idxOf (Qcq a s e):Int)⟩)) ?_ ?_ fuel 0 es (Nat.zero_le _) (by omega) (by omega)).trans (by simp)
 ·intro k n acc hn k1 ih;have hg:getO F (i:Int)=some s:=by rw [Q5v];exact ⟨by omega,by simpa using hi⟩
  dsimp only;rw [if_pos (by omega),hg,Q1 hn];simp only [Option.bind_some];rw [Q2u hs,Qbb (by omega)];simp only [Option.bind_some];rw [List.drop_eq_getElem_cons hn,List.filter_cons];by_cases hr:0≤Qcq a s a.zB[n]
  ·have hm:Qcq a s a.zB[n]∈F:=hcl s (List.mem_of_getElem? hi) _ (by rw [Q3b h];exact List.mem_map.2 ⟨_,List.mem_filter.2 ⟨List.getElem_mem hn,by simpa using hr⟩,rfl⟩);rw [if_pos hr,Qbca (by unfold big;omega),if_pos hm];simp only [Option.bind_some];rw [Qb5 (by simp only [List.length_cons,List.length_nil];unfold lim;omega)];simp only [Option.bind_some];rw [ih _ (by simp only [List.length_append,List.length_cons,List.length_nil];omega)];simp only [hr,decide_true,if_true,List.map_cons,List.append_assoc,List.cons_append,List.nil_append]
  ·rw [if_neg (by omega)];simp only [Option.bind_some];rw [ih _ (by omega)];simp only [hr,decide_false,Bool.false_eq_true,if_false]
 ·intro k acc _;dsimp only;rw [if_neg (by omega)];simp
theorem Qbdz {F:List Int} {i:Nat} {s:Int}:(rowP a F i s).length≤32:=by
 have:=h.small.2.1;have h1:(rowP a F i s).length=((outP a s).map (·.Event)).length:=by simp [rowP]
 rw [h1,Qq8 h];exact Nat.le_trans (List.length_filter_le _ _) this
theorem Qxw:Qel a=some (Qho a):=by
 have hs:=h.small.1;have hst:=h.st;have hal:=h.small.2.1;have hb:a.zB.length<1000000000000:=hs.1;obtain ⟨hF,_,hcl⟩:=Ql3 h;have hFl:=hF.len;unfold Qel Q7;obtain ⟨fuel,hfu,hge⟩ : ∃ f,Q3=f∧1099511627776≤f:=⟨_,rfl,Nat.le_refl _⟩;rw [hfu,Qbcb h,Option.bind_some,Qbdx (by unfold lim;omega),Option.bind_some];unfold Qho;generalize Qem a=F at hF hcl hFl;show Option.bind (Qbx _ fuel (((0:Nat):Int),[],[],[],[],[])) _=_;rw [Qiu (len:=F.length) (R:=List Int×List Int×List Qb×List Int×List Qb) (fun n (acc:List Int×List Qb)=>((n:Int),([]:List Int),([]:List Int),([]:List Qb),acc.1,acc.2)) (fun n acc=>acc.1.length≤n∧acc.2.length≤32*n)
  (fun n acc=>some (([]:List Int),([]:List Int),([]:List Qb),acc.1++Qmy a.zC n (F.drop n),acc.2++Qnf a F n (F.drop n))) ?_ ?_ fuel 0 ([],[]) (Nat.zero_le _) (by omega) ⟨Nat.zero_le _,Nat.zero_le _⟩]
 ·simp
 ·rintro k n ⟨ms,es⟩ hn ⟨k1,k2⟩ ih;replace k1:ms.length≤n:=k1;replace k2:es.length≤32*n:=k2;have hg:=List.getElem?_eq_getElem hn;dsimp only;rw [if_pos (by omega),Q1 hn];simp only [Option.bind_some];rw [Qbdw hs.2.1];simp only [Option.bind_some];have hrl:=Qbdz h (F:=F) (i:=n) (s:=F[n]);rw [List.drop_eq_getElem_cons hn];simp only [Qmy,Qnf];by_cases hm:F[n]∈a.zC
  ·simp only [hm,decide_true,if_true];rw [Qb5 (by simp only [List.length_cons,List.length_nil];unfold lim;omega)];simp only [Option.bind_some];have:=Q7n h fuel hge hF hcl hg (ms++[(n:Int)]) es (by omega);rw [Q1 hn] at this;simp only [Option.bind_some] at this;rw [this];simp only [Option.bind_some];rw [Qbb (by omega),ih (ms++[(n:Int)],es++rowP a F n F[n]) ⟨by simp only [List.length_append,List.length_cons,List.length_nil];omega,by simp only [List.length_append];omega⟩];simp only [List.append_assoc]
  ·simp only [hm,decide_false,Bool.false_eq_true,if_false,Option.bind_some];have:=Q7n h fuel hge hF hcl hg ms es (by omega);rw [Q1 hn] at this;simp only [Option.bind_some] at this;rw [this];simp only [Option.bind_some];rw [Qbb (by omega),ih (ms,es++rowP a F n F[n]) ⟨by simp only;omega,by simp only [List.length_append];omega⟩];simp only [List.append_assoc,List.nil_append]
 ·rintro k ⟨ms,es⟩ _;dsimp only;rw [if_neg (by omega)];simp [Qmy,Qnf]
end
end Go.Abs
end
section
namespace Go.Abs
open Go
structure Evs (l:List Int):Prop where
 rg:∀ x∈l,0≤x∧x<5
 so:l.Pairwise (· < ·)
theorem Evs.len {l:List Int} (h:Evs l):l.length≤5:=by have:=Qj1 h.so h.rg;simpa using this
def Qbjf:List Int→Bool
 | []=>true
 | x::xs=>xs.all (fun y=>decide (x<y))&&Qbjf xs
theorem Qbaq:∀ {l:List Int},Qbjf l=true→l.Pairwise (· < ·)
 | [],_=>.nil
 | x::xs,h=>by
  simp only [Qbjf,Bool.and_eq_true,List.all_eq_true,decide_eq_true_eq] at h;exact List.pairwise_cons.2 ⟨h.1,Qbaq h.2⟩
def evB (s:Nat):Bool:=match Qdg (s:Int) with
 | some l=>Qbjf l&&l.all fun x=>decide (0≤x)&&decide (x<5)
 | none=>false
theorem Qblg:(List.range 256).all evB=true:=by kernel_rfl
theorem Qbhm {s:Int} (h0:0≤s) (h1:s<256):∃ l,Qdg s=some l∧Evs l:=by
 have:=List.all_eq_true.1 Qblg s.toNat (List.mem_range.2 (by omega));unfold evB at this;rw [show ((s.toNat:Nat):Int)=s from by omega] at this;split at this
 ·rename_i l hl;simp only [Bool.and_eq_true,List.all_eq_true,decide_eq_true_eq] at this;exact ⟨l,hl,fun x hx=>this.2 x hx,Qbaq this.1⟩
 ·cases this
structure Mks (n:Nat) (ms:List Int):Prop where
 rg:∀ x∈ms,0≤x∧x<n
 so:ms.Pairwise (· < ·)
structure Eds (al:List Int) (N:Int) (i k:Nat) (es:List Qb):Prop where
 rg:∀ x∈es,0≤x.From∧0≤x.To∧x.To<N∧x.Event∈al∧(x.From<i∨x.From=i∧∃ j:Nat,j<k∧al[j]? = some x.Event)
 so:es.Pairwise Qiv
 ln:es.length≤5*i+k
theorem Mks.up {n:Nat} {ms:List Int} (h:Mks n ms):Mks (n+1) ms:=⟨fun x hx=>by have:=h.rg x hx;omega,h.so⟩
theorem Mks.add {n:Nat} {ms:List Int} (h:Mks n ms):Mks (n+1) (ms++[(n:Int)]):=by
 refine ⟨fun x hx=>?_,?_⟩
 ·rcases List.mem_append.1 hx with hx|hx
  ·have:=h.rg x hx;omega
  ·simp at hx;omega
 ·rw [List.pairwise_append];exact ⟨h.so,by simp,fun x hx y hy=>by simp at hy;have:=h.rg x hx;omega⟩
theorem Mks.len {n:Nat} {ms:List Int} (h:Mks n ms):ms.length≤n:=by have:=Qj1 h.so h.rg;simpa using this
section
variable {al:List Int} (hal:Evs al) {N:Int} {i k:Nat} {es:List Qb}
theorem Eds.up (h:Eds al N i k es):Eds al N i (k+1) es:=⟨fun x hx=>by
 obtain ⟨h1,h2,h3,h4,h5⟩:=h.rg x hx;refine ⟨h1,h2,h3,h4,?_⟩;rcases h5 with h5|⟨h5,j,h6,h7⟩
 ·exact .inl h5
 ·exact .inr ⟨h5,j,by omega,h7⟩,h.so,by have:=h.ln;omega⟩
theorem Eds.next (h:Eds al N i k es) (hk:k≤5):Eds al N (i+1) 0 es:=⟨fun x hx=>by
 obtain ⟨h1,h2,h3,h4,h5⟩:=h.rg x hx;exact ⟨h1,h2,h3,h4,.inl (by rcases h5 with h5|⟨h5,_⟩<;>omega)⟩,h.so,by have:=h.ln;omega⟩
include hal in
theorem Eds.add (h:Eds al N i k es) (hk:k<al.length) {t:Int} (ht:0≤t∧t<N):Eds al N i (k+1) (es++[⟨(i:Int),al[k],t⟩]):=by
 refine ⟨fun x hx=>?_,?_,by have:=h.ln;simp only [List.length_append,List.length_cons,List.length_nil];omega⟩
 ·rcases List.mem_append.1 hx with hx|hx
  ·exact h.up.rg x hx
  ·simp at hx;subst hx;exact ⟨by simp only;omega,ht.1,ht.2,List.getElem_mem hk,.inr ⟨rfl,k,by omega,List.getElem?_eq_getElem hk⟩⟩
 ·rw [List.pairwise_append];refine ⟨h.so,by simp,fun x hx y hy=>?_⟩;simp at hy;subst hy;obtain ⟨_,_,_,_,h5⟩:=h.rg x hx;rcases h5 with h5|⟨h5,j,h6,h7⟩
  ·exact .inl h5
  ·refine .inr ⟨h5,?_⟩;obtain ⟨h8,h9⟩:=List.getElem?_eq_some_iff.1 h7;rw [← h9];exact List.pairwise_iff_getElem.1 hal.so j k h8 hk h6
end
structure Q5z (g:Qs):Prop where
 st:0≤g.zF∧g.zF<256
 to:∀ x∈[g.To.1.1,g.To.1.2.1,g.To.1.2.2.1,g.To.1.2.2.2.1,g.To.1.2.2.2.2,g.To.2.1.1,g.To.2.1.2.1,g.To.2.1.2.2.1,g.To.2.1.2.2.2.1,g.To.2.1.2.2.2.2,g.To.2.2.1.1,g.To.2.2.1.2.1,g.To.2.2.1.2.2.1,g.To.2.2.1.2.2.2.1,g.To.2.2.1.2.2.2.2,g.To.2.2.2.1.1,g.To.2.2.2.1.2.1,g.To.2.2.2.1.2.2.1,g.To.2.2.2.1.2.2.2.1,g.To.2.2.2.1.2.2.2.2,g.To.2.2.2.2.1,g.To.2.2.2.2.2.1,g.To.2.2.2.2.2.2.1,g.To.2.2.2.2.2.2.2.1,g.To.2.2.2.2.2.2.2.2],0≤x∧x<256
theorem Qbd0 {al:List Int} (hal:Evs al) (fuel:Nat) (hfu:1099511627776≤fuel) {L:List Int} (hL:L.length=25) (hL2:∀ x∈L,0≤x∧x<256) {N:Int} (hN:1≤N∧N≤5) {i:Nat} (hi:(i:Int)<N) {ms:List Int} {es:List Qb} (hes:Eds al N i 0 es) :
  ∃ es',Eds al N (i+1) 0 es'∧Qbx (fun (k25:Int×List Qb→Option (List Int×List Qb)) ((k23,a24):Int×(List Qb))=>(((if (k23<(al.length:Int)) then some (decide (k23<5)) else some false)).bind fun (x27:Bool)=>(if x27 then ((((inO 5 (i:Int)).bind fun _=>((inO 5 k23).bind fun _=>((rowO L (Int.toNat (i:Int)*5+Int.toNat k23*1)).bind fun x31=>((remO .i64 (IntKind.wrap .i64 x31) (IntKind.wrap .i64 (N+2))).bind fun s33=>(if (s33<N) then ((getO al k23).bind fun x36=>((appO a24 [(Qb.mk (i:Int) x36 s33)]).bind fun x38=>some x38)) else some a24)))))).bind fun (a40:List Qb)=>k25 ((IntKind.wrap .i64 (k23+1)),a40)) else some (ms,a24)))) fuel (0,es)=some (ms,es'):=by
 have hl:=hal.len;have:=Qc7 (F:=fun (k25:Int×List Qb→Option (List Int×List Qb)) ((k23,a24):Int×(List Qb))=>(((if (k23<(al.length:Int)) then some (decide (k23<5)) else some false)).bind fun (x27:Bool)=>(if x27 then ((((inO 5 (i:Int)).bind fun _=>((inO 5 k23).bind fun _=>((rowO L (Int.toNat (i:Int)*5+Int.toNat k23*1)).bind fun x31=>((remO .i64 (IntKind.wrap .i64 x31) (IntKind.wrap .i64 (N+2))).bind fun s33=>(if (s33<N) then ((getO al k23).bind fun x36=>((appO a24 [(Qb.mk (i:Int) x36 s33)]).bind fun x38=>some x38)) else some a24)))))).bind fun (a40:List Qb)=>k25 ((IntKind.wrap .i64 (k23+1)),a40)) else some (ms,a24))))
  (fun x=>∃ k:Nat,x.1=(k:Int)∧k≤al.length∧Eds al N i k x.2) (fun x=>al.length-x.1.toNat) (fun _ r=>∃ es',r=some (ms,es')∧Eds al N (i+1) 0 es') (by
   rintro kk ⟨k,es⟩ ⟨k,rfl,hk,he⟩ ih;replace he:Eds al N i k es:=he;replace hk:k≤al.length:=hk;dsimp only;by_cases hlt:k<al.length
   ·rw [if_pos (by omega)];simp only [Option.bind_some,show decide ((k:Int)<5)=true from by simp;omega,if_true];rw [show inO 5 (i:Int)=some () from by unfold inO;rw [if_pos (by omega)],show inO 5 (k:Int)=some () from by unfold inO;rw [if_pos (by omega)]];simp only [Option.bind_some,Int.toNat_natCast];have hidx:i*5+k*1<L.length:=by omega
    have hx:=hL2 _ (List.getElem_mem hidx);rw [show rowO L (i*5+k*1)=some L[i*5+k*1] from by unfold rowO;exact List.getElem?_eq_getElem hidx];simp only [Option.bind_some];rw [Qu4 (x:=L[i*5+k*1]) (by omega) (by omega),Qu4 (x:=N+2) (by omega) (by omega),show remO .i64 L[i*5+k*1] (N+2)=some (L[i*5+k*1].tmod (N+2)) from by unfold remO;rw [if_neg (by omega)]];simp only [Option.bind_some];have hmod:0≤L[i*5+k*1].tmod (N+2):=Int.tmod_nonneg _ hx.1;have hln:=he.ln;by_cases hm:L[i*5+k*1].tmod (N+2)<N
    ·rw [if_pos hm,Q1 hlt];simp only [Option.bind_some];rw [Qb5 (by simp only [List.length_cons,List.length_nil];unfold lim;omega)];simp only [Option.bind_some];rw [Qbb (by omega)];exact ih _ ⟨k+1,rfl,hlt,he.add hal hlt ⟨hmod,hm⟩⟩ (by simp only;omega)
    ·rw [if_neg hm];simp only [Option.bind_some];rw [Qbb (by omega)];exact ih _ ⟨k+1,rfl,hlt,he.up⟩ (by simp only;omega)
   ·rw [if_neg (by omega)];exact ⟨es,rfl,he.next (by omega)⟩) fuel (0,es) ⟨0,rfl,Nat.zero_le _,hes⟩ (by simp only;omega)
 obtain ⟨es',h1,h2⟩:=this;exact ⟨es',h2,h1⟩
theorem Qbcc {al:List Int} (hal:Evs al):Right ⟨al,0,[],[]⟩ :=
 ⟨fun x hx=>by have:=hal.rg x hx;omega,hal.so,⟨by simp,by simp⟩,by simp,.nil,by simp,.nil⟩
theorem Qblh {al:List Int} (hal:Evs al) {g:Qs} (hg:Q5z g):∃ m,Right m∧m.zB=al∧Qgi al g=some (Qho m)∧m.zF≤5:=by
 have hl:=hal.len;obtain ⟨hst,hto⟩:=hg;unfold Qgi Qck;obtain ⟨fuel,hfu,hge⟩ : ∃ f,Q3=f∧1099511627776≤f:=⟨_,rfl,Nat.le_refl _⟩;rw [hfu,Qbdx (by unfold lim;omega)];simp only [Option.bind_some];by_cases h250:g.zF≥250
 ·rw [if_pos h250];exact ⟨⟨al,0,[],[]⟩,Qbcc hal,rfl,rfl,by simp⟩
 rw [if_neg h250];have hL:[g.To.1.1,g.To.1.2.1,g.To.1.2.2.1,g.To.1.2.2.2.1,g.To.1.2.2.2.2,g.To.2.1.1,g.To.2.1.2.1,g.To.2.1.2.2.1,g.To.2.1.2.2.2.1,g.To.2.1.2.2.2.2,g.To.2.2.1.1,g.To.2.2.1.2.1,g.To.2.2.1.2.2.1,g.To.2.2.1.2.2.2.1,g.To.2.2.1.2.2.2.2,g.To.2.2.2.1.1,g.To.2.2.2.1.2.1,g.To.2.2.2.1.2.2.1,g.To.2.2.2.1.2.2.2.1,g.To.2.2.2.1.2.2.2.2,g.To.2.2.2.2.1,g.To.2.2.2.2.2.1,g.To.2.2.2.2.2.2.1,g.To.2.2.2.2.2.2.2.1,g.To.2.2.2.2.2.2.2.2].length=25:=rfl;generalize [g.To.1.1,g.To.1.2.1,g.To.1.2.2.1,g.To.1.2.2.2.1,g.To.1.2.2.2.2,g.To.2.1.1,g.To.2.1.2.1,g.To.2.1.2.2.1,g.To.2.1.2.2.2.1,g.To.2.1.2.2.2.2,g.To.2.2.1.1,g.To.2.2.1.2.1,g.To.2.2.1.2.2.1,g.To.2.2.1.2.2.2.1,g.To.2.2.1.2.2.2.2,g.To.2.2.2.1.1,g.To.2.2.2.1.2.1,g.To.2.2.2.1.2.2.1,g.To.2.2.2.1.2.2.2.1,g.To.2.2.2.1.2.2.2.2,g.To.2.2.2.2.1,g.To.2.2.2.2.2.1,g.To.2.2.2.2.2.2.1,g.To.2.2.2.2.2.2.2.1,g.To.2.2.2.2.2.2.2.2]=L at hto hL ⊢;have hmod:0≤g.zF.tmod 5∧g.zF.tmod 5<5:=⟨Int.tmod_nonneg _ hst.1,Int.tmod_lt_of_pos _ (by omega)⟩;have hN:1≤IntKind.wrap .i64 (1+(IntKind.wrap .i64 (Int.tmod g.zF 5)))∧IntKind.wrap .i64 (1+(IntKind.wrap .i64 (Int.tmod g.zF 5)))≤5:=by
  rw [Qu4 (x:=g.zF.tmod 5) (by omega) (by omega),Qu4 (by omega) (by omega)];omega
 generalize IntKind.wrap .i64 (1+(IntKind.wrap .i64 (Int.tmod g.zF 5)))=N at hN ⊢;have hloop:=Qc7 (F:=(fun (k15:Int×List Int×List Int×List Qb×Int×List Int×List Qb→Option (List Int×List Int×List Qb×Int×List Int×List Qb)) ((i8,c9,c10,c11,a12,a13,a14):Int×(List Int)×(List Int)×(List Qb)×Int×(List Int)×(List Qb))=>(if (i8<a12) then ((((((shrO .u8 g.Marks i8).bind fun s17=>(if ((andI .u8 s17 1)==1) then ((appO a13 [i8]).bind fun x20=>some x20) else some a13))).bind fun (a22:List Int)=>Qbx (fun k25 ((k23,a24):Int×(List Qb))=>(((if (k23<(al.length:Int)) then some (decide (k23<5)) else some false)).bind fun (x27:Bool)=>(if x27 then ((((inO 5 i8).bind fun _=>((inO 5 k23).bind fun _=>((rowO L (Int.toNat i8*5+Int.toNat k23*1)).bind fun x31=>((remO .i64 (IntKind.wrap .i64 x31) (IntKind.wrap .i64 (a12+2))).bind fun s33=>(if (s33<a12) then ((getO al k23).bind fun x36=>((appO a24 [(Qb.mk i8 x36 s33)]).bind fun x38=>some x38)) else some a24)))))).bind fun (a40:List Qb)=>k25 ((IntKind.wrap .i64 (k23+1)),a40)) else some (a22,a24)))) fuel (0,a14))).bind fun ((a41,a42):(List Int)×(List Qb))=>k15 ((IntKind.wrap .i64 (i8+1)),c9,c10,c11,a12,a41,a42)) else some (c9,c10,c11,a12,a13,a14))))
  (fun x=>∃ (i:Nat) (ms:List Int) (es:List Qb),x=((i:Int),[],[],[],N,ms,es)∧(i:Int)≤N∧Mks i ms∧Eds al N i 0 es) (fun x=>(N-x.1).toNat)
  (fun _ r=>∃ (i:Nat) (ms:List Int) (es:List Qb),r=some ([],[],[],N,ms,es)∧(i:Int)=N∧Mks i ms∧Eds al N i 0 es) (by
   rintro k _ ⟨i,ms,es,rfl,hi,hm,he⟩ ih;dsimp only;by_cases hlt:(i:Int)<N
   ·rw [if_pos hlt,show shrO .u8 g.Marks (i:Int)=some (g.Marks.fdiv (2 ^ (min (Int.toNat (i:Int)) (IntKind.bits .u8)))) from by unfold shrO;rw [if_neg (by omega)]];simp only [Option.bind_some];have hml:=hm.len;by_cases hb:(andI .u8 (g.Marks.fdiv (2 ^ (min (Int.toNat (i:Int)) (IntKind.bits .u8)))) 1==1)=true
    ·rw [if_pos hb,Qb5 (by simp only [List.length_cons,List.length_nil];unfold lim;omega)];simp only [Option.bind_some];obtain ⟨es',h1,h2⟩:=Qbd0 hal fuel hge hL hto hN hlt (ms:=ms++[(i:Int)]) he;rw [h2];simp only [Option.bind_some];rw [Qbb (by omega)];exact ih _ ⟨i+1,_,_,rfl,by omega,hm.add,h1⟩ (by simp only;omega)
    ·rw [if_neg hb];simp only [Option.bind_some];obtain ⟨es',h1,h2⟩:=Qbd0 hal fuel hge hL hto hN hlt (ms:=ms) he;rw [h2];simp only [Option.bind_some];rw [Qbb (by omega)];exact ih _ ⟨i+1,_,_,rfl,by omega,hm.up,h1⟩ (by simp only;omega)
   ·rw [if_neg hlt];exact ⟨i,ms,es,rfl,by omega,hm,he⟩) fuel (0,[],[],[],N,[],[]) ⟨0,[],[],rfl,by omega,⟨by simp,.nil⟩,⟨by simp,.nil,by simp⟩⟩ (by simp only;omega)
 obtain ⟨i,ms,es,h1,h2,h3,h4⟩:=hloop;rw [h1];simp only [Option.bind_some];have hr:Right ⟨al,N,ms,es⟩:=⟨fun x hx=>by have:=hal.rg x hx;omega,hal.so,⟨by simp only;omega,by simp only;omega⟩,fun x hx=>by have:=h3.rg x hx;simp only;omega,h3.so,fun x hx=>by
  obtain ⟨k1,k2,k3,k4,k5⟩:=h4.rg x hx;refine ⟨k1,?_,k2,k3,k4⟩;rcases k5 with k5|⟨_,j,k6,_⟩
  ·simp only;omega
  ·omega,h4.so⟩
 rw [Qxw hr];exact ⟨_,hr,rfl,rfl,by simp only;omega⟩
end Go.Abs
end
section
namespace Go.Abs
open Go
def upto (n:Int):List Int:=(List.range n.toNat).map fun (i:Nat)=>(i:Int)
theorem Qbjg {n x:Int}:x∈upto n↔0≤x∧x<n:=by
 simp only [upto,List.mem_map,List.mem_range];constructor
 ·rintro ⟨i,hi,rfl⟩;omega
 ·rintro ⟨h1,h2⟩;exact ⟨x.toNat,by omega,by omega⟩
theorem Q1r (n:Int):(upto n).length=n.toNat:=by simp [upto]
theorem Q32 {n:Int} {i:Nat} (h:i<(upto n).length):(upto n)[i]=(i:Int):=by simp [upto]
theorem Q1s {X S R α:Type} {F:(X→Option R)→X→Option R} {fuel:Nat} {l:List α} (mk:Int→S→X) (stp:S→α→S) (I:Nat→S→Prop) (K:S→Option R) (hl:l.length<big) (hf:1099511627776≤fuel)
  (step:∀ (k:X→Option R) (n:Nat) (s:S) (h:n<l.length),I n s→F k (mk n s)=k (mk (IntKind.wrap .i64 ((n:Int)+1)) (stp s l[n])))
  (keep:∀ (n:Nat) (s:S) (h:n<l.length),I n s→I (n+1) (stp s l[n]))
  (last:∀ (k:X→Option R) (s:S),I l.length s→F k (mk l.length s)=K s) {s0:S} (h0:I 0 s0):Qbx F fuel (mk 0 s0)=K (l.foldl stp s0):=by
 have hb:l.length<1000000000000:=hl;have:=Qiu (F:=F) (len:=l.length) (fun n s=>mk n s) I (fun n s=>K ((l.drop n).foldl stp s)) (fun k n s hn hi ih=>by
  rw [step k n s hn hi,Qbb (by omega),ih _ (keep n s hn hi),List.drop_eq_getElem_cons hn,List.foldl_cons]) (fun k s hi=>by rw [last k s hi];simp) fuel 0 s0 (Nat.zero_le _) (by omega) h0
 simpa using this
theorem Qbhn {X R α:Type} {F:(X→Option R)→X→Option R} {fuel:Nat} {l:List α} (mk:Int→X) (p:α→Bool) (hit:α→Option R) (K:Option R) (hl:l.length<big) (hf:1099511627776≤fuel)
  (step:∀ (k:X→Option R) (n:Nat) (h:n<l.length),F k (mk n)=if p l[n] then hit l[n] else k (mk (IntKind.wrap .i64 ((n:Int)+1))))
  (last:∀ (k:X→Option R),F k (mk l.length)=K):Qbx F fuel (mk 0)=match l.find? p with|some x=>hit x|none=>K:=by
 have hb:l.length<1000000000000:=hl;have:=Qiu (F:=F) (len:=l.length) (fun n (_:Unit)=>mk n) (fun _ _=>True) (fun n _=>match (l.drop n).find? p with|some x=>hit x|none=>K) (fun k n s hn hi ih=>by
  rw [step k n hn,Qbb (by omega),ih () trivial,List.drop_eq_getElem_cons hn,List.find?_cons];cases p l[n]<;>simp) (fun k s hi=>by rw [last k];simp) fuel 0 () (Nat.zero_le _) (by omega) trivial
 simpa using this
def at0 {α:Type} (d:α) (l:List α) (x:Int):α:=l.getD x.toNat d
abbrev ati (l:List Int) (x:Int):Int:=at0 0 l x
theorem Qbli {α:Type} {d:α} {l:List α} {x:Int} (h0:0≤x) (h1:x<l.length):getO l x=some (at0 d l x):=by
 have h:x.toNat<l.length:=by omega
 unfold getO at0;rw [if_pos h0,List.getD_eq_getElem?_getD,List.getElem?_eq_getElem h];rfl
theorem Qblj {α:Type} {l:List α} {x:Int} {y:α} (h0:0≤x) (h1:x<l.length):setO l x y=some (l.set x.toNat y):=by
 unfold setO;rw [if_pos ⟨h0,by omega⟩]
theorem Qbar {n:Nat} {x:Int} (h0:0≤x) (h1:x<n):inO n x=some ():=by
 unfold inO;rw [if_pos ⟨h0,h1⟩]
theorem Q50 {α:Type} {l:List α} {n:Nat} (h:l.length=n):lenO l n=some ():=by
 unfold lenO;rw [if_pos h]
end Go.Abs
end
section
namespace Go.Abs
open Go
theorem bytes_beq (a b:ByteArray):(a==b)=decide (a=b):=by
 cases a;cases b;rw [Bool.eq_iff_iff];simp only [decide_eq_true_eq,ByteArray.mk.injEq];exact beq_iff_eq (α:=Array UInt8)
theorem Qbas {β:Type} {v:β} {k k' : ByteArray}:∀ {m:List (ByteArray×β)},hasM (setM m k v) k'=(decide (k'=k)||hasM m k')
 | []=>by simp [setM,hasM,bytes_beq]
 | (q,w)::m=>by
  have ih:=Qbas (v:=v) (k:=k) (k':=k') (m:=m);simp only [setM];by_cases h:k=q
  ·subst h;simp only [bytes_beq,decide_true,if_true,Qkj];by_cases h2:k'=k<;>simp [h2,bytes_beq]
  ·simp only [bytes_beq,h,decide_false,Bool.false_eq_true,if_false,Qkj];rw [ih];cases decide (k'=q)<;>cases decide (k'=k)<;>rfl
theorem Q51 {β:Type} {z v:β} {k k' : ByteArray}:∀ {m:List (ByteArray×β)},getM (setM m k v) k' z=if k'=k then v else getM m k' z
 | []=>by simp [setM,getM,bytes_beq]
 | (q,w)::m=>by
  have ih:=Q51 (z:=z) (v:=v) (k:=k) (k':=k') (m:=m);simp only [setM];by_cases h:k=q
  ·subst h;simp only [bytes_beq,decide_true,if_true,getM];by_cases h2:k'=k
   ·subst h2;simp
   ·simp [h2]
  ·simp only [bytes_beq,h,decide_false,Bool.false_eq_true,if_false,getM];by_cases h2:k'=q
   ·subst h2;have:¬ k'=k:=fun e=>h e.symm;simp [this]
   ·simp only [h2,decide_false,Bool.false_eq_true,if_false,ih]
theorem Q52 {α:Type} {l:List α} {j:Nat} {y:α} (h:j<l.length):setO l (j:Int) y=some (l.set j y):=by
 simp [setO,h]
structure RefI (σ:Nat→ByteArray) (N i:Nat) (c:List (ByteArray×Int)) (l:List Int):Prop where
 len:l.length=N
 has:∀ k,hasM c k=true↔∃ j,j<i∧σ j=k
 at_:∀ j,j<i→l[j]? = some (getM c (σ j) 0)
 rng:∀ j,j<i→0≤getM c (σ j) 0∧getM c (σ j) 0<c.length
 inj:∀ j j',j<i→j'<i→getM c (σ j) 0=getM c (σ j') 0→σ j=σ j'
 cnt:c.length≤i
 sur:∀ m:Nat,m<c.length→∃ j,j<i∧getM c (σ j) 0=(m:Int)
theorem Qbat {N:Nat} (hN:N≤4096) {sig:Int→Option ByteArray} {σ:Nat→ByteArray} (hs:∀ j:Nat,j<N→sig (j:Int)=some (σ j)) :
  ∃ c l,Qk7 (N:Int) sig=some (l,(c.length:Int))∧RefI σ N N c l:=by
 unfold Qk7 Qen;have hm:mkO (N:Int) (0:Int)=some (List.replicate N 0):=by
  unfold mkO;rw [if_pos ⟨by omega,by unfold lim;omega⟩];simp
 rw [hm,Option.bind_some];have hz:Int.toNat (N:Int)=N:=by simp
 rw [hz];obtain ⟨fuel,hfu,hge⟩ : ∃ f,Q3=f∧1099511627776≤f:=⟨_,rfl,Nat.le_refl _⟩;rw [hfu]
 suffices h:∃ c l,Qbx (fun k14 ((x11,c12,c13):Int×(List (ByteArray×Int))×(List Int))=>(if (x11<(N:Int)) then ((sig x11).bind fun x17=>(((if (hasM c12 x17) then some ((getM c12 x17 0),c12) else some ((c12.length:Int),(setM c12 x17 (c12.length:Int))))).bind fun ((k19,c20):Int×(List (ByteArray×Int)))=>((inO N x11).bind fun u21=>((setO c13 x11 k19).bind fun x23=>k14 ((IntKind.wrap .i64 (x11+1)),c20,x23))))) else some (c12,c13))) fuel (0,[],List.replicate N 0)=some (c,l)∧RefI σ N N c l by
  obtain ⟨c,l,h1,h2⟩:=h;refine ⟨c,l,?_,h2⟩;rw [h1,Option.bind_some];dsimp only;rw [Q50 h2.len];rfl
 refine Qc7 (fun x:Int×List (ByteArray×Int)×List Int=>∃ i:Nat,x.1=(i:Int)∧i≤N∧RefI σ N i x.2.1 x.2.2) (fun x=>N-x.1.toNat) (fun _ r=>∃ c l,r=some (c,l)∧RefI σ N N c l) (fun k x hx ih=>?_) fuel (0,[],List.replicate N 0) ⟨0,rfl,by omega,⟨by simp,fun k=>by simp [hasM],fun j h=>by omega,fun j h=>by omega,fun j j' h=>by omega,by simp,fun m h=>by simp at h⟩⟩ (by simp only;omega);obtain ⟨x,c,l⟩:=x;obtain ⟨i,h1,hi,hI⟩:=hx;simp only at h1 hI;subst h1;dsimp only;by_cases hlt:i<N
 ·rw [if_pos (by omega),hs i hlt,Option.bind_some];have hset:∀ v,setO l (i:Int) v=some (l.set i v):=fun v=>Q52 (by rw [hI.len];exact hlt);cases hh:hasM c (σ i) with
  | true =>
   rw [if_pos rfl,Option.bind_some];dsimp only;rw [Qbar (by omega) (by omega),Option.bind_some,hset,Option.bind_some,Qbb (by omega)];refine ih _ ⟨i+1,rfl,by omega,?_⟩ (by simp only;omega);obtain ⟨j0,hj0,e0⟩:=(hI.has (σ i)).1 hh;refine ⟨by simp [hI.len],fun k=>(hI.has k).trans ⟨fun ⟨j,hj,e⟩=>⟨j,by omega,e⟩,fun ⟨j,hj,e⟩=>?_⟩,fun j hj=>?_,fun j hj=>?_,fun j j' hj hj' e=>?_,by have:=hI.cnt;simp only;omega,fun m hm=>?_⟩
   ·by_cases e1:j=i
    ·subst e1;exact ⟨j0,hj0,e0.trans e⟩
    ·exact ⟨j,by omega,e⟩
   ·by_cases e1:j=i
    ·subst e1;simp [hI.len,hlt]
    ·rw [List.getElem?_set_ne (by omega)];exact hI.at_ j (by omega)
   ·by_cases e1:j=i
    ·subst e1;rw [← e0];exact hI.rng j0 hj0
    ·exact hI.rng j (by omega)
   ·have r:∀ j,j<i+1→∃ j1,j1<i∧σ j1=σ j:=fun j hj=>by
     by_cases e1:j=i
     ·subst e1;exact ⟨j0,hj0,e0⟩
     ·exact ⟨j,by omega,rfl⟩
    obtain ⟨a,ha,ea⟩:=r j hj;obtain ⟨b,hb,eb⟩:=r j' hj';rw [← ea,← eb] at e ⊢;exact hI.inj a b ha hb e
   ·obtain ⟨j,hj,e⟩:=hI.sur m hm;exact ⟨j,by omega,e⟩
  | false =>
   rw [if_neg (by simp),Option.bind_some];dsimp only;rw [Qbar (by omega) (by omega),Option.bind_some,hset,Option.bind_some,Qbb (by omega)];refine ih _ ⟨i+1,rfl,by omega,?_⟩ (by simp only;omega);have hne:∀ j,j<i→σ j≠σ i:=fun j hj e=>by
    have:=(hI.has (σ i)).2 ⟨j,hj,e⟩;rw [hh] at this;cases this
   have hlen:(setM c (σ i) (c.length:Int)).length=c.length+1:=by rw [Qtb hh];simp
   have hg:∀ j,j<i→getM (setM c (σ i) (c.length:Int)) (σ j) 0=getM c (σ j) 0:=fun j hj=>by rw [Q51,if_neg (hne j hj)]
   have hgi:getM (setM c (σ i) (c.length:Int)) (σ i) 0=(c.length:Int):=by rw [Q51,if_pos rfl]
   refine ⟨by simp [hI.len],fun k=>?_,fun j hj=>?_,fun j hj=>?_,fun j j' hj hj' e=>?_,by have:=hI.cnt;simp only [hlen];omega,fun m hm=>?_⟩
   ·simp only [Qbas,Bool.or_eq_true,decide_eq_true_eq];constructor
    ·rintro (rfl|h)
     ·exact ⟨i,by omega,rfl⟩
     ·obtain ⟨j,hj,e⟩:=(hI.has k).1 h;exact ⟨j,by omega,e⟩
    ·rintro ⟨j,hj,e⟩;by_cases e1:j=i
     ·subst e1;exact .inl e.symm
     ·exact .inr ((hI.has k).2 ⟨j,by omega,e⟩)
   ·by_cases e1:j=i
    ·subst e1;simp only [hgi];simp [hI.len,hlt]
    ·simp only [hg j (by omega)];rw [List.getElem?_set_ne (by omega)];exact hI.at_ j (by omega)
   ·by_cases e1:j=i
    ·subst e1;simp only [hgi,hlen];omega
    ·simp only [hg j (by omega),hlen];have:=hI.rng j (by omega);omega
   ·simp only at e;by_cases e1:j=i
    ·by_cases e2:j'=i
     ·rw [e1,e2]
     ·rw [e1,hgi,hg j' (by omega)] at e;have:=hI.rng j' (by omega);omega
    ·by_cases e2:j'=i
     ·rw [e2,hgi,hg j (by omega)] at e;have:=hI.rng j (by omega);omega
     ·rw [hg j (by omega),hg j' (by omega)] at e;exact hI.inj j j' (by omega) (by omega) e
   ·simp only [hlen] at hm;by_cases e1:m=c.length
    ·exact ⟨i,by omega,by simp only [hgi,e1]⟩
    ·obtain ⟨j,hj,e⟩:=hI.sur m (by omega);exact ⟨j,by omega,by simp only [hg j hj];exact e⟩
 ·rw [if_neg (by omega)];obtain rfl:i=N:=by omega
  exact ⟨c,l,rfl,hI⟩
end Go.Abs
end
section
namespace Go.Abs
open Go
theorem Q33 {τ:Type} [DecidableEq τ]:∀ {l m:List τ},l.Nodup→(∀ x∈l,x∈m)→l.length≤m.length
 | [],_,_,_=>by simp
 | x::l,m,h,hs=>by
  obtain ⟨a1,a2⟩:=List.nodup_cons.1 h;have hx:=hs x (by simp);have:=Q33 (l:=l) (m:=m.erase x) a2 fun y hy=>(List.mem_erase_of_ne (by rintro rfl;exact a1 hy)).2 (hs y (by simp [hy]));rw [List.length_erase_of_mem hx] at this;have:0<m.length:=List.length_pos_of_mem hx;simp only [List.length_cons];omega
theorem Qbau {k k' : Nat} (R:Nat→Nat→Prop) (tot:∀ m,m<k→∃ v,v<k'∧R m v) (inj:∀ m m' v,m<k→m'<k→R m v→R m' v→m=m'):k≤k':=by
 have key:∀ n,n≤k→∃ l:List Nat,l.length=n∧l.Nodup∧(∀ v∈l,v<k'∧∃ m,m<n∧R m v):=by
  intro n
  induction n with
  | zero=>exact fun _=>⟨[],rfl,List.nodup_nil,by simp⟩
  | succ n ih =>
   intro hn;obtain ⟨l,h1,h2,h3⟩:=ih (by omega);obtain ⟨v,hv,hr⟩:=tot n (by omega);refine ⟨v::l,by simp [h1],List.nodup_cons.2 ⟨fun hm=>?_,h2⟩,fun x hx=>?_⟩
   ·obtain ⟨_,m,hm1,hm2⟩:=h3 v hm;have:=inj n m v (by omega) (by omega) hr hm2;omega
   ·rcases List.mem_cons.1 hx with rfl|hx
    ·exact ⟨hv,n,by omega,hr⟩
    ·obtain ⟨a,m,b,c⟩:=h3 x hx;exact ⟨a,m,by omega,c⟩
 obtain ⟨l,h1,h2,h3⟩:=key k (Nat.le_refl _);have:l.length≤(List.range k').length:=by
  refine Q33 h2 fun v hv=>?_;exact List.mem_range.2 (h3 v hv).1
 simpa [h1] using this
theorem RefI.finer {σ σ' : Nat→ByteArray} {N:Nat} {c c' : List (ByteArray×Int)} {l l' : List Int} (h:RefI σ N N c l) (h' : RefI σ' N N c' l') (hf:∀ j j',j<N→j'<N→σ' j=σ' j'→σ j=σ j'):c.length≤c'.length:=by
 refine Qbau (fun m v=>∃ j,j<N∧getM c (σ j) 0=(m:Int)∧getM c' (σ' j) 0=(v:Int)) (fun m hm=>?_) (fun m m' v hm hm' h1 h2=>?_)
 ·obtain ⟨j,hj,e⟩:=h.sur m hm;have hr:=h'.rng j hj;exact ⟨(getM c' (σ' j) 0).toNat,by omega,j,hj,e,by omega⟩
 ·obtain ⟨j,hj,e1,e2⟩:=h1;obtain ⟨j',hj',e1',e2'⟩:=h2;have:=hf j j' hj hj' (h'.inj j j' hj hj' (e2.trans e2'.symm));rw [this] at e1;omega
end Go.Abs
end
section
namespace Go.Abs
open Go
section
variable {a:Qa} (h:Right a)
include h
theorem Qbkd {α:Type} (z:α):mkO a.zF z=some (List.replicate a.zF.toNat z):=by
 unfold mkO;rw [if_pos ⟨h.st.1,by have:=h.st.2;unfold lim;omega⟩]
theorem Qbd1:∃ b,Qjp a=some b∧b.length=a.zF.toNat:=by
 unfold Qjp Qc3;rw [Qbkd h,Option.bind_some];obtain ⟨fuel,hfu,hge⟩ : ∃ f,Q3=f∧1099511627776≤f:=⟨_,rfl,Nat.le_refl _⟩;rw [hfu];have hb:a.zC.length<1000000000000:=h.small.1.2.1
 suffices hs:∃ b,Qbx (fun k6 ((x4,c5):Int×(List Bool))=>(if (x4<(a.zC.length:Int)) then ((getO a.zC x4).bind fun x8=>((inO (Int.toNat a.zF) x8).bind fun u10=>((setO c5 x8 true).bind fun x12=>k6 ((IntKind.wrap .i64 (x4+1)),x12)))) else some c5)) fuel (0,List.replicate a.zF.toNat false)=some b∧b.length=a.zF.toNat by
  obtain ⟨b,h1,h2⟩:=hs;exact ⟨b,by rw [h1,Option.bind_some,Q50 h2];rfl,h2⟩
 refine Qc7 (fun x:Int×List Bool=>∃ i:Nat,x.1=(i:Int)∧i≤a.zC.length∧x.2.length=a.zF.toNat) (fun x=>a.zC.length-x.1.toNat) (fun _ r=>∃ b:List Bool,r=some b∧b.length=a.zF.toNat) (fun k x hx ih=>?_) fuel (0,List.replicate a.zF.toNat false) ⟨0,rfl,by omega,by simp⟩ (by simp only;omega);obtain ⟨x,c⟩:=x;obtain ⟨i,h1,hi,hl⟩:=hx;simp only at h1 hl;subst h1;dsimp only;by_cases hlt:i<a.zC.length
 ·have hm:=h.ma0 a.zC[i] (List.getElem_mem hlt);obtain ⟨m,hme⟩ : ∃ m:Nat,a.zC[i]=(m:Int):=⟨a.zC[i].toNat,by omega⟩;rw [if_pos (by omega),Q1 hlt,Option.bind_some,Qbar (by omega) (by omega),Option.bind_some,hme,Q52 (by omega),Option.bind_some,Qbb (by omega)];exact ih _ ⟨i+1,rfl,by omega,by simp [hl]⟩ (by simp only;omega)
 ·rw [if_neg (by omega)];exact ⟨c,rfl,hl⟩
end
end Go.Abs
end
section
namespace Go.Abs
open Go
theorem Qbav:∀ (ns:List Int) (b:ByteArray),(ns.foldl (fun r n=>r.push (UInt8.ofNat n.toNat)) b).data.toList=b.data.toList++ns.map fun n=>UInt8.ofNat n.toNat
 | [],b=>by simp
 | n::ns,b=>by
  rw [List.foldl_cons,Qbav ns];simp [ByteArray.push]
theorem Qbaw (ns:List Int):(strB ns).data.toList=ns.map fun n=>UInt8.ofNat n.toNat:=by
 unfold strB;rw [Qbav];simp
theorem Q1t {x y:Int} (hx:0≤x∧x<256) (hy:0≤y∧y<256) (h:UInt8.ofNat x.toNat=UInt8.ofNat y.toNat):x=y:=by
 have:=congrArg UInt8.toNat h;simp only [UInt8.toNat_ofNat'] at this;omega
def hiB (v:Int):Int:=IntKind.wrap .u8 (Int.fdiv v (2 ^ (min (Int.toNat 8) (IntKind.bits .i64))))
def loB (v:Int):Int:=IntKind.wrap .u8 v
theorem Qbd2 {v:Int} (h:0≤v∧v<65536):hiB v=v / 256:=by
 unfold hiB;rw [show (2:Int) ^ (min (Int.toNat 8) (IntKind.bits .i64))=256 from by decide,Int.fdiv_eq_ediv_of_nonneg _ (by decide)];exact Qbhi (by omega) (by omega)
theorem Qbd3 {v:Int} (h:0≤v∧v<65536):loB v=v % 256:=by
 unfold loB;simp [IntKind.wrap,IntKind.bits,IntKind.signed]
theorem Qblk {v w:Int} (hv:0≤v∧v<65536) (hw:0≤w∧w<65536) {K K' : List Int} (h:strB (hiB v::loB v::K)=strB (hiB w::loB w::K')):v=w:=by
 have h1:=congrArg (fun b:ByteArray=>b.data.toList) h;simp only [Qbaw,List.map_cons,List.cons.injEq] at h1;rw [Qbd2 hv,Qbd2 hw,Qbd3 hv,Qbd3 hw] at h1;have a:=Q1t (x:=v / 256) (y:=w / 256) (by omega) (by omega) h1.1;have b:=Q1t (x:=v % 256) (y:=w % 256) (by omega) (by omega) h1.2.1;omega
theorem Qxx {b:List Int} {v:Int} (hb:b.length<1000000000):Qfq b v=some (b++[hiB v,loB v]):=by
 unfold Qfq Qcr;rw [Qb5 (by simp;unfold lim;omega)];rfl
end Go.Abs
end
section
namespace Go.Abs
open Go
end Go.Abs
end
section
namespace Go.Abs
open Go
theorem RefI.ati {σ:Nat→ByteArray} {N:Nat} {c:List (ByteArray×Int)} {l:List Int} (h:RefI σ N N c l) {j:Nat} (hj:j<N):ati l (j:Int)=getM c (σ j) 0:=by
 have:=h.at_ j hj;simp [Go.Abs.ati,at0,List.getD_eq_getElem?_getD,this]
end Go.Abs
end
section
namespace Go.Abs
open Go
theorem Qbd4 {β:Type} {v:β} {k k' : Int}:∀ {m:List (Int×β)},hasM (setM m k v) k'=(decide (k'=k)||hasM m k')
 | []=>by
  simp only [setM,hasM,List.any_cons,List.any_nil,Bool.or_false];rw [Bool.eq_iff_iff];simp
 | (q,w)::m=>by
  by_cases h1:k=q
  ·subst h1;simp only [setM,beq_self_eq_true,if_true,Qkj];rw [Bool.eq_iff_iff];simp
  ·have h1' : (k==q)=false:=by simp [h1]
   simp only [setM,h1',Bool.false_eq_true,if_false,Qkj];rw [Qbd4 (m:=m)];cases (k'==q)<;>cases decide (k'=k)<;>simp
structure FndC (N:Nat) (cl:List Int) (found:List Int) (c:List (Int×Int)):Prop where
 rg:∀ f∈found,0≤f∧f<N
 nd:(found.map fun f=>ati cl f).Nodup
 has:∀ v,hasM c v=true↔∃ f∈found,ati cl f=v
theorem FndC.len {N:Nat} {cl:List Int} (hc:∀ j:Nat,j<N→0≤ati cl j∧ati cl j<N) {found:List Int} {c:List (Int×Int)} (h:FndC N cl found c):found.length≤N:=by
 have:=Q33 h.nd (m:=(List.range N).map fun j:Nat=>(j:Int)) fun v hv=>by
  obtain ⟨f,hf,rfl⟩:=List.mem_map.1 hv;have h1:=h.rg f hf;have h2:=hc f.toNat (by omega);rw [show ((f.toNat:Nat):Int)=f from by omega] at h2;exact List.mem_map.2 ⟨(ati cl f).toNat,List.mem_range.2 (by omega),by omega⟩
 simpa using this
theorem FndC.add {N:Nat} {cl found:List Int} {c:List (Int×Int)} (h:FndC N cl found c) {t:Int} (ht:0≤t∧t<N) (hn:hasM c (ati cl t)=false) (v:Int):FndC N cl (found++[t]) (setM c (ati cl t) v):=by
 refine ⟨fun f hf=>?_,?_,fun w=>?_⟩
 ·rcases List.mem_append.1 hf with hf|hf
  ·exact h.rg f hf
  ·simp at hf;subst hf;exact ht
 ·rw [List.map_append,List.nodup_append];refine ⟨h.nd,by simp,fun x hx y hy e=>?_⟩;simp at hy;subst hy;subst e;obtain ⟨f,hf,e⟩:=List.mem_map.1 hx;have:=(h.has (ati cl t)).2 ⟨f,hf,e⟩;rw [hn] at this;cases this
 ·rw [Qbd4,Bool.or_eq_true,decide_eq_true_eq,h.has];constructor
  ·rintro (rfl|⟨f,hf,e⟩)
   ·exact ⟨t,by simp,rfl⟩
   ·exact ⟨f,by simp [hf],e⟩
  ·rintro ⟨f,hf,e⟩;rcases List.mem_append.1 hf with hf|hf
   ·exact .inr ⟨f,hf,e⟩
   ·simp at hf;subst hf;exact .inl e.symm
end Go.Abs
end
section
namespace Go.Abs
open Go
theorem Qbax {P:Int→Prop}:∀ (ts o:List Int),(∀ s∈o,P s)→(∀ t∈ts,P t)→∀ s∈ts.foldl ins o,P s
 | [],o,h,_=>h
 | t::ts,o,h,ht=>Qbax ts (ins o t) (fun s hs=>by
   rcases Q5y.1 hs with hs|rfl
   ·exact h s hs
   ·exact ht _ (by simp)) fun u hu=>ht u (by simp [hu])
theorem Qbay {a:Qa} {P:Int→Prop} (hP:∀ s,P s→∀ t∈Ql7 a s,P t):∀ (fuel i:Nat) (o:List Int),(∀ s∈o,P s)→∀ s∈bfs a fuel i o,P s
 | 0,i,o,h=>h
 | fuel+1,i,o,h=>by
  unfold bfs;cases hg:o[i]? with
  | none=>exact h
  | some s=>exact Qbay hP fuel (i+1) _ (Qbax _ _ h (hP s (h s (List.mem_of_getElem? hg))))
structure Like (a b:Qa) (φ:Int→Int):Prop where
 al:b.zB=a.zB
 st:0<b.zF↔0<a.zF
 zero:0<a.zF→φ 0=0
 inj:∀ s∈Qem a,∀ t∈Qem a,φ s=φ t→s=t
 out:∀ s∈Qem a,outP b (φ s)=(outP a s).map fun x=>⟨φ s,x.Event,φ x.To⟩
 ma:∀ s∈Qem a,(φ s∈b.zC↔s∈a.zC)
section
variable {F:List Int} {φ:Int→Int} (inj:∀ s∈F,∀ t∈F,φ s=φ t→s=t)
include inj
end
section
variable {a b:Qa} {φ:Int→Int} (ha:Right a) (hb:Right b) (h:Like a b φ)
include ha h
theorem Qbez {s:Int} (hs:s∈Qem a):∀ t∈Ql7 a s,t∈Qem a:=(Ql3 ha).2.2 s hs
theorem Qbcd:∀ s∈(if 0<a.zF then [0] else ([]:List Int)),s∈Qem a:=fun s hs=>(Ql3 ha).2.1.subset hs
include hb
theorem Qbce:∀ s∈Qem a,0≤φ s∧φ s<b.zF:=by
 have:∀ s∈Qem a,s∈Qem a∧0≤φ s∧φ s<b.zF:=by
  refine Qbay (P:=fun s=>s∈Qem a∧0≤φ s∧φ s<b.zF) ?_ _ _ _ ?_
  ·rintro s ⟨h1,h2⟩ t ht;refine ⟨Qbez ha h h1 t ht,?_⟩;obtain ⟨x,hx,rfl⟩:=List.mem_map.1 ht;have:(⟨φ s,x.Event,φ x.To⟩ : Qb)∈outP b (φ s):=by rw [h.out s h1];exact List.mem_map.2 ⟨x,hx,rfl⟩
   have:=hb.ed0 _ (List.mem_filter.1 this).1;simp only at this;omega
  ·intro s hs;refine ⟨Qbcd ha h s hs,?_⟩;split at hs
   ·rename_i h0;simp at hs;subst hs;have:=h.st.2 h0;rw [h.zero h0];omega
   ·simp at hs
 exact fun s hs=>(this s hs).2
end
theorem Q7o {a:Qa} {F:List Int}:∀ (l:List Int) (k j:Nat) (s:Int),l[j]? = some s→(Qnf a F k l).filter (fun x=>x.From==((k+j:Nat):Int))=rowP a F (k+j) s
 | [],k,j,s,h=>by simp at h
 | s'::l,k,j,s,h=>by
  simp only [Qnf,List.filter_append];cases j with
  | zero =>
   simp at h;subst h;have e1:(rowP a F k s').filter (fun x=>x.From==((k+0:Nat):Int))=rowP a F k s':=List.filter_eq_self.2 fun x hx=>by
    obtain ⟨y,_,rfl⟩:=List.mem_map.1 hx;simp
   have e2:(Qnf a F (k+1) l).filter (fun x=>x.From==((k+0:Nat):Int))=[]:=List.filter_eq_nil_iff.2 fun x hx=>by
    have:=(Qu6 x hx).1;simp;omega
   rw [e1,e2];simp
  | succ j =>
   simp at h;have e1:(rowP a F k s').filter (fun x=>x.From==((k+(j+1):Nat):Int))=[]:=List.filter_eq_nil_iff.2 fun x hx=>by
    obtain ⟨y,_,rfl⟩:=List.mem_map.1 hx;simp;omega
   have:=Q7o (a:=a) (F:=F) l (k+1) j s h;rw [e1,List.nil_append,show k+(j+1)=k+1+j from by omega,this]
theorem Q7p {m:List Int}:∀ (l:List Int) (k:Nat) (x:Int),x∈Qmy m k l↔∃ j s,l[j]? = some s∧s∈m∧x=((k+j:Nat):Int)
 | [],k,x=>by simp [Qmy]
 | s'::l,k,x=>by
  simp only [Qmy,List.mem_append];rw [Q7p l (k+1) x];constructor
  ·rintro (h|⟨j,s,h1,h2,h3⟩)
   ·split at h
    ·rename_i hm;simp at h;exact ⟨0,s',by simp,hm,by simpa using h⟩
    ·simp at h
   ·exact ⟨j+1,s,by simpa using h1,h2,by rw [h3];congr 1;omega⟩
  ·rintro ⟨j,s,h1,h2,h3⟩;cases j with
   | zero=>simp at h1;subst h1;left;rw [if_pos h2];simpa using h3
   | succ j=>right;exact ⟨j,s,by simpa using h1,h2,by rw [h3];congr 1;omega⟩
theorem Qxy {l:List Int} {s:Int} (h:s∈l):l[l.idxOf s]? = some s:=by
 have hlt:=List.idxOf_lt_length_iff.2 h;rw [List.getElem?_eq_getElem hlt,List.getElem_idxOf hlt]
theorem Qbho {l:List Int} {s t:Int} (hs:s∈l) (ht:t∈l) (h:l.idxOf s=l.idxOf t):s=t:=by
 have h1:=Qxy hs;rw [h,Qxy ht] at h1;exact (Option.some.inj h1).symm
theorem Qbcf {a:Qa} (ha:Right a):Like a (Qho a) (fun s=>((Qem a).idxOf s:Int)):=by
 obtain ⟨hF,hpre,hcl⟩:=Ql3 ha;refine ⟨rfl,?_,?_,?_,?_,?_⟩
 ·simp only [Qho];constructor
  ·intro h;have:=hF.len;omega
  ·intro h;rw [if_pos h] at hpre;have:=hpre.length_le;simp at this;omega
 ·intro h;rw [if_pos h] at hpre;obtain ⟨r,hr⟩:=hpre;rw [← hr];simp
 ·intro s hs t ht h;exact Qbho hs ht (by omega)
 ·intro s hs;have:=Q7o (a:=a) (F:=Qem a) (Qem a) 0 ((Qem a).idxOf s) s (Qxy hs);unfold outP Qho;simp only [Nat.zero_add] at this;simp only;rw [this];rfl
 ·intro s hs;show _∈Qmy a.zC 0 (Qem a)↔_;rw [Q7p];constructor
  ·rintro ⟨j,t,h1,h2,h3⟩;have h4:(Qem a).idxOf s=j:=by omega
   rw [← h4,Qxy hs] at h1;cases h1;exact h2
  ·exact fun h=>⟨_,s,Qxy hs,h,by simp⟩
theorem Q53 (a:Qa) (s e:Int):Qcq a s e=match (outP a s).find? (fun x=>x.Event==e) with|some x=>x.To|none=>-1:=by
 unfold Qcq outP;rw [List.find?_filter];have:(fun x:Qb=>decide ((x.From==s)=true∧(x.Event==e)=true))=fun x=>x.From==s&&x.Event==e:=by
  funext x;rw [Bool.eq_iff_iff];simp
 first|(rw [this];done)|(rw [this];rfl)
section
variable {a b:Qa} {φ:Int→Int} (ha:Right a) (hb:Right b) (h:Like a b φ)
include ha h
theorem Qbe0 {s:Int} (hs:s∈Qem a) (e:Int):Qcq b (φ s) e=if 0≤Qcq a s e then φ (Qcq a s e) else -1:=by
 rw [Q53 b,h.out s hs,List.find?_map];have hr:=Qfs ha s e;rw [Q53 a] at hr ⊢;have e1:((fun x:Qb=>x.Event==e) ∘ fun x:Qb=>(⟨φ s,x.Event,φ x.To⟩ : Qb))=fun x=>x.Event==e:=rfl;rw [e1];cases hf:(outP a s).find? (fun x=>x.Event==e) with
 | none=>simp
 | some x =>
  rw [hf] at hr;simp only [Option.map_some];have hx:=List.mem_of_find?_eq_some hf;unfold outP at hx;have:=(ha.ed0 x (List.mem_filter.1 hx).1).2.2.1;rw [if_pos this]
omit h in
theorem Qbe1 {s e:Int} (hs:s∈Qem a) (h0:0≤Qcq a s e):Qcq a s e∈Qem a:=by
 rw [Q53] at h0 ⊢;cases hf:(outP a s).find? (fun x=>x.Event==e) with
 | none=>rw [hf] at h0;simp at h0
 | some x=>exact (Ql3 ha).2.2 s hs x.To (List.mem_map.2 ⟨x,List.mem_of_find?_eq_some hf,rfl⟩)
end
end Go.Abs
end
section
namespace Go.Abs
open Go
theorem Qbaz {α:Type} (l:List α) {i t:Nat} (h:i≤t):l.take t=l.take i++(l.take t).drop i:=by
 conv=>lhs;rw [← List.take_append_drop i (l.take t)]
 rw [List.take_take,Nat.min_eq_left h]
section
variable {a:Qa} (h:Right a)
include h
theorem Qbhp {i j:Nat} (hi:i<a.zD.length) (hj:j<a.zD.length) (hij:i≤j):a.zD[i].From≤a.zD[j].From:=by
 rcases Nat.lt_or_eq_of_le hij with h1|rfl
 ·have:=List.pairwise_iff_getElem.1 h.ed i j hi hj h1;unfold Qiv at this;omega
 ·exact Int.le_refl _
theorem Qbjh {fuel:Nat} (hge:1099511627776≤fuel) {i:Nat} (hi:i<a.zD.length) :
  ∃ t:Nat,Qbx (fun k9 (to8:Int)=>(((if (to8<(a.zD.length:Int)) then ((getO a.zD to8).bind fun x11=>((getO a.zD (i:Int)).bind fun x13=>some (x11.From==x13.From))) else some false)).bind fun (x15:Bool)=>(if x15 then k9 (IntKind.wrap .i64 (to8+1)) else some to8))) fuel (i:Int)=some (t:Int)∧i<t∧t≤a.zD.length∧(∀ j (hj:j<a.zD.length),i≤j→j<t→a.zD[j].From=a.zD[i].From)∧∀ j (hj:j<a.zD.length),t≤j→a.zD[i].From<a.zD[j].From:=by
 have hb:a.zD.length<1000000000000:=h.small.1.2.2;have:=Qc7 (F:=fun k9 (to8:Int)=>(((if (to8<(a.zD.length:Int)) then ((getO a.zD to8).bind fun x11=>((getO a.zD (i:Int)).bind fun x13=>some (x11.From==x13.From))) else some false)).bind fun (x15:Bool)=>(if x15 then k9 (IntKind.wrap .i64 (to8+1)) else some to8))) (fun x:Int=>∃ j:Nat,x=(j:Int)∧i≤j∧j≤a.zD.length∧∀ m (hm:m<a.zD.length),i≤m→m<j→a.zD[m].From=a.zD[i].From) (fun x=>a.zD.length-x.toNat) (fun x r=>∃ t:Nat,r=some (t:Int)∧x≤t∧t≤a.zD.length∧(x=(i:Int)→i<t)∧(∀ j (hj:j<a.zD.length),i≤j→j<t→a.zD[j].From=a.zD[i].From)∧∀ j (hj:j<a.zD.length),t≤j→a.zD[i].From<a.zD[j].From) (fun k x hx ih=>?_) fuel (i:Int) ⟨i,rfl,by omega,by omega,fun m _ h1 h2=>by omega⟩ (by omega)
 ·obtain ⟨t,h1,h2,h3,h4,h5⟩:=this;exact ⟨t,h1,h4 rfl,h3,h5⟩
 obtain ⟨j,rfl,hj,hj2,hrun⟩:=hx;by_cases hlt:j<a.zD.length
 ·rw [if_pos (by omega),Q1 hlt,Q1 hi,Option.bind_some,Option.bind_some,Option.bind_some];cases he:(a.zD[j].From==a.zD[i].From) with
  | true =>
   rw [if_pos rfl,Qbb (by omega)];obtain ⟨t,h1,h2,h3,h4,h5⟩:=ih ((j+1:Nat):Int) ⟨j+1,rfl,by omega,by omega,fun m hm q1 q2=>by
    by_cases e:m=j
    ·subst e;exact eq_of_beq he
    ·exact hrun m hm q1 (by omega)⟩ (by omega)
   exact ⟨t,h1,by omega,h3,fun _=>by omega,h5⟩
  | false =>
   rw [if_neg (by simp)];have hne:a.zD[j].From≠a.zD[i].From:=by simpa using he
   refine ⟨j,rfl,by omega,by omega,fun e=>?_,hrun,fun m hm q1=>?_⟩
   ·have:j=i:=by omega
    subst this;exact absurd rfl hne
   ·have q2:=Qbhp h hlt hm q1;have q3:=Qbhp h hi hlt hj;omega
 ·rw [if_neg (by omega),Option.bind_some,if_neg (by simp)];exact ⟨j,rfl,by omega,by omega,fun e=>by omega,hrun,fun m hm q1=>by omega⟩
def Q1u (a:Qa) (i:Nat):List (List Qb):=(upto a.zF).map fun s=>(a.zD.take i).filter fun x=>x.From==s
omit h in
theorem Qx9 (i:Nat):(Q1u a i).length=a.zF.toNat:=by simp [Q1u,Q1r]
theorem Qba0:Qjq a=some ((upto a.zF).map (outP a)):=by
 unfold Qjq Qc4;rw [Qbkd h,Option.bind_some];obtain ⟨fuel,hfu,hge⟩ : ∃ f,Q3=f∧1099511627776≤f:=⟨_,rfl,Nat.le_refl _⟩;rw [hfu];have hb:a.zD.length<1000000000000:=h.small.1.2.2;have hst:=h.st
 suffices hs:Qbx (fun k6 ((xfrom4,c5):Int×(List (List Qb)))=>(if (xfrom4<(a.zD.length:Int)) then ((Qbx (fun k9 (to8:Int)=>(((if (to8<(a.zD.length:Int)) then ((getO a.zD to8).bind fun x11=>((getO a.zD xfrom4).bind fun x13=>some (x11.From==x13.From))) else some false)).bind fun (x15:Bool)=>(if x15 then k9 (IntKind.wrap .i64 (to8+1)) else some to8))) fuel xfrom4).bind fun (to17:Int)=>((getO a.zD xfrom4).bind fun x18=>((slcO a.zD xfrom4 to17).bind fun x20=>((inO (Int.toNat a.zF) x18.From).bind fun u22=>((setO c5 x18.From x20).bind fun x24=>k6 (to17,x24)))))) else some c5)) fuel (0,List.replicate a.zF.toNat [])=some ((upto a.zF).map (outP a)) by
  rw [hs,Option.bind_some,Q50 (by simp [Q1r])];rfl
 have h0:List.replicate a.zF.toNat ([]:List Qb)=Q1u a 0:=by
  refine List.ext_getElem (by simp [Qx9]) fun n h1 h2=>?_;simp [Q1u]
 refine Qc7 (fun x:Int×List (List Qb)=>∃ i:Nat,x.1=(i:Int)∧i≤a.zD.length∧x.2=Q1u a i∧∀ j m (hj:j<a.zD.length) (hm:m<a.zD.length),j<i→i≤m→a.zD[j].From<a.zD[m].From) (fun x=>a.zD.length-x.1.toNat) (fun _ r=>r=some ((upto a.zF).map (outP a))) (fun k x hx ih=>?_) fuel (0,List.replicate a.zF.toNat []) ⟨0,rfl,by omega,h0,fun j m _ _ q=>by omega⟩ (by simp only;omega);obtain ⟨x,c⟩:=x;obtain ⟨i,h1,hi,hl,hbd⟩:=hx;simp only at h1 hl;subst h1 hl;dsimp only;by_cases hlt:i<a.zD.length
 ·obtain ⟨t,ht,ht1,ht2,ht3,ht4⟩:=Qbjh h hge hlt;have he:=h.ed0 a.zD[i] (List.getElem_mem hlt);obtain ⟨m,hme⟩ : ∃ m:Nat,a.zD[i].From=(m:Int):=⟨a.zD[i].From.toNat,by omega⟩;have hlr:=Qx9 (a:=a) i;rw [if_pos (by omega),ht,Option.bind_some,Q1 hlt,Option.bind_some,Q30 (Nat.le_of_lt ht1) ht2,Option.bind_some,Qbar (by omega) (by omega),Option.bind_some,hme,Q52 (by omega),Option.bind_some];refine ih _ ⟨t,rfl,ht2,?_,fun j n hj hn q1 q2=>?_⟩ (by simp only;omega)
  ·refine List.ext_getElem (by simp [Qx9]) fun n q1 q2=>?_;simp only [List.length_set,Qx9] at q1;have hsl:∀ x∈(a.zD.take t).drop i,x.From=(m:Int):=fun x hx=>by
    obtain ⟨j,hj,rfl⟩:=List.getElem_of_mem hx;simp only [List.length_drop,List.length_take] at hj;simp only [List.getElem_drop,List.getElem_take];rw [← hme];exact ht3 (i+j) (by omega) (by omega) (by omega)
   have hpre:∀ x∈a.zD.take i,x.From<(m:Int):=fun x hx=>by
    obtain ⟨j,hj,rfl⟩:=List.getElem_of_mem hx;simp only [List.length_take] at hj;simp only [List.getElem_take];rw [← hme];exact hbd j i (by omega) hlt (by omega) (by omega)
   rw [List.getElem_set];have hr:(Q1u a t)[n]'q2=(a.zD.take i).filter (fun x=>x.From==(n:Int))++((a.zD.take t).drop i).filter (fun x=>x.From==(n:Int)):=by
    simp only [Q1u,List.getElem_map,Q32];rw [Qbaz a.zD (Nat.le_of_lt ht1),List.filter_append,← Qbaz a.zD (Nat.le_of_lt ht1)]
   rw [hr];by_cases hnm:m=n
   ·subst hnm;rw [if_pos rfl];have e1:(a.zD.take i).filter (fun x=>x.From==(m:Int))=[]:=by
     rw [List.filter_eq_nil_iff];intro x hx;have:=hpre x hx;simp;omega
    have e2:((a.zD.take t).drop i).filter (fun x=>x.From==(m:Int))=(a.zD.take t).drop i:=by
     rw [List.filter_eq_self];intro x hx;simp [hsl x hx]
    rw [e1,e2];rfl
   ·rw [if_neg hnm];have e2:((a.zD.take t).drop i).filter (fun x=>x.From==(n:Int))=[]:=by
     rw [List.filter_eq_nil_iff];intro x hx;have:=hsl x hx;simp;omega
    rw [e2,List.append_nil];simp only [Q1u,List.getElem_map,Q32]
  ·by_cases q3:j<i
   ·exact hbd j n hj hn q3 (by omega)
   ·rw [ht3 j hj (by omega) (by omega)];exact ht4 n hn q2
 ·rw [if_neg (by omega)];have:i=a.zD.length:=by omega
  subst this;unfold Q1u;rw [List.take_length];rfl
end
def Qt5 (cl:List Int) (r:List Qb):List Int:=r.flatMap fun x=>[hiB x.Event,loB x.Event,hiB (ati cl x.To),loB (ati cl x.To)]
theorem Qq9 (cl:List Int) (x:Qb) (r:List Qb):Qt5 cl (x::r)=hiB x.Event::loB x.Event::hiB (ati cl x.To)::loB (ati cl x.To)::Qt5 cl r:=rfl
theorem Q7q (cl:List Int):∀ r:List Qb,(Qt5 cl r).length=4*r.length
 | []=>rfl
 | x::r=>by rw [Qq9];simp only [List.length_cons,Q7q cl r];omega
theorem Qbhq {v w:Int} (hv:0≤v∧v<65536) (hw:0≤w∧w<65536) (h1:UInt8.ofNat (hiB v).toNat=UInt8.ofNat (hiB w).toNat) (h2:UInt8.ofNat (loB v).toNat=UInt8.ofNat (loB w).toNat):v=w:=by
 rw [Qbd2 hv,Qbd2 hw] at h1;rw [Qbd3 hv,Qbd3 hw] at h2;have a:=Q1t (x:=v / 256) (y:=w / 256) (by omega) (by omega) h1;have b:=Q1t (x:=v % 256) (y:=w % 256) (by omega) (by omega) h2;omega
def Qbll (cl:List Int) (r:List Qb):Prop:=∀ x∈r,(0≤x.Event∧x.Event<65536)∧(0≤ati cl x.To∧ati cl x.To<65536)
theorem Q7r {cl:List Int}:∀ {r r' : List Qb},Qbll cl r→Qbll cl r'→(Qt5 cl r).map (fun n=>UInt8.ofNat n.toNat)=(Qt5 cl r').map (fun n=>UInt8.ofNat n.toNat)→r.map (fun x=>(x.Event,ati cl x.To))=r'.map fun x=>(x.Event,ati cl x.To)
 | [],[],_,_,_=>rfl
 | [],y::r',_,_,h=>by rw [Qq9] at h;cases h
 | x::r,[],_,_,h=>by rw [Qq9] at h;cases h
 | x::r,y::r',h1,h2,h=>by
  rw [Qq9,Qq9] at h;simp only [List.map_cons,List.cons.injEq] at h;obtain ⟨a1,a2,a3,a4,a5⟩:=h;obtain ⟨b1,b2⟩:=h1 x (by simp);obtain ⟨c1,c2⟩:=h2 y (by simp);rw [List.map_cons,List.map_cons,Qbhq b1 c1 a1 a2,Qbhq b2 c2 a3 a4,Q7r (fun z hz=>h1 z (by simp [hz])) (fun z hz=>h2 z (by simp [hz])) a5]
theorem Qblm {a:Qa} (h:Right a) {cl:List Int} (hcl:cl.length=a.zF.toNat) {s:Nat} (hs:s<a.zF.toNat) :
  Qgx (s:Int) cl ((upto a.zF).map (outP a))=some (strB (hiB (ati cl s)::loB (ati cl s)::Qt5 cl (outP a s))):=by
 unfold Qgx Qd1;have hv:ati cl s=cl[s]'(by omega):=by simp [ati,at0,List.getD_eq_getElem?_getD,show s<cl.length from by omega]
 have hul:((upto a.zF).map (outP a)).length=a.zF.toNat:=by simp [Q1r]
 rw [Q1 (by omega:s<cl.length),Option.bind_some,Qxx (by simp),Option.bind_some,Q1 (by omega:s<((upto a.zF).map (outP a)).length),Option.bind_some,← hv];have hrow:((upto a.zF).map (outP a))[s]'(by omega)=outP a s:=by simp only [List.getElem_map,Q32]
 rw [hrow];obtain ⟨fuel,hfu,hge⟩ : ∃ f,Q3=f∧1099511627776≤f:=⟨_,rfl,Nat.le_refl _⟩;rw [hfu];have hr2:∀ x∈outP a s,x∈a.zD:=fun x hx=>(List.mem_filter.1 hx).1;have hl:(outP a s).length≤a.zD.length:=List.length_filter_le _ _;have hl2:=h.small.2.2.2;generalize outP a s=row at hr2 hl ⊢;generalize ati cl s=v
 suffices hs:Qbx (fun k16 ((key14,x15):(List Int)×Int)=>(if (x15<(row.length:Int)) then ((getO row x15).bind fun x18=>((Qfq key14 x18.Event).bind fun x21=>((getO cl x18.To).bind fun x22=>((Qfq x21 x22).bind fun x25=>k16 (x25,(IntKind.wrap .i64 (x15+1))))))) else some key14)) fuel ([]++[hiB v,loB v],0)=some (hiB v::loB v::Qt5 cl row) by
  rw [hs];rfl
 refine Qc7 (fun x:List Int×Int=>∃ (j:Nat),x.2=(j:Int)∧j≤row.length∧x.1=hiB v::loB v::Qt5 cl (row.take j)) (fun x=>row.length-x.2.toNat) (fun _ r=>r=some (hiB v::loB v::Qt5 cl row)) (fun k x hx ih=>?_) fuel ([]++[hiB v,loB v],0) ⟨0,rfl,by omega,rfl⟩ (by simp only;omega);obtain ⟨x,i⟩:=x;obtain ⟨j,h1,hj,h2⟩:=hx;simp only at h1 h2;subst h1 h2;dsimp only;by_cases hlt:j<row.length
 ·have he:=h.ed0 row[j] (hr2 _ (List.getElem_mem hlt));obtain ⟨m,hme⟩ : ∃ m:Nat,row[j].To=(m:Int):=⟨row[j].To.toNat,by omega⟩;have hlen:=Q7q cl (row.take j);have hlt2:(row.take j).length≤j:=by simp;omega
  have hcm:cl[m]'(by omega)=ati cl row[j].To:=by rw [hme];simp [ati,at0,List.getD_eq_getElem?_getD,show m<cl.length from by omega]
  rw [if_pos (by omega),Q1 hlt,Option.bind_some,Qxx (by simp;omega),Option.bind_some,hme,Q1 (by omega:m<cl.length),Option.bind_some,Qxx (by simp;omega),Option.bind_some,Qbb (by omega)];refine ih _ ⟨j+1,rfl,by omega,?_⟩ (by simp only;omega);simp only [hcm];rw [List.take_succ_eq_append_getElem hlt];unfold Qt5;rw [List.flatMap_append];simp
 ·rw [if_neg (by omega)];have:j=row.length:=by omega
  subst this;rw [List.take_length]
end Go.Abs
end
section
namespace Go.Abs
open Go
def edC (cl:List Int) (x:Qb):Int×Int:=(x.Event,ati cl x.To)
def Cons (a:Qa) (cl:List Int):Prop:=∀ s t:Nat,s<a.zF.toNat→t<a.zF.toNat→ati cl (s:Int)=ati cl (t:Int)→(outP a s).map (edC cl)=(outP a t).map (edC cl)
theorem Qbhr {σ σ' : Nat→ByteArray} {N:Nat} {c c' : List (ByteArray×Int)} {l l' : List Int} (h:RefI σ N N c l) (h' : RefI σ' N N c' l') (hf:∀ j j',j<N→j'<N→σ' j=σ' j'→σ j=σ j') (hc:c'.length=c.length) {x y:Nat} (hx:x<N) (hy:y<N) (he:ati l (x:Int)=ati l (y:Int)):ati l' (x:Int)=ati l' (y:Int):=by
 rw [h.ati hx,h.ati hy] at he;rw [h'.ati hx,h'.ati hy];refine Classical.byContradiction fun hne=>?_;have hrx:=h.rng x hx;obtain ⟨m0,hm0⟩ : ∃ m0:Nat,getM c (σ x) 0=(m0:Int):=⟨(getM c (σ x) 0).toNat,by omega⟩;have key:∀ j j',j<N→j'<N→getM c' (σ' j) 0=getM c' (σ' j') 0→getM c (σ j) 0=getM c (σ j') 0:=fun j j' hj hj' e=>by rw [hf j j' hj hj' (h'.inj j j' hj hj' e)]
 have:=Qbau (k:=c.length+1) (k':=c'.length) (fun m v=>(m<c.length∧m≠m0∧∃ j,j<N∧getM c (σ j) 0=(m:Int)∧getM c' (σ' j) 0=(v:Int))∨(m=m0∧m<c.length∧getM c' (σ' x) 0=(v:Int))∨(m=c.length∧getM c' (σ' y) 0=(v:Int))) (fun m hm=>?_) (fun m m' v hm hm' h1 h2=>?_)
 ·omega
 ·by_cases h1:m=c.length
  ·have hr:=h'.rng y hy;exact ⟨(getM c' (σ' y) 0).toNat,by omega,.inr (.inr ⟨h1,by omega⟩)⟩
  ·by_cases h2:m=m0
   ·have hr:=h'.rng x hx;exact ⟨(getM c' (σ' x) 0).toNat,by omega,.inr (.inl ⟨h2,by omega,by omega⟩)⟩
   ·obtain ⟨j,hj,e⟩:=h.sur m (by omega);have hr:=h'.rng j hj;exact ⟨(getM c' (σ' j) 0).toNat,by omega,.inl ⟨by omega,h2,j,hj,e,by omega⟩⟩
 ·rcases h1 with ⟨q1,q2,j,hj,e1,e2⟩|⟨q1,q2,e2⟩|⟨q1,e2⟩<;>rcases h2 with ⟨p1,p2,i,hi,f1,f2⟩|⟨p1,p2,f2⟩|⟨p1,f2⟩
  ·have:=key j i hj hi (by omega);omega
  ·have:=key j x hj hx (by omega);omega
  ·have:=key j y hj hy (by omega);omega
  ·have:=key x i hx hi (by omega);omega
  ·omega
  ·omega
  ·have:=key y i hy hi (by omega);omega
  ·omega
  ·omega
theorem Qba1 {a:Qa} (h:Right a):∃ cl,Qjz a=some cl∧cl.length=a.zF.toNat∧(∀ j:Nat,j<a.zF.toNat→0≤ati cl j∧ati cl j<a.zF.toNat)∧Cons a cl:=by
 unfold Qjz Qe0;obtain ⟨b,hb,hbl⟩:=Qbd1 h;rw [hb,Option.bind_some,Qba0 h,Option.bind_some];have hst:=h.st;have hN:((a.zF.toNat:Nat):Int)=a.zF:=by omega
 have hN2:a.zF.toNat≤4096:=by omega
 have h1:∀ j:Nat,j<a.zF.toNat→(fun a6=>Qgw a6 b) (j:Int)=some (if b.getD j false then (⟨#[109]⟩ : ByteArray) else ⟨#[]⟩):=fun j hj=>by
  simp only;unfold Qgw Qd0;rw [Q1 (by omega:j<b.length),Option.bind_some];have:b.getD j false=b[j]'(by omega):=by simp [List.getD_eq_getElem?_getD,show j<b.length from by omega]
  rw [this];cases b[j]'(by omega)<;>rfl
 obtain ⟨c0,l0,e0,r0⟩:=Qbat (sig:=fun a6=>Qgw a6 b) (σ:=fun j=>if b.getD j false then (⟨#[109]⟩ : ByteArray) else ⟨#[]⟩) hN2 h1;rw [hN] at e0;rw [e0,Option.bind_some];dsimp only;obtain ⟨fuel,hfu,hge⟩ : ∃ f,Q3=f∧1099511627776≤f:=⟨_,rfl,Nat.le_refl _⟩;rw [hfu];refine Qc7 (fun x:Int×List Int=>∃ (σ:Nat→ByteArray) (c:List (ByteArray×Int)),x.1=(c.length:Int)∧RefI σ a.zF.toNat a.zF.toNat c x.2) (fun x=>a.zF.toNat-x.1.toNat) (fun _ r=>∃ cl,r=some cl∧cl.length=a.zF.toNat∧(∀ j:Nat,j<a.zF.toNat→0≤ati cl j∧ati cl j<a.zF.toNat)∧Cons a cl) (fun k x hx ih=>?_) fuel ((c0.length:Int),l0) ⟨_,c0,rfl,r0⟩ (by simp only;omega);obtain ⟨n,cl⟩:=x;obtain ⟨σ,c,e1,r1⟩:=hx;simp only at e1 r1;subst e1;dsimp only;have hcl:=r1.len;have hrange:∀ j:Nat,j<a.zF.toNat→0≤ati cl j∧ati cl j<65536:=fun j hj=>by
  have:=r1.rng j hj;have:=r1.cnt;rw [r1.ati hj];omega
 have hrow:∀ j:Nat,Qbll cl (outP a j):=fun j x hx=>by
  have he:=h.ed0 x (List.mem_filter.1 hx).1;have ha:=h.al0 x.Event he.2.2.2.2;have:=hrange x.To.toNat (by omega);rw [show ((x.To.toNat:Nat):Int)=x.To from by omega] at this;exact ⟨by omega,this⟩
 obtain ⟨c2,l2,e2,r2⟩:=Qbat (sig:=fun a15=>Qgx a15 cl ((upto a.zF).map (outP a))) (σ:=fun j=>strB (hiB (ati cl j)::loB (ati cl j)::Qt5 cl (outP a j))) hN2 (fun j hj=>Qblm h hcl hj);rw [hN] at e2;rw [e2,Option.bind_some];have hfin:∀ j j' : Nat,j<a.zF.toNat→j'<a.zF.toNat→strB (hiB (ati cl j)::loB (ati cl j)::Qt5 cl (outP a j))=strB (hiB (ati cl j')::loB (ati cl j')::Qt5 cl (outP a j'))→σ j=σ j':=fun j j' hj hj' e=>by
  have:=Qblk (hrange j hj) (hrange j' hj') e;rw [r1.ati hj,r1.ati hj'] at this;exact r1.inj j j' hj hj' this
 have hle:c.length≤c2.length:=r1.finer r2 hfin;dsimp only;by_cases he:((c2.length:Int)==(c.length:Int))=true
 ·rw [if_pos he];have hcc:c2.length=c.length:=by have:=eq_of_beq he;omega
  refine ⟨l2,rfl,r2.len,fun j hj=>?_,fun s t hs ht e=>?_⟩
  ·have:=r2.rng j hj;have:=r2.cnt;rw [r2.ati hj];omega
  ·rw [r2.ati hs,r2.ati ht] at e;have e3:=r2.inj s t hs ht e;have e4:=congrArg (fun b:ByteArray=>b.data.toList) e3;simp only [Qbaw,List.map_cons,List.cons.injEq] at e4;have e5:=Q7r (hrow s) (hrow t) e4.2.2;have g:∀ r r' : List Qb,(∀ x∈r,0≤x.To∧x.To<a.zF)→(∀ x∈r',0≤x.To∧x.To<a.zF)→r.map (fun x=>(x.Event,ati cl x.To))=r'.map (fun x=>(x.Event,ati cl x.To))→r.map (edC l2)=r'.map (edC l2):=by
    intro r
    induction r with
    | nil=>intro r' _ _ q;cases r' with
     | nil=>rfl
     | cons y r'=>cases q
    | cons x r ihr=>intro r' hr hr' q;cases r' with
     | nil=>cases q
     | cons y r' =>
      simp only [List.map_cons,List.cons.injEq,Prod.mk.injEq] at q;obtain ⟨⟨q1,q2⟩,q3⟩:=q;have hx:=hr x (by simp);have hy:=hr' y (by simp);have:=Qbhr r1 r2 hfin hcc (x:=x.To.toNat) (y:=y.To.toNat) (by omega) (by omega) (by rw [show ((x.To.toNat:Nat):Int)=x.To from by omega,show ((y.To.toNat:Nat):Int)=y.To from by omega];exact q2);rw [show ((x.To.toNat:Nat):Int)=x.To from by omega,show ((y.To.toNat:Nat):Int)=y.To from by omega] at this;rw [List.map_cons,List.map_cons,ihr r' (fun z hz=>hr z (by simp [hz])) (fun z hz=>hr' z (by simp [hz])) q3];unfold edC;rw [q1,this]
   have hto:∀ (j:Nat),∀ x∈outP a j,0≤x.To∧x.To<a.zF:=fun j x hx=>by
    have he:=h.ed0 x (List.mem_filter.1 hx).1;exact ⟨he.2.2.1,he.2.2.2.1⟩
   exact g _ _ (hto s) (hto t) e5
 ·rw [if_neg he];have hne:c2.length≠c.length:=fun e=>he (by simp [e]);have:=r2.cnt;exact ih _ ⟨_,c2,rfl,r2⟩ (by simp only;omega)
end Go.Abs
end
section
namespace Go.Abs
open Go
theorem Qbln (x y:Int):Qku x y=some (decide (x<y)):=by
 unfold Qku Qgm Qq0 Qe9;simp
theorem Qbji (x:Int):Qjb x=some false:=by
 unfold Qjb Qdv;simp
theorem Qbhs {l:List Int} (h:l.Pairwise (· < ·)) (v:Int):l.Pairwise fun a b=>decide (b<v)=true→decide (a<v)=true :=
 h.imp fun h=>by simp;omega
theorem Qba2 {l:List Int} {v:Int} (hs:l.Pairwise (· < ·)) (hl:l.length<big):∃ n,Qcv l v=some (n,decide (v∈l)):=by
 have hc:=fun n h=>Q2t (p:=fun x:Int=>decide (x<v)) (Qbhs hs v) n h;have hcl:(l.filter fun x=>decide (x<v)).length≤l.length:=List.length_filter_le _ _;generalize (l.filter fun x=>decide (x<v)).length=c at hc hcl;have hb:l.length<1000000000000:=hl;unfold Qcv Q6;obtain ⟨fuel,hfu,hge⟩ : ∃ f,Q3=f∧1099511627776≤f:=⟨_,rfl,Nat.le_refl _⟩;rw [hfu];have hloop:=Qc7 (F:=fun (k5:Int×Int→Option Int) ((i3,j4):Int×Int)=>(if (i3<j4) then ((getO l (IntKind.wrap .i64 (Int.fdiv (IntKind.wrap .u64 (IntKind.wrap .i64 (i3+j4))) (2 ^ (min (Int.toNat 1) (IntKind.bits .u64)))))).bind fun x7=>((Qku x7 v).bind fun x10=>(if x10 then k5 ((IntKind.wrap .i64 ((IntKind.wrap .i64 (Int.fdiv (IntKind.wrap .u64 (IntKind.wrap .i64 (i3+j4))) (2 ^ (min (Int.toNat 1) (IntKind.bits .u64)))))+1)),j4) else k5 (i3,(IntKind.wrap .i64 (Int.fdiv (IntKind.wrap .u64 (IntKind.wrap .i64 (i3+j4))) (2 ^ (min (Int.toNat 1) (IntKind.bits .u64))))))))) else some i3))
  (fun x=>∃ i j:Nat,x=((i:Int),(j:Int))∧i≤c∧c≤j∧j≤l.length) (fun x=>(x.2-x.1).toNat) (fun _ r=>r=some (c:Int)) (by
   rintro k _ ⟨i,j,rfl,h1,h2,h3⟩ ih;dsimp only;by_cases hij:i<j
   ·rw [if_pos (by omega),Qbkb (by omega) (by omega)];have hm:(i+j) / 2<l.length:=by omega
    rw [Q1 hm];simp only [Option.bind_some];rw [Qbln];simp only [Option.bind_some];have hcm:=hc ((i+j) / 2) hm;by_cases hlt:l[(i+j) / 2]<v
    ·rw [if_pos (by simpa using hlt),Qbb (by omega)];have:(i+j) / 2<c:=hcm.1 (by simpa using hlt);exact ih _ ⟨_,_,rfl,by omega,h2,h3⟩ (by simp only;omega)
    ·rw [if_neg (by simpa using hlt)];have:¬ (i+j) / 2<c:=fun h=>hlt (by simpa using hcm.2 h);exact ih _ ⟨_,_,rfl,h1,by omega,by omega⟩ (by simp only;omega)
   ·rw [if_neg (by omega)];have:i=c:=by omega
    rw [this]) fuel (0,(l.length:Int)) ⟨0,l.length,rfl,by omega,hcl,Nat.le_refl _⟩ (by simp only;omega)
 rw [hloop];simp only [Option.bind_some];have hmem:v∈l↔∃ h:c<l.length,l[c]=v:=by
  constructor
  ·intro hv;obtain ⟨j,hj,rfl⟩:=List.getElem_of_mem hv;have h1:¬ j<c:=fun h=>by have:=(hc j hj).2 h;simp at this
   have h2:c<l.length:=by omega
   refine ⟨h2,?_⟩;have h3:¬ l[c]<l[j]:=fun h=>by have:=(hc c h2).1 (by simpa using h);omega
   rcases Nat.lt_or_ge c j with h|h
   ·have:=List.pairwise_iff_getElem.1 hs c j h2 hj h;omega
   ·have:c=j:=by omega
    subst this;rfl
  ·rintro ⟨h,rfl⟩;exact List.getElem_mem h
 by_cases hlt:c<l.length
 ·rw [if_pos (by omega),Q1 hlt];simp only [Option.bind_some];by_cases he:l[c]=v
  ·rw [if_pos (by simpa using he)];exact ⟨_,by rw [decide_eq_true (hmem.2 ⟨hlt,he⟩)]⟩
  ·rw [if_neg (by simpa using he),Qbji];exact ⟨_,by rw [decide_eq_false (fun h=>he (hmem.1 h).2)];rfl⟩
 ·rw [if_neg (by omega)];exact ⟨_,by rw [decide_eq_false (fun h=>hlt (hmem.1 h).1)]⟩
theorem Q8y {l:List Int} (hl:l.length≤lim):Qb4 l=some l:=by
 unfold Qb4 Qm;rw [Qb5 (by simpa using hl)];cases l<;>simp [nilO]
structure Num (a:Qa) (o num:List Int):Prop where
 len:num.length=a.zF.toNat
 at1:∀ s:Nat,s<a.zF.toNat→num[s]? = some (if (s:Int)∈o then (o.idxOf (s:Int):Int) else -1)
theorem Q54 {o F:List Int} (h:o <+: F) {t:Int} (ht:t∈o):F.idxOf t=o.idxOf t:=by
 obtain ⟨r,rfl⟩:=h;rw [List.idxOf_append,if_pos ht]
theorem Num.get {a:Qa} {o num:List Int} (h:Num a o num) {t:Int} (ht:0≤t∧t<a.zF):getO num t=some (if t∈o then (o.idxOf t:Int) else -1):=by
 rw [Q5v];refine ⟨ht.1,?_⟩;have:=h.at1 t.toNat (by omega)
 rwa [show ((t.toNat:Nat):Int)=t from by omega] at this
theorem Num.set {a:Qa} {o num:List Int} (h:Num a o num) {t:Int} (ht:0≤t∧t<a.zF) (hn:t∉o):∃ num',setO num t (o.length:Int)=some num'∧Num a (o++[t]) num':=by
 refine ⟨num.set t.toNat (o.length:Int),by unfold setO;rw [if_pos ⟨ht.1,by rw [h.len];omega⟩],by rw [List.length_set];exact h.len,fun s hs=>?_⟩;rw [List.getElem?_set];by_cases he:t.toNat=s
 ·subst he;rw [if_pos rfl,if_pos (by rw [h.len];omega),show ((t.toNat:Nat):Int)=t from by omega,if_pos (by simp),List.idxOf_append,if_neg hn];simp
 ·rw [if_neg he,h.at1 s hs];have hne:(s:Int)≠t:=by omega
  by_cases hm:(s:Int)∈o
  ·rw [if_pos hm,if_pos (by simp [hm]),List.idxOf_append,if_pos hm]
  ·rw [if_neg hm,if_neg (by simp [hm,hne])]
section
variable {a:Qa} (h:Right a)
include h
theorem Qbht (fuel:Nat) (hfu:1099511627776≤fuel) {l:List Qb} (hl:l.length≤200000) (hto:∀ x∈l,0≤x.To∧x.To<a.zF) {i:Nat} {ms o:List Int} {es:List Qb} {num:List Int} (ho:Fnd a o) (hn:Num a o num) (hes:es.length≤200000) :
  ∃ num',Num a ((l.map (·.To)).foldl ins o) num'∧Qbx (fun (k47:List Int×Int×List Qb×List Int→Option (List Int×List Int×List Qb×List Int)) ((order43,x44,r45,c46):(List Int)×Int×(List Qb)×(List Int))=>(if (x44<(l.length:Int)) then ((getO l x44).bind fun x49=>((((inO (Int.toNat a.zF) x49.To).bind fun u51=>((getO c46 x49.To).bind fun x53=>(if (x53<0) then ((inO (Int.toNat a.zF) x49.To).bind fun u56=>((setO c46 x49.To (order43.length:Int)).bind fun x58=>((appO order43 [x49.To]).bind fun x60=>some (x60,x58)))) else some (order43,c46))))).bind fun ((order62,c63):(List Int)×(List Int))=>((inO (Int.toNat a.zF) x49.To).bind fun u64=>((getO c63 x49.To).bind fun x66=>((appO r45 [(Qb.mk (i:Int) x49.Event x66)]).bind fun x68=>k47 (order62,(IntKind.wrap .i64 (x44+1)),x68,c63)))))) else some (order43,ms,r45,c46))) fuel (o,0,es,num)=some ((l.map (·.To)).foldl ins o,ms,es++l.map (fun x=>⟨(i:Int),x.Event,(((l.map (·.To)).foldl ins o).idxOf x.To:Int)⟩),num'):=by
 have hst:=h.st;have key:=Qc7 (F:=(fun (k47:List Int×Int×List Qb×List Int→Option (List Int×List Int×List Qb×List Int)) ((order43,x44,r45,c46):(List Int)×Int×(List Qb)×(List Int))=>(if (x44<(l.length:Int)) then ((getO l x44).bind fun x49=>((((inO (Int.toNat a.zF) x49.To).bind fun u51=>((getO c46 x49.To).bind fun x53=>(if (x53<0) then ((inO (Int.toNat a.zF) x49.To).bind fun u56=>((setO c46 x49.To (order43.length:Int)).bind fun x58=>((appO order43 [x49.To]).bind fun x60=>some (x60,x58)))) else some (order43,c46))))).bind fun ((order62,c63):(List Int)×(List Int))=>((inO (Int.toNat a.zF) x49.To).bind fun u64=>((getO c63 x49.To).bind fun x66=>((appO r45 [(Qb.mk (i:Int) x49.Event x66)]).bind fun x68=>k47 (order62,(IntKind.wrap .i64 (x44+1)),x68,c63)))))) else some (order43,ms,r45,c46))))
  (fun x=>∃ (j:Nat) (o:List Int) (es:List Qb) (num:List Int),x=(o,(j:Int),es,num)∧j≤l.length∧Fnd a o∧Num a o num∧es.length≤200000+j) (fun x=>l.length-x.2.1.toNat)
  (fun x r=>∀ (j:Nat) (o:List Int) (es:List Qb) (num:List Int),x=(o,(j:Int),es,num)→∃ num',Num a (((l.drop j).map (·.To)).foldl ins o) num'∧r=some (((l.drop j).map (·.To)).foldl ins o,ms,es++(l.drop j).map (fun x=>⟨(i:Int),x.Event,((((l.drop j).map (·.To)).foldl ins o).idxOf x.To:Int)⟩),num')) (by
   rintro k _ ⟨j,o,es,num,rfl,hj,hf,hnm,hel⟩ ih j' o' es' num' he;obtain ⟨rfl,he2⟩:=Prod.mk.inj he;obtain ⟨hjj,he3⟩:=Prod.mk.inj he2;obtain ⟨rfl,rfl⟩:=Prod.mk.inj he3;obtain rfl:j=j':=by omega
   have hfl:=hf.len;dsimp only;by_cases hlt:j<l.length
   ·have ht:=hto _ (List.getElem_mem hlt);rw [if_pos (by omega),Q1 hlt];simp only [Option.bind_some];rw [show inO (Int.toNat a.zF) l[j].To=some () from by unfold inO;rw [if_pos (by omega)]];simp only [Option.bind_some];rw [hnm.get ht];simp only [Option.bind_some];have hfi:=hf.ins ht;have hmem:l[j].To∈ins o l[j].To:=Q5y.2 (.inr rfl);have hpre:ins o l[j].To <+: ((l.drop (j+1)).map (·.To)).foldl ins (ins o l[j].To) :=
     (Qxu hfi fun t ht'=>by obtain ⟨x,hx,rfl⟩:=List.mem_map.1 ht';exact hto x (List.mem_of_mem_drop hx)).2.1
    rw [List.drop_eq_getElem_cons hlt];simp only [List.map_cons,List.foldl_cons];by_cases hm:l[j].To∈o
    ·have e1:ins o l[j].To=o:=by unfold ins;rw [if_pos hm]
     rw [if_pos hm,if_neg (by omega)];simp only [Option.bind_some];rw [hnm.get ht,if_pos hm];simp only [Option.bind_some];rw [Qb5 (by simp only [List.length_cons,List.length_nil];unfold lim;omega)];simp only [Option.bind_some];rw [Qbb (by omega)];rw [e1] at hpre ⊢;obtain ⟨num',q1,q2⟩:=ih _ ⟨j+1,o,es++[⟨(i:Int),l[j].Event,(o.idxOf l[j].To:Int)⟩],num,rfl,by omega,hf,hnm,by simp only [List.length_append,List.length_cons,List.length_nil];omega⟩ (by simp only;omega) (j+1) _ _ _ rfl;refine ⟨num',q1,?_⟩;rw [q2,Q54 hpre hm];simp only [List.append_assoc,List.cons_append,List.nil_append]
    ·have e1:ins o l[j].To=o++[l[j].To]:=by unfold ins;rw [if_neg hm]
     rw [if_neg hm,if_pos (by omega)];obtain ⟨num1,w1,w2⟩:=hnm.set ht hm;rw [w1];simp only [Option.bind_some];rw [Qb5 (by simp only [List.length_cons,List.length_nil];unfold lim;omega)];simp only [Option.bind_some];rw [w2.get ht,if_pos (by simp)];simp only [Option.bind_some];rw [Qb5 (by simp only [List.length_cons,List.length_nil];unfold lim;omega)];simp only [Option.bind_some];rw [Qbb (by omega)];rw [e1] at hpre hfi hmem ⊢;obtain ⟨num',q1,q2⟩:=ih _ ⟨j+1,o++[l[j].To],es++[⟨(i:Int),l[j].Event,((o++[l[j].To]).idxOf l[j].To:Int)⟩],num1,rfl,by omega,hfi,w2,by simp only [List.length_append,List.length_cons,List.length_nil];omega⟩ (by simp only;omega) (j+1) _ _ _ rfl;refine ⟨num',q1,?_⟩;rw [q2,Q54 hpre hmem];simp only [List.append_assoc,List.cons_append,List.nil_append]
   ·rw [if_neg (by omega)];obtain rfl:j=l.length:=by omega
    exact ⟨num,by simpa using hnm,by simp⟩) fuel (o,0,es,num) ⟨0,o,es,num,rfl,Nat.zero_le _,ho,hn,by omega⟩ (by simp only;omega) 0 o es num rfl
 obtain ⟨num',q1,q2⟩:=key;exact ⟨num',by simpa using q1,by simpa using q2⟩
theorem Qbe2 (fuel:Nat) (hfu:1099511627776≤fuel) {num:List Int} (h0:0<a.zF) (hn:Num a [0] num) :
  ∃ num',Qbx (fun (k28:List Int×Int×List Int×List Int×List Qb×List Int×List Qb×List Int→Option (List Int×List Int×List Int×List Qb×List Int×List Qb×List Int)) ((order20,i21,c22,c23,c24,r25,r26,c27):(List Int)×Int×(List Int)×(List Int)×(List Qb)×(List Int)×(List Qb)×(List Int))=>(if (i21<(order20.length:Int)) then ((((((getO order20 i21).bind fun x30=>((Qcv a.zC x30).bind fun (r33,r34)=>(if r34 then ((appO r25 [i21]).bind fun x36=>some x36) else some r25)))).bind fun (r38:List Int)=>((getO order20 i21).bind fun x39=>((Qia a x39).bind fun x42=>Qbx (fun k47 ((order43,x44,r45,c46):(List Int)×Int×(List Qb)×(List Int))=>(if (x44<(x42.length:Int)) then ((getO x42 x44).bind fun x49=>((((inO (Int.toNat a.zF) x49.To).bind fun u51=>((getO c46 x49.To).bind fun x53=>(if (x53<0) then ((inO (Int.toNat a.zF) x49.To).bind fun u56=>((setO c46 x49.To (order43.length:Int)).bind fun x58=>((appO order43 [x49.To]).bind fun x60=>some (x60,x58)))) else some (order43,c46))))).bind fun ((order62,c63):(List Int)×(List Int))=>((inO (Int.toNat a.zF) x49.To).bind fun u64=>((getO c63 x49.To).bind fun x66=>((appO r45 [(Qb.mk i21 x49.Event x66)]).bind fun x68=>k47 (order62,(IntKind.wrap .i64 (x44+1)),x68,c63)))))) else some (order43,r38,r45,c46))) fuel (order20,0,r26,c27))))).bind fun ((order70,r71,r72,c73):(List Int)×(List Int)×(List Qb)×(List Int))=>k28 (order70,(IntKind.wrap .i64 (i21+1)),c22,c23,c24,r71,r72,c73)) else some (order20,c22,c23,c24,r25,r26,c27))) fuel ([0],0,[],[],[],[],[],num)=some (Qem a,[],[],[],Qmy a.zC 0 (Qem a),Qnf a (Qem a) 0 (Qem a),num'):=by
 have hst:=h.st;have hs:=h.small.1;have hsb:=h.small.2;have key:=Qc7 (F:=(fun (k28:List Int×Int×List Int×List Int×List Qb×List Int×List Qb×List Int→Option (List Int×List Int×List Int×List Qb×List Int×List Qb×List Int)) ((order20,i21,c22,c23,c24,r25,r26,c27):(List Int)×Int×(List Int)×(List Int)×(List Qb)×(List Int)×(List Qb)×(List Int))=>(if (i21<(order20.length:Int)) then ((((((getO order20 i21).bind fun x30=>((Qcv a.zC x30).bind fun (r33,r34)=>(if r34 then ((appO r25 [i21]).bind fun x36=>some x36) else some r25)))).bind fun (r38:List Int)=>((getO order20 i21).bind fun x39=>((Qia a x39).bind fun x42=>Qbx (fun k47 ((order43,x44,r45,c46):(List Int)×Int×(List Qb)×(List Int))=>(if (x44<(x42.length:Int)) then ((getO x42 x44).bind fun x49=>((((inO (Int.toNat a.zF) x49.To).bind fun u51=>((getO c46 x49.To).bind fun x53=>(if (x53<0) then ((inO (Int.toNat a.zF) x49.To).bind fun u56=>((setO c46 x49.To (order43.length:Int)).bind fun x58=>((appO order43 [x49.To]).bind fun x60=>some (x60,x58)))) else some (order43,c46))))).bind fun ((order62,c63):(List Int)×(List Int))=>((inO (Int.toNat a.zF) x49.To).bind fun u64=>((getO c63 x49.To).bind fun x66=>((appO r45 [(Qb.mk i21 x49.Event x66)]).bind fun x68=>k47 (order62,(IntKind.wrap .i64 (x44+1)),x68,c63)))))) else some (order43,r38,r45,c46))) fuel (order20,0,r26,c27))))).bind fun ((order70,r71,r72,c73):(List Int)×(List Int)×(List Qb)×(List Int))=>k28 (order70,(IntKind.wrap .i64 (i21+1)),c22,c23,c24,r71,r72,c73)) else some (order20,c22,c23,c24,r25,r26,c27))))
  (fun x=>∃ (i:Nat) (o ms:List Int) (es:List Qb) (num:List Int),x=(o,(i:Int),[],[],[],ms,es,num)∧i≤o.length∧Fnd a o∧Num a o num∧ms.length≤i∧es.length≤32*i∧(∀ j s,j<i→o[j]? = some s→∀ t∈Ql7 a s,t∈o)) (fun x=>a.zF.toNat+1-x.2.1.toNat)
  (fun x r=>∀ (i:Nat) (o ms:List Int) (es:List Qb) (num:List Int),x=(o,(i:Int),[],[],[],ms,es,num)→∃ num',r=some (bfs a (a.zF.toNat+1-i) i o,[],[],[],ms++Qmy a.zC i ((bfs a (a.zF.toNat+1-i) i o).drop i),es++Qnf a (bfs a (a.zF.toNat+1-i) i o) i ((bfs a (a.zF.toNat+1-i) i o).drop i),num')) (by
   rintro k _ ⟨i,o,ms,es,num,rfl,hi,hf,hnm,hml,hel,hcl⟩ ih i' o' ms' es' num' he;obtain ⟨rfl,he2⟩:=Prod.mk.inj he;obtain ⟨hii,he3⟩:=Prod.mk.inj he2;obtain ⟨_,he4⟩:=Prod.mk.inj he3;obtain ⟨_,he5⟩:=Prod.mk.inj he4;obtain ⟨_,he6⟩:=Prod.mk.inj he5;obtain ⟨rfl,he7⟩:=Prod.mk.inj he6;obtain ⟨rfl,rfl⟩:=Prod.mk.inj he7;obtain rfl:i=i':=by omega
   have hfl:=hf.len;dsimp only;by_cases hlt:i<o.length
   ·have hrg:=hf.rg _ (List.getElem_mem hlt);rw [if_pos (by omega),Q1 hlt];simp only [Option.bind_some];obtain ⟨n,hsr⟩:=Qba2 (v:=o[i]) h.ma hs.2.1;rw [hsr];simp only [Option.bind_some];rw [Qbmq h hs (by omega) (by omega)];have hto:∀ x∈outP a o[i],0≤x.To∧x.To<a.zF:=fun x hx=>by
     unfold outP at hx;have:=h.ed0 x (List.mem_filter.1 hx).1;omega
    have hol:(outP a o[i]).length≤200000:=Nat.le_trans (List.length_filter_le _ _) (by omega);have hrow:=Qbdz h (F:=o) (i:=i) (s:=o[i]);have hrl:(outP a o[i]).length≤32:=by simpa [rowP] using hrow
    obtain ⟨q1,q2,q3,_⟩:=Qxu hf (Q0e h o[i]);have hle:=q2.length_le;have hcl' : ∀ j s,j<i+1→((Ql7 a o[i]).foldl ins o)[j]? = some s→∀ t∈Ql7 a s,t∈(Ql7 a o[i]).foldl ins o:=by
     intro j s hj hs' t ht;by_cases hji:j<i
     ·have hjl:j<o.length:=by omega
      have:o[j]? = some s:=by
       have:=Ql2 q2 (List.getElem?_eq_getElem hjl);rw [hs'] at this;rw [List.getElem?_eq_getElem hjl];exact this.symm
      exact q2.subset (hcl j s hji this t ht)
     ·obtain rfl:j=i:=by omega
      have:=Ql2 q2 (List.getElem?_eq_getElem hlt);rw [hs'] at this;cases this;exact q3 t ht
    have hF:=Q8x h (a.zF.toNat+1-(i+1)) (i+1) ((Ql7 a o[i]).foldl ins o) q1 (by omega) (by omega) hcl';have hget:(bfs a (a.zF.toNat+1-(i+1)) (i+1) ((Ql7 a o[i]).foldl ins o))[i]? = some o[i]:=Ql2 (q2.trans hF.2.1) (List.getElem?_eq_getElem hlt);rw [show a.zF.toNat+1-i=(a.zF.toNat+1-(i+1))+1 from by omega,Qbdy hlt];have hdrop:(bfs a (a.zF.toNat+1-(i+1)) (i+1) ((Ql7 a o[i]).foldl ins o)).drop i=o[i]::(bfs a (a.zF.toNat+1-(i+1)) (i+1) ((Ql7 a o[i]).foldl ins o)).drop (i+1):=by
     obtain ⟨w1,w2⟩:=List.getElem?_eq_some_iff.1 hget;rw [List.drop_eq_getElem_cons w1,w2]
    rw [hdrop];simp only [Qmy,Qnf];have hidx:∀ x∈outP a o[i],(bfs a (a.zF.toNat+1-(i+1)) (i+1) ((Ql7 a o[i]).foldl ins o)).idxOf x.To=((Ql7 a o[i]).foldl ins o).idxOf x.To:=fun x hx =>
     Q54 hF.2.1 (q3 x.To (List.mem_map.2 ⟨x,hx,rfl⟩))
    have hrow2:rowP a (bfs a (a.zF.toNat+1-(i+1)) (i+1) ((Ql7 a o[i]).foldl ins o)) i o[i]=(outP a o[i]).map fun x=>⟨(i:Int),x.Event,(((Ql7 a o[i]).foldl ins o).idxOf x.To:Int)⟩ :=
     List.map_congr_left fun x hx=>by rw [hidx x hx]
    rw [hrow2];generalize hFe:bfs a (a.zF.toNat+1-(i+1)) (i+1) ((Ql7 a o[i]).foldl ins o)=F at *
    have hstep:∀ ms1:List Int,ms1.length≤i+1→∃ num',(Option.bind (Qbx (fun (k47:List Int×Int×List Qb×List Int→Option (List Int×List Int×List Qb×List Int)) ((order43,x44,r45,c46):(List Int)×Int×(List Qb)×(List Int))=>(if (x44<((outP a o[i]).length:Int)) then ((getO (outP a o[i]) x44).bind fun x49=>((((inO (Int.toNat a.zF) x49.To).bind fun u51=>((getO c46 x49.To).bind fun x53=>(if (x53<0) then ((inO (Int.toNat a.zF) x49.To).bind fun u56=>((setO c46 x49.To (order43.length:Int)).bind fun x58=>((appO order43 [x49.To]).bind fun x60=>some (x60,x58)))) else some (order43,c46))))).bind fun ((order62,c63):(List Int)×(List Int))=>((inO (Int.toNat a.zF) x49.To).bind fun u64=>((getO c63 x49.To).bind fun x66=>((appO r45 [(Qb.mk (i:Int) x49.Event x66)]).bind fun x68=>k47 (order62,(IntKind.wrap .i64 (x44+1)),x68,c63)))))) else some (order43,ms1,r45,c46))) fuel (o,0,es,num)) fun x=>k (x.1,IntKind.wrap .i64 ((i:Int)+1),[],[],[],x.2.1,x.2.2.1,x.2.2.2))=some (F,[],[],[],ms1++Qmy a.zC (i+1) (F.drop (i+1)),(es++(outP a o[i]).map (fun x=>⟨(i:Int),x.Event,(((Ql7 a o[i]).foldl ins o).idxOf x.To:Int)⟩))++Qnf a F (i+1) (F.drop (i+1)),num'):=by
     intro ms1 hms1;obtain ⟨num1,n1,n2⟩:=Qbht h fuel hfu hol hto (ms:=ms1) (i:=i) hf hnm (es:=es) (by omega);rw [n2];simp only [Option.bind_some];rw [Qbb (by omega)];have hel2:(es++(outP a o[i]).map (fun x=>(⟨(i:Int),x.Event,(((Ql7 a o[i]).foldl ins o).idxOf x.To:Int)⟩ : Qb))).length≤32*(i+1):=by simp only [List.length_append,List.length_map];omega
     have hfin:=ih _ ⟨i+1,(Ql7 a o[i]).foldl ins o,ms1,_,num1,rfl,by omega,q1,n1,hms1,hel2,hcl'⟩ (by simp only;omega) (i+1) _ ms1 _ num1 rfl;rw [hFe] at hfin;exact hfin
    by_cases hm:o[i]∈a.zC
    ·simp only [hm,decide_true,if_true];rw [Qb5 (by simp only [List.length_cons,List.length_nil];unfold lim;omega)];simp only [Option.bind_some];obtain ⟨num1,n1⟩:=hstep (ms++[(i:Int)]) (by simp only [List.length_append,List.length_cons,List.length_nil];omega);refine ⟨num1,Eq.trans ?_ (n1.trans ?_)⟩
     ·rfl
     ·simp only [List.append_assoc]
    ·simp only [hm,decide_false,Bool.false_eq_true,if_false,Option.bind_some];obtain ⟨num1,n1⟩:=hstep ms (by omega);refine ⟨num1,Eq.trans ?_ (n1.trans ?_)⟩
     ·rfl
     ·simp only [List.append_assoc,List.nil_append]
   ·rw [if_neg (by omega)];obtain rfl:i=o.length:=by omega
    rw [Qbhl];exact ⟨num,by simp [Qmy,Qnf]⟩) fuel ([0],0,[],[],[],[],[],num) ⟨0,[0],[],[],num,rfl,by simp,⟨by simp,fun s hs=>by simp at hs;omega⟩,hn,by simp,by simp,fun j s hj=>by omega⟩ (by simp only;omega) 0 [0] [] [] num rfl
 obtain ⟨num',hk⟩:=key;refine ⟨num',?_⟩;rw [hk];simp [Qem,h0]
theorem Q6i:Qhm a=some (Qho a):=by
 have hst:=h.st;have hsb:=h.small.2;unfold Qhm Qdc;obtain ⟨fuel,hfu,hge⟩ : ∃ f,Q3=f∧1099511627776≤f:=⟨_,rfl,Nat.le_refl _⟩;rw [hfu,Q8y (by unfold lim;omega),Option.bind_some];by_cases h0:a.zF=0
 ·rw [if_pos (by simpa using h0)];unfold Qho Qem;rw [if_neg (by omega)];rw [h0];rfl
 ·rw [if_neg (by simpa using h0),show mkO a.zF (0:Int)=some (List.replicate a.zF.toNat 0) from by unfold mkO;rw [if_pos ⟨by omega,by unfold lim;omega⟩],Option.bind_some];have hfill:=Qiu (len:=a.zF.toNat) (F:=fun (k9:Int×List Int→Option (List Int)) ((x7,c8):Int×(List Int))=>(if (x7<((Int.toNat a.zF):Int)) then ((inO (Int.toNat a.zF) x7).bind fun u11=>((setO c8 x7 (-1)).bind fun x13=>k9 ((IntKind.wrap .i64 (x7+1)),x13))) else some c8))
   (fun n (c:List Int)=>((n:Int),c)) (fun n c=>c.length=a.zF.toNat∧c.take n=List.replicate n (-1)) (fun _ _=>some (List.replicate a.zF.toNat (-1))) (by
    rintro k n c hn ⟨k1,k2⟩ ih;dsimp only;rw [if_pos (by omega),show inO (Int.toNat a.zF) (n:Int)=some () from by unfold inO;rw [if_pos (by omega)],Option.bind_some,show setO c (n:Int) (-1)=some (c.set n (-1)) from by unfold setO;rw [if_pos ⟨by omega,by rw [k1];simpa using hn⟩];rfl,Option.bind_some,Qbb (by omega)];refine ih _ ⟨by rw [List.length_set];exact k1,?_⟩;rw [List.take_add_one,List.take_set_of_le (Nat.le_refl _),k2,List.getElem?_set_self (by omega)];rw [List.replicate_succ'];rfl) (by
    rintro k c ⟨k1,k2⟩;dsimp only;rw [if_neg (by omega)];rw [← k1,List.take_length,k1] at k2;rw [k2]) fuel 0 (List.replicate a.zF.toNat 0) (Nat.zero_le _) (by omega) ⟨by simp,by simp⟩
  refine (congrArg (fun w=>Option.bind w _) hfill).trans ?_;rw [Option.bind_some,show inO (Int.toNat a.zF) 0=some () from by unfold inO;rw [if_pos (by omega)],Option.bind_some];have hn:Num a [0] ((List.replicate a.zF.toNat (-1)).set 0 0):=⟨by simp,fun s hs=>by
   rw [List.getElem?_set];cases s with
   | zero=>simp;omega
   | succ s=>simp [hs];omega⟩
  rw [show setO (List.replicate a.zF.toNat (-1:Int)) 0 0=some ((List.replicate a.zF.toNat (-1)).set 0 0) from by unfold setO;rw [if_pos ⟨by omega,by simp;omega⟩];rfl,Option.bind_some];obtain ⟨num',hk⟩:=Qbe2 h fuel hge (by omega) hn;rw [hk]
  rfl
end
end Go.Abs
end
section
namespace Go.Abs
open Go
theorem Qnu (a b:ByteArray):(a==b)=decide (a=b):=by
 cases a;cases b;rw [Bool.eq_iff_iff];simp only [decide_eq_true_eq,ByteArray.mk.injEq];exact beq_iff_eq (α:=Array UInt8)
theorem Qbcg {i j:Nat} (hi:i<10) (hj:j<10) (h:UInt8.ofNat (48+i)=UInt8.ofNat (48+j)):i=j:=by
 have:=congrArg UInt8.toNat h;simp only [UInt8.toNat_ofNat'] at this;omega
theorem Qbke {i:Nat} (hi:i<10) (h:UInt8.ofNat (48+i)=32):False:=by
 have:=congrArg UInt8.toNat h;simp only [UInt8.toNat_ofNat'] at this;have h32:(32:UInt8).toNat=32:=rfl;omega
theorem Qblo {x y:Nat} (hx:x<100) (hy:y<100) {s t:List UInt8} (h:Lib.decDigits x++32::s=Lib.decDigits y++32::t):x=y∧s=t:=by
 by_cases h1:x<10<;>by_cases h2:y<10
 ·rw [Lib.decDigits_one h1,Lib.decDigits_one h2] at h;simp only [List.cons_append,List.nil_append,List.cons.injEq] at h;exact ⟨Qbcg h1 h2 h.1,h.2.2⟩
 ·rw [Lib.decDigits_one h1,Lib.decDigits_two h2 hy] at h;simp only [List.cons_append,List.nil_append,List.cons.injEq] at h;exact (Qbke (by omega) h.2.1.symm).elim
 ·rw [Lib.decDigits_two h1 hx,Lib.decDigits_one h2] at h;simp only [List.cons_append,List.nil_append,List.cons.injEq] at h;exact (Qbke (by omega) h.2.1).elim
 ·rw [Lib.decDigits_two h1 hx,Lib.decDigits_two h2 hy] at h;simp only [List.cons_append,List.nil_append,List.cons.injEq] at h;have e1:=Qbcg (by omega) (by omega) h.1;have e2:=Qbcg (by omega) (by omega) h.2.1;exact ⟨by omega,h.2.2.2⟩
def Q8z (t:List Int):Prop:=∀ x∈t,0≤x∧x<100
theorem Qba3:∀ {l m:List Int},Q8z l→Q8z m→keyL l=keyL m→l=m
 | [],[],_,_,_=>rfl
 | [],y::m,_,_,h=>by
  have:=congrArg List.length h;simp [keyL] at this
 | x::l,[],_,_,h=>by
  have:=congrArg List.length h;simp [keyL] at this
 | x::l,y::m,hl,hm,h=>by
  have hx:=hl x (by simp);have hy:=hm y (by simp);have h' : Lib.decDigits x.toNat++32::keyL l=Lib.decDigits y.toNat++32::keyL m:=by simpa [keyL] using h
  obtain ⟨h1,h2⟩:=Qblo (by omega) (by omega) h';rw [Qba3 (fun z hz=>hl z (by simp [hz])) (fun z hz=>hm z (by simp [hz])) h2,show x=y from by omega]
theorem Qbhu {l m:List Int} (hl:Q8z l) (hm:Q8z m) (h:keyB l=keyB m):l=m:=by
 unfold keyB at h;simp only [ByteArray.mk.injEq] at h;exact Qba3 hl hm (by simpa using congrArg Array.toList h)
theorem Qba4 {β:Type} {v:β} {k k' : ByteArray}:∀ {m:List (ByteArray×β)},hasM (setM m k v) k'=(decide (k'=k)||hasM m k')
 | []=>by simp [setM,hasM,Qnu]
 | (q,w)::m=>by
  by_cases h1:k=q
  ·subst h1;simp only [setM,Qnu,decide_true,if_true,Qkj];cases decide (k'=k)<;>simp
  ·simp only [setM,Qnu,decide_eq_false h1,Bool.false_eq_true,if_false,Qkj,Qba4 (m:=m)];cases decide (k'=q)<;>cases decide (k'=k)<;>simp
theorem Qba5 {β:Type} {z v:β} {k k' : ByteArray}:∀ {m:List (ByteArray×β)},getM (setM m k v) k' z=if k'=k then v else getM m k' z
 | []=>by simp [setM,getM,Qnu]
 | (q,w)::m=>by
  by_cases h1:k=q
  ·subst h1;by_cases h2:k'=k<;>simp [setM,getM,Qnu,h2]
  ·by_cases h2:k'=q
   ·subst h2;have h3:¬ k'=k:=fun e=>h1 e.symm;simp [setM,getM,Qnu,h1,h3]
   ·simp [setM,getM,Qnu,h1,h2,Qba5 (m:=m)]
def MapK (m:List (ByteArray×Int)) (st:List (List Int)):Prop:=∀ r,Q8z r→hasM m (keyB r)=decide (r∈st)∧(r∈st→getM m (keyB r) 0=(st.idxOf r:Int))
theorem MapK.ins {m:List (ByteArray×Int)} {st:List (List Int)} (h:MapK m st) {r:List Int} (hr:r∉st) (hk:Q8z r):MapK (setM m (keyB r) (st.length:Int)) (st++[r]):=by
 intro x hx;obtain ⟨h1,h2⟩:=h x hx;have hiff:keyB x=keyB r↔x=r:=⟨fun e=>Qbhu hx hk e,fun e=>by rw [e]⟩;refine ⟨?_,fun hm=>?_⟩
 ·rw [Qba4,h1,Bool.eq_iff_iff];simp [hiff];exact Or.comm
 ·rw [Qba5];by_cases hxr:x=r
  ·subst hxr;rw [if_pos rfl,List.idxOf_append];simp [hr]
  ·rw [if_neg (fun e=>hxr (hiff.1 e))];have hx' : x∈st:=by
    rcases List.mem_append.1 hm with hx|hx
    ·exact hx
    ·simp at hx;exact absurd hx hxr
   rw [h2 hx',List.idxOf_append,if_pos hx']
abbrev TS:=List (List Int)×List Qb×List (ByteArray×Int)
def rowM (stp:List Int→Int→Option (List Int)) (i:Nat) (s:List Int) (p:TS) (e:Int):TS :=
 match stp s e with
 | none=>p
 | some t=>if t∈p.1 then (p.1,p.2.1++[⟨(i:Int),e,(p.1.idxOf t:Int)⟩],p.2.2) else (p.1++[t],p.2.1++[⟨(i:Int),e,(p.1.length:Int)⟩],setM p.2.2 (keyB t) (p.1.length:Int))
def bldM (stp:List Int→Int→Option (List Int)) (mk:List Int→Bool) (al:List Int):Nat→Nat→List Int→TS→List (List Int)×List Int×List Qb
 | 0,_,ms,p=>(p.1,ms,p.2.1)
 | f+1,i,ms,p=>match p.1[i]? with
  | none=>(p.1,ms,p.2.1)
  | some s=>bldM stp mk al f (i+1) (if mk s then ms++[(i:Int)] else ms) (al.foldl (rowM stp i s) p)
structure DomT (stp:List Int→Int→Option (List Int)) (al:List Int) (P:List Int→Prop) (N:Nat):Prop where
 ky:∀ x,P x→Q8z x
 cl:∀ x,P x→∀ e∈al,∀ t,stp x e=some t→P t
 bd:∀ l:List (List Int),l.Nodup→(∀ x∈l,P x)→l.length≤N
 nn:N≤4000
 so:al.Pairwise (· < ·)
 rg:∀ x∈al,0≤x∧x<32
structure FndT (al:List Int) (P:List Int→Prop) (i:Nat) (p:TS):Prop where
 nd:p.1.Nodup
 su:∀ x∈p.1,P x
 mp:MapK p.2.2 p.1
 ed:p.2.1.Pairwise Qiv
 er:∀ x∈p.2.1,0≤x.From∧x.From<i∧0≤x.To∧x.To<p.1.length∧x.Event∈al
theorem Qbd5 {l:List Int} (h:l.Pairwise (· < ·)) (h0:∀ x∈l,0≤x∧x<32):l.length≤32:=by
 have hr:Right ⟨l,0,[],[]⟩:={ al0:=h0,al:=h,st:=⟨Int.le_refl 0,by show (0:Int)≤4096;decide⟩,ma0:=fun x hx=>by simp at hx,ma:=List.Pairwise.nil,ed0:=fun x hx=>by simp at hx,ed:=List.Pairwise.nil };exact hr.small.2.1
section
variable {stp:List Int→Int→Option (List Int)} {mk:List Int→Bool} {al:List Int} {P:List Int→Prop} {N:Nat} (hd:DomT stp al P N)
structure RowT (al:List Int) (P:List Int→Prop) (i:Nat) (done:List Int) (p0 p:TS):Prop where
 nd:p.1.Nodup
 su:∀ x∈p.1,P x
 mp:MapK p.2.2 p.1
 pre:p0.1 <+: p.1
 ed:p.2.1.Pairwise Qiv
 er:∀ x∈p.2.1,0≤x.From∧x.From≤i∧0≤x.To∧x.To<p.1.length∧x.Event∈al∧(x.From=i→x.Event∈done)
 ln:p.2.1.length≤p0.2.1.length+done.length
include hd
theorem RowT.step {i:Nat} {done:List Int} {p0 p:TS} {s:List Int} {e:Int} (h:RowT al P i done p0 p) (hs:P s) (he:e∈al) (hlt:∀ x∈done,x<e):RowT al P i (done++[e]) p0 (rowM stp i s p e):=by
 have hln:=h.ln;unfold rowM;cases hst:stp s e with
 | none =>
  exact ⟨h.nd,h.su,h.mp,h.pre,h.ed,fun x hx=>by
   obtain ⟨a1,a2,a3,a4,a5,a6⟩:=h.er x hx;exact ⟨a1,a2,a3,a4,a5,fun hf=>List.mem_append_left _ (a6 hf)⟩,by simp only [List.length_append,List.length_cons,List.length_nil];omega⟩
 | some t =>
  have ht:=hd.cl s hs e he t hst;have new:∀ (k:Int),0≤k→∀ (L:List (List Int)),k<L.length→(p.1 <+: L)→(p.2.1++[(⟨(i:Int),e,k⟩ : Qb)]).Pairwise Qiv ∧
    ∀ x∈p.2.1++[(⟨(i:Int),e,k⟩ : Qb)],0≤x.From∧x.From≤i∧0≤x.To∧x.To<L.length∧x.Event∈al∧(x.From=i→x.Event∈done++[e]):=by
   intro k hk L hkL hpre;have hle:=hpre.length_le;refine ⟨List.pairwise_append.2 ⟨h.ed,List.pairwise_singleton _ _,fun x hx y hy=>?_⟩,fun x hx=>?_⟩
   ·simp only [List.mem_singleton] at hy;subst hy;obtain ⟨a1,a2,a3,a4,a5,a6⟩:=h.er x hx;unfold Qiv;dsimp only;by_cases hf:x.From=i
    ·exact .inr ⟨hf,hlt _ (a6 hf)⟩
    ·exact .inl (by omega)
   ·rcases List.mem_append.1 hx with hx|hx
    ·obtain ⟨a1,a2,a3,a4,a5,a6⟩:=h.er x hx;exact ⟨a1,a2,a3,by omega,a5,fun hf=>List.mem_append_left _ (a6 hf)⟩
    ·simp only [List.mem_singleton] at hx;subst hx;exact ⟨by dsimp only;omega,Int.le_refl _,hk,hkL,he,fun _=>by simp⟩
  dsimp only;by_cases hm:t∈p.1
  ·rw [if_pos hm];obtain ⟨k1,k2⟩:=new (p.1.idxOf t:Int) (by omega) p.1 (by have:=List.idxOf_lt_length_of_mem hm;omega) (List.prefix_refl _);exact ⟨h.nd,h.su,h.mp,h.pre,k1,k2,by simp only [List.length_append,List.length_cons,List.length_nil];omega⟩
  ·rw [if_neg hm];obtain ⟨k1,k2⟩:=new (p.1.length:Int) (by omega) (p.1++[t]) (by simp only [List.length_append,List.length_cons,List.length_nil];omega) (List.prefix_append _ _);refine ⟨?_,fun x hx=>?_,h.mp.ins hm (hd.ky t ht),List.IsPrefix.trans h.pre (List.prefix_append _ _),k1,k2,by simp only [List.length_append,List.length_cons,List.length_nil];omega⟩
   ·dsimp only;rw [List.nodup_append];refine ⟨h.nd,by simp,fun a ha b hb=>?_⟩;simp only [List.mem_singleton] at hb;subst hb;rintro rfl;exact hm ha
   ·rcases List.mem_append.1 hx with hx|hx
    ·exact h.su x hx
    ·simp only [List.mem_singleton] at hx;subst hx;exact ht
theorem RowT.fold {i:Nat} {p0:TS} {s:List Int} (hs:P s):∀ {es done:List Int} {p:TS},done++es=al→RowT al P i done p0 p→RowT al P i al p0 (es.foldl (rowM stp i s) p)
 | [],done,p,he,h=>by rw [List.append_nil] at he;subst he;exact h
 | e::es,done,p,he,h=>by
  rw [List.foldl_cons];refine RowT.fold hs (done:=done++[e]) (by rw [← he];simp) (h.step hd hs (by rw [← he];simp) fun x hx=>?_);have:=hd.so;rw [← he,List.pairwise_append] at this;exact this.2.2 x hx e (by simp)
theorem FndT.row {i:Nat} {p:TS} (h:FndT al P i p) {s:List Int} (hs:P s):FndT al P (i+1) (al.foldl (rowM stp i s) p)∧p.1 <+: (al.foldl (rowM stp i s) p).1∧(al.foldl (rowM stp i s) p).2.1.length≤p.2.1.length+al.length:=by
 have:=RowT.fold hd (i:=i) (p0:=p) (p:=p) hs (es:=al) (done:=[]) rfl ⟨h.nd,h.su,h.mp,List.prefix_refl _,h.ed,fun x hx=>by
  obtain ⟨a1,a2,a3,a4,a5⟩:=h.er x hx;exact ⟨a1,by omega,a3,a4,a5,fun hf=>by omega⟩,by simp⟩
 exact ⟨⟨this.nd,this.su,this.mp,this.ed,fun x hx=>by
  obtain ⟨a1,a2,a3,a4,a5,_⟩:=this.er x hx;exact ⟨a1,by omega,a3,a4,a5⟩⟩,this.pre,this.ln⟩
theorem FndT.len {i:Nat} {p:TS} (h:FndT al P i p):p.1.length≤N:=hd.bd _ h.nd h.su
structure MksT (i:Nat) (ms:List Int):Prop where
 rg:∀ x∈ms,0≤x∧x<i
 so:ms.Pairwise (· < ·)
theorem Q7s (mk:List Int→Bool):∀ {f i:Nat} {ms:List Int} {p:TS},FndT al P i p→MksT i ms→i≤p.1.length→N+1≤f+i →
  Right ⟨al,((bldM stp mk al f i ms p).1.length:Int),(bldM stp mk al f i ms p).2.1,(bldM stp mk al f i ms p).2.2⟩∧(∀ x∈(bldM stp mk al f i ms p).1,P x)∧(bldM stp mk al f i ms p).1.length≤N∧p.1 <+: (bldM stp mk al f i ms p).1
 | 0,i,ms,p,h,hm,hi,hf=>by have:=h.len hd;omega
 | f+1,i,ms,p,h,hm,hi,hf=>by
  have hN:=hd.nn;have hl:=h.len hd;rw [bldM];cases hg:p.1[i]? with
  | none =>
   have hi2:i=p.1.length:=by have:=List.getElem?_eq_none_iff.1 hg;omega
   dsimp only;refine ⟨⟨hd.rg,hd.so,⟨by dsimp only;omega,by dsimp only;omega⟩,fun x hx=>?_,hm.so,fun x hx=>?_,h.ed⟩,h.su,hl,List.prefix_refl _⟩
   ·have:=hm.rg x hx;dsimp only;omega
   ·have:=h.er x hx;dsimp only;exact ⟨this.1,by omega,this.2.2.1,this.2.2.2.1,this.2.2.2.2⟩
  | some s =>
   have hs:=h.su s (List.mem_of_getElem? hg);obtain ⟨h1,h2,h3⟩:=h.row hd hs;have hlt:i<p.1.length:=(List.getElem?_eq_some_iff.1 hg).1;have hle:=h2.length_le;dsimp only;obtain ⟨k1,k2,k3,k4⟩:=Q7s mk (f:=f) (i:=i+1) (ms:=if mk s then ms++[(i:Int)] else ms) h1 (by
    split
    ·refine ⟨fun x hx=>?_,List.pairwise_append.2 ⟨hm.so,List.pairwise_singleton _ _,fun a ha b hb=>?_⟩⟩
     ·rcases List.mem_append.1 hx with hx|hx
      ·have:=hm.rg x hx;omega
      ·simp only [List.mem_singleton] at hx;omega
     ·simp only [List.mem_singleton] at hb;have:=hm.rg a ha;omega
    ·exact ⟨fun x hx=>by have:=hm.rg x hx;omega,hm.so⟩) (by omega) (by omega)
   exact ⟨k1,k2,k3,List.IsPrefix.trans h2 k4⟩
end
end Go.Abs
end
section
namespace Go.Abs
open Go
structure Mrg (kp:Bool→Bool→Bool) (l m a b out:List Int):Prop where
 sa:a.Pairwise (· < ·)
 sb:b.Pairwise (· < ·)
 so:out.Pairwise (· < ·)
 oa:∀ o∈out,∀ x∈a,o<x
 ob:∀ o∈out,∀ x∈b,o<x
 ln:out.length+a.length+b.length<big
 eq:∀ x,(x∈out∨kp (decide (x∈a)) (decide (x∈b))=true)↔kp (decide (x∈l)) (decide (x∈m))=true
theorem Mrg.step {kp:Bool→Bool→Bool} (h0:kp false false=false) {l m a b out a' b' : List Int} {z:Int} {p q:Bool} (h:Mrg kp l m a b out) (ha:a=if p then z::a' else a') (hb:b=if q then z::b' else b') (hpq:p=true∨q=true)
  (hza:∀ x∈a',z<x) (hzb:∀ x∈b',z<x):Mrg kp l m a' b' (if kp p q then out++[z] else out):=by
 have ma:∀ x,x∈a↔(p=true∧x=z)∨x∈a':=fun x=>by rw [ha];cases p<;>simp
 have mb:∀ x,x∈b↔(q=true∧x=z)∨x∈b':=fun x=>by rw [hb];cases q<;>simp
 have hoz:∀ o∈out,o<z:=fun o ho=>by
  rcases hpq with rfl|rfl
  ·exact h.oa o ho z ((ma z).2 (.inl ⟨rfl,rfl⟩))
  ·exact h.ob o ho z ((mb z).2 (.inl ⟨rfl,rfl⟩))
 have hm:∀ o,o∈(if kp p q then out++[z] else out)↔o∈out∨(kp p q=true∧o=z):=fun o=>by cases kp p q<;>simp
 have hza' : z∉a':=fun hx=>by have:=hza z hx;omega
 have hzb' : z∉b':=fun hx=>by have:=hzb z hx;omega
 refine ⟨?_,?_,?_,?_,?_,?_,fun x=>?_⟩
 ·have:=h.sa;rw [ha] at this;cases p
  ·exact this
  ·exact (List.pairwise_cons.1 this).2
 ·have:=h.sb;rw [hb] at this;cases q
  ·exact this
  ·exact (List.pairwise_cons.1 this).2
 ·cases kp p q
  ·exact h.so
  ·simp only [if_true];rw [List.pairwise_append];exact ⟨h.so,by simp,fun o ho y hy=>by simp at hy;subst hy;exact hoz o ho⟩
 ·intro o ho x hx;rcases (hm o).1 ho with ho|⟨_,rfl⟩
  ·exact h.oa o ho x ((ma x).2 (.inr hx))
  ·exact hza x hx
 ·intro o ho x hx;rcases (hm o).1 ho with ho|⟨_,rfl⟩
  ·exact h.ob o ho x ((mb x).2 (.inr hx))
  ·exact hzb x hx
 ·have h1:=h.ln;have h2:a.length=a'.length+if p then 1 else 0:=by rw [ha];cases p<;>simp
  have h3:b.length=b'.length+if q then 1 else 0:=by rw [hb];cases q<;>simp
  have h4:(if kp p q then out++[z] else out).length≤out.length+1:=by split<;>simp
  rcases hpq with rfl|rfl<;>simp at h2 h3<;>omega
 ·rw [← h.eq x,hm];by_cases hx:x=z
  ·subst hx;have e1:decide (x∈a)=p:=by rw [Bool.eq_iff_iff,decide_eq_true_eq,ma];simp [hza']
   have e2:decide (x∈b)=q:=by rw [Bool.eq_iff_iff,decide_eq_true_eq,mb];simp [hzb']
   rw [e1,e2,decide_eq_false hza',decide_eq_false hzb',h0];simp
  ·have e1:decide (x∈a)=decide (x∈a'):=decide_eq_decide.2 (by rw [ma];simp [hx]);have e2:decide (x∈b)=decide (x∈b'):=decide_eq_decide.2 (by rw [mb];simp [hx]);rw [e1,e2];simp [hx]
theorem Qbjj {kp:Bool→Bool→Bool} {keep:Bool→Bool→Option Bool} (hk:∀ p q,keep p q=some (kp p q)) (h0:kp false false=false) {l m:List Int} (hl:l.Pairwise (· < ·)) (hm:m.Pairwise (· < ·)) (hlm:l.length+m.length<big) :
  ∃ R,Qhe l m keep=some R∧R.Pairwise (· < ·)∧∀ x,x∈R↔kp (decide (x∈l)) (decide (x∈m))=true:=by
 unfold Qhe Qce;obtain ⟨fuel,hfu,hge⟩ : ∃ f,Q3=f∧1099511627776≤f:=⟨_,rfl,Nat.le_refl _⟩;rw [hfu];have hg:∀ (x:Int) (l:List Int),getO (x::l) 0=some x:=fun x l=>Q1 (l:=x::l) (n:=0) (by simp);have hd:∀ (x:Int) (l:List Int),slcO (x::l) 1 ((x::l).length:Int)=some l:=fun x l=>by
  have:=Q30 (l:=x::l) (i:=1) (j:=(x::l).length) (by simp) (by simp);rw [List.take_length] at this;exact this
 have key:=Qc7 (F:=fun (k14:List Int×List Int×List Int→Option (List Int)) ((a11,b12,out13):(List Int)×(List Int)×(List Int))=>(((if ((a11.length:Int)>0) then some true else some (decide ((b12.length:Int)>0)))).bind fun (x16:Bool)=>(if x16 then (((if ((a11.length:Int)>0) then (if ((b12.length:Int)==0) then some true else ((getO a11 0).bind fun x20=>((getO b12 0).bind fun x22=>some (decide (x20≤x22))))) else some false)).bind fun (inA24:Bool)=>(((if ((b12.length:Int)>0) then (if ((a11.length:Int)==0) then some true else ((getO b12 0).bind fun x27=>((getO a11 0).bind fun x29=>some (decide (x27≤x29))))) else some false)).bind fun (inB31:Bool)=>(((if inA24 then ((getO a11 0).bind fun x33=>((slcO a11 1 (a11.length:Int)).bind fun x35=>some (x35,x33))) else some (a11,0))).bind fun ((a37,x38):(List Int)×Int)=>(((if inB31 then ((getO b12 0).bind fun x40=>((slcO b12 1 (b12.length:Int)).bind fun x42=>some (x42,x40))) else some (b12,x38))).bind fun ((b44,x45):(List Int)×Int)=>((keep inA24 inB31).bind fun x47=>(if x47 then ((appO out13 [x45]).bind fun x49=>k14 (a37,b44,x49)) else k14 (a37,b44,out13))))))) else some out13)))
  (fun x:List Int×List Int×List Int=>Mrg kp l m x.1 x.2.1 x.2.2) (fun x=>x.1.length+x.2.1.length) (fun _ r=>∃ R,r=some R∧R.Pairwise (· < ·)∧∀ x,x∈R↔kp (decide (x∈l)) (decide (x∈m))=true) ?_ fuel (l,m,[]) ⟨hl,hm,by simp,by simp,by simp,by simpa using hlm,by simp⟩ (by unfold big at hlm;dsimp only;omega)
 ·obtain ⟨R,h1,h2,h3⟩:=key;exact ⟨R,by rw [h1];rfl,h2,h3⟩
 rintro k ⟨a,b,out⟩ h ih;dsimp only at h ih ⊢;have hln:=h.ln;have happ:∀ z:Int,out.length+1≤big→appO out [z]=some (out++[z]):=fun z hz=>Qb5 (by simp only [List.length_cons,List.length_nil];unfold lim;unfold big at hz;omega);have fin:∀ (a' b' : List Int) (z:Int) (p q:Bool),out.length+1≤big→Mrg kp l m a' b' (if kp p q then out++[z] else out)→a'.length+b'.length<a.length+b.length →
   ∃ R,((keep p q).bind fun x47=>if x47 then ((appO out [z]).bind fun x49=>k (a',b',x49)) else k (a',b',out))=some R∧R.Pairwise (· < ·)∧∀ x,x∈R↔kp (decide (x∈l)) (decide (x∈m))=true:=by
  intro a' b' z p q hz hM hlt;rw [hk,happ z hz];simp only [Option.bind_some];have:=ih (a',b',if kp p q then out++[z] else out) hM hlt;cases hkp:kp p q<;>simp only [hkp,Bool.false_eq_true,if_false,if_true] at this ⊢ <;> exact this
 match a,b,h,fin,hln with
 | [],[],h,fin,hln =>
  refine ⟨out,by simp,h.so,fun x=>?_⟩;rw [← h.eq x];simp [h0]
 | [],y::ys,h,fin,hln =>
  rw [show ((([]:List Int).length:Nat):Int)=0 from rfl];have hp:(((y::ys).length:Nat):Int)>0:=by simp only [List.length_cons];omega
  rw [if_neg (by omega),Option.bind_some,if_pos (by simp)];rw [if_neg (by omega),Option.bind_some,if_pos hp,if_pos (by rfl),Option.bind_some,if_neg (by simp),Option.bind_some,if_pos rfl,hg,hd];simp only [Option.bind_some];exact fin [] ys y false true (by simp only [List.length_cons] at hln;omega) (h.step h0 (z:=y) (p:=false) (q:=true) rfl rfl (.inr rfl) (by simp) (List.pairwise_cons.1 h.sb).1) (by simp)
 | x::xs,[],h,fin,hln =>
  rw [show ((([]:List Int).length:Nat):Int)=0 from rfl];have hp:(((x::xs).length:Nat):Int)>0:=by simp only [List.length_cons];omega
  rw [if_pos hp,Option.bind_some,if_pos rfl,if_pos hp,if_pos (by rfl),Option.bind_some,if_neg (by omega),Option.bind_some,if_pos rfl,hg,hd];simp only [Option.bind_some,Bool.false_eq_true,if_false];exact fin xs [] x true false (by simp only [List.length_cons] at hln;omega) (h.step h0 (z:=x) (p:=true) (q:=false) rfl rfl (.inl rfl) (List.pairwise_cons.1 h.sa).1 (by simp)) (by simp)
 | x::xs,y::ys,h,fin,hln =>
  obtain ⟨ha1,ha2⟩:=List.pairwise_cons.1 h.sa;obtain ⟨hb1,hb2⟩:=List.pairwise_cons.1 h.sb;have hp:(((x::xs).length:Nat):Int)>0:=by simp only [List.length_cons];omega
  have hq:(((y::ys).length:Nat):Int)>0:=by simp only [List.length_cons];omega
  have hp0:((((x::xs).length:Nat):Int)==0)=false:=by simp only [beq_eq_false_iff_ne];omega
  have hq0:((((y::ys).length:Nat):Int)==0)=false:=by simp only [beq_eq_false_iff_ne];omega
  rw [if_pos hp,Option.bind_some,if_pos rfl,if_pos hp,if_neg (by rw [hq0];simp),hg,hg,Option.bind_some,Option.bind_some,Option.bind_some,if_pos hq,if_neg (by rw [hp0];simp),Option.bind_some,Option.bind_some,Option.bind_some,hd,hd];simp only [List.length_cons] at hln;rcases Int.lt_trichotomy x y with hxy|rfl|hxy
  ·have e1:decide (x≤y)=true:=decide_eq_true (by omega);have e2:decide (y≤x)=false:=decide_eq_false (by omega);simp only [e1,e2,Option.bind_some,if_true,Bool.false_eq_true,if_false];exact fin xs (y::ys) x true false (by omega) (h.step h0 (z:=x) (p:=true) (q:=false) rfl rfl (.inl rfl) ha1 (fun z hz=>by
    rcases List.mem_cons.1 hz with rfl|hz
    ·exact hxy
    ·have:=hb1 z hz;omega)) (by simp)
  ·have e1:decide (x≤x)=true:=decide_eq_true (by omega);simp only [e1,Option.bind_some,if_true];exact fin xs ys x true true (by omega) (h.step h0 (z:=x) (p:=true) (q:=true) rfl rfl (.inl rfl) ha1 hb1) (by simp;omega)
  ·have e1:decide (x≤y)=false:=decide_eq_false (by omega);have e2:decide (y≤x)=true:=decide_eq_true (by omega);simp only [e1,e2,Option.bind_some,if_true,Bool.false_eq_true,if_false];exact fin (x::xs) ys y false true (by omega) (h.step h0 (z:=y) (p:=false) (q:=true) rfl rfl (.inr rfl) (fun z hz=>by
    rcases List.mem_cons.1 hz with rfl|hz
    ·exact hxy
    ·have:=ha1 z hz;omega) hb1) (by simp)
end Go.Abs
end
section
namespace Go.Abs
open Go
theorem Qbjk {l m:List Int} (hl:l.Pairwise (· < ·)) (hm:m.Pairwise (· < ·)) (hlm:l.length+m.length<big) :
  ∃ R,Qit l m=some R∧R.Pairwise (· < ·)∧∀ x,x∈R↔x∈l∨x∈m:=by
 unfold Qit Qfg;obtain ⟨R,h1,h2,h3⟩:=Qbjj (kp:=fun p q=>p||q) (keep:=Qmt) (fun p q=>by cases p<;>cases q<;>rfl) rfl hl hm hlm;exact ⟨R,by rw [h1];rfl,h2,fun x=>by rw [h3];simp⟩
end Go.Abs
end
section
namespace Go.Abs
open Go
end Go.Abs
end
section
namespace Go.Abs
open Go
theorem Qbhv {α:Type} [DecidableEq α] {s t:List α} {ne:α→α→Bool} (hne:∀ x y,ne x y=decide (x≠y)) (hl:s.length=t.length) (h:s.length<1000000000000) :
  Qbx (fun k5 (i4:Int)=>(if (i4<(s.length:Int)) then ((getO s i4).bind fun x7=>((getO t i4).bind fun x9=>(if ne x7 x9 then some false else k5 (IntKind.wrap .i64 (i4+1))))) else some true)) Q3 0=some (decide (s=t)):=by
 refine Q3z (fun i:Int=>∃ n:Nat,i=n∧n≤s.length∧s.take n=t.take n) (fun i=>s.length-i.toNat) _ ⟨0,rfl,by omega,by simp⟩ (by unfold Q3;omega) ?_;rintro k _ ⟨n,rfl,hn,he⟩ ih;by_cases hlt:n<s.length
 ·rw [if_pos (by omega),Q1 hlt,Q1 (by omega:n<t.length)];simp only [Option.bind_some,hne];by_cases hx:s[n]=t[n]
  ·rw [if_neg (by simp [hx]),Qbb (by omega)];exact ih _ ⟨n+1,rfl,by omega,Qbam hlt (by omega) he hx⟩ (by omega)
  ·rw [if_pos (by simp [hx])];have:s≠t:=fun e=>hx (by subst e;rfl);simp [this]
 ·rw [if_neg (by omega)];have e:n=s.length:=by omega
  have:s=t:=by
   rw [e,List.take_length,hl,List.take_length] at he;exact he
  simp [this]
theorem Qba6 {s t:List Int} (h:s.length<1000000000000):Qgb s t=some (decide (s=t)):=by
 unfold Qgb Qb0;by_cases hl:s.length=t.length
 ·rw [if_neg (by simp [hl])];exact Qbhv (ne:=fun x y=>x != y) (fun x y=>by rw [Bool.eq_iff_iff];simp) hl h
 ·rw [if_pos (by simp;omega)];have:s≠t:=fun e=>hl (by rw [e]);simp [this]
theorem Qbjl {s t:List Int} (h:s.length<1000000000000):Qgc s t=some (decide (s=t)):=Qba6 h
end Go.Abs
end
section
namespace Go.Abs
open Go
theorem Qlo {l:List Int} {v:Int} (hs:l.Pairwise (· < ·)) (hl:l.length<big):Qfp l v=some (decide (v∈l)):=by
 unfold Qfp Q8;obtain ⟨n,h⟩:=Qba2 (v:=v) hs hl;rw [h];rfl
theorem Qblp {l:List Int} {n:Int} (hl:l.length<big):Qfo l n=some (Qe3 n none l):=by
 unfold Qfo Qdj;refine (Qk2 (len:=l.length) (fun k=>some (Qe3 n (ahead l k) (l.drop k))) (by unfold Q3;unfold big at hl;omega) ?_ ?_).trans (by simp [Ql0])
 ·intro k i hi ih;have hb:i<1000000000000:=by unfold big at hl;omega
  rw [Qxs hi]
  try dsimp only
  rw [if_pos (by omega),Q1 hi,Qbb (by omega),ih];simp only [Option.bind_some];by_cases h1:l[i]<0
  ·simp [h1]
  ·by_cases h2:l[i]≥n
   ·simp [h1,h2]
   ·by_cases h0:0<i
    ·rw [Q1n h0 (by omega),Q1 (by omega:i-1<l.length),Q1o l h0 (by omega)];by_cases h3:l[i]≤l[i-1]<;>simp [h1,h2,h3,h0]
    ·obtain rfl:i=0:=by omega
     simp [h1,h2,Ql0]
 ·intro k;simp [Qe3]
structure SetP (n:Int) (l:List Int):Prop where
 rg:∀ x∈l,0≤x∧x<n
 so:l.Pairwise (· < ·)
theorem SetP.small {n:Int} {l:List Int} (h:SetP n l) (hn:n≤4096):l.length≤4096:=by
 have:=Qj1 h.so h.rg;omega
end Go.Abs
end
section
namespace Go.Abs
open Go
theorem Qba7 {κ β:Type} [BEq κ] [LawfulBEq κ] [DecidableEq κ] {v:β} {k k' : κ}:∀ {m:List (κ×β)},hasM (setM m k v) k'=(decide (k'=k)||hasM m k')
 | []=>by simp only [setM,hasM,List.any_cons,List.any_nil,Bool.or_false];rw [Bool.eq_iff_iff];simp
 | (q,w)::m=>by
  by_cases h1:k=q
  ·subst h1;simp only [setM,beq_self_eq_true,if_true,Qkj];rw [Bool.eq_iff_iff];simp
  ·have h1' : (k==q)=false:=by simp [h1]
   simp only [setM,h1',Bool.false_eq_true,if_false,Qkj,Qba7 (m:=m)];cases (k'==q)<;>cases decide (k'=k)<;>simp
theorem Q55 {κ β:Type} [BEq κ] [LawfulBEq κ] [DecidableEq κ] {z v:β} {k k' : κ}:∀ {m:List (κ×β)},getM (setM m k v) k' z=if k'=k then v else getM m k' z
 | []=>by simp [setM,getM]
 | (q,w)::m=>by
  by_cases h1:k=q
  ·subst h1;by_cases h2:k'=k<;>simp [setM,getM,h2]
  ·have h1' : (k==q)=false:=by simp [h1]
   by_cases h2:k'=q
   ·subst h2;have h3:¬ k'=k:=fun e=>h1 e.symm;simp [setM,getM,h1',h3]
   ·have h2' : (k'==q)=false:=by simp [h2]
    simp [setM,getM,h1',h2',Q55 (m:=m)]
def edM (a:Qa):List ((Int×Int)×Int):=a.zD.foldl (fun c x=>setM c (x.From,x.Event) x.To) []
theorem Q80:∀ {es:List Qb} {c:List ((Int×Int)×Int)} {s e:Int},es.Pairwise Qiv →
  hasM (es.foldl (fun c x=>setM c (x.From,x.Event) x.To) c) (s,e)=((es.find? fun x=>x.From==s&&x.Event==e).isSome||hasM c (s,e)) ∧
  getM (es.foldl (fun c x=>setM c (x.From,x.Event) x.To) c) (s,e) 0=match es.find? (fun x=>x.From==s&&x.Event==e) with|some x=>x.To|none=>getM c (s,e) 0
 | [],c,s,e,_=>by simp
 | x::es,c,s,e,h=>by
  obtain ⟨h1,h2⟩:=List.pairwise_cons.1 h;obtain ⟨i1,i2⟩:=Q80 (es:=es) (c:=setM c (x.From,x.Event) x.To) (s:=s) (e:=e) h2;rw [List.foldl_cons,i1,i2,Qba7,Q55,List.find?_cons];by_cases hx:x.From=s∧x.Event=e
  ·obtain ⟨rfl,rfl⟩:=hx;have hn:es.find? (fun y=>y.From==x.From&&y.Event==x.Event)=none:=by
    rw [List.find?_eq_none];intro y hy hq;simp only [Bool.and_eq_true,beq_iff_eq] at hq;have:=h1 y hy;unfold Qiv at this;omega
   simp [hn]
  ·have hb:(x.From==s&&x.Event==e)=false:=by
    rw [Bool.and_eq_false_iff];by_cases h3:x.From=s
    ·exact .inr (beq_eq_false_iff_ne.2 fun h4=>hx ⟨h3,h4⟩)
    ·exact .inl (beq_eq_false_iff_ne.2 h3)
   have hne:¬ ((s,e)=(x.From,x.Event)):=fun h4=>hx ⟨by injection h4 with h5 h6;exact h5.symm,by injection h4 with h5 h6;exact h6.symm⟩;rw [hb,decide_eq_false hne,if_neg hne];simp
theorem Qbhw {a:Qa} (h:Right a) (s e:Int):hasM (edM a) (s,e)=decide (0≤Qcq a s e):=by
 unfold edM Qcq;rw [(Q80 h.ed).1];cases hf:a.zD.find? fun x=>x.From==s&&x.Event==e with
 | none=>simp [hasM]
 | some x =>
  have:=(h.ed0 x (List.mem_of_find?_eq_some hf)).2.2.1;simp [this]
theorem Qbhx {a:Qa} (h:Right a) {s e:Int} (h0:0≤Qcq a s e):getM (edM a) (s,e) 0=Qcq a s e:=by
 unfold edM Qcq at *
 rw [(Q80 h.ed).2];cases hf:a.zD.find? fun x=>x.From==s&&x.Event==e with
 | none=>rw [hf] at h0;simp at h0
 | some x=>rfl
def InT:List Qa→List Int→Prop
 | [],[]=>True
 | a::l,x::t=>(0≤x∧x<a.zF)∧InT l t
 | _,_=>False
theorem InT.len:∀ {l:List Qa} {t:List Int},InT l t→t.length=l.length
 | [],[],_=>rfl
 | a::l,x::t,h=>by simp [InT.len h.2]
 | [],_::_,h=>h.elim
 | _::_,[],h=>h.elim
theorem InT.get:∀ {l:List Qa} {t:List Int},InT l t→∀ (i:Nat) (hi:i<l.length) (hj:i<t.length),0≤t[i]∧t[i]<l[i].zF
 | a::l,x::t,h,0,_,_=>h.1
 | a::l,x::t,h,i+1,hi,hj=>InT.get h.2 i (by simpa using hi) (by simpa using hj)
 | [],_,_,i,hi,_=>by simp at hi
 | _::_,[],h,_,_,_=>h.elim
def allT:List Qa→List (List Int)
 | []=>[[]]
 | a::l=>(upto a.zF).flatMap fun x=>(allT l).map (x :: ·)
theorem Qbd6:∀ {l:List Qa} {t:List Int},InT l t→t∈allT l
 | [],[],_=>by simp [allT]
 | a::l,x::t,h=>by
  simp only [allT,List.mem_flatMap,List.mem_map];exact ⟨x,Qbjg.2 h.1,t,Qbd6 h.2,rfl⟩
 | [],_::_,h=>h.elim
 | _::_,[],h=>h.elim
theorem Q81:∀ {l:List Qa},(allT l).length=l.foldr (fun a n=>a.zF.toNat*n) 1
 | []=>rfl
 | a::l=>by
  simp only [allT,List.length_flatMap,List.length_map,List.foldr_cons,← Q81 (l:=l)];generalize (allT l).length=n;have:∀ u:List Int,(u.map fun _=>n).sum=u.length*n:=fun u=>by
   induction u with
   | nil=>simp
   | cons x u ih=>simp only [List.map_cons,List.sum_cons,ih,List.length_cons,Nat.add_mul];omega
  rw [this,Q1r]
theorem Qbd7 {τ:Type} [DecidableEq τ]:∀ {l m:List τ},l.Nodup→(∀ x∈l,x∈m)→l.length≤m.length
 | [],_,_,_=>by simp
 | x::l,m,h,hs=>by
  obtain ⟨a1,a2⟩:=List.nodup_cons.1 h;have hx:=hs x (by simp);have:=Qbd7 (l:=l) (m:=m.erase x) a2 fun y hy=>(List.mem_erase_of_ne (by rintro rfl;exact a1 hy)).2 (hs y (by simp [hy]));rw [List.length_erase_of_mem hx] at this;have:0<m.length:=List.length_pos_of_mem hx;simp only [List.length_cons];omega
def Qbch (a:Qa) (x e:Int):Option Int:=if e∈a.zB then (if 0≤Qcq a x e then some (Qcq a x e) else none) else some x
def Qt6:List Qa→List Int→Int→Option (List Int)
 | a::l,x::t,e=>match Qbch a x e with
  | some y=>(Qt6 l t e).map (y :: ·)
  | none=>none
 | _,_,_=>some []
def Q6j (e:Int):List Int→List (Qa×Int)→Option (List Int)
 | acc,[]=>some acc
 | acc,q::qs=>match Qbch q.1 q.2 e with
  | some y=>Q6j e (acc++[y]) qs
  | none=>none
theorem Qbd8 {e:Int}:∀ {l:List Qa} {t acc:List Int},Q6j e acc (l.zip t)=(Qt6 l t e).map (acc ++ ·)
 | [],t,acc=>by simp [Q6j,Qt6]
 | a::l,[],acc=>by simp [Q6j,Qt6]
 | a::l,x::t,acc=>by
  rw [List.zip_cons_cons,Q6j,Qt6];cases Qbch a x e with
  | none=>rfl
  | some y =>
   dsimp only;rw [Qbd8];cases Qt6 l t e<;>simp
theorem Q82:∀ {l:List Qa} {t:List Int} {e:Int} {r:List Int},(∀ a∈l,Right a)→InT l t→Qt6 l t e=some r→InT l r
 | [],[],e,r,_,_,h=>by simp [Qt6] at h;subst h;trivial
 | a::l,x::t,e,r,hr,hi,h=>by
  rw [Qt6] at h;cases h1:Qbch a x e with
  | none=>rw [h1] at h;cases h
  | some y =>
   rw [h1] at h;dsimp only at h;obtain ⟨r',h2,rfl⟩:=Option.map_eq_some_iff.1 h;refine ⟨?_,Q82 (fun b hb=>hr b (by simp [hb])) hi.2 h2⟩;unfold Qbch at h1;split at h1
   ·split at h1<;>cases h1;rename_i h3;have:=Qfs (hr a (by simp)) x e;omega
   ·cases h1;exact hi.1
 | [],_::_,_,_,_,h,_=>h.elim
 | _::_,[],_,_,_,h,_=>h.elim
def mkT (l:List Qa) (t:List Int):Bool:=(l.zip t).all fun q=>decide (q.2∈q.1.zC)
structure Parts (l:List Qa):Prop where
 r:∀ a∈l,Right a
 s:∀ a∈l,a.zF≤100
 n:l.length≤12
 b:(allT l).length≤4000
section
variable {l:List Qa} (h:Parts l)
include h
theorem Parts.big:l.length<Go.Abs.big:=by have:=h.n;unfold Go.Abs.big;omega
theorem Qxz:Qms l=some 0:=by
 unfold Qms Qf1;have hn:=h.n;rw [if_neg (by omega)];refine Qk2 (len:=l.length) (fun _=>some 0) (by unfold Q3;omega) (fun k n hn' hk=>?_) (fun k=>?_)
 ·rw [if_pos (by omega),Q1 hn',Option.bind_some,Q0d (h.r _ (List.getElem_mem hn')),Option.bind_some,if_neg (by simp),Qbb (by omega)];exact hk
 ·rw [if_neg (by omega)]
structure EvsU (l:List Qa) (R:List Int):Prop where
 so:R.Pairwise (· < ·)
 me:∀ x,x∈R↔∃ a∈l,x∈a.zB
theorem EvsU.rg {R:List Int} (hR:EvsU l R):∀ x∈R,0≤x∧x<32:=fun x hx=>by
 obtain ⟨a,ha,hx⟩:=(hR.me x).1 hx;exact (h.r a ha).al0 x hx
theorem Qblq:∃ R,Qgg l=some R∧EvsU l R:=by
 unfold Qgg Qfh;have hb:=h.n;obtain ⟨R,h1,h2⟩ : ∃ R,Qbx (fun k4 ((out2,x3):(List Int)×Int)=>(if (x3<(l.length:Int)) then ((getO l x3).bind fun x6=>((Qit out2 x6.zB).bind fun x9=>k4 (x9,(IntKind.wrap .i64 (x3+1))))) else some out2)) Q3 ([],0)=some R∧EvsU l R:=by
  refine Qc7 (fun x:List Int×Int=>∃ n:Nat,x.2=n∧n≤l.length∧EvsU (l.take n) x.1) (fun x=>l.length-x.2.toNat) (fun _ r=>∃ R,r=some R∧EvsU l R) ?_ Q3 ([],0) ⟨0,rfl,Nat.zero_le _,.nil,fun x=>by simp⟩ (by unfold Q3;dsimp only;omega);rintro k ⟨out,x⟩ ⟨n,hx,hn,he⟩ ih;dsimp only at hx he ih ⊢;subst hx;by_cases hlt:n<l.length
  ·have ha:=h.r _ (List.getElem_mem hlt);have hl1:out.length≤32:=Qbd5 he.so fun x hx=>by
    obtain ⟨a,ha,hx⟩:=(he.me x).1 hx;exact (h.r a (List.mem_of_mem_take ha)).al0 x hx
   have hl2:=ha.small.2.1;obtain ⟨R,k1,k2,k3⟩:=Qbjk he.so ha.al (by unfold Go.Abs.big;omega);rw [if_pos (by omega),Q1 hlt,Option.bind_some,k1,Option.bind_some,Qbb (by omega)];refine ih (R,((n+1:Nat):Int)) ⟨n+1,rfl,hlt,k2,fun x=>?_⟩ (by dsimp only;omega);rw [k3,he.me];have htk:l.take (n+1)=l.take n++[l[n]]:=List.take_succ_eq_append_getElem hlt;rw [htk];constructor
   ·rintro (⟨a,ha,hx⟩|hx)
    ·exact ⟨a,List.mem_append_left _ ha,hx⟩
    ·exact ⟨l[n],List.mem_append_right _ (List.mem_singleton_self _),hx⟩
   ·rintro ⟨a,ha,hx⟩;rcases List.mem_append.1 ha with ha|ha
    ·exact .inl ⟨a,ha,hx⟩
    ·simp only [List.mem_singleton] at ha;subst ha;exact .inr hx
  ·rw [if_neg (by omega)];have:n=l.length:=by omega
   subst this;rw [List.take_length] at he;exact ⟨out,rfl,he⟩
 rw [h1];exact ⟨R,rfl,h2⟩
theorem Qbd9 {R:List Int} (hR:Qgg l=some R):Qn3 l=some ⟨l,R,l.map edM⟩:=by
 unfold Qn3 Qgl;obtain ⟨fuel,hfu,hge⟩ : ∃ f,Q3=f∧1099511627776≤f:=⟨_,rfl,Nat.le_refl _⟩;have hn:=h.n;rw [hfu,hR,Option.bind_some];refine Option.bind_eq_some_iff.2 ⟨([],[],[],l.map edM),?_,rfl⟩;refine (Q1s (l:=l) (fun i (s:List (List ((Int×Int)×Int)))=>(i,([]:List Qa),([]:List Int),([]:List (List ((Int×Int)×Int))),s)) (fun s a=>s++[edM a]) (fun n s=>s.length≤n) (fun s=>some ([],[],[],s)) h.big hge (fun k n s hn' hs=>?_) (fun n s _ hs=>by simp only [List.length_append,List.length_cons,List.length_nil];omega) (fun k s hs=>?_) (s0:=[]) (by simp)).trans ?_
 ·dsimp only;rw [if_pos (by omega),Q1 hn',Option.bind_some];have ha:=(h.r _ (List.getElem_mem hn')).small;rw [Q1s (l:=l[n].zD) (fun i (s:List ((Int×Int)×Int))=>(i,s)) (fun c x=>setM c (x.From,x.Event) x.To) (fun _ _=>True) (fun s=>some s) ha.1.2.2 hge (fun k m s hm _=>?_) (fun _ _ _ _=>trivial) (fun k s _=>?_) (s0:=[]) trivial]
  ·rw [Option.bind_some,Qb5 (by simp only [List.length_cons,List.length_nil];unfold lim;omega),Option.bind_some,Option.bind_some]
   rfl
  ·dsimp only;rw [if_pos (by omega),Q1 hm,Option.bind_some]
  ·dsimp only;rw [if_neg (by omega)]
 ·dsimp only;rw [if_neg (by omega)]
 ·have:∀ (m:List Qa) (s:List (List ((Int×Int)×Int))),m.foldl (fun s a=>s++[edM a]) s=s++m.map edM:=fun m=>by
   induction m with
   | nil=>intro s;simp
   | cons a m ih=>intro s;rw [List.foldl_cons,ih];simp
  rw [this,List.nil_append]
variable {R:List Int} (hR:EvsU l R)
theorem Q7t:Qfv ⟨l,R,l.map edM⟩=some (if l.any (fun a=>a.zF==0) then ([],false) else (List.replicate l.length 0,true)):=by
 unfold Qfv Qcb;obtain ⟨fuel,hfu,hge⟩ : ∃ f,Q3=f∧1099511627776≤f:=⟨_,rfl,Nat.le_refl _⟩;have hn:=h.n;rw [hfu];dsimp only;have hmk:mkO ((l.length:Nat):Int) (0:Int)=some (List.replicate l.length 0):=by unfold mkO lim;rw [if_pos (by omega),Int.toNat_natCast]
 rw [Qbhn (l:=l) (fun i=>i) (fun a=>a.zF==0) (fun _=>some ([],false)) (some (List.replicate l.length 0,true)) h.big hge (fun k n hn'=>?_) (fun k=>?_)]
 ·cases hf:l.find? fun a=>a.zF==0 with
  | none =>
   have:l.any (fun a=>a.zF==0)=false:=by
    rw [List.find?_eq_none] at hf;rw [List.any_eq_false];exact hf
   rw [this];rfl
  | some x =>
   have:l.any (fun a=>a.zF==0)=true:=List.any_eq_true.2 ⟨x,List.mem_of_find?_eq_some hf,List.find?_some (p:=fun a:Qa=>a.zF==0) hf⟩;rw [this];rfl
 ·rw [if_pos (by omega),Q1 hn',Option.bind_some]
 ·rw [if_neg (by omega),hmk,Option.bind_some,Q50 (by simp),Option.bind_some]
theorem Qbhy {t:List Int} (ht:InT l t):Qga ⟨l,R,l.map edM⟩ t=some (mkT l t):=by
 unfold Qga Qcj;obtain ⟨fuel,hfu,hge⟩ : ∃ f,Q3=f∧1099511627776≤f:=⟨_,rfl,Nat.le_refl _⟩;have hn:=h.n;have hl:=ht.len;rw [hfu];dsimp only;unfold mkT;refine Qk2 (len:=l.length) (fun n=>some (((l.zip t).drop n).all fun q=>decide (q.2∈q.1.zC))) (by omega) (fun k n hn' hk=>?_) (fun k=>?_)
 ·have ha:=h.r _ (List.getElem_mem hn');rw [if_pos (by omega),Q1 hn',Option.bind_some,Q1 (show n<t.length by omega),Option.bind_some,Qlo ha.ma ha.small.1.2.1,Option.bind_some,Qbb (by omega),hk,List.drop_eq_getElem_cons (show n<(l.zip t).length by rw [List.length_zip];omega),List.all_cons,List.getElem_zip];by_cases hm:t[n]∈l[n].zC
  ·rw [decide_eq_true hm,if_pos rfl,Bool.true_and]
  ·rw [decide_eq_false hm,if_neg (by simp),Bool.false_and]
 ·rw [if_neg (by omega),List.drop_of_length_le (by rw [List.length_zip];omega)];rfl
theorem Qbjm {t:List Int} (ht:InT l t) (hne:t≠[]) (e:Int):Qg2 ⟨l,R,l.map edM⟩ t e=some (match Qt6 l t e with|some r=>(r,true)|none=>([],false)):=by
 unfold Qg2 Qcz;obtain ⟨fuel,hfu,hge⟩ : ∃ f,Q3=f∧1099511627776≤f:=⟨_,rfl,Nat.le_refl _⟩;have hn:=h.n;have hl:=ht.len;have hc:Qb4 t=some t:=by
  unfold Qb4 Qm;cases t with
  | nil=>exact absurd rfl hne
  | cons x t=>first|rfl|(show (appO [] (x::t)).bind _=_;rw [Qb5 (by simp only [List.length_nil];unfold lim;simp only [List.length_cons] at hl ⊢;omega)];simp)
 have hno:neO t=some ():=by
  cases t with
  | nil=>exact absurd rfl hne
  | cons x t=>rfl
 rw [hfu,hc,Option.bind_some,hno,Option.bind_some];dsimp only;have hS:Q6j e [] (l.zip t)=Qt6 l t e:=by rw [Qbd8];cases Qt6 l t e<;>simp
 rw [← hS];refine Q3z (fun x:Int×List Int=>∃ (n:Nat) (acc:List Int),x.1=n∧n≤l.length∧acc.length=n∧x.2=acc++t.drop n∧Q6j e acc ((l.zip t).drop n)=Q6j e [] (l.zip t)) (fun x=>l.length-x.1.toNat) _ ⟨0,[],rfl,Nat.zero_le _,rfl,by simp,by simp⟩ (by dsimp only;omega) ?_;rintro k ⟨x,nx⟩ ⟨n,acc,hx,hnl,hacc,hnx,hst⟩ ih;dsimp only at hx hnx hst ih ⊢;subst hx hnx;by_cases hlt:n<l.length
 ·have ha:=h.r _ (List.getElem_mem hlt);rw [if_pos (by omega)];unfold letJ;dsimp only;rw [Q1 hlt,Option.bind_some,Qlo ha.al ha.small.1.1,Option.bind_some,Qbb (by omega)];rw [List.drop_eq_getElem_cons (show n<(l.zip t).length by rw [List.length_zip];omega),List.getElem_zip,Q6j] at hst;have htn:t.drop n=t[n]::t.drop (n+1):=List.drop_eq_getElem_cons (by omega);unfold Qbch at hst;dsimp only at hst;by_cases hm:e∈l[n].zB
  ·rw [if_pos hm] at hst;rw [decide_eq_true hm,if_pos rfl,Q1 (show n<(l.map edM).length by simpa using hlt),Option.bind_some,Q1 (show n<t.length by omega),Option.bind_some,List.getElem_map,Qbhw ha];by_cases h0:0≤Qcq l[n] t[n] e
   ·rw [if_pos h0] at hst;dsimp only at hst;rw [decide_eq_true h0,if_pos rfl,Qbar (by omega) (by omega),Option.bind_some,Qbhx ha h0,Qblj (by omega) (by simp only [List.length_append,List.length_drop];omega),Option.bind_some];refine ih _ ⟨n+1,acc++[Qcq l[n] t[n] e],rfl,hlt,by simp [hacc],?_,hst⟩ (by dsimp only;omega);dsimp only;rw [htn,Int.toNat_natCast,List.set_append_right _ _ (by omega),hacc,Nat.sub_self,List.set_cons_zero,List.append_assoc];rfl
   ·rw [if_neg h0] at hst;dsimp only at hst;rw [decide_eq_false h0,if_neg (by simp),← hst]
  ·rw [if_neg hm] at hst;dsimp only at hst;rw [decide_eq_false hm,if_neg (by simp)];refine ih _ ⟨n+1,acc++[t[n]],rfl,hlt,by simp [hacc],?_,hst⟩ (by dsimp only;omega);dsimp only;rw [htn,List.append_assoc]
   first|done|rfl
 ·rw [if_neg (by omega)];have hnn:n=l.length:=by omega
  rw [List.drop_of_length_le (by rw [List.length_zip];omega),Q6j] at hst;rw [← hst,List.drop_of_length_le (by omega),List.append_nil,Q50 (by omega),Option.bind_some]
include hR in
theorem Parts.dom:DomT (Qt6 l) R (InT l) 4000 where
 ky:=fun t ht x hx=>by
  obtain ⟨i,hi,rfl⟩:=List.getElem_of_mem hx;have:=ht.get i (by rw [← ht.len];exact hi) hi;have:=h.s _ (List.getElem_mem (show i<l.length by rw [← ht.len];exact hi));omega
 cl:=fun t ht e _ r hr=>Q82 h.r ht hr
 bd:=fun m hm hs=>Nat.le_trans (Qbd7 hm fun x hx=>Qbd6 (hs x hx)) h.b
 nn:=Nat.le_refl _
 so:=hR.so
 rg:=hR.rg h
end
end Go.Abs
end
section
namespace Go.Abs
open Go
theorem Q56 {α β:Type} {o:Option α} {K:α→Option β} {P:α→Prop} {Q:Option β→Prop} (h:∃ v,o=some v∧P v) (hk:∀ v,P v→Q (K v)):Q (o.bind K):=by
 obtain ⟨v,rfl,hv⟩:=h;exact hk v hv
structure MrgI (a:Qa) (cl:List Int) (i:Nat) (done:List Qb) (found:List Int) (es:List Qb) (c:List (Int×Int)):Prop where
 fc:FndC a.zF.toNat cl found c
 nm:∀ (j:Nat) (f:Int),found[j]? = some f→getM c (ati cl f) 0=(j:Int)
 f0:found[0]? = some 0
 so:es.Pairwise Qiv
 e3:∀ (j:Nat) (f:Int) (x:Qb),found[j]? = some f→x∈outP a f→(j<i∨j=i∧x∈done)→∃ (k:Nat) (g:Int),found[k]? = some g∧ati cl g=ati cl x.To∧(⟨(j:Int),x.Event,(k:Int)⟩ : Qb)∈es
 e4:∀ y∈es,∃ (j:Nat) (f:Int) (x:Qb) (k:Nat) (g:Int),found[j]? = some f∧x∈outP a f∧y=⟨(j:Int),x.Event,(k:Int)⟩∧found[k]? = some g∧ati cl g=ati cl x.To∧(j<i∨j=i∧x∈done)
 ln:es.length≤32*i+done.length
theorem Qra {α:Type} {l m:List α} {j:Nat} {x:α} (h:l[j]? = some x):(l++m)[j]? = some x:=by
 rw [List.getElem?_append_left (List.getElem?_eq_some_iff.1 h).1];exact h
theorem Q83 {α:Type} {l:List α} {j:Nat} {t x:α} (h:(l++[t])[j]? = some x):l[j]? = some x∨j=l.length∧x=t:=by
 by_cases hj:j<l.length
 ·rw [List.getElem?_append_left hj] at h;exact .inl h
 ·rw [List.getElem?_append_right (by omega)] at h;have:j-l.length=0:=by
   refine Classical.byContradiction fun hne=>?_;rw [List.getElem?_eq_none (by simp;omega)] at h;cases h
  rw [this] at h;exact .inr ⟨by omega,(Option.some.inj h).symm⟩
section
variable {a:Qa} (h:Right a) {cl:List Int} (hr:∀ j:Nat,j<a.zF.toNat→0≤ati cl j∧ati cl j<a.zF.toNat)
include h
theorem Qbhz (s:Int):(outP a s).length≤32:=by
 have:=congrArg List.length (Qq8 h s);rw [List.length_map] at this;have h1:(a.zB.filter fun e=>decide (0≤Qcq a s e)).length≤a.zB.length:=List.length_filter_le _ _;have h2:=h.small.2.1;omega
theorem Qbmr (s:Int):(outP a s).Pairwise fun x y=>x.Event<y.Event:=by
 have h1:=Qq8 h s;have h2:((outP a s).map (·.Event)).Pairwise (· < ·):=by rw [h1];exact h.al.filter _
 exact List.pairwise_map.1 h2
theorem Q7u {s:Int} {x:Qb} (hx:x∈outP a s):0≤x.To∧x.To<a.zF∧x.Event∈a.zB∧x.From=s:=by
 obtain ⟨h1,h2⟩:=List.mem_filter.1 hx;have he:=h.ed0 x h1;exact ⟨he.2.2.1,he.2.2.2.1,he.2.2.2.2,by simpa using h2⟩
theorem MrgI.add {i:Nat} {done:List Qb} {found:List Int} {es:List Qb} {c:List (Int×Int)} (hI:MrgI a cl i done found es c) {f:Int} (hf:found[i]? = some f) {x:Qb} (hx:x∈outP a f) (hlt:∀ z∈done,z.Event<x.Event) :
  (hasM c (ati cl x.To)=true→MrgI a cl i (done++[x]) found (es++[⟨(i:Int),x.Event,getM c (ati cl x.To) 0⟩]) c) ∧
  (hasM c (ati cl x.To)=false→MrgI a cl i (done++[x]) (found++[x.To]) (es++[⟨(i:Int),x.Event,(found.length:Int)⟩]) (setM c (ati cl x.To) (found.length:Int))):=by
 have hto:=Q7u h hx;have hso:∀ k:Int,(es++[(⟨(i:Int),x.Event,k⟩ : Qb)]).Pairwise Qiv:=fun k=>by
  refine List.pairwise_append.2 ⟨hI.so,List.pairwise_singleton _ _,fun y hy z hz=>?_⟩;simp only [List.mem_singleton] at hz;subst hz;obtain ⟨j,f',x',k',g,q1,q2,q3,q4,q5,q6⟩:=hI.e4 y hy;subst q3;unfold Qiv;dsimp only;rcases q6 with q6|⟨q6,q7⟩
  ·exact .inl (by omega)
  ·exact .inr ⟨by omega,hlt x' q7⟩
 have hln:(es++[(⟨(i:Int),x.Event,(0:Int)⟩ : Qb)]).length≤32*i+(done++[x]).length:=by have:=hI.ln;simp;omega
 constructor
 ·intro hh;obtain ⟨g,hg,eg⟩:=(hI.fc.has _).1 hh;obtain ⟨k,hk,ek⟩:=List.getElem_of_mem hg;have hk' : found[k]? = some g:=by rw [List.getElem?_eq_getElem hk,ek]
  have hkn:=hI.nm k g hk';rw [eg] at hkn;rw [hkn];refine ⟨hI.fc,hI.nm,hI.f0,hso _,fun j f' x' q1 q2 q3=>?_,fun y hy=>?_,by simpa using hln⟩
  ·by_cases q4:j<i∨j=i∧x' ∈ done
   ·obtain ⟨k',g',p1,p2,p3⟩:=hI.e3 j f' x' q1 q2 q4;exact ⟨k',g',p1,p2,List.mem_append_left _ p3⟩
   ·have q5:j=i∧x'=x:=by
     rcases q3 with q3|⟨q3,q5⟩
     ·exact absurd (.inl q3) q4
     ·rcases List.mem_append.1 q5 with q5|q5
      ·exact absurd (.inr ⟨q3,q5⟩) q4
      ·simp at q5;exact ⟨q3,q5⟩
    obtain ⟨rfl,rfl⟩:=q5;exact ⟨k,g,hk',eg,by simp⟩
  ·rcases List.mem_append.1 hy with hy|hy
   ·obtain ⟨j,f',x',k',g',q1,q2,q3,q4,q5,q6⟩:=hI.e4 y hy;exact ⟨j,f',x',k',g',q1,q2,q3,q4,q5,by rcases q6 with q6|⟨q6,q7⟩;exact .inl q6;exact .inr ⟨q6,List.mem_append_left _ q7⟩⟩
   ·simp only [List.mem_singleton] at hy;exact ⟨i,f,x,k,g,hf,hx,hy,hk',eg,.inr ⟨rfl,by simp⟩⟩
 ·intro hh;have hne:∀ (j:Nat) (f' : Int),found[j]? = some f'→ati cl f' ≠ ati cl x.To:=fun j f' q e=>by
   have:=(hI.fc.has (ati cl x.To)).2 ⟨f',List.mem_of_getElem? q,e⟩;rw [hh] at this;cases this
  have hnew:(found++[x.To])[found.length]? = some x.To:=by simp
  refine ⟨hI.fc.add ⟨hto.1,by have:=h.st;omega⟩ hh _,fun j f' q=>?_,Qra hI.f0,hso _,fun j f' x' q1 q2 q3=>?_,fun y hy=>?_,by simpa using hln⟩
  ·rw [Q55];rcases Q83 q with q|⟨q1,q2⟩
   ·rw [if_neg (hne j f' q)];exact hI.nm j f' q
   ·subst q1 q2;rw [if_pos rfl]
  ·have hi:i<found.length:=(List.getElem?_eq_some_iff.1 hf).1;have q1' : found[j]? = some f':=by
    rcases Q83 q1 with q|⟨p1,p2⟩
    ·exact q
    ·exfalso;rcases q3 with q3|⟨q3,_⟩<;>omega
   by_cases q4:j<i∨j=i∧x' ∈ done
   ·obtain ⟨k',g',p1,p2,p3⟩:=hI.e3 j f' x' q1' q2 q4;exact ⟨k',g',Qra p1,p2,List.mem_append_left _ p3⟩
   ·have q5:j=i∧x'=x:=by
     rcases q3 with q3|⟨q3,q5⟩
     ·exact absurd (.inl q3) q4
     ·rcases List.mem_append.1 q5 with q5|q5
      ·exact absurd (.inr ⟨q3,q5⟩) q4
      ·simp at q5;exact ⟨q3,q5⟩
    obtain ⟨rfl,rfl⟩:=q5;exact ⟨found.length,x'.To,hnew,rfl,by simp⟩
  ·rcases List.mem_append.1 hy with hy|hy
   ·obtain ⟨j,f',x',k',g',q1,q2,q3,q4,q5,q6⟩:=hI.e4 y hy;exact ⟨j,f',x',k',g',Qra q1,q2,q3,Qra q4,q5,by rcases q6 with q6|⟨q6,q7⟩;exact .inl q6;exact .inr ⟨q6,List.mem_append_left _ q7⟩⟩
   ·simp only [List.mem_singleton] at hy;exact ⟨i,f,x,found.length,x.To,Qra hf,hx,hy,hnew,rfl,.inr ⟨rfl,by simp⟩⟩
theorem MrgI.next {i:Nat} {found:List Int} {es:List Qb} {c:List (Int×Int)} {f:Int} (hf:found[i]? = some f) (hI:MrgI a cl i (outP a f) found es c):MrgI a cl (i+1) [] found es c:=by
 refine ⟨hI.fc,hI.nm,hI.f0,hI.so,fun j f' x q1 q2 q3=>?_,fun y hy=>?_,by have:=hI.ln;have:=Qbhz h f;simp;omega⟩
 ·refine hI.e3 j f' x q1 q2 ?_;rcases q3 with q3|⟨_,q3⟩
  ·by_cases e:j=i
   ·subst e;rw [hf] at q1;cases q1;exact .inr ⟨rfl,q2⟩
   ·exact .inl (by omega)
  ·cases q3
 ·obtain ⟨j,f',x,k,g,q1,q2,q3,q4,q5,q6⟩:=hI.e4 y hy;exact ⟨j,f',x,k,g,q1,q2,q3,q4,q5,.inl (by rcases q6 with q6|⟨q6,_⟩<;>omega)⟩
end
structure Along (m a:Qa) (R:Int→Int→Prop):Prop where
 z:0<a.zF→R 0 0
 st:∀ k s,R k s→0≤k∧k<m.zF∧0≤s∧s<a.zF
 stp:∀ k s,R k s→∀ e,(Qcq m k e = -1∧Qcq a s e = -1)∨R (Qcq m k e) (Qcq a s e)
structure MksM (i:Nat) (ms:List Int):Prop where
 rg:∀ x∈ms,0≤x∧x<i
 so:ms.Pairwise (· < ·)
theorem MksM.len {i:Nat} {ms:List Int} (h:MksM i ms):ms.length≤i:=by
 have hn:ms.Nodup:=h.so.imp fun q=>by omega
 have:=Q33 hn (m:=(List.range i).map fun j:Nat=>(j:Int)) fun v hv=>List.mem_map.2 ⟨v.toNat,List.mem_range.2 (by have:=h.rg v hv;omega),by have:=h.rg v hv;omega⟩;simpa using this
theorem MksM.add {i:Nat} {ms:List Int} (h:MksM i ms):MksM (i+1) (ms++[(i:Int)]):=by
 refine ⟨fun x hx=>?_,List.pairwise_append.2 ⟨h.so,List.pairwise_singleton _ _,fun x hx y hy=>?_⟩⟩
 ·rcases List.mem_append.1 hx with hx|hx
  ·have:=h.rg x hx;omega
  ·simp at hx;omega
 ·simp at hy;have:=h.rg x hx;omega
theorem MksM.up {i:Nat} {ms:List Int} (h:MksM i ms):MksM (i+1) ms:=⟨fun x hx=>by have:=h.rg x hx;omega,h.so⟩
theorem Qbh0 {a:Qa} (h:Right a) {cl:List Int} (hcl:cl.length=a.zF.toNat) (hr:∀ j:Nat,j<a.zF.toNat→0≤ati cl j∧ati cl j<a.zF.toNat) (hc:Cons a cl) :
  ∃ m R,Qmu a cl=some m∧Right m∧m.zB=a.zB∧(m.zF=0↔a.zF=0)∧m.zF≤a.zF∧Along m a R:=by
 unfold Qmu Qf4;have hst:=h.st;have hsm:=h.small;rw [Q8y (by have:=hsm.2.1;unfold lim;omega),Option.bind_some];by_cases h0:a.zF=0
 ·rw [if_pos (by simp [h0])];exact ⟨_,fun _ _=>False,rfl,⟨h.al0,h.al,⟨by simp,by simp⟩,by simp,.nil,by simp,.nil⟩,rfl,by simp [h0],by simp [h0],⟨fun hq=>by omega,fun _ _ hq=>hq.elim,fun _ _ hq=>hq.elim⟩⟩
 rw [if_neg (by simpa using h0)];obtain ⟨b,hb,hbl⟩:=Qbd1 h;rw [Qba0 h,Option.bind_some,hb,Option.bind_some];have hpos:0<a.zF.toNat:=by omega
 have hc0:getO cl 0=some (ati cl 0):=by
  rw [show (0:Int)=((0:Nat):Int) from rfl,Q1 (by omega:0<cl.length)];simp [ati,at0,List.getD_eq_getElem?_getD,show 0<cl.length from by omega]
 rw [hc0,Option.bind_some];obtain ⟨fuel,hfu,hge⟩ : ∃ f,Q3=f∧1099511627776≤f:=⟨_,rfl,Nat.le_refl _⟩;rw [hfu];have hI0:MrgI a cl 0 [] [0] [] (setM ([]:List (Int×Int)) (ati cl 0) 0):=by
  refine ⟨⟨fun f hf=>by simp at hf;subst hf;omega,by simp,fun v=>?_⟩,fun j f hj=>?_,rfl,.nil,fun j f x _ _ q=>?_,fun y hy=>by simp at hy,by simp⟩
  ·simp only [setM,hasM,List.any_cons,List.any_nil,Bool.or_false,beq_iff_eq];constructor
   ·intro e;exact ⟨0,by simp,e.symm⟩
   ·rintro ⟨f,hf,e⟩;simp at hf;subst hf;exact e.symm
  ·have:j=0∧f=0:=by
    cases j with
    | zero=>simp at hj;exact ⟨rfl,hj.symm⟩
    | succ j=>simp at hj
   obtain ⟨rfl,rfl⟩:=this;simp [setM,getM]
  ·rcases q with q|⟨_,q⟩
   ·omega
   ·cases q
 have hEl:((upto a.zF).map (outP a)).length=a.zF.toNat:=by simp [Q1r]
 have hrow:∀ f:Int,0≤f→f<a.zF.toNat→getO ((upto a.zF).map (outP a)) f=some (outP a f):=fun f f0 f1=>by
  obtain ⟨n,rfl⟩ : ∃ n:Nat,f=(n:Int):=⟨f.toNat,by omega⟩;rw [Q1 (by omega)];simp only [List.getElem_map,Q32]
 have hcv:∀ x:Int,0≤x→x<a.zF→getO cl x=some (ati cl x):=fun x x0 x1=>Qbli x0 (by omega);refine Q56 (P:=fun r=>∃ (found ms:List Int) (es:List Qb) (c:List (Int×Int)),r=(found,[],[],[],ms,es,c)∧MrgI a cl found.length [] found es c∧MksM found.length ms) (Q:=fun r=>∃ m R,r=some m∧Right m∧m.zB=a.zB∧(m.zF=0↔a.zF=0)∧m.zF≤a.zF∧Along m a R) ?_ ?_
 ·refine Qc7 (fun x:List Int×Int×List Int×List Int×List Qb×List Int×List Qb×List (Int×Int)=>∃ (i:Nat) (found ms:List Int) (es:List Qb) (c:List (Int×Int)),x=(found,(i:Int),[],[],[],ms,es,c)∧i≤found.length∧MrgI a cl i [] found es c∧MksM i ms) (fun x=>a.zF.toNat-x.2.1.toNat) (fun _ r=>∃ v,r=some v∧∃ (found ms:List Int) (es:List Qb) (c:List (Int×Int)),v=(found,[],[],[],ms,es,c)∧MrgI a cl found.length [] found es c∧MksM found.length ms) (fun k x hx ih=>?_) fuel _ ⟨0,[0],[],[],_,rfl,by simp,hI0,⟨by simp,.nil⟩⟩ (by dsimp only;omega);obtain ⟨i,found,ms,es,c,rfl,hi,hI,hM⟩:=hx;dsimp only;have hfl:=hI.fc.len hr;by_cases hlt:i<found.length
  ·have hf:found[i]? = some found[i]:=List.getElem?_eq_getElem hlt;have hfr:=hI.fc.rg _ (List.getElem_mem hlt);have hgo:getO found (i:Int)=some found[i]:=Q1 hlt;generalize found[i]=f at hf hfr hgo;have hbf:∃ v,getO b f=some v:=by
    obtain ⟨n,rfl⟩ : ∃ n:Nat,f=(n:Int):=⟨f.toNat,by omega⟩;exact ⟨_,Q1 (by omega)⟩
   obtain ⟨v,hv⟩:=hbf;rw [if_pos (by omega),hgo,Option.bind_some,hv,Option.bind_some];have hms:=hM.len;have hmk:∃ ms',(if v=true then (appO ms [(i:Int)]).bind fun x27=>some x27 else some ms)=some ms'∧MksM (i+1) ms':=by
    cases v with
    | true=>exact ⟨_,by rw [if_pos rfl,Qb5 (by simp only [List.length_cons,List.length_nil];unfold lim;omega),Option.bind_some],hM.add⟩
    | false=>exact ⟨ms,rfl,hM.up⟩
   obtain ⟨ms',hm1,hm2⟩:=hmk;rw [hm1,Option.bind_some,Option.bind_some,hrow f hfr.1 hfr.2,Option.bind_some];have hol:=Qbhz h f;refine Q56 (P:=fun r=>∃ (found' : List Int) (es' : List Qb) (c' : List (Int×Int)),r=(found',ms',es',c')∧MrgI a cl i (outP a f) found' es' c'∧found'[i]? = some f) (Q:=fun r=>∃ v,r=some v∧∃ (found ms:List Int) (es:List Qb) (c:List (Int×Int)),v=(found,[],[],[],ms,es,c)∧MrgI a cl found.length [] found es c∧MksM found.length ms) ?_ ?_
   ·refine Qc7 (fun x:List Int×Int×List Qb×List (Int×Int)=>∃ (j:Nat) (found' : List Int) (es' : List Qb) (c' : List (Int×Int)),x=(found',(j:Int),es',c')∧j≤(outP a f).length∧MrgI a cl i ((outP a f).take j) found' es' c'∧found'[i]? = some f) (fun x=>(outP a f).length-x.2.1.toNat) (fun _ r=>∃ v,r=some v∧∃ (found' : List Int) (es' : List Qb) (c' : List (Int×Int)),v=(found',ms',es',c')∧MrgI a cl i (outP a f) found' es' c'∧found'[i]? = some f) (fun k2 x hx ih2=>?_) fuel _ ⟨0,found,es,c,rfl,by omega,by simpa using hI,hf⟩ (by dsimp only;omega);obtain ⟨j,fd,ed,cd,rfl,hj,hJ,hfd⟩:=hx;dsimp only;by_cases hjl:j<(outP a f).length
    ·have hx:=List.getElem_mem hjl;have hto:=Q7u h hx;have hord:∀ z∈(outP a f).take j,z.Event<((outP a f)[j]).Event:=fun z hz=>by
      obtain ⟨n,hn,rfl⟩:=List.getElem_of_mem hz;rw [List.length_take] at hn;rw [List.getElem_take];exact List.pairwise_iff_getElem.1 (Qbmr h f) n j (by omega) hjl (by omega)
     have hadd:=hJ.add h hfd hx hord;have htk:(outP a f).take (j+1)=(outP a f).take j++[(outP a f)[j]]:=List.take_succ_eq_append_getElem hjl;have hfdl:=hJ.fc.len hr;have hel0:((outP a f).take j).length≤32:=by rw [List.length_take];omega
     have hel:ed.length≤200000:=by have:=hJ.ln;omega
     have hge' : getO (outP a f) (j:Int)=some (outP a f)[j]:=Q1 hjl;rw [← htk] at hadd;generalize (outP a f)[j]=x at hx hto hadd hge';rw [if_pos (by omega),hge',Option.bind_some,hcv x.To hto.1 hto.2.1,Option.bind_some];cases hh:hasM cd (ati cl x.To) with
     | true =>
      rw [if_pos rfl,Option.bind_some,Qb5 (by simp only [List.length_cons,List.length_nil];unfold lim;omega),Option.bind_some,Qbb (by omega)];exact ih2 _ ⟨j+1,_,_,_,rfl,by omega,hadd.1 hh,hfd⟩ (by dsimp only;omega)
     | false =>
      rw [if_neg (by simp),Option.bind_some,Qb5 (by simp only [List.length_cons,List.length_nil];unfold lim;omega),Option.bind_some,Option.bind_some,Qb5 (by simp only [List.length_cons,List.length_nil];unfold lim;omega),Option.bind_some,Qbb (by omega)];exact ih2 _ ⟨j+1,_,_,_,rfl,by omega,hadd.2 hh,Qra hfd⟩ (by dsimp only;omega)
    ·rw [if_neg (by omega)];have:j=(outP a f).length:=by omega
     subst this;rw [List.take_length] at hJ;exact ⟨_,rfl,fd,ed,cd,rfl,hJ,hfd⟩
   ·rintro _ ⟨found',es',c',rfl,hI',hf'⟩;dsimp only;rw [Qbb (by omega)];exact ih _ ⟨i+1,found',ms',es',c',rfl,by have:=(List.getElem?_eq_some_iff.1 hf').1;omega,hI'.next h hf',hm2⟩ (by dsimp only;omega)
  ·rw [if_neg (by omega)];have:i=found.length:=by omega
   subst this;exact ⟨_,rfl,found,ms,es,c,rfl,hI,hM⟩
 ·rintro _ ⟨found,ms,es,c,rfl,hI,hM⟩;have hfl:=hI.fc.len hr;have hpl:0<found.length:=(List.getElem?_eq_some_iff.1 hI.f0).1;have hR:Right ⟨a.zB,(found.length:Int),ms,es⟩:=by
   refine ⟨h.al0,h.al,⟨by dsimp only;omega,by dsimp only;omega⟩,fun x hx=>?_,hM.so,fun y hy=>?_,hI.so⟩
   ·have:=hM.rg x hx;dsimp only;omega
   ·obtain ⟨j,f,x,k,g,q1,q2,rfl,q4,q5,q6⟩:=hI.e4 y hy;have p1:=(List.getElem?_eq_some_iff.1 q1).1;have p2:=(List.getElem?_eq_some_iff.1 q4).1;have p3:=Q7u h q2;exact ⟨by dsimp only;omega,by dsimp only;omega,by dsimp only;omega,by dsimp only;omega,p3.2.2.1⟩
  refine ⟨_,fun k s=>∃ (n:Nat) (f:Int),k=(n:Int)∧found[n]? = some f∧0≤s∧s<a.zF∧ati cl s=ati cl f,rfl,hR,rfl,?_,?_,?_,?_,?_⟩
  ·dsimp only;omega
  ·dsimp only;omega
  ·intro hq;exact ⟨0,0,rfl,hI.f0,Int.le_refl _,hq,rfl⟩
  ·rintro k s ⟨n,f,rfl,q1,q2,q3,q4⟩;have p1:=(List.getElem?_eq_some_iff.1 q1).1;exact ⟨by omega,by dsimp only;omega,q2,q3⟩
  ·rintro k s ⟨n,f,rfl,q1,q2,q3,q4⟩ e;have hfr:=hI.fc.rg f (List.mem_of_getElem? q1);have hcs:=hc s.toNat f.toNat (by omega) (by omega) (by rw [show ((s.toNat:Nat):Int)=s from by omega,show ((f.toNat:Nat):Int)=f from by omega];exact q4);rw [show ((s.toNat:Nat):Int)=s from by omega,show ((f.toNat:Nat):Int)=f from by omega] at hcs;rcases Qfs h s e with hs|hs
   ·refine .inl ⟨?_,hs⟩;rcases Qfs hR (n:Int) e with ht|ht
    ·exact ht
    ·exfalso;obtain ⟨y,hy,hye⟩:=(Qol hR).1 ht.1;have hyf:=Q7u hR hy;obtain ⟨j,f',x,k',g,p1,p2,rfl,p4,p5,p6⟩:=hI.e4 y (List.mem_filter.1 hy).1;have hjn:j=n:=by have:=hyf.2.2.2;dsimp only at this;omega
     subst hjn;rw [q1] at p1;cases p1;have:edC cl x∈(outP a s).map (edC cl):=by rw [hcs];exact List.mem_map.2 ⟨x,p2,rfl⟩
     obtain ⟨z,hz,hze⟩:=List.mem_map.1 this;have hz2:z.Event=x.Event:=congrArg Prod.fst hze;have:=(Qol h (s:=s) (e:=e)).2 ⟨z,hz,by rw [hz2];exact hye⟩;omega
   ·obtain ⟨x,hx,hxe⟩:=(Qol h).1 hs.1;have hxs:=Qxt h hx;rw [hxe] at hxs;have:edC cl x∈(outP a f).map (edC cl):=by rw [← hcs];exact List.mem_map.2 ⟨x,hx,rfl⟩
    obtain ⟨z,hz,hze⟩:=List.mem_map.1 this;have hz2:z.Event=x.Event:=congrArg Prod.fst hze;have hz3:ati cl z.To=ati cl x.To:=congrArg Prod.snd hze;obtain ⟨k',g,p1,p2,p3⟩:=hI.e3 n f z q1 hz (.inl ((List.getElem?_eq_some_iff.1 q1).1));have hst2:=Qxt hR (s:=(n:Int)) (x:=⟨(n:Int),z.Event,(k' : Int)⟩) (List.mem_filter.2 ⟨p3,by simp⟩);dsimp only at hst2;rw [hz2,hxe] at hst2;right;rw [hst2,hxs];have hto:=Q7u h hx;exact ⟨k',g,rfl,p1,hto.1,hto.2.1,by rw [p2,hz3]⟩
theorem Qbci {a:Qa} (h:Right a):∃ m R,Qdb a=some (m,0)∧Right m∧m.zB=a.zB∧(m.zF=0↔a.zF=0)∧m.zF≤a.zF∧Along m a R:=by
 obtain ⟨cl,e1,e2,e3,e4⟩:=Qba1 h;obtain ⟨m,R,q1,q2⟩:=Qbh0 h e2 e3 e4;refine ⟨m,R,?_,q2⟩;unfold Qdb Qbd;rw [Q0d h,Option.bind_some,if_neg (by simp),e1,Option.bind_some,q1,Option.bind_some]
end Go.Abs
end
section
namespace Go.Abs
open Go
theorem Qbcj {l:List Qa} (h:Parts l) {t:List Int} (ht:InT l t):keyI t=some (keyB t)∧Q8z t:=by
 have hk:Q8z t:=fun x hx=>by
  obtain ⟨i,hi,rfl⟩:=List.getElem_of_mem hx;have:=ht.get i (by rw [← ht.len];exact hi) hi;have:=h.s _ (List.getElem_mem (show i<l.length by rw [← ht.len];exact hi));omega
 have hn:=h.n;have hl:=ht.len;refine ⟨?_,hk⟩;unfold keyI;rw [if_pos ⟨by unfold lim;omega,hk⟩]
theorem InT.zero:∀ {l:List Qa},(∀ a∈l,Right a)→l.any (fun a=>a.zF==0)=false→InT l (List.replicate l.length 0)
 | [],_,_=>trivial
 | a::l,hr,h=>by
  simp only [List.any_cons,Bool.or_eq_false_iff,beq_eq_false_iff_ne] at h;have:=(hr a (by simp)).st;exact ⟨⟨Int.le_refl _,by omega⟩,InT.zero (fun b hb=>hr b (by simp [hb])) h.2⟩
def bld0 (l:List Qa) (R:List Int):List (List Int)×List Int×List Qb :=
 bldM (Qt6 l) (mkT l) R 4001 0 [] ([List.replicate l.length 0],[],setM ([]:List (ByteArray×Int)) (keyB (List.replicate l.length 0)) 0)
section
variable {l:List Qa} (h:Parts l) {R:List Int} (hR:EvsU l R)
include h
theorem Q57 (h0:l.any (fun a=>a.zF==0)=false):FndT R (InT l) 0 ([List.replicate l.length 0],[],setM ([]:List (ByteArray×Int)) (keyB (List.replicate l.length 0)) 0):=by
 have hz:=InT.zero h.r h0;refine ⟨by simp,fun x hx=>?_,?_,.nil,fun x hx=>by simp at hx⟩
 ·simp only [List.mem_singleton] at hx;subst hx;exact hz
 ·have h1:MapK ([]:List (ByteArray×Int)) []:=fun r _=>⟨by simp [hasM],fun h=>by simp at h⟩;exact h1.ins (by simp) (Qbcj h hz).2
include hR
theorem Qbe3 (h0:l.any (fun a=>a.zF==0)=false):Right ⟨R,((bld0 l R).1.length:Int),(bld0 l R).2.1,(bld0 l R).2.2⟩∧(∀ x∈(bld0 l R).1,InT l x)∧(bld0 l R).1.length≤4000∧[List.replicate l.length 0] <+: (bld0 l R).1 :=
 Q7s (h.dom hR) (mkT l) (Q57 h h0) ⟨fun x hx=>by simp at hx,.nil⟩ (by simp) (by omega)
theorem Qbh1 (hne:l≠[]) (h0:l.any (fun a=>a.zF==0)=false) (hE:Qgg l=some R):Qba l=some (⟨R,((bld0 l R).1.length:Int),(bld0 l R).2.1,(bld0 l R).2.2⟩,(bld0 l R).1,0):=by
 unfold Qba Qw;obtain ⟨fuel,hfu,hge⟩ : ∃ f,Q3=f∧1099511627776≤f:=⟨_,rfl,Nat.le_refl _⟩;have hz:=InT.zero h.r h0;have hd:=h.dom hR;have hRl:=Qbd5 hR.so (hR.rg h);rw [hfu,Qxz h,Option.bind_some,if_neg (by simp),Qbd9 h hE,Option.bind_some,Q7t h,h0,if_neg (by simp),Option.bind_some];dsimp only;rw [if_pos rfl,(Qbcj h hz).1,Option.bind_some];have hlen:=hz.len;refine Q3z (fun x:List (List Int)×Int×List Int×List Qb×List (ByteArray×Int)=>∃ i:Nat,x.2.1=i∧i≤x.1.length∧FndT R (InT l) i (x.1,x.2.2.2.1,x.2.2.2.2)∧x.2.2.1.length≤i∧x.2.2.2.1.length≤32*i ∧
  bldM (Qt6 l) (mkT l) R (4001-i) i x.2.2.1 (x.1,x.2.2.2.1,x.2.2.2.2)=bld0 l R) (fun x=>4001-x.2.1.toNat) _ ⟨0,rfl,by simp,Q57 h h0,by simp,by simp,rfl⟩ (by dsimp only;omega) ?_
 rintro k ⟨st,x,ms,es,c⟩ ⟨i,hx,hi,hf,hms,hes,hB⟩ ih;dsimp only at hx hi hf hms hes hB ih ⊢;subst hx;have hN:st.length≤4000:=hf.len hd;by_cases hlt:i<st.length
 ·have hs:InT l st[i]:=hf.su _ (List.getElem_mem hlt);have hg:st[i]? = some st[i]:=List.getElem?_eq_getElem hlt;generalize hsd:st[i]=s at hs hg;rw [if_pos (by omega),Q1 hlt,Option.bind_some,hsd,Qbhy h hs,Option.bind_some];obtain ⟨f,hfi⟩ : ∃ f,4001-i=f+1:=⟨4000-i,by omega⟩;rw [hfi,bldM] at hB;dsimp only at hB;rw [hg] at hB;dsimp only at hB;have hm2:(if mkT l s=true then (appO ms [(i:Int)]).bind fun x25=>some x25 else some ms)=some (if mkT l s then ms++[(i:Int)] else ms):=by
   cases mkT l s with
   | true=>rw [if_pos rfl,if_pos rfl,Qb5 (by simp only [List.length_cons,List.length_nil];unfold lim;omega),Option.bind_some]
   | false=>rfl
  rw [hm2,Option.bind_some];obtain ⟨r1,r2,r3⟩:=hf.row hd (i:=i) hs;have hml:(if mkT l s=true then ms++[(i:Int)] else ms).length≤i+1:=by
   split
   ·simp only [List.length_append,List.length_cons,List.length_nil];omega
   ·omega
  generalize (if mkT l s=true then ms++[(i:Int)] else ms)=ms' at hB hml;have hsne:s≠[]:=by
   intro e;have:=hs.len;rw [e] at this;exact hne (List.eq_nil_of_length_eq_zero this.symm)
  have hRw:∀ (n:Nat) (p:TS),n≤R.length→RowT R (InT l) i (R.take n) (st,es,c) p→p.1.length≤4000:=fun n p _ hp=>Nat.le_trans (hd.bd _ hp.nd hp.su) (Nat.le_refl _);refine (Q1s (l:=R) (fun j (p:TS)=>(p.1,j,p.2.1,p.2.2)) (rowM (Qt6 l) i s) (fun n p=>n≤R.length∧RowT R (InT l) i (R.take n) (st,es,c) p) (fun p=>k (p.1,(IntKind.wrap .i64 ((i:Int)+1)),ms',p.2.1,p.2.2)) (by unfold big;omega) hge (fun k2 n p hn hp=>?_) (fun n p hn hp=>?_) (fun k2 p hp=>?_) (s0:=(st,es,c)) ⟨Nat.zero_le _,hf.nd,hf.su,hf.mp,List.prefix_refl _,hf.ed,fun x hx=>by
   obtain ⟨a1,a2,a3,a4,a5⟩:=hf.er x hx;exact ⟨a1,by omega,a3,a4,a5,fun hq=>by omega⟩,by simp⟩).trans ?_
  ·obtain ⟨hp0,hp⟩:=hp;have hpl:=hRw n p hp0 hp;have hpe:=hp.ln;have htl:(R.take n).length≤32:=by rw [List.length_take];omega
   dsimp only at hpe;dsimp only;rw [if_pos (by omega)];unfold letJ;dsimp only;have hgs:getO p.1 (i:Int)=some s:=by
    have:=Ql2 hp.pre hg;rw [Q1 (List.getElem?_eq_some_iff.1 this).1];exact (List.getElem?_eq_getElem _).symm.trans this
   rw [Q1 hn,Option.bind_some,hgs,Option.bind_some,Qbjm h hs hsne,Option.bind_some];unfold rowM;cases hst:Qt6 l s R[n] with
   | none=>rfl
   | some t =>
    have ht:=Q82 h.r hs hst;obtain ⟨hk1,hk2⟩:=Qbcj h ht;obtain ⟨hm1,hm2⟩:=hp.mp t hk2;dsimp only;rw [if_pos rfl,hk1,Option.bind_some,hm1];by_cases hmem:t∈p.1
    ·rw [decide_eq_true hmem,if_pos rfl,if_pos hmem,hm2 hmem,Qb5 (by simp only [List.length_cons,List.length_nil];unfold lim;omega),Option.bind_some]
    ·rw [decide_eq_false hmem,if_neg (by simp),if_neg hmem,if_neg (by simp only [beq_iff_eq];omega),Option.bind_some,Qb5 (by simp only [List.length_cons,List.length_nil];unfold lim;omega),Option.bind_some,Qb5 (by simp only [List.length_cons,List.length_nil];unfold lim;omega),Option.bind_some]
  ·obtain ⟨hp0,hp⟩:=hp;refine ⟨hn,?_⟩;have htk:R.take (n+1)=R.take n++[R[n]]:=List.take_succ_eq_append_getElem hn;rw [htk];refine hp.step hd hs (List.getElem_mem hn) fun x hx=>?_;have hso:=hR.so;obtain ⟨j,hj,rfl⟩:=List.getElem_of_mem hx;rw [List.length_take] at hj;rw [List.getElem_take];exact List.pairwise_iff_getElem.1 hso j n (by omega) hn (by omega)
  ·dsimp only;rw [if_neg (by omega)]
  ·rw [Qbb (by omega)];have hle:=r2.length_le;dsimp only at hle r3;refine ih _ ⟨i+1,rfl,by dsimp only;omega,r1,hml,?_,?_⟩ (by dsimp only;omega)
   ·dsimp only;omega
   ·dsimp only;rw [show 4001-(i+1)=f from by omega];exact hB
 ·rw [if_neg (by omega)];have hg:st[i]? = none:=List.getElem?_eq_none (by omega);obtain ⟨f,hfi⟩ : ∃ f,4001-i=f+1:=⟨4000-i,by omega⟩;rw [hfi,bldM] at hB;dsimp only at hB;rw [hg] at hB;dsimp only at hB;rw [← hB]
omit hR in
theorem Qbh2 (h0:l.any (fun a=>a.zF==0)=true) (hE:Qgg l=some R):Qba l=some (⟨R,0,[],[]⟩,[],0):=by
 unfold Qba Qw;rw [Qxz h,Option.bind_some,if_neg (by simp),Qbd9 h hE,Option.bind_some,Q7t h,h0,if_pos rfl,Option.bind_some]
 rfl
end
structure Prd (l:List Qa) (A:Qa) (T:List (List Int)):Prop where
 r:Right A
 st:A.zF=T.length
 t:∀ x∈T,InT l x
 n:T.length≤4000
 ev:EvsU l A.zB
end Go.Abs
end
section
namespace Go.Abs
open Go
def runP (a:Qa):Int→Nat→List Int→Int×Int
 | s,n,[]=>(s,n)
 | s,n,e::w=>if 0≤Qcq a s e then runP a (Qcq a s e) (n+1) w else (s,n)
section
variable {a:Qa} (h:Right a)
include h
theorem Qbh3 {s:Int} {w:List Int} (hw:w.length<big):Qio a s w=some (runP a s 0 w):=by
 have hs:=h.small.1;have hb:w.length<1000000000000:=hw;unfold Qio Qd3;obtain ⟨fuel,hfu,hge⟩ : ∃ f,Q3=f∧1099511627776≤f:=⟨_,rfl,Nat.le_refl _⟩;rw [hfu];refine (Qiu (len:=w.length) (fun n (s:Int)=>(s,(n:Int))) (fun n s=>True) (fun n s=>some (runP a s n (w.drop n))) ?_ ?_ fuel 0 s (Nat.zero_le _) (by omega) trivial).trans (by simp)
 ·intro k n s hn _ ih;dsimp only;rw [if_pos (by omega),Q1 hn];simp only [Option.bind_some];rw [Q2u hs];simp only [Option.bind_some];rw [List.drop_eq_getElem_cons hn,runP];by_cases hr:0≤Qcq a s w[n]
  ·rw [if_neg (by omega),if_pos hr,Qbb (by omega)];exact ih _ trivial
  ·rw [if_pos (by omega),if_neg hr]
 ·intro k s _;dsimp only;rw [if_neg (by omega)];simp [runP]
def genP (a:Qa) (w:List Int):Bool:=decide (0<a.zF)&&(runP a 0 0 w).2==(w.length:Int)
theorem Qmz {w:List Int} (hw:w.length<big):Qfw a w=some (genP a w):=by
 have hst:=h.st;unfold Qfw Qbm;rw [Qbh3 h hw];unfold genP;by_cases h0:a.zF>0
 ·have hp:0<a.zF:=h0;simp [hp]
 ·have hp:¬ 0<a.zF:=h0;simp [hp]
end
end Go.Abs
end
section
namespace Go.Abs
open Go
section
variable {a b:Qa} {φ:Int→Int} (ha:Right a) (hb:Right b) (h:Like a b φ)
include ha hb h
theorem Qba8:∀ (w:List Int) (s:Int) (n:Nat),s∈Qem a→runP b (φ s) n w=(φ (runP a s n w).1,(runP a s n w).2)∧(runP a s n w).1∈Qem a
 | [],s,n,hs=>⟨rfl,hs⟩
 | e::w,s,n,hs=>by
  simp only [runP];rw [Qbe0 ha h hs];by_cases h0:0≤Qcq a s e
  ·have hm:=Qbe1 ha hs h0;have hr:=(Qbce ha hb h _ hm).1;rw [if_pos h0,if_pos h0,if_pos hr];exact Qba8 w _ (n+1) hm
  ·rw [if_neg h0,if_neg h0,if_neg (by omega)];exact ⟨rfl,hs⟩
theorem Qbe4 (h0:0<a.zF):0∈Qem a:=by
 have:=(Ql3 ha).2.1;rw [if_pos h0] at this;exact this.subset (by simp)
theorem Qbh4 (w:List Int):genP b w=genP a w:=by
 unfold genP;by_cases h0:0<a.zF
 ·have h1:=h.st.2 h0;have:=(Qba8 ha hb h w 0 0 (Qbe4 ha hb h h0)).1;rw [h.zero h0] at this;simp [h0,h1,this]
 ·have h1:¬ 0<b.zF:=fun hh=>h0 (h.st.1 hh);simp [h0,h1]
end
theorem Qbh5 {a:Qa} (ha:Right a) (w:List Int):genP (Qho a) w=genP a w:=Qbh4 ha (Qig ha) (Qbcf ha) w
end Go.Abs
end
section
namespace Go.Abs
open Go
def Q84 (a:Qa) (s:Int):List Qb:=a.zB.map fun e=>⟨s,e,if 0≤Qcq a s e then Qcq a s e else a.zF⟩
def Qbjn (a:Qa):Nat→List Qb
 | 0=>[]
 | n+1=>Qbjn a n++Q84 a (n:Int)
theorem Qbh6 {a:Qa}:∀ n,(Qbjn a n).length=n*a.zB.length
 | 0=>by simp [Qbjn]
 | n+1=>by simp [Qbjn,Qbh6 n,Q84,Nat.succ_mul]
theorem Qblr {a:Qa} {s:Int} {x:Qb}:x∈Q84 a s↔x.From=s∧x.Event∈a.zB∧x.To=if 0≤Qcq a s x.Event then Qcq a s x.Event else a.zF:=by
 unfold Q84;simp only [List.mem_map];constructor
 ·rintro ⟨e,he,rfl⟩;exact ⟨rfl,he,rfl⟩
 ·rintro ⟨h1,h2,h3⟩;exact ⟨x.Event,h2,by cases x;simp_all⟩
section
variable {a:Qa} (h:Right a)
include h
end
def Qt7 (n:Nat):List Int:=(List.range n).map fun i:Nat=>(i:Int)
theorem Q0f (n:Nat):Qt7 (n+1)=Qt7 n++[(n:Int)]:=by simp [Qt7,List.range_succ]
theorem Q7v (n:Nat):(Qt7 n).length=n:=by simp [Qt7]
theorem Q7w {n:Nat} {x:Int}:x∈Qt7 n↔0≤x∧x<n:=by
 unfold Qt7;simp only [List.mem_map,List.mem_range];constructor
 ·rintro ⟨i,h,rfl⟩;omega
 ·rintro ⟨h1,h2⟩;exact ⟨x.toNat,by omega,by omega⟩
theorem Q1v:∀ n,(Qt7 n).Pairwise (· < ·)
 | 0=>.nil
 | n+1=>by
  rw [Q0f,List.pairwise_append];refine ⟨Q1v n,by simp,fun x hx y hy=>?_⟩;have:=Q7w.1 hx;simp at hy;omega
def Qoy (a:Qa):Qa:=⟨a.zB,a.zF,Qt7 a.zF.toNat,a.zD⟩
theorem Q1w {a:Qa} (h:Right a):Right (Qoy a) :=
 ⟨h.al0,h.al,h.st,fun x hx=>by have:=Q7w.1 hx;simp only [Qoy];omega,Q1v _,h.ed0,h.ed⟩
theorem Qbh7 {a:Qa} (h:Right a):Qjc a=some (Qoy (Qho a),0):=by
 have hr:=Qig h;have hst:=hr.st;unfold Qjc Qef;obtain ⟨fuel,hfu,hge⟩ : ∃ f,Q3=f∧1099511627776≤f:=⟨_,rfl,Nat.le_refl _⟩;rw [hfu,Q0d h,Option.bind_some,if_neg (by simp),Q6i h,Option.bind_some];generalize Qho a=c at hr hst;have hloop:=Qiu (len:=c.zF.toNat) (F:=(fun (k12:Int×List Int×List Int×List Qb×List Int→Option (List Int×List Int×List Qb×List Int)) ((x7,c8,c9,c10,r11):Int×(List Int)×(List Int)×(List Qb)×(List Int))=>(if (x7<c.zF) then ((appO r11 [x7]).bind fun x14=>k12 ((IntKind.wrap .i64 (x7+1)),c8,c9,c10,x14)) else some (c8,c9,c10,r11))))
  (fun n (acc:List Int)=>((n:Int),([]:List Int),([]:List Int),([]:List Qb),acc)) (fun n acc=>acc=Qt7 n) (fun n acc=>some ([],[],[],Qt7 c.zF.toNat)) (by
   intro k n acc hn hi ih;subst hi;dsimp only;rw [if_pos (by omega),Qb5 (by simp only [List.length_cons,List.length_nil,Q7v];unfold lim;omega),Option.bind_some,Qbb (by omega)];exact ih _ (Q0f n).symm) (by
   intro k acc hi;subst hi;dsimp only;rw [if_neg (by omega)]) fuel 0 [] (Nat.zero_le _) (by omega) rfl
 refine (congrArg (fun w=>Option.bind w _) hloop).trans ?_
 rfl
end Go.Abs
end
section
namespace Go.Abs
open Go
def Q85 (s:Nat):List Int:=((List.range 5).filter fun i=>s.testBit i).map fun i:Nat=>(i:Int)
def evT (s:Nat):Bool:=match Qdg (s:Int) with
 | some l=>l==Q85 s
 | none=>false
theorem Qbls:(List.range 256).all evT=true:=by kernel_rfl
theorem Qnv {s:Int} (h0:0≤s) (h1:s<256):Qdg s=some (Q85 s.toNat):=by
 have:=List.all_eq_true.1 Qbls s.toNat (List.mem_range.2 (by omega));unfold evT at this;rw [show ((s.toNat:Nat):Int)=s from by omega] at this;split at this
 ·rename_i l hl;rw [hl,eq_of_beq this]
 ·cases this
theorem Q1x {s:Nat} (h:s<256):Evs (Q85 s):=by
 obtain ⟨l,h1,h2⟩:=Qbhm (s:=(s:Int)) (by omega) (by omega);rw [Qnv (by omega) (by omega)] at h1;cases h1;simpa using h2
theorem Qba9 {s t:Int} (h0:0≤s) (h1:s<256) (k0:0≤t) (k1:t<256):∃ n:Nat,andI .u8 s t=(n:Int)∧n<256∧∀ x∈Q85 n,x∈Q85 s.toNat:=by
 obtain ⟨a,rfl⟩ : ∃ a:Nat,s=(a:Int):=⟨s.toNat,by omega⟩;obtain ⟨b,rfl⟩ : ∃ b:Nat,t=(b:Int):=⟨t.toNat,by omega⟩;have e:(BitVec.ofInt 8 (a:Int) &&& BitVec.ofInt 8 (b:Int)).toNat=a &&& b:=by
  simp only [BitVec.ofInt_natCast,BitVec.toNat_and,BitVec.toNat_ofNat];rw [Nat.mod_eq_of_lt (by omega),Nat.mod_eq_of_lt (by omega)]
 have hle:a &&& b≤a:=Nat.and_le_left;refine ⟨a &&& b,?_,by omega,fun x hx=>?_⟩
 ·unfold andI;show IntKind.wrap .u8 ((BitVec.ofInt 8 (a:Int) &&& BitVec.ofInt 8 (b:Int)).toNat:Int)=_;rw [e,Qbhi (by omega) (by omega)]
 ·unfold Q85 at hx ⊢;obtain ⟨i,hi,rfl⟩:=List.mem_map.1 hx;obtain ⟨h3,h4⟩:=List.mem_filter.1 hi;rw [Nat.testBit_and,Bool.and_eq_true] at h4;exact List.mem_map.2 ⟨i,List.mem_filter.2 ⟨h3,by simpa using h4.1⟩,rfl⟩
structure Qbh8 (s:Qbv):Prop where
 s0:0≤s.Sets.1∧s.Sets.1<256
 s1:0≤s.Sets.2.1∧s.Sets.2.1<256
 s2:0≤s.Sets.2.2.1∧s.Sets.2.2.1<256
 s3:0≤s.Sets.2.2.2.1∧s.Sets.2.2.2.1<256
 s4:0≤s.Sets.2.2.2.2∧s.Sets.2.2.2.2<256
 g0:Q5z s.Graphs.1
 g1:Q5z s.Graphs.2.1
 g2:Q5z s.Graphs.2.2
structure ProbW (p:Qj):Prop where
 pr:Right p.Plant
 ar:Right p.Ambient
 rr:Right p.Requirement
 p5:p.Plant.zF≤5
 a5:p.Ambient.zF≤5
 r5:p.Requirement.zF≤5
 sa:∀ x∈p.Ambient.zB,x∈p.Plant.zB
 sr:∀ x∈p.Requirement.zB,x∈p.Plant.zB
 pe:Evs p.Plant.zB
 oe:Evs p.Observable
 ce:Evs p.Controllable
theorem Qbh9 {ev:List Int} (hev:Evs ev) {g:Qs} (hg:Q5z g):∃ m,Qgi ev g=some m∧Right m∧m.zF≤5∧m.zB=ev:=by
 obtain ⟨m,hm,hmal,hM,hm5⟩:=Qblh hev hg;refine ⟨Qho m,hM,Qig hm,?_,hmal⟩;have:=(Ql3 hm).1.len;show ((Qem m).length:Int)≤5;omega
theorem Qbck {s n:Int} (h:0≤s∧s<256) (hn:n=4∨n=2∨n=3):0≤s.tmod n∧s.tmod n<256:=by
 rw [Int.tmod_eq_emod_of_nonneg h.1];rcases hn with rfl|rfl|rfl<;>omega
theorem Qbia {s:Qbv} (h:Qbh8 s):∃ p,Qhv s=some p∧ProbW p:=by
 unfold Qhv Qdo;obtain ⟨fuel,hfu,hge⟩ : ∃ f,Q3=f∧1099511627776≤f:=⟨_,rfl,Nat.le_refl _⟩;rw [hfu,Qnv h.s0.1 h.s0.2,Option.bind_some];have hst:∀ g:Qs,Q5z g→0≤g.zF∧g.zF<256:=fun g hg=>hg.st;refine Q56 (P:=fun r:Int×Int×Int=>(0≤r.1∧r.1<256)∧(0≤r.2.1∧r.2.1<256)∧(0≤r.2.2∧r.2.2<256)) (Q:=fun r=>∃ p,r=some p∧ProbW p) ?_ ?_
 ·refine Qc7 (fun x:Int×Int×Int×Int=>∃ i:Nat,x.1=(i:Int)∧i≤3∧(0≤x.2.1∧x.2.1<256)∧(0≤x.2.2.1∧x.2.2.1<256)∧(0≤x.2.2.2∧x.2.2.2<256)) (fun x=>3-x.1.toNat) (fun _ r=>∃ v:Int×Int×Int,r=some v∧(0≤v.1∧v.1<256)∧(0≤v.2.1∧v.2.1<256)∧(0≤v.2.2∧v.2.2<256)) (fun k x hx ih=>?_) fuel _ ⟨0,rfl,by omega,hst _ h.g0,hst _ h.g1,hst _ h.g2⟩ (by dsimp only;omega);obtain ⟨x,s5,s6,s7⟩:=x;obtain ⟨i,hx,hi,h5,h6,h7⟩:=hx;dsimp only at hx h5 h6 h7;subst hx;dsimp only;have key:∀ t5 t6 t7:Int,i<3→(0≤t5∧t5<256)→(0≤t6∧t6<256)→(0≤t7∧t7<256)→∃ v:Int×Int×Int,k (IntKind.wrap .i64 ((i:Int)+1),t5,t6,t7)=some v∧(0≤v.1∧v.1<256)∧(0≤v.2.1∧v.2.1<256)∧(0≤v.2.2∧v.2.2<256):=fun t5 t6 t7 hi' q5 q6 q7=>by
   rw [Qbb (by omega)];exact ih _ ⟨i+1,rfl,by omega,q5,q6,q7⟩ (by dsimp only;omega)
  by_cases hlt:i<3
  ·rw [if_pos (by omega)];have w4:remO .u8 s5 (IntKind.wrap .u8 4)=some (s5.tmod 4):=rfl;have w2:remO .u8 s6 (IntKind.wrap .u8 2)=some (s6.tmod 2):=rfl;have w3:remO .u8 s7 (IntKind.wrap .u8 3)=some (s7.tmod 3):=rfl;have r4:=Qbck h5 (.inl rfl);have r2:=Qbck h6 (.inr (.inl rfl));have r3:=Qbck h7 (.inr (.inr rfl));obtain e|e|e:i=0∨i=1∨i=2:=by omega
   ·subst e;have key':=key;simp only [Int.natCast_zero] at key' ⊢;simp only [if_true,Option.bind_some];by_cases q:s5<250
    ·simp only [q,decide_true,if_true,w4,Option.bind_some];exact key' _ _ _ hlt r4 h6 h7
    ·simp only [q,decide_false,Bool.false_eq_true,if_false,Option.bind_some];exact key' _ _ _ hlt h5 h6 h7
   ·subst e;have key':=key;simp only [Int.natCast_one] at key' ⊢;have n1:¬ ((1:Int)=0):=by decide
    simp only [n1,if_true,if_false,Option.bind_some];by_cases q:s6<250
    ·simp only [q,decide_true,if_true,w2,n1,if_false,Option.bind_some];exact key' _ _ _ hlt h5 r2 h7
    ·simp only [q,decide_false,Bool.false_eq_true,if_false,Option.bind_some];exact key' _ _ _ hlt h5 h6 h7
   ·subst e;have key':=key;have e2:((2:Nat):Int)=2:=rfl;simp only [e2] at key' ⊢;have n1:¬ ((2:Int)=0):=by decide
    have n2:¬ ((2:Int)=1):=by decide
    simp only [n1,n2,if_true,if_false,Option.bind_some];by_cases q:s7<250
    ·simp only [q,decide_true,if_true,w3,n1,n2,if_false,Option.bind_some];exact key' _ _ _ hlt h5 h6 r3
    ·simp only [q,decide_false,Bool.false_eq_true,if_false,Option.bind_some];exact key' _ _ _ hlt h5 h6 h7
  ·rw [if_neg (by omega)];exact ⟨_,rfl,h5,h6,h7⟩
 ·rintro ⟨t5,t6,t7⟩ ⟨q5,q6,q7⟩;dsimp only at q5 q6 q7 ⊢;obtain ⟨n1,e1,l1,s1⟩:=Qba9 h.s0.1 h.s0.2 h.s1.1 h.s1.2;obtain ⟨n2,e2,l2,s2⟩:=Qba9 h.s0.1 h.s0.2 h.s2.1 h.s2.2;have v0:Evs (Q85 s.Sets.1.toNat):=Q1x (by have:=h.s0;omega);have v3:Evs (Q85 s.Sets.2.2.2.1.toNat):=Q1x (by have:=h.s3;omega);have v4:Evs (Q85 s.Sets.2.2.2.2.toNat):=Q1x (by have:=h.s4;omega);obtain ⟨m0,a1,a2,a3,a4⟩:=Qbh9 v0 (g:=⟨t5,s.Graphs.1.Marks,s.Graphs.1.To⟩) ⟨q5,h.g0.to⟩;obtain ⟨m1,b1,b2,b3,b4⟩:=Qbh9 (Q1x l1) (g:=⟨t6,s.Graphs.2.1.Marks,s.Graphs.2.1.To⟩) ⟨q6,h.g1.to⟩;obtain ⟨m2,c1,c2,c3,c4⟩:=Qbh9 (Q1x l2) (g:=⟨t7,s.Graphs.2.2.Marks,s.Graphs.2.2.To⟩) ⟨q7,h.g2.to⟩;rw [a1,Option.bind_some,e1,Qnv (by omega) (by omega),Option.bind_some,Int.toNat_natCast,b1,Option.bind_some,e2,Qnv (by omega) (by omega),Option.bind_some,Int.toNat_natCast,c1,Option.bind_some,Qnv h.s3.1 h.s3.2,Option.bind_some,Qnv h.s4.1 h.s4.2,Option.bind_some];exact ⟨_,rfl,a2,b2,c2,a3,b3,c3,by dsimp only;rw [a4,b4];exact s1,by dsimp only;rw [a4,c4];exact s2,by dsimp only;rw [a4];exact v0,v3,v4⟩
def Few3 (r:List Qa):Prop:=∀ a∈r,Right a∧a.zF≤5
theorem Qbba:∀ {l:List Qa},Few3 l→(allT l).length≤5 ^ l.length
 | [],_=>by simp [allT]
 | a::l,h=>by
  rw [Q81,List.foldr_cons,← Q81,List.length_cons,Nat.pow_succ];have ih:=Qbba (l:=l) fun b hb=>h b (List.mem_cons_of_mem _ hb);have h5:=(h a (by simp)).2;have:a.zF.toNat≤5:=by omega
  calc a.zF.toNat*(allT l).length≤5*(allT l).length:=Nat.mul_le_mul_right _ this
   _≤5*5 ^ l.length:=Nat.mul_le_mul_left _ ih
   _=5 ^ l.length*5:=Nat.mul_comm _ _
theorem Qbib {l:List Qa} (h:Few3 l) (hl:l.length≤3):Parts l:=by
 refine { r:=fun a ha=>(h a ha).1,s:=fun a ha=>Int.le_trans (h a ha).2 (by decide),n:=by omega,b:=Nat.le_trans (Qbba h) ?_ };exact Nat.le_trans (Nat.pow_le_pow_right (by decide) hl) (by decide)
theorem Q7x {l:List Qa} {A:Qa} {T:List (List Int)} {e:Int} (h:Qba l=some (A,T,e)):Qh9 l=some (A,e):=by
 unfold Qh9 Qcd;rw [h];rfl
theorem Qblt {l m:List Int} (hl:l.Pairwise (· < ·)) (hm:m.Pairwise (· < ·)) (h:∀ x,x∈l↔x∈m):l=m:=by
 refine List.Perm.eq_of_pairwise (le:=(· < ·)) (fun a b _ _ h1 h2=>by omega) hl hm ?_;rw [List.perm_ext_iff_of_nodup (hl.imp fun h=>by omega) (hm.imp fun h=>by omega)];exact h
theorem Qbic {p:Qa} (hp:Right p) {l:List Qa} (hl:∀ a∈l,∀ x∈a.zB,x∈p.zB) {R:List Int} (hR:EvsU (p::l) R):R=p.zB:=by
 refine Qblt hR.so hp.al fun x=>?_;rw [hR.me];constructor
 ·rintro ⟨a,ha,hx⟩;rcases List.mem_cons.1 ha with rfl|ha
  ·exact hx
  ·exact hl a ha x hx
 ·intro hx;exact ⟨p,by simp,hx⟩
section
variable {a:Qa} (h:Right a)
include h
theorem Qbbb:Qg4 a=some (Qoy (Qho a)):=by
 have hr:=Qig h;have hst:=hr.st;unfold Qg4 Qc0;obtain ⟨fuel,hfu,hge⟩ : ∃ f,Q3=f∧1099511627776≤f:=⟨_,rfl,Nat.le_refl _⟩;rw [hfu,Qxw h,Option.bind_some];generalize Qho a=c at hr hst;have hloop:=Qiu (len:=c.zF.toNat) (F:=(fun (k12:Int×List Int×List Int×List Qb×List Int→Option (List Int×List Int×List Qb×List Int)) ((x7,c8,c9,c10,r11):Int×(List Int)×(List Int)×(List Qb)×(List Int))=>(if (x7<c.zF) then ((appO r11 [x7]).bind fun x14=>k12 ((IntKind.wrap .i64 (x7+1)),c8,c9,c10,x14)) else some (c8,c9,c10,r11))))
  (fun n (acc:List Int)=>((n:Int),([]:List Int),([]:List Int),([]:List Qb),acc)) (fun n acc=>acc=Qt7 n) (fun n acc=>some ([],[],[],Qt7 c.zF.toNat)) (by
   intro k n acc hn hi ih;subst hi;dsimp only;rw [if_pos (by omega),Qb5 (by simp only [List.length_cons,List.length_nil,Q7v];unfold lim;omega),Option.bind_some,Qbb (by omega)];exact ih _ (Q0f n).symm) (by
   intro k acc hi;subst hi;dsimp only;rw [if_neg (by omega)]) fuel 0 [] (Nat.zero_le _) (by omega) rfl
 refine (congrArg (fun w=>Option.bind w _) hloop).trans ?_
 rfl
theorem Qbid:∃ m R,Qdb (Qoy (Qho a))=some (m,0)∧Right m∧m.zB=a.zB∧(m.zF=0↔(Qho a).zF=0)∧m.zF≤(Qho a).zF∧Along m (Qoy (Qho a)) R :=
 Qbci (Q1w (Qig h))
theorem Qbcl {m:Qa} (hm:Qdb (Qoy (Qho a))=some (m,0)):Qg5 a=some m:=by
 unfold Qg5 Qi4;rw [Qbbb h,Option.bind_some,hm];rfl
theorem Qbbc {m:Qa} (hm:Qdb (Qoy (Qho a))=some (m,0)):Qj0 a a.zB=some (m,0):=by
 unfold Qj0 Qe1;have hsm:=h.small;rw [Qbh7 h,Option.bind_some];dsimp only;rw [if_neg (by simp),Q8y (by have:=hsm.2.1;unfold lim;omega),Option.bind_some];exact (congrArg (fun w=>Option.bind w _) hm).trans rfl
end
section
variable {p:Qj} (h:ProbW p)
include h
theorem ProbW.small:Qbhk p:=⟨h.pr.small.1,h.ar.small.1,h.rr.small.1,by have:=h.oe.len;unfold big;omega,by have:=h.ce.len;unfold big;omega⟩
theorem ProbW.check:Qbap p=0:=by
 unfold Qbap;have e1:Qhy p.Plant=0:=Qq7.2 h.pr;have e2:Qhy p.Ambient=0:=Qq7.2 h.ar;have e3:Qhy p.Requirement=0:=Qq7.2 h.rr;have s1:inAl p.Ambient.zB p.Plant.zB=true:=decide_eq_true h.sa;have s2:inAl p.Requirement.zB p.Plant.zB=true:=decide_eq_true h.sr;have le:∀ l,Evs l→Qe3 32 none l=0:=fun l hl=>Ql1.2 ⟨fun x hx=>by have:=hl.rg x hx;omega,hl.so,fun y hy=>by cases hy⟩;simp [e1,e2,e3,s1,s2,le _ h.oe,le _ h.ce]
theorem ProbW.few2:Few3 [p.Plant,p.Ambient]:=fun a ha=>by
 simp only [List.mem_cons,List.not_mem_nil,or_false] at ha;rcases ha with rfl|rfl
 ·exact ⟨h.pr,h.p5⟩
 ·exact ⟨h.ar,h.a5⟩
theorem ProbW.few3:Few3 [p.Plant,p.Ambient,p.Requirement]:=fun a ha=>by
 simp only [List.mem_cons,List.not_mem_nil,or_false] at ha;rcases ha with rfl|rfl|rfl
 ·exact ⟨h.pr,h.p5⟩
 ·exact ⟨h.ar,h.a5⟩
 ·exact ⟨h.rr,h.r5⟩
theorem Qbcm {A:Qa} {T:List (List Int)} {m:Qa} (hS:Qba [p.Plant,p.Ambient,p.Requirement]=some (A,T,0)) (hA:Right A) (hal:A.zB=p.Plant.zB) (hm:Qdb (Qoy (Qho A))=some (m,0)):Qgy p=some (m,0):=by
 unfold Qgy Qd2;rw [Qbb9 h.small,h.check,Option.bind_some,if_neg (by simp),Q7x hS,Option.bind_some];dsimp only;rw [if_neg (by simp),← hal,Qbbc hA hm];rfl
theorem Qbie {A B:Qa} {T U:List (List Int)} (hS:Qba [p.Plant,p.Ambient]=some (A,T,0)) (hA:Prd [p.Plant,p.Ambient] A T) (hU:Qba [p.Plant,p.Ambient,p.Requirement]=some (B,U,0)) :
  Qhw p=some (⟨p,A,B,T.map fun t=>ati t 0⟩,true):=by
 unfold Qhw Qdp;obtain ⟨fuel,hfu,hge⟩ : ∃ f,Q3=f∧1099511627776≤f:=⟨_,rfl,Nat.le_refl _⟩;rw [hfu,hS,Option.bind_some];dsimp only;rw [Q7x hU,Option.bind_some];dsimp only;have hn:=hA.n;refine Q56 (P:=fun r:List Int×List Int×List Qb×List Int×List Int×List Qb×List Int×List Int×List Qb×List Int×List Int×List Int×List Int×List Qb×List Int×List Int×List Qb×List Int×List Int=>r.2.2.2.2.2.2.2.2.2.2.2.2.2.2.2.2.2.2=T.map fun t=>ati t 0) (Q:=fun r:Option (Qdi×Bool)=>r=some (⟨p,A,B,T.map fun t=>ati t 0⟩,true)) ?_ ?_
 ·refine Qc7 (fun x:Int×List Int×List Int×List Qb×List Int×List Int×List Qb×List Int×List Int×List Qb×List Int×List Int×List Int×List Int×List Qb×List Int×List Int×List Qb×List Int×List Int=>∃ i:Nat,x.1=(i:Int)∧i≤T.length∧x.2.2.2.2.2.2.2.2.2.2.2.2.2.2.2.2.2.2.2=(T.take i).map fun t=>ati t 0) (fun x=>T.length-x.1.toNat) (fun _ r=>∃ v:List Int×List Int×List Qb×List Int×List Int×List Qb×List Int×List Int×List Qb×List Int×List Int×List Int×List Int×List Qb×List Int×List Int×List Qb×List Int×List Int,r=some v∧v.2.2.2.2.2.2.2.2.2.2.2.2.2.2.2.2.2.2=T.map fun t=>ati t 0) (fun k x hx ih=>?_) fuel _ ⟨0,rfl,by omega,rfl⟩ (by dsimp only;omega);obtain ⟨i,hx,hi,hw⟩:=hx;obtain ⟨x,c10,c11,c12,c13,c14,c15,c16,c17,c18,c19,c20,c21,c22,c23,c24,c25,c26,c27,w⟩:=x;dsimp only at hx hw;subst hx hw;dsimp only;by_cases hlt:i<T.length
  ·have ht:=hA.t _ (List.getElem_mem hlt);have hl:=ht.len;have hg:getO T[i] 0=some (ati T[i] 0):=by
    rw [show (0:Int)=((0:Nat):Int) from rfl,Q1 (by rw [hl];simp:0<T[i].length)];simp [ati,at0,List.getD_eq_getElem?_getD,show 0<T[i].length from by rw [hl];simp]
   rw [if_pos (by omega),Q1 hlt,Option.bind_some,hg,Option.bind_some,Qb5 (by simp only [List.length_map,List.length_take,List.length_cons,List.length_nil];unfold lim;omega),Option.bind_some,Qbb (by omega)];refine ih _ ⟨i+1,rfl,by omega,?_⟩ (by dsimp only;omega);dsimp only;rw [List.take_succ_eq_append_getElem hlt,List.map_append];rfl
  ·rw [if_neg (by omega)];have:i=T.length:=by omega
   subst this;exact ⟨_,rfl,by dsimp only;rw [List.take_length]⟩
 ·rintro ⟨c37,c38,c39,c40,c41,c42,c43,c44,c45,c46,c47,c48,c49,c50,c51,c52,c53,c54,w⟩ hw;dsimp only at hw ⊢;rw [hw];rfl
end
end Go.Abs
end
section
namespace Go.Proofs
open Go Go.Abs
theorem Qbcn {x:Int} (h:wfI .u8 x):0≤x∧x<256:=by
 unfold wfI at h;simp [Lit.wf,IntKind.min,IntKind.max,IntKind.bits,IntKind.signed] at h;omega
theorem Q86 {g:Qs} (h:W_27 g):Q5z g:=by
 unfold W_27 W_25 W_24 W_5 at h;obtain ⟨h1,h2,⟨a1,a2,a3,a4,a5⟩,⟨b1,b2,b3,b4,b5⟩,⟨c1,c2,c3,c4,c5⟩,⟨d1,d2,d3,d4,d5⟩,⟨e1,e2,e3,e4,e5⟩⟩:=h;refine ⟨Qbcn h1,fun x hx=>?_⟩;simp only [List.mem_cons,List.not_mem_nil,or_false] at hx;rcases hx with rfl|rfl|rfl|rfl|rfl|rfl|rfl|rfl|rfl|rfl|rfl|rfl|rfl|rfl|rfl|rfl|rfl|rfl|rfl|rfl|rfl|rfl|rfl|rfl|rfl<;>exact Qbcn (by assumption)
theorem Qbms {s:Qbv} (h:W_30 s):Qbh8 s:=by
 obtain ⟨⟨a,b,c,d,e⟩,f,g,i⟩:=h;exact ⟨Qbcn a,Qbcn b,Qbcn c,Qbcn d,Qbcn e,Q86 f,Q86 g,Q86 i⟩
end Go.Proofs
end
section
namespace Go.Abs
open Go
theorem Q7y {l:List (List Int)} {s:List Int} (h:s∈l):l[l.idxOf s]? = some s:=by
 rw [List.getElem?_eq_getElem (List.idxOf_lt_length_of_mem h),List.getElem_idxOf]
structure EdgT (stp:List Int→Int→Option (List Int)) (al:List Int) (i:Nat) (done:List Int) (p:TS):Prop where
 e4:∀ y∈p.2.1,∃ (j k:Nat) (s t:List Int),y=⟨(j:Int),y.Event,(k:Int)⟩∧p.1[j]? = some s∧stp s y.Event=some t∧p.1[k]? = some t
 e3:∀ (j:Nat) (s:List Int) (e:Int) (t:List Int),p.1[j]? = some s→(j<i∧e∈al∨j=i∧e∈done)→stp s e=some t→∃ k:Nat,p.1[k]? = some t∧(⟨(j:Int),e,(k:Int)⟩ : Qb)∈p.2.1
section
variable {stp:List Int→Int→Option (List Int)} {al:List Int}
theorem EdgT.step {i:Nat} {done:List Int} {p:TS} (h:EdgT stp al i done p) {s:List Int} (hs:p.1[i]? = some s) (e:Int):EdgT stp al i (done++[e]) (rowM stp i s p e)∧(rowM stp i s p e).1[i]? = some s:=by
 unfold rowM;have old:∀ {j:Nat} {x:Int},(j<i∧x∈al∨j=i∧x∈done++[e])→(j<i∧x∈al∨j=i∧x∈done)∨j=i∧x=e:=by
  intro j x q;rcases q with q|⟨q1,q2⟩
  ·exact .inl (.inl q)
  ·rcases List.mem_append.1 q2 with q2|q2
   ·exact .inl (.inr ⟨q1,q2⟩)
   ·simp at q2;exact .inr ⟨q1,q2⟩
 cases hst:stp s e with
 | none =>
  refine ⟨⟨h.e4,fun j s' x t q1 q2 q3=>?_⟩,hs⟩;rcases old q2 with q2|⟨rfl,rfl⟩
  ·exact h.e3 j s' x t q1 q2 q3
  ·rw [hs] at q1;cases q1;rw [hst] at q3;cases q3
 | some t =>
  dsimp only;by_cases hm:t∈p.1
  ·rw [if_pos hm];refine ⟨⟨fun y hy=>?_,fun j s' x t' q1 q2 q3=>?_⟩,hs⟩
   ·rcases List.mem_append.1 hy with hy|hy
    ·exact h.e4 y hy
    ·simp only [List.mem_singleton] at hy;subst hy;exact ⟨i,p.1.idxOf t,s,t,rfl,hs,hst,Q7y hm⟩
   ·rcases old q2 with q2|⟨rfl,rfl⟩
    ·obtain ⟨k,p1,p2⟩:=h.e3 j s' x t' q1 q2 q3;exact ⟨k,p1,List.mem_append_left _ p2⟩
    ·rw [hs] at q1;cases q1;rw [hst] at q3;cases q3;exact ⟨p.1.idxOf t,Q7y hm,by simp⟩
  ·rw [if_neg hm];refine ⟨⟨fun y hy=>?_,fun j s' x t' q1 q2 q3=>?_⟩,Qra hs⟩
   ·rcases List.mem_append.1 hy with hy|hy
    ·obtain ⟨j,k,s',t',a1,a2,a3,a4⟩:=h.e4 y hy;exact ⟨j,k,s',t',a1,Qra a2,a3,Qra a4⟩
    ·simp only [List.mem_singleton] at hy;subst hy;exact ⟨i,p.1.length,s,t,rfl,Qra hs,hst,by simp⟩
   ·have hi:=(List.getElem?_eq_some_iff.1 hs).1;have q1' : p.1[j]? = some s':=by
     rcases Q83 q1 with q|⟨a1,a2⟩
     ·exact q
     ·exfalso;rcases q2 with ⟨q2,_⟩|⟨q2,_⟩<;>omega
    rcases old q2 with q2|⟨rfl,rfl⟩
    ·obtain ⟨k,p1,p2⟩:=h.e3 j s' x t' q1' q2 q3;exact ⟨k,Qra p1,List.mem_append_left _ p2⟩
    ·rw [hs] at q1';cases q1';rw [hst] at q3;cases q3;exact ⟨p.1.length,by simp,by simp⟩
theorem EdgT.fold {i:Nat} {s:List Int}:∀ {es done:List Int} {p:TS},EdgT stp al i done p→p.1[i]? = some s→EdgT stp al i (done++es) (es.foldl (rowM stp i s) p)
 | [],done,p,h,_=>by simpa using h
 | e::es,done,p,h,hs=>by
  rw [List.foldl_cons];obtain ⟨h1,h2⟩:=h.step hs e;have:=EdgT.fold (es:=es) h1 h2
  rwa [List.append_assoc] at this
theorem EdgT.next {i:Nat} {p:TS} (h:EdgT stp al i al p):EdgT stp al (i+1) [] p:=⟨h.e4,fun j s e t q1 q2 q3=>h.e3 j s e t q1 (by
 rcases q2 with ⟨q2,q4⟩|⟨_,q2⟩
 ·by_cases e1:j=i
  ·exact .inr ⟨e1,q4⟩
  ·exact .inl ⟨by omega,q4⟩
 ·cases q2) q3⟩
variable {P:List Int→Prop} {N:Nat} (hd:DomT stp al P N)
include hd
theorem Q7z (mk:List Int→Bool):∀ {f i:Nat} {ms:List Int} {p:TS},FndT al P i p→EdgT stp al i [] p→i≤p.1.length→N+1≤f+i →
  EdgT stp al (bldM stp mk al f i ms p).1.length [] ((bldM stp mk al f i ms p).1,(bldM stp mk al f i ms p).2.2,[])
 | 0,i,ms,p,h,he,hi,hf=>by have:=h.len hd;omega
 | f+1,i,ms,p,h,he,hi,hf=>by
  have hl:=h.len hd;rw [bldM];cases hg:p.1[i]? with
  | none =>
   have hi2:i=p.1.length:=by have:=List.getElem?_eq_none_iff.1 hg;omega
   dsimp only;subst hi2;exact ⟨he.e4,he.e3⟩
  | some s =>
   have hs:=h.su s (List.mem_of_getElem? hg);obtain ⟨h1,h2,h3⟩:=h.row hd hs (i:=i);have hlt:i<p.1.length:=(List.getElem?_eq_some_iff.1 hg).1;have hle:=h2.length_le;dsimp only;have he2:=(EdgT.fold (es:=al) he hg).next;exact Q7z mk (f:=f) (i:=i+1) h1 he2 (by omega) (by omega)
end
structure PrdE (l:List Qa) (A:Qa) (T:List (List Int)):Prop where
 z:T≠[]→T[0]? = some (List.replicate l.length 0)
 ne:l.any (fun a=>a.zF==0)=false→T≠[]
 em:l.any (fun a=>a.zF==0)=true→T=[]
 stp:∀ (k:Nat) (s:List Int),T[k]? = some s→∀ e∈A.zB,(Qt6 l s e=none∧Qcq A (k:Int) e = -1)∨∃ (t:List Int) (k' : Nat),Qt6 l s e=some t∧T[k']? = some t∧Qcq A (k:Int) e=(k' : Int)
theorem Qblu {stp:List Int→Int→Option (List Int)} {A:Qa} (hA:Right A) {T:List (List Int)} (h:EdgT stp A.zB T.length [] (T,A.zD,[])) {k:Nat} {s:List Int} (hs:T[k]? = some s) {e:Int} (he:e∈A.zB) :
  (stp s e=none∧Qcq A (k:Int) e = -1)∨∃ (t:List Int) (k' : Nat),stp s e=some t∧T[k']? = some t∧Qcq A (k:Int) e=(k' : Int):=by
 have hk:=(List.getElem?_eq_some_iff.1 hs).1;cases hst:stp s e with
 | none =>
  refine .inl ⟨rfl,?_⟩;rcases Qfs hA (k:Int) e with h1|h1
  ·exact h1
  ·exfalso;obtain ⟨y,hy,hye⟩:=(Qol hA).1 h1.1;have hyf:=Q7u hA hy;obtain ⟨j,k',s',t,p1,p2,p3,p4⟩:=h.e4 y (List.mem_filter.1 hy).1;have hjk:j=k:=by have:=hyf.2.2.2;rw [p1] at this;dsimp only at this;omega
   subst hjk;dsimp only at p2;rw [hs] at p2;cases p2;rw [hye,hst] at p3;cases p3
 | some t =>
  obtain ⟨k',p1,p2⟩:=h.e3 k s e t hs (.inl ⟨hk,he⟩) hst;refine .inr ⟨t,k',rfl,p1,?_⟩;exact Qxt hA (s:=(k:Int)) (x:=⟨(k:Int),e,(k' : Int)⟩) (List.mem_filter.2 ⟨p2,by simp⟩)
theorem Qbea {l:List Qa} (h:Parts l) (hne:l≠[]):∃ A T,Qba l=some (A,T,0)∧Prd l A T∧PrdE l A T:=by
 obtain ⟨R,hE,hR⟩:=Qblq h;cases h0:l.any fun a=>a.zF==0 with
 | true=>exact ⟨_,_,Qbh2 h h0 hE,{ r:={ al0:=hR.rg h,al:=hR.so,st:=⟨Int.le_refl 0,by show (0:Int)≤4096;decide⟩,ma0:=fun x hx=>by simp at hx,ma:=List.Pairwise.nil,ed0:=fun x hx=>by simp at hx,ed:=List.Pairwise.nil },st:=rfl,t:=fun x hx=>by simp at hx,n:=by simp,ev:=hR },{ z:=fun q=>absurd rfl q,ne:=fun q=>(by rw [h0] at q;cases q),em:=fun _=>rfl,stp:=fun k s q=>by simp at q }⟩
 | false =>
  obtain ⟨k1,k2,k3,k4⟩:=Qbe3 h hR h0;have hed:=Q7z (h.dom hR) (mkT l) (f:=4001) (i:=0) (ms:=[]) (Q57 h h0) ⟨fun y hy=>by simp at hy,fun j s e t _ q=>(by rcases q with ⟨q,_⟩|⟨_,q⟩;omega;cases q)⟩ (by simp) (by omega);have hz:(bld0 l R).1[0]? = some (List.replicate l.length 0):=Ql2 k4 rfl;refine ⟨_,_,Qbh1 h hR hne h0 hE,⟨k1,rfl,k2,k3,hR⟩,⟨fun _=>hz,fun _ e=>(by rw [e] at hz;cases hz),fun q=>(by rw [h0] at q;cases q),fun k s q e he=>Qblu k1 hed q he⟩⟩
def runE (a:Qa):Int→List Int→Int
 | s,[]=>s
 | s,e::w=>runE a (Qcq a s e) w
theorem Qbjo {a:Qa} (h:Right a) (e:Int):Qcq a (-1) e = -1:=by
 rcases Qfs h (-1) e with h1|h1
 ·exact h1
 ·omega
theorem Qya {a:Qa} (h:Right a):∀ w:List Int,runE a (-1) w = -1
 | []=>rfl
 | e::w=>by rw [runE,Qbjo h,Qya h w]
theorem Q34 (a:Qa):∀ (s:Int) (v w:List Int),runE a s (v++w)=runE a (runE a s v) w
 | s,[],w=>rfl
 | s,e::v,w=>by rw [List.cons_append,runE,runE,Q34 a _ v w]
theorem Qbbd {a:Qa} (h:Right a):∀ (w:List Int) (s:Int) (n:Nat),0≤s→((runP a s n w).2=((n+w.length:Nat):Int)↔0≤runE a s w)
 | [],s,n,h0=>by simp [runP,runE,h0]
 | e::w,s,n,h0=>by
  rw [runP,runE];by_cases h1:0≤Qcq a s e
  ·rw [if_pos h1];have:=Qbbd h w (Qcq a s e) (n+1) h1;rw [← this,List.length_cons,show n+1+w.length=n+(w.length+1) from by omega]
  ·rw [if_neg h1];have h2:Qcq a s e = -1:=by
    rcases Qfs h s e with h2|h2
    ·exact h2
    ·exact absurd h2.1 h1
   rw [h2,Qya h];simp only [List.length_cons];constructor
   ·intro q;omega
   ·intro q;omega
theorem genE {a:Qa} (h:Right a) (w:List Int):genP a w=(decide (0<a.zF)&&decide (0≤runE a 0 w)):=by
 unfold genP;have:=Qbbd h w 0 0 (Int.le_refl _);rw [Nat.zero_add] at this;congr 1;rw [Bool.eq_iff_iff];simp [this]
theorem Along.run {m a:Qa} {R:Int→Int→Prop} (hm:Right m) (ha:Right a) (h:Along m a R):∀ (w:List Int) (k s:Int),R k s→(runE m k w = -1∧runE a s w = -1)∨R (runE m k w) (runE a s w)
 | [],k,s,hr=>.inr hr
 | e::w,k,s,hr=>by
  rw [runE,runE];rcases h.stp k s hr e with ⟨h1,h2⟩|h1
  ·rw [h1,h2,Qya hm,Qya ha];exact .inl ⟨rfl,rfl⟩
  ·exact h.run hm ha w _ _ h1
theorem Along.nonneg {m a:Qa} {R:Int→Int→Prop} (hm:Right m) (ha:Right a) (h:Along m a R) (h0:0<a.zF) (w:List Int):0≤runE m 0 w↔0≤runE a 0 w:=by
 rcases h.run hm ha w 0 0 (h.z h0) with ⟨h1,h2⟩|h1
 ·rw [h1,h2]
 ·have:=h.st _ _ h1;omega
theorem Qbbe (a:Qa) (s e:Int):Qcq (Qoy a) s e=Qcq a s e:=rfl
theorem Q58 (a:Qa):∀ (w:List Int) (s:Int),runE (Qoy a) s w=runE a s w
 | [],s=>rfl
 | e::w,s=>by rw [runE,runE,Qbbe,Q58 a w]
theorem Q87 {a:Qa} (h:Right a) {m:Qa} {R:Int→Int→Prop} (hm:Right m) (hz:m.zF=0↔(Qho a).zF=0) (hR:Along m (Qoy (Qho a)) R) (w:List Int):genP a w=(decide (0<m.zF)&&decide (0≤runE m 0 w)):=by
 rw [← Qbh5 h,genE (Qig h)];have h1:=hm.st;have h2:=(Qig h).st;by_cases h0:0<(Qho a).zF
 ·have e:=hR.nonneg hm (Q1w (Qig h)) h0 w;rw [Q58] at e;rw [decide_eq_true h0,decide_eq_true (by omega:0<m.zF),Bool.eq_iff_iff];simp [e]
 ·rw [decide_eq_false h0,decide_eq_false (by omega:¬ 0<m.zF)];simp
end Go.Abs
end
section
namespace Go.Abs
open Go
section
variable {a:Qa} (h:Right a)
include h
theorem Q2v:Qjd a=some (edM a):=by
 unfold Qjd Qc9;obtain ⟨fuel,hfu,hge⟩ : ∃ f,Q3=f∧1099511627776≤f:=⟨_,rfl,Nat.le_refl _⟩;have hl:a.zD.length<big:=h.small.1.2.2;rw [hfu];have:=Q1s (F:=(fun (k4:Int×List ((Int×Int)×Int)→Option (List ((Int×Int)×Int))) ((x2,c3):Int×(List ((Int×Int)×Int)))=>(if (x2<(a.zD.length:Int)) then ((getO a.zD x2).bind fun x6=>k4 ((IntKind.wrap .i64 (x2+1)),(setM c3 (x6.From,x6.Event) x6.To))) else some c3))) (l:=a.zD) (fun j (p:List ((Int×Int)×Int))=>(j,p)) (fun c x=>setM c (x.From,x.Event) x.To) (fun _ _=>True) some hl hge (fun k n s hn _=>by
  dsimp only;rw [if_pos (by omega),Q1 hn,Option.bind_some]) (fun _ _ _ _=>trivial) (fun k s _=>by
  dsimp only;rw [if_neg (by omega)]) (s0:=[]) trivial
 exact (congrArg (fun w=>Option.bind w _) this).trans rfl
theorem Qsa (s e:Int):Qbr (edM a) s e=some (Qcq a s e):=by
 unfold Qbr Qf;rw [Qbhw h];by_cases h0:0≤Qcq a s e
 ·have hs:s≥0:=by
   rcases Qfs h s e with h1|h1
   ·omega
   ·exact h1.2.2.1
  rw [decide_eq_true h0,if_pos rfl,Option.bind_some,decide_eq_true hs,if_pos rfl,Qbhx h h0]
 ·rw [decide_eq_false h0,if_neg (by simp),Option.bind_some,if_neg (by simp)];rcases Qfs h s e with h1|h1
  ·rw [h1]
  ·exact absurd h1.1 h0
theorem Q0g {s:Int} {w:List Int} (hw:w.length<big):Qhx (edM a) s w=some (runE a s w):=by
 unfold Qhx Qcl;obtain ⟨fuel,hfu,hge⟩ : ∃ f,Q3=f∧1099511627776≤f:=⟨_,rfl,Nat.le_refl _⟩;have hb:w.length<1000000000000:=hw;rw [hfu];have:=Qiu (F:=(fun (k6:Int×Int→Option Int) ((state4,x5):Int×Int)=>(if (x5<(w.length:Int)) then ((getO w x5).bind fun x8=>((Qbr (edM a) state4 x8).bind fun x11=>k6 (x11,(IntKind.wrap .i64 (x5+1))))) else some state4))) (len:=w.length) (fun n (s:Int)=>(s,(n:Int))) (fun n s=>True) (fun n s=>some (runE a s (w.drop n))) (fun k n s hn _ ih=>by
  dsimp only;rw [if_pos (by omega),Q1 hn,Option.bind_some,Qsa h,Option.bind_some,Qbb (by omega),ih _ trivial,List.drop_eq_getElem_cons hn,runE]) (fun k s _=>by
  dsimp only;rw [if_neg (by omega),List.drop_of_length_le (Nat.le_refl _)];rfl) fuel 0 s (Nat.zero_le _) (by omega) trivial
 refine (congrArg (fun w=>Option.bind w _) this).trans ?_
 rfl
end
structure Qbjp (p:Qj) (A B m:Qa) (T U:List (List Int)):Prop where
 e2:Qba [p.Plant,p.Ambient]=some (A,T,0)
 e3:Qba [p.Plant,p.Ambient,p.Requirement]=some (B,U,0)
 hA:Prd [p.Plant,p.Ambient] A T
 hB:Prd [p.Plant,p.Ambient,p.Requirement] B U
 eA:PrdE [p.Plant,p.Ambient] A T
 eB:PrdE [p.Plant,p.Ambient,p.Requirement] B U
 aA:A.zB=p.Plant.zB
 aB:B.zB=p.Plant.zB
 lang:Qgy p=some (m,0)
 rm:Right m
 am:m.zB=p.Plant.zB
 gen:∀ w,genP B w=(decide (0<m.zF)&&decide (0≤runE m 0 w))
 cl:Qg5 B=some m
theorem ProbW.lang {p:Qj} (h:ProbW p):∃ A B m T U,Qbjp p A B m T U:=by
 obtain ⟨A,T,e2,hA,eA⟩:=Qbea (Qbib h.few2 (by simp)) (by simp);obtain ⟨B,U,e3,hB,eB⟩:=Qbea (Qbib h.few3 (by simp)) (by simp);have aA:A.zB=p.Plant.zB:=Qbic h.pr (fun a ha=>by simp at ha;subst ha;exact h.sa) hA.ev;have aB:B.zB=p.Plant.zB:=Qbic h.pr (fun a ha=>by
  simp only [List.mem_cons,List.not_mem_nil,or_false] at ha;rcases ha with rfl|rfl
  ·exact h.sa
  ·exact h.sr) hB.ev
 obtain ⟨m,R,f1,f2,f3,f4,f5,f6⟩:=Qbid hB.r;exact ⟨A,B,m,T,U,e2,e3,hA,hB,eA,eB,aA,aB,Qbcm h e3 hB.r aB f1,f2,f3.trans aB,Q87 hB.r f2 f4 f6,Qbcl hB.r f1⟩
def sysP (p:Qj) (A m:Qa) (T:List (List Int)):Qg :=
 ⟨p,p.Plant.zB,edM m,edM A,T.map fun t=>ati t 0,edM p.Plant,A.zF==0,⟨0,if m.zF==0 then -1 else 0⟩⟩
theorem Qbif {p:Qj} (h:ProbW p) {A B m:Qa} {T U:List (List Int)} (hl:Qbjp p A B m T U):Qgs p=some (sysP p A m T,true,m,0):=by
 unfold Qgs Qbf;obtain ⟨fuel,hfu,hge⟩ : ∃ f,Q3=f∧1099511627776≤f:=⟨_,rfl,Nat.le_refl _⟩;have hn:=hl.hA.n;rw [hfu,hl.lang,Option.bind_some];dsimp only;rw [if_neg (by simp),hl.e2,Option.bind_some];dsimp only;rw [if_neg (by simp),Q2v hl.rm,Option.bind_some,Q2v hl.hA.r,Option.bind_some,Q2v h.pr,Option.bind_some];refine Q56 (P:=fun r:List Int×List Int×List Qb×List Int=>r.2.2.2=T.map fun t=>ati t 0) (Q:=fun r:Option (Qg×Bool×Qa×Int)=>r=some (sysP p A m T,true,m,0)) ?_ ?_
 ·refine Qc7 (fun x:Int×List Int×List Int×List Qb×List Int=>∃ i:Nat,x.1=(i:Int)∧i≤T.length∧x.2.2.2.2=(T.take i).map fun t=>ati t 0) (fun x=>T.length-x.1.toNat) (fun _ r=>∃ v:List Int×List Int×List Qb×List Int,r=some v∧v.2.2.2=T.map fun t=>ati t 0) (fun k x hx ih=>?_) fuel _ ⟨0,rfl,by omega,rfl⟩ (by dsimp only;omega);obtain ⟨i,hx,hi,hw⟩:=hx;obtain ⟨x,c1,c2,c3,w⟩:=x;dsimp only at hx hw;subst hx hw;dsimp only;by_cases hlt:i<T.length
  ·have ht:=hl.hA.t _ (List.getElem_mem hlt);have hl:=ht.len;have hg:getO T[i] 0=some (ati T[i] 0):=by
    rw [show (0:Int)=((0:Nat):Int) from rfl,Q1 (by rw [hl];simp:0<T[i].length)];simp [ati,at0,List.getD_eq_getElem?_getD,show 0<T[i].length from by rw [hl];simp]
   rw [if_pos (by omega),Q1 hlt,Option.bind_some,hg,Option.bind_some,Qb5 (by simp only [List.length_map,List.length_take,List.length_cons,List.length_nil];unfold lim;omega),Option.bind_some,Qbb (by omega)];refine ih _ ⟨i+1,rfl,by omega,?_⟩ (by dsimp only;omega);dsimp only;rw [List.take_succ_eq_append_getElem hlt,List.map_append];rfl
  ·rw [if_neg (by omega)];have:i=T.length:=by omega
   subst this;exact ⟨_,rfl,by dsimp only;rw [List.take_length]⟩
 ·rintro ⟨c1,c2,c3,w⟩ hw;dsimp only at hw ⊢;subst hw;unfold sysP;cases m.zF==0<;>rfl
section
variable {p:Qj} (h:ProbW p) {A B m:Qa} {T U:List (List Int)} (hl:Qbjp p A B m T U)
include h hl
theorem Qbe5 {k:Nat} {s:List Int} (hs:T[k]? = some s) {e:Int} (he:e∈p.Plant.zB) :
  Qcq A (k:Int) e = -1∨∃ (t:List Int) (k' : Nat),T[k']? = some t∧Qcq A (k:Int) e=(k' : Int)∧ati t 0=Qcq p.Plant (ati s 0) e∧0≤Qcq p.Plant (ati s 0) e:=by
 have hst:=hl.eA.stp k s hs e (by rw [hl.aA];exact he);rcases hst with ⟨_,h1⟩|⟨t,k',h1,h2,h3⟩
 ·exact .inl h1
 ·refine .inr ⟨t,k',h2,h3,?_⟩;have hin:=hl.hA.t s (List.mem_of_getElem? hs);have hlen:=hin.len
  match s,hlen with
  | x::y::[],_ =>
   simp only [Qt6,Qbch,he,if_true] at h1;by_cases h4:0≤Qcq p.Plant x e
   ·rw [if_pos h4] at h1;cases hq:(if e∈p.Ambient.zB then (if 0≤Qcq p.Ambient y e then some (Qcq p.Ambient y e) else none) else some y) with
    | none=>rw [hq] at h1;simp at h1
    | some z =>
     rw [hq] at h1;simp at h1;subst h1;exact ⟨rfl,h4⟩
   ·rw [if_neg h4] at h1;simp at h1
theorem Qbbf:∀ (w:List Int) (k:Nat) (s:List Int),T[k]? = some s→0≤runE A (k:Int) w→∃ (k' : Nat) (t:List Int),runE A (k:Int) w=(k' : Int)∧T[k']? = some t∧ati t 0=runE p.Plant (ati s 0) w∧0≤runE p.Plant (ati s 0) w
 | [],k,s,hs,_=>⟨k,s,rfl,hs,rfl,by
  have hin:=hl.hA.t s (List.mem_of_getElem? hs);have hlen:=hin.len;have:=hin.get 0 (by simp) (by rw [hlen];simp);simp only [runE,ati,at0,List.getD_eq_getElem?_getD];rw [show ((0:Int).toNat)=0 from rfl,List.getElem?_eq_getElem (by rw [hlen];simp)];exact this.1⟩
 | e::w,k,s,hs,h0=>by
  rw [runE] at h0 ⊢;have hr:0≤Qcq A (k:Int) e:=by
   rcases Qfs hl.hA.r (k:Int) e with h1|h1
   ·rw [h1,Qya hl.hA.r] at h0;omega
   ·exact h1.1
  have he:e∈p.Plant.zB:=by
   rcases Qfs hl.hA.r (k:Int) e with h1|h1
   ·omega
   ·rw [← hl.aA];exact h1.2.2.2.2
  rcases Qbe5 h hl hs he with h1|⟨t,k',h1,h2,h3,h4⟩
  ·omega
  ·rw [h2] at h0 ⊢;obtain ⟨k2,t2,q1,q2,q3,q4⟩:=Qbbf w k' t h1 h0;rw [runE,← h3];exact ⟨k2,t2,q1,q2,q3,q4⟩
omit h in
theorem Q70 (w:List Int):(0≤runE m (if m.zF==0 then -1 else 0) w)↔genP B w=true:=by
 rw [hl.gen];have:=hl.rm.st;by_cases h0:m.zF=0
 ·rw [if_pos (by simp [h0]),Qya hl.rm,decide_eq_false (by omega:¬ 0<m.zF)];simp
 ·rw [if_neg (by simp [h0]),decide_eq_true (by omega:0<m.zF)];simp
end
end Go.Abs
end
section
namespace Go.Abs
open Go
def obsW (onto w:List Int):List Int:=w.filter fun e=>decide (e∈onto)
theorem Qbbg {F:(List Int×Int→Option (List Int))→List Int×Int→Option (List Int)} {l:List Int} (q:Int→Bool) (hl:l.length<big)
  (step:∀ (k:List Int×Int→Option (List Int)) (n:Nat) (s:List Int) (h:n<l.length),s.length≤n→F k (s,(n:Int))=k ((if q l[n] then s++[l[n]] else s),IntKind.wrap .i64 ((n:Int)+1)))
  (last:∀ (k:List Int×Int→Option (List Int)) (s:List Int),F k (s,(l.length:Int))=some s):Qbx F Q3 ([],0)=some (l.filter q):=by
 have hb:l.length<1000000000000:=hl;have:=Qiu (F:=F) (len:=l.length) (fun n (s:List Int)=>(s,(n:Int))) (fun n s=>s.length≤n) (fun n s=>some (s++(l.drop n).filter q)) (fun k n s hn hi ih=>by
  rw [step k n s hn hi,Qbb (by omega),ih _ (by split<;>(try simp)<;>omega),List.drop_eq_getElem_cons hn,List.filter_cons];cases q l[n]<;>simp) (fun k s _=>by rw [last k s];simp) Q3 0 [] (Nat.zero_le _) (by unfold Q3;omega) (Nat.le_refl _)
 simpa using this
theorem Q71 {onto w:List Int} (hs:onto.Pairwise (· < ·)) (ho:onto.length<big) (hw:w.length<big):Qkx w onto=some (obsW onto w):=by
 unfold Qkx Qda;have hb:w.length<1000000000000:=hw;refine (congrArg (fun w=>Option.bind w _) (Qbbg (l:=w) (fun e=>decide (e∈onto)) hw (fun k n s hn hi=>?_) (fun k s=>?_))).trans rfl
 ·dsimp only;rw [if_pos (by omega),Q1 hn,Option.bind_some,Qlo hs ho,Option.bind_some];cases decide (w[n]∈onto) with
  | true=>rw [if_pos rfl,if_pos rfl,Qb5 (by simp only [List.length_cons,List.length_nil];unfold lim;omega),Option.bind_some,Option.bind_some]
  | false=>rfl
 ·dsimp only;rw [if_neg (by omega)]
theorem Qblv {l:List Int} {v:Int} (hl:l.length<big):Qlm l v=some (decide (v∈l)):=Qbdw hl
theorem Q72 {onto w:List Int} (ho:onto.length<big) (hw:w.length<big):Qgk onto w=some (obsW onto w):=by
 unfold Qgk Qca;have hb:w.length<1000000000000:=hw;refine (congrArg (fun w=>Option.bind w _) (Qbbg (l:=w) (fun e=>decide (e∈onto)) hw (fun k n s hn hi=>?_) (fun k s=>?_))).trans rfl
 ·dsimp only;rw [if_pos (by omega),Q1 hn,Option.bind_some,Qblv ho,Option.bind_some];cases decide (w[n]∈onto) with
  | true=>rw [if_pos rfl,if_pos rfl,Option.bind_some,Qb5 (by simp only [List.length_cons,List.length_nil];unfold lim;omega),Option.bind_some,Option.bind_some]
  | false=>rfl
 ·dsimp only;rw [if_neg (by omega)]
theorem Qbbh {s t:List Int} (h:s.length<big):Qr8 s t=some (decide (s=t)):=by
 unfold Qr8 Qif;rw [show Qgb s t=some (decide (s=t)) from Qba6 h];rfl
def Q88 (p:Qj) (A B:Qa) (w:Qx):Bool :=
 decide (w.Event∈p.Controllable)&&(decide (obsW p.Observable w.Word=obsW p.Observable w.Other)&&(genP B (w.Word++[w.Event])&&(genP A w.Other&&(genP p.Plant (w.Other++[w.Event]) && !genP B (w.Other++[w.Event])))))
section
variable {p:Qj} (h:ProbW p) {A B m:Qa} {T U:List (List Int)} (hl:Qbjp p A B m T U)
include h hl
theorem Qbe6 {k:Nat} {t:List Int} (ht:T[k]? = some t) (y e:Int):Qdn (sysP p A m T) ⟨(k:Int),y⟩ e=some (decide (0≤Qcq p.Plant (ati t 0) e)&&decide (Qcq m y e<0)):=by
 unfold Qdn Qt sysP;dsimp only;have hk:k<(T.map fun t=>ati t 0).length:=by simpa using (List.getElem?_eq_some_iff.1 ht).1
 have hg:(T.map fun t=>ati t 0)[k]=ati t 0:=by
  have:=(List.getElem?_eq_some_iff.1 ht).2;simp [this]
 rw [Q1 hk,Option.bind_some,hg,Qsa h.pr,Option.bind_some];by_cases h1:0≤Qcq p.Plant (ati t 0) e
 ·rw [if_pos (by omega),Qsa hl.rm,Option.bind_some,decide_eq_true h1,Bool.true_and]
 ·rw [if_neg (by omega),decide_eq_false h1,Bool.false_and]
theorem Qbe7 {w:Qx} (hw:w.Word.length<1000) (ho:w.Other.length<1000):Qjf p w=some (Q88 p A B w,0):=by
 unfold Qjf Qeg;have hb:(1000:Nat)<big:=by unfold big;decide
 rw [Qbif h hl,Option.bind_some];dsimp only;rw [if_pos rfl,if_neg (by simp),Option.bind_some];have hst:=hl.hA.r.st;unfold Q88;by_cases h0:A.zF=0
 ·rw [show (sysP p A m T).empty_=true from by unfold sysP;simp [h0],if_pos rfl];have:genP A w.Other=false:=by rw [genE hl.hA.r,decide_eq_false (by omega:¬ 0<A.zF)];rfl
  rw [this];simp
 ·rw [show (sysP p A m T).empty_=false from by unfold sysP;simp [h0],if_neg (by simp)];have e1:(sysP p A m T).language_=edM m:=rfl;have e2:(sysP p A m T).ambient_=edM A:=rfl;have e3:(sysP p A m T).start_.language_=if m.zF==0 then -1 else 0:=rfl;have hTne:T≠[]:=by
   intro e;have:=hl.hA.st;rw [e] at this;exact h0 this
  have hz:=hl.eA.z hTne;rw [e1,e2,e3,Q0g hl.rm (by omega),Option.bind_some,Q0g hl.hA.r (by omega),Option.bind_some,Q0g hl.rm (by omega),Option.bind_some,Q5x (by have:=h.ce.len;omega),Option.bind_some];by_cases hc:w.Event∈p.Controllable
  ·rw [decide_eq_true hc,if_pos rfl,Bool.true_and];have gW:genP B (w.Word++[w.Event])=(decide (0≤runE m (if m.zF==0 then -1 else 0) w.Word)&&decide (0≤Qcq m (runE m (if m.zF==0 then -1 else 0) w.Word) w.Event)):=by
    rw [Bool.eq_iff_iff,← Q70 hl,Q34];simp only [runE,Bool.and_eq_true,decide_eq_true_eq];constructor
    ·intro q;refine ⟨?_,q⟩;rcases Qfs hl.rm (runE m (if m.zF==0 then -1 else 0) w.Word) w.Event with h1|h1
     ·omega
     ·exact h1.2.2.1
    ·exact fun q=>q.2
   have gO:genP B (w.Other++[w.Event])=decide (0≤Qcq m (runE m (if m.zF==0 then -1 else 0) w.Other) w.Event):=by
    rw [Bool.eq_iff_iff,← Q70 hl,Q34];simp only [runE,decide_eq_true_eq]
   have gA:genP A w.Other=decide (0≤runE A 0 w.Other):=by rw [genE hl.hA.r,decide_eq_true (by omega:0<A.zF),Bool.true_and]
   rw [gW,gO,gA];by_cases h1:0≤runE m (if m.zF==0 then -1 else 0) w.Word
   ·rw [decide_eq_true h1,Bool.true_and,if_neg (by omega)];by_cases h2:0≤runE A 0 w.Other
    ·rw [decide_eq_true h2,Bool.true_and,if_neg (by omega),Qsa hl.rm,Option.bind_some,Option.bind_some];obtain ⟨k,t,k1,k2,k3,k4⟩:=Qbbf h hl w.Other 0 _ hz h2;rw [show (((0:Nat):Int))=0 from rfl] at k1;have hat:ati (List.replicate [p.Plant,p.Ambient].length (0:Int)) 0=0:=rfl;rw [hat] at k3 k4;have hps:0<p.Plant.zF:=by
      have hin:=hl.hA.t _ (List.mem_of_getElem? hz);have:=hin.get 0 (by simp) (by simp);have h5:=this.2;simp at h5;exact h5
     have gP:genP p.Plant (w.Other++[w.Event])=decide (0≤Qcq p.Plant (ati t 0) w.Event):=by
      rw [genE h.pr,decide_eq_true hps,Bool.true_and,Q34,← k3]
      rfl
     rw [gP];by_cases h3:0≤Qcq m (runE m (if m.zF==0 then -1 else 0) w.Word) w.Event
     ·rw [decide_eq_true h3,Bool.true_and,decide_eq_false (by omega:¬ Qcq m (runE m (if m.zF==0 then -1 else 0) w.Word) w.Event<0),if_neg (by simp)];rw [Q71 h.oe.so (by have:=h.oe.len;omega) (by omega),Option.bind_some,Q71 h.oe.so (by have:=h.oe.len;omega) (by omega),Option.bind_some,Qbbh (by have:(obsW p.Observable w.Word).length≤w.Word.length:=List.length_filter_le _ _;omega),Option.bind_some];by_cases h4:obsW p.Observable w.Word=obsW p.Observable w.Other
      ·rw [decide_eq_true h4,if_pos rfl,k1,Qbe6 h hl k2,Option.bind_some,Bool.true_and];congr 2;congr 1;rw [Bool.eq_iff_iff];simp
      ·rw [decide_eq_false h4,if_neg (by simp),Bool.false_and]
     ·rw [decide_eq_false h3,decide_eq_true (by omega:Qcq m (runE m (if m.zF==0 then -1 else 0) w.Word) w.Event<0),if_pos rfl];simp
    ·rw [decide_eq_false h2,if_pos (by omega),Option.bind_some,if_pos rfl];simp
   ·rw [decide_eq_false h1,if_pos (by omega),Option.bind_some,if_pos rfl];simp
  ·rw [decide_eq_false hc,if_neg (by simp),Option.bind_some,if_pos rfl,Bool.false_and]
omit h hl in
theorem Qbbi {l:List Int} (hl:l.length<1000) (w:Qx):Qdw l w=some (l++[w.Event]):=by
 unfold Qdw Q0;rw [Qb5 (by simp only [List.length_nil];unfold lim;omega),Option.bind_some,Qb5 (by simp only [List.length_append,List.length_cons,List.length_nil];unfold lim;omega),Option.bind_some]
 rfl
end
theorem Qbeb {s:Qbv} (h:Qbh8 s) (w:Qx):Qfr s w=some true:=by
 unfold Qfr Qfn;have hb:(1000:Nat)<big:=by unfold big;decide
 rw [Qbew,Option.bind_some,if_pos rfl];by_cases h1:(w.Word.length:Int)>5
 ·rw [if_pos h1,Option.bind_some,if_pos rfl,Option.bind_some]
 ·rw [if_neg h1,Option.bind_some];by_cases h2:(w.Other.length:Int)>5
  ·rw [decide_eq_true h2,if_pos rfl,Option.bind_some]
  ·rw [decide_eq_false h2,if_neg (by simp)];obtain ⟨p,hp,hP⟩:=Qbia h;obtain ⟨A,B,m,T,U,hl⟩:=hP.lang;have hoe:=hP.oe.len;have lo:∀ x,(obsW p.Observable x).length≤x.length:=fun x=>List.length_filter_le _ _;have lW:=lo w.Word;rw [hp,Option.bind_some,Qbie hP hl.e2 hl.hA hl.e3,Option.bind_some];dsimp only;rw [Qbe7 hP hl (by omega) (by omega),Option.bind_some];dsimp only;rw [Qbje (by have:=hP.ce.len;omega),Option.bind_some,Q72 (by omega) (by omega),Option.bind_some,Q72 (by omega) (by omega),Option.bind_some,Qbjl (by unfold big at hb;omega),Option.bind_some,Qbbi (by omega),Qbbi (by omega),Option.bind_some,Qmz hl.hB.r (by simp;omega),Option.bind_some,Qmz hl.hA.r (by omega),Option.bind_some,Option.bind_some,Qmz hP.pr (by simp;omega),Option.bind_some,Option.bind_some,Qmz hl.hB.r (by simp;omega),Option.bind_some];unfold Q88;by_cases q1:w.Event∈p.Controllable
   ·by_cases q2:obsW p.Observable w.Word=obsW p.Observable w.Other
    ·cases q3:genP B (w.Word++[w.Event])<;>cases q4:genP A w.Other<;>cases q5:genP p.Plant (w.Other++[w.Event])<;>cases q6:genP B (w.Other++[w.Event])<;>simp [q1,q2]
    ·simp [q1,q2]
   ·simp [q1]
end Go.Abs
end
section
namespace Go.Abs
open Go Go.ChangeShapes Go.WideShapes Go.ChangeAt Go.RowKit
theorem Qbig {X:World→Array Value→Prop} (hX:∀ (w w' : World) (args:Array Value),w.heap=w'.heap→X w args→X w' args) {C:Checked} {f:FuncId} {fn:Func} {s:ChangeSpec} {conds:List PathCond} {bt:TypeId} {os:Os} {H:Type} {enc:TypeId×Value→H}
  (own:ownKnob C.prog.godebug=none) (started:os.Started) (noInit:C.prog.inits.idxOf? f=none) (hfn:C.prog.funcs[f]? = some fn)
  (witness:∃ (w:World) (tape:Tape) (i:Input),w.os=os∧(w.forCall tape i).Shaped C.prog∧i.vars=[]∧Input.okWide C.prog (w.forCall tape i) .any w.heap.size f i ∧
   ((s.pre enc C.prog fn conds false (w.forCall tape i).memory i.args∧X (w.forCall tape i).memory i.args)∧sizedMet enc C.prog fn (OpenSpec.ofChange s) false (w.forCall tape i).memory i.args)∧({}:Assume).holds C.prog (lone (Frame.enter C.prog f i.args .normal) [] (w.forCall tape i)))
  (hvars:s.vars=[]) (hres:fn.resultTypes = #[bt]) (hbt:C.prog.underlying bt=some .bool)
  (hl:laidOutB C.prog=true) (hread:∀ t∈fn.params.toList,C.prog.readableRec t=true∧t<C.prog.types.size)
  (hspec:∀ ds:List (DataW H),ds.length=fn.params.size→s.fn H ds={ results:=[.lit (.bool true)],args:=ds })
  (law:Qbmp C.prog f fn.params.toList) :
  ReturnsInHanded {} C os f .any (fun w args=>(s.pre enc C.prog fn conds false w args∧X w args)∧sizedMet enc C.prog fn (OpenSpec.ofChange s) false w args) (s.post enc C.prog fn false true false false):=by
 refine returnsInHanded_of_change_and hX own started noInit hfn witness ?_;intro W base args ds gs before hval hW hcnd _ _ _;have hW':=hW;obtain ⟨p,q,hA,hV,hps,hfz,hnd⟩:=hW;rw [hvars] at hV;obtain ⟨rfl,rfl⟩ : gs=[]∧q=[]:=by
  cases gs with
  | nil=>exact ⟨rfl,hV⟩
  | cons _ _=>exact hV.elim
 obtain ⟨vs,h1,h2,h3,h4⟩:=law (fun j t u ht hu=>hval j t u (by simpa using ht) (by simpa using hu)) hA;obtain ⟨hb,_,h5⟩:=h4 (fun _=>none) 0;have hlv:∀ b o,live W b o→b<W.heap.size:=by
  intro b o h;simp only [live] at h;obtain ⟨v,hv⟩:=Option.isSome_iff_exists.1 h;unfold World.cell? at hv;split at hv
  ·rename_i hh;exact (Array.getElem?_eq_some_iff.1 hh).1
  ·cases hv
 have hmr:MR ⟨fun _=>0,live W,fun _=>.ext⟩ W (fun _=>none) 0:=⟨fun k b h=>(by cases h),fun b o h=>⟨hlv b o h,fun k h=>by cases h⟩⟩;have h6:=h5 W ⟨fun _=>0,live W,fun _=>.ext⟩ args.toList hmr (fun k cs h=>by cases h) (RAs.of_flat h1) (ons_mono (fun k hk=>absurd hk (Nat.not_lt_zero k)) _ (ons_lt vs h3));refine Calls.mono h6 fun e W' ⟨v,g',he,_,hr,_,_,hf⟩=>?_;subst he;have hv:v = .bool true:=by simpa [RV,RD] using hr
 subst hv;have hbelow:Below W.heap.size W W':=⟨hf.os,hf.tape,hf.output,hf.size,fun k hk=>(hf.old k hk trivial).2.1⟩;have hrl:(Value.bool true).resultList fn.resultTypes.size=[.bool true]:=by rw [hres];rfl
 have hsp:s.fn H (ds++[])={ results:=[.lit (.bool true)],args:=ds }:=by
  rw [List.append_nil];exact hspec ds (by have:=(Q5t hA).1;simpa using this)
 have hlt:∀ p∈before,p.block<W.heap.size:=fun x hx=>hW'.lt x hx;have hst:∀ sp:Nat→Bool,(∀ p∈before,sp p.block=true)→DataW.TrodAll enc C.prog W' 0 sp true fn.params.toList args.toList ds before:=by
  intro sp hsp';have e:p=before:=by rw [hps,List.append_nil]
  subst e;exact Q1m hl hread hA (fun x hx=>hbelow.same (hlt x hx)) hsp'
 refine ⟨_,rfl,ds,[],before,[],before,[],hW',?_,?_,?_,World.keptBut_mono (fun p hp=>⟨hp,.inr (.inl hp)⟩) (hbelow.frame (· ∈ before)),fun h=>by cases h⟩
 ·rw [hsp,hrl,hres];exact ⟨[],[],⟨1,by simp [DataW.trod,Value.cells,hbt]⟩,rfl,rfl⟩
 ·rw [hsp];exact hst _ fun p hp=>by simpa using hlt p hp
 ·rw [hsp,hvars];rfl
end Go.Abs
end
