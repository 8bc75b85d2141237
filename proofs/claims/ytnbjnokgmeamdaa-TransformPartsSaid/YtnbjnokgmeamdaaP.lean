/- Part of the proof; it has the parts P. -/
import Derived.Test.YtnbjnokgmeamdaaVcS
import Derived.Test.YtnbjnokgmeamdaaProg
set_option maxRecDepth 100000
namespace Go.Proofs.Ytnbjnokgmeamdaa
open Go Go.Vc Go.Proofs

def Shp : Shapes := fun t =>
  if t = 2 then ⟨Int, .int .i64⟩ else
  if t = 3 then ⟨Int, .int .i64⟩ else
  if t = 4 then ⟨Bool, .bool⟩ else
  if t = 5 then ⟨Int, .int .u8⟩ else
  if t = 6 then ⟨Int, .int .u8⟩ else
  if t = 9 then ⟨ByteArray, .string⟩ else
  if t = 10 then ⟨ByteArray, .string⟩ else
  if t = 11 then ⟨ByteArray, .string⟩ else
  if t = 12 then ⟨Int, .int .u64⟩ else
  if t = 15 then ⟨Option Addr, .pointer⟩ else
  if t = 16 then ⟨Option Addr, .pointer⟩ else
  if t = 17 then ⟨Option Addr, .pointer⟩ else
  if t = 21 then ⟨Int, .int .i32⟩ else
  if t = 22 then ⟨Sl, Sl.v⟩ else
  if t = 23 then ⟨Int, .int .i64⟩ else
  if t = 26 then ⟨Sl, Sl.v⟩ else
  if t = 27 then ⟨Sl, Sl.v⟩ else
  if t = 29 then ⟨WhV, WhV.val⟩ else
  if t = 31 then ⟨NumV, NumV.val⟩ else
  if t = 37 then ⟨Sl, Sl.v⟩ else
  if t = 38 then ⟨Sl, Sl.v⟩ else
  if t = 40 then ⟨GridV, GridV.val⟩ else
  if t = 46 then ⟨Sl, Sl.v⟩ else
  if t = 50 then ⟨GateV, GateV.val⟩ else
  if t = 56 then ⟨Sl, Sl.v⟩ else
  if t = 65 then ⟨RatV, RatV.val⟩ else
  if t = 77 then ⟨Sl, Sl.v⟩ else
  if t = 79 then ⟨GridV, GridV.val⟩ else
  if t = 109 then ⟨Int, .int .u32⟩ else
  if t = 111 then ⟨Int, .int .u64⟩ else
  if t = 116 then ⟨Int, .int .u64⟩ else
  if t = 126 then ⟨Sl, Sl.v⟩ else
  if t = 130 then ⟨Option Addr, .pointer⟩ else
  if t = 137 then ⟨Int, .int .u8⟩ else
  if t = 138 then ⟨Int, .int .u8⟩ else
  if t = 140 then ⟨Option Addr, .pointer⟩ else
  if t = 141 then ⟨Int, .int .i32⟩ else
  if t = 142 then ⟨Int, .int .i32⟩ else
  if t = 151 then ⟨Nat, .float .f64⟩ else
  ⟨Value, fun v => v⟩

abbrev n_waveportlaw07_TransformParts : FuncId := 5
abbrev n_Num_Real : FuncId := 12
abbrev n_num_Int : FuncId := 14
abbrev n_Num_Same : FuncId := 15
abbrev n_waveportlaw07_awake : FuncId := 16
abbrev n_law1_List : FuncId := 19
abbrev n_waveportlaw07_repeated : FuncId := 20
abbrev n_transform_Rest : FuncId := 21
abbrev n_transform_Cut_num_Num_ : FuncId := 22
abbrev n_waveportlaw07_are : FuncId := 23
abbrev n_waveportlaw07_plus : FuncId := 24
abbrev n_transform_Touched_num_Num_ : FuncId := 25
abbrev n_transform_Fast_num_Num_ : FuncId := 28
abbrev n_law1_Of : FuncId := 31
abbrev n_transform_Exact : FuncId := 33
abbrev n_Num_Mul : FuncId := 37
abbrev n_num_New : FuncId := 47
abbrev n_Num_Sub : FuncId := 48
abbrev n_whole_scaled : FuncId := 49
abbrev n_Num_den : FuncId := 50
abbrev n_whole_cmp : FuncId := 51
abbrev n_num_of64 : FuncId := 52
abbrev n_nat_cmp : FuncId := 53
abbrev n_Num_Text : FuncId := 54
abbrev n_waveportlaw07_small : FuncId := 56
abbrev n_transform_valid : FuncId := 57
abbrev n_transform_within : FuncId := 58
abbrev n_transform_of_num_Num_ : FuncId := 59
abbrev n_Num_Add : FuncId := 60
abbrev n_transform_Touched_num_Num__1 : FuncId := 61
abbrev n_transform_fits_num_Num_ : FuncId := 62
abbrev n_transform_stage_num_Num_ : FuncId := 63
abbrev n_transform_length : FuncId := 66
abbrev n_Num_Neg : FuncId := 67
abbrev n_whole_times : FuncId := 68
abbrev n_whole_plus : FuncId := 69
abbrev n_whole_minus : FuncId := 70
abbrev n_num_over : FuncId := 71
abbrev n_nat_mul : FuncId := 72
abbrev n_num_wholeOf : FuncId := 77
abbrev n_num_natOf : FuncId := 78
abbrev n_num_part : FuncId := 79
abbrev n_transform_every_num_Num_ : FuncId := 80
abbrev n_nat_add : FuncId := 81
abbrev n_nat_sub : FuncId := 82
abbrev n_nat_gcd : FuncId := 83
abbrev n_nat_one : FuncId := 84
abbrev n_nat_div : FuncId := 85
abbrev n_num_trim : FuncId := 86
abbrev n_nat_digits : FuncId := 91
abbrev n_bits_Add32 : FuncId := 92
abbrev n_bits_Sub32 : FuncId := 93
abbrev n_nat_short : FuncId := 94
abbrev n_bits_LeadingZeros32 : FuncId := 95
abbrev n_nat_shl : FuncId := 96
abbrev n_num_take : FuncId := 97
abbrev n_nat_shr : FuncId := 98
abbrev n_slices_Reverse___byte_byte_ : FuncId := 99
abbrev n_bits_Div32 : FuncId := 100
abbrev n_bits_Len32 : FuncId := 101
abbrev n_Num_Of : FuncId := 120
abbrev T_u8 : TypeId := 5
abbrev T_u32 : TypeId := 109
abbrev TN_num_Num : TypeId := 31
abbrev TN_api_Gate : TypeId := 50
theorem hmixed : Try.prog.follows .mixedOrders = true := by kernel_rfl

end Go.Proofs.Ytnbjnokgmeamdaa
